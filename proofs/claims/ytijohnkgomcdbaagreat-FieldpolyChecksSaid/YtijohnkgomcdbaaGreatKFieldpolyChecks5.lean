/- Part of the proof of the statement FieldpolyChecks: lemmas on the model's steps, Lean functions that say what the program's functions compute, and proofs that the calls do just that. No hypothesis is added. -/
import Derived.Test.YtijohnkgomcdbaaGreatKFieldpolyChecks4
set_option linter.all false
set_option maxRecDepth 100000
namespace Go.Proofs.YtijohnkgomcdbaaGreatV
open Go Go.RowKit YtijohnkgomcdbaaGreat YtijohnkgomcdbaaGreatE YtijohnkgomcdbaaGreatW.PrintWords YtijohnkgomcdbaaGreatW.PrintLast YtijohnkgomcdbaaGreatW.PrintMore
noncomputable abbrev A6x (k:Nat) (x0:(List (List TQ))):Option A8w:=C5d x0
noncomputable abbrev A5A (k:Nat) (x0:((List (List TQ))×Unit)):Option A9m:=C7p (M7 k) (A6x k) x0
noncomputable def A4H:Nat→(List TQ)→((List (List TQ))×(List (List TQ)))→Option R31
 |0,_,_=>none
 |k+1,x3,x9=>C2C (A4H k) (K8 k) (A0U k) (A5Y k) (A5A k) x3 x9
noncomputable abbrev A6z (k:Nat) (x0:(List TQ)) (x1:(List (List TQ))) (x2:(List (List TQ))):Option R31:=B31 (A4H k) (J2 k) x0 x1 x2
noncomputable abbrev A5E (k:Nat) (x0:(List (List TQ))) (x1:Int):Option A8Y:=B9S x0 x1
noncomputable def A3a:Nat→(List (List TQ))→(List (List TQ))→Int→Int→(List (List TQ))→Option A2M
 |0,_,_,_,_,_=>none
 |k+1,x0,x1,x14,x15,x5=>C2H (A3a k) (K6 k) (E3 k) (A5E k) x0 x1 x14 x15 x5
noncomputable abbrev A5X (k:Nat) (x0:(List (List TQ))) (x1:(List (List TQ))):Option A2M:=C6u (A3a k) x0 x1
mutual
noncomputable def A2Q:Nat→(List (List TQ))→(List (List TQ))→Int→Int→(List TQ)→(List (List TQ))→Option T6
 |0,_,_,_,_,_,_=>none
 |k+1,x2,x28,x29,x30,x3,x7=>B8z (A1f k) (A1W k) x2 x28 x29 x30 x3 x7
noncomputable def A1f:Nat→(List (List TQ))→Int→(List TQ)→(List (List TQ))→Int→Int→(List (List TQ))→Int→Int→(List TQ)→(List (List TQ))→Option T6
 |0,_,_,_,_,_,_,_,_,_,_,_=>none
 |k+1,x2,x8,x9,x28,x29,x30,x35,x36,x37,x3,x7=>C2z (A2Q k) (A1f k) (K6 k) (L7 k) x2 x8 x9 x28 x29 x30 x35 x36 x37 x3 x7
noncomputable def A1W:Nat→Int→Int→(List TQ)→(List (List TQ))→Option T6
 |0,_,_,_,_=>none
 |k+1,x60,x61,x3,x7=>C6R (A1W k) (E3 k) (R2 k) x60 x61 x3 x7
end
noncomputable abbrev A4U (k:Nat) (x0:(List TQ)) (x1:(List (List TQ))) (x2:(List (List TQ))):Option T6:=C0P (A2Q k) x0 x1 x2
noncomputable def A3w:Nat→(List (List TQ))→(List TQ)→(List (List TQ))→(List (List TQ))→Int→Option A0w
 |0,_,_,_,_,_=>none
 |k+1,x1,x2,x4,x5,x6=>B8W (A3w k) (E3 k) (A5X k) (A4U k) x1 x2 x4 x5 x6
noncomputable abbrev A7C (k:Nat) (x0:(List TQ)) (x1:(List (List TQ))) (x2:(List TQ)):Option A0w:=C7D (A3w k) (K8 k) (E3 k) x0 x1 x2
noncomputable abbrev A7H (k:Nat) (x0:((List TQ)×(List (List TQ))×(List TQ)×Unit)):Option A8L:=C6V (M7 k) (A7C k) x0
noncomputable abbrev A6w (k:Nat) (x0:(List TQ)) (x1:(List (List TQ))) (x2:(List TQ)):Option R50:=B50 (J2 k) (A7H k) (c7 k) x0 x1 x2
noncomputable abbrev A2v (k:Nat):Option R16:=B16 (A7Z k) (d9 k) (A7L k) (A6Q k) (S4 k) (A6z k) (A6w k)
noncomputable def z8:Nat→(List Int)→Int→Int→Option R34
 |0,_,_,_=>none
 |k+1,x5,x6,x7=>A6c (z8 k) x5 x6 x7
noncomputable abbrev A2e (k:Nat) (x0:(List Int)):Option R34:=B34 (z8 k) x0
noncomputable def w8:Nat→(List TQ)→Int→Int→Option A1H
 |0,_,_,_=>none
 |k+1,x6,x7,x8=>A5p (w8 k) (J9 k) x6 x7 x8
noncomputable abbrev A0t (k:Nat) (x0:(List TQ)):Option A1H:=B3K (w8 k) x0
noncomputable def A0P:Nat→(List (List TQ))→Int→Int→Option v9
 |0,_,_,_=>none
 |k+1,x9,x10,x11=>A7X (A0P k) (A0t k) x9 x10 x11
noncomputable abbrev W0 (k:Nat) (x0:(List (List TQ))):Option v9:=B44 (A0P k) x0
noncomputable abbrev A2f (k:Nat) (x0:TI):Option A7u:=A9I x0
noncomputable abbrev A0j (k:Nat) (x0:Bool) (x1:ByteArray):Option A5J:=All.galoisref02_Make.f x0 x1
noncomputable abbrev A7W (k:Nat) (x0:ByteArray) (x1:ByteArray):Option f8:=All.galoisref01_Mul.f k x0 x1
noncomputable abbrev a8 (k:Nat) (x0:TI) (x1:TI):Option A5H:=All.galoisref02_Mul.f k x0.1 x0.2 x1.1 x1.2
noncomputable abbrev b6 (k:Nat) (x0:TQ):Option A5M:=A7D x0
noncomputable abbrev A2O (k:Nat) (x0:TI) (x1:TI):Option A7o:=B6E (U7 k) (A0j k) (j6 k) x0 x1
noncomputable abbrev X2 (k:Nat) (x0:TQ) (x1:TQ):Option A7q:=A9z (A2f k) (a8 k) (b6 k) (A2O k) x0 x1
noncomputable def q8:Nat→(List TQ)→Int→Int→TQ→(List TQ)→Option R98
 |0,_,_,_,_,_=>none
 |k+1,x8,x9,x10,x3,x5=>A6Y (q8 k) (S6 k) (X2 k) x8 x9 x10 x3 x5
noncomputable abbrev A0l (k:Nat) (x0:(List TQ)) (x1:TQ):Option R98:=B98 (q8 k) x0 x1
noncomputable def l9:Nat→(List (List TQ))→Int→Option A2J
 |0,_,_=>none
 |k+1,x0,x3=>A6t (l9 k) x0 x3
noncomputable abbrev A0n (k:Nat) (x0:(List (List TQ))):Option A2J:=B2l (l9 k) x0
noncomputable def b9:Nat→(List (List TQ))→Int→(List (List TQ))→Option R74
 |0,_,_,_=>none
 |k+1,x0,x4,x3=>A3u (b9 k) (J7 k) (A0l k) (A0n k) x0 x4 x3
noncomputable abbrev A4S (k:Nat) (x0:(List (List TQ))):Option R74:=B74 (b9 k) x0
noncomputable abbrev A3N (k:Nat) (x0:(List (List TQ))):Option R73:=B73 (A4S k) x0
noncomputable abbrev A2a (k:Nat) (x0:(List (List TQ))) (x1:Int) (x2:Int) (x3:((List (List TQ))×Unit)):Option A9t:=A6E (S4 k) (W0 k) (A3N k) x0 x1 x2 x3
noncomputable abbrev A1M (k:Nat) (x0:TQ):Option R95:=B95 (S6 k) x0
noncomputable def A0I:Nat→(List TQ)→Int→Int→(List (List TQ))→Option R76
 |0,_,_,_,_=>none
 |k+1,x6,x7,x8,x3=>A7K (A0I k) (A1M k) x6 x7 x8 x3
noncomputable abbrev j5 (k:Nat) (x0:(List TQ)):Option R76:=B76 (A0I k) x0
noncomputable abbrev A2h (k:Nat) (x0:(List TQ)):Option R75:=B75 (j5 k) x0
noncomputable abbrev A1N (k:Nat) (x0:(List (List TQ))) (x1:Int) (x2:Int) (x3:((List TQ)×Unit)):Option A9X:=A5i (S4 k) (W0 k) (A2h k) x0 x1 x2 x3
noncomputable def l8:Nat→(List TQ)→Int→Int→(List (List TQ))→Option A1w
 |0,_,_,_,_=>none
 |k+1,x8,x9,x10,x2=>A6o (l8 k) (D8 k) (E3 k) x8 x9 x10 x2
noncomputable abbrev A4z (k:Nat) (x0:(List TQ)):Option A1w:=B3F (l8 k) x0
noncomputable abbrev A1C (k:Nat) (x0:((List TQ)×Unit)):Option A9i:=B9N (M7 k) (A4z k) x0
noncomputable abbrev A0e (k:Nat) (x0:(List TQ)) (x1:(List TQ)):Option R46:=B46 (A1C k) (P6 k) (R8 k) x0 x1
noncomputable def c8:Nat→(List (List TQ))→Int→(List (List TQ))→Option A0v
 |0,_,_,_=>none
 |k+1,x0,x3,x2=>A4J (c8 k) (D7 k) (E3 k) (V7 k) x0 x3 x2
noncomputable abbrev A4Z (k:Nat) (x0:(List (List TQ))):Option A0v:=B2c (c8 k) x0
noncomputable abbrev A3K (k:Nat) (x0:((List (List TQ))×Unit)):Option B0j:=C8Q (M7 k) (A4Z k) x0
noncomputable abbrev A1g (k:Nat) (x0:(List TQ)) (x1:(List (List TQ))):Option R71:=B71 (J2 k) (A3K k) x0 x1
noncomputable abbrev A3x (k:Nat) (x0:(List TQ)) (x1:(List (List TQ))):Option R72:=B72 (P6 k) (Z4 k) x0 x1
noncomputable abbrev A3j (k:Nat) (x0:TI) (x1:TI):Option A7z:=All.exact_IntCmp.f k x0.1 x0.2 x1.1 x1.2
noncomputable abbrev b7 (k:Nat) (x0:TQ) (x1:TQ):Option A8m:=B2j (O1 k) (I1 k) (A3j k) x0 x1
noncomputable def v7:Nat→(List TQ)→(List TQ)→Int→Int→Option A1s
 |0,_,_,_,_=>none
 |k+1,x0,x1,x20,x21=>A7j (v7 k) (b7 k) x0 x1 x20 x21
noncomputable abbrev A1x (k:Nat) (x0:(List TQ)) (x1:(List TQ)):Option A1s:=B2o (v7 k) x0 x1
noncomputable def n9:Nat→(List (List TQ))→(List (List TQ))→Int→Int→Option R77
 |0,_,_,_,_=>none
 |k+1,x0,x1,x20,x21=>A6K (n9 k) (A1x k) x0 x1 x20 x21
noncomputable abbrev A4C (k:Nat) (x0:(List (List TQ))) (x1:(List (List TQ))):Option R77:=B77 (n9 k) x0 x1
noncomputable abbrev A5q (k:Nat) (x0:ByteArray) (x1:ByteArray):Option A8b:=All.galoisref01_Compare.f k x0 x1
noncomputable abbrev A5C (k:Nat) (x0:TI) (x1:TI):Option A9o:=All.galoisref02_Compare.f k x0.1 x0.2 x1.1 x1.2
noncomputable abbrev A0L (k:Nat) (x0:TQ) (x1:TQ):Option A9N:=B7D (a8 k) (b6 k) (A5C k) x0 x1
noncomputable def s7:Nat→(List TQ)→(List TQ)→Int→Int→Option A2S
 |0,_,_,_,_=>none
 |k+1,x0,x1,x18,x19=>A7U (s7 k) (A0L k) x0 x1 x18 x19
noncomputable abbrev A1J (k:Nat) (x0:(List TQ)) (x1:(List TQ)):Option A2S:=B2Z (s7 k) x0 x1
noncomputable def t9:Nat→(List (List TQ))→(List (List TQ))→Int→Int→Option R78
 |0,_,_,_,_=>none
 |k+1,x0,x1,x18,x19=>A6R (t9 k) (A1J k) x0 x1 x18 x19
noncomputable abbrev A3k (k:Nat) (x0:(List (List TQ))) (x1:(List (List TQ))):Option R78:=B78 (t9 k) x0 x1
end Go.Proofs.YtijohnkgomcdbaaGreatV
set_option maxRecDepth 100000
namespace Go.Proofs.YtijohnkgomcdbaaGreatV
open Go Go.RowKit YtijohnkgomcdbaaGreat YtijohnkgomcdbaaGreatE YtijohnkgomcdbaaGreatN YtijohnkgomcdbaaGreat.All YtijohnkgomcdbaaGreatW.PrintWords YtijohnkgomcdbaaGreatW.PrintLast YtijohnkgomcdbaaGreatW.PrintMore
abbrev Ya:= @F1
abbrev Yb:= @i8
abbrev Yc:= @F9
abbrev Yd:= @if_true
abbrev Ye:= @if_false
abbrev Yf:= @ne_eq
abbrev Yg:= @not_true_eq_false
abbrev Yh:= @not_false_eq_true
abbrev Yi:= @Bool.not_true
abbrev Yj:= @Bool.not_false
abbrev Yk:= @Bool.false_eq_true
abbrev Yl:= @Bool.not_eq_true'
abbrev Ym:= @H2
abbrev Yn:= @ite_not
abbrev Yo:= @eq_self
abbrev Yp:= @Bool.and_eq_true
abbrev Yq:= @Bool.or_eq_true
abbrev Yr:= @H1
abbrev Ys:= @H0
abbrev Yt:= @and_self
abbrev Yu:= @decide_true
abbrev Yv:= @decide_false
abbrev Yw:= @Bool.true_and
abbrev Yx:= @Bool.and_true
abbrev Yy:= @beq_self_eq_true
abbrev Yz:= @decide_eq_true_eq
abbrev YA:= @gt_iff_lt
abbrev YB:= @ge_iff_le
abbrev YC:= @Int.neg_eq_zero
theorem K7 {α:Type _} {f:Nat→Option α} {a:α} {Q:Nat→Prop}:Ev f a→(∃K,∀k,K≤k→Q k)→∃K,∀k,K≤k→f k=some a∧Q k:=fun⟨K,h⟩ ⟨L,g⟩=>⟨K+L,fun k hk=>⟨h k (by omega),g k (by omega)⟩⟩
theorem N1 {α:Type _} {f:Nat→Option α} {a:α} {Q:Nat→Prop}:(∃K,∀k,K≤k→Q k)→(∀k,Q k→f k=some a)→Ev f a:=fun⟨K,h⟩ g=>⟨K,fun k hk=>g k (h k hk)⟩
def fr (q:Rat):TI×ByteArray:=((ng q.num,ab q.num),B4 q.den)
theorem B4W:B4 1=⟨#[1]⟩:=by decide +kernel
theorem E5a:B4 0=⟨#[]⟩:=by decide +kernel
theorem D7X {a b:ByteArray}:a.toList=b.toList↔a=b:=by
 constructor
 ·intro h
  rw [ByteArray.toList_eq,ByteArray.toList_eq]at h
  cases a;cases b
  simp only [ByteArray.mk.injEq]
  exact Array.toList_inj.1 h
 ·intro h;rw [h]
theorem B4G (m n:Nat):((B4 m).toList==(B4 n).toList)=decide (m=n):=by
 rw [Bool.eq_iff_iff,beq_iff_eq,decide_eq_true_eq,D7X,C4k]
theorem o7 (m:Nat):((B4 m).toList==(⟨#[1]⟩:ByteArray).toList)=decide (m=1):=by rw [←B4W,B4G]
theorem A7y (m:Nat):((B4 m).toList==(⟨#[]⟩:ByteArray).toList)=decide (m=0):=by rw [←E5a,B4G]
theorem C4u (x:Int):((ab x).toList==(⟨#[]⟩:ByteArray).toList)=decide (x=0):=by
 unfold ab;rw [A7y,Bool.eq_iff_iff,decide_eq_true_eq,decide_eq_true_eq];omega
theorem C3t (x y:Int):(!(ng x==ng y))=(ng x !=ng y):=rfl
theorem C2B (m n:Nat):(B4 (m/n)).size≤(B4 m).size:=A5m (Nat.div_le_self m n)
theorem E1Q {n d:Int} {g:Nat} (h0:d≠0) (hg:g∣n.natAbs) (g0:g≠0):sg (ng n !=ng d) (n.natAbs/g)=d.sign*n/g:=by
 obtain⟨c,hc⟩:=hg
 have e:n.natAbs/g=c:=by rw [hc];exact Nat.mul_div_cancel_left _ (Nat.pos_of_ne_zero g0)
 rw [e]
 have g1:(g:Int)≠0:=by omega
 have key:∀z:Int,z=g*c→z/g=(c:Int):=fun z hz=>by rw [hz];exact Int.mul_ediv_cancel_left _ g1
 have keyn:∀z:Int,z= -(g*c:Int)→z/g= -(c:Int):=fun z hz=>by
  rw [hz,←Int.mul_neg];exact Int.mul_ediv_cancel_left _ g1
 have hcast:((n.natAbs:Nat):Int)=(g:Int)*(c:Int):=by rw [hc];exact Int.natCast_mul _ _
 rcases Int.lt_or_gt_of_ne h0 with hd|hd
 ·rw [A7l hd,Int.sign_eq_neg_one_of_neg hd]
  by_cases hn:n<0
  ·rw [A7l hn];exact(key _ (by omega)).symm
  ·rw [A5h (by omega)];exact(keyn _ (by omega)).symm
 ·rw [A5h (show 0≤d by omega),Int.sign_eq_one_of_pos hd]
  by_cases hn:n<0
  ·rw [A7l hn];exact(keyn _ (by omega)).symm
  ·rw [A5h (by omega)];exact(key _ (by omega)).symm
theorem C1F {n d:Int} (h0:d≠0):Nat.gcd n.natAbs d.natAbs≠0:=by
 intro h
 have:=(Nat.gcd_eq_zero_iff.1 h).2
 omega
theorem B5h {n d:Int} (h0:d≠0):((ng (sg (ng n !=ng d) (n.natAbs/Nat.gcd n.natAbs d.natAbs)),ab (sg (ng n !=ng d) (n.natAbs/Nat.gcd n.natAbs d.natAbs))),B4 (d.natAbs/Nat.gcd n.natAbs d.natAbs))=fr (Rat.divInt n d):=by
 have e:Int.gcd d n=Nat.gcd n.natAbs d.natAbs:=Nat.gcd_comm _ _
 unfold fr
 rw [Rat.num_divInt,Rat.den_divInt,if_neg h0,e,E1Q h0 (Nat.gcd_dvd_left _ _) (C1F h0)]
theorem D7v {n d:Int} (h0:d≠0) (h:Nat.gcd n.natAbs d.natAbs=1):((ng (sg (ng n !=ng d) n.natAbs),ab (sg (ng n !=ng d) n.natAbs)),ab d)=fr (Rat.divInt n d):=by
 rw [show ab d=B4 d.natAbs from rfl,←B5h h0,h,Nat.div_one,Nat.div_one]
theorem E9x {n d:Int} (hn:(ab n).size≤1099511627776) (hd:(ab d).size≤1099511627776) (h0:d≠0):Ev (fun k=>Y3 k (ng n,ab n) (ng d,ab d)) (fr (Rat.divInt n d)):=by
 have h1:=D1H (m:=n.natAbs) (n:=d.natAbs) hn hd
 have hg:=Nat.pos_of_ne_zero (C1F (n:=n) h0)
 have sg_:(B4 (Nat.gcd n.natAbs d.natAbs)).size≤1099511627776:=Nat.le_trans (A5m (Nat.le_of_dvd (by omega) (Nat.gcd_dvd_right _ _))) hd
 have h2:=D1y (m:=n.natAbs) hn sg_ hg
 have h3:=D1y (m:=d.natAbs) hd sg_ hg
 have f1:=A8I (ng n !=ng d) (n.natAbs/Nat.gcd n.natAbs d.natAbs)
 have f2:=A8I (ng n !=ng d) n.natAbs
 have f3:=B5h (n:=n) h0
 by_cases hc:Nat.gcd n.natAbs d.natAbs=1
 ·have f4:=D7v h0 hc
  rw [←f4]
  rw [hc]at h1
  have h1':Ev (fun k=>exact_NatGcd.f k (ab n) (ab d)) (B4 1):=h1
  have f2':exact_IntMake.f (ng n !=ng d) (ab n)=_:=f2
  refine N1 h1' ?_
  rintro k h1'
  try dsimp only [fr]at h1'
  show Y3 _ _ _=_
  unfold Y3 B1J
  simp only [fr,I1,R5,A4B,Ya,Yb,Yc,Yd,Ye,Yf,Yg,Yh,Yi,Yj,Yk,Int.reduceEq,reduceCtorEq,Yl,Ym,Yn,Yo,Yp,Yq,Yr,Ys,Yt,Yu,Yv,Yw,Yx,Yy,Yz,YA,YB,YC,h1',o7,C3t,f2']
 ·rw [←f3]
  have h1':Ev (fun k=>exact_NatGcd.f k (ab n) (ab d)) (B4 (Nat.gcd n.natAbs d.natAbs)):=h1
  have h2':Ev (fun k=>exact_NatDivMod.f k (ab n) (B4 (Nat.gcd n.natAbs d.natAbs))) _:=h2
  have h3':Ev (fun k=>exact_NatDivMod.f k (ab d) (B4 (Nat.gcd n.natAbs d.natAbs))) _:=h3
  refine N1 (K7 h1' (K7 h2' h3')) ?_
  rintro k ⟨h1',h2',h3'⟩
  try dsimp only [fr]at h1' h2' h3'
  show Y3 _ _ _=_
  unfold Y3 B1J
  simp only [fr,I1,R5,A4B,Ya,Yb,Yc,Yd,Ye,Yf,Yg,Yh,Yi,Yj,Yk,Int.reduceEq,reduceCtorEq,Yl,Ym,Yn,Yo,Yp,Yq,Yr,Ys,Yt,Yu,Yv,Yw,Yx,Yy,Yz,YA,YB,YC,h1',h2',h3',o7,C3t,f1,hc]
theorem D9y {n:Int} {d:Nat} (hn:(ab n).size≤1099511627776) (hd:(B4 d).size≤1099511627776) (h0:d≠0):Ev (fun k=>Y3 k (ng n,ab n) (false,B4 d)) (fr (mkRat n d)):=by
 have h:=E9x (d:=(d:Int)) hn (by rw [A1v];exact hd) (by omega)
 rwa [B2P,A1v,Rat.divInt_ofNat]at h
def Sm (n:Nat) (q:Rat):Prop:=(ab q.num).size≤n∧(B4 q.den).size≤n
theorem D7T {x y:Int} {n:Nat} (hx:(ab x).size≤n) (hy:(ab y).size≤n):(ab (x+y)).size≤n+1:=by
 unfold ab at*
 rw [A6F]at*
 have:=Int.natAbs_add_le x y
 rw [Nat.pow_succ]
 omega
theorem E0K {x:Int}:(ab (-x)).size=(ab x).size:=by unfold ab;rw [Int.natAbs_neg]
theorem B1v {x y:Nat} {m n:Nat} (hx:(B4 x).size≤m) (hy:(B4 y).size≤n):(B4 (x*y)).size≤m+n:=by
 rw [A6F]at*
 rw [Nat.pow_add]
 exact Nat.mul_lt_mul'' hx hy
theorem B1t {x y:Int} {m n:Nat} (hx:(ab x).size≤m) (hy:(ab y).size≤n):(ab (x*y)).size≤m+n:=by
 unfold ab at*
 rw [Int.natAbs_mul]
 exact B1v hx hy
theorem E1I (x:Int) (d:Nat):sg (ng x) (x.natAbs*d)=x*d:=by
 have h:=F1n x
 unfold sg at*
 cases hs:ng x with
 |true=>rw [hs]at h;simp only [if_true]at h⊢;rw [Int.natCast_mul,←Int.neg_mul,h]
 |false=>rw [hs]at h;simp only [Bool.false_eq_true,if_false]at h⊢;rw [Int.natCast_mul,h]
section
variable {a b:Rat}
theorem C6s (n:Int):fr (n:Rat)=((ng n,ab n),B4 1):=rfl
theorem D2f (h:a.den=1) (h2:b.den=1):((ng (a.num*b.num),ab (a.num*b.num)),(⟨#[1]⟩:ByteArray))=fr (a*b):=by
 have e:a*b=((a.num*b.num:Int):Rat):=by
  rw [Rat.mul_def',h,h2]
  have h3:=Rat.mkRat_self ((a.num*b.num:Int):Rat)
  have h4:mkRat (a.num*b.num) 1=((a.num*b.num:Int):Rat):=h3
  rw [←h4]
 rw [e,C6s,B4W]
end
section
variable {a b:Rat}
theorem Sm.neg {n:Nat} (h:Sm n a):Sm n (-a):=⟨by rw [Rat.neg_num,E0K];exact h.1,h.2⟩
theorem E7V (ha:Sm 10000 a) (hb:Sm 10000 b):Ev (fun k=>F3 k (fr a) (fr b)) (fr (a*b)):=by
 have h1:=F2a (Nat.le_trans ha.1 (by decide)) (Nat.le_trans hb.1 (by decide))
 have h2:=B7S (m:=a.den) (n:=b.den) (Nat.le_trans ha.2 (by decide)) (Nat.le_trans hb.2 (by decide))
 have h3:=D9y (n:=a.num*b.num) (d:=a.den*b.den) (Nat.le_trans (B1t ha.1 hb.1) (by decide)) (Nat.le_trans (B1v ha.2 hb.2) (by decide)) (Nat.mul_ne_zero a.den_nz b.den_nz)
 rw [←Rat.mul_def']at h3
 by_cases h1d:a.den=1
 ·by_cases h2d:b.den=1
  ·rw [←D2f h1d h2d]
   refine N1 h1 ?_
   rintro k h1
   try dsimp only [fr]at h1
   show F3 _ _ _=_
   unfold F3 B0w
   simp only [fr,T2,A7S,A2g,O1,Ya,Yb,Yc,Yd,Ye,Yf,Yg,Yh,Yi,Yj,Yk,Int.reduceEq,reduceCtorEq,Yl,Ym,Yn,Yo,Yp,Yq,Yr,Ys,Yt,Yu,Yv,Yw,Yx,Yy,Yz,YA,YB,YC,h1,o7,h1d,h2d]
  ·refine N1 (K7 h1 (K7 h2 h3)) ?_
   rintro k ⟨h1,h2,h3⟩
   try dsimp only [fr]at h1 h2 h3
   show F3 _ _ _=_
   unfold F3 B0w
   simp only [fr,T2,A7S,A2g,O1,Ya,Yb,Yc,Yd,Ye,Yf,Yg,Yh,Yi,Yj,Yk,Int.reduceEq,reduceCtorEq,Yl,Ym,Yn,Yo,Yp,Yq,Yr,Ys,Yt,Yu,Yv,Yw,Yx,Yy,Yz,YA,YB,YC,h1,h2,h3,o7,h2d,ite_self]
 ·refine N1 (K7 h1 (K7 h2 h3)) ?_
  rintro k ⟨h1,h2,h3⟩
  try dsimp only [fr]at h1 h2 h3
  show F3 _ _ _=_
  unfold F3 B0w
  simp only [fr,T2,A7S,A2g,O1,Ya,Yb,Yc,Yd,Ye,Yf,Yg,Yh,Yi,Yj,Yk,Int.reduceEq,reduceCtorEq,Yl,Ym,Yn,Yo,Yp,Yq,Yr,Ys,Yt,Yu,Yv,Yw,Yx,Yy,Yz,YA,YB,YC,h1,h2,h3,o7,h1d]
def A3E (a b:Rat):Int:=V4 (a.num*b.den) (b.num*a.den)
theorem E3R (h:a.den=b.den):V4 a.num b.num=A3E a b:=by
 unfold A3E V4
 rw [h]
 have hp:(0:Int)<b.den:=by have:=b.den_pos;omega
 have e1:a.num*(b.den:Int)<b.num*b.den↔a.num<b.num:=Int.mul_lt_mul_right hp
 have e2:a.num*(b.den:Int)=b.num*b.den↔a.num=b.num:=Int.mul_eq_mul_right_iff (by omega)
 simp only [e1,e2]
theorem E5t (ha:Sm 10000 a) (hb:Sm 10000 b):Ev (fun k=>b7 k (fr a) (fr b)) (A3E a b):=by
 by_cases hd:a.den=b.den
 ·have h1:=D3I a.num b.num
  rw [←E3R hd]
  refine N1 h1 ?_
  rintro k h1
  try dsimp only [fr]at h1
  show b7 _ _ _=_
  unfold b7 B2j
  simp only [fr,O1,I1,A3j,Ya,Yb,Yc,Yd,Ye,Yf,Yg,Yh,Yi,Yj,Yk,Int.reduceEq,reduceCtorEq,Yl,Ym,Yn,Yo,Yp,Yq,Yr,Ys,Yt,Yu,Yv,Yw,Yx,Yy,Yz,YA,YB,YC,h1,B4G,hd]
 ·have h3:=B7S (m:=a.num.natAbs) (n:=b.den) (Nat.le_trans ha.1 (by decide)) (Nat.le_trans hb.2 (by decide))
  have h4:=B7S (m:=b.num.natAbs) (n:=a.den) (Nat.le_trans hb.1 (by decide)) (Nat.le_trans ha.2 (by decide))
  have f1:=A8I (ng a.num) (a.num.natAbs*b.den)
  have f2:=A8I (ng b.num) (b.num.natAbs*a.den)
  rw [E1I]at f1 f2
  have h5:=D3I (a.num*b.den) (b.num*a.den)
  have h3':Ev (fun k=>exact_NatMul.f k (ab a.num) (B4 b.den)) _:=h3
  have h4':Ev (fun k=>exact_NatMul.f k (ab b.num) (B4 a.den)) _:=h4
  unfold A3E
  refine N1 (K7 h3' (K7 h4' h5)) ?_
  rintro k ⟨h3',h4',h5⟩
  try dsimp only [fr]at h3' h4' h5
  show b7 _ _ _=_
  unfold b7 B2j
  simp only [fr,O1,I1,A3j,Ya,Yb,Yc,Yd,Ye,Yf,Yg,Yh,Yi,Yj,Yk,Int.reduceEq,reduceCtorEq,Yl,Ym,Yn,Yo,Yp,Yq,Yr,Ys,Yt,Yu,Yv,Yw,Yx,Yy,Yz,YA,YB,YC,h3',h4',h5,B4G,hd,f1,f2]
end
abbrev FV:=TI×ByteArray
def Q6 (x:FV):Int:=if J8 x.1.1 x.1.2=1∨G4 x.2=1∨x.2.size=0 then 1 else if J8 x.1.1 x.1.2≠0∨G4 x.2≠0 then 4 else
 if Nat.gcd (I9 x.1.2).toNat (I9 x.2).toNat=1 then 0 else 1
theorem D1n (a:ByteArray):G4 a=0∨G4 a=1∨G4 a=4:=by
 unfold G4
 split
 ·exact Or.inr (Or.inl rfl)
 ·split
  ·exact Or.inr (Or.inr rfl)
  ·exact Or.inl rfl
theorem E6l (s:Bool) (a:ByteArray):J8 s a=0∨J8 s a=1∨J8 s a=4:=by
 unfold J8
 split
 ·exact Or.inr (Or.inl rfl)
 ·split
  ·exact Or.inr (Or.inl rfl)
  ·exact D1n a
theorem B7a (n:Nat):(I9 (B4 n)).toNat=n:=by rw [Go.Proofs.YtijohnkgomcdbaaGreatN.bval_nat];exact Int.toNat_natCast n
theorem E5b {a:Rat} (h:Sm 1024 a):Q6 (fr a)=0:=by
 unfold Q6 fr
 have h1:=C0Q h.1
 have h2:=B7v h.2
 simp only
 rw [if_neg,if_neg,if_pos]
 ·have:=a.reduced
  show Nat.gcd (I9 (B4 a.num.natAbs)).toNat (I9 (B4 a.den)).toNat=1
  rw [B7a,B7a];exact this
 ·rw [h1,h2];simp
 ·rw [h1,h2]
  have h3:(B4 a.den).size≠0:=fun e=>a.den_nz (A8a.1 e)
  simp [h3]
theorem D3G {x:FV} (h:Q6 x=0):∃a:Rat,x=fr a∧Sm 1024 a:=by
 unfold Q6 at h
 split at h
 ·cases h
 ·rename_i c1
  split at h
  ·cases h
  ·rename_i c2
   split at h
   ·rename_i c3
    rw [not_or,Decidable.not_not,Decidable.not_not]at c2
    obtain⟨z,e1,e2,e3⟩:=D3p c2.1
    obtain⟨f1,f2⟩:=B9H c2.2
    have hd:(I9 x.2).toNat≠0:=fun e=>c1 (Or.inr (Or.inr (by rw [f1,e];exact A8a.2 rfl)))
    have hr:Nat.gcd z.natAbs (I9 x.2).toNat=1:=by
     have:(I9 x.1.2).toNat=z.natAbs:=by rw [e2];exact B7a _
     rw [←this];exact c3
    refine⟨⟨z,(I9 x.2).toNat,hd,hr⟩,?_,e3,by rw [←f1];exact f2⟩
    show x=((ng z,ab z),B4 (I9 x.2).toNat)
    rw [←f1,←e1,←e2]
   ·cases h
theorem D3v (x:FV):((J8 x.1.1 x.1.2=1∨G4 x.2=1∨x.2.size=0)∧Q6 x=1)∨
  (¬(J8 x.1.1 x.1.2=1∨G4 x.2=1∨x.2.size=0)∧(J8 x.1.1 x.1.2=4∨J8 x.1.1 x.1.2=0∧G4 x.2=4)∧Q6 x=4)∨
  (∃(z:Int) (d:Nat),x=((ng z,ab z),B4 d)∧d≠0∧(ab z).size≤1024∧(B4 d).size≤1024∧Q6 x=if Nat.gcd z.natAbs d=1 then 0 else 1):=by
 by_cases c1:J8 x.1.1 x.1.2=1∨G4 x.2=1∨x.2.size=0
 ·exact Or.inl ⟨c1,if_pos c1⟩
 ·by_cases c2:J8 x.1.1 x.1.2≠0∨G4 x.2≠0
  ·refine Or.inr (Or.inl ⟨c1,?_,by unfold Q6;rw [if_neg c1,if_pos c2]⟩)
   rw [not_or,not_or]at c1
   rcases E6l x.1.1 x.1.2 with h|h|h
   ·rcases D1n x.2 with g|g|g
    ·rw [h,g]at c2;simp at c2
    ·exact absurd g c1.2.1
    ·exact Or.inr ⟨h,g⟩
   ·exact absurd h c1.1
   ·exact Or.inl h
  ·have c2':=c2
   rw [not_or,Decidable.not_not,Decidable.not_not]at c2'
   obtain⟨z,e1,e2,e3⟩:=D3p c2'.1
   obtain⟨f1,f2⟩:=B9H c2'.2
   have hd:(I9 x.2).toNat≠0:=fun e=>c1 (Or.inr (Or.inr (by rw [f1,e];exact A8a.2 rfl)))
   have hb:(I9 x.1.2).toNat=z.natAbs:=by rw [e2];exact B7a _
   refine Or.inr (Or.inr ⟨z,(I9 x.2).toNat,by rw [←f1,←e1,←e2],hd,e3,by rw [←f1];exact f2,?_⟩)
   unfold Q6;rw [if_neg c1,if_neg c2,hb]
theorem B2J (d:ByteArray):(d.toList==(⟨#[]⟩:ByteArray).toList)=decide (d.size=0):=by
 rw [Bool.eq_iff_iff,beq_iff_eq,decide_eq_true_eq,D9R,A2c]
theorem E5W (x:FV):Ev (fun k=>L4 k x) (Q6 x):=by
 have h1:=E9F x.1.1 x.1.2
 have h2:=Go.Proofs.YtijohnkgomcdbaaGreatN.Check_ev x.2
 rcases D3v x with⟨c,e⟩| ⟨c,c2,e⟩| ⟨z,d,rfl,hd,hz,hs,e⟩
 ·rw [e]
  by_cases c1:J8 x.1.1 x.1.2=1
  ·refine N1 (K7 h1 h2) ?_
   rintro k ⟨h1,h2⟩
   try dsimp only [fr]at h1 h2
   show L4 _ _=_
   unfold L4 A2T
   simp only [fr,d5,T7,R5,Ya,Yb,Yc,Yd,Ye,Yf,Yg,Yh,Yi,Yj,Yk,Int.reduceEq,reduceCtorEq,Yl,Ym,Yn,Yo,Yp,Yq,Yr,Ys,Yt,Yu,Yv,Yw,Yx,Yy,Yz,YA,YB,YC,h1,h2,c1]
  ·by_cases c2:G4 x.2=1
   ·refine N1 (K7 h1 h2) ?_
    rintro k ⟨h1,h2⟩
    try dsimp only [fr]at h1 h2
    show L4 _ _=_
    unfold L4 A2T
    simp only [fr,d5,T7,R5,Ya,Yb,Yc,Yd,Ye,Yf,Yg,Yh,Yi,Yj,Yk,Int.reduceEq,reduceCtorEq,Yl,Ym,Yn,Yo,Yp,Yq,Yr,Ys,Yt,Yu,Yv,Yw,Yx,Yy,Yz,YA,YB,YC,h1,h2,c1,c2,ite_self]
   ·have c3:x.2.size=0:=by rcases c with c|c|c;exact absurd c c1;exact absurd c c2;exact c
    refine N1 (K7 h1 h2) ?_
    rintro k ⟨h1,h2⟩
    try dsimp only [fr]at h1 h2
    show L4 _ _=_
    unfold L4 A2T
    simp only [fr,d5,T7,R5,Ya,Yb,Yc,Yd,Ye,Yf,Yg,Yh,Yi,Yj,Yk,Int.reduceEq,reduceCtorEq,Yl,Ym,Yn,Yo,Yp,Yq,Yr,Ys,Yt,Yu,Yv,Yw,Yx,Yy,Yz,YA,YB,YC,h1,h2,c1,c2,c3,B2J]
 ·rw [not_or,not_or]at c
  rw [e]
  rcases c2 with c2| ⟨c2,c3⟩
  ·have c1:=c.2.1
   have c4:=c.2.2
   refine N1 (K7 h1 h2) ?_
   rintro k ⟨h1,h2⟩
   try dsimp only [fr]at h1 h2
   show L4 _ _=_
   unfold L4 A2T
   simp only [fr,d5,T7,R5,Ya,Yb,Yc,Yd,Ye,Yf,Yg,Yh,Yi,Yj,Yk,Int.reduceEq,reduceCtorEq,Yl,Ym,Yn,Yo,Yp,Yq,Yr,Ys,Yt,Yu,Yv,Yw,Yx,Yy,Yz,YA,YB,YC,h1,h2,c1,c2,c4,B2J]
  ·have c4:=c.2.2
   refine N1 (K7 h1 h2) ?_
   rintro k ⟨h1,h2⟩
   try dsimp only [fr]at h1 h2
   show L4 _ _=_
   unfold L4 A2T
   simp only [fr,d5,T7,R5,Ya,Yb,Yc,Yd,Ye,Yf,Yg,Yh,Yi,Yj,Yk,Int.reduceEq,reduceCtorEq,Yl,Ym,Yn,Yo,Yp,Yq,Yr,Ys,Yt,Yu,Yv,Yw,Yx,Yy,Yz,YA,YB,YC,h1,h2,c2,c3,c4,B2J]
 ·rw [e]
  have h3:=D1H (m:=z.natAbs) (n:=d) (Nat.le_trans hz (by decide)) (Nat.le_trans hs (by decide))
  have h3':Ev (fun k=>exact_NatGcd.f k (ab z) (B4 d)) _:=h3
  dsimp only at h1 h2
  rw [C0Q hz]at h1
  rw [B7v hs]at h2
  by_cases c:d=1
  ·subst c
   have e1:Nat.gcd z.natAbs 1=1:=Nat.gcd_one_right _
   refine N1 (K7 h1 h2) ?_
   rintro k ⟨h1,h2⟩
   try dsimp only [fr]at h1 h2
   show L4 _ _=_
   unfold L4 A2T
   simp only [fr,d5,T7,R5,Ya,Yb,Yc,Yd,Ye,Yf,Yg,Yh,Yi,Yj,Yk,Int.reduceEq,reduceCtorEq,Yl,Ym,Yn,Yo,Yp,Yq,Yr,Ys,Yt,Yu,Yv,Yw,Yx,Yy,Yz,YA,YB,YC,h1,h2,o7,A7y,e1]
  ·by_cases c5:Nat.gcd z.natAbs d=1
   ·refine N1 (K7 h1 (K7 h2 h3')) ?_
    rintro k ⟨h1,h2,h3'⟩
    try dsimp only [fr]at h1 h2 h3'
    show L4 _ _=_
    unfold L4 A2T
    simp only [fr,d5,T7,R5,Ya,Yb,Yc,Yd,Ye,Yf,Yg,Yh,Yi,Yj,Yk,Int.reduceEq,reduceCtorEq,Yl,Ym,Yn,Yo,Yp,Yq,Yr,Ys,Yt,Yu,Yv,Yw,Yx,Yy,Yz,YA,YB,YC,h1,h2,h3',o7,A7y,hd,c,c5]
   ·refine N1 (K7 h1 (K7 h2 h3')) ?_
    rintro k ⟨h1,h2,h3'⟩
    try dsimp only [fr]at h1 h2 h3'
    show L4 _ _=_
    unfold L4 A2T
    simp only [fr,d5,T7,R5,Ya,Yb,Yc,Yd,Ye,Yf,Yg,Yh,Yi,Yj,Yk,Int.reduceEq,reduceCtorEq,Yl,Ym,Yn,Yo,Yp,Yq,Yr,Ys,Yt,Yu,Yv,Yw,Yx,Yy,Yz,YA,YB,YC,h1,h2,h3',o7,A7y,hd,c,c5]
theorem D1C (x:FV):Ev (fun k=>J9 k x) (Q6 x):=by
 have f1:=E2q x.1.1 x.1.2
 have f2:=D1Z x.2
 have f3:=E4b x.1.1 x.1.2
 have f4:=D5x x.2
 have k1:decide ((x.1.2.size=0∨bt x.1.2 0≠0)∧¬(x.1.1=true∧x.1.2.size=0))=!decide (J8 x.1.1 x.1.2=1):=by
  rw [Bool.eq_iff_iff,decide_eq_true_eq,Bool.not_eq_true',decide_eq_false_iff_not]
  unfold J8
  by_cases g:G4 x.1.2=1
  ·rw [if_pos g]
   have:=B6u.1 g
   exact⟨fun q=>absurd q.1 this,fun q=>absurd rfl q⟩
  ·rw [if_neg g]
   have g2:x.1.2.size=0∨bt x.1.2 0≠0:=Decidable.not_not.1 fun q=>g (B6u.2 q)
   by_cases g3:x.1.1=true∧x.1.2.size=0
   ·rw [if_pos g3];exact⟨fun q=>absurd g3 q.2,fun q=>absurd rfl q⟩
   ·rw [if_neg g3];exact⟨fun _=>g,fun _=>⟨g2,g3⟩⟩
 have k2:decide (x.2.size=0∨bt x.2 0≠0)=!decide (G4 x.2=1):=by
  rw [Bool.eq_iff_iff,decide_eq_true_eq,Bool.not_eq_true',decide_eq_false_iff_not]
  constructor
  ·intro q r;exact B6u.1 r q
  ·intro q;exact Decidable.not_not.1 fun r=>q (B6u.2 r)
 rw [k1]at f1
 rw [k2]at f2
 rcases D3v x with⟨c,e⟩| ⟨c,c2,e⟩| ⟨z,d,rfl,hd,hz,hs,e⟩
 ·rw [e]
  have f5:V6=V6:=rfl
  by_cases c1:J8 x.1.1 x.1.2=1
  ·refine⟨0,fun k _=>?_⟩
   show J9 _ _=_
   unfold J9 A4I
   simp only [fr,w7,W6,U7,Ya,Yb,Yc,Yd,Ye,Yf,Yg,Yh,Yi,Yj,Yk,Int.reduceEq,reduceCtorEq,Yl,Ym,Yn,Yo,Yp,Yq,Yr,Ys,Yt,Yu,Yv,Yw,Yx,Yy,Yz,YA,YB,YC,f1,c1]
  ·by_cases c2:G4 x.2=1
   ·refine⟨0,fun k _=>?_⟩
    show J9 _ _=_
    unfold J9 A4I
    simp only [fr,w7,W6,U7,Ya,Yb,Yc,Yd,Ye,Yf,Yg,Yh,Yi,Yj,Yk,Int.reduceEq,reduceCtorEq,Yl,Ym,Yn,Yo,Yp,Yq,Yr,Ys,Yt,Yu,Yv,Yw,Yx,Yy,Yz,YA,YB,YC,f1,f2,c1,c2]
   ·have c3:x.2.size=0:=by rcases c with c|c|c;exact absurd c c1;exact absurd c c2;exact c
    refine⟨0,fun k _=>?_⟩
    show J9 _ _=_
    unfold J9 A4I
    simp only [fr,w7,W6,U7,Ya,Yb,Yc,Yd,Ye,Yf,Yg,Yh,Yi,Yj,Yk,Int.reduceEq,reduceCtorEq,Yl,Ym,Yn,Yo,Yp,Yq,Yr,Ys,Yt,Yu,Yv,Yw,Yx,Yy,Yz,YA,YB,YC,f1,f2,c1,c2,c3,B2J]
 ·rw [e]
  rw [not_or,not_or]at c
  have c1:=c.1
  have c3:=c.2.1
  have c4:=c.2.2
  have hf:Ev (fun k=>V6 k x) 4:=by
   by_cases g:(x.1.2.size:Int)>1024
   ·rw [if_pos g]at f3
    refine⟨0,fun k _=>?_⟩
    show V6 _ _=_
    unfold V6 A9W
    simp only [fr,A3B,k9,Ya,Yb,Yc,Yd,Ye,Yf,Yg,Yh,Yi,Yj,Yk,Int.reduceEq,reduceCtorEq,Yl,Ym,Yn,Yo,Yp,Yq,Yr,Ys,Yt,Yu,Yv,Yw,Yx,Yy,Yz,YA,YB,YC,f3]
   ·rw [if_neg g]at f3
    have g2:(x.2.size:Int)>1024:=by
     rcases c2 with c2| ⟨c2,c5⟩
     ·exfalso
      unfold J8 at c2 c1
      split at c2
      ·cases c2
      ·split at c2
       ·cases c2
       ·rename_i q1 q2
        rw [C9Q q1,if_neg g]at c2;cases c2
     ·rw [C9Q c3]at c5
      split at c5
      ·assumption
      ·cases c5
    rw [if_pos g2]at f4
    refine⟨0,fun k _=>?_⟩
    show V6 _ _=_
    unfold V6 A9W
    simp only [fr,A3B,k9,Ya,Yb,Yc,Yd,Ye,Yf,Yg,Yh,Yi,Yj,Yk,Int.reduceEq,reduceCtorEq,Yl,Ym,Yn,Yo,Yp,Yq,Yr,Ys,Yt,Yu,Yv,Yw,Yx,Yy,Yz,YA,YB,YC,f3,f4]
  refine N1 hf ?_
  rintro k hf
  try dsimp only [fr]at hf
  show J9 _ _=_
  unfold J9 A4I
  simp only [fr,w7,W6,U7,Ya,Yb,Yc,Yd,Ye,Yf,Yg,Yh,Yi,Yj,Yk,Int.reduceEq,reduceCtorEq,Yl,Ym,Yn,Yo,Yp,Yq,Yr,Ys,Yt,Yu,Yv,Yw,Yx,Yy,Yz,YA,YB,YC,hf,f1,f2,c1,c3,c4,B2J]
 ·rw [e]
  have h3:=rGcd_ev (m:=z.natAbs) (n:=d) (Nat.le_trans hz (by decide)) (Nat.le_trans hs (by decide))
  have h3':Ev (fun k=>galoisref01_Gcd.f k (ab z) (B4 d)) _:=h3
  dsimp only at f1 f2 f3 f4
  rw [C0Q hz]at f1
  rw [B7v hs]at f2
  have g1:¬((ab z).size:Int)>1024:=by omega
  have g2:¬((B4 d).size:Int)>1024:=by omega
  rw [if_neg g1]at f3
  rw [if_neg g2]at f4
  have hf:Ev (fun k=>V6 k ((ng z,ab z),B4 d)) 0:=by
   refine⟨0,fun k _=>?_⟩
   show V6 _ _=_
   unfold V6 A9W
   simp only [fr,A3B,k9,Ya,Yb,Yc,Yd,Ye,Yf,Yg,Yh,Yi,Yj,Yk,Int.reduceEq,reduceCtorEq,Yl,Ym,Yn,Yo,Yp,Yq,Yr,Ys,Yt,Yu,Yv,Yw,Yx,Yy,Yz,YA,YB,YC,f3,f4]
  by_cases c5:Nat.gcd z.natAbs d=1
  ·refine N1 (K7 hf h3') ?_
   rintro k ⟨hf,h3'⟩
   try dsimp only [fr]at hf h3'
   show J9 _ _=_
   unfold J9 A4I
   simp only [fr,w7,W6,U7,Ya,Yb,Yc,Yd,Ye,Yf,Yg,Yh,Yi,Yj,Yk,Int.reduceEq,reduceCtorEq,Yl,Ym,Yn,Yo,Yp,Yq,Yr,Ys,Yt,Yu,Yv,Yw,Yx,Yy,Yz,YA,YB,YC,hf,h3',f1,f2,o7,A7y,hd,c5]
  ·refine N1 (K7 hf h3') ?_
   rintro k ⟨hf,h3'⟩
   try dsimp only [fr]at hf h3'
   show J9 _ _=_
   unfold J9 A4I
   simp only [fr,w7,W6,U7,Ya,Yb,Yc,Yd,Ye,Yf,Yg,Yh,Yi,Yj,Yk,Int.reduceEq,reduceCtorEq,Yl,Ym,Yn,Yo,Yp,Yq,Yr,Ys,Yt,Yu,Yv,Yw,Yx,Yy,Yz,YA,YB,YC,hf,h3',f1,f2,o7,A7y,hd,c5]
theorem len1 (x:FV):(([x]:List FV).length:Int)=1:=rfl
theorem len2 (x y:FV):(([x,y]:List FV).length:Int)=2:=rfl
def wide (n:Nat) (e:Nat):Bool:=decide (n≠0∧8192≤(bl n-1)*e)
end Go.Proofs.YtijohnkgomcdbaaGreatV
namespace Go.Proofs.YtijohnkgomcdbaaGreatV
open Go Go.RowKit YtijohnkgomcdbaaGreat YtijohnkgomcdbaaGreatE YtijohnkgomcdbaaGreatW.PrintWords YtijohnkgomcdbaaGreatW.PrintLast YtijohnkgomcdbaaGreatW.PrintMore
theorem E9N (k:Nat):A2v (k+300)=some true:=by kernel_rfl
theorem A6D:Ev (fun k=>A2v k) true:=⟨300,fun k hk=>by
 obtain⟨m,rfl⟩:=Nat.exists_eq_add_of_le' hk
 exact E9N m⟩
end Go.Proofs.YtijohnkgomcdbaaGreatV
set_option maxRecDepth 100000
namespace Go.Proofs.YtijohnkgomcdbaaGreatV
open Go Go.RowKit YtijohnkgomcdbaaGreat YtijohnkgomcdbaaGreatE YtijohnkgomcdbaaGreatN YtijohnkgomcdbaaGreat.All YtijohnkgomcdbaaGreatW.PrintWords YtijohnkgomcdbaaGreatW.PrintLast YtijohnkgomcdbaaGreatW.PrintMore
theorem Sm.mono {m n:Nat} {a:Rat} (h:Sm m a) (hmn:m≤n):Sm n a:=⟨Nat.le_trans h.1 hmn,Nat.le_trans h.2 hmn⟩
theorem Sm.mk_ {n:Int} {d s:Nat} (hn:(ab n).size≤s) (hd:(B4 d).size≤s) (h0:d≠0):Sm s (mkRat n d):=by
 have hg:Nat.gcd d n.natAbs≠0:=fun e=>h0 (Nat.gcd_eq_zero_iff.1 e).1
 constructor
 ·rw [Rat.num_mkRat,if_neg h0]
  obtain⟨c,hc⟩:=Nat.gcd_dvd_right d n.natAbs
  have hi:∃z:Int,n=(Nat.gcd d n.natAbs:Int)*z:=by
   have:(Nat.gcd d n.natAbs:Int)∣n:=Int.dvd_natAbs.1 (Int.natCast_dvd_natCast.2 (Nat.gcd_dvd_right d n.natAbs))
   exact this
  obtain⟨z,hz⟩:=hi
  have e:n/(Nat.gcd d n.natAbs:Int)=z:=by
   conv=>lhs;lhs;rw [hz]
   exact Int.mul_ediv_cancel_left _ (by omega)
  rw [e]
  refine Nat.le_trans (A5m ?_) hn
  have:n.natAbs=Nat.gcd d n.natAbs*z.natAbs:=by
   conv=>lhs;rw [hz]
   rw [Int.natAbs_mul,Int.natAbs_natCast]
  rw [this]
  exact Nat.le_mul_of_pos_left _ (Nat.pos_of_ne_zero hg)
 ·rw [Rat.den_mkRat,if_neg h0]
  exact Nat.le_trans (C2B _ _) hd
section
variable {a b:Rat} {m n:Nat}
theorem Sm.add (ha:Sm m a) (hb:Sm n b):Sm (m+n+1) (a+b):=by
 rw [Rat.add_def']
 refine Sm.mk_ (D7T (B1t ha.1 (n:=n) (by rw [A1v];exact hb.2)) (Nat.le_trans (B1t hb.1 (n:=m) (by rw [A1v];exact ha.2)) (by omega))) (Nat.le_trans (B1v ha.2 hb.2) (by omega)) (Nat.mul_ne_zero a.den_nz b.den_nz)
theorem Sm.sub (ha:Sm m a) (hb:Sm n b):Sm (m+n+1) (a-b):=by rw [Rat.sub_eq_add_neg];exact ha.add hb.neg
theorem Sm.mul (ha:Sm m a) (hb:Sm n b):Sm (m+n) (a*b):=by
 rw [Rat.mul_def']
 exact Sm.mk_ (B1t ha.1 hb.1) (B1v ha.2 hb.2) (Nat.mul_ne_zero a.den_nz b.den_nz)
end
theorem F2b (a:Rat):A3E a a=0:=by unfold A3E V4;rw [if_neg (Int.lt_irrefl _),if_pos rfl]
theorem E4m {n d:Int} (hn:(ab n).size≤1099511627776) (hd:(ab d).size≤1099511627776) (h0:d≠0):Ev (fun k=>A2O k (ng n,ab n) (ng d,ab d)) (fr (Rat.divInt n d)):=by
 have h1:=Go.Proofs.YtijohnkgomcdbaaGreatN.rGcd_ev (m:=n.natAbs) (n:=d.natAbs) hn hd
 have hg:=Nat.pos_of_ne_zero (C1F (n:=n) h0)
 have sg_:(B4 (Nat.gcd n.natAbs d.natAbs)).size≤1099511627776:=Nat.le_trans (A5m (Nat.le_of_dvd (by omega) (Nat.gcd_dvd_right _ _))) hd
 have h2:=Go.Proofs.YtijohnkgomcdbaaGreatN.rDivMod_ev (m:=n.natAbs) hn sg_
 have h3:=Go.Proofs.YtijohnkgomcdbaaGreatN.rDivMod_ev (m:=d.natAbs) hd sg_
 rw [if_neg (Nat.ne_of_gt hg)]at h2 h3
 have f1:=C9a (ng n !=ng d) (n.natAbs/Nat.gcd n.natAbs d.natAbs)
 have f3:=B5h (n:=n) h0
 rw [←f3]
 have h1':Ev (fun k=>galoisref01_Gcd.f k (ab n) (ab d)) _:=h1
 have h2':Ev (fun k=>galoisref01_DivMod.f k (ab n) (B4 (Nat.gcd n.natAbs d.natAbs))) _:=h2
 have h3':Ev (fun k=>galoisref01_DivMod.f k (ab d) (B4 (Nat.gcd n.natAbs d.natAbs))) _:=h3
 refine N1 (K7 h1' (K7 h2' h3')) ?_
 rintro k ⟨h1',h2',h3'⟩
 try dsimp only [fr]at h1' h2' h3'
 show A2O _ _ _=_
 unfold A2O B6E
 simp only [fr,U7,A0j,j6,Ya,Yb,Yc,Yd,Ye,Yf,Yg,Yh,Yi,Yj,Yk,Int.reduceEq,reduceCtorEq,Yl,Ym,Yn,Yo,Yp,Yq,Yr,Ys,Yt,Yu,Yv,Yw,Yx,Yy,Yz,YA,YB,YC,h1',h2',h3',C4u,C3t,f1,h0]
theorem D6h {n:Int} {d:Nat} (hn:(ab n).size≤1099511627776) (hd:(B4 d).size≤1099511627776) (h0:d≠0):Ev (fun k=>A2O k (ng n,ab n) (false,B4 d)) (fr (mkRat n d)):=by
 have h:=E4m (d:=(d:Int)) hn (by rw [A1v];exact hd) (by omega)
 rwa [B2P,A1v,Rat.divInt_ofNat]at h
theorem C5I {x:Int} {d:Nat} (hx:(ab x).size≤10000) (hd:(B4 d).size≤10000):Ev (fun k=>galoisref02_Mul.f k (ng x) (ab x) false (B4 d)) (ng (x*d),ab (x*d)):=by
 have h:=D3k (x:=x) (y:=(d:Int)) (Nat.le_trans hx (by decide)) (by rw [A1v];exact Nat.le_trans hd (by decide))
 rwa [B2P,A1v]at h
theorem E8o {d e:Nat} (hd:(B4 d).size≤10000) (he:(B4 e).size≤10000):Ev (fun k=>galoisref02_Mul.f k false (B4 d) false (B4 e)) (false,B4 (d*e)):=by
 have h:=C5I (x:=(d:Int)) (by rw [A1v];exact hd) he
 rwa [←Int.natCast_mul,B2P,A1v,B2P,A1v]at h
section
variable {a b:Rat}
theorem E1v (ha:Sm 10000 a) (hb:Sm 10000 b):Ev (fun k=>A0L k (fr a) (fr b)) (A3E a b):=by
 have h1:=C5I ha.1 hb.2
 have h2:=C5I hb.1 ha.2
 have h3:=F0z (a.num*b.den) (b.num*a.den)
 unfold A3E
 refine N1 (K7 h1 (K7 h2 h3)) ?_
 rintro k ⟨h1,h2,h3⟩
 try dsimp only [fr]at h1 h2 h3
 show A0L _ _ _=_
 unfold A0L B7D
 simp only [fr,a8,b6,A7D,A5C,Ya,Yb,Yc,Yd,Ye,Yf,Yg,Yh,Yi,Yj,Yk,Int.reduceEq,reduceCtorEq,Yl,Ym,Yn,Yo,Yp,Yq,Yr,Ys,Yt,Yu,Yv,Yw,Yx,Yy,Yz,YA,YB,YC,h1,h2,h3]
theorem E0H (ha:Sm 10000 a) (hb:Sm 10000 b):Ev (fun k=>X2 k (fr a) (fr b)) (fr (a*b)):=by
 have h1:=D3k (Nat.le_trans ha.1 (by decide)) (Nat.le_trans hb.1 (by decide))
 have h2:=E8o ha.2 hb.2
 have h3:=D6h (n:=a.num*b.num) (d:=a.den*b.den) (Nat.le_trans (B1t ha.1 hb.1) (by decide)) (Nat.le_trans (B1v ha.2 hb.2) (by decide)) (Nat.mul_ne_zero a.den_nz b.den_nz)
 rw [←Rat.mul_def']at h3
 by_cases h1d:a.den=1
 ·by_cases h2d:b.den=1
  ·rw [←D2f h1d h2d]
   refine N1 h1 ?_
   rintro k h1
   try dsimp only [fr]at h1
   show X2 _ _ _=_
   unfold X2 A9z
   simp only [fr,A2f,A9I,a8,b6,A7D,Ya,Yb,Yc,Yd,Ye,Yf,Yg,Yh,Yi,Yj,Yk,Int.reduceEq,reduceCtorEq,Yl,Ym,Yn,Yo,Yp,Yq,Yr,Ys,Yt,Yu,Yv,Yw,Yx,Yy,Yz,YA,YB,YC,h1,o7,h1d,h2d]
  ·refine N1 (K7 h1 (K7 h2 h3)) ?_
   rintro k ⟨h1,h2,h3⟩
   try dsimp only [fr]at h1 h2 h3
   show X2 _ _ _=_
   unfold X2 A9z
   simp only [fr,A2f,A9I,a8,b6,A7D,Ya,Yb,Yc,Yd,Ye,Yf,Yg,Yh,Yi,Yj,Yk,Int.reduceEq,reduceCtorEq,Yl,Ym,Yn,Yo,Yp,Yq,Yr,Ys,Yt,Yu,Yv,Yw,Yx,Yy,Yz,YA,YB,YC,h1,h2,h3,o7,h2d,ite_self]
 ·refine N1 (K7 h1 (K7 h2 h3)) ?_
  rintro k ⟨h1,h2,h3⟩
  try dsimp only [fr]at h1 h2 h3
  show X2 _ _ _=_
  unfold X2 A9z
  simp only [fr,A2f,A9I,a8,b6,A7D,Ya,Yb,Yc,Yd,Ye,Yf,Yg,Yh,Yi,Yj,Yk,Int.reduceEq,reduceCtorEq,Yl,Ym,Yn,Yo,Yp,Yq,Yr,Ys,Yt,Yu,Yv,Yw,Yx,Yy,Yz,YA,YB,YC,h1,h2,h3,o7,h1d]
end
end Go.Proofs.YtijohnkgomcdbaaGreatV
set_option maxRecDepth 100000
namespace Go.Proofs.YtijohnkgomcdbaaGreatV
open Go Go.RowKit Go.Proofs.YtijohnkgomcdbaaGreat Go.Proofs.YtijohnkgomcdbaaGreatE Go.Proofs.YtijohnkgomcdbaaGreatN Go.Proofs.YtijohnkgomcdbaaGreat.All Go.Proofs.YtijohnkgomcdbaaGreatW.PrintWords Go.Proofs.YtijohnkgomcdbaaGreatW.PrintLast Go.Proofs.YtijohnkgomcdbaaGreatW.PrintMore
abbrev FP:=List FV
abbrev d0:FV:=((false,(⟨#[]⟩:ByteArray)),(⟨#[]⟩:ByteArray))
theorem C4 {β:Type} {c:Prop} [Decidable c] {a b:Nat→Option β} {r:β} (h:c) (k:Ev a r):Ev (fun n=>if c then a n else b n) r:=Ev.congr (fun n=>if_pos h) k
theorem D6 {β:Type} {c:Prop} [Decidable c] {a b:Nat→Option β} {r:β} (h:¬c) (k:Ev b r):Ev (fun n=>if c then a n else b n) r:=Ev.congr (fun n=>if_neg h) k
theorem B1T {β:Type} {c:Bool} {a b:Nat→Option β} {r:β} (h:c=true) (k:Ev a r):Ev (fun n=>B2 c (a n) (b n)) r:=by subst h;exact k
theorem u6 {β:Type} {c:Bool} {a b:Nat→Option β} {r:β} (h:c=false) (k:Ev b r):Ev (fun n=>B2 c (a n) (b n)) r:=by subst h;exact k
theorem K9 {β:Type} {i n m:Int} {a b:Nat→Option β} {r:β} (h1:i<n) (h0:0≤i) (h2:i<m) (k:Ev a r):Ev (fun x=>if i<n then(if 0≤i then(if i<m then a x else none)else none)else b x) r:=C4 h1 (C4 h0 (C4 h2 k))
theorem A4f {β:Type} {i m:Int} {a:Nat→Option β} {r:β} (h0:0≤i) (h2:i<m) (k:Ev a r):Ev (fun x=>if 0≤i then(if i<m then a x else none)else none) r:=C4 h0 (C4 h2 k)
theorem E2 {β:Type} {c d:Prop} [Decidable c] [Decidable d] {a b:Nat→Option β} {r1 r2:β} (e:c↔d) (h1:d→Ev a r1) (h2:¬d→Ev b r2):Ev (fun n=>if c then a n else b n) (if d then r1 else r2):=by
  by_cases h:d
  · rw [if_pos h];exact C4 (e.2 h) (h1 h)
  · rw [if_neg h];exact D6 (fun x=>h (e.1 x)) (h2 h)
theorem A3Y {β:Type} {c:Bool} {a b:Nat→Option β} {r1 r2:β} (h1:c=true→Ev a r1) (h2:c=false→Ev b r2):Ev (fun n=>B2 c (a n) (b n)) (if c=true then r1 else r2):=by
  cases c with
  |true=>exact h1 rfl
  |false=>exact h2 rfl
theorem A2q {x:Int} (h1: -9223372036854775808≤x) (h2:x<9223372036854775808):wrap64 x=x:=by unfold wrap64;omega
theorem B6J {α:Type} {d:α} (pre:List α) (a:α) (post:List α):C2 d (pre++a::post) (pre.length:Int)=a:=by
  unfold C2;rw [Int.toNat_natCast,List.getD_eq_getElem?_getD,List.getElem?_append_right (Nat.le_refl _)];simp
theorem D4V {α S R:Type} {d:α} {l:List α} (hl:l.length<1099511627776) (g:Nat→Int→S→Option R) (F:Nat→S→List α→R) (I:Nat→S→Prop)
    (hT:∀s,I l.length s→Ev (fun k=>g (k+1) (l.length:Int) s) (F l.length s []))
    (hC:∀pre a post s,l=pre++a::post→(pre.length:Int)<l.length→C2 d l (pre.length:Int)=a→I pre.length s→
      (∀s',I (pre.length+1) s'→Ev (fun k=>g k (wrap64 ((pre.length:Int)+1)) s') (F (pre.length+1) s' post))→Ev (fun k=>g (k+1) (pre.length:Int) s) (F pre.length s (a::post))):
    ∀(post pre:List α) (s:S),l=pre++post→I pre.length s→Ev (fun k=>g k (pre.length:Int) s) (F pre.length s post)
  | [],pre,s,hp,hI=>by
    have e:l.length=pre.length:=by rw [hp,List.append_nil]
    refine Ev.step (f:=fun k=>g (k+1) (pre.length:Int) s) (fun k=>rfl) ?_
    have:=hT s (by rw [e];exact hI)
    rwa [e]at this
  | a::post,pre,s,hp,hI=>by
    have e:l.length=pre.length+post.length+1:=by rw [hp,List.length_append,List.length_cons];omega
    refine Ev.step (f:=fun k=>g (k+1) (pre.length:Int) s) (fun k=>rfl) ?_
    refine hC pre a post s hp (by omega) (by rw [hp];exact B6J pre a post) hI fun s' hI'=>?_
    have h:=D4V hl g F I hT hC post (pre++[a]) s' (by rw [hp,List.append_assoc];rfl) (by rw [List.length_append];exact hI')
    have e3:wrap64 ((pre.length:Int)+1)=((pre++[a]).length:Int):=by rw [A2q (by omega) (by omega),List.length_append];rfl
    rw [e3]
    rwa [show(pre++[a]).length=pre.length+1 from by rw [List.length_append];rfl]at h⊢
theorem U4 {α S R:Type} {d:α} {l:List α} (hl:l.length<1099511627776) (g:Nat→Int→S→Option R) (F:Nat→S→List α→R) (I:Nat→S→Prop) (s:S) (h0:I 0 s)
    (hT:∀s,I l.length s→Ev (fun k=>g (k+1) (l.length:Int) s) (F l.length s []))
    (hC:∀pre a post s,l=pre++a::post→(pre.length:Int)<l.length→C2 d l (pre.length:Int)=a→I pre.length s→
      (∀s',I (pre.length+1) s'→Ev (fun k=>g k (wrap64 ((pre.length:Int)+1)) s') (F (pre.length+1) s' post))→Ev (fun k=>g (k+1) (pre.length:Int) s) (F pre.length s (a::post))):
    Ev (fun k=>g k 0 s) (F 0 s l):=D4V hl g F I hT hC l [] s rfl h0
theorem B3X {α:Type} {d:α} {l:List α} (hl:l.length<1099511627776) (hne:l≠[]):∃x,l.getLast?=some x∧(0:Int)<l.length∧0≤wrap64 ((l.length:Int)-1)∧wrap64 ((l.length:Int)-1)<(l.length:Int)∧C2 d l (wrap64 ((l.length:Int)-1))=x:=by
  have e:=List.dropLast_concat_getLast hne
  have hp:0<l.length:=List.length_pos_iff.2 hne
  have w:wrap64 ((l.length:Int)-1)=((l.dropLast.length:Nat):Int):=by rw [A2q (by omega) (by omega),List.length_dropLast];omega
  refine⟨l.getLast hne,List.getLast?_eq_some_getLast hne,by omega,by rw [w];omega,by rw [w,List.length_dropLast];omega,?_⟩
  rw [w]
  conv=>lhs;rw [←e]
  have:=B6J (d:=d) l.dropLast (l.getLast hne) []
  simpa using this
def O8 {α:Type} (ck:α→Int) (t:Int):List α→Int
  | []=>t
  |a::l=>if ck a≠0 then ck a else O8 ck t l
theorem D2g {α:Type} {ck:α→Int} {t:Int}:∀{l:List α},O8 ck t l=0→(∀x,x∈l→ck x=0)∧t=0
  | [],h=>⟨fun _ hx=>by simp at hx,h⟩
  | a::l,h=>by
    unfold O8 at h
    by_cases c:ck a≠0
    · rw [if_pos c]at h;exact absurd h c
    · rw [if_neg c]at h
      have ih:=D2g h
      exact⟨fun x hx=>by rcases List.mem_cons.1 hx with rfl|hx;exact Decidable.not_not.1 c;exact ih.1 x hx,ih.2⟩
def zq (x:FV):Bool:=E6 x.1.2 ⟨#[]⟩
def A4M (f:FP):Int:=match f.getLast? with|none=>0|some x=>if zq x=true then 1 else 0
def J4 (f:FP):Int:=if 65<f.length then 4 else O8 Q6 (A4M f) f
theorem E6m {x:FV} (h:Q6 x=0):Ev (fun k=>P1 k x) (if zq x=true then 0 else if x.1.1=true then -1 else 1):=by
  obtain⟨a,rfl,_⟩:=D3G h
  have f1:=B5c a.num
  have e:zq (fr a)=decide (a.num=0):=by unfold zq fr;rw [F1];exact C4u a.num
  rw [e]
  have e2:(if decide (a.num=0)=true then(0:Int)else if(fr a).1.1=true then -1 else 1)=sgn a.num:=by
    unfold sgn fr ng
    by_cases c:a.num=0
    · simp [c]
    · by_cases c2:a.num<0<;>simp [c,c2]
  rw [e2]
  refine⟨0,fun k _=>?_⟩
  show P1 _ _=_
  unfold P1 B1m
  simp only [fr,t7,Ya,Yb,Yc,Yd,Ye,Yf,Yg,Yh,Yi,Yj,Yk,Int.reduceEq,reduceCtorEq,Yl,Ym,Yn,Yo,Yp,Yq,Yr,Ys,Yt,Yu,Yv,Yw,Yx,Yy,Yz,YA,YB,YC,f1]
theorem D5i (x:FV):Ev (fun k=>J1 k x) (zq x):=Ev.now _
theorem D7b {α:Type} {l pre post:List α} {a:α} {p:α→Prop} (h:l=pre++a::post) (h1:∀x,x∈l.take pre.length→p x) (h2:p a):∀x,x∈l.take (pre.length+1)→p x:=by
  subst h
  intro x hx
  have e:(pre++a::post).take (pre.length+1)=pre++[a]:=by rw [List.take_append,List.take_of_length_le (Nat.le_succ _)];simp
  rw [e,List.mem_append]at hx
  rcases hx with hx|hx
  · exact h1 x (by rw [List.take_left];exact hx)
  · rw [List.mem_singleton.1 hx];exact h2
theorem B6w (f:FP):Ev (fun k=>R8 k f) (J4 f):=by
  show Ev (fun k=>B3a (t3 k) _) _
  unfold B3a
  refine E2 (by omega) (fun _=>Ev.now _) fun c=>U4 (d:=d0) (by omega) (fun k i (_:Unit)=>t3 k f f (f.length:Int) i) (fun _ _=>O8 Q6 (A4M f)) (fun _ _=>True) () trivial ?_ ?_
  · intro _ _
    show Ev (fun k=>A6A (t3 k) (J1 k) (L4 k) _ _ _ _) _
    unfold A6A
    refine D6 (Int.lt_irrefl _) ?_
    show Ev _ (A4M f)
    unfold A4M
    by_cases hn:f=[]
    · subst hn;exact D6 (by simp) (Ev.now _)
    · obtain⟨x,h1,h2,h3,h4,h5⟩:=B3X (d:=d0) (by omega:f.length<1099511627776) hn
      rw [h5,h1]
      exact C4 h2 (C4 h3 (C4 h4 (Ev.bind (D5i x) (A3Y (fun _=>Ev.now _) fun _=>Ev.now _))))
  · intro pre a post _ hp hi hr _ ih
    show Ev (fun k=>A6A (t3 k) (J1 k) (L4 k) _ _ _ _) _
    unfold A6A
    refine K9 hi (by omega) hi ?_
    rw [hr]
    exact Ev.bind (E5W a) (E2 Iff.rfl (fun _=>Ev.now _) fun _=>ih () trivial)
theorem A8s (f:FP):Ev (fun k=>M1 k f) (J4 f):=by
  show Ev (fun k=>B69 (o6 k) _) _
  unfold B69
  refine E2 (by omega) (fun _=>Ev.now _) fun c=>U4 (d:=d0) (by omega) (fun k i (_:Unit)=>o6 k f f (f.length:Int) i) (fun _ _=>O8 Q6 (A4M f)) (fun n _=>∀x,x∈f.take n→Q6 x=0) () (by simp) ?_ ?_
  · intro _ hI
    show Ev (fun k=>A5j (o6 k) (P1 k) (J9 k) _ _ _ _) _
    unfold A5j
    refine D6 (Int.lt_irrefl _) ?_
    show Ev _ (A4M f)
    unfold A4M
    by_cases hn:f=[]
    · subst hn;exact D6 (by simp) (Ev.now _)
    · obtain⟨x,h1,h2,h3,h4,h5⟩:=B3X (d:=d0) (by omega:f.length<1099511627776) hn
      rw [h5,h1]
      refine C4 h2 (C4 h3 (C4 h4 (Ev.bind (E6m (hI x (by rw [List.take_length];exact List.mem_of_getLast? h1))) ?_)))
      show Ev _ (if zq x=true then 1 else 0)
      cases zq x with
      |true=>exact C4 rfl (Ev.now _)
      |false=>cases x.1.1<;>exact D6 (by decide) (Ev.now _)
  · intro pre a post _ hp hi hr hI ih
    show Ev (fun k=>A5j (o6 k) (P1 k) (J9 k) _ _ _ _) _
    unfold A5j
    refine K9 hi (by omega) hi ?_
    rw [hr]
    exact Ev.bind (D1C a) (E2 Iff.rfl (fun _=>Ev.now _) fun c2=>ih () (D7b hp hI (Decidable.not_not.1 c2)))
end Go.Proofs.YtijohnkgomcdbaaGreatV
set_option maxRecDepth 100000
namespace Go.Proofs.YtijohnkgomcdbaaGreatV
open Go Go.RowKit YtijohnkgomcdbaaGreat YtijohnkgomcdbaaGreatE YtijohnkgomcdbaaGreatN YtijohnkgomcdbaaGreat.All YtijohnkgomcdbaaGreatW.PrintWords YtijohnkgomcdbaaGreatW.PrintLast YtijohnkgomcdbaaGreatW.PrintMore
theorem D8h {x:Int} (h1: -9223372036854775808≤x) (h2:x<9223372036854775808):(ab x).size≤8:=by
 unfold ab
 rw [A6F]
 omega
theorem Sm.quo {n d:Int} {s:Nat} (hn:(ab n).size≤s) (hd:(ab d).size≤s) (h0:d≠0):Sm s (Rat.divInt n d):=by
 have e:=B5h (n:=n) h0
 unfold fr at e
 rw [Prod.mk.injEq,Prod.mk.injEq,B7b]at e
 exact⟨by rw [←e.1.2];exact Nat.le_trans (C2B _ _) hn,by rw [←e.2];exact Nat.le_trans (C2B _ _) hd⟩
theorem D6o {x:Int} (h1: -9223372036854775808≤x) (h2:x<9223372036854775808):Ev (fun k=>exact_IntOf.f k x) (ng x,ab x):=by
 by_cases h:x<0
 ·rw [A7l h]
  have e:IntKind.u64.wrap (-(IntKind.u64.wrap x))=((x.natAbs:Nat):Int):=by
   rw [IntKind.wrap_u64,IntKind.wrap_u64]
   omega
  have:=D5c (u:=x.natAbs) (by omega)
  rw [←e]at this
  exact Ev.congr (fun k=>if_pos h) (Ev.bind this (Ev.now _))
 ·rw [A5h (by omega)]
  have e:IntKind.u64.wrap x=((x.natAbs:Nat):Int):=by
   rw [IntKind.wrap_u64]
   omega
  have:=D5c (u:=x.natAbs) (by omega)
  rw [←e]at this
  exact Ev.congr (fun k=>if_neg h) (Ev.bind this (Ev.now _))
section
variable {p q:Int} (p1: -9223372036854775808≤p) (p2:p<9223372036854775808) (q1: -9223372036854775808≤q) (q2:q<9223372036854775808)
include p1 p2 q1 q2
end
section
variable {u v:Int} (su:(ab u).size≤1024) (sv:(ab v).size≤1024)
include su sv
end
end Go.Proofs.YtijohnkgomcdbaaGreatV
set_option maxRecDepth 100000
namespace Go.Proofs.YtijohnkgomcdbaaGreatV
open Go Go.RowKit Go.Proofs.YtijohnkgomcdbaaGreat Go.Proofs.YtijohnkgomcdbaaGreatE Go.Proofs.YtijohnkgomcdbaaGreatN Go.Proofs.YtijohnkgomcdbaaGreat.All Go.Proofs.YtijohnkgomcdbaaGreatW.PrintWords Go.Proofs.YtijohnkgomcdbaaGreatW.PrintLast Go.Proofs.YtijohnkgomcdbaaGreatW.PrintMore
theorem D2x {i:Int} (h1: -9223372036854775808≤i) (h2:i<9223372036854775808):Ev (fun k=>D7 k i) (fr (i:Rat)):=by
  have h:=D6o h1 h2
  rw [C6s,B4W]
  refine N1 h ?_
  rintro k h
  try dsimp only [fr]at h
  show D7 _ _=_
  unfold D7 B89
  simp only [fr,T2,A7S,A4i,Ya,Yb,Yc,Yd,Ye,Yf,Yg,Yh,Yi,Yj,Yk,Int.reduceEq,reduceCtorEq,Yl,Ym,Yn,Yo,Yp,Yq,Yr,Ys,Yt,Yu,Yv,Yw,Yx,Yy,Yz,YA,YB,YC,h]
theorem D5M {i:Int} (h1: -9223372036854775808≤i) (h2:i<9223372036854775808):Ev (fun k=>J7 k i) (fr (i:Rat)):=by
  have h:=E3Q h1 h2
  rw [C6s,B4W]
  refine N1 h ?_
  rintro k h
  try dsimp only [fr]at h
  show J7 _ _=_
  unfold J7 B81
  simp only [fr,A4Y,Ya,Yb,Yc,Yd,Ye,Yf,Yg,Yh,Yi,Yj,Yk,Int.reduceEq,reduceCtorEq,Yl,Ym,Yn,Yo,Yp,Yq,Yr,Ys,Yt,Yu,Yv,Yw,Yx,Yy,Yz,YA,YB,YC,h]
def ix {α:Type} (p:α→Bool):Nat→List α→Int
  |_,[]=> -1
  |n,a::l=>if p a=true then(n:Int)else ix p (n+1) l
theorem B4h {α:Type} (p:α→Bool):∀(l:List α) (n:Nat),decide (ix p n l≥0)=l.any p
  | [],n=>rfl
  | a::l,n=>by
    unfold ix
    rw [List.any_cons]
    cases hp:p a with
    |true=>rw [if_pos rfl];simp
    |false=>rw [if_neg (by decide),B4h p l,Bool.false_or]
theorem C2R {f:FP} (h:J4 f=0):f.length≤65:=by
  unfold J4 at h
  by_cases c:65<f.length
  · rw [if_pos c]at h;cases h
  · omega
def B6d (x:FV):Bool:=(((x.1.1==(fr ((1:Int):Rat)).1.1)&&(E6 x.1.2 (fr ((1:Int):Rat)).1.2))&&(E6 x.2 (fr ((1:Int):Rat)).2))
def C6t (m:FP):Bool:=match m.getLast? with|none=>false|some x=>B6d x
def wh (x:FV):Bool:=E6 x.2 ⟨#[1]⟩
def form (m:FP):Int:=if J4 m≠0 then J4 m else if m.length<2 then 1 else if(!C6t m)=true then 1 else if(!m.all wh)=true then 1 else if 25<m.length then 4 else 0
theorem D8r {m:FP} (hl:m.length<1099511627776):Ev (fun k=>A4l k m) (ix (fun x=>!wh x) 0 m):=by
  show Ev (fun k=>B3I (A0C k) _) _
  unfold B3I
  refine U4 (d:=d0) hl (fun k i (_:Unit)=>A0C k m (m.length:Int) i) (fun n _ l=>ix (fun x=>!wh x) n l) (fun _ _=>True) () trivial ?_ ?_
  · intro _ _
    show Ev (fun k=>A6v (A0C k) (A1k k) _ _ _) _
    unfold A6v
    exact D6 (Int.lt_irrefl _) (Ev.now _)
  · intro pre a post _ hp hi hr _ ih
    show Ev (fun k=>A6v (A0C k) (A1k k) _ _ _) _
    unfold A6v
    refine K9 hi (by omega) hi ?_
    rw [hr]
    have h1:Ev (fun k=>A1k k a) (!wh a):=Ev.now _
    exact Ev.bind h1 (A3Y (fun _=>Ev.now _) fun _=>ih () trivial)
theorem D7z {α:Type} (p:α→Bool) (l:List α):l.any (fun x=>!p x)=!l.all p:=by
  induction l with
  |nil=>rfl
  |cons a l ih=>rw [List.any_cons,List.all_cons,ih,Bool.not_and]
theorem D2i {m:FP} {x:FV} (h1:m.getLast?=some x):C6t m=B6d x:=by unfold C6t;rw [h1]
theorem B1E (m:FP):Ev (fun k=>P6 k m) (form m):=by
  show Ev (fun k=>B1i (D7 k) (R8 k) (A4A k) _) _
  unfold B1i
  refine Ev.bind (B6w m) (E2 Iff.rfl (fun _=>Ev.now _) fun c=>?_)
  have hl:=C2R (Decidable.not_not.1 c)
  have w:wrap64 ((m.length:Int)-1)=(m.length:Int)-1:=A2q (by omega) (by omega)
  refine E2 (by rw [w];omega) (fun _=>Ev.now _) fun c2=>?_
  obtain⟨x,h1,h2,h3,h4,h5⟩:=B3X (d:=d0) (by omega:m.length<1099511627776) (fun e=>c2 (by rw [e];decide))
  refine C4 h3 (C4 h4 (Ev.bind (D2x (by decide) (by decide)) ?_))
  rw [h5,D2i h1]
  refine A3Y (c:=!B6d x) (fun _=>Ev.now _) fun _=>?_
  have h6:Ev (fun k=>A4A k m) (!m.all wh):=by
    rw [←D7z,←B4h _ _ 0]
    exact Ev.bind (D8r (by omega)) (Ev.now _)
  refine Ev.bind h6 (A3Y (fun _=>Ev.now _) fun _=>?_)
  exact E2 (by rw [w];omega) (fun _=>Ev.now _) fun _=>Ev.now _
theorem C1c {m:FP} (hl:m.length<1099511627776):Ev (fun k=>P5 k m) ((m.length:Int)-1):=by
  have w:wrap64 ((m.length:Int)-1)=(m.length:Int)-1:=A2q (by omega) (by omega)
  show Ev (fun k=>some (wrap64 ((m.length:Int)-1))) _
  rw [w];exact Ev.now _
theorem A7T (m:FP):Ev (fun k=>G7 k m) (form m):=by
  show Ev (fun k=>B13 (q7 k) (M1 k) (A3D k) (J7 k) _) _
  unfold B13
  refine Ev.bind (A8s m) (E2 Iff.rfl (fun _=>Ev.now _) fun c=>?_)
  have hl:=C2R (Decidable.not_not.1 c)
  refine E2 (by omega) (fun _=>Ev.now _) fun c2=>?_
  obtain⟨x,h1,h2,h3,h4,h5⟩:=B3X (d:=d0) (by omega:m.length<1099511627776) (fun e=>c2 (by rw [e];decide))
  have hL:Ev (fun k=>A3D k m) x:=by
    show Ev (fun k=>B80 (J7 k) _) _
    unfold B80
    refine D6 (by omega) (C4 h3 (C4 h4 ?_))
    rw [h5];exact Ev.now x
  refine Ev.bind hL (Ev.bind (D5M (by decide) (by decide)) ?_)
  rw [D2i h1]
  refine A3Y (c:=!B6d x) (fun _=>Ev.now _) fun _=>?_
  refine U4 (d:=d0) (by omega) (fun k i (_:Unit)=>q7 k m (m.length:Int) i m) (fun _ _ l=>if(!l.all wh)=true then 1 else if 25<m.length then 4 else 0) (fun _ _=>True) () trivial ?_ ?_
  · intro _ _
    show Ev (fun k=>A7P (q7 k) (P5 k) (A1l k) _ _ _ _) _
    unfold A7P
    refine D6 (Int.lt_irrefl _) (Ev.bind (C1c (by omega)) ?_)
    show Ev _ (if 25<m.length then(4:Int)else 0)
    exact E2 (by show(m.length:Int)-1>24↔_;omega) (fun _=>Ev.now _) fun _=>Ev.now _
  · intro pre a post _ hp hi hr _ ih
    show Ev (fun k=>A7P (q7 k) (P5 k) (A1l k) _ _ _ _) _
    unfold A7P
    refine K9 hi (by omega) hi ?_
    rw [hr,List.all_cons]
    have h6:Ev (fun k=>A1l k a) (wh a):=Ev.now _
    refine Ev.bind h6 ?_
    cases h:wh a with
    |false=>exact B1T rfl (Ev.now _)
    |true=>rw [Bool.true_and];exact u6 rfl (ih () trivial)
theorem B6K {m:FP} (h:form m=0):J4 m=0∧2≤m.length∧m.length≤25:=by
  unfold form at h
  by_cases c:J4 m≠0
  · rw [if_pos c]at h;exact absurd h c
  · rw [if_neg c]at h
    by_cases c2:m.length<2
    · rw [if_pos c2]at h;cases h
    · rw [if_neg c2]at h
      split at h
      · cases h
      · split at h
        · cases h
        · split at h
          · cases h
          · exact⟨Decidable.not_not.1 c,by omega,by omega⟩
def elt (m a:FP):Int:=if J4 a≠0 then J4 a else if m.length≤a.length then 3 else 0
theorem E4p (m a:FP):Ev (fun k=>c7 k m a) (elt m a):=by
  show Ev (fun k=>B1s (R8 k) _ _) _
  unfold B1s
  exact Ev.bind (B6w a) (E2 Iff.rfl (fun _=>Ev.now _) fun c=>E2 (by omega) (fun _=>Ev.now _) fun _=>Ev.now _)
theorem E0s {m:FP} (a:FP) (hm:form m=0):Ev (fun k=>A0z k m a) (elt m a):=by
  show Ev (fun k=>B55 (G7 k) (P5 k) (M1 k) _ _) _
  unfold B55
  unfold elt
  have hl:=B6K hm
  have h1:=A7T m
  rw [hm]at h1
  refine Ev.bind h1 (D6 (by decide) (Ev.bind (A8s a) ?_))
  by_cases c:J4 a=0
  · rw [c]
    exact C4 rfl (Ev.bind (C1c (by omega)) (E2 (d:=m.length≤a.length) (by omega) (fun _=>Ev.now _) fun _=>Ev.now _))
  · have:=D6 (a:=fun k=>(P5 k m).bind fun r3=>(if(a.length:Int)>r3 then(some 3)else(some (J4 a)))) c (Ev.now (J4 a))
    rw [if_pos c];exact this
def B2t (f:List FP):Int:=match f.getLast? with|none=>0|some x=>if x.length=0 then 1 else 0
def fck (m:FP) (f:List FP):Int:=if 65<f.length then 4 else O8 (elt m) (B2t f) f
def U2 (m:FP) (f:List FP):Int:=if form m≠0 then form m else fck m f
theorem D4O {f:List FP} (hl:f.length<1099511627776):Ev (fun(k:Nat)=>if(f.length:Int)>0 then(if 0≤wrap64 ((f.length:Int)-1)then(if wrap64 ((f.length:Int)-1)<(f.length:Int)then(if((C2 ([]:FP) f (wrap64 ((f.length:Int)-1))).length:Int)=0 then(some 1)else(some 0))else(none))else(none))else(some (0:Int))) (B2t f):=by
  unfold B2t
  by_cases hn:f=[]
  · subst hn;exact D6 (by simp) (Ev.now _)
  · obtain⟨x,h1,h2,h3,h4,h5⟩:=B3X (d:=([]:FP)) hl hn
    rw [h5,h1]
    exact C4 h2 (C4 h3 (C4 h4 (E2 (by omega) (fun _=>Ev.now _) fun _=>Ev.now _)))
theorem D4k (m:FP) (f:List FP):Ev (fun k=>Z4 k m f) (fck m f):=by
  show Ev (fun k=>B2H (z6 k) _ _) _
  unfold B2H
  refine E2 (by omega) (fun _=>Ev.now _) fun c=>U4 (d:=([]:FP)) (by omega) (fun k i (_:Unit)=>z6 k f f (f.length:Int) i m) (fun _ _=>O8 (elt m) (B2t f)) (fun _ _=>True) () trivial ?_ ?_
  · intro _ _
    show Ev (fun k=>A7B (z6 k) (c7 k) _ _ _ _ _) _
    unfold A7B
    exact D6 (Int.lt_irrefl _) (D4O (by omega))
  · intro pre a post _ hp hi hr _ ih
    show Ev (fun k=>A7B (z6 k) (c7 k) _ _ _ _ _) _
    unfold A7B
    refine K9 hi (by omega) hi ?_
    rw [hr]
    exact Ev.bind (E4p m a) (E2 Iff.rfl (fun _=>Ev.now _) fun _=>ih () trivial)
theorem D2B (m:FP) (f:List FP):Ev (fun k=>A3x k m f) (U2 m f):=by
  show Ev (fun k=>B72 (P6 k) (Z4 k) _ _) _
  unfold B72
  exact Ev.bind (B1E m) (E2 Iff.rfl (fun _=>Ev.now _) fun _=>Ev.bind (D4k m f) (Ev.now _))
theorem B6Q (m:FP) (f:List FP):Ev (fun k=>Q2 k m f) (U2 m f):=by
  show Ev (fun k=>B14 (A0O k) (G7 k) _ _) _
  unfold B14
  refine Ev.bind (A7T m) (E2 Iff.rfl (fun _=>Ev.now _) fun c0=>E2 (by omega) (fun _=>Ev.now _) fun c=>U4 (d:=([]:FP)) (by omega) (fun k i (_:Unit)=>A0O k f f (f.length:Int) i m) (fun _ _=>O8 (elt m) (B2t f)) (fun _ _=>True) () trivial ?_ ?_)
  · intro _ _
    show Ev (fun k=>A7R (A0O k) (A0z k) _ _ _ _ _) _
    unfold A7R
    exact D6 (Int.lt_irrefl _) (D4O (by omega))
  · intro pre a post _ hp hi hr _ ih
    show Ev (fun k=>A7R (A0O k) (A0z k) _ _ _ _ _) _
    unfold A7R
    refine K9 hi (by omega) hi ?_
    rw [hr]
    exact Ev.bind (E0s a (Decidable.not_not.1 c0)) (E2 Iff.rfl (fun _=>Ev.now _) fun _=>ih () trivial)
def fst (m:FP) (l:List (List FP)):Int:=if form m≠0 then form m else O8 (fck m) 0 l
theorem D2d (m:FP) {l:List (List FP)} (hl:l.length<1099511627776):Ev (fun k=>J2 k m l) (fst m l):=by
  show Ev (fun k=>B83 (A0B k) (P6 k) _ _) _
  unfold B83
  refine Ev.bind (B1E m) (E2 Iff.rfl (fun _=>Ev.now _) fun c=>U4 (d:=([]:List FP)) hl (fun k i (_:Unit)=>A0B k l (l.length:Int) i m) (fun _ _=>O8 (fck m) 0) (fun _ _=>True) () trivial ?_ ?_)
  · intro _ _
    show Ev (fun k=>A6O (A0B k) (Z4 k) _ _ _ _) _
    unfold A6O
    exact D6 (Int.lt_irrefl _) (Ev.now _)
  · intro pre a post _ hp hi hr _ ih
    show Ev (fun k=>A6O (A0B k) (Z4 k) _ _ _ _) _
    unfold A6O
    refine K9 hi (by omega) hi ?_
    rw [hr]
    exact Ev.bind (D4k m a) (E2 Iff.rfl (fun _=>Ev.now _) fun _=>ih () trivial)
theorem D3a (m:FP) (f:List FP):fst m [f]=U2 m f:=by
  unfold fst U2
  by_cases c:form m≠0
  · rw [if_pos c,if_pos c]
  · rw [if_neg c,if_neg c]
    show(if fck m f≠0 then fck m f else 0)=fck m f
    by_cases c2:fck m f≠0
    · rw [if_pos c2]
    · rw [if_neg c2,Decidable.not_not.1 c2]
theorem F1f {l:List Int} (hl:l.length<1099511627776):Ev (fun k=>A2e k l) (O8 id 0 l):=by
  show Ev (fun k=>B34 (z8 k) _) _
  unfold B34
  refine U4 (d:=(0:Int)) hl (fun k i (_:Unit)=>z8 k l (l.length:Int) i) (fun _ _=>O8 id 0) (fun _ _=>True) () trivial ?_ ?_
  · intro _ _
    show Ev (fun k=>A6c (z8 k) _ _ _) _
    unfold A6c
    exact D6 (Int.lt_irrefl _) (Ev.now _)
  · intro pre a post _ hp hi hr _ ih
    show Ev (fun k=>A6c (z8 k) _ _ _) _
    unfold A6c
    have hr':rd l (pre.length:Int)=a:=hr
    refine K9 hi (by omega) hi ?_
    rw [hr']
    exact E2 (d:=id a≠0) Iff.rfl (fun _=>Ev.now _) fun _=>ih () trivial
def sm8 (x:FV):Bool:=if 8<x.1.2.size then false else if 8<x.2.size then false else true
def few (f:FP) (n:Nat):Bool:=if n+1<f.length then false else if J4 f≠0 then false else f.all sm8
theorem D5s (f:FP) {n:Nat} (hn:n<1000):Ev (fun k=>j7 k f (n:Int)) (few f n):=by
  show Ev (fun k=>B70 (v8 k) (M1 k) _ _) _
  unfold B70
  have w:wrap64 ((n:Int)+1)=(n:Int)+1:=A2q (by omega) (by omega)
  rw [w]
  refine E2 (by omega) (fun _=>Ev.now _) fun c=>Ev.bind (A8s f) (E2 Iff.rfl (fun _=>Ev.now _) fun _=>?_)
  refine U4 (d:=d0) (by omega) (fun k i (_:Unit)=>v8 k f (f.length:Int) i) (fun _ _ l=>l.all sm8) (fun _ _=>True) () trivial ?_ ?_
  · intro _ _
    show Ev (fun k=>A7M (v8 k) _ _ _) _
    unfold A7M
    exact D6 (Int.lt_irrefl _) (Ev.now _)
  · intro pre a post _ hp hi hr _ ih
    show Ev (fun k=>A7M (v8 k) _ _ _) _
    unfold A7M
    refine K9 hi (by omega) hi ?_
    rw [hr,List.all_cons]
    have e:(sm8 a&&post.all sm8)=if 8<a.1.2.size then false else if 8<a.2.size then false else post.all sm8:=by
      unfold sm8
      split
      · rfl
      · split<;>simp
    rw [e]
    exact E2 (by omega) (fun _=>Ev.now _) fun _=>E2 (by omega) (fun _=>Ev.now _) fun _=>ih () trivial
def A8N (m a:FP):Bool:=if form m=0 then(if a.length≤m.length-1 then few a (m.length-1)else false)else false
theorem D9k (m a:FP):Ev (fun k=>A1c k m a) (A8N m a):=by
  show Ev (fun k=>B49 (G7 k) (P5 k) (j7 k) _ _) _
  unfold B49
  refine Ev.bind (A7T m) (E2 Iff.rfl (fun c=>?_) fun _=>Ev.now _)
  have hl:=B6K c
  have e:(m.length:Int)-1=((m.length-1:Nat):Int):=by omega
  have hd:=C1c (m:=m) (by omega)
  rw [e]at hd
  exact Ev.bind hd (E2 (by show(a.length:Int)≤((m.length-1:Nat):Int)↔_;omega) (fun _=>Ev.bind hd (Ev.bind (D5s a (by omega)) (Ev.now _))) fun _=>Ev.now _)
def sm4 (x:FV):Bool:=if 4<x.1.2.size then false else true
def B4D (m:FP) (n:Nat):Bool:=if n+1<m.length then false else if form m≠0 then false else m.all sm4
theorem D3y (m:FP) {n:Nat} (hn:n<1000):Ev (fun k=>V8 k m (n:Int)) (B4D m n):=by
  show Ev (fun k=>B79 (n6 k) (G7 k) _ _) _
  unfold B79
  have w:wrap64 ((n:Int)+1)=(n:Int)+1:=A2q (by omega) (by omega)
  rw [w]
  refine E2 (by omega) (fun _=>Ev.now _) fun c=>Ev.bind (A7T m) (E2 Iff.rfl (fun _=>Ev.now _) fun _=>?_)
  refine U4 (d:=d0) (by omega) (fun k i (_:Unit)=>n6 k m (m.length:Int) i) (fun _ _ l=>l.all sm4) (fun _ _=>True) () trivial ?_ ?_
  · intro _ _
    show Ev (fun k=>A6p (n6 k) _ _ _) _
    unfold A6p
    exact D6 (Int.lt_irrefl _) (Ev.now _)
  · intro pre a post _ hp hi hr _ ih
    show Ev (fun k=>A6p (n6 k) _ _ _) _
    unfold A6p
    refine K9 hi (by omega) hi ?_
    rw [hr,List.all_cons]
    have e:(sm4 a&&post.all sm4)=if 4<a.1.2.size then false else post.all sm4:=by
      unfold sm4
      split
      · rfl
      · simp
    rw [e]
    exact E2 (by omega) (fun _=>Ev.now _) fun _=>ih () trivial
def A6h (m:FP) (f:List FP) (n d:Nat):Bool:=if(!B4D m n)=true then false else if d+1<f.length then false else if U2 m f≠0 then false else f.all (A8N m)
theorem D6s (m:FP) (f:List FP) {n d:Nat} (hn:n<1000) (hd:d<1000):Ev (fun k=>A0q k m f (n:Int) (d:Int)) (A6h m f n d):=by
  show Ev (fun k=>B26 (A0J k) (Q2 k) (V8 k) _ _ _ _) _
  unfold B26
  have w:wrap64 ((d:Int)+1)=(d:Int)+1:=A2q (by omega) (by omega)
  rw [w]
  refine Ev.bind (D3y m hn) (A3Y (fun _=>Ev.now _) fun _=>E2 (by omega) (fun _=>Ev.now _) fun c=>Ev.bind (B6Q m f) (E2 Iff.rfl (fun _=>Ev.now _) fun _=>?_))
  refine U4 (d:=([]:FP)) (by omega) (fun k i (_:Unit)=>A0J k f (f.length:Int) i m) (fun _ _ l=>l.all (A8N m)) (fun _ _=>True) () trivial ?_ ?_
  · intro _ _
    show Ev (fun k=>A6u (A0J k) (A1c k) _ _ _ _) _
    unfold A6u
    exact D6 (Int.lt_irrefl _) (Ev.now _)
  · intro pre a post _ hp hi hr _ ih
    show Ev (fun k=>A6u (A0J k) (A1c k) _ _ _ _) _
    unfold A6u
    refine K9 hi (by omega) hi ?_
    rw [hr,List.all_cons]
    refine Ev.bind (D9k m a) ?_
    cases A8N m a with
    |false=>exact B1T rfl (Ev.now _)
    |true=>rw [Bool.true_and];exact u6 rfl (ih () trivial)
def bad (m:FP) (f:List FP):Bool:=if U2 m f=0 then !A6h m f 4 4 else false
def B6m (m:FP) (l:List (List FP)):Bool:=if form m≠0 then false else if l.any (bad m)=true then true else !B4D m 4
theorem D8q (m:FP) {l:List (List FP)} (hl:l.length<1099511627776):Ev (fun k=>A3P k m l) (B6m m l):=by
  show Ev (fun k=>B12 (q9 k) (G7 k) _ _) _
  unfold B12
  refine Ev.bind (A7T m) (E2 Iff.rfl (fun _=>Ev.now _) fun _=>?_)
  refine U4 (d:=([]:List FP)) hl (fun k i (_:Unit)=>q9 k l (l.length:Int) i m) (fun _ _ l=>if l.any (bad m)=true then true else !B4D m 4) (fun _ _=>True) () trivial ?_ ?_
  · intro _ _
    show Ev (fun k=>A6P (q9 k) (Q2 k) (A0q k) (V8 k) _ _ _ _) _
    unfold A6P
    exact D6 (Int.lt_irrefl _) (Ev.bind (D3y m (n:=4) (by omega)) (Ev.now _))
  · intro pre a post _ hp hi hr _ ih
    show Ev (fun k=>A6P (q9 k) (Q2 k) (A0q k) (V8 k) _ _ _ _) _
    unfold A6P
    refine K9 hi (by omega) hi ?_
    rw [hr,List.any_cons]
    refine Ev.bind (B6Q m a) ?_
    unfold bad
    by_cases c:U2 m a=0
    · rw [if_pos c]
      refine C4 c (Ev.bind (D6s m a (n:=4) (d:=4) (by omega) (by omega)) ?_)
      cases A6h m a 4 4 with
      |false=>exact B1T rfl (Ev.now _)
      |true=>exact u6 rfl (ih () trivial)
    · rw [if_neg c,Bool.false_or]
      exact D6 c (ih () trivial)
theorem C3h (a:Rat):zq (fr a)=decide (a=0):=by
  have e:zq (fr a)=decide (a.num=0):=by unfold zq fr;rw [F1];exact C4u a.num
  rw [e,Bool.eq_iff_iff,decide_eq_true_eq,decide_eq_true_eq,Rat.num_eq_zero]
theorem E0O {f:FP} {n:Nat} (h:∀x,x∈f→∃a:Rat,x=fr a∧Sm n a):∃g:List Rat,f=g.map fr∧∀a,a∈g→Sm n a:=by
  induction f with
  |nil=>exact⟨[],rfl,fun a ha=>by simp at ha⟩
  | cons x f ih=>
    obtain⟨g,rfl,hg⟩:=ih fun y hy=>h y (List.mem_cons_of_mem _ hy)
    obtain⟨a,rfl,ha⟩:=h x List.mem_cons_self
    exact⟨a::g,rfl,fun b hb=>by rcases List.mem_cons.1 hb with rfl|hb;exact ha;exact hg b hb⟩
theorem E5M {f:FP} (h:J4 f=0):f.length≤65∧(∀x,x∈f→Q6 x=0)∧∀x,f.getLast?=some x→zq x=false:=by
  have hl:=C2R h
  unfold J4 at h
  rw [if_neg (by omega)]at h
  obtain⟨h1,h2⟩:=D2g h
  refine⟨hl,h1,fun x hx=>?_⟩
  unfold A4M at h2
  rw [hx]at h2
  cases hz:zq x with
  |false=>rfl
  |true=>simp [hz]at h2
theorem D7f {f:FP} (h:J4 f=0):∃g:List Rat,f=g.map fr∧(∀a,a∈g→Sm 1024 a)∧g.length≤65∧∀a,g.getLast?=some a→a≠0:=by
  obtain⟨h1,h2,h3⟩:=E5M h
  obtain⟨g,rfl,hg⟩:=E0O (n:=1024) fun x hx=>D3G (h2 x hx)
  refine⟨g,rfl,hg,by rwa [List.length_map]at h1,fun a ha h0=>?_⟩
  have:=h3 (fr a) (by rw [List.getLast?_map,ha];rfl)
  rw [C3h,decide_eq_false_iff_not]at this
  exact this h0
theorem D3W {f:FP} {n:Nat} (h:few f n=true):∃g:List Rat,f=g.map fr∧(∀a,a∈g→Sm 8 a)∧g.length≤n+1∧∀a,g.getLast?=some a→a≠0:=by
  unfold few at h
  by_cases c:n+1<f.length
  · rw [if_pos c]at h;cases h
  · rw [if_neg c]at h
    by_cases c2:J4 f≠0
    · rw [if_pos c2]at h;cases h
    · rw [if_neg c2]at h
      obtain⟨g,rfl,hg,hl,hz⟩:=D7f (Decidable.not_not.1 c2)
      rw [List.length_map]at c
      refine⟨g,rfl,fun a ha=>?_,by omega,hz⟩
      have h1:=List.all_eq_true.1 h (fr a) (List.mem_map_of_mem ha)
      unfold sm8 at h1
      split at h1
      · cases h1
      · split at h1
        · cases h1
        · rename_i h2 h3
          exact⟨Nat.not_lt.1 h2,Nat.not_lt.1 h3⟩
theorem F1C {m:FP} {f:List FP} {n d:Nat} (h:A6h m f n d=true):∃g:List (List Rat),f=g.map (List.map fr)∧(∀a,a∈g→(∀q,q∈a→Sm 8 q)∧(∀q,a.getLast?=some q→q≠0)∧a.length<m.length)∧g.length≤d+1:=by
  unfold A6h at h
  split at h
  · cases h
  · split at h
    · cases h
    · rename_i c
      split at h
      · cases h
      · have h1:=List.all_eq_true.1 h
        have:∀l:List FP,(∀a,a∈l→A8N m a=true)→∃g:List (List Rat),l=g.map (List.map fr)∧∀a,a∈g→(∀q,q∈a→Sm 8 q)∧(∀q,a.getLast?=some q→q≠0)∧a.length<m.length:=by
          intro l
          induction l with
          |nil=>exact fun _=>⟨[],rfl,fun a ha=>by simp at ha⟩
          | cons x l ih=>
            intro hl
            obtain⟨g,rfl,hg⟩:=ih fun y hy=>hl y (List.mem_cons_of_mem _ hy)
            have hx:=hl x List.mem_cons_self
            unfold A8N at hx
            split at hx
            · rename_i hm
              split at hx
              · rename_i hlen
                obtain⟨b,rfl,h2,h3,h4⟩:=D3W hx
                rw [List.length_map]at hlen
                have:=B6K hm
                exact⟨b::g,rfl,fun a ha=>by rcases List.mem_cons.1 ha with rfl|ha;exact⟨h2,h4,by omega⟩;exact hg a ha⟩
              · cases hx
            · cases hx
        obtain⟨g,rfl,hg⟩:=this f h1
        exact⟨g,rfl,hg,by rw [List.length_map]at c;omega⟩
theorem A1m {α β S R:Type} {d:α} {e:β→α} {l:List β} (hl:l.length<1099511627776) (g:Nat→Int→S→Option R) (F:List β→S→List β→R) (I:List β→S→Prop)
    (hT:∀s,I l s→Ev (fun k=>g (k+1) (l.length:Int) s) (F l s []))
    (hC:∀pre a post s,l=pre++a::post→(pre.length:Int)<l.length→C2 d (l.map e) (pre.length:Int)=e a→I pre s→
      (∀s',I (pre++[a]) s'→Ev (fun k=>g k (wrap64 ((pre.length:Int)+1)) s') (F (pre++[a]) s' post))→Ev (fun k=>g (k+1) (pre.length:Int) s) (F pre s (a::post))):
    ∀(post pre:List β) (s:S),l=pre++post→I pre s→Ev (fun k=>g k (pre.length:Int) s) (F pre s post)
  | [],pre,s,hp,hI=>by
    have h0:l=pre:=by rw [hp,List.append_nil]
    subst h0
    exact Ev.step (f:=fun k=>g (k+1) (l.length:Int) s) (fun k=>rfl) (hT s hI)
  | a::post,pre,s,hp,hI=>by
    have h1:l.length=pre.length+post.length+1:=by rw [hp,List.length_append,List.length_cons];omega
    refine Ev.step (f:=fun k=>g (k+1) (pre.length:Int) s) (fun k=>rfl) ?_
    refine hC pre a post s hp (by omega) ?_ hI fun s' hI'=>?_
    · rw [hp,List.map_append,List.map_cons]
      have:=B6J (d:=d) (pre.map e) (e a) (post.map e)
      rwa [List.length_map]at this
    have h:=A1m hl g F I hT hC post (pre++[a]) s' (by rw [hp,List.append_assoc];rfl) hI'
    have e3:wrap64 ((pre.length:Int)+1)=((pre++[a]).length:Int):=by rw [A2q (by omega) (by omega),List.length_append];rfl
    rw [e3];exact h
def J6 {α:Type} (p:α→Bool) (l:List α):List α:=(l.reverse.dropWhile p).reverse
theorem D2Q {α:Type} (p:α→Bool) (l:List α) (a:α):J6 p (l++[a])=if p a=true then J6 p l else l++[a]:=by
  unfold J6
  rw [List.reverse_append,List.reverse_singleton,List.singleton_append,List.dropWhile_cons]
  split
  · rfl
  · simp
theorem B9m {α β:Type} (p:β→Bool) (f:α→β) (l:List α):J6 p (l.map f)=(J6 (fun x=>p (f x)) l).map f:=by
  unfold J6
  rw [←List.map_reverse,List.dropWhile_map,List.map_reverse];rfl
theorem B6i {α:Type} {p:α→Bool} {l:List α} {x:α} (h:x∈J6 p l):x∈l:=by
  unfold J6 at h
  exact List.mem_reverse.1 ((List.dropWhile_sublist p).subset (List.mem_reverse.1 h))
theorem B4e {α:Type} (p:α→Bool) (l:List α):(J6 p l).length≤l.length:=by
  unfold J6
  rw [List.length_reverse]
  have:=(List.dropWhile_sublist p (l:=l.reverse)).length_le
  rwa [List.length_reverse]at this
theorem back {α:Type} {d:α} {l:List α} (p:α→Bool) (hl:l.length<1099511627776) (g:Nat→Int→Option (List α)) (h0:Ev (fun k=>g (k+1) 0) [])
    (hC:∀pre a post,l=pre++a::post→C2 d l (pre.length:Int)=a→wrap64 (((pre.length+1:Nat):Int)-1)=(pre.length:Int)→pre.length+1≤l.length→Ev (fun k=>g k (pre.length:Int)) (J6 p pre)→
      Ev (fun k=>g (k+1) ((pre.length+1:Nat):Int)) (if p a=true then J6 p pre else pre++[a])):
    ∀(n:Nat) (pre post:List α),pre.length=n→l=pre++post→Ev (fun k=>g k (n:Int)) (J6 p pre)
  | 0,pre,post,hn,hp=>by
    rw [List.length_eq_zero_iff.1 hn]
    exact Ev.step (f:=fun k=>g (k+1) 0) (fun k=>rfl) h0
  | n+1,pre,post,hn,hp=>by
    have hne:pre≠[]:=fun h=>by rw [h]at hn;cases hn
    have e:=List.dropLast_concat_getLast hne
    have e1:pre.dropLast.length=n:=by rw [List.length_dropLast,hn];rfl
    have hp2:l=pre.dropLast++pre.getLast hne::post:=by
      conv=>lhs;rw [hp,←e]
      rw [List.append_assoc];rfl
    have hle:n+1≤l.length:=by rw [hp,List.length_append];omega
    have h:=hC pre.dropLast (pre.getLast hne) post hp2 (by rw [hp2];exact B6J _ _ _) (by rw [e1,A2q (by omega) (by omega)];omega) (by omega) (by
      have:=back p hl g h0 hC n pre.dropLast (pre.getLast hne::post) e1 hp2
      rwa [←e1]at this)
    rw [e1]at h
    refine Ev.step (f:=fun k=>g (k+1) ((n+1:Nat):Int)) (fun k=>rfl) ?_
    rw [←D2Q,e]at h
    exact h
theorem B6X {α:Type} {d:α} {l:List α} (p:α→Bool) (hl:l.length<1099511627776) (g:Nat→Int→Option (List α)) (h0:Ev (fun k=>g (k+1) 0) [])
    (hC:∀pre a post,l=pre++a::post→C2 d l (pre.length:Int)=a→wrap64 (((pre.length+1:Nat):Int)-1)=(pre.length:Int)→pre.length+1≤l.length→Ev (fun k=>g k (pre.length:Int)) (J6 p pre)→
      Ev (fun k=>g (k+1) ((pre.length+1:Nat):Int)) (if p a=true then J6 p pre else pre++[a])):
    Ev (fun k=>g k (l.length:Int)) (J6 p l):=back p hl g h0 hC l.length l [] rfl (by rw [List.append_nil])
theorem B4I {α:Type} {pre post:List α} {a:α}:slice_ (pre++a::post) 0 ((pre.length+1:Nat):Int)=pre++[a]:=by
  have e:pre++a::post=(pre++[a])++post:=by rw [List.append_assoc];rfl
  show(List.take _ _).drop 0=_
  rw [List.drop_zero,e,Int.toNat_natCast,List.take_left' (by rw [List.length_append];rfl)]
theorem C9j {f:FP} (hl:f.length<1099511627776):Ev (fun k=>D8 k f) (J6 zq f):=by
  show Ev (fun k=>B92 (m8 k) _) _
  unfold B92
  refine B6X (d:=d0) zq hl (fun k i=>m8 k f i) ?_ ?_
  · show Ev (fun k=>A5y (m8 k) (J1 k) _ _) _
    unfold A5y
    exact D6 (by decide) (C4 (by decide) (C4 (by decide) (C4 (by decide) (C4 (by omega) (Ev.now [])))))
  · intro pre a post hp hr hw hle ih
    show Ev (fun k=>A5y (m8 k) (J1 k) _ _) _
    unfold A5y
    rw [hw,hr]
    refine C4 (by omega) (C4 (by omega) (C4 (by omega) (Ev.bind (D5i a) (A3Y (fun _=>ih) fun _=>?_))))
    refine C4 (by decide) (C4 (by omega) (C4 (Int.le_refl _) (C4 (by omega) ?_)))
    rw [hp,B4I];exact Ev.now _
theorem C8K {f:List FP} (hl:f.length<1099511627776):Ev (fun k=>E3 k f) (J6 List.isEmpty f):=by
  show Ev (fun k=>B2G (m4 k) _) _
  unfold B2G
  refine B6X (d:=([]:FP)) List.isEmpty hl (fun k i=>m4 k f i) ?_ ?_
  · show Ev (fun k=>A7A (m4 k) _ _) _
    unfold A7A
    exact D6 (by decide) (C4 (by decide) (C4 (by decide) (C4 (by decide) (C4 (by omega) (Ev.now [])))))
  · intro pre a post hp hr hw hle ih
    show Ev (fun k=>A7A (m4 k) _ _) _
    unfold A7A
    rw [hw,hr]
    refine C4 (by omega) (C4 (by omega) (C4 (by omega) (E2 (d:=a.isEmpty=true) (by cases a<;>simp;omega) (fun _=>ih) fun _=>?_)))
    refine C4 (by decide) (C4 (by omega) (C4 (Int.le_refl _) (C4 (by omega) ?_)))
    rw [hp,B4I];exact Ev.now _
theorem D5Y {f:List FP} (hl:f.length<1000000):Ev (fun k=>A0n k f) (J6 List.isEmpty f):=by
  show Ev (fun k=>B2l (l9 k) _) _
  unfold B2l
  refine B6X (d:=([]:FP)) List.isEmpty (by omega) (fun k i=>l9 k f i) ?_ ?_
  · show Ev (fun k=>A6t (l9 k) _ _) _
    unfold A6t
    exact D6 (by decide) (C4 (by decide) (C4 (by decide) (C4 (by omega) (C4 (Int.le_refl _) (C4 (by show(0+0)*24≤_;decide) (Ev.now []))))))
  · intro pre a post hp hr hw hle ih
    show Ev (fun k=>A6t (l9 k) _ _) _
    unfold A6t
    rw [hw,hr]
    refine C4 (by omega) (C4 (by omega) (C4 (by omega) (E2 (d:=a.isEmpty=true) (by cases a<;>simp;omega) (fun _=>ih) fun _=>?_)))
    rw [hp,B4I]
    refine C4 (by decide) (C4 (by omega) (C4 (by rw [←hp];omega) (C4 (Int.le_refl _) (C4 ?_ (Ev.now _)))))
    rw [List.length_append,List.length_singleton,List.length_nil];omega
def zr (a:Rat):Bool:=decide (a=0)
theorem C7u:(fun x=>zq (fr x))=zr:=by funext a;exact C3h a
theorem E7C (a:Rat):Ev (fun k=>P1 k (fr a)) (sgn a.num):=by
  have f1:=B5c a.num
  refine⟨0,fun k _=>?_⟩
  show P1 _ _=_
  unfold P1 B1m
  simp only [fr,t7,Ya,Yb,Yc,Yd,Ye,Yf,Yg,Yh,Yi,Yj,Yk,Int.reduceEq,reduceCtorEq,Yl,Ym,Yn,Yo,Yp,Yq,Yr,Ys,Yt,Yu,Yv,Yw,Yx,Yy,Yz,YA,YB,YC,f1]
theorem E1R (a:Rat):sgn a.num=0↔zr a=true:=by
  unfold sgn zr
  rw [decide_eq_true_eq,←Rat.num_eq_zero]
  constructor
  · intro h
    by_cases c:a.num<0
    · rw [if_pos c]at h;cases h
    · rw [if_neg c]at h
      by_cases c2:a.num=0
      · exact c2
      · rw [if_neg c2]at h;cases h
  · intro h;rw [h];rfl
theorem D3O {g:List Rat} (hl:g.length<1000000):Ev (fun k=>S6 k (g.map fr)) ((J6 zr g).map fr):=by
  rw [←C7u,←B9m]
  show Ev (fun k=>B48 (l6 k) _) _
  unfold B48
  refine B6X (d:=d0) zq (by rw [List.length_map];omega) (fun k i=>l6 k (g.map fr) i) ?_ ?_
  · show Ev (fun k=>A7Y (l6 k) (P1 k) _ _) _
    unfold A7Y
    exact D6 (by decide) (C4 (by decide) (C4 (by decide) (C4 (by omega) (C4 (Int.le_refl _) (C4 (by show(0+0)*40≤_;decide) (Ev.now []))))))
  · intro pre a post hp hr hw hle ih
    show Ev (fun k=>A7Y (l6 k) (P1 k) _ _) _
    unfold A7Y
    rw [hw,hr]
    obtain⟨b,hb,rfl⟩:=List.mem_map.1 (show a∈g.map fr by rw [hp];simp)
    refine C4 (by omega) (C4 (by omega) (C4 (by omega) (Ev.bind (E7C b) (E2 (d:=zq (fr b)=true) (by rw [C3h];exact E1R b) (fun _=>ih) fun _=>?_))))
    have hle':pre.length+1≤g.length:=by rwa [List.length_map]at hle
    rw [hp,B4I]
    refine C4 (by decide) (C4 (by omega) (C4 (by rw [←hp];omega) (C4 (Int.le_refl _) (C4 ?_ (Ev.now _)))))
    rw [List.length_append,List.length_singleton,List.length_nil];omega
theorem D1T {α:Type} (s t:List α) (x y:α) {i:Int} (h:i=(s.length:Int)):(s++x::t).set i.toNat y=s++y::t:=by
  subst h;rw [Int.toNat_natCast,List.set_append_right _ _ (Nat.le_refl _),Nat.sub_self];rfl
def scl (c:Rat) (g:List Rat):List Rat:=J6 zr (g.map (· *c))
theorem E8x {g:List Rat} {c:Rat} (hl:g.length<1000000) (hg:∀a,a∈g→Sm 10000 a) (hc:Sm 10000 c):Ev (fun k=>V7 k (g.map fr) (fr c)) ((scl c g).map fr):=by
  have eT:(scl c g).map fr=J6 zq ((g.map (· *c)).map fr):=by unfold scl;rw [B9m zq fr,C7u]
  rw [eT]
  show Ev (fun k=>B1Z (z7 k) _ _) _
  unfold B1Z
  rw [List.length_map]
  refine C4 (by omega) (C4 (Int.le_refl _) (C4 (by omega) ?_))
  rw [Int.toNat_natCast]
  have:=A1m (d:=d0) (e:=fr) (l:=g) (by omega) (fun k i (s:FP)=>z7 k (g.map fr) (g.length:Int) i (fr c) s) (fun _ _ _=>J6 zq ((g.map (· *c)).map fr))
    (fun pre s=>s=(pre.map (· *c)).map fr++List.replicate (g.length-pre.length) d0) ?_ ?_ g [] (List.replicate g.length d0) rfl (by simp)
  · exact this
  · intro s hs
    subst hs
    show Ev (fun k=>A5u (z7 k) (D8 k) (F3 k) _ _ _ _ _) _
    unfold A5u
    rw [Nat.sub_self,List.replicate_zero,List.append_nil]
    exact D6 (Int.lt_irrefl _) (Ev.bind (C9j (by rw [List.length_map,List.length_map];omega)) (Ev.now _))
  · intro pre a post s hp hi hr hs ih
    subst hs
    show Ev (fun k=>A5u (z7 k) (D8 k) (F3 k) _ _ _ _ _) _
    unfold A5u
    have hL:(((pre.map (· *c)).map fr++List.replicate (g.length-pre.length) d0).length:Int)=(g.length:Int):=by
      rw [List.length_append,List.length_map,List.length_map,List.length_replicate];omega
    refine K9 hi (by omega) (by rw [List.length_map];exact hi) ?_
    rw [hr,hL]
    refine Ev.bind (E7V (hg a (by rw [hp];simp)) hc) (A4f (by omega) hi (ih _ ?_))
    have e:g.length-pre.length=(g.length-(pre++[a]).length)+1:=by rw [List.length_append];simp only [List.length_singleton];omega
    rw [e,List.replicate_succ,D1T _ _ _ _ (by rw [List.length_map,List.length_map]),List.map_append,List.map_append]
    simp
theorem E7P {g:List Rat} {c:Rat} (hl:g.length<1000000) (hg:∀a,a∈g→Sm 10000 a) (hc:Sm 10000 c):Ev (fun k=>A0l k (g.map fr) (fr c)) ((scl c g).map fr):=by
  show Ev (fun k=>B98 (q8 k) _ _) _
  unfold B98
  rw [List.length_map]
  refine A1m (d:=d0) (e:=fr) (l:=g) (by omega) (fun k i (s:FP)=>q8 k (g.map fr) (g.length:Int) i (fr c) s) (fun _ _ _=>(scl c g).map fr)
    (fun pre s=>s=(pre.map (· *c)).map fr) ?_ ?_ g [] [] rfl rfl
  · intro s hs
    subst hs
    show Ev (fun k=>A6Y (q8 k) (S6 k) (X2 k) _ _ _ _ _) _
    unfold A6Y
    exact D6 (Int.lt_irrefl _) (Ev.bind (D3O (by rw [List.length_map];omega)) (Ev.now _))
  · intro pre a post s hp hi hr hs ih
    subst hs
    show Ev (fun k=>A6Y (q8 k) (S6 k) (X2 k) _ _ _ _ _) _
    unfold A6Y
    refine K9 hi (by omega) (by rw [List.length_map];exact hi) ?_
    rw [hr]
    refine Ev.bind (E0H (hg a (by rw [hp];simp)) hc) (C4 (by rw [List.length_map,List.length_map];omega) (ih _ ?_))
    rw [List.map_append,List.map_append];rfl
def dl:Nat→List (List Rat)→List (List Rat)
  |_,[]=>[]
  |n,a::l=>scl ((n:Int):Rat) a::dl (n+1) l
theorem C8F:∀(l:List (List Rat)) (n:Nat) (a:List Rat),dl n (l++[a])=dl n l++[scl (((n+l.length:Nat):Int):Rat) a]
  | [],n,a=>rfl
  | b::l,n,a=>by
    have e:n+1+l.length=n+(b::l).length:=by rw [List.length_cons];omega
    show _::dl (n+1) (l++[a])=_
    rw [C8F l (n+1) a,e];rfl
theorem A9n:∀(l:List (List Rat)) (n:Nat),(dl n l).length=l.length
  | [],_=>rfl
  |_::l,n=>by show(dl (n+1) l).length+1=_;rw [A9n l];rfl
def der (g:List (List Rat)):List FP:=J6 List.isEmpty ((dl 1 g.tail).map (List.map fr))
theorem smI {n:Nat} (h:n<1000):Sm 8 ((n:Int):Rat):=⟨by show(ab (n:Int)).size≤8;exact D8h (by omega) (by omega),by show(B4 1).size≤8;decide +kernel⟩
section
variable {g:List (List Rat)} (hl:g.length<1000) (hs:∀a,a∈g→a.length<1000) (hg:∀a,a∈g→∀q,q∈a→Sm 8 q)
include hl hs hg
theorem F2E:Ev (fun k=>A4Z k (g.map (List.map fr))) (der g):=by
  show Ev (fun k=>B2c (c8 k) _) _
  unfold B2c
  cases hgg:g with
  | nil=>
    refine Ev.step (f:=fun k=>c8 (k+1) [] 1 []) (fun k=>rfl) ?_
    show Ev (fun k=>A4J (c8 k) (D7 k) (E3 k) (V7 k) _ _ _) _
    unfold A4J
    exact D6 (by decide) (Ev.bind (C8K (by decide)) (Ev.now _))
  | cons a0 g'=>
    have hl':g.length=g'.length+1:=by rw [hgg];rfl
    have:=A1m (d:=([]:FP)) (e:=List.map fr) (l:=g) (by omega) (fun k i (s:List FP)=>c8 k (g.map (List.map fr)) i s) (fun _ _ _=>der g)
      (fun pre s=>1≤pre.length∧s=(dl 1 pre.tail).map (List.map fr)) ?_ ?_ g' [a0] [] hgg ⟨Nat.le_refl _,rfl⟩
    · rw [hgg]at this;exact this
    · intro s ⟨_,hs1⟩
      subst hs1
      show Ev (fun k=>A4J (c8 k) (D7 k) (E3 k) (V7 k) _ _ _) _
      unfold A4J
      rw [List.length_map]
      exact D6 (Int.lt_irrefl _) (Ev.bind (C8K (by rw [List.length_map,A9n,List.length_tail];omega)) (Ev.now _))
    · intro pre a post s hp hi hr ⟨h1,hs1⟩ ih
      subst hs1
      show Ev (fun k=>A4J (c8 k) (D7 k) (E3 k) (V7 k) _ _ _) _
      unfold A4J
      rw [List.length_map]
      have ha:a∈g:=by rw [hp];simp
      refine K9 hi (by omega) hi ?_
      rw [hr]
      refine Ev.bind (D2x (by omega) (by omega)) (Ev.bind (E8x (g:=a) (by have:=hs a ha;omega) (fun q hq=>(hg a ha q hq).mono (by decide)) ((smI (n:=pre.length) (by omega)).mono (by decide))) (C4 ?_ (ih _ ⟨by rw [List.length_append];omega,?_⟩)))
      · rw [List.length_map,A9n,List.length_tail];omega
      · obtain⟨b,pre',rfl⟩:∃b pre',pre=b::pre':=by cases pre with|nil=>simp at h1|cons b p=>exact⟨b,p,rfl⟩
        show _=(dl 1 (pre'++[a])).map _
        rw [C8F,List.map_append]
        have e:((1+pre'.length:Nat):Int)=((b::pre').length:Int):=by rw [List.length_cons];omega
        rw [e];rfl
theorem F0P:Ev (fun k=>A4S k (g.map (List.map fr))) (der g):=by
  show Ev (fun k=>B74 (b9 k) _) _
  unfold B74
  cases hgg:g with
  | nil=>
    refine Ev.step (f:=fun k=>b9 (k+1) [] 1 []) (fun k=>rfl) ?_
    show Ev (fun k=>A3u (b9 k) (J7 k) (A0l k) (A0n k) _ _ _) _
    unfold A3u
    exact D6 (by decide) (Ev.bind (D5Y (by decide)) (Ev.now _))
  | cons a0 g'=>
    have hl':g.length=g'.length+1:=by rw [hgg];rfl
    have:=A1m (d:=([]:FP)) (e:=List.map fr) (l:=g) (by omega) (fun k i (s:List FP)=>b9 k (g.map (List.map fr)) i s) (fun _ _ _=>der g)
      (fun pre s=>1≤pre.length∧s=(dl 1 pre.tail).map (List.map fr)) ?_ ?_ g' [a0] [] hgg ⟨Nat.le_refl _,rfl⟩
    · rw [hgg]at this;exact this
    · intro s ⟨_,hs1⟩
      subst hs1
      show Ev (fun k=>A3u (b9 k) (J7 k) (A0l k) (A0n k) _ _ _) _
      unfold A3u
      rw [List.length_map]
      exact D6 (Int.lt_irrefl _) (Ev.bind (D5Y (by rw [List.length_map,A9n,List.length_tail];omega)) (Ev.now _))
    · intro pre a post s hp hi hr ⟨h1,hs1⟩ ih
      subst hs1
      show Ev (fun k=>A3u (b9 k) (J7 k) (A0l k) (A0n k) _ _ _) _
      unfold A3u
      rw [List.length_map]
      have ha:a∈g:=by rw [hp];simp
      refine K9 hi (by omega) hi ?_
      rw [hr]
      refine Ev.bind (D5M (by omega) (by omega)) (Ev.bind (E7P (g:=a) (by have:=hs a ha;omega) (fun q hq=>(hg a ha q hq).mono (by decide)) ((smI (n:=pre.length) (by omega)).mono (by decide))) (C4 ?_ (ih _ ⟨by rw [List.length_append];omega,?_⟩)))
      · rw [List.length_map,A9n,List.length_tail];omega
      · obtain⟨b,pre',rfl⟩:∃b pre',pre=b::pre':=by cases pre with|nil=>simp at h1|cons b p=>exact⟨b,p,rfl⟩
        show _=(dl 1 (pre'++[a])).map _
        rw [C8F,List.map_append]
        have e:((1+pre'.length:Nat):Int)=((b::pre').length:Int):=by rw [List.length_cons];omega
        rw [e];rfl
end
def A2B (x:FV):Bool:=if 1024<x.1.2.size then true else decide (1024<x.2.size)
theorem E9S (x:FV):Ev (fun k=>A2K k x) (A2B x):=by
  show Ev (fun k=>B1M _) _
  unfold B1M
  have e:decide ((x.2.size:Int)>1024)=decide (1024<x.2.size):=by rw [Bool.eq_iff_iff,decide_eq_true_eq,decide_eq_true_eq];omega
  rw [e]
  exact E2 (by omega) (fun _=>Ev.now _) fun _=>Ev.now _
theorem E3I {f:FP} (hl:f.length<1099511627776):Ev (fun k=>A0V k f) (f.any A2B):=by
  have h:Ev (fun k=>A4c k f) (ix A2B 0 f):=by
    show Ev (fun k=>B2h (z5 k) _) _
    unfold B2h
    refine U4 (d:=d0) hl (fun k i (_:Unit)=>z5 k f (f.length:Int) i) (fun n _ l=>ix A2B n l) (fun _ _=>True) () trivial ?_ ?_
    · intro _ _
      show Ev (fun k=>A5v (z5 k) (A2K k) _ _ _) _
      unfold A5v
      exact D6 (Int.lt_irrefl _) (Ev.now _)
    · intro pre a post _ hp hi hr _ ih
      show Ev (fun k=>A5v (z5 k) (A2K k) _ _ _) _
      unfold A5v
      refine K9 hi (by omega) hi ?_
      rw [hr]
      exact Ev.bind (E9S a) (A3Y (fun _=>Ev.now _) fun _=>ih () trivial)
  rw [←B4h _ _ 0]
  exact Ev.bind h (Ev.now _)
theorem E0g {f:List FP} (hl:f.length<1099511627776) (hs:∀a,a∈f→a.length<1099511627776):Ev (fun k=>M7 k f) (if 65<f.length then true else f.any (fun a=>a.any A2B)):=by
  have h:Ev (fun k=>A5T k f) (ix (fun a=>a.any A2B) 0 f):=by
    show Ev (fun k=>B3O (m5 k) _) _
    unfold B3O
    refine U4 (d:=([]:FP)) hl (fun k i (_:Unit)=>m5 k f (f.length:Int) i) (fun n _ l=>ix (fun a=>a.any A2B) n l) (fun _ _=>True) () trivial ?_ ?_
    · intro _ _
      show Ev (fun k=>A6N (m5 k) (A1G k) _ _ _) _
      unfold A6N
      exact D6 (Int.lt_irrefl _) (Ev.now _)
    · intro pre a post _ hp hi hr _ ih
      show Ev (fun k=>A6N (m5 k) (A1G k) _ _ _) _
      unfold A6N
      refine K9 hi (by omega) hi ?_
      rw [hr]
      have h1:Ev (fun k=>A1G k a) (a.any A2B):=Ev.bind (E3I (hs a (by rw [hp];simp))) (Ev.now _)
      exact Ev.bind h1 (A3Y (fun _=>Ev.now _) fun _=>ih () trivial)
  show Ev (fun k=>B1V (A3U k) _) _
  unfold B1V
  refine E2 (by omega) (fun _=>Ev.now _) fun _=>?_
  rw [←B4h _ _ 0]
  have h2:Ev (fun k=>A3U k f) (decide (ix (fun a=>a.any A2B) 0 f≥0)):=Ev.bind (Ev.bind h (Ev.now _)) (Ev.now _)
  exact Ev.bind h2 (Ev.now _)
theorem E1z {f:FP} (hl:f.length<1099511627776):Ev (fun k=>A0t k f) (O8 Q6 0 f):=by
  show Ev (fun k=>B3K (w8 k) _) _
  unfold B3K
  refine U4 (d:=d0) hl (fun k i (_:Unit)=>w8 k f (f.length:Int) i) (fun _ _=>O8 Q6 0) (fun _ _=>True) () trivial ?_ ?_
  · intro _ _
    show Ev (fun k=>A5p (w8 k) (J9 k) _ _ _) _
    unfold A5p
    exact D6 (Int.lt_irrefl _) (Ev.now _)
  · intro pre a post _ hp hi hr _ ih
    show Ev (fun k=>A5p (w8 k) (J9 k) _ _ _) _
    unfold A5p
    refine K9 hi (by omega) hi ?_
    rw [hr]
    exact Ev.bind (D1C a) (E2 Iff.rfl (fun _=>Ev.now _) fun _=>ih () trivial)
theorem E6P {f:List FP} (hs:∀a,a∈f→a.length<1099511627776):Ev (fun k=>W0 k f) (if 65<f.length then 4 else O8 (O8 Q6 0) 0 f):=by
  show Ev (fun k=>B44 (A0P k) _) _
  unfold B44
  refine E2 (by omega) (fun _=>Ev.now _) fun c=>U4 (d:=([]:FP)) (by omega) (fun k i (_:Unit)=>A0P k f (f.length:Int) i) (fun _ _=>O8 (O8 Q6 0) 0) (fun _ _=>True) () trivial ?_ ?_
  · intro _ _
    show Ev (fun k=>A7X (A0P k) (A0t k) _ _ _) _
    unfold A7X
    exact D6 (Int.lt_irrefl _) (Ev.now _)
  · intro pre a post _ hp hi hr _ ih
    show Ev (fun k=>A7X (A0P k) (A0t k) _ _ _) _
    unfold A7X
    refine K9 hi (by omega) hi ?_
    rw [hr]
    exact Ev.bind (E1z (hs a (by rw [hp];simp))) (E2 Iff.rfl (fun _=>Ev.now _) fun _=>ih () trivial)
theorem C6b {α:Type} {ck:α→Int}:∀{l:List α},(∀x,x∈l→ck x=0)→O8 ck 0 l=0
  | [],_=>rfl
  | a::l,h=>by
    unfold O8
    rw [if_neg (by rw [h a List.mem_cons_self];decide)]
    exact C6b fun x hx=>h x (List.mem_cons_of_mem _ hx)
def A8y (w:List FP):Prop:=w.length≤65∧∀a,a∈w→a.length<1099511627776∧∀x,x∈a→∃q:Rat,x=fr q∧Sm 1024 q
theorem A8y.large {w:List FP} (h:A8y w):Ev (fun k=>M7 k w) false:=by
  have h1:=E0g (f:=w) (by have:=h.1;omega) fun a ha=>(h.2 a ha).1
  have e:w.any (fun a=>a.any A2B)=false:=by
    rw [List.any_eq_false]
    intro a ha
    rw [Bool.not_eq_true,List.any_eq_false]
    intro x hx
    obtain⟨q,rfl,hq⟩:=(h.2 a ha).2 x hx
    unfold A2B
    rw [if_neg (show¬1024<(fr q).1.2.size from Nat.not_lt.2 hq.1),decide_eq_true_eq]
    exact Nat.not_lt.2 hq.2
  rw [if_neg (by have:=h.1;omega),e]at h1
  exact h1
theorem A8y.Rlarge {w:List FP} (h:A8y w):Ev (fun k=>W0 k w) 0:=by
  have h1:=E6P (f:=w) fun a ha=>(h.2 a ha).1
  rw [if_neg (by have:=h.1;omega),C6b fun a ha=>C6b fun x hx=>?_]at h1
  · exact h1
  · obtain⟨q,rfl,hq⟩:=(h.2 a ha).2 x hx
    exact E5b hq
theorem D5h (a:ByteArray):E6 a a=true:=by rw [F1];exact beq_self_eq_true _
theorem E2v {f:FP} (hl:f.length<1099511627776):Ev (fun k=>d9 k f f) true:=by
  show Ev (fun k=>B18 (A0F k) _ _) _
  unfold B18
  refine D6 (fun h=>h rfl) (U4 (d:=d0) hl (fun k i (_:Unit)=>A0F k f f (f.length:Int) i) (fun _ _ _=>true) (fun _ _=>True) () trivial ?_ ?_)
  · intro _ _
    show Ev (fun k=>A6X (A0F k) _ _ _ _) _
    unfold A6X
    exact D6 (Int.lt_irrefl _) (Ev.now _)
  · intro pre a post _ hp hi hr _ ih
    show Ev (fun k=>A6X (A0F k) _ _ _ _) _
    unfold A6X
    refine K9 hi (by omega) hi (A4f (by omega) hi ?_)
    rw [hr]
    exact u6 (by rw [beq_self_eq_true,D5h,D5h];rfl) (ih () trivial)
theorem D1z {f:List FP} (hl:f.length<1099511627776) (hs:∀a,a∈f→a.length<1099511627776):Ev (fun k=>S4 k f f) true:=by
  show Ev (fun k=>B29 (t6 k) _ _) _
  unfold B29
  refine D6 (fun h=>h rfl) (U4 (d:=([]:FP)) hl (fun k i (_:Unit)=>t6 k f f (f.length:Int) i) (fun _ _ _=>true) (fun _ _=>True) () trivial ?_ ?_)
  · intro _ _
    show Ev (fun k=>A7d (t6 k) (d9 k) _ _ _ _) _
    unfold A7d
    exact D6 (Int.lt_irrefl _) (Ev.now _)
  · intro pre a post _ hp hi hr _ ih
    show Ev (fun k=>A7d (t6 k) (d9 k) _ _ _ _) _
    unfold A7d
    refine K9 hi (by omega) hi (A4f (by omega) hi ?_)
    rw [hr]
    exact Ev.bind (E2v (hs a (by rw [hp];simp))) (u6 rfl (ih () trivial))
theorem D6E {α:Type} {p:α→Bool} {l:List α} (h:∀x,l.getLast?=some x→p x=false):J6 p l=l:=by
  by_cases hn:l=[]
  · subst hn;rfl
  · have e:=List.dropLast_concat_getLast hn
    have:=h _ (List.getLast?_eq_some_getLast hn)
    conv=>lhs;rw [←e]
    rw [D2Q,this,if_neg (by decide),e]
def el (a:Rat):FP:=(J6 zr [a]).map fr
def N3 (g:List Rat):List FP:=g.map el
theorem E1x {a:Rat} (h:a≠0):(el a).isEmpty=false:=by
  have:el a=[fr a]:=by
    unfold el
    rw [D6E (fun x hx=>?_)]
    · rfl
    · cases hx;unfold zr;rw [decide_eq_false_iff_not];exact h
  rw [this];rfl
theorem E2c {a:Rat} {x:FV} (h:x∈el a):x=fr a:=by
  obtain⟨b,hb,rfl⟩:=List.mem_map.1 h
  rw [List.mem_singleton.1 (B6i hb)]
theorem F1l (a:Rat):(el a).length≤1:=by unfold el;rw [List.length_map];exact B4e zr [a]
theorem E9d {g:List Rat} (h:∀a,g.getLast?=some a→a≠0):J6 List.isEmpty (N3 g)=N3 g:=by
  refine D6E fun x hx=>?_
  unfold N3 at hx
  rw [List.getLast?_map]at hx
  obtain⟨a,ha,rfl⟩:=Option.map_eq_some_iff.1 hx
  exact E1x (h a ha)
theorem D6Y {g:List Rat} (hl:g.length<1000000):Ev (fun k=>A4z k (g.map fr)) (J6 List.isEmpty (N3 g)):=by
  show Ev (fun k=>B3F (l8 k) _) _
  unfold B3F
  rw [List.length_map]
  refine C4 (by omega) (C4 (Int.le_refl _) (C4 (by omega) ?_))
  rw [Int.toNat_natCast]
  have:=A1m (d:=d0) (e:=fr) (l:=g) (by omega) (fun k i (s:List FP)=>l8 k (g.map fr) (g.length:Int) i s) (fun _ _ _=>J6 List.isEmpty (N3 g))
    (fun pre s=>s=N3 pre++List.replicate (g.length-pre.length) []) ?_ ?_ g [] (List.replicate g.length []) rfl (by simp [N3])
  · exact this
  · intro s hs
    subst hs
    show Ev (fun k=>A6o (l8 k) (D8 k) (E3 k) _ _ _ _) _
    unfold A6o
    rw [Nat.sub_self,List.replicate_zero,List.append_nil]
    exact D6 (Int.lt_irrefl _) (Ev.bind (C8K (by unfold N3;rw [List.length_map];omega)) (Ev.now _))
  · intro pre a post s hp hi hr hs ih
    subst hs
    show Ev (fun k=>A6o (l8 k) (D8 k) (E3 k) _ _ _ _) _
    unfold A6o
    have hL:((N3 pre++List.replicate (g.length-pre.length) ([]:FP)).length:Int)=(g.length:Int):=by
      unfold N3;rw [List.length_append,List.length_map,List.length_replicate];omega
    refine K9 hi (by omega) (by rw [List.length_map];exact hi) ?_
    rw [hr,hL]
    have h1:Ev (fun k=>D8 k [fr a]) (el a):=by
      have:=C9j (f:=[fr a]) (by simp)
      rwa [show J6 zq [fr a]=el a from by unfold el;rw [←C7u,←B9m];rfl]at this
    refine Ev.bind h1 (A4f (by omega) hi (ih _ ?_))
    have e:g.length-pre.length=(g.length-(pre++[a]).length)+1:=by rw [List.length_append];simp only [List.length_singleton];omega
    rw [e,List.replicate_succ,D1T _ _ _ _ (by unfold N3;rw [List.length_map])]
    unfold N3
    rw [List.map_append]
    simp
theorem D1h {g:List Rat} (hl:g.length<1000000):Ev (fun k=>j5 k (g.map fr)) (N3 g):=by
  show Ev (fun k=>B76 (A0I k) _) _
  unfold B76
  rw [List.length_map]
  refine A1m (d:=d0) (e:=fr) (l:=g) (by omega) (fun k i (s:List FP)=>A0I k (g.map fr) (g.length:Int) i s) (fun _ _ _=>N3 g)
    (fun pre s=>s=N3 pre) ?_ ?_ g [] [] rfl rfl
  · intro s hs
    subst hs
    show Ev (fun k=>A7K (A0I k) (A1M k) _ _ _ _) _
    unfold A7K
    exact D6 (Int.lt_irrefl _) (Ev.now _)
  · intro pre a post s hp hi hr hs ih
    subst hs
    show Ev (fun k=>A7K (A0I k) (A1M k) _ _ _ _) _
    unfold A7K
    refine K9 hi (by omega) (by rw [List.length_map];exact hi) ?_
    rw [hr]
    have h1:Ev (fun k=>A1M k (fr a)) (el a):=Ev.bind (D3O (g:=[a]) (by simp)) (Ev.now _)
    refine Ev.bind h1 (C4 (by unfold N3;rw [List.length_map];omega) (ih _ ?_))
    unfold N3
    rw [List.map_append];rfl
def B6s (m n:Nat):Int:=if m<n then -1 else 1
theorem C9B {m n:Nat} (h:m≠n) (hm:m<1099511627776) (hn:n<1099511627776):mx (-1) (mn 1 (wrap64 ((m:Int)-(n:Int))))=B6s m n:=by
  rw [A2q (by omega) (by omega)]
  unfold mx mn B6s
  split<;>split<;>split<;>omega
theorem B6b {α β:Type} {d:α} {e:β→α} {l:List β} {n:Nat} (h:n<l.length):∃b,l.drop n=b::l.drop (n+1)∧C2 d (l.map e) (n:Int)=e b∧b∈l:=by
  have e1:=List.drop_eq_getElem_cons h
  refine⟨l[n],e1,?_,List.getElem_mem h⟩
  unfold C2
  rw [Int.toNat_natCast,List.getD_eq_getElem?_getD,List.getElem?_map,List.getElem?_eq_getElem h];rfl
def A8K:List Rat→List Rat→Int
  |a::l,b::r=>if A3E a b≠0 then A3E a b else A8K l r
  |_,_=>0
def A8k (x y:List Rat):Int:=if x.length≠y.length then B6s x.length y.length else A8K x y
section
variable {x y:List Rat} (hx:x.length<1000000) (hy:y.length<1000000) (sx:∀a,a∈x→Sm 10000 a) (sy:∀a,a∈y→Sm 10000 a)
include hx hy sx sy
theorem D9N:Ev (fun k=>A1x k (x.map fr) (y.map fr)) (A8k x y):=by
  show Ev (fun k=>B2o (v7 k) _ _) _
  unfold B2o
  rw [List.length_map,List.length_map]
  refine E2 (by omega) (fun h=>?_) fun h=>?_
  · rw [C9B h (by omega) (by omega)];exact Ev.now _
  · have hl:x.length=y.length:=Decidable.not_not.1 h
    refine A1m (d:=d0) (e:=fr) (l:=x) (by omega) (fun k i (_:Unit)=>v7 k (x.map fr) (y.map fr) (x.length:Int) i) (fun pre _ post=>A8K post (y.drop pre.length)) (fun _ _=>True) ?_ ?_ x [] () rfl trivial
    · intro _ _
      show Ev (fun k=>A7j (v7 k) (b7 k) _ _ _ _) _
      unfold A7j
      exact D6 (Int.lt_irrefl _) (Ev.now _)
    · intro pre a post _ hp hi hr _ ih
      show Ev (fun k=>A7j (v7 k) (b7 k) _ _ _ _) _
      unfold A7j
      obtain⟨b,e1,e2,hb⟩:=B6b (d:=d0) (e:=fr) (l:=y) (n:=pre.length) (by omega)
      rw [List.length_map,List.length_map]
      refine K9 hi (by omega) hi (A4f (by omega) (by omega) ?_)
      rw [hr,e1,e2]
      have:=ih () trivial
      rw [List.length_append]at this
      exact Ev.bind (E5t (sx a (by rw [hp];simp)) (sy b hb)) (E2 Iff.rfl (fun _=>Ev.now _) fun _=>this)
theorem E5C:Ev (fun k=>A1J k (x.map fr) (y.map fr)) (A8k x y):=by
  show Ev (fun k=>B2Z (s7 k) _ _) _
  unfold B2Z
  rw [List.length_map,List.length_map]
  refine E2 (by omega) (fun h=>?_) fun h=>?_
  · exact E2 (by omega) (fun _=>Ev.now _) fun _=>Ev.now _
  · have hl:x.length=y.length:=Decidable.not_not.1 h
    refine A1m (d:=d0) (e:=fr) (l:=x) (by omega) (fun k i (_:Unit)=>s7 k (x.map fr) (y.map fr) (x.length:Int) i) (fun pre _ post=>A8K post (y.drop pre.length)) (fun _ _=>True) ?_ ?_ x [] () rfl trivial
    · intro _ _
      show Ev (fun k=>A7U (s7 k) (A0L k) _ _ _ _) _
      unfold A7U
      exact D6 (Int.lt_irrefl _) (Ev.now _)
    · intro pre a post _ hp hi hr _ ih
      show Ev (fun k=>A7U (s7 k) (A0L k) _ _ _ _) _
      unfold A7U
      obtain⟨b,e1,e2,hb⟩:=B6b (d:=d0) (e:=fr) (l:=y) (n:=pre.length) (by omega)
      rw [List.length_map,List.length_map]
      refine K9 hi (by omega) hi (A4f (by omega) (by omega) ?_)
      rw [hr,e1,e2]
      have:=ih () trivial
      rw [List.length_append]at this
      exact Ev.bind (E1v (sx a (by rw [hp];simp)) (sy b hb)) (E2 Iff.rfl (fun _=>Ev.now _) fun _=>this)
end
def A8W:List (List Rat)→List (List Rat)→Int
  |a::l,b::r=>if A8k a b≠0 then A8k a b else A8W l r
  |_,_=>0
def B3p (x y:List (List Rat)):Int:=if x.length≠y.length then B6s x.length y.length else A8W x y
def Okl (x:List (List Rat)):Prop:=x.length<1000000∧∀a,a∈x→a.length<1000000∧∀q,q∈a→Sm 10000 q
section
variable {x y:List (List Rat)} (hx:Okl x) (hy:Okl y)
include hx hy
theorem C3a:Ev (fun k=>A4C k (x.map (List.map fr)) (y.map (List.map fr))) (B3p x y):=by
  have h1:=hx.1
  have h2:=hy.1
  show Ev (fun k=>B77 (n9 k) _ _) _
  unfold B77
  rw [List.length_map,List.length_map]
  refine E2 (by omega) (fun h=>?_) fun h=>?_
  · rw [C9B h (by omega) (by omega)];exact Ev.now _
  · have hl:x.length=y.length:=Decidable.not_not.1 h
    refine A1m (d:=([]:FP)) (e:=List.map fr) (l:=x) (by omega) (fun k i (_:Unit)=>n9 k (x.map (List.map fr)) (y.map (List.map fr)) (x.length:Int) i) (fun pre _ post=>A8W post (y.drop pre.length)) (fun _ _=>True) ?_ ?_ x [] () rfl trivial
    · intro _ _
      show Ev (fun k=>A6K (n9 k) (A1x k) _ _ _ _) _
      unfold A6K
      exact D6 (Int.lt_irrefl _) (Ev.now _)
    · intro pre a post _ hp hi hr _ ih
      show Ev (fun k=>A6K (n9 k) (A1x k) _ _ _ _) _
      unfold A6K
      obtain⟨b,e1,e2,hb⟩:=B6b (d:=([]:FP)) (e:=List.map fr) (l:=y) (n:=pre.length) (by omega)
      rw [List.length_map,List.length_map]
      refine K9 hi (by omega) hi (A4f (by omega) (by omega) ?_)
      rw [hr,e1,e2]
      have:=ih () trivial
      rw [List.length_append]at this
      have ha:=hx.2 a (by rw [hp];simp)
      have hb':=hy.2 b hb
      exact Ev.bind (D9N ha.1 hb'.1 ha.2 hb'.2) (E2 Iff.rfl (fun _=>Ev.now _) fun _=>this)
theorem D0A:Ev (fun k=>A3k k (x.map (List.map fr)) (y.map (List.map fr))) (B3p x y):=by
  have h1:=hx.1
  have h2:=hy.1
  show Ev (fun k=>B78 (t9 k) _ _) _
  unfold B78
  rw [List.length_map,List.length_map]
  refine E2 (by omega) (fun h=>?_) fun h=>?_
  · exact E2 (by omega) (fun _=>Ev.now _) fun _=>Ev.now _
  · have hl:x.length=y.length:=Decidable.not_not.1 h
    refine A1m (d:=([]:FP)) (e:=List.map fr) (l:=x) (by omega) (fun k i (_:Unit)=>t9 k (x.map (List.map fr)) (y.map (List.map fr)) (x.length:Int) i) (fun pre _ post=>A8W post (y.drop pre.length)) (fun _ _=>True) ?_ ?_ x [] () rfl trivial
    · intro _ _
      show Ev (fun k=>A6R (t9 k) (A1J k) _ _ _ _) _
      unfold A6R
      exact D6 (Int.lt_irrefl _) (Ev.now _)
    · intro pre a post _ hp hi hr _ ih
      show Ev (fun k=>A6R (t9 k) (A1J k) _ _ _ _) _
      unfold A6R
      obtain⟨b,e1,e2,hb⟩:=B6b (d:=([]:FP)) (e:=List.map fr) (l:=y) (n:=pre.length) (by omega)
      rw [List.length_map,List.length_map]
      refine K9 hi (by omega) hi (A4f (by omega) (by omega) ?_)
      rw [hr,e1,e2]
      have:=ih () trivial
      rw [List.length_append]at this
      have ha:=hx.2 a (by rw [hp];simp)
      have hb':=hy.2 b hb
      exact Ev.bind (E5C ha.1 hb'.1 ha.2 hb'.2) (E2 Iff.rfl (fun _=>Ev.now _) fun _=>this)
end
theorem D3z:∀x:List Rat,A8K x x=0
  | []=>rfl
  |a::l=>by unfold A8K;rw [F2b,if_neg (fun h=>h rfl)];exact D3z l
theorem E6U (x:List Rat):A8k x x=0:=by unfold A8k;rw [if_neg (fun h=>h rfl)];exact D3z x
theorem D0N:∀x:List (List Rat),A8W x x=0
  | []=>rfl
  |a::l=>by unfold A8W;rw [E6U,if_neg (fun h=>h rfl)];exact D0N l
theorem E4c (x:List (List Rat)):B3p x x=0:=by unfold B3p;rw [if_neg (fun h=>h rfl)];exact D0N x
end Go.Proofs.YtijohnkgomcdbaaGreatV
set_option maxRecDepth 10000
namespace Go.Proofs.YtijohnkgomcdbaaGreatV
open Go Go.RowKit YtijohnkgomcdbaaGreat YtijohnkgomcdbaaGreatE YtijohnkgomcdbaaGreatW.PrintWords YtijohnkgomcdbaaGreatW.PrintLast YtijohnkgomcdbaaGreatW.PrintMore
theorem B6:E5 Tryz.prog E0:=⟨by kernel_rfl,by kernel_rfl,by kernel_rfl⟩
theorem HM:Tryz.prog.follows .mixedOrders=true:=Tryz.checked.mixed
section
variable {P:Program} {f:Nat}
theorem E7m {k:IntKind} {x:Int} {r:V} (h:∀w,A2p P f #[.int k x] w fun v w'=>w'=w∧∀bl φ,C1 w bl φ r v):Ct P f [.a (.v (.it k) x)] [] r []:=by
 refine⟨(fun q hq=>nomatch hq),fun w0 bl0 φ0 vs _ hm hr=>?_⟩
 cases hr with
 |cons h1 hr=>
  cases hr with
  |nil=>
   rw [E1.1 h1]
   exact(h w0).mono fun v w' ⟨e,hv⟩=>⟨φ0,by rw [e];exact D9.refl hm,by rw [e];exact hv _ _⟩
theorem C8c {k1 k2 k3:IntKind} {x y z:Int} {r:V} (h:∀w,A2p P f #[.int k1 x, .int k2 y, .int k3 z] w fun v w'=>w'=w∧∀bl φ,C1 w bl φ r v):Ct P f [.a (.v (.it k1) x), .a (.v (.it k2) y), .a (.v (.it k3) z)] [] r []:=by
 refine⟨(fun q hq=>nomatch hq),fun w0 bl0 φ0 vs _ hm hr=>?_⟩
 cases hr with
 |cons h1 hr=>
  cases hr with
  |cons h2 hr=>
   cases hr with
   |cons h3 hr=>
    cases hr with
    |nil=>
     rw [E1.1 h1,E1.1 h2,E1.1 h3]
     exact(h w0).mono fun v w' ⟨e,hv⟩=>⟨φ0,by rw [e];exact D9.refl hm,by rw [e];exact hv _ _⟩
theorem F0W {fn:Func} {c:Code} (hf:P.funcs[f]?=some fn) (hname:(fn.name== "runtime.NumGoroutine")=false) (hb:fn.body=some c) {args:Array Value} {w:World} {Q:Value→World→Prop} (h:Calls P f args w fun e w'=>∃v,e= .returned v∧Q v w'):A2p P f args w Q:=
 Or.inl ⟨by simp only [callFunc,Sem.run_bind,run_program,Result.andThen_ok,hf,hname,hb,Option.isNone_some,Bool.false_eq_true,if_false,Sem.run_pure],h⟩
end
theorem C3e (k:Nat):B5 Tryz.prog (B7K (L2 k)):=by
 rintro⟨⟨x,y,c,⟨⟩⟩,⟨⟩⟩ o h v hv
 replace h:All.bits_Add64.f x y c=some o:=h
 cases hv
 unfold All.bits_Add64.f at h
 by_cases hc:0≤x∧0≤y∧0≤c∧c≤1
 ·rw [if_pos hc]at h
  cases h
  refine C8c fun w=>Or.inr ⟨_,w,?_,rfl,fun bl φ=>⟨_,rfl, .cons (E1.2 rfl) (.cons (E1.2 rfl) .nil)⟩⟩
  show(callFunc 247 #[.int .u64 x, .int .u64 y, .int .u64 c]).run _ w=_
  rw [run_callFunc_extern Tryz.func247 (by kernel_rfl) (by kernel_rfl) (by kernel_rfl) (by kernel_rfl),run_add64 x y c hc.1 hc.2.1 hc.2.2.1 hc.2.2.2]
  rfl
 ·rw [if_neg hc]at h;cases h
theorem E6J (x y c:Int) (hx:0≤x) (hy:0≤y) (hc0:0≤c) (hc:c≤1) (w:World):
  (callFunc 248 #[.int .u64 x, .int .u64 y, .int .u64 c]).run Tryz.prog w= .ok (.value (.tuple #[.int .u64 ((x-y-c)%18446744073709551616), .int .u64 (if x<y+c then 1 else 0)])) w∨¬y≤18446744073709551615:=by
 by_cases hym:y≤18446744073709551615
 ·refine Or.inl ?_
  obtain⟨X,rfl⟩:=Int.eq_ofNat_of_zero_le hx
  obtain⟨Y,rfl⟩:=Int.eq_ofNat_of_zero_le hy
  obtain⟨C,rfl⟩:=Int.eq_ofNat_of_zero_le hc0
  rw [run_callFunc_extern Tryz.func248 (by kernel_rfl) (by kernel_rfl) (by kernel_rfl) (by kernel_rfl),run_sub64 X Y C (by omega)]
  have e1:(((X+18446744073709551616-Y-C)%18446744073709551616:Nat):Int)=((X:Int)-Y-C)%18446744073709551616:=by omega
  have e2:((if X<Y+C then 1 else 0:Nat):Int)=if(X:Int)<Y+C then 1 else 0:=by split<;>split<;>omega
  rw [e1,e2]
  rfl
 ·exact Or.inr hym
theorem D0v (k:Nat):B5 Tryz.prog (C3G (Y5 k)):=by
 rintro⟨⟨x,y,c,⟨⟩⟩,⟨⟩⟩ o h v hv
 replace h:All.bits_Sub64.f x y c=some o:=h
 cases hv
 unfold All.bits_Sub64.f at h
 split at h
 ·rename_i hc
  cases h
  refine C8c fun w=>Or.inr ⟨_,w,?_,rfl,fun bl φ=>⟨_,rfl, .cons (E1.2 rfl) (.cons (E1.2 rfl) .nil)⟩⟩
  exact(E6J x y c hc.1 hc.2.1 hc.2.2.2.1 hc.2.2.2.2 w).resolve_right fun h=>h hc.2.2.1
 ·cases h
theorem E2O (k:Nat):B5 Tryz.prog (C9S (B2n k)):=by
 rintro⟨⟨x,⟨⟩⟩,⟨⟩⟩ o h v hv
 replace h:All.bits_Len64.f x=some o:=h
 cases hv
 unfold All.bits_Len64.f at h
 split at h
 ·rename_i hc
  cases h
  refine E7m fun w=>F0W (c:=D5V.cd) Tryz.func297 (by kernel_rfl) (by kernel_rfl) ((Go.Proofs.YtijohnkgomcdbaaGreatX.len64_says x w hc.1 hc.2).mono ?_)
  rintro e w' ⟨rfl,rfl⟩
  exact⟨_,rfl,rfl,fun bl φ=>E1.2 rfl⟩
 ·cases h
theorem B9K {l:List Int} {x:Int} (h0:0≤x) (h1:x≤l.length):(((l.take x.toNat).length:Int),l.take x.toNat++l.drop (l.take x.toNat).length)=(x,l):=by
 have e:(l.take x.toNat).length=x.toNat:=by rw [List.length_take];omega
 rw [e,List.take_append_drop,Int.toNat_of_nonneg h0]
theorem B5j:∀(k:Nat) (l:List Int),All.galoisref01_trimV.f k l=All.galoisref01_trim.f k l
 |0,l=>rfl
 |k+1,l=>by
  have ih:=B5j k
  show All.galoisref01_trimV.l0 (k+1) l=All.galoisref01_trim.l0 (k+1) l
  rw [All.galoisref01_trimV.l0,All.galoisref01_trim.l0]
  have ih':∀l,All.galoisref01_trimV.l0 k l=All.galoisref01_trim.l0 k l:=ih
  simp only [ih']
noncomputable abbrev A7Q (k:Nat) (x3:Int) (y0:List Int):Option e9:=(All.exact_trim.l0 k y0 x3).bind fun r=>some ((r.length:Int),r++y0.drop r.length)
theorem F0w (k:Nat) (x3:Int) (y0:List Int):A0 (A7Q (k+1) x3 y0) (C6U (A7Q k) x3 y0):=by
 unfold A7Q
 rw [All.exact_trim.l0]
 unfold C6U
 simp only [Y2,F9,Option.bind_none]
 repeat' first
 | (with_reducible exact A0.none _)
 | (with_reducible exact A0.refl _)
 | (with_reducible refine A0.posR (by with_reducible assumption) ?_)
 | (with_reducible refine A0.negR (by with_reducible assumption) ?_)
 | (with_reducible refine A0.iteL (fun _=>?_) (fun _=>?_))
 | (refine A0.posR (by first|decide|exact Int.le_refl _|omega) ?_)
 | (rw [B9K (by assumption) (by assumption)])
theorem D9g (k:Nat) (y0:List Int):A0 (K3 k y0) (D2E (A7Q k) y0):=A0.refl _
noncomputable abbrev A5V (k:Nat) (x0:Int) (y0:List Int):Option p9:=if 0≤x0∧x0≤y0.length then(All.galoisref01_trim.l0 k (y0.take x0.toNat)).bind fun r=>some ((r.length:Int),r++y0.drop r.length)else none
theorem B0C {l:List Int} {x i:Int} (h0:0≤i) (h:i<x):rd (l.take x.toNat) i=rd l i:=by
 unfold rd
 rw [List.getD_eq_getElem?_getD,List.getD_eq_getElem?_getD,List.getElem?_take_of_lt (by omega)]
theorem E9W (k:Nat) (x0:Int) (y0:List Int):A0 (A5V (k+1) x0 y0) (B8a (A5V k) x0 y0):=by
 unfold A5V
 refine A0.iteL (fun hx=>?_) (fun _=>A0.none _)
 have e:(((y0.take x0.toNat).length:Nat):Int)=x0:=by rw [List.length_take];omega
 rw [All.galoisref01_trim.l0]
 unfold B8a
 simp only [Y2,F9,Option.bind_none,e,Int.sub_zero,Int.zero_add]
 refine A0.iteL (fun h1=>A0.posR h1 ?_) (fun h1=>A0.negR h1 ?_)
 ·refine A0.iteL (fun h2=>A0.posR h2 ?_) (fun _=>A0.none _)
  refine A0.iteL (fun h3=>A0.posR h3 ?_) (fun _=>A0.none _)
  rw [B0C h2 h3]
  refine A0.iteL (fun h4=>A0.posR h4 ?_) (fun h4=>A0.negR h4 ?_)
  ·refine A0.iteL (fun h5=>?_) (fun _=>A0.none _)
   refine A0.posR (Int.le_refl _) (A0.posR h2 (A0.posR h5 (A0.posR (Int.le_refl _) (A0.posR ⟨h2,by omega⟩ ?_))))
   rw [List.take_take,Nat.min_eq_left (by omega)]
   exact A0.refl _
  ·have e2:=B9K hx.1 hx.2;rw [e]at e2;rw [e2];exact A0.refl _
 ·have e2:=B9K hx.1 hx.2;rw [e]at e2;rw [e2];exact A0.refl _
theorem E2x (k:Nat) (y0:List Int):A0 (W7 k y0) (C6D (A5V k) y0):=by
 unfold W7 C6D A5V
 refine A0.posR ⟨by omega,Int.le_refl _⟩ ?_
 rw [Int.toNat_natCast,List.take_length]
 exact A0.refl _
noncomputable abbrev A4W (k:Nat) (x0:Int) (x1:List Int) (x5:Int) (y0:List Int):Option A0u:=if 0≤x0∧x0≤y0.length then(All.galoisref01_below.l0 k (y0.take x0.toNat) x1 x5).bind fun r=>some (r,y0)else none
theorem F0r (k:Nat) (x0:Int) (x1:List Int) (x5:Int) (y0:List Int):A0 (A4W (k+1) x0 x1 x5 y0) (C4D (A4W k) x0 x1 x5 y0):=by
 unfold A4W
 refine A0.iteL (fun hx=>?_) (fun _=>A0.none _)
 have e:(((y0.take x0.toNat).length:Nat):Int)=x0:=by rw [List.length_take];omega
 rw [All.galoisref01_below.l0]
 unfold C4D
 simp only [Y2,F9,Option.bind_none,e,Int.sub_zero,Int.zero_add,ite_not,ne_eq]
 refine A0.iteL (fun h1=>A0.posR h1 ?_) (fun h1=>A0.negR h1 (A0.refl _))
 refine A0.iteL (fun h2=>A0.posR h2 ?_) (fun _=>A0.none _)
 refine A0.iteL (fun h3=>A0.posR h3 (A0.posR h2 ?_)) (fun _=>A0.none _)
 refine A0.iteL (fun h4=>A0.posR h4 ?_) (fun _=>A0.none _)
 rw [B0C h2 h3]
 refine A0.iteL (fun h5=>A0.posR h5 (A0.posR hx (A0.refl _))) (fun h5=>A0.negR h5 ?_)
 exact A0.posR h2 (A0.posR h3 (A0.posR h2 (A0.posR h4 (A0.refl _))))
theorem C9Z:∀(k:Nat) (l r:List Int),All.galoisref01_trim.l0 k l=some r→r++l.drop r.length=l
 |0,l,r,h=>by cases h
 |k+1,l,r,h=>by
  rw [All.galoisref01_trim.l0]at h
  split at h
  ·split at h
   ·split at h
    ·split at h
     ·split at h
      ·rename_i h1 _ _ h2
       have ih:=C9Z k _ _ h
       have hl:r.length≤(l.take (wrap64 ((l.length:Int)-1)).toNat).length:=by
        have:=congrArg List.length ih
        rw [List.length_append]at this
        omega
       have e:l=l.take (wrap64 ((l.length:Int)-1)).toNat++l.drop (wrap64 ((l.length:Int)-1)).toNat:=(List.take_append_drop _ _).symm
       rw [e,List.drop_append_of_le_length hl,←List.append_assoc]
       rw [ih]
      ·cases h
     ·cases h;rw [List.drop_length,List.append_nil]
    ·cases h
   ·cases h
  ·cases h;rw [List.drop_length,List.append_nil]
theorem E5R (k:Nat) (x1:List Int) (y0:List Int):A0 (k8 k x1 y0) (C3E (A4W k) (W7 k) x1 y0):=by
 unfold k8 C3E W7 A4W All.galoisref01_below.f
 simp only [B5j,j8,F9,Y2,Int.sub_zero,ite_not,ne_eq]
 refine A0.bindL fun r hr=>A0.bindR hr ?_
 have e:=C9Z k y0 r hr
 have hl:(r.length:Int)≤y0.length:=by
  have:=congrArg List.length e
  rw [List.length_append]at this
  omega
 have et:y0.take r.length=r:=by
  have:=congrArg (List.take r.length) e
  rwa [List.take_left,eq_comm]at this
 rw [e]
 refine A0.iteL (fun h1=>A0.posR h1 (A0.posR ⟨by omega,hl⟩ ?_)) (fun h1=>A0.negR h1 (A0.refl _))
 rw [Int.toNat_natCast,et]
 exact A0.refl _
end Go.Proofs.YtijohnkgomcdbaaGreatV
namespace Go.Proofs.YtijohnkgomcdbaaGreatV
end Go.Proofs.YtijohnkgomcdbaaGreatV
set_option maxRecDepth 100000
namespace Go.Proofs.YtijohnkgomcdbaaGreatV
open Go Go.RowKit YtijohnkgomcdbaaGreat YtijohnkgomcdbaaGreatE YtijohnkgomcdbaaGreatW.PrintWords YtijohnkgomcdbaaGreatW.PrintLast YtijohnkgomcdbaaGreatW.PrintMore
theorem b15 (k:Nat) (x0:(List TQ)):A0 (P5 k x0) (B15 x0):=A0.refl _
theorem C0a (k:Nat):B5 Tryz.prog (B7H (P5 k)):=
 B7 B6 HM D15 (es:=fun k=>[]) (fun k=>fz) Tryz.func15 0 (by kernel_rfl) (fun s=>rfl) (fun k=>[]) (fz) (fun k s0=> .nil) (F:=fun k s=>P5 k s.1.1) (fun k s r h=>(e15 s).trans (b15 k s.1.1 r h)) k
theorem E9h (k:Nat) (x0:TI):A0 (t7 k x0) (C5m x0):=by
 show A0 (All.galoisref02_Sign.f x0.1 x0.2) _
 unfold All.galoisref02_Sign.f;unfold C5m;(try simp only [All.integer_zero.f,All.exact_stepAt.f,All.S24.f0,All.S24.f1,All.rd_T24,All.z24]);exact BR
theorem D1v (k:Nat):B5 Tryz.prog (C7y (t7 k)):=
 B7 B6 HM B4f (es:=fun k=>[]) (fun k=>fz) Tryz.func173 0 (by kernel_rfl) (fun s=>rfl) (fun k=>[]) (fz) (fun k s0=> .nil) (F:=fun k s=>t7 k s.1.1) (fun k s r h=>(F1k s).trans (E9h k s.1.1 r h)) k
theorem E7j (k:Nat) (x0:TQ):A0 (P1 k x0) (B1m (t7 k) x0):=A0.refl _
theorem C9O (k:Nat):B5 Tryz.prog (C3Y (P1 k)):=
 B7 B6 HM B4o (es:=fun k=>D4w (t7 k)) (fun k=>fc ⟨D1v k,fz⟩) Tryz.func123 0 (by kernel_rfl) (fun s=>rfl) (fun k=>[]) (fz) (fun k s0=> .nil) (F:=fun k s=>P1 k s.1.1) (fun k s r h=>(E3y (t7 k) s).trans (E7j k s.1.1 r h)) k
theorem F1Q (k:Nat) (x0:ByteArray):A0 (W6 k x0) (C4e x0):=by
 show A0 (All.galoisref01_Valid.f x0) _
 unfold All.galoisref01_Valid.f;unfold C4e;(try simp only [All.integer_zero.f,All.exact_stepAt.f,All.S24.f0,All.S24.f1,All.rd_T24,All.z24]);exact BR
theorem D0T (k:Nat):B5 Tryz.prog (C1x (W6 k)):=
 B7 B6 HM B8E (es:=fun k=>[]) (fun k=>fz) Tryz.func178 0 (by kernel_rfl) (fun s=>rfl) (fun k=>[]) (fz) (fun k s0=> .nil) (F:=fun k s=>W6 k s.1.1) (fun k s r h=>(F0G s).trans (F1Q k s.1.1 r h)) k
theorem D9i (k:Nat) (x0:TI):A0 (w7 k x0) (C6A (W6 k) x0):=by
 show A0 (All.galoisref02_Valid.f x0.1 x0.2) _
 unfold All.galoisref02_Valid.f;unfold C6A;(try simp only [W6,All.integer_zero.f,All.exact_stepAt.f,All.S24.f0,All.S24.f1,All.rd_T24,All.z24]);exact BR
theorem E9b (k:Nat):B5 Tryz.prog (C8e (w7 k)):=
 B7 B6 HM B4i (es:=fun k=>D5E (W6 k)) (fun k=>fc ⟨D0T k,fz⟩) Tryz.func177 0 (by kernel_rfl) (fun s=>rfl) (fun k=>[]) (fz) (fun k s0=> .nil) (F:=fun k s=>w7 k s.1.1) (fun k s r h=>(E5X (W6 k) s).trans (D9i k s.1.1 r h)) k
theorem D8K (k:Nat) (x0:ByteArray):A0 (k9 k x0) (C1s x0):=by
 show A0 (All.galoisref01_Fits.f x0) _
 unfold All.galoisref01_Fits.f;unfold C1s;(try simp only [All.integer_zero.f,All.exact_stepAt.f,All.S24.f0,All.S24.f1,All.rd_T24,All.z24]);exact BR
theorem D1i (k:Nat):B5 Tryz.prog (B8l (k9 k)):=
 B7 B6 HM B8N (es:=fun k=>[]) (fun k=>fz) Tryz.func218 0 (by kernel_rfl) (fun s=>rfl) (fun k=>[]) (fz) (fun k s0=> .nil) (F:=fun k s=>k9 k s.1.1) (fun k s r h=>(D9b s).trans (D8K k s.1.1 r h)) k
theorem F3Y (k:Nat) (x0:TI):A0 (A3B k x0) (C6v (k9 k) x0):=by
 show A0 (All.galoisref02_Fits.f x0.1 x0.2) _
 unfold All.galoisref02_Fits.f;unfold C6v;(try simp only [k9,All.integer_zero.f,All.exact_stepAt.f,All.S24.f0,All.S24.f1,All.rd_T24,All.z24]);exact BR
theorem E5d (k:Nat):B5 Tryz.prog (C9w (A3B k)):=
 B7 B6 HM B6o (es:=fun k=>C8y (k9 k)) (fun k=>fc ⟨D1i k,fz⟩) Tryz.func217 0 (by kernel_rfl) (fun s=>rfl) (fun k=>[]) (fz) (fun k s0=> .nil) (F:=fun k s=>A3B k s.1.1) (fun k s r h=>(D8v (k9 k) s).trans (F3Y k s.1.1 r h)) k
theorem E1O (k:Nat) (x0:TQ):A0 (V6 k x0) (A9W (A3B k) (k9 k) x0):=A0.refl _
theorem D6d (k:Nat):B5 Tryz.prog (D5H (V6 k)):=
 B7 B6 HM B4c (es:=fun k=>D1m (A3B k) (k9 k)) (fun k=>fc ⟨E5d k,fc ⟨D1i k,fz⟩⟩) Tryz.func179 0 (by kernel_rfl) (fun s=>rfl) (fun k=>[]) (fz) (fun k s0=> .nil) (F:=fun k s=>V6 k s.1.1) (fun k s r h=>(E6s (A3B k) (k9 k) s).trans (E1O k s.1.1 r h)) k
noncomputable abbrev A3T (k:Nat) (x0:(List Int)) (x4:Int) (x3:(List Int)):Option T5:=All.galoisref01_pack.l0 k x0 x3 x4
noncomputable abbrev A4F (k:Nat) (x0:(List Int)) (x4:Int) (x5:Int) (x3:(List Int)):Option T5:=All.galoisref01_pack.l1 k x0 x3 x4 x5
theorem D9S (k:Nat) (x0:(List Int)) (x4:Int) (x3:(List Int)):A0 (All.galoisref01_pack.l0 (k+1) x0 x3 x4) (C0U (A4F k) x0 x4 x3):=by rw [All.galoisref01_pack.l0];unfold C0U;(try simp only [A3T,A4F,All.integer_zero.f,All.exact_stepAt.f,All.S24.f0,All.S24.f1,All.rd_T24,All.z24]);exact BR
theorem E3h (k:Nat) (x0:(List Int)) (x4:Int) (x5:Int) (x3:(List Int)):A0 (All.galoisref01_pack.l1 (k+1) x0 x3 x4 x5) (C5N (A3T k) (A4F k) x0 x4 x5 x3):=by rw [All.galoisref01_pack.l1];unfold C5N;(try simp only [A3T,A4F,All.integer_zero.f,All.exact_stepAt.f,All.S24.f0,All.S24.f1,All.rd_T24,All.z24]);exact BR
theorem E3j (k:Nat) (x0:(List Int)):A0 (N0 k x0) (C2e (A3T k) x0):=by
 show A0 (All.galoisref01_pack.f k x0) _
 unfold All.galoisref01_pack.f;unfold C2e;(try simp only [A3T,A4F,All.integer_zero.f,All.exact_stepAt.f,All.S24.f0,All.S24.f1,All.rd_T24,All.z24]);exact BR
theorem C3X (k:Nat):B5 Tryz.prog (B4p (N0 k)):=
 B7 B6 HM A5K (es:=fun k=>[]) (fun k=>fz) Tryz.func221 2 (by kernel_rfl) (fun s=>rfl) (fun k=>B7P (A3T k) (A4F k)) (fc ⟨fun s=>rfl,fc ⟨fun s=>rfl,fz⟩⟩) (fun k s0=> .cons (by kernel_rfl) (by kernel_rfl) (fun s r h=>(E0d (A3T k) (A4F k) s0 s).trans (D9S k s.1.1 s.1.2.1 s.2.1 r h)) (.cons (by kernel_rfl) (by kernel_rfl) (fun s r h=>(F3Q (A3T k) (A4F k) s0 s).trans (E3h k s.1.1 s.1.2.1 s.1.2.2.1 s.2.1 r h)) (.nil))) (F:=fun k s=>N0 k s.1.1) (fun k s r h=>(E1L (A3T k) (A4F k) s).trans (E3j k s.1.1 r h)) k
theorem D5a (k:Nat):B5 Tryz.prog (C6e (W7 k)):=
 B7 B6 HM B0m (es:=fun k=>[]) (fun k=>fz) Tryz.func249 1 (by kernel_rfl) (fun s=>rfl) (fun k=>C4J (A5V k)) (fc ⟨fun s=>by show ite _ _ _=none;split<;>rfl,fz⟩) (fun k s0=> .cons (by kernel_rfl) (by kernel_rfl) (fun s r h=>(E3Z (A5V k) s0 s).trans (E9W k s.1.1 s.2.1 r h)) (.nil)) (F:=fun k s=>W7 k s.2.1) (fun k s r h=>(E2S (A5V k) s).trans (E2x k s.2.1 r h)) k
noncomputable abbrev A3r (k:Nat) (x0:ByteArray) (x4:Int) (x3:(List Int)):Option W9:=All.galoisref01_limbs.l0 k x0 x3 x4
noncomputable abbrev A3c (k:Nat) (x0:ByteArray) (x4:Int) (x5:Int) (x6:Int) (x3:(List Int)):Option W9:=All.galoisref01_limbs.l1 k x0 x3 x4 x5 x6
theorem E3x (k:Nat) (x0:ByteArray) (x4:Int) (x3:(List Int)):A0 (All.galoisref01_limbs.l0 (k+1) x0 x3 x4) (C6W (A3c k) (W7 k) x0 x4 x3):=by rw [All.galoisref01_limbs.l0];unfold C6W;(try simp only [A3r,A3c,W7,All.integer_zero.f,All.exact_stepAt.f,All.S24.f0,All.S24.f1,All.rd_T24,All.z24]);exact BR
theorem E5G (k:Nat) (x0:ByteArray) (x4:Int) (x5:Int) (x6:Int) (x3:(List Int)):A0 (All.galoisref01_limbs.l1 (k+1) x0 x3 x4 x5 x6) (B8o (A3r k) (A3c k) x0 x4 x5 x6 x3):=by rw [All.galoisref01_limbs.l1];unfold B8o;(try simp only [A3r,A3c,W7,All.integer_zero.f,All.exact_stepAt.f,All.S24.f0,All.S24.f1,All.rd_T24,All.z24]);exact BR
theorem F1H (k:Nat) (x0:ByteArray):A0 (Q9 k x0) (C4K (A3r k) x0):=by
 show A0 (All.galoisref01_limbs.f k x0) _
 unfold All.galoisref01_limbs.f;unfold C4K;(try simp only [A3r,A3c,W7,All.integer_zero.f,All.exact_stepAt.f,All.S24.f0,All.S24.f1,All.rd_T24,All.z24]);exact BR
theorem D3e (k:Nat):B5 Tryz.prog (C0k (Q9 k)):=
 B7 B6 HM A5R (es:=fun k=>B7z (W7 k)) (fun k=>fc ⟨D5a k,fz⟩) Tryz.func229 2 (by kernel_rfl) (fun s=>rfl) (fun k=>B4d (A3r k) (A3c k)) (fc ⟨fun s=>rfl,fc ⟨fun s=>rfl,fz⟩⟩) (fun k s0=> .cons (by kernel_rfl) (by kernel_rfl) (fun s r h=>(D9P (A3r k) (A3c k) (W7 k) s0 s).trans (E3x k s.1.1 s.1.2.1 s.2.1 r h)) (.cons (by kernel_rfl) (by kernel_rfl) (fun s r h=>(E2K (A3r k) (A3c k) (W7 k) s0 s).trans (E5G k s.1.1 s.1.2.1 s.1.2.2.1 s.1.2.2.2.1 s.2.1 r h)) (.nil))) (F:=fun k s=>Q9 k s.1.1) (fun k s r h=>(D8b (A3r k) (A3c k) (W7 k) s).trans (F1H k s.1.1 r h)) k
theorem E1r (k:Nat):B5 Tryz.prog (D2O (k8 k)):=
 B7 B6 HM B0d (es:=fun k=>C7g (W7 k)) (fun k=>fc ⟨D5a k,fz⟩) Tryz.func230 1 (by kernel_rfl) (fun s=>rfl) (fun k=>C4M (A4W k)) (fc ⟨fun s=>by show ite _ _ _=none;split<;>rfl,fz⟩) (fun k s0=> .cons (by kernel_rfl) (by kernel_rfl) (fun s r h=>(F2i (A4W k) (W7 k) s0 s).trans (F0r k s.1.1 s.1.2.1 s.1.2.2.1 s.2.1 r h)) (.nil)) (F:=fun k s=>k8 k s.1.1 s.2.1) (fun k s r h=>(F0h (A4W k) (W7 k) s).trans (E5R k s.1.1 s.2.1 r h)) k
noncomputable abbrev A2R (k:Nat) (x7:(List Int)) (x8:Int) (x11:Int) (x9:(List Int)) (x10:(List Int)):Option Q5:=All.galoisref01_DivMod.l0 k x7 x8 x9 x10 x11
noncomputable abbrev A2X (k:Nat) (x7:(List Int)) (x8:Int) (x11:Int) (x9:(List Int)) (x10:(List Int)):Option Q5:=All.galoisref01_DivMod.l1 k x7 x8 x9 x10 x11
noncomputable abbrev A1u (k:Nat) (x7:(List Int)) (x8:Int) (x11:Int) (x12:Int) (x13:Int) (x14:Int) (x9:(List Int)) (x10:(List Int)):Option Q5:=All.galoisref01_DivMod.l2 k x7 x8 x9 x10 x11 x12 x13 x14
theorem E1G (k:Nat) (x7:(List Int)) (x8:Int) (x11:Int) (x9:(List Int)) (x10:(List Int)):A0 (All.galoisref01_DivMod.l0 (k+1) x7 x8 x9 x10 x11) (C6g (A2X k) (N0 k) x7 x8 x11 x9 x10):=by rw [All.galoisref01_DivMod.l0];unfold C6g;(try simp only [A2R,A2X,A1u,N0,Q9,k8,All.integer_zero.f,All.exact_stepAt.f,All.S24.f0,All.S24.f1,All.rd_T24,All.z24]);exact BR
theorem E3V (k:Nat) (x7:(List Int)) (x8:Int) (x11:Int) (x9:(List Int)) (x10:(List Int)):A0 (All.galoisref01_DivMod.l1 (k+1) x7 x8 x9 x10 x11) (C6k (A2R k) (A1u k) (k8 k) x7 x8 x11 x9 x10):=by rw [All.galoisref01_DivMod.l1];unfold C6k;(try simp only [A2R,A2X,A1u,N0,Q9,k8,All.integer_zero.f,All.exact_stepAt.f,All.S24.f0,All.S24.f1,All.rd_T24,All.z24]);exact BR
theorem E6N (k:Nat) (x7:(List Int)) (x8:Int) (x11:Int) (x12:Int) (x13:Int) (x14:Int) (x9:(List Int)) (x10:(List Int)):A0 (All.galoisref01_DivMod.l2 (k+1) x7 x8 x9 x10 x11 x12 x13 x14) (C1L (A2X k) (A1u k) x7 x8 x11 x12 x13 x14 x9 x10):=by rw [All.galoisref01_DivMod.l2];unfold C1L;(try simp only [A2R,A2X,A1u,N0,Q9,k8,All.integer_zero.f,All.exact_stepAt.f,All.S24.f0,All.S24.f1,All.rd_T24,All.z24]);exact BR
theorem D9W (k:Nat) (x0:ByteArray) (x1:ByteArray):A0 (j6 k x0 x1) (C3r (A2R k) (Q9 k) x0 x1):=by
 show A0 (All.galoisref01_DivMod.f k x0 x1) _
 unfold All.galoisref01_DivMod.f;unfold C3r;(try simp only [A2R,A2X,A1u,N0,Q9,k8,All.integer_zero.f,All.exact_stepAt.f,All.S24.f0,All.S24.f1,All.rd_T24,All.z24]);exact BR
theorem D2k (k:Nat):B5 Tryz.prog (C1p (j6 k)):=
 B7 B6 HM A2m (es:=fun k=>B2q (N0 k) (Q9 k) (k8 k)) (fun k=>fc ⟨C3X k,fc ⟨D3e k,fc ⟨E1r k,fz⟩⟩⟩) Tryz.func203 3 (by kernel_rfl) (fun s=>rfl) (fun k=>B1p (A2R k) (A2X k) (A1u k)) (fc ⟨fun s=>rfl,fc ⟨fun s=>rfl,fc ⟨fun s=>rfl,fz⟩⟩⟩) (fun k s0=> .cons (by kernel_rfl) (by kernel_rfl) (fun s r h=>(F1L (A2R k) (A2X k) (A1u k) (N0 k) (Q9 k) (k8 k) s0 s).trans (E1G k s.1.1 s.1.2.1 s.1.2.2.1 s.2.1 s.2.2.1 r h)) (.cons (by kernel_rfl) (by kernel_rfl) (fun s r h=>(E5H (A2R k) (A2X k) (A1u k) (N0 k) (Q9 k) (k8 k) s0 s).trans (E3V k s.1.1 s.1.2.1 s.1.2.2.1 s.2.1 s.2.2.1 r h)) (.cons (by kernel_rfl) (by kernel_rfl) (fun s r h=>(E0b (A2R k) (A2X k) (A1u k) (N0 k) (Q9 k) (k8 k) s0 s).trans (E6N k s.1.1 s.1.2.1 s.1.2.2.1 s.1.2.2.2.1 s.1.2.2.2.2.1 s.1.2.2.2.2.2.1 s.2.1 s.2.2.1 r h)) (.nil)))) (F:=fun k s=>j6 k s.1.1 s.1.2.1) (fun k s r h=>(D6P (A2R k) (A2X k) (A1u k) (N0 k) (Q9 k) (k8 k) s).trans (D9W k s.1.1 s.1.2.1 r h)) k
noncomputable abbrev A7g (k:Nat) (x0:ByteArray) (x1:ByteArray):Option m6:=All.galoisref01_Gcd.l0 k x0 x1
theorem E3L (k:Nat) (x0:ByteArray) (x1:ByteArray):A0 (All.galoisref01_Gcd.l0 (k+1) x0 x1) (C0q (A7g k) (j6 k) x0 x1):=by rw [All.galoisref01_Gcd.l0];unfold C0q;(try simp only [A7g,j6,All.integer_zero.f,All.exact_stepAt.f,All.S24.f0,All.S24.f1,All.rd_T24,All.z24]);exact BR
theorem E9z (k:Nat) (x0:ByteArray) (x1:ByteArray):A0 (U7 k x0 x1) (C4Y (A7g k) x0 x1):=by
 show A0 (All.galoisref01_Gcd.f k x0 x1) _
 unfold All.galoisref01_Gcd.f;unfold C4Y;(try simp only [A7g,j6,All.integer_zero.f,All.exact_stepAt.f,All.S24.f0,All.S24.f1,All.rd_T24,All.z24]);exact BR
theorem D0d (k:Nat):B5 Tryz.prog (C0D (U7 k)):=
 B7 B6 HM A9A (es:=fun k=>C7H (j6 k)) (fun k=>fc ⟨D2k k,fz⟩) Tryz.func180 1 (by kernel_rfl) (fun s=>rfl) (fun k=>C0l (A7g k)) (fc ⟨fun s=>rfl,fz⟩) (fun k s0=> .cons (by kernel_rfl) (by kernel_rfl) (fun s r h=>(D9r (A7g k) (j6 k) s0 s).trans (E3L k s.1.1 s.1.2.1 r h)) (.nil)) (F:=fun k s=>U7 k s.1.1 s.1.2.1) (fun k s r h=>(E4x (A7g k) (j6 k) s).trans (E9z k s.1.1 s.1.2.1 r h)) k
theorem E0r (k:Nat) (x0:TQ):A0 (J9 k x0) (A4I (w7 k) (W6 k) (V6 k) (U7 k) x0):=A0.refl _
theorem C8u (k:Nat):B5 Tryz.prog (C6c (J9 k)):=
 B7 B6 HM B4V (es:=fun k=>D5U (w7 k) (W6 k) (V6 k) (U7 k)) (fun k=>fc ⟨E9b k,fc ⟨D0T k,fc ⟨D6d k,fc ⟨D0d k,fz⟩⟩⟩⟩) Tryz.func135 0 (by kernel_rfl) (fun s=>rfl) (fun k=>[]) (fz) (fun k s0=> .nil) (F:=fun k s=>J9 k s.1.1) (fun k s r h=>(E2n (w7 k) (W6 k) (V6 k) (U7 k) s).trans (E0r k s.1.1 r h)) k
theorem D9z (k:Nat) (x0:(List TQ)) (x9:(List TQ)) (x10:Int) (x11:Int):A0 (o6 (k+1) x0 x9 x10 x11) (A5j (o6 k) (P1 k) (J9 k) x0 x9 x10 x11):=by rw [o6];exact A0.refl _
theorem b69 (k:Nat) (x0:(List TQ)):A0 (M1 k x0) (B69 (o6 k) x0):=A0.refl _
theorem B6C (k:Nat):B5 Tryz.prog (B2r (M1 k)):=
 B7 B6 HM D69 (es:=fun k=>C3g (P1 k) (J9 k)) (fun k=>fc ⟨C9O k,fc ⟨C8u k,fz⟩⟩) Tryz.func69 1 (by kernel_rfl) (fun s=>rfl) (fun k=>C0C (o6 k)) (fc ⟨fun s=>rfl,fz⟩) (fun k s0=> .cons (by kernel_rfl) (by kernel_rfl) (fun s r h=>(D9K (o6 k) (P1 k) (J9 k) s0 s).trans (D9z k s.1.1 s.1.2.1 s.1.2.2.1 s.1.2.2.2.1 r h)) (.nil)) (F:=fun k s=>M1 k s.1.1) (fun k s r h=>(e69 (o6 k) (P1 k) (J9 k) s).trans (b69 k s.1.1 r h)) k
theorem D7n (k:Nat) (x0:Int):A0 (A7G k x0) (C0K (N0 k) x0):=by
 show A0 (All.galoisref01_Of.f k x0) _
 unfold All.galoisref01_Of.f;unfold C0K;(try simp only [N0,All.integer_zero.f,All.exact_stepAt.f,All.S24.f0,All.S24.f1,All.rd_T24,All.z24]);exact BR
theorem E2u (k:Nat):B5 Tryz.prog (D0h (A7G k)):=
 B7 B6 HM B6B (es:=fun k=>D4Q (N0 k)) (fun k=>fc ⟨C3X k,fz⟩) Tryz.func183 0 (by kernel_rfl) (fun s=>rfl) (fun k=>[]) (fz) (fun k s0=> .nil) (F:=fun k s=>A7G k s.1.1) (fun k s r h=>(E4F (N0 k) s).trans (D7n k s.1.1 r h)) k
theorem D9x (k:Nat) (x0:Int):A0 (A4Y k x0) (C3l (A7G k) x0):=by
 show A0 (All.galoisref02_FromInt.f k x0) _
 unfold All.galoisref02_FromInt.f;unfold C3l;(try simp only [A7G,All.integer_zero.f,All.exact_stepAt.f,All.S24.f0,All.S24.f1,All.rd_T24,All.z24]);exact BR
theorem E6w (k:Nat):B5 Tryz.prog (D4y (A4Y k)):=
 B7 B6 HM B7r (es:=fun k=>D5L (A7G k)) (fun k=>fc ⟨E2u k,fz⟩) Tryz.func141 0 (by kernel_rfl) (fun s=>rfl) (fun k=>[]) (fz) (fun k s0=> .nil) (F:=fun k s=>A4Y k s.1.1) (fun k s r h=>(E5l (A7G k) s).trans (D9x k s.1.1 r h)) k
theorem b81 (k:Nat) (x0:Int):A0 (J7 k x0) (B81 (A4Y k) x0):=A0.refl _
theorem B5r (k:Nat):B5 Tryz.prog (B2K (J7 k)):=
 B7 B6 HM D81 (es:=fun k=>D2b (A4Y k)) (fun k=>fc ⟨E6w k,fz⟩) Tryz.func81 0 (by kernel_rfl) (fun s=>rfl) (fun k=>[]) (fz) (fun k s0=> .nil) (F:=fun k s=>J7 k s.1.1) (fun k s r h=>(e81 (A4Y k) s).trans (b81 k s.1.1 r h)) k
theorem b80 (k:Nat) (x0:(List TQ)):A0 (A3D k x0) (B80 (J7 k) x0):=A0.refl _
theorem E6t (k:Nat):B5 Tryz.prog (D2X (A3D k)):=
 B7 B6 HM D80 (es:=fun k=>D1U (J7 k)) (fun k=>fc ⟨B5r k,fz⟩) Tryz.func80 0 (by kernel_rfl) (fun s=>rfl) (fun k=>[]) (fz) (fun k s0=> .nil) (F:=fun k s=>A3D k s.1.1) (fun k s r h=>(e80 (J7 k) s).trans (b80 k s.1.1 r h)) k
theorem b82 (k:Nat) (x0:TQ):A0 (A1l k x0) (B82 x0):=A0.refl _
theorem E9v (k:Nat):B5 Tryz.prog (D3F (A1l k)):=
 B7 B6 HM D82 (es:=fun k=>[]) (fun k=>fz) Tryz.func82 0 (by kernel_rfl) (fun s=>rfl) (fun k=>[]) (fz) (fun k s0=> .nil) (F:=fun k s=>A1l k s.1.1) (fun k s r h=>(e82 s).trans (b82 k s.1.1 r h)) k
theorem F2S (k:Nat) (x24:(List TQ)) (x25:Int) (x26:Int) (x1:(List TQ)):A0 (q7 (k+1) x24 x25 x26 x1) (A7P (q7 k) (P5 k) (A1l k) x24 x25 x26 x1):=by rw [q7];exact A0.refl _
theorem b13 (k:Nat) (x0:(List TQ)):A0 (G7 k x0) (B13 (q7 k) (M1 k) (A3D k) (J7 k) x0):=A0.refl _
theorem A9v (k:Nat):B5 Tryz.prog (A6J (G7 k)):=
 B7 B6 HM D13 (es:=fun k=>C0d (P5 k) (M1 k) (A3D k) (J7 k) (A1l k)) (fun k=>fc ⟨C0a k,fc ⟨B6C k,fc ⟨E6t k,fc ⟨B5r k,fc ⟨E9v k,fz⟩⟩⟩⟩⟩) Tryz.func13 1 (by kernel_rfl) (fun s=>rfl) (fun k=>C1K (q7 k)) (fc ⟨fun s=>rfl,fz⟩) (fun k s0=> .cons (by kernel_rfl) (by kernel_rfl) (fun s r h=>(E0m (q7 k) (P5 k) (M1 k) (A3D k) (J7 k) (A1l k) s0 s).trans (F2S k s.1.1 s.1.2.1 s.1.2.2.1 s.2.1 r h)) (.nil)) (F:=fun k s=>G7 k s.1.1) (fun k s r h=>(e13 (q7 k) (P5 k) (M1 k) (A3D k) (J7 k) (A1l k) s).trans (b13 k s.1.1 r h)) k
theorem b55 (k:Nat) (x0:(List TQ)) (x1:(List TQ)):A0 (A0z k x0 x1) (B55 (G7 k) (P5 k) (M1 k) x0 x1):=A0.refl _
theorem E3O (k:Nat):B5 Tryz.prog (D6M (A0z k)):=
 B7 B6 HM D55 (es:=fun k=>D3d (G7 k) (P5 k) (M1 k)) (fun k=>fc ⟨A9v k,fc ⟨C0a k,fc ⟨B6C k,fz⟩⟩⟩) Tryz.func55 0 (by kernel_rfl) (fun s=>rfl) (fun k=>[]) (fz) (fun k s0=> .nil) (F:=fun k s=>A0z k s.1.1 s.1.2.1) (fun k s r h=>(e55 (G7 k) (P5 k) (M1 k) s).trans (b55 k s.1.1 s.1.2.1 r h)) k
theorem D7d (k:Nat) (x1:(List (List TQ))) (x16:(List (List TQ))) (x17:Int) (x18:Int) (x2:(List TQ)):A0 (A0O (k+1) x1 x16 x17 x18 x2) (A7R (A0O k) (A0z k) x1 x16 x17 x18 x2):=by rw [A0O];exact A0.refl _
theorem b14 (k:Nat) (x0:(List TQ)) (x1:(List (List TQ))):A0 (Q2 k x0 x1) (B14 (A0O k) (G7 k) x0 x1):=A0.refl _
theorem B8P (k:Nat):B5 Tryz.prog (B3w (Q2 k)):=
 B7 B6 HM D14 (es:=fun k=>C1G (G7 k) (A0z k)) (fun k=>fc ⟨A9v k,fc ⟨E3O k,fz⟩⟩) Tryz.func14 1 (by kernel_rfl) (fun s=>rfl) (fun k=>C8O (A0O k)) (fc ⟨fun s=>rfl,fz⟩) (fun k s0=> .cons (by kernel_rfl) (by kernel_rfl) (fun s r h=>(D7V (A0O k) (G7 k) (A0z k) s0 s).trans (D7d k s.1.1 s.1.2.1 s.1.2.2.1 s.1.2.2.2.1 s.2.1 r h)) (.nil)) (F:=fun k s=>Q2 k s.1.1 s.1.2.1) (fun k s r h=>(e14 (A0O k) (G7 k) (A0z k) s).trans (b14 k s.1.1 s.1.2.1 r h)) k
theorem E3X (k:Nat) (x17:(List TQ)) (x18:Int) (x19:Int):A0 (v8 (k+1) x17 x18 x19) (A7M (v8 k) x17 x18 x19):=by rw [v8];exact A0.refl _
theorem b70 (k:Nat) (x0:(List TQ)) (x1:Int):A0 (j7 k x0 x1) (B70 (v8 k) (M1 k) x0 x1):=A0.refl _
theorem D3P (k:Nat):B5 Tryz.prog (C7a (j7 k)):=
 B7 B6 HM D70 (es:=fun k=>B8O (M1 k)) (fun k=>fc ⟨B6C k,fz⟩) Tryz.func70 1 (by kernel_rfl) (fun s=>rfl) (fun k=>C3A (v8 k)) (fc ⟨fun s=>rfl,fz⟩) (fun k s0=> .cons (by kernel_rfl) (by kernel_rfl) (fun s r h=>(D9F (v8 k) (M1 k) s0 s).trans (E3X k s.1.1 s.1.2.1 s.1.2.2.1 r h)) (.nil)) (F:=fun k s=>j7 k s.1.1 s.1.2.1) (fun k s r h=>(e70 (v8 k) (M1 k) s).trans (b70 k s.1.1 s.1.2.1 r h)) k
theorem b49 (k:Nat) (x0:(List TQ)) (x1:(List TQ)):A0 (A1c k x0 x1) (B49 (G7 k) (P5 k) (j7 k) x0 x1):=A0.refl _
theorem E0e (k:Nat):B5 Tryz.prog (C9k (A1c k)):=
 B7 B6 HM D49 (es:=fun k=>D4d (G7 k) (P5 k) (j7 k)) (fun k=>fc ⟨A9v k,fc ⟨C0a k,fc ⟨D3P k,fz⟩⟩⟩) Tryz.func49 0 (by kernel_rfl) (fun s=>rfl) (fun k=>[]) (fz) (fun k s0=> .nil) (F:=fun k s=>A1c k s.1.1 s.1.2.1) (fun k s r h=>(e49 (G7 k) (P5 k) (j7 k) s).trans (b49 k s.1.1 s.1.2.1 r h)) k
theorem E8a (k:Nat) (x19:(List TQ)) (x20:Int) (x21:Int):A0 (n6 (k+1) x19 x20 x21) (A6p (n6 k) x19 x20 x21):=by rw [n6];exact A0.refl _
theorem b79 (k:Nat) (x0:(List TQ)) (x1:Int):A0 (V8 k x0 x1) (B79 (n6 k) (G7 k) x0 x1):=A0.refl _
theorem D3U (k:Nat):B5 Tryz.prog (B8g (V8 k)):=
 B7 B6 HM D79 (es:=fun k=>C4I (G7 k)) (fun k=>fc ⟨A9v k,fz⟩) Tryz.func79 1 (by kernel_rfl) (fun s=>rfl) (fun k=>C6S (n6 k)) (fc ⟨fun s=>rfl,fz⟩) (fun k s0=> .cons (by kernel_rfl) (by kernel_rfl) (fun s r h=>(E9L (n6 k) (G7 k) s0 s).trans (E8a k s.1.1 s.1.2.1 s.1.2.2.1 r h)) (.nil)) (F:=fun k s=>V8 k s.1.1 s.1.2.1) (fun k s r h=>(e79 (n6 k) (G7 k) s).trans (b79 k s.1.1 s.1.2.1 r h)) k
theorem E9p (k:Nat) (x28:(List (List TQ))) (x29:Int) (x30:Int) (x4:(List TQ)):A0 (A0J (k+1) x28 x29 x30 x4) (A6u (A0J k) (A1c k) x28 x29 x30 x4):=by rw [A0J];exact A0.refl _
theorem b26 (k:Nat) (x0:(List TQ)) (x1:(List (List TQ))) (x2:Int) (x3:Int):A0 (A0q k x0 x1 x2 x3) (B26 (A0J k) (Q2 k) (V8 k) x0 x1 x2 x3):=A0.refl _
theorem E2B (k:Nat):B5 Tryz.prog (C9C (A0q k)):=
 B7 B6 HM D26 (es:=fun k=>B9U (Q2 k) (A1c k) (V8 k)) (fun k=>fc ⟨B8P k,fc ⟨E0e k,fc ⟨D3U k,fz⟩⟩⟩) Tryz.func26 1 (by kernel_rfl) (fun s=>rfl) (fun k=>C4o (A0J k)) (fc ⟨fun s=>rfl,fz⟩) (fun k s0=> .cons (by kernel_rfl) (by kernel_rfl) (fun s r h=>(F1m (A0J k) (Q2 k) (A1c k) (V8 k) s0 s).trans (E9p k s.1.1 s.1.2.1 s.1.2.2.1 s.2.1 r h)) (.nil)) (F:=fun k s=>A0q k s.1.1 s.1.2.1 s.1.2.2.1 s.1.2.2.2.1) (fun k s r h=>(e26 (A0J k) (Q2 k) (A1c k) (V8 k) s).trans (b26 k s.1.1 s.1.2.1 s.1.2.2.1 s.1.2.2.2.1 r h)) k
theorem E6K (k:Nat) (x10:(List (List (List TQ)))) (x11:Int) (x12:Int) (x2:(List TQ)):A0 (q9 (k+1) x10 x11 x12 x2) (A6P (q9 k) (Q2 k) (A0q k) (V8 k) x10 x11 x12 x2):=by rw [q9];exact A0.refl _
theorem b12 (k:Nat) (x0:(List TQ)) (x1:(List (List (List TQ)))):A0 (A3P k x0 x1) (B12 (q9 k) (G7 k) x0 x1):=A0.refl _
theorem F2o (k:Nat):B5 Tryz.prog (D4s (A3P k)):=
 B7 B6 HM D12 (es:=fun k=>C7e (G7 k) (Q2 k) (A0q k) (V8 k)) (fun k=>fc ⟨A9v k,fc ⟨B8P k,fc ⟨E2B k,fc ⟨D3U k,fz⟩⟩⟩⟩) Tryz.func12 1 (by kernel_rfl) (fun s=>rfl) (fun k=>B9J (q9 k)) (fc ⟨fun s=>rfl,fz⟩) (fun k s0=> .cons (by kernel_rfl) (by kernel_rfl) (fun s r h=>(E4N (q9 k) (G7 k) (Q2 k) (A0q k) (V8 k) s0 s).trans (E6K k s.1.1 s.1.2.1 s.1.2.2.1 s.2.1 r h)) (.nil)) (F:=fun k s=>A3P k s.1.1 s.1.2.1) (fun k s r h=>(e12 (q9 k) (G7 k) (Q2 k) (A0q k) (V8 k) s).trans (b12 k s.1.1 s.1.2.1 r h)) k
theorem E3z (k:Nat) (x0:TI):A0 (T2 k x0) (A7S x0):=A0.refl _
theorem C0o (k:Nat):B5 Tryz.prog (B5P (T2 k)):=
 B7 B6 HM B4Q (es:=fun k=>[]) (fun k=>fz) Tryz.func149 0 (by kernel_rfl) (fun s=>rfl) (fun k=>[]) (fz) (fun k s0=> .nil) (F:=fun k s=>T2 k s.1.1) (fun k s r h=>(E6G s).trans (E3z k s.1.1 r h)) k
noncomputable abbrev A6T (k:Nat) (x0:(List Int)) (x3:Int):Option A0r:=All.exact_trim.l0 k x0 x3
theorem D8l (k:Nat) (x0:(List Int)) (x3:Int):A0 (All.exact_trim.l0 (k+1) x0 x3) (C2w (A6T k) x0 x3):=by rw [All.exact_trim.l0];unfold C2w;(try simp only [A6T,All.integer_zero.f,All.exact_stepAt.f,All.S24.f0,All.S24.f1,All.rd_T24,All.z24]);exact BR
theorem F0C (k:Nat) (x0:(List Int)):A0 (n7 k x0) (C7z (A6T k) x0):=by
 show A0 (All.exact_trim.f k x0) _
 unfold All.exact_trim.f;unfold C7z;(try simp only [A6T,All.integer_zero.f,All.exact_stepAt.f,All.S24.f0,All.S24.f1,All.rd_T24,All.z24]);exact BR
theorem E9O (k:Nat):B5 Tryz.prog (D2Y (n7 k)):=
 B7 B6 HM A9b (es:=fun k=>[]) (fun k=>fz) Tryz.func245 1 (by kernel_rfl) (fun s=>rfl) (fun k=>C8S (A6T k)) (fc ⟨fun s=>rfl,fz⟩) (fun k s0=> .cons (by kernel_rfl) (by kernel_rfl) (fun s r h=>(E4Y (A6T k) s0 s).trans (D8l k s.1.1 s.1.2.1 r h)) (.nil)) (F:=fun k s=>n7 k s.1.1) (fun k s r h=>(D8z (A6T k) s).trans (F0C k s.1.1 r h)) k
noncomputable abbrev A1D (k:Nat) (x17:(List Int)) (x18:Int) (x19:Int) (x3:(List Int)):Option J3:=All.exact_pack.l0 k x3 x17 x18 x19
noncomputable abbrev A1a (k:Nat) (x4:Int) (x5:Int) (x17:(List Int)) (x18:Int) (x19:Int) (x24:Int) (x3:(List Int)):Option J3:=All.exact_pack.l1 k x3 x4 x5 x17 x18 x19 x24
noncomputable abbrev A1A (k:Nat) (x7:Int) (x3:(List Int)):Option J3:=All.exact_pack.l2 k x3 x7
theorem E7K (k:Nat) (x17:(List Int)) (x18:Int) (x19:Int) (x3:(List Int)):A0 (All.exact_pack.l0 (k+1) x3 x17 x18 x19) (C4d (A1a k) (A1A k) x17 x18 x19 x3):=by rw [All.exact_pack.l0];unfold C4d;(try simp only [A1D,A1a,A1A,n7,All.integer_zero.f,All.exact_stepAt.f,All.S24.f0,All.S24.f1,All.rd_T24,All.z24]);exact BR
theorem D8s (k:Nat) (x4:Int) (x5:Int) (x17:(List Int)) (x18:Int) (x19:Int) (x24:Int) (x3:(List Int)):A0 (All.exact_pack.l1 (k+1) x3 x4 x5 x17 x18 x19 x24) (C5C (A1D k) (A1a k) x4 x5 x17 x18 x19 x24 x3):=by rw [All.exact_pack.l1];unfold C5C;(try simp only [A1D,A1a,A1A,n7,All.integer_zero.f,All.exact_stepAt.f,All.S24.f0,All.S24.f1,All.rd_T24,All.z24]);exact BR
theorem D8D (k:Nat) (x7:Int) (x3:(List Int)):A0 (All.exact_pack.l2 (k+1) x3 x7) (C8A (A1A k) x7 x3):=by rw [All.exact_pack.l2];unfold C8A;(try simp only [A1D,A1a,A1A,n7,All.integer_zero.f,All.exact_stepAt.f,All.S24.f0,All.S24.f1,All.rd_T24,All.z24]);exact BR
theorem F3W (k:Nat) (x0:(List Int)):A0 (G1 k x0) (C5B (A1D k) (n7 k) x0):=by
 show A0 (All.exact_pack.f k x0) _
 unfold All.exact_pack.f;unfold C5B;(try simp only [A1D,A1a,A1A,n7,All.integer_zero.f,All.exact_stepAt.f,All.S24.f0,All.S24.f1,All.rd_T24,All.z24]);exact BR
theorem A7J (k:Nat):B5 Tryz.prog (A5S (G1 k)):=
 B7 B6 HM A3L (es:=fun k=>B2d (n7 k)) (fun k=>fc ⟨E9O k,fz⟩) Tryz.func223 3 (by kernel_rfl) (fun s=>rfl) (fun k=>B2f (A1D k) (A1a k) (A1A k)) (fc ⟨fun s=>rfl,fc ⟨fun s=>rfl,fc ⟨fun s=>rfl,fz⟩⟩⟩) (fun k s0=> .cons (by kernel_rfl) (by kernel_rfl) (fun s r h=>(F2V (A1D k) (A1a k) (A1A k) (n7 k) s0 s).trans (E7K k s.1.1 s.1.2.1 s.1.2.2.1 s.2.1 r h)) (.cons (by kernel_rfl) (by kernel_rfl) (fun s r h=>(E2H (A1D k) (A1a k) (A1A k) (n7 k) s0 s).trans (D8s k s.1.1 s.1.2.1 s.1.2.2.1 s.1.2.2.2.1 s.1.2.2.2.2.1 s.1.2.2.2.2.2.1 s.2.1 r h)) (.cons (by kernel_rfl) (by kernel_rfl) (fun s r h=>(D7W (A1D k) (A1a k) (A1A k) (n7 k) s0 s).trans (D8D k s.1.1 s.2.1 r h)) (.nil)))) (F:=fun k s=>G1 k s.1.1) (fun k s r h=>(D6y (A1D k) (A1a k) (A1A k) (n7 k) s).trans (F3W k s.1.1 r h)) k
theorem E0u (k:Nat) (x0:Int):A0 (A7F k x0) (B8x (G1 k) x0):=by
 show A0 (All.exact_NatOf.f k x0) _
 unfold All.exact_NatOf.f;unfold B8x;(try simp only [G1,All.integer_zero.f,All.exact_stepAt.f,All.S24.f0,All.S24.f1,All.rd_T24,All.z24]);exact BR
theorem D8O (k:Nat):B5 Tryz.prog (D0r (A7F k)):=
 B7 B6 HM B5d (es:=fun k=>D0M (G1 k)) (fun k=>fc ⟨A7J k,fz⟩) Tryz.func193 0 (by kernel_rfl) (fun s=>rfl) (fun k=>[]) (fz) (fun k s0=> .nil) (F:=fun k s=>A7F k s.1.1) (fun k s r h=>(D9D (G1 k) s).trans (E0u k s.1.1 r h)) k
theorem E1c (k:Nat) (x0:Int):A0 (A4i k x0) (C4a (A7F k) x0):=by
 show A0 (All.exact_IntOf.f k x0) _
 unfold All.exact_IntOf.f;unfold C4a;(try simp only [A7F,All.integer_zero.f,All.exact_stepAt.f,All.S24.f0,All.S24.f1,All.rd_T24,All.z24]);exact BR
theorem F2y (k:Nat):B5 Tryz.prog (D2L (A4i k)):=
 B7 B6 HM B4T (es:=fun k=>D1d (A7F k)) (fun k=>fc ⟨D8O k,fz⟩) Tryz.func150 0 (by kernel_rfl) (fun s=>rfl) (fun k=>[]) (fz) (fun k s0=> .nil) (F:=fun k s=>A4i k s.1.1) (fun k s r h=>(E2X (A7F k) s).trans (E1c k s.1.1 r h)) k
theorem b89 (k:Nat) (x0:Int):A0 (D7 k x0) (B89 (T2 k) (A4i k) x0):=A0.refl _
theorem A5f (k:Nat):B5 Tryz.prog (A4K (D7 k)):=
 B7 B6 HM D89 (es:=fun k=>D2j (T2 k) (A4i k)) (fun k=>fc ⟨C0o k,fc ⟨F2y k,fz⟩⟩) Tryz.func89 0 (by kernel_rfl) (fun s=>rfl) (fun k=>[]) (fz) (fun k s0=> .nil) (F:=fun k s=>D7 k s.1.1) (fun k s r h=>(e89 (T2 k) (A4i k) s).trans (b89 k s.1.1 r h)) k
theorem E2a (k:Nat) (x0:TQ):A0 (J1 k x0) (C3c x0):=A0.refl _
theorem B4r (k:Nat):B5 Tryz.prog (B2e (J1 k)):=
 B7 B6 HM B6F (es:=fun k=>[]) (fun k=>fz) Tryz.func152 0 (by kernel_rfl) (fun s=>rfl) (fun k=>[]) (fz) (fun k s0=> .nil) (F:=fun k s=>J1 k s.1.1) (fun k s r h=>(F3I s).trans (E2a k s.1.1 r h)) k
theorem D7F (k:Nat) (x0:ByteArray):A0 (T7 k x0) (C7c x0):=by
 show A0 (All.natural_Check.f k x0) _
 unfold All.natural_Check.f
 unfold C7c
 (try simp only [All.integer_zero.f,All.exact_stepAt.f,All.S24.f0,All.S24.f1,All.rd_T24,All.z24])
 (try simp only [F1,List.take_append_drop,List.drop_length,List.append_nil,Int.zero_sub,Int.toNat_natCast,Int.reduceToNat,Int.zero_add,List.take_zero,List.nil_append,List.append_assoc,List.length_set,Y2,List.take_left,H4,bne,H5,decide_not,I2,if_true,if_false,Bool.false_eq_true,j8,A0G,List.drop_zero,List.take_length,H7,F9,i8,C2,ite_not,Bool.and_eq_true,Bool.or_eq_true,Bool.not_eq_true',H2,Bool.not_eq_false',beq_iff_eq,decide_eq_true_eq,I0,H1,H0,ne_eq,H8,List.toList_toArray])
 repeat' first
 | (with_reducible refine A0.trans ((All.natural_Check.mono_l k) _ _) ?_;rw [All.natural_Check.j0];(try simp only [F1,if_true,if_false,decide_eq_true_eq,Bool.false_eq_true,decide_not,ite_not,bne,H5,beq_iff_eq,Bool.not_eq_true',H2,H8,List.toList_toArray,H1,H0,Bool.and_eq_true,Bool.or_eq_true,I0,I2,H7,All.integer_zero.f,F9,Int.toNat_natCast,Int.reduceToNat,Int.zero_sub,H4]))
 | (with_reducible exact A0.none _)
 | (with_reducible exact A0.refl _)
 | (with_reducible refine A0.posR (by with_reducible assumption) ?_)
 | (with_reducible refine A0.negR (by with_reducible assumption) ?_)
 | (with_reducible refine A0.bindR (by with_reducible assumption) ?_)
 | (with_reducible refine A0.posL (by with_reducible assumption) ?_)
 | (with_reducible refine A0.negL (by with_reducible assumption) ?_)
 | (with_reducible refine A0.iteL (fun _=>?_) (fun _=>?_))
 | (with_reducible refine A0.bindK (by with_reducible assumption) ?_)
 | (with_reducible refine A0.bindL (fun _ _=>?_))
 | (refine A0.posR (by first|decide|exact Int.le_refl _|omega|assumption) ?_)
 | (refine A0.negR (by first|decide|omega) ?_)
theorem D6N (k:Nat):B5 Tryz.prog (C1J (T7 k)):=
 B7 B6 HM B5v (es:=fun k=>[]) (fun k=>fz) Tryz.func214 0 (by kernel_rfl) (fun s=>rfl) (fun k=>[]) (fz) (fun k s0=> .nil) (F:=fun k s=>T7 k s.1.1) (fun k s r h=>(F0n s).trans (D7F k s.1.1 r h)) k
theorem E8X (k:Nat):A0 (A6d k) (C6d):=by
 show A0 (All.integer_zero.f) _
 unfold All.integer_zero.f;unfold C6d;(try simp only [All.integer_zero.f,All.exact_stepAt.f,All.S24.f0,All.S24.f1,All.rd_T24,All.z24]);exact BR
theorem E5O (k:Nat):B5 Tryz.prog (C9D (A6d k)):=
 B7 B6 HM B4v (es:=fun k=>[]) (fun k=>fz) Tryz.func243 0 (by kernel_rfl) (fun s=>rfl) (fun k=>[]) (fz) (fun k s0=> .nil) (F:=fun k s=>A6d k) (fun k s r h=>(E3C s).trans (E8X k r h)) k
theorem E3g (k:Nat) (x0:TI):A0 (d5 k x0) (B9O (T7 k) (A6d k) x0):=by
 show A0 (All.integer_Check.f k x0.1 x0.2) _
 unfold All.integer_Check.f;unfold B9O;(try simp only [T7,A6d,All.integer_zero.f,All.exact_stepAt.f,All.S24.f0,All.S24.f1,All.rd_T24,All.z24]);exact BR
theorem F3C (k:Nat):B5 Tryz.prog (C9X (d5 k)):=
 B7 B6 HM B3v (es:=fun k=>D1X (T7 k) (A6d k)) (fun k=>fc ⟨D6N k,fc ⟨E5O k,fz⟩⟩) Tryz.func213 0 (by kernel_rfl) (fun s=>rfl) (fun k=>[]) (fz) (fun k s0=> .nil) (F:=fun k s=>d5 k s.1.1) (fun k s r h=>(E5c (T7 k) (A6d k) s).trans (E3g k s.1.1 r h)) k
theorem C2x (k:Nat):B5 Tryz.prog (B5N (K3 k)):=
 B7 B6 HM B0B (es:=fun k=>[]) (fun k=>fz) Tryz.func245 1 (by kernel_rfl) (fun s=>rfl) (fun k=>C5O (A7Q k)) (fc ⟨fun s=>rfl,fz⟩) (fun k s0=> .cons (by kernel_rfl) (by kernel_rfl) (fun s r h=>(F0q (A7Q k) s0 s).trans (F0w k s.1.1 s.2.1 r h)) (.nil)) (F:=fun k s=>K3 k s.2.1) (fun k s r h=>(E9G (A7Q k) s).trans (D9g k s.2.1 r h)) k
noncomputable abbrev A7O (k:Nat) (x0:ByteArray) (x12:Int) (x13:Int) (x3:(List Int)):Option R9:=All.exact_words.l0 k x0 x3 x12 x13
theorem F2c (k:Nat) (x0:ByteArray) (x12:Int) (x13:Int) (x3:(List Int)):A0 (All.exact_words.l0 (k+1) x0 x3 x12 x13) (C7o (A7O k) (K3 k) x0 x12 x13 x3):=by rw [All.exact_words.l0];unfold C7o;(try simp only [A7O,K3,All.integer_zero.f,All.exact_stepAt.f,All.S24.f0,All.S24.f1,All.rd_T24,All.z24]);exact BR
theorem F2G (k:Nat) (x0:ByteArray):A0 (H6 k x0) (C0n (A7O k) x0):=by
 show A0 (All.exact_words.f k x0) _
 unfold All.exact_words.f;unfold C0n;(try simp only [A7O,K3,All.integer_zero.f,All.exact_stepAt.f,All.S24.f0,All.S24.f1,All.rd_T24,All.z24]);exact BR
theorem A8j (k:Nat):B5 Tryz.prog (A5n (H6 k)):=
 B7 B6 HM A8i (es:=fun k=>B9s (K3 k)) (fun k=>fc ⟨C2x k,fz⟩) Tryz.func225 1 (by kernel_rfl) (fun s=>rfl) (fun k=>B8w (A7O k)) (fc ⟨fun s=>rfl,fz⟩) (fun k s0=> .cons (by kernel_rfl) (by kernel_rfl) (fun s r h=>(E2w (A7O k) (K3 k) s0 s).trans (F2c k s.1.1 s.1.2.1 s.1.2.2.1 s.2.1 r h)) (.nil)) (F:=fun k s=>H6 k s.1.1) (fun k s r h=>(F3b (A7O k) (K3 k) s).trans (F2G k s.1.1 r h)) k
noncomputable abbrev A5w (k:Nat) (x0:(List Int)) (x1:(List Int)) (x5:Int):Option A1e:=All.exact_compareWords.l0 k x0 x1 x5
theorem E4w (k:Nat) (x0:(List Int)) (x1:(List Int)) (x5:Int):A0 (All.exact_compareWords.l0 (k+1) x0 x1 x5) (B9p (A5w k) x0 x1 x5):=by rw [All.exact_compareWords.l0];unfold B9p;(try simp only [A5w,All.integer_zero.f,All.exact_stepAt.f,All.S24.f0,All.S24.f1,All.rd_T24,All.z24]);exact BR
theorem E5V (k:Nat) (x0:(List Int)) (x1:(List Int)):A0 (t5 k x0 x1) (C6H (A5w k) x0 x1):=by
 show A0 (All.exact_compareWords.f k x0 x1) _
 unfold All.exact_compareWords.f;unfold C6H;(try simp only [A5w,All.integer_zero.f,All.exact_stepAt.f,All.S24.f0,All.S24.f1,All.rd_T24,All.z24]);exact BR
theorem E0t (k:Nat):B5 Tryz.prog (C9J (t5 k)):=
 B7 B6 HM A9l (es:=fun k=>[]) (fun k=>fz) Tryz.func276 1 (by kernel_rfl) (fun s=>rfl) (fun k=>B8e (A5w k)) (fc ⟨fun s=>rfl,fz⟩) (fun k s0=> .cons (by kernel_rfl) (by kernel_rfl) (fun s r h=>(E0U (A5w k) s0 s).trans (E4w k s.1.1 s.1.2.1 s.1.2.2.1 r h)) (.nil)) (F:=fun k s=>t5 k s.1.1 s.1.2.1) (fun k s r h=>(D7w (A5w k) s).trans (E5V k s.1.1 s.1.2.1 r h)) k
theorem E7w (k:Nat) (x0:Int):A0 (R4 k x0) (B8q (B2n k) x0):=by
 show A0 (All.bits_LeadingZeros64.f x0) _
 unfold All.bits_LeadingZeros64.f;unfold B8q;(try simp only [B2n,All.integer_zero.f,All.exact_stepAt.f,All.S24.f0,All.S24.f1,All.rd_T24,All.z24]);exact BR
theorem D0K (k:Nat):B5 Tryz.prog (C0p (R4 k)):=
 B7 B6 HM B6S (es:=fun k=>D3Y (B2n k)) (fun k=>fc ⟨E2O k,fz⟩) Tryz.func278 0 (by kernel_rfl) (fun s=>rfl) (fun k=>[]) (fz) (fun k s0=> .nil) (F:=fun k s=>R4 k s.1.1) (fun k s r h=>(E4k (B2n k) s).trans (E7w k s.1.1 r h)) k
noncomputable abbrev A3o (k:Nat) (x2:Int) (x8:Int) (x9:Int) (x10:Int) (x11:Int) (x13:Int) (x14:Int) (x15:Int) (x16:Int):Option W3:=All.bits_Div64.l0 k x2 x8 x9 x10 x11 x13 x14 x15 x16
noncomputable abbrev A3V (k:Nat) (x2:Int) (x8:Int) (x9:Int) (x10:Int) (x14:Int) (x15:Int) (x16:Int) (x17:Int) (x18:Int):Option W3:=All.bits_Div64.l1 k x2 x8 x9 x10 x14 x15 x16 x17 x18
theorem F1u (k:Nat) (x2:Int) (x8:Int) (x9:Int) (x10:Int) (x11:Int) (x13:Int) (x14:Int) (x15:Int) (x16:Int):A0 (All.bits_Div64.l0 (k+1) x2 x8 x9 x10 x11 x13 x14 x15 x16) (C5w (A3o k) (A3V k) x2 x8 x9 x10 x11 x13 x14 x15 x16):=by
 rw [All.bits_Div64.l0]
 unfold C5w
 (try simp only [A3o,A3V,R4,All.integer_zero.f,All.exact_stepAt.f,All.S24.f0,All.S24.f1,All.rd_T24,All.z24])
 (try simp only [F1,List.take_append_drop,List.drop_length,List.append_nil,Int.zero_sub,Int.toNat_natCast,Int.reduceToNat,Int.zero_add,List.take_zero,List.nil_append,List.append_assoc,List.length_set,Y2,List.take_left,H4,bne,H5,decide_not,I2,if_true,if_false,Bool.false_eq_true,j8,A0G,List.drop_zero,List.take_length,H7,F9,i8,C2,ite_not,Bool.and_eq_true,Bool.or_eq_true,Bool.not_eq_true',H2,Bool.not_eq_false',beq_iff_eq,decide_eq_true_eq,I0,H1,H0,ne_eq,H8,List.toList_toArray])
 repeat' first
 | (with_reducible refine A0.trans ((All.bits_Div64.mono_l k).2.2.2.2 _ _ _ _ _ _ _ _ _ _) ?_;rw [All.bits_Div64.j1];(try simp only [F1,if_true,if_false,decide_eq_true_eq,Bool.false_eq_true,decide_not,ite_not,bne,H5,beq_iff_eq,Bool.not_eq_true',H2,H8,List.toList_toArray,H1,H0,Bool.and_eq_true,Bool.or_eq_true,I0,I2,H7,All.integer_zero.f,F9,Int.toNat_natCast,Int.reduceToNat,Int.zero_sub,H4]))
 | (with_reducible refine A0.trans ((All.bits_Div64.mono_l k).1 _ _ _ _ _ _ _ _) ?_;rw [All.bits_Div64.j2];(try simp only [F1,if_true,if_false,decide_eq_true_eq,Bool.false_eq_true,decide_not,ite_not,bne,H5,beq_iff_eq,Bool.not_eq_true',H2,H8,List.toList_toArray,H1,H0,Bool.and_eq_true,Bool.or_eq_true,I0,I2,H7,All.integer_zero.f,F9,Int.toNat_natCast,Int.reduceToNat,Int.zero_sub,H4]))
 | (with_reducible refine A0.trans ((All.bits_Div64.mono_l k).2.2.1 _ _ _ _ _ _ _ _ _ _) ?_;rw [All.bits_Div64.j4];(try simp only [F1,if_true,if_false,decide_eq_true_eq,Bool.false_eq_true,decide_not,ite_not,bne,H5,beq_iff_eq,Bool.not_eq_true',H2,H8,List.toList_toArray,H1,H0,Bool.and_eq_true,Bool.or_eq_true,I0,I2,H7,All.integer_zero.f,F9,Int.toNat_natCast,Int.reduceToNat,Int.zero_sub,H4]))
 | (with_reducible exact A0.none _)
 | (with_reducible exact A0.refl _)
 | (with_reducible refine A0.posR (by with_reducible assumption) ?_)
 | (with_reducible refine A0.negR (by with_reducible assumption) ?_)
 | (with_reducible refine A0.bindR (by with_reducible assumption) ?_)
 | (with_reducible refine A0.posL (by with_reducible assumption) ?_)
 | (with_reducible refine A0.negL (by with_reducible assumption) ?_)
 | (with_reducible refine A0.iteL (fun _=>?_) (fun _=>?_))
 | (with_reducible refine A0.bindK (by with_reducible assumption) ?_)
 | (with_reducible refine A0.bindL (fun _ _=>?_))
 | (refine A0.posR (by first|decide|exact Int.le_refl _|omega|assumption) ?_)
 | (refine A0.negR (by first|decide|omega) ?_)
theorem E5y (k:Nat) (x2:Int) (x8:Int) (x9:Int) (x10:Int) (x14:Int) (x15:Int) (x16:Int) (x17:Int) (x18:Int):A0 (All.bits_Div64.l1 (k+1) x2 x8 x9 x10 x14 x15 x16 x17 x18) (C8L (A3V k) x2 x8 x9 x10 x14 x15 x16 x17 x18):=by
 rw [All.bits_Div64.l1]
 unfold C8L
 (try simp only [A3o,A3V,R4,All.integer_zero.f,All.exact_stepAt.f,All.S24.f0,All.S24.f1,All.rd_T24,All.z24])
 (try simp only [F1,List.take_append_drop,List.drop_length,List.append_nil,Int.zero_sub,Int.toNat_natCast,Int.reduceToNat,Int.zero_add,List.take_zero,List.nil_append,List.append_assoc,List.length_set,Y2,List.take_left,H4,bne,H5,decide_not,I2,if_true,if_false,Bool.false_eq_true,j8,A0G,List.drop_zero,List.take_length,H7,F9,i8,C2,ite_not,Bool.and_eq_true,Bool.or_eq_true,Bool.not_eq_true',H2,Bool.not_eq_false',beq_iff_eq,decide_eq_true_eq,I0,H1,H0,ne_eq,H8,List.toList_toArray])
 repeat' first
 | (with_reducible refine A0.trans ((All.bits_Div64.mono_l k).2.2.2.2 _ _ _ _ _ _ _ _ _ _) ?_;rw [All.bits_Div64.j1];(try simp only [F1,if_true,if_false,decide_eq_true_eq,Bool.false_eq_true,decide_not,ite_not,bne,H5,beq_iff_eq,Bool.not_eq_true',H2,H8,List.toList_toArray,H1,H0,Bool.and_eq_true,Bool.or_eq_true,I0,I2,H7,All.integer_zero.f,F9,Int.toNat_natCast,Int.reduceToNat,Int.zero_sub,H4]))
 | (with_reducible refine A0.trans ((All.bits_Div64.mono_l k).1 _ _ _ _ _ _ _ _) ?_;rw [All.bits_Div64.j2];(try simp only [F1,if_true,if_false,decide_eq_true_eq,Bool.false_eq_true,decide_not,ite_not,bne,H5,beq_iff_eq,Bool.not_eq_true',H2,H8,List.toList_toArray,H1,H0,Bool.and_eq_true,Bool.or_eq_true,I0,I2,H7,All.integer_zero.f,F9,Int.toNat_natCast,Int.reduceToNat,Int.zero_sub,H4]))
 | (with_reducible refine A0.trans ((All.bits_Div64.mono_l k).2.2.1 _ _ _ _ _ _ _ _ _ _) ?_;rw [All.bits_Div64.j4];(try simp only [F1,if_true,if_false,decide_eq_true_eq,Bool.false_eq_true,decide_not,ite_not,bne,H5,beq_iff_eq,Bool.not_eq_true',H2,H8,List.toList_toArray,H1,H0,Bool.and_eq_true,Bool.or_eq_true,I0,I2,H7,All.integer_zero.f,F9,Int.toNat_natCast,Int.reduceToNat,Int.zero_sub,H4]))
 | (with_reducible exact A0.none _)
 | (with_reducible exact A0.refl _)
 | (with_reducible refine A0.posR (by with_reducible assumption) ?_)
 | (with_reducible refine A0.negR (by with_reducible assumption) ?_)
 | (with_reducible refine A0.bindR (by with_reducible assumption) ?_)
 | (with_reducible refine A0.posL (by with_reducible assumption) ?_)
 | (with_reducible refine A0.negL (by with_reducible assumption) ?_)
 | (with_reducible refine A0.iteL (fun _=>?_) (fun _=>?_))
 | (with_reducible refine A0.bindK (by with_reducible assumption) ?_)
 | (with_reducible refine A0.bindL (fun _ _=>?_))
 | (refine A0.posR (by first|decide|exact Int.le_refl _|omega|assumption) ?_)
 | (refine A0.negR (by first|decide|omega) ?_)
theorem E1l (k:Nat) (x0:Int) (x1:Int) (x2:Int):A0 (P0 k x0 x1 x2) (C0j (A3o k) (R4 k) x0 x1 x2):=by
 show A0 (All.bits_Div64.f k x0 x1 x2) _
 unfold All.bits_Div64.f
 unfold C0j
 (try simp only [A3o,A3V,R4,All.integer_zero.f,All.exact_stepAt.f,All.S24.f0,All.S24.f1,All.rd_T24,All.z24])
 (try simp only [F1,List.take_append_drop,List.drop_length,List.append_nil,Int.zero_sub,Int.toNat_natCast,Int.reduceToNat,Int.zero_add,List.take_zero,List.nil_append,List.append_assoc,List.length_set,Y2,List.take_left,H4,bne,H5,decide_not,I2,if_true,if_false,Bool.false_eq_true,j8,A0G,List.drop_zero,List.take_length,H7,F9,i8,C2,ite_not,Bool.and_eq_true,Bool.or_eq_true,Bool.not_eq_true',H2,Bool.not_eq_false',beq_iff_eq,decide_eq_true_eq,I0,H1,H0,ne_eq,H8,List.toList_toArray])
 repeat' first
 | (with_reducible refine A0.trans ((All.bits_Div64.mono_l k).2.2.2.2 _ _ _ _ _ _ _ _ _ _) ?_;rw [All.bits_Div64.j1];(try simp only [F1,if_true,if_false,decide_eq_true_eq,Bool.false_eq_true,decide_not,ite_not,bne,H5,beq_iff_eq,Bool.not_eq_true',H2,H8,List.toList_toArray,H1,H0,Bool.and_eq_true,Bool.or_eq_true,I0,I2,H7,All.integer_zero.f,F9,Int.toNat_natCast,Int.reduceToNat,Int.zero_sub,H4]))
 | (with_reducible refine A0.trans ((All.bits_Div64.mono_l k).1 _ _ _ _ _ _ _ _) ?_;rw [All.bits_Div64.j2];(try simp only [F1,if_true,if_false,decide_eq_true_eq,Bool.false_eq_true,decide_not,ite_not,bne,H5,beq_iff_eq,Bool.not_eq_true',H2,H8,List.toList_toArray,H1,H0,Bool.and_eq_true,Bool.or_eq_true,I0,I2,H7,All.integer_zero.f,F9,Int.toNat_natCast,Int.reduceToNat,Int.zero_sub,H4]))
 | (with_reducible refine A0.trans ((All.bits_Div64.mono_l k).2.2.1 _ _ _ _ _ _ _ _ _ _) ?_;rw [All.bits_Div64.j4];(try simp only [F1,if_true,if_false,decide_eq_true_eq,Bool.false_eq_true,decide_not,ite_not,bne,H5,beq_iff_eq,Bool.not_eq_true',H2,H8,List.toList_toArray,H1,H0,Bool.and_eq_true,Bool.or_eq_true,I0,I2,H7,All.integer_zero.f,F9,Int.toNat_natCast,Int.reduceToNat,Int.zero_sub,H4]))
 | (with_reducible exact A0.none _)
 | (with_reducible exact A0.refl _)
 | (with_reducible refine A0.posR (by with_reducible assumption) ?_)
 | (with_reducible refine A0.negR (by with_reducible assumption) ?_)
 | (with_reducible refine A0.bindR (by with_reducible assumption) ?_)
 | (with_reducible refine A0.posL (by with_reducible assumption) ?_)
 | (with_reducible refine A0.negL (by with_reducible assumption) ?_)
 | (with_reducible refine A0.iteL (fun _=>?_) (fun _=>?_))
 | (with_reducible refine A0.bindK (by with_reducible assumption) ?_)
 | (with_reducible refine A0.bindL (fun _ _=>?_))
 | (refine A0.posR (by first|decide|exact Int.le_refl _|omega|assumption) ?_)
 | (refine A0.negR (by first|decide|omega) ?_)
theorem C9y (k:Nat):B5 Tryz.prog (C7M (P0 k)):=
 B7 B6 HM A4X (es:=fun k=>B7p (R4 k)) (fun k=>fc ⟨D0K k,fz⟩) Tryz.func277 2 (by kernel_rfl) (fun s=>rfl) (fun k=>B7A (A3o k) (A3V k)) (fc ⟨fun s=>rfl,fc ⟨fun s=>rfl,fz⟩⟩) (fun k s0=> .cons (by kernel_rfl) (by kernel_rfl) (fun s r h=>(F2f (A3o k) (A3V k) (R4 k) s0 s).trans (F1u k s.1.1 s.1.2.1 s.1.2.2.1 s.1.2.2.2.1 s.1.2.2.2.2.1 s.1.2.2.2.2.2.1 s.1.2.2.2.2.2.2.1 s.1.2.2.2.2.2.2.2.1 s.1.2.2.2.2.2.2.2.2.1 r h)) (.cons (by kernel_rfl) (by kernel_rfl) (fun s r h=>(D6m (A3o k) (A3V k) (R4 k) s0 s).trans (E5y k s.1.1 s.1.2.1 s.1.2.2.1 s.1.2.2.2.1 s.1.2.2.2.2.1 s.1.2.2.2.2.2.1 s.1.2.2.2.2.2.2.1 s.1.2.2.2.2.2.2.2.1 s.1.2.2.2.2.2.2.2.2.1 r h)) (.nil))) (F:=fun k s=>P0 k s.1.1 s.1.2.1 s.1.2.2.1) (fun k s r h=>(E1Y (A3o k) (A3V k) (R4 k) s).trans (E1l k s.1.1 s.1.2.1 s.1.2.2.1 r h)) k
noncomputable abbrev A6m (k:Nat) (x1:Int) (x12:(List Int)) (x13:Int) (x14:Int) (x5:(List Int)):Option A2U:=All.exact_shiftUp.l0 k x1 x5 x12 x13 x14
theorem D9c (k:Nat) (x1:Int) (x12:(List Int)) (x13:Int) (x14:Int) (x5:(List Int)):A0 (All.exact_shiftUp.l0 (k+1) x1 x5 x12 x13 x14) (C6y (A6m k) x1 x12 x13 x14 x5):=by rw [All.exact_shiftUp.l0];unfold C6y;(try simp only [A6m,All.integer_zero.f,All.exact_stepAt.f,All.S24.f0,All.S24.f1,All.rd_T24,All.z24]);exact BR
theorem D6a (k:Nat) (x0:(List Int)) (x1:Int):A0 (v6 k x0 x1) (B8d (A6m k) x0 x1):=by
 show A0 (All.exact_shiftUp.f k x0 x1) _
 unfold All.exact_shiftUp.f;unfold B8d;(try simp only [A6m,All.integer_zero.f,All.exact_stepAt.f,All.S24.f0,All.S24.f1,All.rd_T24,All.z24]);exact BR
theorem E9w (k:Nat):B5 Tryz.prog (C8d (v6 k)):=
 B7 B6 HM A7w (es:=fun k=>[]) (fun k=>fz) Tryz.func279 1 (by kernel_rfl) (fun s=>rfl) (fun k=>C1q (A6m k)) (fc ⟨fun s=>rfl,fz⟩) (fun k s0=> .cons (by kernel_rfl) (by kernel_rfl) (fun s r h=>(E6x (A6m k) s0 s).trans (D9c k s.1.1 s.1.2.1 s.1.2.2.1 s.1.2.2.2.1 s.2.1 r h)) (.nil)) (F:=fun k s=>v6 k s.1.1 s.1.2.1) (fun k s r h=>(E2D (A6m k) s).trans (D6a k s.1.1 s.1.2.1 r h)) k
theorem E5D (k:Nat) (x0:Int) (x1:Int):A0 (P7 k x0 x1) (C3v x0 x1):=by
 show A0 (All.bits_Mul64.f x0 x1) _
 unfold All.bits_Mul64.f;unfold C3v;(try simp only [All.integer_zero.f,All.exact_stepAt.f,All.S24.f0,All.S24.f1,All.rd_T24,All.z24]);exact BR
theorem C8g (k:Nat):B5 Tryz.prog (C4t (P7 k)):=
 B7 B6 HM B4j (es:=fun k=>[]) (fun k=>fz) Tryz.func246 0 (by kernel_rfl) (fun s=>rfl) (fun k=>[]) (fz) (fun k s0=> .nil) (F:=fun k s=>P7 k s.1.1 s.1.2.1) (fun k s r h=>(E7B s).trans (E5D k s.1.1 s.1.2.1 r h)) k
noncomputable abbrev A1R (k:Nat) (x1:(List Int)) (x5:Int) (x6:Int) (x7:Int) (x8:Int) (y0:(List Int)):Option T4:=All.exact_step.l0 k y0 x1 x5 x6 x7 x8
noncomputable abbrev A1T (k:Nat) (x1:(List Int)) (x5:Int) (x6:Int) (x11:Int) (x12:Int) (x104:Int) (x105:Int) (y0:(List Int)):Option T4:=All.exact_step.l1 k y0 x1 x5 x6 x11 x12 x104 x105
noncomputable abbrev A0s (k:Nat) (x1:(List Int)) (x5:Int) (x6:Int) (x17:Int) (x156:Int) (x157:Int) (y0:(List Int)):Option T4:=All.exact_step.l2 k y0 x1 x5 x6 x17 x156 x157
theorem D7U (k:Nat) (x1:(List Int)) (x5:Int) (x6:Int) (x7:Int) (x8:Int) (y0:(List Int)):A0 (All.exact_step.l0 (k+1) y0 x1 x5 x6 x7 x8) (C0i (A1R k) (A1T k) (P7 k) (L2 k) x1 x5 x6 x7 x8 y0):=by
 rw [All.exact_step.l0]
 unfold C0i
 (try simp only [A1R,A1T,A0s,P7,L2,Y5,P0,All.integer_zero.f,All.exact_stepAt.f,All.S24.f0,All.S24.f1,All.rd_T24,All.z24])
 (try simp only [F1,List.take_append_drop,List.drop_length,List.append_nil,Int.zero_sub,Int.toNat_natCast,Int.reduceToNat,Int.zero_add,List.take_zero,List.nil_append,List.append_assoc,List.length_set,Y2,List.take_left,H4,bne,H5,decide_not,I2,if_true,if_false,Bool.false_eq_true,j8,A0G,List.drop_zero,List.take_length,H7,F9,i8,C2,ite_not,Bool.and_eq_true,Bool.or_eq_true,Bool.not_eq_true',H2,Bool.not_eq_false',beq_iff_eq,decide_eq_true_eq,I0,H1,H0,ne_eq,H8,List.toList_toArray])
 repeat' first
 | (with_reducible refine A0.trans ((All.exact_step.mono_l k).1 _ _ _ _ _ _) ?_;rw [All.exact_step.j0];(try simp only [F1,if_true,if_false,decide_eq_true_eq,Bool.false_eq_true,decide_not,ite_not,bne,H5,beq_iff_eq,Bool.not_eq_true',H2,H8,List.toList_toArray,H1,H0,Bool.and_eq_true,Bool.or_eq_true,I0,I2,H7,All.integer_zero.f,F9,Int.toNat_natCast,Int.reduceToNat,Int.zero_sub,H4]))
 | (with_reducible refine A0.trans ((All.exact_step.mono_l k).2.1 _ _ _ _) ?_;rw [All.exact_step.j2];(try simp only [F1,if_true,if_false,decide_eq_true_eq,Bool.false_eq_true,decide_not,ite_not,bne,H5,beq_iff_eq,Bool.not_eq_true',H2,H8,List.toList_toArray,H1,H0,Bool.and_eq_true,Bool.or_eq_true,I0,I2,H7,All.integer_zero.f,F9,Int.toNat_natCast,Int.reduceToNat,Int.zero_sub,H4]))
 | (with_reducible exact A0.none _)
 | (with_reducible exact A0.refl _)
 | (with_reducible refine A0.posR (by with_reducible assumption) ?_)
 | (with_reducible refine A0.negR (by with_reducible assumption) ?_)
 | (with_reducible refine A0.bindR (by with_reducible assumption) ?_)
 | (with_reducible refine A0.posL (by with_reducible assumption) ?_)
 | (with_reducible refine A0.negL (by with_reducible assumption) ?_)
 | (with_reducible refine A0.iteL (fun _=>?_) (fun _=>?_))
 | (with_reducible refine A0.bindK (by with_reducible assumption) ?_)
 | (with_reducible refine A0.bindL (fun _ _=>?_))
 | (refine A0.posR (by first|decide|exact Int.le_refl _|omega|assumption) ?_)
 | (refine A0.negR (by first|decide|omega) ?_)
theorem E3N (k:Nat) (x1:(List Int)) (x5:Int) (x6:Int) (x11:Int) (x12:Int) (x104:Int) (x105:Int) (y0:(List Int)):A0 (All.exact_step.l1 (k+1) y0 x1 x5 x6 x11 x12 x104 x105) (C0B (A1T k) (A0s k) (P7 k) (L2 k) (Y5 k) x1 x5 x6 x11 x12 x104 x105 y0):=by
 rw [All.exact_step.l1]
 unfold C0B
 (try simp only [A1R,A1T,A0s,P7,L2,Y5,P0,All.integer_zero.f,All.exact_stepAt.f,All.S24.f0,All.S24.f1,All.rd_T24,All.z24])
 (try simp only [F1,List.take_append_drop,List.drop_length,List.append_nil,Int.zero_sub,Int.toNat_natCast,Int.reduceToNat,Int.zero_add,List.take_zero,List.nil_append,List.append_assoc,List.length_set,Y2,List.take_left,H4,bne,H5,decide_not,I2,if_true,if_false,Bool.false_eq_true,j8,A0G,List.drop_zero,List.take_length,H7,F9,i8,C2,ite_not,Bool.and_eq_true,Bool.or_eq_true,Bool.not_eq_true',H2,Bool.not_eq_false',beq_iff_eq,decide_eq_true_eq,I0,H1,H0,ne_eq,H8,List.toList_toArray])
 repeat' first
 | (with_reducible refine A0.trans ((All.exact_step.mono_l k).1 _ _ _ _ _ _) ?_;rw [All.exact_step.j0];(try simp only [F1,if_true,if_false,decide_eq_true_eq,Bool.false_eq_true,decide_not,ite_not,bne,H5,beq_iff_eq,Bool.not_eq_true',H2,H8,List.toList_toArray,H1,H0,Bool.and_eq_true,Bool.or_eq_true,I0,I2,H7,All.integer_zero.f,F9,Int.toNat_natCast,Int.reduceToNat,Int.zero_sub,H4]))
 | (with_reducible refine A0.trans ((All.exact_step.mono_l k).2.1 _ _ _ _) ?_;rw [All.exact_step.j2];(try simp only [F1,if_true,if_false,decide_eq_true_eq,Bool.false_eq_true,decide_not,ite_not,bne,H5,beq_iff_eq,Bool.not_eq_true',H2,H8,List.toList_toArray,H1,H0,Bool.and_eq_true,Bool.or_eq_true,I0,I2,H7,All.integer_zero.f,F9,Int.toNat_natCast,Int.reduceToNat,Int.zero_sub,H4]))
 | (with_reducible exact A0.none _)
 | (with_reducible exact A0.refl _)
 | (with_reducible refine A0.posR (by with_reducible assumption) ?_)
 | (with_reducible refine A0.negR (by with_reducible assumption) ?_)
 | (with_reducible refine A0.bindR (by with_reducible assumption) ?_)
 | (with_reducible refine A0.posL (by with_reducible assumption) ?_)
 | (with_reducible refine A0.negL (by with_reducible assumption) ?_)
 | (with_reducible refine A0.iteL (fun _=>?_) (fun _=>?_))
 | (with_reducible refine A0.bindK (by with_reducible assumption) ?_)
 | (with_reducible refine A0.bindL (fun _ _=>?_))
 | (refine A0.posR (by first|decide|exact Int.le_refl _|omega|assumption) ?_)
 | (refine A0.negR (by first|decide|omega) ?_)
theorem E7T (k:Nat) (x1:(List Int)) (x5:Int) (x6:Int) (x17:Int) (x156:Int) (x157:Int) (y0:(List Int)):A0 (All.exact_step.l2 (k+1) y0 x1 x5 x6 x17 x156 x157) (C7v (A0s k) (L2 k) x1 x5 x6 x17 x156 x157 y0):=by
 rw [All.exact_step.l2]
 unfold C7v
 (try simp only [A1R,A1T,A0s,P7,L2,Y5,P0,All.integer_zero.f,All.exact_stepAt.f,All.S24.f0,All.S24.f1,All.rd_T24,All.z24])
 (try simp only [F1,List.take_append_drop,List.drop_length,List.append_nil,Int.zero_sub,Int.toNat_natCast,Int.reduceToNat,Int.zero_add,List.take_zero,List.nil_append,List.append_assoc,List.length_set,Y2,List.take_left,H4,bne,H5,decide_not,I2,if_true,if_false,Bool.false_eq_true,j8,A0G,List.drop_zero,List.take_length,H7,F9,i8,C2,ite_not,Bool.and_eq_true,Bool.or_eq_true,Bool.not_eq_true',H2,Bool.not_eq_false',beq_iff_eq,decide_eq_true_eq,I0,H1,H0,ne_eq,H8,List.toList_toArray])
 repeat' first
 | (with_reducible refine A0.trans ((All.exact_step.mono_l k).1 _ _ _ _ _ _) ?_;rw [All.exact_step.j0];(try simp only [F1,if_true,if_false,decide_eq_true_eq,Bool.false_eq_true,decide_not,ite_not,bne,H5,beq_iff_eq,Bool.not_eq_true',H2,H8,List.toList_toArray,H1,H0,Bool.and_eq_true,Bool.or_eq_true,I0,I2,H7,All.integer_zero.f,F9,Int.toNat_natCast,Int.reduceToNat,Int.zero_sub,H4]))
 | (with_reducible refine A0.trans ((All.exact_step.mono_l k).2.1 _ _ _ _) ?_;rw [All.exact_step.j2];(try simp only [F1,if_true,if_false,decide_eq_true_eq,Bool.false_eq_true,decide_not,ite_not,bne,H5,beq_iff_eq,Bool.not_eq_true',H2,H8,List.toList_toArray,H1,H0,Bool.and_eq_true,Bool.or_eq_true,I0,I2,H7,All.integer_zero.f,F9,Int.toNat_natCast,Int.reduceToNat,Int.zero_sub,H4]))
 | (with_reducible exact A0.none _)
 | (with_reducible exact A0.refl _)
 | (with_reducible refine A0.posR (by with_reducible assumption) ?_)
 | (with_reducible refine A0.negR (by with_reducible assumption) ?_)
 | (with_reducible refine A0.bindR (by with_reducible assumption) ?_)
 | (with_reducible refine A0.posL (by with_reducible assumption) ?_)
 | (with_reducible refine A0.negL (by with_reducible assumption) ?_)
 | (with_reducible refine A0.iteL (fun _=>?_) (fun _=>?_))
 | (with_reducible refine A0.bindK (by with_reducible assumption) ?_)
 | (with_reducible refine A0.bindL (fun _ _=>?_))
 | (refine A0.posR (by first|decide|exact Int.le_refl _|omega|assumption) ?_)
 | (refine A0.negR (by first|decide|omega) ?_)
theorem E9y (k:Nat) (x1:(List Int)) (y0:(List Int)):A0 (l7 k x1 y0) (C8D (A1R k) (L2 k) (P0 k) x1 y0):=by
 show A0 (All.exact_step.f k y0 x1) _
 unfold All.exact_step.f
 unfold C8D
 (try simp only [A1R,A1T,A0s,P7,L2,Y5,P0,All.integer_zero.f,All.exact_stepAt.f,All.S24.f0,All.S24.f1,All.rd_T24,All.z24])
 (try simp only [F1,List.take_append_drop,List.drop_length,List.append_nil,Int.zero_sub,Int.toNat_natCast,Int.reduceToNat,Int.zero_add,List.take_zero,List.nil_append,List.append_assoc,List.length_set,Y2,List.take_left,H4,bne,H5,decide_not,I2,if_true,if_false,Bool.false_eq_true,j8,A0G,List.drop_zero,List.take_length,H7,F9,i8,C2,ite_not,Bool.and_eq_true,Bool.or_eq_true,Bool.not_eq_true',H2,Bool.not_eq_false',beq_iff_eq,decide_eq_true_eq,I0,H1,H0,ne_eq,H8,List.toList_toArray])
 repeat' first
 | (with_reducible refine A0.trans ((All.exact_step.mono_l k).1 _ _ _ _ _ _) ?_;rw [All.exact_step.j0];(try simp only [F1,if_true,if_false,decide_eq_true_eq,Bool.false_eq_true,decide_not,ite_not,bne,H5,beq_iff_eq,Bool.not_eq_true',H2,H8,List.toList_toArray,H1,H0,Bool.and_eq_true,Bool.or_eq_true,I0,I2,H7,All.integer_zero.f,F9,Int.toNat_natCast,Int.reduceToNat,Int.zero_sub,H4]))
 | (with_reducible refine A0.trans ((All.exact_step.mono_l k).2.1 _ _ _ _) ?_;rw [All.exact_step.j2];(try simp only [F1,if_true,if_false,decide_eq_true_eq,Bool.false_eq_true,decide_not,ite_not,bne,H5,beq_iff_eq,Bool.not_eq_true',H2,H8,List.toList_toArray,H1,H0,Bool.and_eq_true,Bool.or_eq_true,I0,I2,H7,All.integer_zero.f,F9,Int.toNat_natCast,Int.reduceToNat,Int.zero_sub,H4]))
 | (with_reducible exact A0.none _)
 | (with_reducible exact A0.refl _)
 | (with_reducible refine A0.posR (by with_reducible assumption) ?_)
 | (with_reducible refine A0.negR (by with_reducible assumption) ?_)
 | (with_reducible refine A0.bindR (by with_reducible assumption) ?_)
 | (with_reducible refine A0.posL (by with_reducible assumption) ?_)
 | (with_reducible refine A0.negL (by with_reducible assumption) ?_)
 | (with_reducible refine A0.iteL (fun _=>?_) (fun _=>?_))
 | (with_reducible refine A0.bindK (by with_reducible assumption) ?_)
 | (with_reducible refine A0.bindL (fun _ _=>?_))
 | (refine A0.posR (by first|decide|exact Int.le_refl _|omega|assumption) ?_)
 | (refine A0.negR (by first|decide|omega) ?_)
theorem F2x (k:Nat):B5 Tryz.prog (D5P (l7 k)):=
 B7 B6 HM A2b (es:=fun k=>B3J (P7 k) (L2 k) (Y5 k) (P0 k)) (fun k=>fc ⟨C8g k,fc ⟨C3e k,fc ⟨D0v k,fc ⟨C9y k,fz⟩⟩⟩⟩) Tryz.func280 3 (by kernel_rfl) (fun s=>rfl) (fun k=>B2M (A1R k) (A1T k) (A0s k)) (fc ⟨fun s=>rfl,fc ⟨fun s=>rfl,fc ⟨fun s=>rfl,fz⟩⟩⟩) (fun k s0=> .cons (by kernel_rfl) (by kernel_rfl) (fun s r h=>(E0P (A1R k) (A1T k) (A0s k) (P7 k) (L2 k) (Y5 k) (P0 k) s0 s).trans (D7U k s.1.1 s.1.2.1 s.1.2.2.1 s.1.2.2.2.1 s.1.2.2.2.2.1 s.2.1 r h)) (.cons (by kernel_rfl) (by kernel_rfl) (fun s r h=>(E5r (A1R k) (A1T k) (A0s k) (P7 k) (L2 k) (Y5 k) (P0 k) s0 s).trans (E3N k s.1.1 s.1.2.1 s.1.2.2.1 s.1.2.2.2.1 s.1.2.2.2.2.1 s.1.2.2.2.2.2.1 s.1.2.2.2.2.2.2.1 s.2.1 r h)) (.cons (by kernel_rfl) (by kernel_rfl) (fun s r h=>(F1o (A1R k) (A1T k) (A0s k) (P7 k) (L2 k) (Y5 k) (P0 k) s0 s).trans (E7T k s.1.1 s.1.2.1 s.1.2.2.1 s.1.2.2.2.1 s.1.2.2.2.2.1 s.1.2.2.2.2.2.1 s.2.1 r h)) (.nil)))) (F:=fun k s=>l7 k s.1.1 s.2.1) (fun k s r h=>(E7L (A1R k) (A1T k) (A0s k) (P7 k) (L2 k) (Y5 k) (P0 k) s).trans (E9y k s.1.1 s.2.1 r h)) k
noncomputable abbrev A1P (k:Nat) (x0:(List Int)) (x1:(List Int)) (x7:Int) (x8:Int) (x6:(List Int)):Option Q4:=All.exact_divide.l0 k x0 x1 x6 x7 x8
noncomputable abbrev A1F (k:Nat) (x9:Int) (x10:(List Int)) (x12:Int) (x14:Int) (x11:(List Int)) (x13:(List Int)):Option Q4:=All.exact_divide.l1 k x9 x10 x11 x12 x13 x14
noncomputable abbrev A1i (k:Nat) (x9:Int) (x12:Int) (x96:Int) (x97:Int) (x11:(List Int)) (x13:(List Int)):Option Q4:=All.exact_divide.l2 k x9 x11 x12 x13 x96 x97
theorem E5A (k:Nat) (x0:(List Int)) (x1:(List Int)) (x7:Int) (x8:Int) (x6:(List Int)):A0 (All.exact_divide.l0 (k+1) x0 x1 x6 x7 x8) (C5r (A1P k) (K3 k) (P0 k) x0 x1 x7 x8 x6):=by rw [All.exact_divide.l0];unfold C5r;(try simp only [A1P,A1F,A1i,K3,t5,P0,R4,v6,l7,All.integer_zero.f,All.exact_stepAt.f,All.S24.f0,All.S24.f1,All.rd_T24,All.z24]);exact BR
theorem F1s (k:Nat) (x9:Int) (x10:(List Int)) (x12:Int) (x14:Int) (x11:(List Int)) (x13:(List Int)):A0 (All.exact_divide.l1 (k+1) x9 x10 x11 x12 x13 x14) (C0y (A1F k) (A1i k) (l7 k) x9 x10 x12 x14 x11 x13):=by rw [All.exact_divide.l1];unfold C0y;(try simp only [A1P,A1F,A1i,K3,t5,P0,R4,v6,l7,All.integer_zero.f,All.exact_stepAt.f,All.S24.f0,All.S24.f1,All.rd_T24,All.z24]);exact BR
theorem E1U (k:Nat) (x9:Int) (x12:Int) (x96:Int) (x97:Int) (x11:(List Int)) (x13:(List Int)):A0 (All.exact_divide.l2 (k+1) x9 x11 x12 x13 x96 x97) (C6Z (A1i k) (K3 k) x9 x12 x96 x97 x11 x13):=by rw [All.exact_divide.l2];unfold C6Z;(try simp only [A1P,A1F,A1i,K3,t5,P0,R4,v6,l7,All.integer_zero.f,All.exact_stepAt.f,All.S24.f0,All.S24.f1,All.rd_T24,All.z24]);exact BR
theorem E8w (k:Nat) (x0:(List Int)) (x1:(List Int)):A0 (v4 k x0 x1) (C2M (A1P k) (A1F k) (K3 k) (t5 k) (R4 k) (v6 k) x0 x1):=by
 show A0 (All.exact_divide.f k x0 x1) _
 unfold All.exact_divide.f;unfold C2M;(try simp only [A1P,A1F,A1i,K3,t5,P0,R4,v6,l7,All.integer_zero.f,All.exact_stepAt.f,All.S24.f0,All.S24.f1,All.rd_T24,All.z24]);exact BR
theorem D2N (k:Nat):B5 Tryz.prog (B9C (v4 k)):=
 B7 B6 HM A2r (es:=fun k=>B3Z (K3 k) (t5 k) (P0 k) (R4 k) (v6 k) (l7 k)) (fun k=>fc ⟨C2x k,fc ⟨E0t k,fc ⟨C9y k,fc ⟨D0K k,fc ⟨E9w k,fc ⟨F2x k,fz⟩⟩⟩⟩⟩⟩) Tryz.func244 3 (by kernel_rfl) (fun s=>rfl) (fun k=>B2y (A1P k) (A1F k) (A1i k)) (fc ⟨fun s=>rfl,fc ⟨fun s=>rfl,fc ⟨fun s=>rfl,fz⟩⟩⟩) (fun k s0=> .cons (by kernel_rfl) (by kernel_rfl) (fun s r h=>(E6C (A1P k) (A1F k) (A1i k) (K3 k) (t5 k) (P0 k) (R4 k) (v6 k) (l7 k) s0 s).trans (E5A k s.1.1 s.1.2.1 s.1.2.2.1 s.1.2.2.2.1 s.2.1 r h)) (.cons (by kernel_rfl) (by kernel_rfl) (fun s r h=>(F3G (A1P k) (A1F k) (A1i k) (K3 k) (t5 k) (P0 k) (R4 k) (v6 k) (l7 k) s0 s).trans (F1s k s.1.1 s.1.2.1 s.1.2.2.1 s.1.2.2.2.1 s.2.1 s.2.2.1 r h)) (.cons (by kernel_rfl) (by kernel_rfl) (fun s r h=>(E4o (A1P k) (A1F k) (A1i k) (K3 k) (t5 k) (P0 k) (R4 k) (v6 k) (l7 k) s0 s).trans (E1U k s.1.1 s.1.2.1 s.1.2.2.1 s.1.2.2.2.1 s.2.1 s.2.2.1 r h)) (.nil)))) (F:=fun k s=>v4 k s.1.1 s.1.2.1) (fun k s r h=>(D6n (A1P k) (A1F k) (A1i k) (K3 k) (t5 k) (P0 k) (R4 k) (v6 k) (l7 k) s).trans (E8w k s.1.1 s.1.2.1 r h)) k
noncomputable abbrev A5t (k:Nat) (x5:(List Int)) (x6:(List Int)):Option u9:=All.exact_NatGcd.l0 k x5 x6
theorem F1c (k:Nat) (x5:(List Int)) (x6:(List Int)):A0 (All.exact_NatGcd.l0 (k+1) x5 x6) (C2X (A5t k) (G1 k) (v4 k) x5 x6):=by rw [All.exact_NatGcd.l0];unfold C2X;(try simp only [A5t,G1,H6,v4,All.integer_zero.f,All.exact_stepAt.f,All.S24.f0,All.S24.f1,All.rd_T24,All.z24]);exact BR
theorem D8S (k:Nat) (x0:ByteArray) (x1:ByteArray):A0 (R5 k x0 x1) (C1S (A5t k) (H6 k) x0 x1):=by
 show A0 (All.exact_NatGcd.f k x0 x1) _
 unfold All.exact_NatGcd.f;unfold C1S;(try simp only [A5t,G1,H6,v4,All.integer_zero.f,All.exact_stepAt.f,All.S24.f0,All.S24.f1,All.rd_T24,All.z24]);exact BR
theorem C8T (k:Nat):B5 Tryz.prog (C7l (R5 k)):=
 B7 B6 HM A8T (es:=fun k=>C4O (G1 k) (H6 k) (v4 k)) (fun k=>fc ⟨A7J k,fc ⟨A8j k,fc ⟨D2N k,fz⟩⟩⟩) Tryz.func215 1 (by kernel_rfl) (fun s=>rfl) (fun k=>C6f (A5t k)) (fc ⟨fun s=>rfl,fz⟩) (fun k s0=> .cons (by kernel_rfl) (by kernel_rfl) (fun s r h=>(F1U (A5t k) (G1 k) (H6 k) (v4 k) s0 s).trans (F1c k s.1.1 s.1.2.1 r h)) (.nil)) (F:=fun k s=>R5 k s.1.1 s.1.2.1) (fun k s r h=>(E5x (A5t k) (G1 k) (H6 k) (v4 k) s).trans (D8S k s.1.1 s.1.2.1 r h)) k
theorem F3T (k:Nat) (x0:TQ):A0 (L4 k x0) (A2T (d5 k) (T7 k) (R5 k) x0):=A0.refl _
theorem E5p (k:Nat):B5 Tryz.prog (D5D (L4 k)):=
 B7 B6 HM B5s (es:=fun k=>D5A (d5 k) (T7 k) (R5 k)) (fun k=>fc ⟨F3C k,fc ⟨D6N k,fc ⟨C8T k,fz⟩⟩⟩) Tryz.func172 0 (by kernel_rfl) (fun s=>rfl) (fun k=>[]) (fz) (fun k s0=> .nil) (F:=fun k s=>L4 k s.1.1) (fun k s r h=>(E2N (d5 k) (T7 k) (R5 k) s).trans (F3T k s.1.1 r h)) k
theorem E6M (k:Nat) (x0:(List TQ)) (x9:(List TQ)) (x10:Int) (x11:Int):A0 (t3 (k+1) x0 x9 x10 x11) (A6A (t3 k) (J1 k) (L4 k) x0 x9 x10 x11):=by rw [t3];exact A0.refl _
theorem E4s (k:Nat) (x0:(List TQ)):A0 (R8 k x0) (B3a (t3 k) x0):=A0.refl _
theorem C2y (k:Nat):B5 Tryz.prog (B6t (R8 k)):=
 B7 B6 HM A9K (es:=fun k=>C1t (J1 k) (L4 k)) (fun k=>fc ⟨B4r k,fc ⟨E5p k,fz⟩⟩) Tryz.func120 1 (by kernel_rfl) (fun s=>rfl) (fun k=>C2a (t3 k)) (fc ⟨fun s=>rfl,fz⟩) (fun k s0=> .cons (by kernel_rfl) (by kernel_rfl) (fun s r h=>(E4S (t3 k) (J1 k) (L4 k) s0 s).trans (E6M k s.1.1 s.1.2.1 s.1.2.2.1 s.1.2.2.2.1 r h)) (.nil)) (F:=fun k s=>R8 k s.1.1) (fun k s r h=>(F2m (t3 k) (J1 k) (L4 k) s).trans (E4s k s.1.1 r h)) k
theorem E6g (k:Nat) (x0:TQ):A0 (A6r k x0) (C0H x0):=A0.refl _
theorem F3E (k:Nat):B5 Tryz.prog (D1Q (A6r k)):=
 B7 B6 HM B4O (es:=fun k=>[]) (fun k=>fz) Tryz.func171 0 (by kernel_rfl) (fun s=>rfl) (fun k=>[]) (fz) (fun k s0=> .nil) (F:=fun k s=>A6r k s.1.1) (fun k s r h=>(E4G s).trans (E6g k s.1.1 r h)) k
theorem D9X (k:Nat) (x0:TQ):A0 (A1k k x0) (C7F (A6r k) x0):=A0.refl _
theorem F0Q (k:Nat):B5 Tryz.prog (D5S (A1k k)):=
 B7 B6 HM B3u (es:=fun k=>D1f (A6r k)) (fun k=>fc ⟨F3E k,fz⟩) Tryz.func170 0 (by kernel_rfl) (fun s=>rfl) (fun k=>[]) (fz) (fun k s0=> .nil) (F:=fun k s=>A1k k s.1.1) (fun k s r h=>(E3d (A6r k) s).trans (D9X k s.1.1 r h)) k
theorem E3w (k:Nat) (x0:(List TQ)) (x7:Int) (x8:Int):A0 (A0C (k+1) x0 x7 x8) (A6v (A0C k) (A1k k) x0 x7 x8):=by rw [A0C];exact A0.refl _
theorem F2P (k:Nat) (x0:(List TQ)):A0 (A4l k x0) (B3I (A0C k) x0):=A0.refl _
theorem E0n (k:Nat):B5 Tryz.prog (C9o (A4l k)):=
 B7 B6 HM A9V (es:=fun k=>B9e (A1k k)) (fun k=>fc ⟨F0Q k,fz⟩) Tryz.func194 1 (by kernel_rfl) (fun s=>rfl) (fun k=>C6q (A0C k)) (fc ⟨fun s=>rfl,fz⟩) (fun k s0=> .cons (by kernel_rfl) (by kernel_rfl) (fun s r h=>(E4H (A0C k) (A1k k) s0 s).trans (E3w k s.1.1 s.1.2.1 s.1.2.2.1 r h)) (.nil)) (F:=fun k s=>A4l k s.1.1) (fun k s r h=>(F2s (A0C k) (A1k k) s).trans (F2P k s.1.1 r h)) k
theorem E8I (k:Nat) (x0:(List TQ)):A0 (A4A k x0) (B9l (A4l k) x0):=A0.refl _
theorem E4O (k:Nat):B5 Tryz.prog (D0u (A4A k)):=
 B7 B6 HM B3j (es:=fun k=>D0J (A4l k)) (fun k=>fc ⟨E0n k,fz⟩) Tryz.func153 0 (by kernel_rfl) (fun s=>rfl) (fun k=>[]) (fz) (fun k s0=> .nil) (F:=fun k s=>A4A k s.1.1) (fun k s r h=>(E6O (A4l k) s).trans (E8I k s.1.1 r h)) k
theorem E2G (k:Nat) (x0:(List TQ)):A0 (P6 k x0) (B1i (D7 k) (R8 k) (A4A k) x0):=A0.refl _
theorem C4y (k:Nat):B5 Tryz.prog (B7j (P6 k)):=
 B7 B6 HM B5I (es:=fun k=>D2F (D7 k) (R8 k) (A4A k)) (fun k=>fc ⟨A5f k,fc ⟨C2y k,fc ⟨E4O k,fz⟩⟩⟩) Tryz.func119 0 (by kernel_rfl) (fun s=>rfl) (fun k=>[]) (fz) (fun k s0=> .nil) (F:=fun k s=>P6 k s.1.1) (fun k s r h=>(E3U (D7 k) (R8 k) (A4A k) s).trans (E2G k s.1.1 r h)) k
theorem E3k (k:Nat) (x0:(List TQ)) (x1:(List TQ)):A0 (c7 k x0 x1) (B1s (R8 k) x0 x1):=A0.refl _
theorem D4S (k:Nat):B5 Tryz.prog (C2b (c7 k)):=
 B7 B6 HM B5i (es:=fun k=>D4N (R8 k)) (fun k=>fc ⟨C2y k,fz⟩) Tryz.func124 0 (by kernel_rfl) (fun s=>rfl) (fun k=>[]) (fz) (fun k s0=> .nil) (F:=fun k s=>c7 k s.1.1 s.1.2.1) (fun k s r h=>(E5w (R8 k) s).trans (E3k k s.1.1 s.1.2.1 r h)) k
theorem D9Y (k:Nat) (x1:(List (List TQ))) (x11:(List (List TQ))) (x12:Int) (x13:Int) (x2:(List TQ)):A0 (z6 (k+1) x1 x11 x12 x13 x2) (A7B (z6 k) (c7 k) x1 x11 x12 x13 x2):=by rw [z6];exact A0.refl _
theorem D6v (k:Nat) (x0:(List TQ)) (x1:(List (List TQ))):A0 (Z4 k x0 x1) (B2H (z6 k) x0 x1):=A0.refl _
theorem C8s (k:Nat):B5 Tryz.prog (C1V (Z4 k)):=
 B7 B6 HM A9B (es:=fun k=>C4L (c7 k)) (fun k=>fc ⟨D4S k,fz⟩) Tryz.func138 1 (by kernel_rfl) (fun s=>rfl) (fun k=>C4p (z6 k)) (fc ⟨fun s=>rfl,fz⟩) (fun k s0=> .cons (by kernel_rfl) (by kernel_rfl) (fun s r h=>(E0V (z6 k) (c7 k) s0 s).trans (D9Y k s.1.1 s.1.2.1 s.1.2.2.1 s.1.2.2.2.1 s.2.1 r h)) (.nil)) (F:=fun k s=>Z4 k s.1.1 s.1.2.1) (fun k s r h=>(E4J (z6 k) (c7 k) s).trans (D6v k s.1.1 s.1.2.1 r h)) k
theorem E7U (k:Nat) (x14:(List (List (List TQ)))) (x15:Int) (x16:Int) (x2:(List TQ)):A0 (A0B (k+1) x14 x15 x16 x2) (A6O (A0B k) (Z4 k) x14 x15 x16 x2):=by rw [A0B];exact A0.refl _
theorem b83 (k:Nat) (x0:(List TQ)) (x1:(List (List (List TQ)))):A0 (J2 k x0 x1) (B83 (A0B k) (P6 k) x0 x1):=A0.refl _
theorem B1q (k:Nat):B5 Tryz.prog (A9R (J2 k)):=
 B7 B6 HM D83 (es:=fun k=>C3o (P6 k) (Z4 k)) (fun k=>fc ⟨C4y k,fc ⟨C8s k,fz⟩⟩) Tryz.func83 1 (by kernel_rfl) (fun s=>rfl) (fun k=>C0c (A0B k)) (fc ⟨fun s=>rfl,fz⟩) (fun k s0=> .cons (by kernel_rfl) (by kernel_rfl) (fun s r h=>(F1T (A0B k) (P6 k) (Z4 k) s0 s).trans (E7U k s.1.1 s.1.2.1 s.1.2.2.1 s.2.1 r h)) (.nil)) (F:=fun k s=>J2 k s.1.1 s.1.2.1) (fun k s r h=>(e83 (A0B k) (P6 k) (Z4 k) s).trans (b83 k s.1.1 s.1.2.1 r h)) k
noncomputable abbrev A3z (k:Nat) (x1:(List Int)) (x20:(List Int)) (x21:Int) (x22:Int) (x5:(List Int)):Option X3:=All.exact_mulWords.l0 k x1 x5 x20 x21 x22
noncomputable abbrev A3v (k:Nat) (x1:(List Int)) (x6:Int) (x7:Int) (x8:Int) (x20:(List Int)) (x21:Int) (x22:Int) (x27:(List Int)) (x28:Int) (x29:Int) (x5:(List Int)):Option X3:=All.exact_mulWords.l1 k x1 x5 x6 x7 x8 x20 x21 x22 x27 x28 x29
theorem E1H (k:Nat) (x1:(List Int)) (x20:(List Int)) (x21:Int) (x22:Int) (x5:(List Int)):A0 (All.exact_mulWords.l0 (k+1) x1 x5 x20 x21 x22) (C8B (A3v k) (K3 k) x1 x20 x21 x22 x5):=by rw [All.exact_mulWords.l0];unfold C8B;(try simp only [A3z,A3v,K3,P7,L2,All.integer_zero.f,All.exact_stepAt.f,All.S24.f0,All.S24.f1,All.rd_T24,All.z24]);exact BR
theorem E7y (k:Nat) (x1:(List Int)) (x6:Int) (x7:Int) (x8:Int) (x20:(List Int)) (x21:Int) (x22:Int) (x27:(List Int)) (x28:Int) (x29:Int) (x5:(List Int)):A0 (All.exact_mulWords.l1 (k+1) x1 x5 x6 x7 x8 x20 x21 x22 x27 x28 x29) (C4m (A3z k) (A3v k) (P7 k) (L2 k) x1 x6 x7 x8 x20 x21 x22 x27 x28 x29 x5):=by rw [All.exact_mulWords.l1];unfold C4m;(try simp only [A3z,A3v,K3,P7,L2,All.integer_zero.f,All.exact_stepAt.f,All.S24.f0,All.S24.f1,All.rd_T24,All.z24]);exact BR
theorem D8p (k:Nat) (x0:(List Int)) (x1:(List Int)):A0 (w9 k x0 x1) (B9a (A3z k) x0 x1):=by
 show A0 (All.exact_mulWords.f k x0 x1) _
 unfold All.exact_mulWords.f;unfold B9a;(try simp only [A3z,A3v,K3,P7,L2,All.integer_zero.f,All.exact_stepAt.f,All.S24.f0,All.S24.f1,All.rd_T24,All.z24]);exact BR
theorem D1s (k:Nat):B5 Tryz.prog (B9z (w9 k)):=
 B7 B6 HM A4T (es:=fun k=>B7V (K3 k) (P7 k) (L2 k)) (fun k=>fc ⟨C2x k,fc ⟨C8g k,fc ⟨C3e k,fz⟩⟩⟩) Tryz.func224 2 (by kernel_rfl) (fun s=>rfl) (fun k=>B6A (A3z k) (A3v k)) (fc ⟨fun s=>rfl,fc ⟨fun s=>rfl,fz⟩⟩) (fun k s0=> .cons (by kernel_rfl) (by kernel_rfl) (fun s r h=>(F2L (A3z k) (A3v k) (K3 k) (P7 k) (L2 k) s0 s).trans (E1H k s.1.1 s.1.2.1 s.1.2.2.1 s.1.2.2.2.1 s.2.1 r h)) (.cons (by kernel_rfl) (by kernel_rfl) (fun s r h=>(E0G (A3z k) (A3v k) (K3 k) (P7 k) (L2 k) s0 s).trans (E7y k s.1.1 s.1.2.1 s.1.2.2.1 s.1.2.2.2.1 s.1.2.2.2.2.1 s.1.2.2.2.2.2.1 s.1.2.2.2.2.2.2.1 s.1.2.2.2.2.2.2.2.1 s.1.2.2.2.2.2.2.2.2.1 s.1.2.2.2.2.2.2.2.2.2.1 s.2.1 r h)) (.nil))) (F:=fun k s=>w9 k s.1.1 s.1.2.1) (fun k s r h=>(F0j (A3z k) (A3v k) (K3 k) (P7 k) (L2 k) s).trans (D8p k s.1.1 s.1.2.1 r h)) k
theorem D6V (k:Nat) (x0:ByteArray) (x1:ByteArray):A0 (O1 k x0 x1) (C5u (G1 k) (w9 k) (H6 k) x0 x1):=by
 show A0 (All.exact_NatMul.f k x0 x1) _
 unfold All.exact_NatMul.f;unfold C5u;(try simp only [G1,w9,H6,All.integer_zero.f,All.exact_stepAt.f,All.S24.f0,All.S24.f1,All.rd_T24,All.z24]);exact BR
theorem B6e (k:Nat):B5 Tryz.prog (B1c (O1 k)):=
 B7 B6 HM B3k (es:=fun k=>D0w (G1 k) (w9 k) (H6 k)) (fun k=>fc ⟨A7J k,fc ⟨D1s k,fc ⟨A8j k,fz⟩⟩⟩) Tryz.func186 0 (by kernel_rfl) (fun s=>rfl) (fun k=>[]) (fz) (fun k s0=> .nil) (F:=fun k s=>O1 k s.1.1 s.1.2.1) (fun k s r h=>(F2X (G1 k) (w9 k) (H6 k) s).trans (D6V k s.1.1 s.1.2.1 r h)) k
theorem E1P (k:Nat) (x0:Bool) (x1:ByteArray):A0 (I1 k x0 x1) (C3Q x0 x1):=by
 show A0 (All.exact_IntMake.f x0 x1) _
 unfold All.exact_IntMake.f;unfold C3Q;(try simp only [All.integer_zero.f,All.exact_stepAt.f,All.S24.f0,All.S24.f1,All.rd_T24,All.z24]);exact BR
theorem A7i (k:Nat):B5 Tryz.prog (A5N (I1 k)):=
 B7 B6 HM B6H (es:=fun k=>[]) (fun k=>fz) Tryz.func192 0 (by kernel_rfl) (fun s=>rfl) (fun k=>[]) (fz) (fun k s0=> .nil) (F:=fun k s=>I1 k s.1.1 s.1.2.1) (fun k s r h=>(D9H s).trans (E1P k s.1.1 s.1.2.1 r h)) k
theorem E5h (k:Nat) (x0:TI) (x1:TI):A0 (A2g k x0 x1) (C6E (O1 k) (I1 k) x0 x1):=by
 show A0 (All.exact_IntMul.f k x0.1 x0.2 x1.1 x1.2) _
 unfold All.exact_IntMul.f;unfold C6E;(try simp only [O1,I1,All.integer_zero.f,All.exact_stepAt.f,All.S24.f0,All.S24.f1,All.rd_T24,All.z24]);exact BR
theorem F0L (k:Nat):B5 Tryz.prog (D0m (A2g k)):=
 B7 B6 HM B8L (es:=fun k=>D2U (O1 k) (I1 k)) (fun k=>fc ⟨B6e k,fc ⟨A7i k,fz⟩⟩) Tryz.func184 0 (by kernel_rfl) (fun s=>rfl) (fun k=>[]) (fz) (fun k s0=> .nil) (F:=fun k s=>A2g k s.1.1 s.1.2.1) (fun k s r h=>(D9e (O1 k) (I1 k) s).trans (E5h k s.1.1 s.1.2.1 r h)) k
theorem D8A (k:Nat) (x0:ByteArray) (x1:ByteArray):A0 (A4B k x0 x1) (C5D (G1 k) (H6 k) (v4 k) x0 x1):=by
 show A0 (All.exact_NatDivMod.f k x0 x1) _
 unfold All.exact_NatDivMod.f;unfold C5D;(try simp only [G1,H6,v4,All.integer_zero.f,All.exact_stepAt.f,All.S24.f0,All.S24.f1,All.rd_T24,All.z24]);exact BR
theorem E4t (k:Nat):B5 Tryz.prog (D4j (A4B k)):=
 B7 B6 HM B3h (es:=fun k=>D5l (G1 k) (H6 k) (v4 k)) (fun k=>fc ⟨A7J k,fc ⟨A8j k,fc ⟨D2N k,fz⟩⟩⟩) Tryz.func222 0 (by kernel_rfl) (fun s=>rfl) (fun k=>[]) (fz) (fun k s0=> .nil) (F:=fun k s=>A4B k s.1.1 s.1.2.1) (fun k s r h=>(D9m (G1 k) (H6 k) (v4 k) s).trans (D8A k s.1.1 s.1.2.1 r h)) k
theorem E7M (k:Nat) (x0:TI) (x1:TI):A0 (Y3 k x0 x1) (B1J (I1 k) (R5 k) (A4B k) x0 x1):=A0.refl _
theorem D6K (k:Nat):B5 Tryz.prog (C4n (Y3 k)):=
 B7 B6 HM B5T (es:=fun k=>C8b (I1 k) (R5 k) (A4B k)) (fun k=>fc ⟨A7i k,fc ⟨C8T k,fc ⟨E4t k,fz⟩⟩⟩) Tryz.func185 0 (by kernel_rfl) (fun s=>rfl) (fun k=>[]) (fz) (fun k s0=> .nil) (F:=fun k s=>Y3 k s.1.1 s.1.2.1) (fun k s r h=>(E1J (I1 k) (R5 k) (A4B k) s).trans (E7M k s.1.1 s.1.2.1 r h)) k
theorem F2H (k:Nat) (x0:TQ) (x1:TQ):A0 (F3 k x0 x1) (B0w (T2 k) (A2g k) (Y3 k) (O1 k) x0 x1):=A0.refl _
theorem B2Q (k:Nat):B5 Tryz.prog (A9H (F3 k)):=
 B7 B6 HM B3t (es:=fun k=>C9e (T2 k) (A2g k) (Y3 k) (O1 k)) (fun k=>fc ⟨C0o k,fc ⟨F0L k,fc ⟨D6K k,fc ⟨B6e k,fz⟩⟩⟩⟩) Tryz.func142 0 (by kernel_rfl) (fun s=>rfl) (fun k=>[]) (fz) (fun k s0=> .nil) (F:=fun k s=>F3 k s.1.1 s.1.2.1) (fun k s r h=>(E3G (T2 k) (A2g k) (Y3 k) (O1 k) s).trans (F2H k s.1.1 s.1.2.1 r h)) k
noncomputable abbrev A6L (k:Nat) (x1:Int) (x5:(List Int)) (x6:(List Int)):Option l5:=All.exact_NatPow.l0 k x1 x5 x6
theorem E5L (k:Nat) (x1:Int) (x5:(List Int)) (x6:(List Int)):A0 (All.exact_NatPow.l0 (k+1) x1 x5 x6) (C7N (A6L k) (G1 k) (w9 k) x1 x5 x6):=by rw [All.exact_NatPow.l0];unfold C7N;(try simp only [A6L,G1,w9,H6,All.integer_zero.f,All.exact_stepAt.f,All.S24.f0,All.S24.f1,All.rd_T24,All.z24]);exact BR
theorem E8p (k:Nat) (x0:ByteArray) (x1:Int):A0 (A1U k x0 x1) (B9G (A6L k) (H6 k) x0 x1):=by
 show A0 (All.exact_NatPow.f k x0 x1) _
 unfold All.exact_NatPow.f;unfold B9G;(try simp only [A6L,G1,w9,H6,All.integer_zero.f,All.exact_stepAt.f,All.S24.f0,All.S24.f1,All.rd_T24,All.z24]);exact BR
theorem C8o (k:Nat):B5 Tryz.prog (B9I (A1U k)):=
 B7 B6 HM B0c (es:=fun k=>C5J (G1 k) (w9 k) (H6 k)) (fun k=>fc ⟨A7J k,fc ⟨D1s k,fc ⟨A8j k,fz⟩⟩⟩) Tryz.func188 1 (by kernel_rfl) (fun s=>rfl) (fun k=>C2n (A6L k)) (fc ⟨fun s=>rfl,fz⟩) (fun k s0=> .cons (by kernel_rfl) (by kernel_rfl) (fun s r h=>(D7o (A6L k) (G1 k) (w9 k) (H6 k) s0 s).trans (E5L k s.1.1 s.1.2.1 s.1.2.2.1 r h)) (.nil)) (F:=fun k s=>A1U k s.1.1 s.1.2.1) (fun k s r h=>(D7q (A6L k) (G1 k) (w9 k) (H6 k) s).trans (E8p k s.1.1 s.1.2.1 r h)) k
theorem D7O (k:Nat) (x0:TI) (x1:Int):A0 (A6I k x0 x1) (C6J (A1U k) (I1 k) x0 x1):=A0.refl _
theorem E6Z (k:Nat):B5 Tryz.prog (D0y (A6I k)):=
 B7 B6 HM B5B (es:=fun k=>D3K (A1U k) (I1 k)) (fun k=>fc ⟨C8o k,fc ⟨A7i k,fz⟩⟩) Tryz.func187 0 (by kernel_rfl) (fun s=>rfl) (fun k=>[]) (fz) (fun k s0=> .nil) (F:=fun k s=>A6I k s.1.1 s.1.2.1) (fun k s r h=>(E5T (A1U k) (I1 k) s).trans (D7O k s.1.1 s.1.2.1 r h)) k
theorem E5o (k:Nat) (x0:TQ) (x1:Int):A0 (A4k k x0 x1) (B8Q (A6I k) (A1U k) x0 x1):=A0.refl _
theorem E8T (k:Nat):B5 Tryz.prog (D0G (A4k k)):=
 B7 B6 HM B4n (es:=fun k=>D4C (A6I k) (A1U k)) (fun k=>fc ⟨E6Z k,fc ⟨C8o k,fz⟩⟩) Tryz.func143 0 (by kernel_rfl) (fun s=>rfl) (fun k=>[]) (fz) (fun k s0=> .nil) (F:=fun k s=>A4k k s.1.1 s.1.2.1) (fun k s r h=>(E3c (A6I k) (A1U k) s).trans (E5o k s.1.1 s.1.2.1 r h)) k
theorem F1q (k:Nat) (x0:TI):A0 (A6i k x0) (B9V (I1 k) x0):=by
 show A0 (All.exact_IntNeg.f x0.1 x0.2) _
 unfold All.exact_IntNeg.f;unfold B9V;(try simp only [I1,All.integer_zero.f,All.exact_stepAt.f,All.S24.f0,All.S24.f1,All.rd_T24,All.z24]);exact BR
theorem D8m (k:Nat):B5 Tryz.prog (D2V (A6i k)):=
 B7 B6 HM B3c (es:=fun k=>C9s (I1 k)) (fun k=>fc ⟨A7i k,fz⟩) Tryz.func190 0 (by kernel_rfl) (fun s=>rfl) (fun k=>[]) (fz) (fun k s0=> .nil) (F:=fun k s=>A6i k s.1.1) (fun k s r h=>(E8d (I1 k) s).trans (F1q k s.1.1 r h)) k
theorem E2T (k:Nat) (x0:TQ):A0 (A0S k x0) (C7n (A6i k) x0):=A0.refl _
theorem C9u (k:Nat):B5 Tryz.prog (C7S (A0S k)):=
 B7 B6 HM B7w (es:=fun k=>D0H (A6i k)) (fun k=>fc ⟨D8m k,fz⟩) Tryz.func145 0 (by kernel_rfl) (fun s=>rfl) (fun k=>[]) (fz) (fun k s0=> .nil) (F:=fun k s=>A0S k s.1.1) (fun k s r h=>(E6h (A6i k) s).trans (E2T k s.1.1 r h)) k
noncomputable abbrev A6G (k:Nat) (x8:Int) (x27:Int) (x28:Int) (x5:(List Int)) (x6:(List Int)) (x7:(List Int)):Option A2Y:=All.exact_NatAdd.l0 k x5 x6 x7 x8 x27 x28
theorem E4T (k:Nat) (x8:Int) (x27:Int) (x28:Int) (x5:(List Int)) (x6:(List Int)) (x7:(List Int)):A0 (All.exact_NatAdd.l0 (k+1) x5 x6 x7 x8 x27 x28) (C1n (A6G k) (G1 k) (L2 k) x8 x27 x28 x5 x6 x7):=by
 rw [All.exact_NatAdd.l0]
 unfold C1n
 (try simp only [A6G,G1,H6,L2,All.integer_zero.f,All.exact_stepAt.f,All.S24.f0,All.S24.f1,All.rd_T24,All.z24])
 (try simp only [F1,List.take_append_drop,List.drop_length,List.append_nil,Int.zero_sub,Int.toNat_natCast,Int.reduceToNat,Int.zero_add,List.take_zero,List.nil_append,List.append_assoc,List.length_set,Y2,List.take_left,H4,bne,H5,decide_not,I2,if_true,if_false,Bool.false_eq_true,j8,A0G,List.drop_zero,List.take_length,H7,F9,i8,C2,ite_not,Bool.and_eq_true,Bool.or_eq_true,Bool.not_eq_true',H2,Bool.not_eq_false',beq_iff_eq,decide_eq_true_eq,I0,H1,H0,ne_eq,H8,List.toList_toArray])
 repeat' first
 | (with_reducible refine A0.trans ((All.exact_NatAdd.mono_l k).1 _ _) ?_;rw [All.exact_NatAdd.j0];(try simp only [F1,if_true,if_false,decide_eq_true_eq,Bool.false_eq_true,decide_not,ite_not,bne,H5,beq_iff_eq,Bool.not_eq_true',H2,H8,List.toList_toArray,H1,H0,Bool.and_eq_true,Bool.or_eq_true,I0,I2,H7,All.integer_zero.f,F9,Int.toNat_natCast,Int.reduceToNat,Int.zero_sub,H4]))
 | (with_reducible exact A0.none _)
 | (with_reducible exact A0.refl _)
 | (with_reducible refine A0.posR (by with_reducible assumption) ?_)
 | (with_reducible refine A0.negR (by with_reducible assumption) ?_)
 | (with_reducible refine A0.bindR (by with_reducible assumption) ?_)
 | (with_reducible refine A0.posL (by with_reducible assumption) ?_)
 | (with_reducible refine A0.negL (by with_reducible assumption) ?_)
 | (with_reducible refine A0.iteL (fun _=>?_) (fun _=>?_))
 | (with_reducible refine A0.bindK (by with_reducible assumption) ?_)
 | (with_reducible refine A0.bindL (fun _ _=>?_))
 | (refine A0.posR (by first|decide|exact Int.le_refl _|omega|assumption) ?_)
 | (refine A0.negR (by first|decide|omega) ?_)
theorem E6D (k:Nat) (x0:ByteArray) (x1:ByteArray):A0 (A6W k x0 x1) (C3B (A6G k) (H6 k) x0 x1):=by
 show A0 (All.exact_NatAdd.f k x0 x1) _
 unfold All.exact_NatAdd.f
 unfold C3B
 (try simp only [A6G,G1,H6,L2,All.integer_zero.f,All.exact_stepAt.f,All.S24.f0,All.S24.f1,All.rd_T24,All.z24])
 (try simp only [F1,List.take_append_drop,List.drop_length,List.append_nil,Int.zero_sub,Int.toNat_natCast,Int.reduceToNat,Int.zero_add,List.take_zero,List.nil_append,List.append_assoc,List.length_set,Y2,List.take_left,H4,bne,H5,decide_not,I2,if_true,if_false,Bool.false_eq_true,j8,A0G,List.drop_zero,List.take_length,H7,F9,i8,C2,ite_not,Bool.and_eq_true,Bool.or_eq_true,Bool.not_eq_true',H2,Bool.not_eq_false',beq_iff_eq,decide_eq_true_eq,I0,H1,H0,ne_eq,H8,List.toList_toArray])
 repeat' first
 | (with_reducible refine A0.trans ((All.exact_NatAdd.mono_l k).1 _ _) ?_;rw [All.exact_NatAdd.j0];(try simp only [F1,if_true,if_false,decide_eq_true_eq,Bool.false_eq_true,decide_not,ite_not,bne,H5,beq_iff_eq,Bool.not_eq_true',H2,H8,List.toList_toArray,H1,H0,Bool.and_eq_true,Bool.or_eq_true,I0,I2,H7,All.integer_zero.f,F9,Int.toNat_natCast,Int.reduceToNat,Int.zero_sub,H4]))
 | (with_reducible exact A0.none _)
 | (with_reducible exact A0.refl _)
 | (with_reducible refine A0.posR (by with_reducible assumption) ?_)
 | (with_reducible refine A0.negR (by with_reducible assumption) ?_)
 | (with_reducible refine A0.bindR (by with_reducible assumption) ?_)
 | (with_reducible refine A0.posL (by with_reducible assumption) ?_)
 | (with_reducible refine A0.negL (by with_reducible assumption) ?_)
 | (with_reducible refine A0.iteL (fun _=>?_) (fun _=>?_))
 | (with_reducible refine A0.bindK (by with_reducible assumption) ?_)
 | (with_reducible refine A0.bindL (fun _ _=>?_))
 | (refine A0.posR (by first|decide|exact Int.le_refl _|omega|assumption) ?_)
 | (refine A0.negR (by first|decide|omega) ?_)
theorem E7N (k:Nat):B5 Tryz.prog (D4F (A6W k)):=
 B7 B6 HM A9x (es:=fun k=>C4R (G1 k) (H6 k) (L2 k)) (fun k=>fc ⟨A7J k,fc ⟨A8j k,fc ⟨C3e k,fz⟩⟩⟩) Tryz.func226 1 (by kernel_rfl) (fun s=>rfl) (fun k=>C4Q (A6G k)) (fc ⟨fun s=>rfl,fz⟩) (fun k s0=> .cons (by kernel_rfl) (by kernel_rfl) (fun s r h=>(F2k (A6G k) (G1 k) (H6 k) (L2 k) s0 s).trans (E4T k s.1.1 s.1.2.1 s.1.2.2.1 s.2.1 s.2.2.1 s.2.2.2.1 r h)) (.nil)) (F:=fun k s=>A6W k s.1.1 s.1.2.1) (fun k s r h=>(F0o (A6G k) (G1 k) (H6 k) (L2 k) s).trans (E6D k s.1.1 s.1.2.1 r h)) k
theorem F3U (k:Nat) (x0:ByteArray) (x1:ByteArray):A0 (A2D k x0 x1) (C1Q x0 x1):=by
 show A0 (All.exact_NatCmp.f k x0 x1) _
 unfold All.exact_NatCmp.f
 unfold C1Q
 (try simp only [All.integer_zero.f,All.exact_stepAt.f,All.S24.f0,All.S24.f1,All.rd_T24,All.z24])
 (try simp only [F1,List.take_append_drop,List.drop_length,List.append_nil,Int.zero_sub,Int.toNat_natCast,Int.reduceToNat,Int.zero_add,List.take_zero,List.nil_append,List.append_assoc,List.length_set,Y2,List.take_left,H4,bne,H5,decide_not,I2,if_true,if_false,Bool.false_eq_true,j8,A0G,List.drop_zero,List.take_length,H7,F9,i8,C2,ite_not,Bool.and_eq_true,Bool.or_eq_true,Bool.not_eq_true',H2,Bool.not_eq_false',beq_iff_eq,decide_eq_true_eq,I0,H1,H0,ne_eq,H8,List.toList_toArray])
 repeat' first
 | (with_reducible refine A0.trans ((All.exact_NatCmp.mono_l k) _ _ _) ?_;rw [All.exact_NatCmp.j0];(try simp only [F1,if_true,if_false,decide_eq_true_eq,Bool.false_eq_true,decide_not,ite_not,bne,H5,beq_iff_eq,Bool.not_eq_true',H2,H8,List.toList_toArray,H1,H0,Bool.and_eq_true,Bool.or_eq_true,I0,I2,H7,All.integer_zero.f,F9,Int.toNat_natCast,Int.reduceToNat,Int.zero_sub,H4]))
 | (with_reducible exact A0.none _)
 | (with_reducible exact A0.refl _)
 | (with_reducible refine A0.posR (by with_reducible assumption) ?_)
 | (with_reducible refine A0.negR (by with_reducible assumption) ?_)
 | (with_reducible refine A0.bindR (by with_reducible assumption) ?_)
 | (with_reducible refine A0.posL (by with_reducible assumption) ?_)
 | (with_reducible refine A0.negL (by with_reducible assumption) ?_)
 | (with_reducible refine A0.iteL (fun _=>?_) (fun _=>?_))
 | (with_reducible refine A0.bindK (by with_reducible assumption) ?_)
 | (with_reducible refine A0.bindL (fun _ _=>?_))
 | (refine A0.posR (by first|decide|exact Int.le_refl _|omega|assumption) ?_)
 | (refine A0.negR (by first|decide|omega) ?_)
theorem D3s (k:Nat):B5 Tryz.prog (C7Y (A2D k)):=
 B7 B6 HM B5X (es:=fun k=>[]) (fun k=>fz) Tryz.func227 0 (by kernel_rfl) (fun s=>rfl) (fun k=>[]) (fz) (fun k s0=> .nil) (F:=fun k s=>A2D k s.1.1 s.1.2.1) (fun k s r h=>(F1F s).trans (F3U k s.1.1 s.1.2.1 r h)) k
noncomputable abbrev A6j (k:Nat) (x7:Int) (x15:Int) (x16:Int) (x5:(List Int)) (x6:(List Int)):Option A1j:=All.exact_NatSub.l0 k x5 x6 x7 x15 x16
theorem F1S (k:Nat) (x7:Int) (x15:Int) (x16:Int) (x5:(List Int)) (x6:(List Int)):A0 (All.exact_NatSub.l0 (k+1) x5 x6 x7 x15 x16) (C5A (A6j k) (G1 k) (Y5 k) x7 x15 x16 x5 x6):=by rw [All.exact_NatSub.l0];unfold C5A;(try simp only [A6j,G1,H6,Y5,All.integer_zero.f,All.exact_stepAt.f,All.S24.f0,All.S24.f1,All.rd_T24,All.z24]);exact BR
theorem E0q (k:Nat) (x0:ByteArray) (x1:ByteArray):A0 (A7b k x0 x1) (C7j (A6j k) (H6 k) x0 x1):=by
 show A0 (All.exact_NatSub.f k x0 x1) _
 unfold All.exact_NatSub.f;unfold C7j;(try simp only [A6j,G1,H6,Y5,All.integer_zero.f,All.exact_stepAt.f,All.S24.f0,All.S24.f1,All.rd_T24,All.z24]);exact BR
theorem E4l (k:Nat):B5 Tryz.prog (D3R (A7b k)):=
 B7 B6 HM B0p (es:=fun k=>C1U (G1 k) (H6 k) (Y5 k)) (fun k=>fc ⟨A7J k,fc ⟨A8j k,fc ⟨D0v k,fz⟩⟩⟩) Tryz.func228 1 (by kernel_rfl) (fun s=>rfl) (fun k=>C6Y (A6j k)) (fc ⟨fun s=>rfl,fz⟩) (fun k s0=> .cons (by kernel_rfl) (by kernel_rfl) (fun s r h=>(D8o (A6j k) (G1 k) (H6 k) (Y5 k) s0 s).trans (F1S k s.1.1 s.1.2.1 s.1.2.2.1 s.2.1 s.2.2.1 r h)) (.nil)) (F:=fun k s=>A7b k s.1.1 s.1.2.1) (fun k s r h=>(E8G (A6j k) (G1 k) (H6 k) (Y5 k) s).trans (E0q k s.1.1 s.1.2.1 r h)) k
theorem F0k (k:Nat) (x0:TI) (x1:TI):A0 (A6s k x0 x1) (C5g (I1 k) (A6W k) (A2D k) (A7b k) x0 x1):=by
 show A0 (All.exact_IntAdd.f k x0.1 x0.2 x1.1 x1.2) _
 unfold All.exact_IntAdd.f;unfold C5g;(try simp only [I1,A6W,A2D,A7b,All.integer_zero.f,All.exact_stepAt.f,All.S24.f0,All.S24.f1,All.rd_T24,All.z24]);exact BR
theorem E0x (k:Nat):B5 Tryz.prog (C9E (A6s k)):=
 B7 B6 HM B7c (es:=fun k=>D3t (I1 k) (A6W k) (A2D k) (A7b k)) (fun k=>fc ⟨A7i k,fc ⟨E7N k,fc ⟨D3s k,fc ⟨E4l k,fz⟩⟩⟩⟩) Tryz.func191 0 (by kernel_rfl) (fun s=>rfl) (fun k=>[]) (fz) (fun k s0=> .nil) (F:=fun k s=>A6s k s.1.1 s.1.2.1) (fun k s r h=>(E4Q (I1 k) (A6W k) (A2D k) (A7b k) s).trans (F0k k s.1.1 s.1.2.1 r h)) k
theorem E0Q (k:Nat) (x0:TQ) (x1:TQ):A0 (T3 k x0 x1) (C1u (T2 k) (Y3 k) (O1 k) (A6s k) (I1 k) x0 x1):=A0.refl _
theorem C2O (k:Nat):B5 Tryz.prog (B7l (T3 k)):=
 B7 B6 HM B5u (es:=fun k=>D1u (T2 k) (Y3 k) (O1 k) (A6s k) (I1 k)) (fun k=>fc ⟨C0o k,fc ⟨D6K k,fc ⟨B6e k,fc ⟨E0x k,fc ⟨A7i k,fz⟩⟩⟩⟩⟩) Tryz.func148 0 (by kernel_rfl) (fun s=>rfl) (fun k=>[]) (fz) (fun k s0=> .nil) (F:=fun k s=>T3 k s.1.1 s.1.2.1) (fun k s r h=>(F0T (T2 k) (Y3 k) (O1 k) (A6s k) (I1 k) s).trans (E0Q k s.1.1 s.1.2.1 r h)) k
theorem b88 (k:Nat) (x0:TQ) (x1:TQ):A0 (O6 k x0 x1) (B88 (A0S k) (T3 k) x0 x1):=A0.refl _
theorem C6r (k:Nat):B5 Tryz.prog (B7x (O6 k)):=
 B7 B6 HM D88 (es:=fun k=>D5u (A0S k) (T3 k)) (fun k=>fc ⟨C9u k,fc ⟨C2O k,fz⟩⟩) Tryz.func88 0 (by kernel_rfl) (fun s=>rfl) (fun k=>[]) (fz) (fun k s0=> .nil) (F:=fun k s=>O6 k s.1.1 s.1.2.1) (fun k s r h=>(e88 (A0S k) (T3 k) s).trans (b88 k s.1.1 s.1.2.1 r h)) k
theorem E1w (k:Nat) (x0:(List TQ)) (x3:Int):A0 (m8 (k+1) x0 x3) (A5y (m8 k) (J1 k) x0 x3):=by rw [m8];exact A0.refl _
theorem b92 (k:Nat) (x0:(List TQ)):A0 (D8 k x0) (B92 (m8 k) x0):=A0.refl _
theorem A4h (k:Nat):B5 Tryz.prog (A4L (D8 k)):=
 B7 B6 HM D92 (es:=fun k=>C4G (J1 k)) (fun k=>fc ⟨B4r k,fz⟩) Tryz.func92 1 (by kernel_rfl) (fun s=>rfl) (fun k=>B8R (m8 k)) (fc ⟨fun s=>rfl,fz⟩) (fun k s0=> .cons (by kernel_rfl) (by kernel_rfl) (fun s r h=>(E4I (m8 k) (J1 k) s0 s).trans (E1w k s.1.1 s.1.2.1 r h)) (.nil)) (F:=fun k s=>D8 k s.1.1) (fun k s r h=>(e92 (m8 k) (J1 k) s).trans (b92 k s.1.1 r h)) k
theorem E1j (k:Nat) (x0:TQ):A0 (U3 k x0) (C5Z x0):=A0.refl _
theorem C4N (k:Nat):B5 Tryz.prog (B4S (U3 k)):=
 B7 B6 HM B5q (es:=fun k=>[]) (fun k=>fz) Tryz.func147 0 (by kernel_rfl) (fun s=>rfl) (fun k=>[]) (fz) (fun k s0=> .nil) (F:=fun k s=>U3 k s.1.1) (fun k s r h=>(F1P s).trans (E1j k s.1.1 r h)) k
theorem E0N (k:Nat) (x0:(List TQ)):A0 (C6l k x0) (C3T x0):=A0.refl _
theorem D8C (k:Nat):B5 Tryz.prog (E4g (C6l k)):=
 B7 B6 HM B5U (es:=fun k=>[]) (fun k=>fz) Tryz.func189 0 (by kernel_rfl) (fun s=>rfl) (fun k=>[]) (fz) (fun k s0=> .nil) (F:=fun k s=>C6l k s.1.1) (fun k s r h=>(E1u s).trans (E0N k s.1.1 r h)) k
theorem E6R (k:Nat) (x0:(List TQ)):A0 (C5F k x0) (A7n x0):=A0.refl _
theorem E8u (k:Nat):B5 Tryz.prog (F0b (C5F k)):=
 B7 B6 HM B5Y (es:=fun k=>[]) (fun k=>fz) Tryz.func189 0 (by kernel_rfl) (fun s=>rfl) (fun k=>[]) (fz) (fun k s0=> .nil) (F:=fun k s=>C5F k s.1.1) (fun k s r h=>(E9k s).trans (E6R k s.1.1 r h)) k
theorem E5N (k:Nat):B5 Tryz.prog (D6B (A5d k)):=E4d (D8C k) (E8u k) (fun s r h=>⟨h,fun hx=>by
 have e:A7n []=some []:=by kernel_rfl
 have h':A7n s.1.1=some r:=h
 rw [hx,e]at h'
 cases h'
 rfl⟩)
theorem E0o (k:Nat) (x0:(List TQ)) (x1:(List TQ)) (x7:Int) (x30:Int) (x31:Int) (x6:(List TQ)) (x8:(List TQ)):A0 (A1V (k+1) x0 x1 x7 x30 x31 x6 x8) (C7w (A1V k) (t8 k) (D7 k) (U3 k) x0 x1 x7 x30 x31 x6 x8):=by rw [A1V];exact A0.refl _
theorem E8v (k:Nat) (x1:(List TQ)) (x7:Int) (x11:Int) (x6:(List TQ)) (x8:(List TQ)) (x10:TQ):A0 (t8 (k+1) x1 x7 x11 x6 x8 x10) (B8Z (t8 k) (A1S k) (D8 k) (F3 k) (J1 k) x1 x7 x11 x6 x8 x10):=by rw [t8];exact A0.refl _
theorem E8H (k:Nat) (x1:(List TQ)) (x7:Int) (x11:Int) (x69:Int) (x70:Int) (x6:(List TQ)) (x8:(List TQ)) (x10:TQ) (x12:TQ):A0 (A1S (k+1) x1 x7 x11 x69 x70 x6 x8 x10 x12) (C5l (t8 k) (A1S k) (O6 k) (F3 k) x1 x7 x11 x69 x70 x6 x8 x10 x12):=by rw [A1S];exact A0.refl _
theorem E4P (k:Nat) (x0:(List TQ)) (x1:(List TQ)):A0 (X0 k x0 x1) (B9v (A1V k) (A5d k) x0 x1):=A0.refl _
theorem B9g (k:Nat):B5 Tryz.prog (B5Z (X0 k)):=
 B7 B6 HM A2k (es:=fun k=>B2z (O6 k) (D7 k) (D8 k) (F3 k) (U3 k) (J1 k) (A5d k)) (fun k=>fc ⟨C6r k,fc ⟨A5f k,fc ⟨A4h k,fc ⟨B2Q k,fc ⟨C4N k,fc ⟨B4r k,fc ⟨E5N k,fz⟩⟩⟩⟩⟩⟩⟩) Tryz.func144 3 (by kernel_rfl) (fun s=>rfl) (fun k=>B1K (A1V k) (t8 k) (A1S k)) (fc ⟨fun s=>rfl,fc ⟨fun s=>rfl,fc ⟨fun s=>rfl,fz⟩⟩⟩) (fun k s0=> .cons (by kernel_rfl) (by kernel_rfl) (fun s r h=>(E1i (A1V k) (t8 k) (A1S k) (O6 k) (D7 k) (D8 k) (F3 k) (U3 k) (J1 k) (A5d k) s0 s).trans (E0o k s.1.1 s.1.2.1 s.1.2.2.1 s.1.2.2.2.1 s.1.2.2.2.2.1 s.2.1 s.2.2.1 r h)) (.cons (by kernel_rfl) (by kernel_rfl) (fun s r h=>(E7r (A1V k) (t8 k) (A1S k) (O6 k) (D7 k) (D8 k) (F3 k) (U3 k) (J1 k) (A5d k) s0 s).trans (E8v k s.1.1 s.1.2.1 s.1.2.2.1 s.2.1 s.2.2.1 s.2.2.2.1 r h)) (.cons (by kernel_rfl) (by kernel_rfl) (fun s r h=>(E2P (A1V k) (t8 k) (A1S k) (O6 k) (D7 k) (D8 k) (F3 k) (U3 k) (J1 k) (A5d k) s0 s).trans (E8H k s.1.1 s.1.2.1 s.1.2.2.1 s.1.2.2.2.1 s.1.2.2.2.2.1 s.2.1 s.2.2.1 s.2.2.2.1 s.2.2.2.2.1 r h)) (.nil)))) (F:=fun k s=>X0 k s.1.1 s.1.2.1) (fun k s r h=>(F3K (A1V k) (t8 k) (A1S k) (O6 k) (D7 k) (D8 k) (F3 k) (U3 k) (J1 k) (A5d k) s).trans (E4P k s.1.1 s.1.2.1 r h)) k
theorem F1a (k:Nat) (x0:(List TQ)) (x1:(List TQ)) (x4:TQ) (x5:TQ):A0 (A4G (k+1) x0 x1 x4 x5) (C4c (A4G k) (D7 k) (F3 k) (A4k k) (X0 k) (A0S k) x0 x1 x4 x5):=by rw [A4G];exact A0.refl _
theorem b84 (k:Nat) (x0:(List TQ)) (x1:(List TQ)):A0 (A2N k x0 x1) (B84 (A4G k) (D7 k) x0 x1):=A0.refl _
theorem F2h (k:Nat):B5 Tryz.prog (D3j (A2N k)):=
 B7 B6 HM D84 (es:=fun k=>C3i (D7 k) (F3 k) (A4k k) (X0 k) (A0S k)) (fun k=>fc ⟨A5f k,fc ⟨B2Q k,fc ⟨E8T k,fc ⟨B9g k,fc ⟨C9u k,fz⟩⟩⟩⟩⟩) Tryz.func84 1 (by kernel_rfl) (fun s=>rfl) (fun k=>C6F (A4G k)) (fc ⟨fun s=>rfl,fz⟩) (fun k s0=> .cons (by kernel_rfl) (by kernel_rfl) (fun s r h=>(F1x (A4G k) (D7 k) (F3 k) (A4k k) (X0 k) (A0S k) s0 s).trans (F1a k s.1.1 s.1.2.1 s.2.1 s.2.2.1 r h)) (.nil)) (F:=fun k s=>A2N k s.1.1 s.1.2.1) (fun k s r h=>(e84 (A4G k) (D7 k) (F3 k) (A4k k) (X0 k) (A0S k) s).trans (b84 k s.1.1 s.1.2.1 r h)) k
theorem D9q (k:Nat) (x0:(List TQ)) (x1:Int):A0 (s9 k x0 x1) (C1m (D7 k) x0 x1):=A0.refl _
theorem C8U (k:Nat):B5 Tryz.prog (B8k (s9 k)):=
 B7 B6 HM B4w (es:=fun k=>D3Z (D7 k)) (fun k=>fc ⟨A5f k,fz⟩) Tryz.func151 0 (by kernel_rfl) (fun s=>rfl) (fun k=>[]) (fz) (fun k s0=> .nil) (F:=fun k s=>s9 k s.1.1 s.1.2.1) (fun k s r h=>(E6z (D7 k) s).trans (D9q k s.1.1 s.1.2.1 r h)) k
theorem E3P (k:Nat) (x0:(List TQ)) (x1:(List TQ)) (x14:Int) (x15:Int) (x5:(List TQ)):A0 (A4D (k+1) x0 x1 x14 x15 x5) (C3F (A4D k) (D8 k) (T3 k) (s9 k) x0 x1 x14 x15 x5):=by rw [A4D];exact A0.refl _
theorem b90 (k:Nat) (x0:(List TQ)) (x1:(List TQ)):A0 (K6 k x0 x1) (B90 (A4D k) x0 x1):=A0.refl _
theorem B4B (k:Nat):B5 Tryz.prog (B1I (K6 k)):=
 B7 B6 HM D90 (es:=fun k=>C5o (D8 k) (T3 k) (s9 k)) (fun k=>fc ⟨A4h k,fc ⟨C2O k,fc ⟨C8U k,fz⟩⟩⟩) Tryz.func90 1 (by kernel_rfl) (fun s=>rfl) (fun k=>C5h (A4D k)) (fc ⟨fun s=>rfl,fz⟩) (fun k s0=> .cons (by kernel_rfl) (by kernel_rfl) (fun s r h=>(D8u (A4D k) (D8 k) (T3 k) (s9 k) s0 s).trans (E3P k s.1.1 s.1.2.1 s.1.2.2.1 s.1.2.2.2.1 s.2.1 r h)) (.nil)) (F:=fun k s=>K6 k s.1.1 s.1.2.1) (fun k s r h=>(e90 (A4D k) (D8 k) (T3 k) (s9 k) s).trans (b90 k s.1.1 s.1.2.1 r h)) k
theorem D9J (k:Nat) (x0:(List TQ)) (x1:(List TQ)) (x27:Int) (x28:Int) (x5:(List TQ)):A0 (A1o (k+1) x0 x1 x27 x28 x5) (C3f (A1o k) (n8 k) (D7 k) x0 x1 x27 x28 x5):=by rw [A1o];exact A0.refl _
theorem F0t (k:Nat) (x1:(List TQ)) (x36:(List TQ)) (x37:Int) (x38:Int) (x5:(List TQ)):A0 (n8 (k+1) x1 x36 x37 x38 x5) (B9d (n8 k) (A1E k) (D8 k) (J1 k) x1 x36 x37 x38 x5):=by rw [n8];exact A0.refl _
theorem E6W (k:Nat) (x1:(List TQ)) (x7:Int) (x36:(List TQ)) (x37:Int) (x38:Int) (x45:(List TQ)) (x46:Int) (x47:Int) (x5:(List TQ)) (x8:TQ):A0 (A1E (k+1) x1 x7 x36 x37 x38 x45 x46 x47 x5 x8) (C5V (n8 k) (A1E k) (F3 k) (T3 k) x1 x7 x36 x37 x38 x45 x46 x47 x5 x8):=by rw [A1E];exact A0.refl _
theorem b91 (k:Nat) (x0:(List TQ)) (x1:(List TQ)):A0 (L7 k x0 x1) (B91 (A1o k) x0 x1):=A0.refl _
theorem B7f (k:Nat):B5 Tryz.prog (B2b (L7 k)):=
 B7 B6 HM D91 (es:=fun k=>B1Y (D7 k) (D8 k) (F3 k) (T3 k) (J1 k)) (fun k=>fc ⟨A5f k,fc ⟨A4h k,fc ⟨B2Q k,fc ⟨C2O k,fc ⟨B4r k,fz⟩⟩⟩⟩⟩) Tryz.func91 3 (by kernel_rfl) (fun s=>rfl) (fun k=>B2O (A1o k) (n8 k) (A1E k)) (fc ⟨fun s=>rfl,fc ⟨fun s=>rfl,fc ⟨fun s=>rfl,fz⟩⟩⟩) (fun k s0=> .cons (by kernel_rfl) (by kernel_rfl) (fun s r h=>(E8z (A1o k) (n8 k) (A1E k) (D7 k) (D8 k) (F3 k) (T3 k) (J1 k) s0 s).trans (D9J k s.1.1 s.1.2.1 s.1.2.2.1 s.1.2.2.2.1 s.2.1 r h)) (.cons (by kernel_rfl) (by kernel_rfl) (fun s r h=>(E7g (A1o k) (n8 k) (A1E k) (D7 k) (D8 k) (F3 k) (T3 k) (J1 k) s0 s).trans (F0t k s.1.1 s.1.2.1 s.1.2.2.1 s.1.2.2.2.1 s.2.1 r h)) (.cons (by kernel_rfl) (by kernel_rfl) (fun s r h=>(D6k (A1o k) (n8 k) (A1E k) (D7 k) (D8 k) (F3 k) (T3 k) (J1 k) s0 s).trans (E6W k s.1.1 s.1.2.1 s.1.2.2.1 s.1.2.2.2.1 s.1.2.2.2.2.1 s.1.2.2.2.2.2.1 s.1.2.2.2.2.2.2.1 s.1.2.2.2.2.2.2.2.1 s.2.1 s.2.2.1 r h)) (.nil)))) (F:=fun k s=>L7 k s.1.1 s.1.2.1) (fun k s r h=>(e91 (A1o k) (n8 k) (A1E k) (D7 k) (D8 k) (F3 k) (T3 k) (J1 k) s).trans (b91 k s.1.1 s.1.2.1 r h)) k
theorem D8i (k:Nat) (x0:(List TQ)) (x1:(List TQ)):A0 (R2 k x0 x1) (C3k (X0 k) x0 x1):=A0.refl _
theorem C4B (k:Nat):B5 Tryz.prog (B8M (R2 k)):=
 B7 B6 HM B8B (es:=fun k=>D3B (X0 k)) (fun k=>fc ⟨B9g k,fz⟩) Tryz.func165 0 (by kernel_rfl) (fun s=>rfl) (fun k=>[]) (fz) (fun k s0=> .nil) (F:=fun k s=>R2 k s.1.1 s.1.2.1) (fun k s r h=>(F0X (X0 k) s).trans (D8i k s.1.1 s.1.2.1 r h)) k
theorem E9o (k:Nat) (x0:(List TQ)) (x1:(List TQ)) (x2:(List TQ)):A0 (S3 k x0 x1 x2) (C5b (L7 k) (R2 k) x0 x1 x2):=A0.refl _
theorem B9f (k:Nat):B5 Tryz.prog (B6v (S3 k)):=
 B7 B6 HM B3i (es:=fun k=>D2e (L7 k) (R2 k)) (fun k=>fc ⟨B7f k,fc ⟨C4B k,fz⟩⟩) Tryz.func146 0 (by kernel_rfl) (fun s=>rfl) (fun k=>[]) (fz) (fun k s0=> .nil) (F:=fun k s=>S3 k s.1.1 s.1.2.1 s.1.2.2.1) (fun k s r h=>(E2y (L7 k) (R2 k) s).trans (E9o k s.1.1 s.1.2.1 s.1.2.2.1 r h)) k
theorem F3c (k:Nat) (x1:(List (List TQ))) (x2:(List TQ)) (x7:(List TQ)) (x8:Int) (x3:(List TQ)):A0 (A3e (k+1) x1 x2 x7 x8 x3) (C8E (A3e k) (K6 k) (S3 k) x1 x2 x7 x8 x3):=by rw [A3e];exact A0.refl _
theorem b85 (k:Nat) (x0:(List TQ)) (x1:(List (List TQ))) (x2:(List TQ)):A0 (A1d k x0 x1 x2) (B85 (A3e k) x0 x1 x2):=A0.refl _
theorem E8N (k:Nat):B5 Tryz.prog (D4i (A1d k)):=
 B7 B6 HM D85 (es:=fun k=>C5T (K6 k) (S3 k)) (fun k=>fc ⟨B4B k,fc ⟨B9f k,fz⟩⟩) Tryz.func85 1 (by kernel_rfl) (fun s=>rfl) (fun k=>C5v (A3e k)) (fc ⟨fun s=>rfl,fz⟩) (fun k s0=> .cons (by kernel_rfl) (by kernel_rfl) (fun s r h=>(E3q (A3e k) (K6 k) (S3 k) s0 s).trans (F3c k s.1.1 s.1.2.1 s.1.2.2.1 s.1.2.2.2.1 s.2.1 r h)) (.nil)) (F:=fun k s=>A1d k s.1.1 s.1.2.1 s.1.2.2.1) (fun k s r h=>(e85 (A3e k) (K6 k) (S3 k) s).trans (b85 k s.1.1 s.1.2.1 s.1.2.2.1 r h)) k
theorem D8T (k:Nat) (x9:(List Int)) (x10:Int) (x11:Int) (x3:(List TQ)):A0 (A3n (k+1) x9 x10 x11 x3) (B8y (A3n k) (D7 k) (D8 k) x9 x10 x11 x3):=by rw [A3n];exact A0.refl _
theorem b86 (k:Nat) (x0:(List Int)):A0 (K8 k x0) (B86 (A3n k) x0):=A0.refl _
theorem B6V (k:Nat):B5 Tryz.prog (B2C (K8 k)):=
 B7 B6 HM D86 (es:=fun k=>C2D (D7 k) (D8 k)) (fun k=>fc ⟨A5f k,fc ⟨A4h k,fz⟩⟩) Tryz.func86 1 (by kernel_rfl) (fun s=>rfl) (fun k=>C5i (A3n k)) (fc ⟨fun s=>rfl,fz⟩) (fun k s0=> .cons (by kernel_rfl) (by kernel_rfl) (fun s r h=>(E8y (A3n k) (D7 k) (D8 k) s0 s).trans (D8T k s.1.1 s.1.2.1 s.1.2.2.1 s.2.1 r h)) (.nil)) (F:=fun k s=>K8 k s.1.1) (fun k s r h=>(e86 (A3n k) (D7 k) (D8 k) s).trans (b86 k s.1.1 r h)) k
theorem b87 (k:Nat) (x0:TQ) (x1:TQ):A0 (A1X k x0 x1) (B87 (F3 k) (U3 k) x0 x1):=A0.refl _
theorem D7t (k:Nat):B5 Tryz.prog (D1D (A1X k)):=
 B7 B6 HM D87 (es:=fun k=>D0L (F3 k) (U3 k)) (fun k=>fc ⟨B2Q k,fc ⟨C4N k,fz⟩⟩) Tryz.func87 0 (by kernel_rfl) (fun s=>rfl) (fun k=>[]) (fz) (fun k s0=> .nil) (F:=fun k s=>A1X k s.1.1 s.1.2.1) (fun k s r h=>(e87 (F3 k) (U3 k) s).trans (b87 k s.1.1 s.1.2.1 r h)) k
theorem E8V (k:Nat) (x0:TQ):A0 (A2K k x0) (B1M x0):=A0.refl _
theorem D6S (k:Nat):B5 Tryz.prog (C8z (A2K k)):=
 B7 B6 HM B7R (es:=fun k=>[]) (fun k=>fz) Tryz.func154 0 (by kernel_rfl) (fun s=>rfl) (fun k=>[]) (fz) (fun k s0=> .nil) (F:=fun k s=>A2K k s.1.1) (fun k s r h=>(F3P s).trans (E8V k s.1.1 r h)) k
theorem E6f (k:Nat) (x0:(List TQ)) (x7:Int) (x8:Int):A0 (z5 (k+1) x0 x7 x8) (A5v (z5 k) (A2K k) x0 x7 x8):=by rw [z5];exact A0.refl _
theorem D8f (k:Nat) (x0:(List TQ)):A0 (A4c k x0) (B2h (z5 k) x0):=A0.refl _
theorem F3a (k:Nat):B5 Tryz.prog (D1J (A4c k)):=
 B7 B6 HM A8c (es:=fun k=>C4z (A2K k)) (fun k=>fc ⟨D6S k,fz⟩) Tryz.func194 1 (by kernel_rfl) (fun s=>rfl) (fun k=>C5c (z5 k)) (fc ⟨fun s=>rfl,fz⟩) (fun k s0=> .cons (by kernel_rfl) (by kernel_rfl) (fun s r h=>(E1X (z5 k) (A2K k) s0 s).trans (E6f k s.1.1 s.1.2.1 s.1.2.2.1 r h)) (.nil)) (F:=fun k s=>A4c k s.1.1) (fun k s r h=>(E8j (z5 k) (A2K k) s).trans (D8f k s.1.1 r h)) k
theorem E4B (k:Nat) (x0:(List TQ)):A0 (A0V k x0) (B8r (A4c k) x0):=A0.refl _
theorem D2r (k:Nat):B5 Tryz.prog (C5q (A0V k)):=
 B7 B6 HM B4P (es:=fun k=>D6F (A4c k)) (fun k=>fc ⟨F3a k,fz⟩) Tryz.func153 0 (by kernel_rfl) (fun s=>rfl) (fun k=>[]) (fz) (fun k s0=> .nil) (F:=fun k s=>A0V k s.1.1) (fun k s r h=>(F0U (A4c k) s).trans (E4B k s.1.1 r h)) k
theorem b93 (k:Nat) (x0:(List TQ)):A0 (A0y k x0) (B93 (A0V k) x0):=A0.refl _
theorem D9j (k:Nat):B5 Tryz.prog (D5m (A0y k)):=
 B7 B6 HM D93 (es:=fun k=>C9K (A0V k)) (fun k=>fc ⟨D2r k,fz⟩) Tryz.func93 0 (by kernel_rfl) (fun s=>rfl) (fun k=>[]) (fz) (fun k s0=> .nil) (F:=fun k s=>A0y k s.1.1) (fun k s r h=>(e93 (A0V k) s).trans (b93 k s.1.1 r h)) k
theorem D9h (k:Nat) (x1:(List (List TQ))) (x7:Int) (x38:Int) (x39:Int) (x2:(List TQ)) (x8:(List TQ)):A0 (A0T (k+1) x1 x7 x38 x39 x2 x8) (C2i (A0T k) (A0R k) (A2N k) (A1d k) (K8 k) x1 x7 x38 x39 x2 x8):=by rw [A0T];exact A0.refl _
theorem E3E (k:Nat) (x7:Int) (x10:Int) (x8:(List TQ)):A0 (A0R (k+1) x7 x10 x8) (C6N (A0d k) (A0Y k) x7 x10 x8):=by rw [A0R];exact A0.refl _
theorem E7J (k:Nat) (x7:Int) (x10:Int) (x11:Int) (x8:(List TQ)):A0 (A0d (k+1) x7 x10 x11 x8) (C1Y (A0R k) (A0d k) (A1X k) (O6 k) (D7 k) x7 x10 x11 x8):=by rw [A0d];exact A0.refl _
theorem F0s (k:Nat) (x12:(List TQ)) (x13:Int) (x8:(List TQ)):A0 (A0Y (k+1) x12 x13 x8) (C5M (A0Y k) (K8 k) (K6 k) (L7 k) (D8 k) (A0y k) x12 x13 x8):=by rw [A0Y];exact A0.refl _
theorem b17 (k:Nat) (x0:(List TQ)) (x1:(List (List TQ))):A0 (A7Z k x0 x1) (B17 (A0T k) (J2 k) x0 x1):=A0.refl _
theorem F0i (k:Nat):B5 Tryz.prog (C9R (A7Z k)):=
 B7 B6 HM D17 (es:=fun k=>A9d (J2 k) (A2N k) (A1d k) (K8 k) (A1X k) (O6 k) (D7 k) (K6 k) (L7 k) (D8 k) (A0y k)) (fun k=>fc ⟨B1q k,fc ⟨F2h k,fc ⟨E8N k,fc ⟨B6V k,fc ⟨D7t k,fc ⟨C6r k,fc ⟨A5f k,fc ⟨B4B k,fc ⟨B7f k,fc ⟨A4h k,fc ⟨D9j k,fz⟩⟩⟩⟩⟩⟩⟩⟩⟩⟩⟩) Tryz.func17 4 (by kernel_rfl) (fun s=>rfl) (fun k=>B0o (A0T k) (A0R k) (A0d k) (A0Y k)) (fc ⟨fun s=>rfl,fc ⟨fun s=>rfl,fc ⟨fun s=>rfl,fc ⟨fun s=>rfl,fz⟩⟩⟩⟩) (fun k s0=> .cons (by kernel_rfl) (by kernel_rfl) (fun s r h=>(E1W (A0T k) (A0R k) (A0d k) (A0Y k) (J2 k) (A2N k) (A1d k) (K8 k) (A1X k) (O6 k) (D7 k) (K6 k) (L7 k) (D8 k) (A0y k) s0 s).trans (D9h k s.1.1 s.1.2.1 s.1.2.2.1 s.1.2.2.2.1 s.2.1 s.2.2.1 r h)) (.cons (by kernel_rfl) (by kernel_rfl) (fun s r h=>(E6o (A0T k) (A0R k) (A0d k) (A0Y k) (J2 k) (A2N k) (A1d k) (K8 k) (A1X k) (O6 k) (D7 k) (K6 k) (L7 k) (D8 k) (A0y k) s0 s).trans (E3E k s.1.1 s.1.2.1 s.2.1 r h)) (.cons (by kernel_rfl) (by kernel_rfl) (fun s r h=>(E0z (A0T k) (A0R k) (A0d k) (A0Y k) (J2 k) (A2N k) (A1d k) (K8 k) (A1X k) (O6 k) (D7 k) (K6 k) (L7 k) (D8 k) (A0y k) s0 s).trans (E7J k s.1.1 s.1.2.1 s.1.2.2.1 s.2.1 r h)) (.cons (by kernel_rfl) (by kernel_rfl) (fun s r h=>(E7e (A0T k) (A0R k) (A0d k) (A0Y k) (J2 k) (A2N k) (A1d k) (K8 k) (A1X k) (O6 k) (D7 k) (K6 k) (L7 k) (D8 k) (A0y k) s0 s).trans (F0s k s.1.1 s.1.2.1 s.2.1 r h)) (.nil))))) (F:=fun k s=>A7Z k s.1.1 s.1.2.1) (fun k s r h=>(e17 (A0T k) (A0R k) (A0d k) (A0Y k) (J2 k) (A2N k) (A1d k) (K8 k) (A1X k) (O6 k) (D7 k) (K6 k) (L7 k) (D8 k) (A0y k) s).trans (b17 k s.1.1 s.1.2.1 r h)) k
theorem E4q (k:Nat) (x0:(List TQ)) (x1:(List TQ)) (x12:Int) (x13:Int):A0 (A0F (k+1) x0 x1 x12 x13) (A6X (A0F k) x0 x1 x12 x13):=by rw [A0F];exact A0.refl _
theorem b18 (k:Nat) (x0:(List TQ)) (x1:(List TQ)):A0 (d9 k x0 x1) (B18 (A0F k) x0 x1):=A0.refl _
theorem D0c (k:Nat):B5 Tryz.prog (B8n (d9 k)):=
 B7 B6 HM D18 (es:=fun k=>[]) (fun k=>fz) Tryz.func18 1 (by kernel_rfl) (fun s=>rfl) (fun k=>B8s (A0F k)) (fc ⟨fun s=>rfl,fz⟩) (fun k s0=> .cons (by kernel_rfl) (by kernel_rfl) (fun s r h=>(E3i (A0F k) s0 s).trans (E4q k s.1.1 s.1.2.1 s.1.2.2.1 s.1.2.2.2.1 r h)) (.nil)) (F:=fun k s=>d9 k s.1.1 s.1.2.1) (fun k s r h=>(e18 (A0F k) s).trans (b18 k s.1.1 s.1.2.1 r h)) k
theorem E7n (k:Nat) (x0:(List TQ)) (x3:Int):A0 (l6 (k+1) x0 x3) (A7Y (l6 k) (P1 k) x0 x3):=by rw [l6];exact A0.refl _
theorem b48 (k:Nat) (x0:(List TQ)):A0 (S6 k x0) (B48 (l6 k) x0):=A0.refl _
theorem C0W (k:Nat):B5 Tryz.prog (B4R (S6 k)):=
 B7 B6 HM D48 (es:=fun k=>C7r (P1 k)) (fun k=>fc ⟨C9O k,fz⟩) Tryz.func48 1 (by kernel_rfl) (fun s=>rfl) (fun k=>C6i (l6 k)) (fc ⟨fun s=>rfl,fz⟩) (fun k s0=> .cons (by kernel_rfl) (by kernel_rfl) (fun s r h=>(D8F (l6 k) (P1 k) s0 s).trans (E7n k s.1.1 s.1.2.1 r h)) (.nil)) (F:=fun k s=>S6 k s.1.1) (fun k s r h=>(e48 (l6 k) (P1 k) s).trans (b48 k s.1.1 r h)) k
theorem E6i (k:Nat) (x6:(List Int)) (x7:Int) (x8:Int) (x3:(List TQ)):A0 (A4E (k+1) x6 x7 x8 x3) (C7Z (A4E k) (S6 k) (J7 k) x6 x7 x8 x3):=by rw [A4E];exact A0.refl _
theorem b22 (k:Nat) (x0:(List Int)):A0 (A7L k x0) (B22 (A4E k) x0):=A0.refl _
theorem E3u (k:Nat):B5 Tryz.prog (D2c (A7L k)):=
 B7 B6 HM D22 (es:=fun k=>C1b (S6 k) (J7 k)) (fun k=>fc ⟨C0W k,fc ⟨B5r k,fz⟩⟩) Tryz.func22 1 (by kernel_rfl) (fun s=>rfl) (fun k=>C4X (A4E k)) (fc ⟨fun s=>rfl,fz⟩) (fun k s0=> .cons (by kernel_rfl) (by kernel_rfl) (fun s r h=>(F0B (A4E k) (S6 k) (J7 k) s0 s).trans (E6i k s.1.1 s.1.2.1 s.1.2.2.1 s.2.1 r h)) (.nil)) (F:=fun k s=>A7L k s.1.1) (fun k s r h=>(e22 (A4E k) (S6 k) (J7 k) s).trans (b22 k s.1.1 r h)) k
theorem F2u (k:Nat) (x11:(List TQ)) (x12:Int) (x13:Int) (x3:TQ) (x5:(List TQ)):A0 (z7 (k+1) x11 x12 x13 x3 x5) (A5u (z7 k) (D8 k) (F3 k) x11 x12 x13 x3 x5):=by rw [z7];exact A0.refl _
theorem E0W (k:Nat) (x0:(List TQ)) (x1:TQ):A0 (V7 k x0 x1) (B1Z (z7 k) x0 x1):=A0.refl _
theorem D0R (k:Nat):B5 Tryz.prog (C6G (V7 k)):=
 B7 B6 HM A9S (es:=fun k=>C2j (D8 k) (F3 k)) (fun k=>fc ⟨A4h k,fc ⟨B2Q k,fz⟩⟩) Tryz.func137 1 (by kernel_rfl) (fun s=>rfl) (fun k=>C0E (z7 k)) (fc ⟨fun s=>rfl,fz⟩) (fun k s0=> .cons (by kernel_rfl) (by kernel_rfl) (fun s r h=>(D7c (z7 k) (D8 k) (F3 k) s0 s).trans (F2u k s.1.1 s.1.2.1 s.1.2.2.1 s.2.1 s.2.2.1 r h)) (.nil)) (F:=fun k s=>V7 k s.1.1 s.1.2.1) (fun k s r h=>(D9t (z7 k) (D8 k) (F3 k) s).trans (E0W k s.1.1 s.1.2.1 r h)) k
theorem E4C (k:Nat) (x0:(List TQ)) (x1:(List TQ)) (x14:Int) (x15:Int) (x5:(List TQ)):A0 (A3q (k+1) x0 x1 x14 x15 x5) (C1d (A3q k) (O6 k) (D8 k) (s9 k) x0 x1 x14 x15 x5):=by rw [A3q];exact A0.refl _
theorem E5S (k:Nat) (x0:(List TQ)) (x1:(List TQ)):A0 (i9 k x0 x1) (C2o (A3q k) x0 x1):=A0.refl _
theorem D0V (k:Nat):B5 Tryz.prog (C0h (i9 k)):=
 B7 B6 HM A9y (es:=fun k=>C1i (O6 k) (D8 k) (s9 k)) (fun k=>fc ⟨C6r k,fc ⟨A4h k,fc ⟨C8U k,fz⟩⟩⟩) Tryz.func166 1 (by kernel_rfl) (fun s=>rfl) (fun k=>C3D (A3q k)) (fc ⟨fun s=>rfl,fz⟩) (fun k s0=> .cons (by kernel_rfl) (by kernel_rfl) (fun s r h=>(E3A (A3q k) (O6 k) (D8 k) (s9 k) s0 s).trans (E4C k s.1.1 s.1.2.1 s.1.2.2.1 s.1.2.2.2.1 s.2.1 r h)) (.nil)) (F:=fun k s=>i9 k s.1.1 s.1.2.1) (fun k s r h=>(D7e (A3q k) (O6 k) (D8 k) (s9 k) s).trans (E5S k s.1.1 s.1.2.1 r h)) k
theorem E6j (k:Nat) (x0:(List TQ)) (x6:(List TQ)) (x7:(List TQ)) (x8:(List TQ)) (x9:(List TQ)):A0 (A3p (k+1) x0 x6 x7 x8 x9) (C1Z (A3p k) (L7 k) (V7 k) (X0 k) (U3 k) (R2 k) (i9 k) x0 x6 x7 x8 x9):=by rw [A3p];exact A0.refl _
theorem E8e (k:Nat) (x0:(List TQ)) (x1:(List TQ)):A0 (A1q k x0 x1) (B9y (A3p k) (K8 k) (R2 k) x0 x1):=A0.refl _
theorem D6G (k:Nat):B5 Tryz.prog (C7b (A1q k)):=
 B7 B6 HM A9O (es:=fun k=>C3W (K8 k) (L7 k) (V7 k) (X0 k) (U3 k) (R2 k) (i9 k)) (fun k=>fc ⟨B6V k,fc ⟨B7f k,fc ⟨D0R k,fc ⟨B9g k,fc ⟨C4N k,fc ⟨C4B k,fc ⟨D0V k,fz⟩⟩⟩⟩⟩⟩⟩) Tryz.func106 1 (by kernel_rfl) (fun s=>rfl) (fun k=>C0N (A3p k)) (fc ⟨fun s=>rfl,fz⟩) (fun k s0=> .cons (by kernel_rfl) (by kernel_rfl) (fun s r h=>(F2I (A3p k) (K8 k) (L7 k) (V7 k) (X0 k) (U3 k) (R2 k) (i9 k) s0 s).trans (E6j k s.1.1 s.1.2.1 s.1.2.2.1 s.1.2.2.2.1 s.1.2.2.2.2.1 r h)) (.nil)) (F:=fun k s=>A1q k s.1.1 s.1.2.1) (fun k s r h=>(E6Y (A3p k) (K8 k) (L7 k) (V7 k) (X0 k) (U3 k) (R2 k) (i9 k) s).trans (E8e k s.1.1 s.1.2.1 r h)) k
theorem E9I (k:Nat) (x0:(List (List TQ))) (x3:Int):A0 (m4 (k+1) x0 x3) (A7A (m4 k) x0 x3):=by rw [m4];exact A0.refl _
theorem D9U (k:Nat) (x0:(List (List TQ))):A0 (E3 k x0) (B2G (m4 k) x0):=A0.refl _
theorem A6M (k:Nat):B5 Tryz.prog (A5Q (E3 k)):=
 B7 B6 HM A8t (es:=fun k=>[]) (fun k=>fz) Tryz.func122 1 (by kernel_rfl) (fun s=>rfl) (fun k=>B8t (m4 k)) (fc ⟨fun s=>rfl,fz⟩) (fun k s0=> .cons (by kernel_rfl) (by kernel_rfl) (fun s r h=>(F2W (m4 k) s0 s).trans (E9I k s.1.1 s.1.2.1 r h)) (.nil)) (F:=fun k s=>E3 k s.1.1) (fun k s r h=>(E4j (m4 k) s).trans (D9U k s.1.1 r h)) k
theorem F2w (k:Nat) (x2:(List (List TQ))) (x3:(List TQ)) (x11:Int) (x13:Int) (x4:(List TQ)) (x10:(List (List TQ))) (x12:(List (List TQ))):A0 (A0a (k+1) x2 x3 x11 x13 x4 x10 x12) (C4i (A0a k) (A2d k) (E3 k) (S3 k) x2 x3 x11 x13 x4 x10 x12):=by rw [A0a];exact A0.refl _
theorem E7t (k:Nat) (x2:(List (List TQ))) (x3:(List TQ)) (x11:Int) (x13:Int) (x14:(List TQ)) (x60:Int) (x61:Int) (x4:(List TQ)) (x10:(List (List TQ))) (x12:(List (List TQ))):A0 (A2d (k+1) x2 x3 x11 x13 x14 x60 x61 x4 x10 x12) (C2s (A0a k) (A2d k) (S3 k) (i9 k) x2 x3 x11 x13 x14 x60 x61 x4 x10 x12):=by rw [A2d];exact A0.refl _
theorem E7E (k:Nat) (x0:(List TQ)) (x1:(List (List TQ))) (x2:(List (List TQ))) (x3:(List TQ)):A0 (A0U k x0 x1 x2 x3) (C5P (A0a k) (E3 k) x0 x1 x2 x3):=A0.refl _
theorem C9c (k:Nat):B5 Tryz.prog (C7G (A0U k)):=
 B7 B6 HM A4V (es:=fun k=>B7E (E3 k) (S3 k) (i9 k)) (fun k=>fc ⟨A6M k,fc ⟨B9f k,fc ⟨D0V k,fz⟩⟩⟩) Tryz.func107 2 (by kernel_rfl) (fun s=>rfl) (fun k=>B8I (A0a k) (A2d k)) (fc ⟨fun s=>rfl,fc ⟨fun s=>rfl,fz⟩⟩) (fun k s0=> .cons (by kernel_rfl) (by kernel_rfl) (fun s r h=>(E1b (A0a k) (A2d k) (E3 k) (S3 k) (i9 k) s0 s).trans (F2w k s.1.1 s.1.2.1 s.1.2.2.1 s.1.2.2.2.1 s.2.1 s.2.2.1 s.2.2.2.1 r h)) (.cons (by kernel_rfl) (by kernel_rfl) (fun s r h=>(E7z (A0a k) (A2d k) (E3 k) (S3 k) (i9 k) s0 s).trans (E7t k s.1.1 s.1.2.1 s.1.2.2.1 s.1.2.2.2.1 s.1.2.2.2.2.1 s.1.2.2.2.2.2.1 s.1.2.2.2.2.2.2.1 s.2.1 s.2.2.1 s.2.2.2.1 r h)) (.nil))) (F:=fun k s=>A0U k s.1.1 s.1.2.1 s.1.2.2.1 s.1.2.2.2.1) (fun k s r h=>(D8G (A0a k) (A2d k) (E3 k) (S3 k) (i9 k) s).trans (E7E k s.1.1 s.1.2.1 s.1.2.2.1 s.1.2.2.2.1 r h)) k
theorem D7J (k:Nat) (x0:(List TQ)):A0 (A1G k x0) (C6j (A0V k) x0):=A0.refl _
theorem E8h (k:Nat):B5 Tryz.prog (D4K (A1G k)):=
 B7 B6 HM B4z (es:=fun k=>D5w (A0V k)) (fun k=>fc ⟨D2r k,fz⟩) Tryz.func176 0 (by kernel_rfl) (fun s=>rfl) (fun k=>[]) (fz) (fun k s0=> .nil) (F:=fun k s=>A1G k s.1.1) (fun k s r h=>(D9A (A0V k) s).trans (D7J k s.1.1 r h)) k
theorem F0x (k:Nat) (x0:(List (List TQ))) (x7:Int) (x8:Int):A0 (m5 (k+1) x0 x7 x8) (A6N (m5 k) (A1G k) x0 x7 x8):=by rw [m5];exact A0.refl _
theorem F3d (k:Nat) (x0:(List (List TQ))):A0 (A5T k x0) (B3O (m5 k) x0):=A0.refl _
theorem F1d (k:Nat):B5 Tryz.prog (D1r (A5T k)):=
 B7 B6 HM B0V (es:=fun k=>C1H (A1G k)) (fun k=>fc ⟨E8h k,fz⟩) Tryz.func216 1 (by kernel_rfl) (fun s=>rfl) (fun k=>C3m (m5 k)) (fc ⟨fun s=>rfl,fz⟩) (fun k s0=> .cons (by kernel_rfl) (by kernel_rfl) (fun s r h=>(E0a (m5 k) (A1G k) s0 s).trans (F0x k s.1.1 s.1.2.1 s.1.2.2.1 r h)) (.nil)) (F:=fun k s=>A5T k s.1.1) (fun k s r h=>(E7R (m5 k) (A1G k) s).trans (F3d k s.1.1 r h)) k
theorem F0e (k:Nat) (x0:(List (List TQ))):A0 (A7c k x0) (C1a (A5T k) x0):=A0.refl _
theorem F3O (k:Nat):B5 Tryz.prog (D4E (A7c k)):=
 B7 B6 HM B5l (es:=fun k=>D1I (A5T k)) (fun k=>fc ⟨F1d k,fz⟩) Tryz.func175 0 (by kernel_rfl) (fun s=>rfl) (fun k=>[]) (fz) (fun k s0=> .nil) (F:=fun k s=>A7c k s.1.1) (fun k s r h=>(F2K (A5T k) s).trans (F0e k s.1.1 r h)) k
theorem E2h (k:Nat) (x0:(List (List TQ))):A0 (A3U k x0) (C2E (A7c k) x0):=A0.refl _
theorem E8F (k:Nat):B5 Tryz.prog (D5j (A3U k)):=
 B7 B6 HM B3y (es:=fun k=>D0C (A7c k)) (fun k=>fc ⟨F3O k,fz⟩) Tryz.func128 0 (by kernel_rfl) (fun s=>rfl) (fun k=>[]) (fz) (fun k s0=> .nil) (F:=fun k s=>A3U k s.1.1) (fun k s r h=>(E2g (A7c k) s).trans (E2h k s.1.1 r h)) k
theorem E8q (k:Nat) (x0:(List (List TQ))):A0 (M7 k x0) (B1V (A3U k) x0):=A0.refl _
theorem B2S (k:Nat):B5 Tryz.prog (A9p (M7 k)):=
 B7 B6 HM B7m (es:=fun k=>D0o (A3U k)) (fun k=>fc ⟨E8F k,fz⟩) Tryz.func108 0 (by kernel_rfl) (fun s=>rfl) (fun k=>[]) (fz) (fun k s0=> .nil) (F:=fun k s=>M7 k s.1.1) (fun k s r h=>(E1K (A3U k) s).trans (E8q k s.1.1 r h)) k
theorem b28 (k:Nat) (x0:(List TQ)) (x1:(List (List TQ))) (x2:(List (List TQ))):A0 (A6Q k x0 x1 x2) (B28 (J2 k) (A1q k) (A0U k) (M7 k) x0 x1 x2):=A0.refl _
theorem D8P (k:Nat):B5 Tryz.prog (D2w (A6Q k)):=
 B7 B6 HM D28 (es:=fun k=>D3b (J2 k) (A1q k) (A0U k) (M7 k)) (fun k=>fc ⟨B1q k,fc ⟨D6G k,fc ⟨C9c k,fc ⟨B2S k,fz⟩⟩⟩⟩) Tryz.func28 0 (by kernel_rfl) (fun s=>rfl) (fun k=>[]) (fz) (fun k s0=> .nil) (F:=fun k s=>A6Q k s.1.1 s.1.2.1 s.1.2.2.1) (fun k s r h=>(e28 (J2 k) (A1q k) (A0U k) (M7 k) s).trans (b28 k s.1.1 s.1.2.1 s.1.2.2.1 r h)) k
theorem F2D (k:Nat) (x0:(List (List TQ))) (x1:(List (List TQ))) (x12:Int) (x13:Int):A0 (t6 (k+1) x0 x1 x12 x13) (A7d (t6 k) (d9 k) x0 x1 x12 x13):=by rw [t6];exact A0.refl _
theorem b29 (k:Nat) (x0:(List (List TQ))) (x1:(List (List TQ))):A0 (S4 k x0 x1) (B29 (t6 k) x0 x1):=A0.refl _
theorem B8u (k:Nat):B5 Tryz.prog (B5e (S4 k)):=
 B7 B6 HM D29 (es:=fun k=>C0Y (d9 k)) (fun k=>fc ⟨D0c k,fz⟩) Tryz.func29 1 (by kernel_rfl) (fun s=>rfl) (fun k=>C7d (t6 k)) (fc ⟨fun s=>rfl,fz⟩) (fun k s0=> .cons (by kernel_rfl) (by kernel_rfl) (fun s r h=>(E3J (t6 k) (d9 k) s0 s).trans (F2D k s.1.1 s.1.2.1 s.1.2.2.1 s.1.2.2.2.1 r h)) (.nil)) (F:=fun k s=>S4 k s.1.1 s.1.2.1) (fun k s r h=>(e29 (t6 k) (d9 k) s).trans (b29 k s.1.1 s.1.2.1 r h)) k
theorem E6d (k:Nat) (x2:(List TQ)) (x13:(List (List TQ))) (x14:Int) (x15:Int) (x3:(List TQ)) (x7:(List (List TQ))):A0 (A3s (k+1) x2 x13 x14 x15 x3 x7) (C6T (A3s k) (E3 k) (S3 k) x2 x13 x14 x15 x3 x7):=by rw [A3s];exact A0.refl _
theorem D6W (k:Nat) (x0:(List TQ)) (x1:(List (List TQ))) (x2:(List TQ)):A0 (A7e k x0 x1 x2) (C2N (A3s k) x0 x1 x2):=A0.refl _
theorem E1N (k:Nat):B5 Tryz.prog (C8j (A7e k)):=
 B7 B6 HM B0x (es:=fun k=>C5j (E3 k) (S3 k)) (fun k=>fc ⟨A6M k,fc ⟨B9f k,fz⟩⟩) Tryz.func131 1 (by kernel_rfl) (fun s=>rfl) (fun k=>C8R (A3s k)) (fc ⟨fun s=>rfl,fz⟩) (fun k s0=> .cons (by kernel_rfl) (by kernel_rfl) (fun s r h=>(E2f (A3s k) (E3 k) (S3 k) s0 s).trans (E6d k s.1.1 s.1.2.1 s.1.2.2.1 s.1.2.2.2.1 s.2.1 s.2.2.1 r h)) (.nil)) (F:=fun k s=>A7e k s.1.1 s.1.2.1 s.1.2.2.1) (fun k s r h=>(D7s (A3s k) (E3 k) (S3 k) s).trans (D6W k s.1.1 s.1.2.1 s.1.2.2.1 r h)) k
theorem F3J (k:Nat) (x0:(List TQ)) (x1:(List (List TQ))):A0 (A5Y k x0 x1) (B9M (A1q k) (A7e k) x0 x1):=A0.refl _
theorem E9a (k:Nat):B5 Tryz.prog (D4M (A5Y k)):=
 B7 B6 HM B4X (es:=fun k=>D3c (A1q k) (A7e k)) (fun k=>fc ⟨D6G k,fc ⟨E1N k,fz⟩⟩) Tryz.func110 0 (by kernel_rfl) (fun s=>rfl) (fun k=>[]) (fz) (fun k s0=> .nil) (F:=fun k s=>A5Y k s.1.1 s.1.2.1) (fun k s r h=>(E0A (A1q k) (A7e k) s).trans (F3J k s.1.1 s.1.2.1 r h)) k
theorem E1C (k:Nat) (x0:(List (List TQ))):A0 (A6x k x0) (C5d x0):=A0.refl _
theorem E1a (k:Nat):B5 Tryz.prog (D5O (A6x k)):=
 B7 B6 HM B5S (es:=fun k=>[]) (fun k=>fz) Tryz.func112 0 (by kernel_rfl) (fun s=>rfl) (fun k=>[]) (fz) (fun k s0=> .nil) (F:=fun k s=>A6x k s.1.1) (fun k s r h=>(E2E s).trans (E1C k s.1.1 r h)) k
theorem F1b (k:Nat) (x0:((List (List TQ))×Unit)):A0 (A5A k x0) (C7p (M7 k) (A6x k) x0):=A0.refl _
theorem F0g (k:Nat):B5 Tryz.prog (D3l (A5A k)):=
 B7 B6 HM B7Y (es:=fun k=>D4A (M7 k) (A6x k)) (fun k=>fc ⟨B2S k,fc ⟨E1a k,fz⟩⟩) Tryz.func111 0 (by kernel_rfl) (fun s=>rfl) (fun k=>[]) (fz) (fun k s0=> .nil) (F:=fun k s=>A5A k s.1.1) (fun k s r h=>(D7a (M7 k) (A6x k) s).trans (F1b k s.1.1 r h)) k
theorem E6a (k:Nat) (x3:(List TQ)) (x9:((List (List TQ))×(List (List TQ)))):A0 (A4H (k+1) x3 x9) (C2C (A4H k) (K8 k) (A0U k) (A5Y k) (A5A k) x3 x9):=by rw [A4H];exact A0.refl _
theorem b31 (k:Nat) (x0:(List TQ)) (x1:(List (List TQ))) (x2:(List (List TQ))):A0 (A6z k x0 x1 x2) (B31 (A4H k) (J2 k) x0 x1 x2):=A0.refl _
theorem E0l (k:Nat):B5 Tryz.prog (D3r (A6z k)):=
 B7 B6 HM D31 (es:=fun k=>C3q (J2 k) (K8 k) (A0U k) (A5Y k) (A5A k)) (fun k=>fc ⟨B1q k,fc ⟨B6V k,fc ⟨C9c k,fc ⟨E9a k,fc ⟨F0g k,fz⟩⟩⟩⟩⟩) Tryz.func31 1 (by kernel_rfl) (fun s=>rfl) (fun k=>C3u (A4H k)) (fc ⟨fun s=>rfl,fz⟩) (fun k s0=> .cons (by kernel_rfl) (by kernel_rfl) (fun s r h=>(E8D (A4H k) (J2 k) (K8 k) (A0U k) (A5Y k) (A5A k) s0 s).trans (E6a k s.2.1 s.2.2.1 r h)) (.nil)) (F:=fun k s=>A6z k s.1.1 s.1.2.1 s.1.2.2.1) (fun k s r h=>(e31 (A4H k) (J2 k) (K8 k) (A0U k) (A5Y k) (A5A k) s).trans (b31 k s.1.1 s.1.2.1 s.1.2.2.1 r h)) k
theorem D7B (k:Nat) (x0:(List (List TQ))) (x1:Int):A0 (A5E k x0 x1) (B9S x0 x1):=A0.refl _
theorem E0M (k:Nat):B5 Tryz.prog (D1x (A5E k)):=
 B7 B6 HM B7U (es:=fun k=>[]) (fun k=>fz) Tryz.func174 0 (by kernel_rfl) (fun s=>rfl) (fun k=>[]) (fz) (fun k s0=> .nil) (F:=fun k s=>A5E k s.1.1 s.1.2.1) (fun k s r h=>(D7p s).trans (D7B k s.1.1 s.1.2.1 r h)) k
theorem F1t (k:Nat) (x0:(List (List TQ))) (x1:(List (List TQ))) (x14:Int) (x15:Int) (x5:(List (List TQ))):A0 (A3a (k+1) x0 x1 x14 x15 x5) (C2H (A3a k) (K6 k) (E3 k) (A5E k) x0 x1 x14 x15 x5):=by rw [A3a];exact A0.refl _
theorem E3o (k:Nat) (x0:(List (List TQ))) (x1:(List (List TQ))):A0 (A5X k x0 x1) (C6u (A3a k) x0 x1):=A0.refl _
theorem F2J (k:Nat):B5 Tryz.prog (D5T (A5X k)):=
 B7 B6 HM A9Q (es:=fun k=>C3z (K6 k) (E3 k) (A5E k)) (fun k=>fc ⟨B4B k,fc ⟨A6M k,fc ⟨E0M k,fz⟩⟩⟩) Tryz.func126 1 (by kernel_rfl) (fun s=>rfl) (fun k=>C7A (A3a k)) (fc ⟨fun s=>rfl,fz⟩) (fun k s0=> .cons (by kernel_rfl) (by kernel_rfl) (fun s r h=>(E2I (A3a k) (K6 k) (E3 k) (A5E k) s0 s).trans (F1t k s.1.1 s.1.2.1 s.1.2.2.1 s.1.2.2.2.1 s.2.1 r h)) (.nil)) (F:=fun k s=>A5X k s.1.1 s.1.2.1) (fun k s r h=>(D8E (A3a k) (K6 k) (E3 k) (A5E k) s).trans (E3o k s.1.1 s.1.2.1 r h)) k
theorem E3b (k:Nat) (x2:(List (List TQ))) (x28:(List (List TQ))) (x29:Int) (x30:Int) (x3:(List TQ)) (x7:(List (List TQ))):A0 (A2Q (k+1) x2 x28 x29 x30 x3 x7) (B8z (A1f k) (A1W k) x2 x28 x29 x30 x3 x7):=by rw [A2Q];exact A0.refl _
theorem F0Z (k:Nat) (x2:(List (List TQ))) (x8:Int) (x9:(List TQ)) (x28:(List (List TQ))) (x29:Int) (x30:Int) (x35:(List (List TQ))) (x36:Int) (x37:Int) (x3:(List TQ)) (x7:(List (List TQ))):A0 (A1f (k+1) x2 x8 x9 x28 x29 x30 x35 x36 x37 x3 x7) (C2z (A2Q k) (A1f k) (K6 k) (L7 k) x2 x8 x9 x28 x29 x30 x35 x36 x37 x3 x7):=by rw [A1f];exact A0.refl _
theorem D6p (k:Nat) (x60:Int) (x61:Int) (x3:(List TQ)) (x7:(List (List TQ))):A0 (A1W (k+1) x60 x61 x3 x7) (C6R (A1W k) (E3 k) (R2 k) x60 x61 x3 x7):=by rw [A1W];exact A0.refl _
theorem E0X (k:Nat) (x0:(List TQ)) (x1:(List (List TQ))) (x2:(List (List TQ))):A0 (A4U k x0 x1 x2) (C0P (A2Q k) x0 x1 x2):=A0.refl _
theorem E9Y (k:Nat):B5 Tryz.prog (C8q (A4U k)):=
 B7 B6 HM A2y (es:=fun k=>B2E (K6 k) (L7 k) (E3 k) (R2 k)) (fun k=>fc ⟨B4B k,fc ⟨B7f k,fc ⟨A6M k,fc ⟨C4B k,fz⟩⟩⟩⟩) Tryz.func127 3 (by kernel_rfl) (fun s=>rfl) (fun k=>B3G (A2Q k) (A1f k) (A1W k)) (fc ⟨fun s=>rfl,fc ⟨fun s=>rfl,fc ⟨fun s=>rfl,fz⟩⟩⟩) (fun k s0=> .cons (by kernel_rfl) (by kernel_rfl) (fun s r h=>(F2Q (A2Q k) (A1f k) (A1W k) (K6 k) (L7 k) (E3 k) (R2 k) s0 s).trans (E3b k s.1.1 s.1.2.1 s.1.2.2.1 s.1.2.2.2.1 s.2.1 s.2.2.1 r h)) (.cons (by kernel_rfl) (by kernel_rfl) (fun s r h=>(E9l (A2Q k) (A1f k) (A1W k) (K6 k) (L7 k) (E3 k) (R2 k) s0 s).trans (F0Z k s.1.1 s.1.2.1 s.1.2.2.1 s.1.2.2.2.1 s.1.2.2.2.2.1 s.1.2.2.2.2.2.1 s.1.2.2.2.2.2.2.1 s.1.2.2.2.2.2.2.2.1 s.1.2.2.2.2.2.2.2.2.1 s.2.1 s.2.2.1 r h)) (.cons (by kernel_rfl) (by kernel_rfl) (fun s r h=>(D7M (A2Q k) (A1f k) (A1W k) (K6 k) (L7 k) (E3 k) (R2 k) s0 s).trans (D6p k s.1.1 s.1.2.1 s.2.1 s.2.2.1 r h)) (.nil)))) (F:=fun k s=>A4U k s.1.1 s.1.2.1 s.1.2.2.1) (fun k s r h=>(D8d (A2Q k) (A1f k) (A1W k) (K6 k) (L7 k) (E3 k) (R2 k) s).trans (E0X k s.1.1 s.1.2.1 s.1.2.2.1 r h)) k
theorem E2L (k:Nat) (x1:(List (List TQ))) (x2:(List TQ)) (x4:(List (List TQ))) (x5:(List (List TQ))) (x6:Int):A0 (A3w (k+1) x1 x2 x4 x5 x6) (B8W (A3w k) (E3 k) (A5X k) (A4U k) x1 x2 x4 x5 x6):=by rw [A3w];exact A0.refl _
theorem D8j (k:Nat) (x0:(List TQ)) (x1:(List (List TQ))) (x2:(List TQ)):A0 (A7C k x0 x1 x2) (C7D (A3w k) (K8 k) (E3 k) x0 x1 x2):=A0.refl _
theorem D8J (k:Nat):B5 Tryz.prog (D4q (A7C k)):=
 B7 B6 HM A9Y (es:=fun k=>C7I (K8 k) (E3 k) (A5X k) (A4U k)) (fun k=>fc ⟨B6V k,fc ⟨A6M k,fc ⟨F2J k,fc ⟨E9Y k,fz⟩⟩⟩⟩) Tryz.func125 1 (by kernel_rfl) (fun s=>rfl) (fun k=>C7P (A3w k)) (fc ⟨fun s=>rfl,fz⟩) (fun k s0=> .cons (by kernel_rfl) (by kernel_rfl) (fun s r h=>(F2U (A3w k) (K8 k) (E3 k) (A5X k) (A4U k) s0 s).trans (E2L k s.1.1 s.1.2.1 s.1.2.2.1 s.1.2.2.2.1 s.1.2.2.2.2.1 r h)) (.nil)) (F:=fun k s=>A7C k s.1.1 s.1.2.1 s.1.2.2.1) (fun k s r h=>(E1m (A3w k) (K8 k) (E3 k) (A5X k) (A4U k) s).trans (D8j k s.1.1 s.1.2.1 s.1.2.2.1 r h)) k
theorem E3T (k:Nat) (x0:((List TQ)×(List (List TQ))×(List TQ)×Unit)):A0 (A7H k x0) (C6V (M7 k) (A7C k) x0):=A0.refl _
theorem F1N (k:Nat):B5 Tryz.prog (D0t (A7H k)):=
 B7 B6 HM B6j (es:=fun k=>D0I (M7 k) (A7C k)) (fun k=>fc ⟨B2S k,fc ⟨D8J k,fz⟩⟩) Tryz.func111 0 (by kernel_rfl) (fun s=>rfl) (fun k=>[]) (fz) (fun k s0=> .nil) (F:=fun k s=>A7H k s.1.1) (fun k s r h=>(F3e (M7 k) (A7C k) s).trans (E3T k s.1.1 r h)) k
theorem b50 (k:Nat) (x0:(List TQ)) (x1:(List (List TQ))) (x2:(List TQ)):A0 (A6w k x0 x1 x2) (B50 (J2 k) (A7H k) (c7 k) x0 x1 x2):=A0.refl _
theorem E3s (k:Nat):B5 Tryz.prog (D1k (A6w k)):=
 B7 B6 HM D50 (es:=fun k=>D5p (J2 k) (A7H k) (c7 k)) (fun k=>fc ⟨B1q k,fc ⟨F1N k,fc ⟨D4S k,fz⟩⟩⟩) Tryz.func50 0 (by kernel_rfl) (fun s=>rfl) (fun k=>[]) (fz) (fun k s0=> .nil) (F:=fun k s=>A6w k s.1.1 s.1.2.1 s.1.2.2.1) (fun k s r h=>(e50 (J2 k) (A7H k) (c7 k) s).trans (b50 k s.1.1 s.1.2.1 s.1.2.2.1 r h)) k
theorem b16 (k:Nat):A0 (A2v k) (B16 (A7Z k) (d9 k) (A7L k) (A6Q k) (S4 k) (A6z k) (A6w k)):=A0.refl _
theorem E5Y (k:Nat):B5 Tryz.prog (D5o (A2v k)):=
 B7 B6 HM D16 (es:=fun k=>D1S (A7Z k) (d9 k) (A7L k) (A6Q k) (S4 k) (A6z k) (A6w k)) (fun k=>fc ⟨F0i k,fc ⟨D0c k,fc ⟨E3u k,fc ⟨D8P k,fc ⟨B8u k,fc ⟨E0l k,fc ⟨E3s k,fz⟩⟩⟩⟩⟩⟩⟩) Tryz.func16 0 (by kernel_rfl) (fun s=>rfl) (fun k=>[]) (fz) (fun k s0=> .nil) (F:=fun k s=>A2v k) (fun k s r h=>(e16 (A7Z k) (d9 k) (A7L k) (A6Q k) (S4 k) (A6z k) (A6w k) s).trans (b16 k r h)) k
theorem D8Z (k:Nat) (x5:(List Int)) (x6:Int) (x7:Int):A0 (z8 (k+1) x5 x6 x7) (A6c (z8 k) x5 x6 x7):=by rw [z8];exact A0.refl _
theorem b34 (k:Nat) (x0:(List Int)):A0 (A2e k x0) (B34 (z8 k) x0):=A0.refl _
theorem E1e (k:Nat):B5 Tryz.prog (D1t (A2e k)):=
 B7 B6 HM D34 (es:=fun k=>[]) (fun k=>fz) Tryz.func34 1 (by kernel_rfl) (fun s=>rfl) (fun k=>C0m (z8 k)) (fc ⟨fun s=>rfl,fz⟩) (fun k s0=> .cons (by kernel_rfl) (by kernel_rfl) (fun s r h=>(D6T (z8 k) s0 s).trans (D8Z k s.1.1 s.1.2.1 s.1.2.2.1 r h)) (.nil)) (F:=fun k s=>A2e k s.1.1) (fun k s r h=>(e34 (z8 k) s).trans (b34 k s.1.1 r h)) k
theorem F1r (k:Nat) (x6:(List TQ)) (x7:Int) (x8:Int):A0 (w8 (k+1) x6 x7 x8) (A5p (w8 k) (J9 k) x6 x7 x8):=by rw [w8];exact A0.refl _
theorem E0R (k:Nat) (x0:(List TQ)):A0 (A0t k x0) (B3K (w8 k) x0):=A0.refl _
theorem E1t (k:Nat):B5 Tryz.prog (D1M (A0t k)):=
 B7 B6 HM B0a (es:=fun k=>C6p (J9 k)) (fun k=>fc ⟨C8u k,fz⟩) Tryz.func117 1 (by kernel_rfl) (fun s=>rfl) (fun k=>C4V (w8 k)) (fc ⟨fun s=>rfl,fz⟩) (fun k s0=> .cons (by kernel_rfl) (by kernel_rfl) (fun s r h=>(E3f (w8 k) (J9 k) s0 s).trans (F1r k s.1.1 s.1.2.1 s.1.2.2.1 r h)) (.nil)) (F:=fun k s=>A0t k s.1.1) (fun k s r h=>(F2O (w8 k) (J9 k) s).trans (E0R k s.1.1 r h)) k
theorem F1i (k:Nat) (x9:(List (List TQ))) (x10:Int) (x11:Int):A0 (A0P (k+1) x9 x10 x11) (A7X (A0P k) (A0t k) x9 x10 x11):=by rw [A0P];exact A0.refl _
theorem b44 (k:Nat) (x0:(List (List TQ))):A0 (W0 k x0) (B44 (A0P k) x0):=A0.refl _
theorem D2J (k:Nat):B5 Tryz.prog (C7X (W0 k)):=
 B7 B6 HM D44 (es:=fun k=>C5Q (A0t k)) (fun k=>fc ⟨E1t k,fz⟩) Tryz.func44 1 (by kernel_rfl) (fun s=>rfl) (fun k=>C2J (A0P k)) (fc ⟨fun s=>rfl,fz⟩) (fun k s0=> .cons (by kernel_rfl) (by kernel_rfl) (fun s r h=>(D7D (A0P k) (A0t k) s0 s).trans (F1i k s.1.1 s.1.2.1 s.1.2.2.1 r h)) (.nil)) (F:=fun k s=>W0 k s.1.1) (fun k s r h=>(e44 (A0P k) (A0t k) s).trans (b44 k s.1.1 r h)) k
theorem D7r (k:Nat) (x0:TI):A0 (A2f k x0) (A9I x0):=A0.refl _
theorem D7G (k:Nat):B5 Tryz.prog (D1p (A2f k)):=
 B7 B6 HM B6M (es:=fun k=>[]) (fun k=>fz) Tryz.func159 0 (by kernel_rfl) (fun s=>rfl) (fun k=>[]) (fz) (fun k s0=> .nil) (F:=fun k s=>A2f k s.1.1) (fun k s r h=>(E9X s).trans (D7r k s.1.1 r h)) k
theorem E4e (k:Nat) (x0:Bool) (x1:ByteArray):A0 (A0j k x0 x1) (C2K x0 x1):=by
 show A0 (All.galoisref02_Make.f x0 x1) _
 unfold All.galoisref02_Make.f;unfold C2K;(try simp only [All.integer_zero.f,All.exact_stepAt.f,All.S24.f0,All.S24.f1,All.rd_T24,All.z24]);exact BR
theorem D2a (k:Nat):B5 Tryz.prog (C7L (A0j k)):=
 B7 B6 HM B6h (es:=fun k=>[]) (fun k=>fz) Tryz.func198 0 (by kernel_rfl) (fun s=>rfl) (fun k=>[]) (fz) (fun k s0=> .nil) (F:=fun k s=>A0j k s.1.1 s.1.2.1) (fun k s r h=>(D7u s).trans (E4e k s.1.1 s.1.2.1 r h)) k
noncomputable abbrev A3S (k:Nat) (x8:Int) (x5:(List Int)) (x6:(List Int)) (x7:(List Int)):Option f8:=All.galoisref01_Mul.l0 k x5 x6 x7 x8
noncomputable abbrev A3y (k:Nat) (x8:Int) (x9:Int) (x10:Int) (x5:(List Int)) (x6:(List Int)) (x7:(List Int)):Option f8:=All.galoisref01_Mul.l1 k x5 x6 x7 x8 x9 x10
theorem E9q (k:Nat) (x8:Int) (x5:(List Int)) (x6:(List Int)) (x7:(List Int)):A0 (All.galoisref01_Mul.l0 (k+1) x5 x6 x7 x8) (C2Y (A3y k) (N0 k) x8 x5 x6 x7):=by rw [All.galoisref01_Mul.l0];unfold C2Y;(try simp only [A3S,A3y,N0,Q9,All.integer_zero.f,All.exact_stepAt.f,All.S24.f0,All.S24.f1,All.rd_T24,All.z24]);exact BR
theorem F1D (k:Nat) (x8:Int) (x9:Int) (x10:Int) (x5:(List Int)) (x6:(List Int)) (x7:(List Int)):A0 (All.galoisref01_Mul.l1 (k+1) x5 x6 x7 x8 x9 x10) (C2q (A3S k) (A3y k) x8 x9 x10 x5 x6 x7):=by rw [All.galoisref01_Mul.l1];unfold C2q;(try simp only [A3S,A3y,N0,Q9,All.integer_zero.f,All.exact_stepAt.f,All.S24.f0,All.S24.f1,All.rd_T24,All.z24]);exact BR
theorem F0D (k:Nat) (x0:ByteArray) (x1:ByteArray):A0 (A7W k x0 x1) (C6I (A3S k) (Q9 k) x0 x1):=by
 show A0 (All.galoisref01_Mul.f k x0 x1) _
 unfold All.galoisref01_Mul.f;unfold C6I;(try simp only [A3S,A3y,N0,Q9,All.integer_zero.f,All.exact_stepAt.f,All.S24.f0,All.S24.f1,All.rd_T24,All.z24]);exact BR
theorem E0Z (k:Nat):B5 Tryz.prog (D0B (A7W k)):=
 B7 B6 HM A4d (es:=fun k=>B5Q (N0 k) (Q9 k)) (fun k=>fc ⟨C3X k,fc ⟨D3e k,fz⟩⟩) Tryz.func202 2 (by kernel_rfl) (fun s=>rfl) (fun k=>B5J (A3S k) (A3y k)) (fc ⟨fun s=>rfl,fc ⟨fun s=>rfl,fz⟩⟩) (fun k s0=> .cons (by kernel_rfl) (by kernel_rfl) (fun s r h=>(D8g (A3S k) (A3y k) (N0 k) (Q9 k) s0 s).trans (E9q k s.1.1 s.2.1 s.2.2.1 s.2.2.2.1 r h)) (.cons (by kernel_rfl) (by kernel_rfl) (fun s r h=>(D8V (A3S k) (A3y k) (N0 k) (Q9 k) s0 s).trans (F1D k s.1.1 s.1.2.1 s.1.2.2.1 s.2.1 s.2.2.1 s.2.2.2.1 r h)) (.nil))) (F:=fun k s=>A7W k s.1.1 s.1.2.1) (fun k s r h=>(E8n (A3S k) (A3y k) (N0 k) (Q9 k) s).trans (F0D k s.1.1 s.1.2.1 r h)) k
theorem D8W (k:Nat) (x0:TI) (x1:TI):A0 (a8 k x0 x1) (B9w (A0j k) (A7W k) x0 x1):=by
 show A0 (All.galoisref02_Mul.f k x0.1 x0.2 x1.1 x1.2) _
 unfold All.galoisref02_Mul.f;unfold B9w;(try simp only [A0j,A7W,All.integer_zero.f,All.exact_stepAt.f,All.S24.f0,All.S24.f1,All.rd_T24,All.z24]);exact BR
theorem C9Y (k:Nat):B5 Tryz.prog (C3H (a8 k)):=
 B7 B6 HM B3b (es:=fun k=>D5f (A0j k) (A7W k)) (fun k=>fc ⟨D2a k,fc ⟨E0Z k,fz⟩⟩) Tryz.func161 0 (by kernel_rfl) (fun s=>rfl) (fun k=>[]) (fz) (fun k s0=> .nil) (F:=fun k s=>a8 k s.1.1 s.1.2.1) (fun k s r h=>(E1B (A0j k) (A7W k) s).trans (D8W k s.1.1 s.1.2.1 r h)) k
theorem D6w (k:Nat) (x0:TQ):A0 (b6 k x0) (A7D x0):=A0.refl _
theorem C9b (k:Nat):B5 Tryz.prog (C5R (b6 k)):=
 B7 B6 HM B4E (es:=fun k=>[]) (fun k=>fz) Tryz.func162 0 (by kernel_rfl) (fun s=>rfl) (fun k=>[]) (fz) (fun k s0=> .nil) (F:=fun k s=>b6 k s.1.1) (fun k s r h=>(E7G s).trans (D6w k s.1.1 r h)) k
theorem E1n (k:Nat) (x0:TI) (x1:TI):A0 (A2O k x0 x1) (B6E (U7 k) (A0j k) (j6 k) x0 x1):=A0.refl _
theorem D9w (k:Nat):B5 Tryz.prog (D0i (A2O k)):=
 B7 B6 HM B6W (es:=fun k=>D0x (U7 k) (A0j k) (j6 k)) (fun k=>fc ⟨D0d k,fc ⟨D2a k,fc ⟨D2k k,fz⟩⟩⟩) Tryz.func163 0 (by kernel_rfl) (fun s=>rfl) (fun k=>[]) (fz) (fun k s0=> .nil) (F:=fun k s=>A2O k s.1.1 s.1.2.1) (fun k s r h=>(F2n (U7 k) (A0j k) (j6 k) s).trans (E1n k s.1.1 s.1.2.1 r h)) k
theorem D6e (k:Nat) (x0:TQ) (x1:TQ):A0 (X2 k x0 x1) (A9z (A2f k) (a8 k) (b6 k) (A2O k) x0 x1):=A0.refl _
theorem E4v (k:Nat):B5 Tryz.prog (D4Z (X2 k)):=
 B7 B6 HM B5M (es:=fun k=>D1V (A2f k) (a8 k) (b6 k) (A2O k)) (fun k=>fc ⟨D7G k,fc ⟨C9Y k,fc ⟨C9b k,fc ⟨D9w k,fz⟩⟩⟩⟩) Tryz.func118 0 (by kernel_rfl) (fun s=>rfl) (fun k=>[]) (fz) (fun k s0=> .nil) (F:=fun k s=>X2 k s.1.1 s.1.2.1) (fun k s r h=>(F1e (A2f k) (a8 k) (b6 k) (A2O k) s).trans (D6e k s.1.1 s.1.2.1 r h)) k
theorem E0h (k:Nat) (x8:(List TQ)) (x9:Int) (x10:Int) (x3:TQ) (x5:(List TQ)):A0 (q8 (k+1) x8 x9 x10 x3 x5) (A6Y (q8 k) (S6 k) (X2 k) x8 x9 x10 x3 x5):=by rw [q8];exact A0.refl _
theorem b98 (k:Nat) (x0:(List TQ)) (x1:TQ):A0 (A0l k x0 x1) (B98 (q8 k) x0 x1):=A0.refl _
theorem E9t (k:Nat):B5 Tryz.prog (D0D (A0l k)):=
 B7 B6 HM D98 (es:=fun k=>B8h (S6 k) (X2 k)) (fun k=>fc ⟨C0W k,fc ⟨E4v k,fz⟩⟩) Tryz.func98 1 (by kernel_rfl) (fun s=>rfl) (fun k=>C1P (q8 k)) (fc ⟨fun s=>rfl,fz⟩) (fun k s0=> .cons (by kernel_rfl) (by kernel_rfl) (fun s r h=>(F0y (q8 k) (S6 k) (X2 k) s0 s).trans (E0h k s.1.1 s.1.2.1 s.1.2.2.1 s.2.1 s.2.2.1 r h)) (.nil)) (F:=fun k s=>A0l k s.1.1 s.1.2.1) (fun k s r h=>(e98 (q8 k) (S6 k) (X2 k) s).trans (b98 k s.1.1 s.1.2.1 r h)) k
theorem E1D (k:Nat) (x0:(List (List TQ))) (x3:Int):A0 (l9 (k+1) x0 x3) (A6t (l9 k) x0 x3):=by rw [l9];exact A0.refl _
theorem E3e (k:Nat) (x0:(List (List TQ))):A0 (A0n k x0) (B2l (l9 k) x0):=A0.refl _
theorem D6R (k:Nat):B5 Tryz.prog (D2I (A0n k)):=
 B7 B6 HM B0u (es:=fun k=>[]) (fun k=>fz) Tryz.func104 1 (by kernel_rfl) (fun s=>rfl) (fun k=>B9h (l9 k)) (fc ⟨fun s=>rfl,fz⟩) (fun k s0=> .cons (by kernel_rfl) (by kernel_rfl) (fun s r h=>(E4V (l9 k) s0 s).trans (E1D k s.1.1 s.1.2.1 r h)) (.nil)) (F:=fun k s=>A0n k s.1.1) (fun k s r h=>(D7I (l9 k) s).trans (E3e k s.1.1 r h)) k
theorem F2t (k:Nat) (x0:(List (List TQ))) (x4:Int) (x3:(List (List TQ))):A0 (b9 (k+1) x0 x4 x3) (A3u (b9 k) (J7 k) (A0l k) (A0n k) x0 x4 x3):=by rw [b9];exact A0.refl _
theorem b74 (k:Nat) (x0:(List (List TQ))):A0 (A4S k x0) (B74 (b9 k) x0):=A0.refl _
theorem D7N (k:Nat):B5 Tryz.prog (D0F (A4S k)):=
 B7 B6 HM D74 (es:=fun k=>C2r (J7 k) (A0l k) (A0n k)) (fun k=>fc ⟨B5r k,fc ⟨E9t k,fc ⟨D6R k,fz⟩⟩⟩) Tryz.func74 1 (by kernel_rfl) (fun s=>rfl) (fun k=>C2f (b9 k)) (fc ⟨fun s=>rfl,fz⟩) (fun k s0=> .cons (by kernel_rfl) (by kernel_rfl) (fun s r h=>(E8s (b9 k) (J7 k) (A0l k) (A0n k) s0 s).trans (F2t k s.1.1 s.1.2.1 s.2.1 r h)) (.nil)) (F:=fun k s=>A4S k s.1.1) (fun k s r h=>(e74 (b9 k) (J7 k) (A0l k) (A0n k) s).trans (b74 k s.1.1 r h)) k
theorem b73 (k:Nat) (x0:(List (List TQ))):A0 (A3N k x0) (B73 (A4S k) x0):=A0.refl _
theorem D9p (k:Nat):B5 Tryz.prog (D1e (A3N k)):=
 B7 B6 HM D73 (es:=fun k=>D2A (A4S k)) (fun k=>fc ⟨D7N k,fz⟩) Tryz.func73 0 (by kernel_rfl) (fun s=>rfl) (fun k=>[]) (fz) (fun k s0=> .nil) (F:=fun k s=>A3N k s.1.1) (fun k s r h=>(e73 (A4S k) s).trans (b73 k s.1.1 r h)) k
theorem E0B (k:Nat) (x0:(List (List TQ))) (x1:Int) (x2:Int) (x3:((List (List TQ))×Unit)):A0 (A2a k x0 x1 x2 x3) (A6E (S4 k) (W0 k) (A3N k) x0 x1 x2 x3):=A0.refl _
theorem E6k (k:Nat):B5 Tryz.prog (C9T (A2a k)):=
 B7 B6 HM B4g (es:=fun k=>D4f (S4 k) (W0 k) (A3N k)) (fun k=>fc ⟨B8u k,fc ⟨D2J k,fc ⟨D9p k,fz⟩⟩⟩) Tryz.func38 0 (by kernel_rfl) (fun s=>rfl) (fun k=>[]) (fz) (fun k s0=> .nil) (F:=fun k s=>A2a k s.1.1 s.1.2.1 s.1.2.2.1 s.1.2.2.2.1) (fun k s r h=>(E5v (S4 k) (W0 k) (A3N k) s).trans (E0B k s.1.1 s.1.2.1 s.1.2.2.1 s.1.2.2.2.1 r h)) k
theorem b95 (k:Nat) (x0:TQ):A0 (A1M k x0) (B95 (S6 k) x0):=A0.refl _
theorem E8c (k:Nat):B5 Tryz.prog (D4u (A1M k)):=
 B7 B6 HM D95 (es:=fun k=>D4J (S6 k)) (fun k=>fc ⟨C0W k,fz⟩) Tryz.func95 0 (by kernel_rfl) (fun s=>rfl) (fun k=>[]) (fz) (fun k s0=> .nil) (F:=fun k s=>A1M k s.1.1) (fun k s r h=>(e95 (S6 k) s).trans (b95 k s.1.1 r h)) k
theorem E9D (k:Nat) (x6:(List TQ)) (x7:Int) (x8:Int) (x3:(List (List TQ))):A0 (A0I (k+1) x6 x7 x8 x3) (A7K (A0I k) (A1M k) x6 x7 x8 x3):=by rw [A0I];exact A0.refl _
theorem b76 (k:Nat) (x0:(List TQ)):A0 (j5 k x0) (B76 (A0I k) x0):=A0.refl _
theorem D2s (k:Nat):B5 Tryz.prog (C4W (j5 k)):=
 B7 B6 HM D76 (es:=fun k=>C0u (A1M k)) (fun k=>fc ⟨E8c k,fz⟩) Tryz.func76 1 (by kernel_rfl) (fun s=>rfl) (fun k=>C5E (A0I k)) (fc ⟨fun s=>rfl,fz⟩) (fun k s0=> .cons (by kernel_rfl) (by kernel_rfl) (fun s r h=>(F0v (A0I k) (A1M k) s0 s).trans (E9D k s.1.1 s.1.2.1 s.1.2.2.1 s.2.1 r h)) (.nil)) (F:=fun k s=>j5 k s.1.1) (fun k s r h=>(e76 (A0I k) (A1M k) s).trans (b76 k s.1.1 r h)) k
theorem b75 (k:Nat) (x0:(List TQ)):A0 (A2h k x0) (B75 (j5 k) x0):=A0.refl _
theorem E0c (k:Nat):B5 Tryz.prog (D4z (A2h k)):=
 B7 B6 HM D75 (es:=fun k=>D0S (j5 k)) (fun k=>fc ⟨D2s k,fz⟩) Tryz.func75 0 (by kernel_rfl) (fun s=>rfl) (fun k=>[]) (fz) (fun k s0=> .nil) (F:=fun k s=>A2h k s.1.1) (fun k s r h=>(e75 (j5 k) s).trans (b75 k s.1.1 r h)) k
theorem D8I (k:Nat) (x0:(List (List TQ))) (x1:Int) (x2:Int) (x3:((List TQ)×Unit)):A0 (A1N k x0 x1 x2 x3) (A5i (S4 k) (W0 k) (A2h k) x0 x1 x2 x3):=A0.refl _
theorem E7o (k:Nat):B5 Tryz.prog (D3J (A1N k)):=
 B7 B6 HM B6P (es:=fun k=>C9z (S4 k) (W0 k) (A2h k)) (fun k=>fc ⟨B8u k,fc ⟨D2J k,fc ⟨E0c k,fz⟩⟩⟩) Tryz.func38 0 (by kernel_rfl) (fun s=>rfl) (fun k=>[]) (fz) (fun k s0=> .nil) (F:=fun k s=>A1N k s.1.1 s.1.2.1 s.1.2.2.1 s.1.2.2.2.1) (fun k s r h=>(F0E (S4 k) (W0 k) (A2h k) s).trans (D8I k s.1.1 s.1.2.1 s.1.2.2.1 s.1.2.2.2.1 r h)) k
theorem E8B (k:Nat) (x8:(List TQ)) (x9:Int) (x10:Int) (x2:(List (List TQ))):A0 (l8 (k+1) x8 x9 x10 x2) (A6o (l8 k) (D8 k) (E3 k) x8 x9 x10 x2):=by rw [l8];exact A0.refl _
theorem D9d (k:Nat) (x0:(List TQ)):A0 (A4z k x0) (B3F (l8 k) x0):=A0.refl _
theorem E9n (k:Nat):B5 Tryz.prog (C8V (A4z k)):=
 B7 B6 HM B0Y (es:=fun k=>C7k (D8 k) (E3 k)) (fun k=>fc ⟨A4h k,fc ⟨A6M k,fz⟩⟩) Tryz.func121 1 (by kernel_rfl) (fun s=>rfl) (fun k=>C6Q (l8 k)) (fc ⟨fun s=>rfl,fz⟩) (fun k s0=> .cons (by kernel_rfl) (by kernel_rfl) (fun s r h=>(D9T (l8 k) (D8 k) (E3 k) s0 s).trans (E8B k s.1.1 s.1.2.1 s.1.2.2.1 s.2.1 r h)) (.nil)) (F:=fun k s=>A4z k s.1.1) (fun k s r h=>(D6Q (l8 k) (D8 k) (E3 k) s).trans (D9d k s.1.1 r h)) k
theorem D9u (k:Nat) (x0:((List TQ)×Unit)):A0 (A1C k x0) (B9N (M7 k) (A4z k) x0):=A0.refl _
theorem E9R (k:Nat):B5 Tryz.prog (D5J (A1C k)):=
 B7 B6 HM B5O (es:=fun k=>D5q (M7 k) (A4z k)) (fun k=>fc ⟨B2S k,fc ⟨E9n k,fz⟩⟩) Tryz.func111 0 (by kernel_rfl) (fun s=>rfl) (fun k=>[]) (fz) (fun k s0=> .nil) (F:=fun k s=>A1C k s.1.1) (fun k s r h=>(E4Z (M7 k) (A4z k) s).trans (D9u k s.1.1 r h)) k
theorem b46 (k:Nat) (x0:(List TQ)) (x1:(List TQ)):A0 (A0e k x0 x1) (B46 (A1C k) (P6 k) (R8 k) x0 x1):=A0.refl _
theorem E1E (k:Nat):B5 Tryz.prog (C8p (A0e k)):=
 B7 B6 HM D46 (es:=fun k=>D1g (A1C k) (P6 k) (R8 k)) (fun k=>fc ⟨E9R k,fc ⟨C4y k,fc ⟨C2y k,fz⟩⟩⟩) Tryz.func46 0 (by kernel_rfl) (fun s=>rfl) (fun k=>[]) (fz) (fun k s0=> .nil) (F:=fun k s=>A0e k s.1.1 s.1.2.1) (fun k s r h=>(e46 (A1C k) (P6 k) (R8 k) s).trans (b46 k s.1.1 s.1.2.1 r h)) k
theorem D8L (k:Nat) (x0:(List (List TQ))) (x3:Int) (x2:(List (List TQ))):A0 (c8 (k+1) x0 x3 x2) (A4J (c8 k) (D7 k) (E3 k) (V7 k) x0 x3 x2):=by rw [c8];exact A0.refl _
theorem F3F (k:Nat) (x0:(List (List TQ))):A0 (A4Z k x0) (B2c (c8 k) x0):=A0.refl _
theorem D9M (k:Nat):B5 Tryz.prog (D5Z (A4Z k)):=
 B7 B6 HM B0v (es:=fun k=>C6K (D7 k) (E3 k) (V7 k)) (fun k=>fc ⟨A5f k,fc ⟨A6M k,fc ⟨D0R k,fz⟩⟩⟩) Tryz.func136 1 (by kernel_rfl) (fun s=>rfl) (fun k=>C2t (c8 k)) (fc ⟨fun s=>rfl,fz⟩) (fun k s0=> .cons (by kernel_rfl) (by kernel_rfl) (fun s r h=>(E6I (c8 k) (D7 k) (E3 k) (V7 k) s0 s).trans (D8L k s.1.1 s.1.2.1 s.2.1 r h)) (.nil)) (F:=fun k s=>A4Z k s.1.1) (fun k s r h=>(E1T (c8 k) (D7 k) (E3 k) (V7 k) s).trans (F3F k s.1.1 r h)) k
theorem E9m (k:Nat) (x0:((List (List TQ))×Unit)):A0 (A3K k x0) (C8Q (M7 k) (A4Z k) x0):=A0.refl _
theorem E1M (k:Nat):B5 Tryz.prog (D4I (A3K k)):=
 B7 B6 HM B6U (es:=fun k=>D4a (M7 k) (A4Z k)) (fun k=>fc ⟨B2S k,fc ⟨D9M k,fz⟩⟩) Tryz.func111 0 (by kernel_rfl) (fun s=>rfl) (fun k=>[]) (fz) (fun k s0=> .nil) (F:=fun k s=>A3K k s.1.1) (fun k s r h=>(D7S (M7 k) (A4Z k) s).trans (E9m k s.1.1 r h)) k
theorem b71 (k:Nat) (x0:(List TQ)) (x1:(List (List TQ))):A0 (A1g k x0 x1) (B71 (J2 k) (A3K k) x0 x1):=A0.refl _
theorem E5F (k:Nat):B5 Tryz.prog (D5z (A1g k)):=
 B7 B6 HM D71 (es:=fun k=>D1o (J2 k) (A3K k)) (fun k=>fc ⟨B1q k,fc ⟨E1M k,fz⟩⟩) Tryz.func71 0 (by kernel_rfl) (fun s=>rfl) (fun k=>[]) (fz) (fun k s0=> .nil) (F:=fun k s=>A1g k s.1.1 s.1.2.1) (fun k s r h=>(e71 (J2 k) (A3K k) s).trans (b71 k s.1.1 s.1.2.1 r h)) k
theorem b72 (k:Nat) (x0:(List TQ)) (x1:(List (List TQ))):A0 (A3x k x0 x1) (B72 (P6 k) (Z4 k) x0 x1):=A0.refl _
theorem F0l (k:Nat):B5 Tryz.prog (D1b (A3x k)):=
 B7 B6 HM D72 (es:=fun k=>D4R (P6 k) (Z4 k)) (fun k=>fc ⟨C4y k,fc ⟨C8s k,fz⟩⟩) Tryz.func72 0 (by kernel_rfl) (fun s=>rfl) (fun k=>[]) (fz) (fun k s0=> .nil) (F:=fun k s=>A3x k s.1.1 s.1.2.1) (fun k s r h=>(e72 (P6 k) (Z4 k) s).trans (b72 k s.1.1 s.1.2.1 r h)) k
theorem D6f (k:Nat) (x0:TI) (x1:TI):A0 (A3j k x0 x1) (B8S (A2D k) x0 x1):=by
 show A0 (All.exact_IntCmp.f k x0.1 x0.2 x1.1 x1.2) _
 unfold All.exact_IntCmp.f;unfold B8S;(try simp only [A2D,All.integer_zero.f,All.exact_stepAt.f,All.S24.f0,All.S24.f1,All.rd_T24,All.z24]);exact BR
theorem D7Q (k:Nat):B5 Tryz.prog (D4T (A3j k)):=
 B7 B6 HM B7X (es:=fun k=>C9P (A2D k)) (fun k=>fc ⟨D3s k,fz⟩) Tryz.func219 0 (by kernel_rfl) (fun s=>rfl) (fun k=>[]) (fz) (fun k s0=> .nil) (F:=fun k s=>A3j k s.1.1 s.1.2.1) (fun k s r h=>(D8k (A2D k) s).trans (D6f k s.1.1 s.1.2.1 r h)) k
theorem F2l (k:Nat) (x0:TQ) (x1:TQ):A0 (b7 k x0 x1) (B2j (O1 k) (I1 k) (A3j k) x0 x1):=A0.refl _
theorem D7k (k:Nat):B5 Tryz.prog (D1N (b7 k)):=
 B7 B6 HM B7k (es:=fun k=>D4o (O1 k) (I1 k) (A3j k)) (fun k=>fc ⟨B6e k,fc ⟨A7i k,fc ⟨D7Q k,fz⟩⟩⟩) Tryz.func181 0 (by kernel_rfl) (fun s=>rfl) (fun k=>[]) (fz) (fun k s0=> .nil) (F:=fun k s=>b7 k s.1.1 s.1.2.1) (fun k s r h=>(E3t (O1 k) (I1 k) (A3j k) s).trans (F2l k s.1.1 s.1.2.1 r h)) k
theorem F0F (k:Nat) (x0:(List TQ)) (x1:(List TQ)) (x20:Int) (x21:Int):A0 (v7 (k+1) x0 x1 x20 x21) (A7j (v7 k) (b7 k) x0 x1 x20 x21):=by rw [v7];exact A0.refl _
theorem E8R (k:Nat) (x0:(List TQ)) (x1:(List TQ)):A0 (A1x k x0 x1) (B2o (v7 k) x0 x1):=A0.refl _
theorem F2C (k:Nat):B5 Tryz.prog (D4n (A1x k)):=
 B7 B6 HM B0S (es:=fun k=>C4f (b7 k)) (fun k=>fc ⟨D7k k,fz⟩) Tryz.func139 1 (by kernel_rfl) (fun s=>rfl) (fun k=>C1z (v7 k)) (fc ⟨fun s=>rfl,fz⟩) (fun k s0=> .cons (by kernel_rfl) (by kernel_rfl) (fun s r h=>(E0J (v7 k) (b7 k) s0 s).trans (F0F k s.1.1 s.1.2.1 s.1.2.2.1 s.1.2.2.2.1 r h)) (.nil)) (F:=fun k s=>A1x k s.1.1 s.1.2.1) (fun k s r h=>(F2d (v7 k) (b7 k) s).trans (E8R k s.1.1 s.1.2.1 r h)) k
theorem D8n (k:Nat) (x0:(List (List TQ))) (x1:(List (List TQ))) (x20:Int) (x21:Int):A0 (n9 (k+1) x0 x1 x20 x21) (A6K (n9 k) (A1x k) x0 x1 x20 x21):=by rw [n9];exact A0.refl _
theorem b77 (k:Nat) (x0:(List (List TQ))) (x1:(List (List TQ))):A0 (A4C k x0 x1) (B77 (n9 k) x0 x1):=A0.refl _
theorem F0O (k:Nat):B5 Tryz.prog (D0W (A4C k)):=
 B7 B6 HM D77 (es:=fun k=>C6h (A1x k)) (fun k=>fc ⟨F2C k,fz⟩) Tryz.func77 1 (by kernel_rfl) (fun s=>rfl) (fun k=>C5s (n9 k)) (fc ⟨fun s=>rfl,fz⟩) (fun k s0=> .cons (by kernel_rfl) (by kernel_rfl) (fun s r h=>(E4y (n9 k) (A1x k) s0 s).trans (D8n k s.1.1 s.1.2.1 s.1.2.2.1 s.1.2.2.2.1 r h)) (.nil)) (F:=fun k s=>A4C k s.1.1 s.1.2.1) (fun k s r h=>(e77 (n9 k) (A1x k) s).trans (b77 k s.1.1 s.1.2.1 r h)) k
theorem F2g (k:Nat) (x0:ByteArray) (x1:ByteArray):A0 (A5q k x0 x1) (C5p x0 x1):=by
 show A0 (All.galoisref01_Compare.f k x0 x1) _
 unfold All.galoisref01_Compare.f
 unfold C5p
 (try simp only [All.integer_zero.f,All.exact_stepAt.f,All.S24.f0,All.S24.f1,All.rd_T24,All.z24])
 (try simp only [F1,List.take_append_drop,List.drop_length,List.append_nil,Int.zero_sub,Int.toNat_natCast,Int.reduceToNat,Int.zero_add,List.take_zero,List.nil_append,List.append_assoc,List.length_set,Y2,List.take_left,H4,bne,H5,decide_not,I2,if_true,if_false,Bool.false_eq_true,j8,A0G,List.drop_zero,List.take_length,H7,F9,i8,C2,ite_not,Bool.and_eq_true,Bool.or_eq_true,Bool.not_eq_true',H2,Bool.not_eq_false',beq_iff_eq,decide_eq_true_eq,I0,H1,H0,ne_eq,H8,List.toList_toArray])
 repeat' first
 | (with_reducible refine A0.trans ((All.galoisref01_Compare.mono_l k) _ _ _) ?_;rw [All.galoisref01_Compare.j0];(try simp only [F1,if_true,if_false,decide_eq_true_eq,Bool.false_eq_true,decide_not,ite_not,bne,H5,beq_iff_eq,Bool.not_eq_true',H2,H8,List.toList_toArray,H1,H0,Bool.and_eq_true,Bool.or_eq_true,I0,I2,H7,All.integer_zero.f,F9,Int.toNat_natCast,Int.reduceToNat,Int.zero_sub,H4]))
 | (with_reducible exact A0.none _)
 | (with_reducible exact A0.refl _)
 | (with_reducible refine A0.posR (by with_reducible assumption) ?_)
 | (with_reducible refine A0.negR (by with_reducible assumption) ?_)
 | (with_reducible refine A0.bindR (by with_reducible assumption) ?_)
 | (with_reducible refine A0.posL (by with_reducible assumption) ?_)
 | (with_reducible refine A0.negL (by with_reducible assumption) ?_)
 | (with_reducible refine A0.iteL (fun _=>?_) (fun _=>?_))
 | (with_reducible refine A0.bindK (by with_reducible assumption) ?_)
 | (with_reducible refine A0.bindL (fun _ _=>?_))
 | (refine A0.posR (by first|decide|exact Int.le_refl _|omega|assumption) ?_)
 | (refine A0.negR (by first|decide|omega) ?_)
theorem E6e (k:Nat):B5 Tryz.prog (D2v (A5q k)):=
 B7 B6 HM B4H (es:=fun k=>[]) (fun k=>fz) Tryz.func200 0 (by kernel_rfl) (fun s=>rfl) (fun k=>[]) (fz) (fun k s0=> .nil) (F:=fun k s=>A5q k s.1.1 s.1.2.1) (fun k s r h=>(E2j s).trans (F2g k s.1.1 s.1.2.1 r h)) k
theorem E6u (k:Nat) (x0:TI) (x1:TI):A0 (A5C k x0 x1) (C0G (t7 k) (A5q k) x0 x1):=by
 show A0 (All.galoisref02_Compare.f k x0.1 x0.2 x1.1 x1.2) _
 unfold All.galoisref02_Compare.f;unfold C0G;(try simp only [t7,A5q,All.integer_zero.f,All.exact_stepAt.f,All.S24.f0,All.S24.f1,All.rd_T24,All.z24]);exact BR
theorem E5f (k:Nat):B5 Tryz.prog (D3Q (A5C k)):=
 B7 B6 HM B8F (es:=fun k=>D2M (t7 k) (A5q k)) (fun k=>fc ⟨D1v k,fc ⟨E6e k,fz⟩⟩) Tryz.func220 0 (by kernel_rfl) (fun s=>rfl) (fun k=>[]) (fz) (fun k s0=> .nil) (F:=fun k s=>A5C k s.1.1 s.1.2.1) (fun k s r h=>(E0k (t7 k) (A5q k) s).trans (E6u k s.1.1 s.1.2.1 r h)) k
theorem D8M (k:Nat) (x0:TQ) (x1:TQ):A0 (A0L k x0 x1) (B7D (a8 k) (b6 k) (A5C k) x0 x1):=A0.refl _
end Go.Proofs.YtijohnkgomcdbaaGreatV
