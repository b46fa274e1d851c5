/- Part of the proof of the statement FieldpolyShifts: lemmas on the model's steps, Lean functions that say what the program's functions compute, and proofs that the calls do just that. No hypothesis is added. -/
import Derived.Test.YtijohnkgomcdbaaGreatKFieldpolyShifts4
set_option linter.all false
set_option maxRecDepth 100000
namespace Go.Proofs.YtijohnkgomcdbaaGreatV
open Go Go.RowKit YtijohnkgomcdbaaGreat YtijohnkgomcdbaaGreatE YtijohnkgomcdbaaGreatW.PrintWords YtijohnkgomcdbaaGreatW.PrintLast YtijohnkgomcdbaaGreatW.PrintMore
noncomputable abbrev O6 (k:Nat) (x0:TP):Option Z8:=B13 (A1M k) (V3 k) (Y6 k) (F4 k) x0
noncomputable abbrev A2i (k:Nat) (x0:TP) (x1:TP):Option R55:=B55 (O6 k) (S7 k) (V3 k) x0 x1
noncomputable def A1L:Nat→TF→TF→Int→Int→TP→Option R14
 |0,_,_,_,_,_=>none
 |k+1,x1,x16,x17,x18,x2=>A8p (A1L k) (A2i k) x1 x16 x17 x18 x2
noncomputable abbrev A3I (k:Nat) (x0:TP) (x1:TF):Option R14:=B14 (A1L k) (O6 k) x0 x1
noncomputable def A0x:Nat→TP→Int→Int→Option R70
 |0,_,_,_=>none
 |k+1,x17,x18,x19=>A6w (A0x k) x17 x18 x19
noncomputable abbrev A4Q (k:Nat) (x0:TP) (x1:Int):Option R70:=B70 (A0x k) (V3 k) x0 x1
noncomputable abbrev n7 (k:Nat) (x0:TP) (x1:TP):Option R49:=B49 (O6 k) (S7 k) (A4Q k) x0 x1
noncomputable def A0k:Nat→TP→Int→Int→Option R79
 |0,_,_,_=>none
 |k+1,x19,x20,x21=>A8b (A0k k) x19 x20 x21
noncomputable abbrev A3j (k:Nat) (x0:TP) (x1:Int):Option R79:=B79 (A0k k) (O6 k) x0 x1
noncomputable def A1H:Nat→TF→Int→Int→TP→Option R26
 |0,_,_,_,_=>none
 |k+1,x28,x29,x30,x4=>A8h (A1H k) (n7 k) x28 x29 x30 x4
noncomputable abbrev A4b (k:Nat) (x0:TP) (x1:TF) (x2:Int) (x3:Int):Option R26:=B26 (A1H k) (A3I k) (A3j k) x0 x1 x2 x3
noncomputable abbrev N2 (k:Nat) (x0:TQ) (x1:TQ):Option A3o:=A9W (b6 k) (e9 k) (d5 k) (v4 k) x0 x1
mutual
noncomputable def A0A:Nat→TP→TP→Int→TP→Option g8
 |0,_,_,_,_=>none
 |k+1,x0,x1,x6,x5=>A7J (t8 k) (G1 k) (F4 k) x0 x1 x6 x5
noncomputable def t8:Nat→TP→TP→Int→Int→Int→TP→TQ→Option g8
 |0,_,_,_,_,_,_,_=>none
 |k+1,x0,x1,x6,x21,x22,x5,x7=>A8L (A0A k) (t8 k) (P3 k) (N2 k) x0 x1 x6 x21 x22 x5 x7
end
noncomputable abbrev X1 (k:Nat) (x0:TP) (x1:TP):Option g8:=B45 (A0A k) x0 x1
noncomputable def A0Q:Nat→TF→Int→Option A2N
 |0,_,_=>none
 |k+1,x0,x3=>A7N (A0Q k) x0 x3
noncomputable abbrev A0u (k:Nat) (x0:TF):Option A2N:=B3H (A0Q k) x0
noncomputable def A0W:Nat→Int→Int→TQ→TP→Option R21
 |0,_,_,_,_=>none
 |k+1,x1,x6,x2,x5=>A7t (A0W k) (G1 k) (F4 k) x1 x6 x2 x5
noncomputable abbrev A2I (k:Nat) (x0:TQ) (x1:Int):Option R21:=B21 (A0W k) x0 x1
noncomputable def A0m:Nat→TP→Int→Int→TQ→TP→Option R98
 |0,_,_,_,_,_=>none
 |k+1,x8,x9,x10,x3,x5=>A7A (A0m k) (G1 k) (N2 k) x8 x9 x10 x3 x5
noncomputable abbrev A5M (k:Nat) (x0:TP) (x1:TQ):Option R98:=B98 (A0m k) x0 x1
noncomputable abbrev j6 (k:Nat) (x0:TP) (x1:TP):Option R51:=B51 (M8 k) (F4 k) (A5M k) x0 x1
noncomputable abbrev A3p (k:Nat) (x0:TQ):Option B0J:=B6z x0
noncomputable abbrev A0H (k:Nat) (x0:TQ) (x1:TQ):Option R99:=B99 (N2 k) (A3p k) x0 x1
noncomputable def p9:Nat→TP→TP→TP→Option A2W
 |0,_,_,_=>none
 |k+1,x1,x6,x7=>A7D (p9 k) (M8 k) (A2I k) (X1 k) (j6 k) (Y6 k) (A0H k) x1 x6 x7
noncomputable abbrev A5P (k:Nat) (x0:TP) (x1:TP):Option A2W:=B4x (p9 k) (G1 k) x0 x1
noncomputable abbrev A4q (k:Nat) (x0:TP) (x1:TP):Option B1w:=B3u (A5P k) x0 x1
noncomputable abbrev A0a (k:Nat) (x0:TP) (x1:TP):Option B0q:=B4b (A4q k) x0 x1
mutual
noncomputable def A0D:Nat→TF→TF→Int→TP→TF→Option u7
 |0,_,_,_,_,_=>none
 |k+1,x1,x2,x8,x3,x7=>A7Q (s8 k) (A0u k) x1 x2 x8 x3 x7
noncomputable def s8:Nat→TF→TF→Int→TP→Int→Int→TP→TF→Option u7
 |0,_,_,_,_,_,_,_,_=>none
 |k+1,x1,x2,x8,x9,x22,x23,x3,x7=>A9D (A0D k) (s8 k) (M8 k) (X1 k) (A0a k) x1 x2 x8 x9 x22 x23 x3 x7
end
noncomputable abbrev A5J (k:Nat) (x0:TP) (x1:TF) (x2:TF):Option u7:=B30 (A0D k) x0 x1 x2
noncomputable abbrev A4I (k:Nat) (x0:TP) (x1:TF) (x2:TP):Option R52:=B52 (J8 k) (Y4 k) (V5 k) (j5 k) x0 x1 x2
noncomputable abbrev A4m (k:Nat) (x0:TP) (x1:TF) (x2:TF):Option B1p:=C7G (m5 k) x0 x1 x2
noncomputable abbrev A4O (k:Nat) (x0:(TP×TF×TF×Unit)):Option B1v:=B4A (R3 k) (A4m k) x0
noncomputable abbrev A5H (k:Nat) (x0:TP) (x1:TF) (x2:TF):Option R53:=B53 (J8 k) (A4O k) x0 x1 x2
end Go.Proofs.YtijohnkgomcdbaaGreatV
set_option maxRecDepth 100000
namespace Go.Proofs.YtijohnkgomcdbaaGreatV
open Go Go.RowKit YtijohnkgomcdbaaGreat YtijohnkgomcdbaaGreatE YtijohnkgomcdbaaGreatN YtijohnkgomcdbaaGreat.All YtijohnkgomcdbaaGreatW.PrintWords YtijohnkgomcdbaaGreatW.PrintLast YtijohnkgomcdbaaGreatW.PrintMore
abbrev Ya:= @F5
abbrev Yb:= @m7
abbrev Yc:= @G0
abbrev Yd:= @if_true
abbrev Ye:= @if_false
abbrev Yf:= @ne_eq
abbrev Yg:= @not_true_eq_false
abbrev Yh:= @not_false_eq_true
abbrev Yi:= @Bool.not_true
abbrev Yj:= @Bool.not_false
abbrev Yk:= @Bool.false_eq_true
abbrev Yl:= @Bool.not_eq_true'
abbrev Ym:= @H7
abbrev Yn:= @ite_not
abbrev Yo:= @eq_self
abbrev Yp:= @Bool.and_eq_true
abbrev Yq:= @Bool.or_eq_true
abbrev Yr:= @H5
abbrev Ys:= @H6
abbrev Yt:= @and_self
abbrev Yu:= @decide_true
abbrev Yv:= @decide_false
abbrev Yw:= @Bool.true_and
abbrev Yx:= @Bool.and_true
abbrev Yy:= @beq_self_eq_true
abbrev Yz:= @decide_eq_true_eq
abbrev YA:= @gt_iff_lt
abbrev YB:= @ge_iff_le
abbrev YC:= @Int.neg_eq_zero
theorem H8 {α:Type _} {f:Nat→Option α} {a:α} {Q:Nat→Prop}:Ev f a→(∃K,∀k,K≤k→Q k)→∃K,∀k,K≤k→f k=some a∧Q k:=fun⟨K,h⟩ ⟨L,g⟩=>⟨K+L,fun k hk=>⟨h k (by omega),g k (by omega)⟩⟩
theorem M4 {α:Type _} {f:Nat→Option α} {a:α} {Q:Nat→Prop}:(∃K,∀k,K≤k→Q k)→(∀k,Q k→f k=some a)→Ev f a:=fun⟨K,h⟩ g=>⟨K,fun k hk=>g k (h k hk)⟩
def fr (q:Rat):TI×ByteArray:=((ng q.num,ab q.num),B2 q.den)
theorem A9T:B2 1=⟨#[1]⟩:=by decide +kernel
theorem F3I:B2 0=⟨#[]⟩:=by decide +kernel
theorem D8d {a b:ByteArray}:a.toList=b.toList↔a=b:=by
 constructor
 ·intro h
  rw [ByteArray.toList_eq,ByteArray.toList_eq]at h
  cases a;cases b
  simp only [ByteArray.mk.injEq]
  exact Array.toList_inj.1 h
 ·intro h;rw [h]
theorem B5C (m n:Nat):((B2 m).toList==(B2 n).toList)=decide (m=n):=by
 rw [Bool.eq_iff_iff,beq_iff_eq,decide_eq_true_eq,D8d,B0V]
theorem W7 (m:Nat):((B2 m).toList==(⟨#[1]⟩:ByteArray).toList)=decide (m=1):=by rw [←A9T,B5C]
theorem B0s (m:Nat):((B2 m).toList==(⟨#[]⟩:ByteArray).toList)=decide (m=0):=by rw [←F3I,B5C]
theorem B9N (x:Int):((ab x).toList==(⟨#[]⟩:ByteArray).toList)=decide (x=0):=by
 unfold ab;rw [B0s,Bool.eq_iff_iff,decide_eq_true_eq,decide_eq_true_eq];omega
theorem C3i (x y:Int):(!(ng x==ng y))=(ng x !=ng y):=rfl
theorem C9o (m n:Nat):(B2 (m/n)).size≤(B2 m).size:=A4g (Nat.div_le_self m n)
theorem F3b {n d:Int} {g:Nat} (h0:d≠0) (hg:g∣n.natAbs) (g0:g≠0):sg (ng n !=ng d) (n.natAbs/g)=d.sign*n/g:=by
 obtain⟨c,hc⟩:=hg
 have e:n.natAbs/g=c:=by rw [hc];exact Nat.mul_div_cancel_left _ (Nat.pos_of_ne_zero g0)
 rw [e]
 have g1:(g:Int)≠0:=by omega
 have key:∀z:Int,z=g*c→z/g=(c:Int):=fun z hz=>by rw [hz];exact Int.mul_ediv_cancel_left _ g1
 have keyn:∀z:Int,z= -(g*c:Int)→z/g= -(c:Int):=fun z hz=>by
  rw [hz,←Int.mul_neg];exact Int.mul_ediv_cancel_left _ g1
 have hcast:((n.natAbs:Nat):Int)=(g:Int)*(c:Int):=by rw [hc];exact Int.natCast_mul _ _
 rcases Int.lt_or_gt_of_ne h0 with hd|hd
 ·rw [A4Z hd,Int.sign_eq_neg_one_of_neg hd]
  by_cases hn:n<0
  ·rw [A4Z hn];exact(key _ (by omega)).symm
  ·rw [A4s (by omega)];exact(keyn _ (by omega)).symm
 ·rw [A4s (show 0≤d by omega),Int.sign_eq_one_of_pos hd]
  by_cases hn:n<0
  ·rw [A4Z hn];exact(keyn _ (by omega)).symm
  ·rw [A4s (by omega)];exact(key _ (by omega)).symm
theorem C7F {n d:Int} (h0:d≠0):Nat.gcd n.natAbs d.natAbs≠0:=by
 intro h
 have:=(Nat.gcd_eq_zero_iff.1 h).2
 omega
theorem B9e {n d:Int} (h0:d≠0):((ng (sg (ng n !=ng d) (n.natAbs/Nat.gcd n.natAbs d.natAbs)),ab (sg (ng n !=ng d) (n.natAbs/Nat.gcd n.natAbs d.natAbs))),B2 (d.natAbs/Nat.gcd n.natAbs d.natAbs))=fr (Rat.divInt n d):=by
 have e:Int.gcd d n=Nat.gcd n.natAbs d.natAbs:=Nat.gcd_comm _ _
 unfold fr
 rw [Rat.num_divInt,Rat.den_divInt,if_neg h0,e,F3b h0 (Nat.gcd_dvd_left _ _) (C7F h0)]
theorem F5D {n d:Int} (h0:d≠0) (h:Nat.gcd n.natAbs d.natAbs=1):((ng (sg (ng n !=ng d) n.natAbs),ab (sg (ng n !=ng d) n.natAbs)),ab d)=fr (Rat.divInt n d):=by
 rw [show ab d=B2 d.natAbs from rfl,←B9e h0,h,Nat.div_one,Nat.div_one]
theorem E3d {n d:Int} (hn:(ab n).size≤1099511627776) (hd:(ab d).size≤1099511627776) (h0:d≠0):Ev (fun k=>f9 k (ng n,ab n) (ng d,ab d)) (fr (Rat.divInt n d)):=by
 have h1:=D7z (m:=n.natAbs) (n:=d.natAbs) hn hd
 have hg:=Nat.pos_of_ne_zero (C7F (n:=n) h0)
 have sg_:(B2 (Nat.gcd n.natAbs d.natAbs)).size≤1099511627776:=Nat.le_trans (A4g (Nat.le_of_dvd (by omega) (Nat.gcd_dvd_right _ _))) hd
 have h2:=D2e (m:=n.natAbs) hn sg_ hg
 have h3:=D2e (m:=d.natAbs) hd sg_ hg
 have f1:=A4A (ng n !=ng d) (n.natAbs/Nat.gcd n.natAbs d.natAbs)
 have f2:=A4A (ng n !=ng d) n.natAbs
 have f3:=B9e (n:=n) h0
 by_cases hc:Nat.gcd n.natAbs d.natAbs=1
 ·have f4:=F5D h0 hc
  rw [←f4]
  rw [hc]at h1
  have h1':Ev (fun k=>exact_NatGcd.f k (ab n) (ab d)) (B2 1):=h1
  have f2':exact_IntMake.f (ng n !=ng d) (ab n)=_:=f2
  refine M4 h1' ?_
  rintro k h1'
  try dsimp only [fr]at h1'
  show f9 _ _ _=_
  unfold f9 B3a
  simp only [fr,L3,U4,A4X,Ya,Yb,Yc,Yd,Ye,Yf,Yg,Yh,Yi,Yj,Yk,Int.reduceEq,reduceCtorEq,Yl,Ym,Yn,Yo,Yp,Yq,Yr,Ys,Yt,Yu,Yv,Yw,Yx,Yy,Yz,YA,YB,YC,h1',W7,C3i,f2']
 ·rw [←f3]
  have h1':Ev (fun k=>exact_NatGcd.f k (ab n) (ab d)) (B2 (Nat.gcd n.natAbs d.natAbs)):=h1
  have h2':Ev (fun k=>exact_NatDivMod.f k (ab n) (B2 (Nat.gcd n.natAbs d.natAbs))) _:=h2
  have h3':Ev (fun k=>exact_NatDivMod.f k (ab d) (B2 (Nat.gcd n.natAbs d.natAbs))) _:=h3
  refine M4 (H8 h1' (H8 h2' h3')) ?_
  rintro k ⟨h1',h2',h3'⟩
  try dsimp only [fr]at h1' h2' h3'
  show f9 _ _ _=_
  unfold f9 B3a
  simp only [fr,L3,U4,A4X,Ya,Yb,Yc,Yd,Ye,Yf,Yg,Yh,Yi,Yj,Yk,Int.reduceEq,reduceCtorEq,Yl,Ym,Yn,Yo,Yp,Yq,Yr,Ys,Yt,Yu,Yv,Yw,Yx,Yy,Yz,YA,YB,YC,h1',h2',h3',W7,C3i,f1,hc]
theorem C3R {n:Int} {d:Nat} (hn:(ab n).size≤1099511627776) (hd:(B2 d).size≤1099511627776) (h0:d≠0):Ev (fun k=>f9 k (ng n,ab n) (false,B2 d)) (fr (mkRat n d)):=by
 have h:=E3d (d:=(d:Int)) hn (by rw [Y8];exact hd) (by omega)
 rwa [B4u,Y8,Rat.divInt_ofNat]at h
def Sm (n:Nat) (q:Rat):Prop:=(ab q.num).size≤n∧(B2 q.den).size≤n
theorem B3o {x y:Int} {n:Nat} (hx:(ab x).size≤n) (hy:(ab y).size≤n):(ab (x+y)).size≤n+1:=by
 unfold ab at*
 rw [A9p]at*
 have:=Int.natAbs_add_le x y
 rw [Nat.pow_succ]
 omega
theorem D8n {x:Int}:(ab (-x)).size=(ab x).size:=by unfold ab;rw [Int.natAbs_neg]
theorem b7 {x y:Nat} {m n:Nat} (hx:(B2 x).size≤m) (hy:(B2 y).size≤n):(B2 (x*y)).size≤m+n:=by
 rw [A9p]at*
 rw [Nat.pow_add]
 exact Nat.mul_lt_mul'' hx hy
theorem A1R {x y:Int} {m n:Nat} (hx:(ab x).size≤m) (hy:(ab y).size≤n):(ab (x*y)).size≤m+n:=by
 unfold ab at*
 rw [Int.natAbs_mul]
 exact b7 hx hy
theorem F2L (x:Int) (d:Nat):sg (ng x) (x.natAbs*d)=x*d:=by
 have h:=E2w x
 unfold sg at*
 cases hs:ng x with
 |true=>rw [hs]at h;simp only [if_true]at h⊢;rw [Int.natCast_mul,←Int.neg_mul,h]
 |false=>rw [hs]at h;simp only [Bool.false_eq_true,if_false]at h⊢;rw [Int.natCast_mul,h]
section
variable {a b:Rat}
theorem D9N (h:a.den=b.den):mkRat (a.num+b.num) a.den=a+b:=by
 rw [Rat.add_def',←h,←Int.add_mul,Rat.mkRat_mul_right a.den_nz]
theorem C0B (n:Int):fr (n:Rat)=((ng n,ab n),B2 1):=rfl
theorem D4A (h:a.den=1) (h2:b.den=1):((ng (a.num+b.num),ab (a.num+b.num)),(⟨#[1]⟩:ByteArray))=fr (a+b):=by
 have e:a+b=((a.num+b.num:Int):Rat):=by
  rw [Rat.add_def',h,h2]
  have h3:=Rat.mkRat_self ((a.num+b.num:Int):Rat)
  have h4:mkRat (a.num+b.num) 1=((a.num+b.num:Int):Rat):=h3
  rw [←h4]
  simp only [Int.natCast_one,Int.mul_one,Nat.mul_one]
 rw [e,C0B,A9T]
theorem D0E (h:a.den=1) (h2:b.den=1):((ng (a.num*b.num),ab (a.num*b.num)),(⟨#[1]⟩:ByteArray))=fr (a*b):=by
 have e:a*b=((a.num*b.num:Int):Rat):=by
  rw [Rat.mul_def',h,h2]
  have h3:=Rat.mkRat_self ((a.num*b.num:Int):Rat)
  have h4:mkRat (a.num*b.num) 1=((a.num*b.num:Int):Rat):=h3
  rw [←h4]
 rw [e,C0B,A9T]
theorem C4f (ha:Sm 10000 a) (hb:Sm 10000 b):Ev (fun k=>L2 k (fr a) (fr b)) (fr (a+b)):=by
 have h1:=D0R (Nat.le_trans ha.1 (by decide)) (Nat.le_trans hb.1 (by decide))
 by_cases hd:a.den=b.den
 ·by_cases h1d:a.den=1
  ·have h2d:b.den=1:=by omega
   rw [←D4A h1d h2d]
   refine M4 h1 ?_
   rintro k h1
   try dsimp only [fr]at h1
   show L2 _ _ _=_
   unfold L2 B0T
   simp only [fr,S5,A3g,T5,A3E,L3,Ya,Yb,Yc,Yd,Ye,Yf,Yg,Yh,Yi,Yj,Yk,Int.reduceEq,reduceCtorEq,Yl,Ym,Yn,Yo,Yp,Yq,Yr,Ys,Yt,Yu,Yv,Yw,Yx,Yy,Yz,YA,YB,YC,h1,B5C,W7,h1d,h2d]
  ·have h2:=C3R (n:=a.num+b.num) (d:=a.den) (Nat.le_trans (B3o ha.1 hb.1) (by decide)) (Nat.le_trans ha.2 (by decide)) a.den_nz
   rw [D9N hd]at h2
   rw [show(fun k=>L2 k (fr a) (fr b))=fun k=>L2 k (fr a) ((ng b.num,ab b.num),B2 a.den)from by rw [hd];rfl]
   refine M4 (H8 h1 h2) ?_
   rintro k ⟨h1,h2⟩
   try dsimp only [fr]at h1 h2
   show L2 _ _ _=_
   unfold L2 B0T
   simp only [fr,S5,A3g,T5,A3E,L3,Ya,Yb,Yc,Yd,Ye,Yf,Yg,Yh,Yi,Yj,Yk,Int.reduceEq,reduceCtorEq,Yl,Ym,Yn,Yo,Yp,Yq,Yr,Ys,Yt,Yu,Yv,Yw,Yx,Yy,Yz,YA,YB,YC,h1,h2,B5C,W7,h1d]
 ·have h3:=B3k (m:=a.num.natAbs) (n:=b.den) (Nat.le_trans ha.1 (by decide)) (Nat.le_trans hb.2 (by decide))
  have h4:=B3k (m:=b.num.natAbs) (n:=a.den) (Nat.le_trans hb.1 (by decide)) (Nat.le_trans ha.2 (by decide))
  have h5:=B3k (m:=a.den) (n:=b.den) (Nat.le_trans ha.2 (by decide)) (Nat.le_trans hb.2 (by decide))
  have f1:=A4A (ng a.num) (a.num.natAbs*b.den)
  have f2:=A4A (ng b.num) (b.num.natAbs*a.den)
  rw [F2L]at f1 f2
  have s1:(ab (a.num*b.den)).size≤20000:=Nat.le_trans (A1R ha.1 (n:=10000) (by rw [Y8];exact hb.2)) (by decide)
  have s2:(ab (b.num*a.den)).size≤20000:=Nat.le_trans (A1R hb.1 (n:=10000) (by rw [Y8];exact ha.2)) (by decide)
  have h6:=D0R (Nat.le_trans s1 (by decide)) (Nat.le_trans s2 (by decide))
  have h7:=C3R (n:=a.num*b.den+b.num*a.den) (d:=a.den*b.den) (Nat.le_trans (B3o s1 s2) (by decide)) (Nat.le_trans (b7 ha.2 hb.2) (by decide)) (Nat.mul_ne_zero a.den_nz b.den_nz)
  rw [←Rat.add_def']at h7
  have h3':Ev (fun k=>exact_NatMul.f k (ab a.num) (B2 b.den)) _:=h3
  have h4':Ev (fun k=>exact_NatMul.f k (ab b.num) (B2 a.den)) _:=h4
  refine M4 (H8 h3' (H8 h4' (H8 h5 (H8 h6 h7)))) ?_
  rintro k ⟨h3',h4',h5,h6,h7⟩
  try dsimp only [fr]at h3' h4' h5 h6 h7
  show L2 _ _ _=_
  unfold L2 B0T
  simp only [fr,S5,A3g,T5,A3E,L3,Ya,Yb,Yc,Yd,Ye,Yf,Yg,Yh,Yi,Yj,Yk,Int.reduceEq,reduceCtorEq,Yl,Ym,Yn,Yo,Yp,Yq,Yr,Ys,Yt,Yu,Yv,Yw,Yx,Yy,Yz,YA,YB,YC,h3',h4',h5,h6,h7,B5C,W7,hd,f1,f2]
end
section
variable {a b:Rat}
theorem Sm.neg {n:Nat} (h:Sm n a):Sm n (-a):=⟨by rw [Rat.neg_num,D8n];exact h.1,h.2⟩
theorem E4x (a:Rat):Ev (fun k=>t4 k (fr a)) (fr (-a)):=by
 have f1:=E4I a.num
 have e:fr (-a)=((ng (-a.num),ab (-a.num)),B2 a.den):=rfl
 rw [e]
 refine⟨0,fun k _=>?_⟩
 show t4 _ _=_
 unfold t4 B7y
 simp only [fr,A6R,Ya,Yb,Yc,Yd,Ye,Yf,Yg,Yh,Yi,Yj,Yk,Int.reduceEq,reduceCtorEq,Yl,Ym,Yn,Yo,Yp,Yq,Yr,Ys,Yt,Yu,Yv,Yw,Yx,Yy,Yz,YA,YB,YC,f1]
theorem E4L (ha:Sm 10000 a) (hb:Sm 10000 b):Ev (fun k=>N4 k (fr a) (fr b)) (fr (a-b)):=by
 have h1:=E4x b
 have h2:=C4f ha hb.neg
 rw [←Rat.sub_eq_add_neg]at h2
 refine M4 (H8 h1 h2) ?_
 rintro k ⟨h1,h2⟩
 try dsimp only [fr]at h1 h2
 show N4 _ _ _=_
 unfold N4 B88
 simp only [fr,Ya,Yb,Yc,Yd,Ye,Yf,Yg,Yh,Yi,Yj,Yk,Int.reduceEq,reduceCtorEq,Yl,Ym,Yn,Yo,Yp,Yq,Yr,Ys,Yt,Yu,Yv,Yw,Yx,Yy,Yz,YA,YB,YC,h1,h2]
theorem C4H (ha:Sm 10000 a) (hb:Sm 10000 b):Ev (fun k=>F8 k (fr a) (fr b)) (fr (a*b)):=by
 have h1:=F5w (Nat.le_trans ha.1 (by decide)) (Nat.le_trans hb.1 (by decide))
 have h2:=B3k (m:=a.den) (n:=b.den) (Nat.le_trans ha.2 (by decide)) (Nat.le_trans hb.2 (by decide))
 have h3:=C3R (n:=a.num*b.num) (d:=a.den*b.den) (Nat.le_trans (A1R ha.1 hb.1) (by decide)) (Nat.le_trans (b7 ha.2 hb.2) (by decide)) (Nat.mul_ne_zero a.den_nz b.den_nz)
 rw [←Rat.mul_def']at h3
 by_cases h1d:a.den=1
 ·by_cases h2d:b.den=1
  ·rw [←D0E h1d h2d]
   refine M4 h1 ?_
   rintro k h1
   try dsimp only [fr]at h1
   show F8 _ _ _=_
   unfold F8 B2I
   simp only [fr,S5,A3g,A3D,T5,Ya,Yb,Yc,Yd,Ye,Yf,Yg,Yh,Yi,Yj,Yk,Int.reduceEq,reduceCtorEq,Yl,Ym,Yn,Yo,Yp,Yq,Yr,Ys,Yt,Yu,Yv,Yw,Yx,Yy,Yz,YA,YB,YC,h1,W7,h1d,h2d]
  ·refine M4 (H8 h1 (H8 h2 h3)) ?_
   rintro k ⟨h1,h2,h3⟩
   try dsimp only [fr]at h1 h2 h3
   show F8 _ _ _=_
   unfold F8 B2I
   simp only [fr,S5,A3g,A3D,T5,Ya,Yb,Yc,Yd,Ye,Yf,Yg,Yh,Yi,Yj,Yk,Int.reduceEq,reduceCtorEq,Yl,Ym,Yn,Yo,Yp,Yq,Yr,Ys,Yt,Yu,Yv,Yw,Yx,Yy,Yz,YA,YB,YC,h1,h2,h3,W7,h2d,ite_self]
 ·refine M4 (H8 h1 (H8 h2 h3)) ?_
  rintro k ⟨h1,h2,h3⟩
  try dsimp only [fr]at h1 h2 h3
  show F8 _ _ _=_
  unfold F8 B2I
  simp only [fr,S5,A3g,A3D,T5,Ya,Yb,Yc,Yd,Ye,Yf,Yg,Yh,Yi,Yj,Yk,Int.reduceEq,reduceCtorEq,Yl,Ym,Yn,Yo,Yp,Yq,Yr,Ys,Yt,Yu,Yv,Yw,Yx,Yy,Yz,YA,YB,YC,h1,h2,h3,W7,h1d]
theorem C6m (h:a≠0):fr a⁻¹=((ng a.num,B2 a.den),ab a.num):=by
 have hn:a.num≠0:=fun e=>h (Rat.num_eq_zero.1 e)
 unfold fr
 rw [Rat.num_inv,Rat.den_inv,if_neg hn]
 have hd:=a.den_pos
 rcases Int.lt_or_gt_of_ne hn with g|g
 ·rw [Int.sign_eq_neg_one_of_neg g,A4Z g,A4Z (by omega)]
  have:ab (-1*(a.den:Int))=B2 a.den:=by unfold ab;congr 1;omega
  rw [this];rfl
 ·rw [Int.sign_eq_one_of_pos g,A4s (show 0≤a.num by omega),A4s (by omega)]
  have:ab (1*(a.den:Int))=B2 a.den:=by unfold ab;congr 1;omega
  rw [this];rfl
theorem E7C (h:a≠0):Ev (fun k=>P9 k (fr a)) (fr a⁻¹):=by
 rw [C6m h]
 refine⟨0,fun k _=>?_⟩
 show P9 _ _=_
 unfold P9 B6h
 simp only [fr,Ya,Yb,Yc,Yd,Ye,Yf,Yg,Yh,Yi,Yj,Yk,Int.reduceEq,reduceCtorEq,Yl,Ym,Yn,Yo,Yp,Yq,Yr,Ys,Yt,Yu,Yv,Yw,Yx,Yy,Yz,YA,YB,YC]
theorem Sm.inv {n:Nat} (ha:Sm n a) (h:a≠0):Sm n a⁻¹:=by
 have e:=C6m h
 unfold fr at e
 rw [Prod.mk.injEq,Prod.mk.injEq]at e
 exact⟨by rw [e.1.2];exact ha.2,by rw [e.2];exact ha.1⟩
end
abbrev FV:=TI×ByteArray
def W0 (x:FV):Int:=if M3 x.1.1 x.1.2=1∨I8 x.2=1∨x.2.size=0 then 1 else if M3 x.1.1 x.1.2≠0∨I8 x.2≠0 then 4 else
 if Nat.gcd (K9 x.1.2).toNat (K9 x.2).toNat=1 then 0 else 1
theorem D3y (a:ByteArray):I8 a=0∨I8 a=1∨I8 a=4:=by
 unfold I8
 split
 ·exact Or.inr (Or.inl rfl)
 ·split
  ·exact Or.inr (Or.inr rfl)
  ·exact Or.inl rfl
theorem E8M (s:Bool) (a:ByteArray):M3 s a=0∨M3 s a=1∨M3 s a=4:=by
 unfold M3
 split
 ·exact Or.inr (Or.inl rfl)
 ·split
  ·exact Or.inr (Or.inl rfl)
  ·exact D3y a
theorem B7u (n:Nat):(K9 (B2 n)).toNat=n:=by rw [Go.Proofs.YtijohnkgomcdbaaGreatN.bval_nat];exact Int.toNat_natCast n
theorem E1p {a:Rat} (h:Sm 1024 a):W0 (fr a)=0:=by
 unfold W0 fr
 have h1:=C9v h.1
 have h2:=B7p h.2
 simp only
 rw [if_neg,if_neg,if_pos]
 ·have:=a.reduced
  show Nat.gcd (K9 (B2 a.num.natAbs)).toNat (K9 (B2 a.den)).toNat=1
  rw [B7u,B7u];exact this
 ·rw [h1,h2];simp
 ·rw [h1,h2]
  have h3:(B2 a.den).size≠0:=fun e=>a.den_nz (A9Y.1 e)
  simp [h3]
theorem D6H {x:FV} (h:W0 x=0):∃a:Rat,x=fr a∧Sm 1024 a:=by
 unfold W0 at h
 split at h
 ·cases h
 ·rename_i c1
  split at h
  ·cases h
  ·rename_i c2
   split at h
   ·rename_i c3
    rw [not_or,Decidable.not_not,Decidable.not_not]at c2
    obtain⟨z,e1,e2,e3⟩:=D0d c2.1
    obtain⟨f1,f2⟩:=C5d c2.2
    have hd:(K9 x.2).toNat≠0:=fun e=>c1 (Or.inr (Or.inr (by rw [f1,e];exact A9Y.2 rfl)))
    have hr:Nat.gcd z.natAbs (K9 x.2).toNat=1:=by
     have:(K9 x.1.2).toNat=z.natAbs:=by rw [e2];exact B7u _
     rw [←this];exact c3
    refine⟨⟨z,(K9 x.2).toNat,hd,hr⟩,?_,e3,by rw [←f1];exact f2⟩
    show x=((ng z,ab z),B2 (K9 x.2).toNat)
    rw [←f1,←e1,←e2]
   ·cases h
theorem D0P (x:FV):((M3 x.1.1 x.1.2=1∨I8 x.2=1∨x.2.size=0)∧W0 x=1)∨
  (¬(M3 x.1.1 x.1.2=1∨I8 x.2=1∨x.2.size=0)∧(M3 x.1.1 x.1.2=4∨M3 x.1.1 x.1.2=0∧I8 x.2=4)∧W0 x=4)∨
  (∃(z:Int) (d:Nat),x=((ng z,ab z),B2 d)∧d≠0∧(ab z).size≤1024∧(B2 d).size≤1024∧W0 x=if Nat.gcd z.natAbs d=1 then 0 else 1):=by
 by_cases c1:M3 x.1.1 x.1.2=1∨I8 x.2=1∨x.2.size=0
 ·exact Or.inl ⟨c1,if_pos c1⟩
 ·by_cases c2:M3 x.1.1 x.1.2≠0∨I8 x.2≠0
  ·refine Or.inr (Or.inl ⟨c1,?_,by unfold W0;rw [if_neg c1,if_pos c2]⟩)
   rw [not_or,not_or]at c1
   rcases E8M x.1.1 x.1.2 with h|h|h
   ·rcases D3y x.2 with g|g|g
    ·rw [h,g]at c2;simp at c2
    ·exact absurd g c1.2.1
    ·exact Or.inr ⟨h,g⟩
   ·exact absurd h c1.1
   ·exact Or.inl h
  ·have c2':=c2
   rw [not_or,Decidable.not_not,Decidable.not_not]at c2'
   obtain⟨z,e1,e2,e3⟩:=D0d c2'.1
   obtain⟨f1,f2⟩:=C5d c2'.2
   have hd:(K9 x.2).toNat≠0:=fun e=>c1 (Or.inr (Or.inr (by rw [f1,e];exact A9Y.2 rfl)))
   have hb:(K9 x.1.2).toNat=z.natAbs:=by rw [e2];exact B7u _
   refine Or.inr (Or.inr ⟨z,(K9 x.2).toNat,by rw [←f1,←e1,←e2],hd,e3,by rw [←f1];exact f2,?_⟩)
   unfold W0;rw [if_neg c1,if_neg c2,hb]
theorem B2s (d:ByteArray):(d.toList==(⟨#[]⟩:ByteArray).toList)=decide (d.size=0):=by
 rw [Bool.eq_iff_iff,beq_iff_eq,decide_eq_true_eq,F5Y,A3u]
theorem D9o (x:FV):Ev (fun k=>N8 k x) (W0 x):=by
 have h1:=F5L x.1.1 x.1.2
 have h2:=Go.Proofs.YtijohnkgomcdbaaGreatN.Check_ev x.2
 rcases D0P x with⟨c,e⟩| ⟨c,c2,e⟩| ⟨z,d,rfl,hd,hz,hs,e⟩
 ·rw [e]
  by_cases c1:M3 x.1.1 x.1.2=1
  ·refine M4 (H8 h1 h2) ?_
   rintro k ⟨h1,h2⟩
   try dsimp only [fr]at h1 h2
   show N8 _ _=_
   unfold N8 A2Y
   simp only [fr,t5,X7,U4,Ya,Yb,Yc,Yd,Ye,Yf,Yg,Yh,Yi,Yj,Yk,Int.reduceEq,reduceCtorEq,Yl,Ym,Yn,Yo,Yp,Yq,Yr,Ys,Yt,Yu,Yv,Yw,Yx,Yy,Yz,YA,YB,YC,h1,h2,c1]
  ·by_cases c2:I8 x.2=1
   ·refine M4 (H8 h1 h2) ?_
    rintro k ⟨h1,h2⟩
    try dsimp only [fr]at h1 h2
    show N8 _ _=_
    unfold N8 A2Y
    simp only [fr,t5,X7,U4,Ya,Yb,Yc,Yd,Ye,Yf,Yg,Yh,Yi,Yj,Yk,Int.reduceEq,reduceCtorEq,Yl,Ym,Yn,Yo,Yp,Yq,Yr,Ys,Yt,Yu,Yv,Yw,Yx,Yy,Yz,YA,YB,YC,h1,h2,c1,c2,ite_self]
   ·have c3:x.2.size=0:=by rcases c with c|c|c;exact absurd c c1;exact absurd c c2;exact c
    refine M4 (H8 h1 h2) ?_
    rintro k ⟨h1,h2⟩
    try dsimp only [fr]at h1 h2
    show N8 _ _=_
    unfold N8 A2Y
    simp only [fr,t5,X7,U4,Ya,Yb,Yc,Yd,Ye,Yf,Yg,Yh,Yi,Yj,Yk,Int.reduceEq,reduceCtorEq,Yl,Ym,Yn,Yo,Yp,Yq,Yr,Ys,Yt,Yu,Yv,Yw,Yx,Yy,Yz,YA,YB,YC,h1,h2,c1,c2,c3,B2s]
 ·rw [not_or,not_or]at c
  rw [e]
  rcases c2 with c2| ⟨c2,c3⟩
  ·have c1:=c.2.1
   have c4:=c.2.2
   refine M4 (H8 h1 h2) ?_
   rintro k ⟨h1,h2⟩
   try dsimp only [fr]at h1 h2
   show N8 _ _=_
   unfold N8 A2Y
   simp only [fr,t5,X7,U4,Ya,Yb,Yc,Yd,Ye,Yf,Yg,Yh,Yi,Yj,Yk,Int.reduceEq,reduceCtorEq,Yl,Ym,Yn,Yo,Yp,Yq,Yr,Ys,Yt,Yu,Yv,Yw,Yx,Yy,Yz,YA,YB,YC,h1,h2,c1,c2,c4,B2s]
  ·have c4:=c.2.2
   refine M4 (H8 h1 h2) ?_
   rintro k ⟨h1,h2⟩
   try dsimp only [fr]at h1 h2
   show N8 _ _=_
   unfold N8 A2Y
   simp only [fr,t5,X7,U4,Ya,Yb,Yc,Yd,Ye,Yf,Yg,Yh,Yi,Yj,Yk,Int.reduceEq,reduceCtorEq,Yl,Ym,Yn,Yo,Yp,Yq,Yr,Ys,Yt,Yu,Yv,Yw,Yx,Yy,Yz,YA,YB,YC,h1,h2,c2,c3,c4,B2s]
 ·rw [e]
  have h3:=D7z (m:=z.natAbs) (n:=d) (Nat.le_trans hz (by decide)) (Nat.le_trans hs (by decide))
  have h3':Ev (fun k=>exact_NatGcd.f k (ab z) (B2 d)) _:=h3
  dsimp only at h1 h2
  rw [C9v hz]at h1
  rw [B7p hs]at h2
  by_cases c:d=1
  ·subst c
   have e1:Nat.gcd z.natAbs 1=1:=Nat.gcd_one_right _
   refine M4 (H8 h1 h2) ?_
   rintro k ⟨h1,h2⟩
   try dsimp only [fr]at h1 h2
   show N8 _ _=_
   unfold N8 A2Y
   simp only [fr,t5,X7,U4,Ya,Yb,Yc,Yd,Ye,Yf,Yg,Yh,Yi,Yj,Yk,Int.reduceEq,reduceCtorEq,Yl,Ym,Yn,Yo,Yp,Yq,Yr,Ys,Yt,Yu,Yv,Yw,Yx,Yy,Yz,YA,YB,YC,h1,h2,W7,B0s,e1]
  ·by_cases c5:Nat.gcd z.natAbs d=1
   ·refine M4 (H8 h1 (H8 h2 h3')) ?_
    rintro k ⟨h1,h2,h3'⟩
    try dsimp only [fr]at h1 h2 h3'
    show N8 _ _=_
    unfold N8 A2Y
    simp only [fr,t5,X7,U4,Ya,Yb,Yc,Yd,Ye,Yf,Yg,Yh,Yi,Yj,Yk,Int.reduceEq,reduceCtorEq,Yl,Ym,Yn,Yo,Yp,Yq,Yr,Ys,Yt,Yu,Yv,Yw,Yx,Yy,Yz,YA,YB,YC,h1,h2,h3',W7,B0s,hd,c,c5]
   ·refine M4 (H8 h1 (H8 h2 h3')) ?_
    rintro k ⟨h1,h2,h3'⟩
    try dsimp only [fr]at h1 h2 h3'
    show N8 _ _=_
    unfold N8 A2Y
    simp only [fr,t5,X7,U4,Ya,Yb,Yc,Yd,Ye,Yf,Yg,Yh,Yi,Yj,Yk,Int.reduceEq,reduceCtorEq,Yl,Ym,Yn,Yo,Yp,Yq,Yr,Ys,Yt,Yu,Yv,Yw,Yx,Yy,Yz,YA,YB,YC,h1,h2,h3',W7,B0s,hd,c,c5]
theorem E5J (x:FV):Ev (fun k=>R5 k x) (W0 x):=by
 have f1:=F3P x.1.1 x.1.2
 have f2:=D7q x.2
 have f3:=F0x x.1.1 x.1.2
 have f4:=D6y x.2
 have k1:decide ((x.1.2.size=0∨bt x.1.2 0≠0)∧¬(x.1.1=true∧x.1.2.size=0))=!decide (M3 x.1.1 x.1.2=1):=by
  rw [Bool.eq_iff_iff,decide_eq_true_eq,Bool.not_eq_true',decide_eq_false_iff_not]
  unfold M3
  by_cases g:I8 x.1.2=1
  ·rw [if_pos g]
   have:=B9Y.1 g
   exact⟨fun q=>absurd q.1 this,fun q=>absurd rfl q⟩
  ·rw [if_neg g]
   have g2:x.1.2.size=0∨bt x.1.2 0≠0:=Decidable.not_not.1 fun q=>g (B9Y.2 q)
   by_cases g3:x.1.1=true∧x.1.2.size=0
   ·rw [if_pos g3];exact⟨fun q=>absurd g3 q.2,fun q=>absurd rfl q⟩
   ·rw [if_neg g3];exact⟨fun _=>g,fun _=>⟨g2,g3⟩⟩
 have k2:decide (x.2.size=0∨bt x.2 0≠0)=!decide (I8 x.2=1):=by
  rw [Bool.eq_iff_iff,decide_eq_true_eq,Bool.not_eq_true',decide_eq_false_iff_not]
  constructor
  ·intro q r;exact B9Y.1 r q
  ·intro q;exact Decidable.not_not.1 fun r=>q (B9Y.2 r)
 rw [k1]at f1
 rw [k2]at f2
 rcases D0P x with⟨c,e⟩| ⟨c,c2,e⟩| ⟨z,d,rfl,hd,hz,hs,e⟩
 ·rw [e]
  have f5:Z2=Z2:=rfl
  by_cases c1:M3 x.1.1 x.1.2=1
  ·refine⟨0,fun k _=>?_⟩
   show R5 _ _=_
   unfold R5 A4u
   simp only [fr,A0S,Z9,Y3,Ya,Yb,Yc,Yd,Ye,Yf,Yg,Yh,Yi,Yj,Yk,Int.reduceEq,reduceCtorEq,Yl,Ym,Yn,Yo,Yp,Yq,Yr,Ys,Yt,Yu,Yv,Yw,Yx,Yy,Yz,YA,YB,YC,f1,c1]
  ·by_cases c2:I8 x.2=1
   ·refine⟨0,fun k _=>?_⟩
    show R5 _ _=_
    unfold R5 A4u
    simp only [fr,A0S,Z9,Y3,Ya,Yb,Yc,Yd,Ye,Yf,Yg,Yh,Yi,Yj,Yk,Int.reduceEq,reduceCtorEq,Yl,Ym,Yn,Yo,Yp,Yq,Yr,Ys,Yt,Yu,Yv,Yw,Yx,Yy,Yz,YA,YB,YC,f1,f2,c1,c2]
   ·have c3:x.2.size=0:=by rcases c with c|c|c;exact absurd c c1;exact absurd c c2;exact c
    refine⟨0,fun k _=>?_⟩
    show R5 _ _=_
    unfold R5 A4u
    simp only [fr,A0S,Z9,Y3,Ya,Yb,Yc,Yd,Ye,Yf,Yg,Yh,Yi,Yj,Yk,Int.reduceEq,reduceCtorEq,Yl,Ym,Yn,Yo,Yp,Yq,Yr,Ys,Yt,Yu,Yv,Yw,Yx,Yy,Yz,YA,YB,YC,f1,f2,c1,c2,c3,B2s]
 ·rw [e]
  rw [not_or,not_or]at c
  have c1:=c.1
  have c3:=c.2.1
  have c4:=c.2.2
  have hf:Ev (fun k=>Z2 k x) 4:=by
   by_cases g:(x.1.2.size:Int)>1024
   ·rw [if_pos g]at f3
    refine⟨0,fun k _=>?_⟩
    show Z2 _ _=_
    unfold Z2 B0h
    simp only [fr,A3l,z9,Ya,Yb,Yc,Yd,Ye,Yf,Yg,Yh,Yi,Yj,Yk,Int.reduceEq,reduceCtorEq,Yl,Ym,Yn,Yo,Yp,Yq,Yr,Ys,Yt,Yu,Yv,Yw,Yx,Yy,Yz,YA,YB,YC,f3]
   ·rw [if_neg g]at f3
    have g2:(x.2.size:Int)>1024:=by
     rcases c2 with c2| ⟨c2,c5⟩
     ·exfalso
      unfold M3 at c2 c1
      split at c2
      ·cases c2
      ·split at c2
       ·cases c2
       ·rename_i q1 q2
        rw [D6h q1,if_neg g]at c2;cases c2
     ·rw [D6h c3]at c5
      split at c5
      ·assumption
      ·cases c5
    rw [if_pos g2]at f4
    refine⟨0,fun k _=>?_⟩
    show Z2 _ _=_
    unfold Z2 B0h
    simp only [fr,A3l,z9,Ya,Yb,Yc,Yd,Ye,Yf,Yg,Yh,Yi,Yj,Yk,Int.reduceEq,reduceCtorEq,Yl,Ym,Yn,Yo,Yp,Yq,Yr,Ys,Yt,Yu,Yv,Yw,Yx,Yy,Yz,YA,YB,YC,f3,f4]
  refine M4 hf ?_
  rintro k hf
  try dsimp only [fr]at hf
  show R5 _ _=_
  unfold R5 A4u
  simp only [fr,A0S,Z9,Y3,Ya,Yb,Yc,Yd,Ye,Yf,Yg,Yh,Yi,Yj,Yk,Int.reduceEq,reduceCtorEq,Yl,Ym,Yn,Yo,Yp,Yq,Yr,Ys,Yt,Yu,Yv,Yw,Yx,Yy,Yz,YA,YB,YC,hf,f1,f2,c1,c3,c4,B2s]
 ·rw [e]
  have h3:=rGcd_ev (m:=z.natAbs) (n:=d) (Nat.le_trans hz (by decide)) (Nat.le_trans hs (by decide))
  have h3':Ev (fun k=>galoisref01_Gcd.f k (ab z) (B2 d)) _:=h3
  dsimp only at f1 f2 f3 f4
  rw [C9v hz]at f1
  rw [B7p hs]at f2
  have g1:¬((ab z).size:Int)>1024:=by omega
  have g2:¬((B2 d).size:Int)>1024:=by omega
  rw [if_neg g1]at f3
  rw [if_neg g2]at f4
  have hf:Ev (fun k=>Z2 k ((ng z,ab z),B2 d)) 0:=by
   refine⟨0,fun k _=>?_⟩
   show Z2 _ _=_
   unfold Z2 B0h
   simp only [fr,A3l,z9,Ya,Yb,Yc,Yd,Ye,Yf,Yg,Yh,Yi,Yj,Yk,Int.reduceEq,reduceCtorEq,Yl,Ym,Yn,Yo,Yp,Yq,Yr,Ys,Yt,Yu,Yv,Yw,Yx,Yy,Yz,YA,YB,YC,f3,f4]
  by_cases c5:Nat.gcd z.natAbs d=1
  ·refine M4 (H8 hf h3') ?_
   rintro k ⟨hf,h3'⟩
   try dsimp only [fr]at hf h3'
   show R5 _ _=_
   unfold R5 A4u
   simp only [fr,A0S,Z9,Y3,Ya,Yb,Yc,Yd,Ye,Yf,Yg,Yh,Yi,Yj,Yk,Int.reduceEq,reduceCtorEq,Yl,Ym,Yn,Yo,Yp,Yq,Yr,Ys,Yt,Yu,Yv,Yw,Yx,Yy,Yz,YA,YB,YC,hf,h3',f1,f2,W7,B0s,hd,c5]
  ·refine M4 (H8 hf h3') ?_
   rintro k ⟨hf,h3'⟩
   try dsimp only [fr]at hf h3'
   show R5 _ _=_
   unfold R5 A4u
   simp only [fr,A0S,Z9,Y3,Ya,Yb,Yc,Yd,Ye,Yf,Yg,Yh,Yi,Yj,Yk,Int.reduceEq,reduceCtorEq,Yl,Ym,Yn,Yo,Yp,Yq,Yr,Ys,Yt,Yu,Yv,Yw,Yx,Yy,Yz,YA,YB,YC,hf,h3',f1,f2,W7,B0s,hd,c5]
theorem len1 (x:FV):(([x]:List FV).length:Int)=1:=rfl
theorem len2 (x y:FV):(([x,y]:List FV).length:Int)=2:=rfl
def wide (n:Nat) (e:Nat):Bool:=decide (n≠0∧8192≤(bl n-1)*e)
end Go.Proofs.YtijohnkgomcdbaaGreatV
namespace Go.Proofs.YtijohnkgomcdbaaGreatV
open Go Go.RowKit YtijohnkgomcdbaaGreat YtijohnkgomcdbaaGreatE YtijohnkgomcdbaaGreatW.PrintWords YtijohnkgomcdbaaGreatW.PrintLast YtijohnkgomcdbaaGreatW.PrintMore
theorem E9p (k:Nat):A3G (k+300)=some true:=by kernel_rfl
theorem C5j:Ev (fun k=>A3G k) true:=⟨300,fun k hk=>by
 obtain⟨m,rfl⟩:=Nat.exists_eq_add_of_le' hk
 exact E9p m⟩
end Go.Proofs.YtijohnkgomcdbaaGreatV
set_option maxRecDepth 100000
namespace Go.Proofs.YtijohnkgomcdbaaGreatV
open Go Go.RowKit YtijohnkgomcdbaaGreat YtijohnkgomcdbaaGreatE YtijohnkgomcdbaaGreatN YtijohnkgomcdbaaGreat.All YtijohnkgomcdbaaGreatW.PrintWords YtijohnkgomcdbaaGreatW.PrintLast YtijohnkgomcdbaaGreatW.PrintMore
theorem Sm.mono {m n:Nat} {a:Rat} (h:Sm m a) (hmn:m≤n):Sm n a:=⟨Nat.le_trans h.1 hmn,Nat.le_trans h.2 hmn⟩
theorem Sm.mk_ {n:Int} {d s:Nat} (hn:(ab n).size≤s) (hd:(B2 d).size≤s) (h0:d≠0):Sm s (mkRat n d):=by
 have hg:Nat.gcd d n.natAbs≠0:=fun e=>h0 (Nat.gcd_eq_zero_iff.1 e).1
 constructor
 ·rw [Rat.num_mkRat,if_neg h0]
  obtain⟨c,hc⟩:=Nat.gcd_dvd_right d n.natAbs
  have hi:∃z:Int,n=(Nat.gcd d n.natAbs:Int)*z:=by
   have:(Nat.gcd d n.natAbs:Int)∣n:=Int.dvd_natAbs.1 (Int.natCast_dvd_natCast.2 (Nat.gcd_dvd_right d n.natAbs))
   exact this
  obtain⟨z,hz⟩:=hi
  have e:n/(Nat.gcd d n.natAbs:Int)=z:=by
   conv=>lhs;lhs;rw [hz]
   exact Int.mul_ediv_cancel_left _ (by omega)
  rw [e]
  refine Nat.le_trans (A4g ?_) hn
  have:n.natAbs=Nat.gcd d n.natAbs*z.natAbs:=by
   conv=>lhs;rw [hz]
   rw [Int.natAbs_mul,Int.natAbs_natCast]
  rw [this]
  exact Nat.le_mul_of_pos_left _ (Nat.pos_of_ne_zero hg)
 ·rw [Rat.den_mkRat,if_neg h0]
  exact Nat.le_trans (C9o _ _) hd
section
variable {a b:Rat} {m n:Nat}
theorem Sm.add (ha:Sm m a) (hb:Sm n b):Sm (m+n+1) (a+b):=by
 rw [Rat.add_def']
 refine Sm.mk_ (B3o (A1R ha.1 (n:=n) (by rw [Y8];exact hb.2)) (Nat.le_trans (A1R hb.1 (n:=m) (by rw [Y8];exact ha.2)) (by omega))) (Nat.le_trans (b7 ha.2 hb.2) (by omega)) (Nat.mul_ne_zero a.den_nz b.den_nz)
theorem Sm.sub (ha:Sm m a) (hb:Sm n b):Sm (m+n+1) (a-b):=by rw [Rat.sub_eq_add_neg];exact ha.add hb.neg
theorem Sm.mul (ha:Sm m a) (hb:Sm n b):Sm (m+n) (a*b):=by
 rw [Rat.mul_def']
 exact Sm.mk_ (A1R ha.1 hb.1) (b7 ha.2 hb.2) (Nat.mul_ne_zero a.den_nz b.den_nz)
end
def lng (x y:FV) (n:Nat):Bool:=decide (n<x.1.2.size∨n<x.2.size∨n<y.1.2.size∨n<y.2.size)
def fine (x y z:FV):Bool:=!lng x y 30&&!lng z z 30&&decide (W0 x=0)&&decide (W0 y=0)&&decide (W0 z=0)
theorem E4S {n d:Int} (hn:(ab n).size≤1099511627776) (hd:(ab d).size≤1099511627776) (h0:d≠0):Ev (fun k=>v4 k (ng n,ab n) (ng d,ab d)) (fr (Rat.divInt n d)):=by
 have h1:=Go.Proofs.YtijohnkgomcdbaaGreatN.rGcd_ev (m:=n.natAbs) (n:=d.natAbs) hn hd
 have hg:=Nat.pos_of_ne_zero (C7F (n:=n) h0)
 have sg_:(B2 (Nat.gcd n.natAbs d.natAbs)).size≤1099511627776:=Nat.le_trans (A4g (Nat.le_of_dvd (by omega) (Nat.gcd_dvd_right _ _))) hd
 have h2:=Go.Proofs.YtijohnkgomcdbaaGreatN.rDivMod_ev (m:=n.natAbs) hn sg_
 have h3:=Go.Proofs.YtijohnkgomcdbaaGreatN.rDivMod_ev (m:=d.natAbs) hd sg_
 rw [if_neg (Nat.ne_of_gt hg)]at h2 h3
 have f1:=B3t (ng n !=ng d) (n.natAbs/Nat.gcd n.natAbs d.natAbs)
 have f3:=B9e (n:=n) h0
 rw [←f3]
 have h1':Ev (fun k=>galoisref01_Gcd.f k (ab n) (ab d)) _:=h1
 have h2':Ev (fun k=>galoisref01_DivMod.f k (ab n) (B2 (Nat.gcd n.natAbs d.natAbs))) _:=h2
 have h3':Ev (fun k=>galoisref01_DivMod.f k (ab d) (B2 (Nat.gcd n.natAbs d.natAbs))) _:=h3
 refine M4 (H8 h1' (H8 h2' h3')) ?_
 rintro k ⟨h1',h2',h3'⟩
 try dsimp only [fr]at h1' h2' h3'
 show v4 _ _ _=_
 unfold v4 B9R
 simp only [fr,Y3,l5,A0E,Ya,Yb,Yc,Yd,Ye,Yf,Yg,Yh,Yi,Yj,Yk,Int.reduceEq,reduceCtorEq,Yl,Ym,Yn,Yo,Yp,Yq,Yr,Ys,Yt,Yu,Yv,Yw,Yx,Yy,Yz,YA,YB,YC,h1',h2',h3',B9N,C3i,f1,h0]
theorem D4Z {n:Int} {d:Nat} (hn:(ab n).size≤1099511627776) (hd:(B2 d).size≤1099511627776) (h0:d≠0):Ev (fun k=>v4 k (ng n,ab n) (false,B2 d)) (fr (mkRat n d)):=by
 have h:=E4S (d:=(d:Int)) hn (by rw [Y8];exact hd) (by omega)
 rwa [B4u,Y8,Rat.divInt_ofNat]at h
theorem C6P {x:Int} {d:Nat} (hx:(ab x).size≤10000) (hd:(B2 d).size≤10000):Ev (fun k=>galoisref02_Mul.f k (ng x) (ab x) false (B2 d)) (ng (x*d),ab (x*d)):=by
 have h:=D8u (x:=x) (y:=(d:Int)) (Nat.le_trans hx (by decide)) (by rw [Y8];exact Nat.le_trans hd (by decide))
 rwa [B4u,Y8]at h
theorem D1g {d e:Nat} (hd:(B2 d).size≤10000) (he:(B2 e).size≤10000):Ev (fun k=>galoisref02_Mul.f k false (B2 d) false (B2 e)) (false,B2 (d*e)):=by
 have h:=C6P (x:=(d:Int)) (by rw [Y8];exact hd) he
 rwa [←Int.natCast_mul,B4u,Y8,B4u,Y8]at h
section
variable {a b:Rat}
theorem szD {x:Int} {d:Nat} (hx:(ab x).size≤10000) (hd:(B2 d).size≤10000):(ab (x*d)).size≤20000:=Nat.le_trans (A1R hx (n:=10000) (by rw [Y8];exact hd)) (by decide)
theorem D1m (ha:Sm 10000 a) (hb:Sm 10000 b):Ev (fun k=>P3 k (fr a) (fr b)) (fr (a+b)):=by
 have h1:=C6P ha.1 hb.2
 have h2:=C6P hb.1 ha.2
 have s1:=szD ha.1 hb.2
 have s2:=szD hb.1 ha.2
 have h3:=D6m (Nat.le_trans s1 (by decide)) (Nat.le_trans s2 (by decide))
 have h4:=D1g ha.2 hb.2
 have h5:=D4Z (n:=a.num*b.den+b.num*a.den) (d:=a.den*b.den) (Nat.le_trans (B3o s1 s2) (by decide)) (Nat.le_trans (b7 ha.2 hb.2) (by decide)) (Nat.mul_ne_zero a.den_nz b.den_nz)
 rw [←Rat.add_def']at h5
 by_cases h1d:a.den=1
 ·by_cases h2d:b.den=1
  ·have h6:=D6m (x:=a.num) (y:=b.num) (Nat.le_trans ha.1 (by decide)) (Nat.le_trans hb.1 (by decide))
   rw [←D4A h1d h2d]
   refine M4 h6 ?_
   rintro k h6
   try dsimp only [fr]at h6
   show P3 _ _ _=_
   unfold P3 B0L
   simp only [fr,b6,A4f,A3d,e9,d5,A5N,Ya,Yb,Yc,Yd,Ye,Yf,Yg,Yh,Yi,Yj,Yk,Int.reduceEq,reduceCtorEq,Yl,Ym,Yn,Yo,Yp,Yq,Yr,Ys,Yt,Yu,Yv,Yw,Yx,Yy,Yz,YA,YB,YC,h6,W7,h1d,h2d]
  ·refine M4 (H8 h1 (H8 h2 (H8 h3 (H8 h4 h5)))) ?_
   rintro k ⟨h1,h2,h3,h4,h5⟩
   try dsimp only [fr]at h1 h2 h3 h4 h5
   show P3 _ _ _=_
   unfold P3 B0L
   simp only [fr,b6,A4f,A3d,e9,d5,A5N,Ya,Yb,Yc,Yd,Ye,Yf,Yg,Yh,Yi,Yj,Yk,Int.reduceEq,reduceCtorEq,Yl,Ym,Yn,Yo,Yp,Yq,Yr,Ys,Yt,Yu,Yv,Yw,Yx,Yy,Yz,YA,YB,YC,h1,h2,h3,h4,h5,W7,h2d,ite_self]
 ·refine M4 (H8 h1 (H8 h2 (H8 h3 (H8 h4 h5)))) ?_
  rintro k ⟨h1,h2,h3,h4,h5⟩
  try dsimp only [fr]at h1 h2 h3 h4 h5
  show P3 _ _ _=_
  unfold P3 B0L
  simp only [fr,b6,A4f,A3d,e9,d5,A5N,Ya,Yb,Yc,Yd,Ye,Yf,Yg,Yh,Yi,Yj,Yk,Int.reduceEq,reduceCtorEq,Yl,Ym,Yn,Yo,Yp,Yq,Yr,Ys,Yt,Yu,Yv,Yw,Yx,Yy,Yz,YA,YB,YC,h1,h2,h3,h4,h5,W7,h1d]
theorem C3t (ha:Sm 10000 a) (hb:Sm 10000 b):Ev (fun k=>N2 k (fr a) (fr b)) (fr (a*b)):=by
 have h1:=D8u (Nat.le_trans ha.1 (by decide)) (Nat.le_trans hb.1 (by decide))
 have h2:=D1g ha.2 hb.2
 have h3:=D4Z (n:=a.num*b.num) (d:=a.den*b.den) (Nat.le_trans (A1R ha.1 hb.1) (by decide)) (Nat.le_trans (b7 ha.2 hb.2) (by decide)) (Nat.mul_ne_zero a.den_nz b.den_nz)
 rw [←Rat.mul_def']at h3
 by_cases h1d:a.den=1
 ·by_cases h2d:b.den=1
  ·rw [←D0E h1d h2d]
   refine M4 h1 ?_
   rintro k h1
   try dsimp only [fr]at h1
   show N2 _ _ _=_
   unfold N2 A9W
   simp only [fr,b6,A4f,e9,d5,A5N,Ya,Yb,Yc,Yd,Ye,Yf,Yg,Yh,Yi,Yj,Yk,Int.reduceEq,reduceCtorEq,Yl,Ym,Yn,Yo,Yp,Yq,Yr,Ys,Yt,Yu,Yv,Yw,Yx,Yy,Yz,YA,YB,YC,h1,W7,h1d,h2d]
  ·refine M4 (H8 h1 (H8 h2 h3)) ?_
   rintro k ⟨h1,h2,h3⟩
   try dsimp only [fr]at h1 h2 h3
   show N2 _ _ _=_
   unfold N2 A9W
   simp only [fr,b6,A4f,e9,d5,A5N,Ya,Yb,Yc,Yd,Ye,Yf,Yg,Yh,Yi,Yj,Yk,Int.reduceEq,reduceCtorEq,Yl,Ym,Yn,Yo,Yp,Yq,Yr,Ys,Yt,Yu,Yv,Yw,Yx,Yy,Yz,YA,YB,YC,h1,h2,h3,W7,h2d,ite_self]
 ·refine M4 (H8 h1 (H8 h2 h3)) ?_
  rintro k ⟨h1,h2,h3⟩
  try dsimp only [fr]at h1 h2 h3
  show N2 _ _ _=_
  unfold N2 A9W
  simp only [fr,b6,A4f,e9,d5,A5N,Ya,Yb,Yc,Yd,Ye,Yf,Yg,Yh,Yi,Yj,Yk,Int.reduceEq,reduceCtorEq,Yl,Ym,Yn,Yo,Yp,Yq,Yr,Ys,Yt,Yu,Yv,Yw,Yx,Yy,Yz,YA,YB,YC,h1,h2,h3,W7,h1d]
theorem E2P (h:a≠0):a.num≠0:=fun e=>h (Rat.num_eq_zero.1 e)
theorem F5f (h:a≠0):Ev (fun k=>A3p k (fr a)) (fr a⁻¹):=by
 have h0:=E2P h
 rw [C6m h]
 refine⟨0,fun k _=>?_⟩
 show A3p _ _=_
 unfold A3p B6z
 simp only [fr,Ya,Yb,Yc,Yd,Ye,Yf,Yg,Yh,Yi,Yj,Yk,Int.reduceEq,reduceCtorEq,Yl,Ym,Yn,Yo,Yp,Yq,Yr,Ys,Yt,Yu,Yv,Yw,Yx,Yy,Yz,YA,YB,YC,B9N,h0]
theorem E8d (ha:Sm 10000 a) (hb:Sm 10000 b) (h:b≠0):Ev (fun k=>A0H k (fr a) (fr b)) (fr (a/b)):=by
 have h1:=F5f h
 have h2:=C3t ha (hb.inv h)
 rw [←Rat.div_def]at h2
 refine M4 (H8 h1 h2) ?_
 rintro k ⟨h1,h2⟩
 try dsimp only [fr]at h1 h2
 show A0H _ _ _=_
 unfold A0H B99
 simp only [fr,Ya,Yb,Yc,Yd,Ye,Yf,Yg,Yh,Yi,Yj,Yk,Int.reduceEq,reduceCtorEq,Yl,Ym,Yn,Yo,Yp,Yq,Yr,Ys,Yt,Yu,Yv,Yw,Yx,Yy,Yz,YA,YB,YC,h1,h2]
end
theorem D6C:Sm 1 0:=⟨by decide +kernel,by decide +kernel⟩
end Go.Proofs.YtijohnkgomcdbaaGreatV
set_option maxRecDepth 100000
namespace Go.Proofs.YtijohnkgomcdbaaGreatV
open Go Go.RowKit Go.Proofs.YtijohnkgomcdbaaGreat Go.Proofs.YtijohnkgomcdbaaGreatE Go.Proofs.YtijohnkgomcdbaaGreatN Go.Proofs.YtijohnkgomcdbaaGreat.All Go.Proofs.YtijohnkgomcdbaaGreatW.PrintWords Go.Proofs.YtijohnkgomcdbaaGreatW.PrintLast Go.Proofs.YtijohnkgomcdbaaGreatW.PrintMore
abbrev FP:=List FV
abbrev d0:FV:=((false,(⟨#[]⟩:ByteArray)),(⟨#[]⟩:ByteArray))
theorem C2 {β:Type} {c:Prop} [Decidable c] {a b:Nat→Option β} {r:β} (h:c) (k:Ev a r):Ev (fun n=>if c then a n else b n) r:=Ev.congr (fun n=>if_pos h) k
theorem D6 {β:Type} {c:Prop} [Decidable c] {a b:Nat→Option β} {r:β} (h:¬c) (k:Ev b r):Ev (fun n=>if c then a n else b n) r:=Ev.congr (fun n=>if_neg h) k
theorem A4L {β:Type} {c:Bool} {a b:Nat→Option β} {r:β} (h:c=true) (k:Ev a r):Ev (fun n=>B3 c (a n) (b n)) r:=by subst h;exact k
theorem A2P {β:Type} {c:Bool} {a b:Nat→Option β} {r:β} (h:c=false) (k:Ev b r):Ev (fun n=>B3 c (a n) (b n)) r:=by subst h;exact k
theorem V9 {β:Type} {i n m:Int} {a b:Nat→Option β} {r:β} (h1:i<n) (h0:0≤i) (h2:i<m) (k:Ev a r):Ev (fun x=>if i<n then(if 0≤i then(if i<m then a x else none)else none)else b x) r:=C2 h1 (C2 h0 (C2 h2 k))
theorem O0 {β:Type} {i m:Int} {a:Nat→Option β} {r:β} (h0:0≤i) (h2:i<m) (k:Ev a r):Ev (fun x=>if 0≤i then(if i<m then a x else none)else none) r:=C2 h0 (C2 h2 k)
theorem J0 {β:Type} {c d:Prop} [Decidable c] [Decidable d] {a b:Nat→Option β} {r1 r2:β} (e:c↔d) (h1:d→Ev a r1) (h2:¬d→Ev b r2):Ev (fun n=>if c then a n else b n) (if d then r1 else r2):=by
  by_cases h:d
  · rw [if_pos h];exact C2 (e.2 h) (h1 h)
  · rw [if_neg h];exact D6 (fun x=>h (e.1 x)) (h2 h)
theorem A3S {β:Type} {c:Bool} {a b:Nat→Option β} {r1 r2:β} (h1:c=true→Ev a r1) (h2:c=false→Ev b r2):Ev (fun n=>B3 c (a n) (b n)) (if c=true then r1 else r2):=by
  cases c with
  |true=>exact h1 rfl
  |false=>exact h2 rfl
theorem J6 {x:Int} (h1: -9223372036854775808≤x) (h2:x<9223372036854775808):wrap64 x=x:=by unfold wrap64;omega
theorem B5h {α:Type} {d:α} (pre:List α) (a:α) (post:List α):C5 d (pre++a::post) (pre.length:Int)=a:=by
  unfold C5;rw [Int.toNat_natCast,List.getD_eq_getElem?_getD,List.getElem?_append_right (Nat.le_refl _)];simp
theorem D4k {α S R:Type} {d:α} {l:List α} (hl:l.length<1099511627776) (g:Nat→Int→S→Option R) (F:Nat→S→List α→R) (I:Nat→S→Prop)
    (hT:∀s,I l.length s→Ev (fun k=>g (k+1) (l.length:Int) s) (F l.length s []))
    (hC:∀pre a post s,l=pre++a::post→(pre.length:Int)<l.length→C5 d l (pre.length:Int)=a→I pre.length s→
      (∀s',I (pre.length+1) s'→Ev (fun k=>g k (wrap64 ((pre.length:Int)+1)) s') (F (pre.length+1) s' post))→Ev (fun k=>g (k+1) (pre.length:Int) s) (F pre.length s (a::post))):
    ∀(post pre:List α) (s:S),l=pre++post→I pre.length s→Ev (fun k=>g k (pre.length:Int) s) (F pre.length s post)
  | [],pre,s,hp,hI=>by
    have e:l.length=pre.length:=by rw [hp,List.append_nil]
    refine Ev.step (f:=fun k=>g (k+1) (pre.length:Int) s) (fun k=>rfl) ?_
    have:=hT s (by rw [e];exact hI)
    rwa [e]at this
  | a::post,pre,s,hp,hI=>by
    have e:l.length=pre.length+post.length+1:=by rw [hp,List.length_append,List.length_cons];omega
    refine Ev.step (f:=fun k=>g (k+1) (pre.length:Int) s) (fun k=>rfl) ?_
    refine hC pre a post s hp (by omega) (by rw [hp];exact B5h pre a post) hI fun s' hI'=>?_
    have h:=D4k hl g F I hT hC post (pre++[a]) s' (by rw [hp,List.append_assoc];rfl) (by rw [List.length_append];exact hI')
    have e3:wrap64 ((pre.length:Int)+1)=((pre++[a]).length:Int):=by rw [J6 (by omega) (by omega),List.length_append];rfl
    rw [e3]
    rwa [show(pre++[a]).length=pre.length+1 from by rw [List.length_append];rfl]at h⊢
theorem u9 {α S R:Type} {d:α} {l:List α} (hl:l.length<1099511627776) (g:Nat→Int→S→Option R) (F:Nat→S→List α→R) (I:Nat→S→Prop) (s:S) (h0:I 0 s)
    (hT:∀s,I l.length s→Ev (fun k=>g (k+1) (l.length:Int) s) (F l.length s []))
    (hC:∀pre a post s,l=pre++a::post→(pre.length:Int)<l.length→C5 d l (pre.length:Int)=a→I pre.length s→
      (∀s',I (pre.length+1) s'→Ev (fun k=>g k (wrap64 ((pre.length:Int)+1)) s') (F (pre.length+1) s' post))→Ev (fun k=>g (k+1) (pre.length:Int) s) (F pre.length s (a::post))):
    Ev (fun k=>g k 0 s) (F 0 s l):=D4k hl g F I hT hC l [] s rfl h0
theorem B3g {α:Type} {d:α} {l:List α} (hl:l.length<1099511627776) (hne:l≠[]):∃x,l.getLast?=some x∧(0:Int)<l.length∧0≤wrap64 ((l.length:Int)-1)∧wrap64 ((l.length:Int)-1)<(l.length:Int)∧C5 d l (wrap64 ((l.length:Int)-1))=x:=by
  have e:=List.dropLast_concat_getLast hne
  have hp:0<l.length:=List.length_pos_iff.2 hne
  have w:wrap64 ((l.length:Int)-1)=((l.dropLast.length:Nat):Int):=by rw [J6 (by omega) (by omega),List.length_dropLast];omega
  refine⟨l.getLast hne,List.getLast?_eq_some_getLast hne,by omega,by rw [w];omega,by rw [w,List.length_dropLast];omega,?_⟩
  rw [w]
  conv=>lhs;rw [←e]
  have:=B5h (d:=d) l.dropLast (l.getLast hne) []
  simpa using this
def X8 {α:Type} (ck:α→Int) (t:Int):List α→Int
  | []=>t
  |a::l=>if ck a≠0 then ck a else X8 ck t l
theorem D0B {α:Type} {ck:α→Int} {t:Int}:∀{l:List α},X8 ck t l=0→(∀x,x∈l→ck x=0)∧t=0
  | [],h=>⟨fun _ hx=>by simp at hx,h⟩
  | a::l,h=>by
    unfold X8 at h
    by_cases c:ck a≠0
    · rw [if_pos c]at h;exact absurd h c
    · rw [if_neg c]at h
      have ih:=D0B h
      exact⟨fun x hx=>by rcases List.mem_cons.1 hx with rfl|hx;exact Decidable.not_not.1 c;exact ih.1 x hx,ih.2⟩
def zq (x:FV):Bool:=F0 x.1.2 ⟨#[]⟩
def A4a (f:FP):Int:=match f.getLast? with|none=>0|some x=>if zq x=true then 1 else 0
def W6 (f:FP):Int:=if 65<f.length then 4 else X8 W0 (A4a f) f
theorem E8U {x:FV} (h:W0 x=0):Ev (fun k=>R0 k x) (if zq x=true then 0 else if x.1.1=true then -1 else 1):=by
  obtain⟨a,rfl,_⟩:=D6H h
  have f1:=D6n a.num
  have e:zq (fr a)=decide (a.num=0):=by unfold zq fr;rw [F5];exact B9N a.num
  rw [e]
  have e2:(if decide (a.num=0)=true then(0:Int)else if(fr a).1.1=true then -1 else 1)=sgn a.num:=by
    unfold sgn fr ng
    by_cases c:a.num=0
    · simp [c]
    · by_cases c2:a.num<0<;>simp [c,c2]
  rw [e2]
  refine⟨0,fun k _=>?_⟩
  show R0 _ _=_
  unfold R0 B4t
  simp only [fr,A4d,Ya,Yb,Yc,Yd,Ye,Yf,Yg,Yh,Yi,Yj,Yk,Int.reduceEq,reduceCtorEq,Yl,Ym,Yn,Yo,Yp,Yq,Yr,Ys,Yt,Yu,Yv,Yw,Yx,Yy,Yz,YA,YB,YC,f1]
theorem B9t (x:FV):Ev (fun k=>J9 k x) (zq x):=Ev.now _
theorem E5b {α:Type} {l pre post:List α} {a:α} {p:α→Prop} (h:l=pre++a::post) (h1:∀x,x∈l.take pre.length→p x) (h2:p a):∀x,x∈l.take (pre.length+1)→p x:=by
  subst h
  intro x hx
  have e:(pre++a::post).take (pre.length+1)=pre++[a]:=by rw [List.take_append,List.take_of_length_le (Nat.le_succ _)];simp
  rw [e,List.mem_append]at hx
  rcases hx with hx|hx
  · exact h1 x (by rw [List.take_left];exact hx)
  · rw [List.mem_singleton.1 hx];exact h2
theorem D4W (f:FP):Ev (fun k=>A0B k f) (W6 f):=by
  show Ev (fun k=>B3S (A0U k) _) _
  unfold B3S
  refine J0 (by omega) (fun _=>Ev.now _) fun c=>u9 (d:=d0) (by omega) (fun k i (_:Unit)=>A0U k f f (f.length:Int) i) (fun _ _=>X8 W0 (A4a f)) (fun _ _=>True) () trivial ?_ ?_
  · intro _ _
    show Ev (fun k=>A7v (A0U k) (J9 k) (N8 k) _ _ _ _) _
    unfold A7v
    refine D6 (Int.lt_irrefl _) ?_
    show Ev _ (A4a f)
    unfold A4a
    by_cases hn:f=[]
    · subst hn;exact D6 (by simp) (Ev.now _)
    · obtain⟨x,h1,h2,h3,h4,h5⟩:=B3g (d:=d0) (by omega:f.length<1099511627776) hn
      rw [h5,h1]
      exact C2 h2 (C2 h3 (C2 h4 (Ev.bind (B9t x) (A3S (fun _=>Ev.now _) fun _=>Ev.now _))))
  · intro pre a post _ hp hi hr _ ih
    show Ev (fun k=>A7v (A0U k) (J9 k) (N8 k) _ _ _ _) _
    unfold A7v
    refine V9 hi (by omega) hi ?_
    rw [hr]
    exact Ev.bind (D9o a) (J0 Iff.rfl (fun _=>Ev.now _) fun _=>ih () trivial)
theorem C5W (f:FP):Ev (fun k=>V3 k f) (W6 f):=by
  show Ev (fun k=>B69 (A0p k) _) _
  unfold B69
  refine J0 (by omega) (fun _=>Ev.now _) fun c=>u9 (d:=d0) (by omega) (fun k i (_:Unit)=>A0p k f f (f.length:Int) i) (fun _ _=>X8 W0 (A4a f)) (fun n _=>∀x,x∈f.take n→W0 x=0) () (by simp) ?_ ?_
  · intro _ hI
    show Ev (fun k=>A9C (A0p k) (R0 k) (R5 k) _ _ _ _) _
    unfold A9C
    refine D6 (Int.lt_irrefl _) ?_
    show Ev _ (A4a f)
    unfold A4a
    by_cases hn:f=[]
    · subst hn;exact D6 (by simp) (Ev.now _)
    · obtain⟨x,h1,h2,h3,h4,h5⟩:=B3g (d:=d0) (by omega:f.length<1099511627776) hn
      rw [h5,h1]
      refine C2 h2 (C2 h3 (C2 h4 (Ev.bind (E8U (hI x (by rw [List.take_length];exact List.mem_of_getLast? h1))) ?_)))
      show Ev _ (if zq x=true then 1 else 0)
      cases zq x with
      |true=>exact C2 rfl (Ev.now _)
      |false=>cases x.1.1<;>exact D6 (by decide) (Ev.now _)
  · intro pre a post _ hp hi hr hI ih
    show Ev (fun k=>A9C (A0p k) (R0 k) (R5 k) _ _ _ _) _
    unfold A9C
    refine V9 hi (by omega) hi ?_
    rw [hr]
    exact Ev.bind (E5J a) (J0 Iff.rfl (fun _=>Ev.now _) fun c2=>ih () (E5b hp hI (Decidable.not_not.1 c2)))
end Go.Proofs.YtijohnkgomcdbaaGreatV
set_option maxRecDepth 100000
namespace Go.Proofs.YtijohnkgomcdbaaGreatV
open Go Go.RowKit YtijohnkgomcdbaaGreat YtijohnkgomcdbaaGreatE YtijohnkgomcdbaaGreatN YtijohnkgomcdbaaGreat.All YtijohnkgomcdbaaGreatW.PrintWords YtijohnkgomcdbaaGreatW.PrintLast YtijohnkgomcdbaaGreatW.PrintMore
theorem Sm.quo {n d:Int} {s:Nat} (hn:(ab n).size≤s) (hd:(ab d).size≤s) (h0:d≠0):Sm s (Rat.divInt n d):=by
 have e:=B9e (n:=n) h0
 unfold fr at e
 rw [Prod.mk.injEq,Prod.mk.injEq,B7z]at e
 exact⟨by rw [←e.1.2];exact Nat.le_trans (C9o _ _) hn,by rw [←e.2];exact Nat.le_trans (C9o _ _) hd⟩
theorem F3v {x:Int} (h1: -9223372036854775808≤x) (h2:x<9223372036854775808):Ev (fun k=>exact_IntOf.f k x) (ng x,ab x):=by
 by_cases h:x<0
 ·rw [A4Z h]
  have e:IntKind.u64.wrap (-(IntKind.u64.wrap x))=((x.natAbs:Nat):Int):=by
   rw [IntKind.wrap_u64,IntKind.wrap_u64]
   omega
  have:=D0b (u:=x.natAbs) (by omega)
  rw [←e]at this
  exact Ev.congr (fun k=>if_pos h) (Ev.bind this (Ev.now _))
 ·rw [A4s (by omega)]
  have e:IntKind.u64.wrap x=((x.natAbs:Nat):Int):=by
   rw [IntKind.wrap_u64]
   omega
  have:=D0b (u:=x.natAbs) (by omega)
  rw [←e]at this
  exact Ev.congr (fun k=>if_neg h) (Ev.bind this (Ev.now _))
end Go.Proofs.YtijohnkgomcdbaaGreatV
set_option maxRecDepth 100000
namespace Go.Proofs.YtijohnkgomcdbaaGreatV
open Go Go.RowKit Go.Proofs.YtijohnkgomcdbaaGreat Go.Proofs.YtijohnkgomcdbaaGreatE Go.Proofs.YtijohnkgomcdbaaGreatN Go.Proofs.YtijohnkgomcdbaaGreat.All Go.Proofs.YtijohnkgomcdbaaGreatW.PrintWords Go.Proofs.YtijohnkgomcdbaaGreatW.PrintLast Go.Proofs.YtijohnkgomcdbaaGreatW.PrintMore
theorem C0D {i:Int} (h1: -9223372036854775808≤i) (h2:i<9223372036854775808):Ev (fun k=>E6 k i) (fr (i:Rat)):=by
  have h:=F3v h1 h2
  rw [C0B,A9T]
  refine M4 h ?_
  rintro k h
  try dsimp only [fr]at h
  show E6 _ _=_
  unfold E6 B89
  simp only [fr,S5,A3g,A6U,Ya,Yb,Yc,Yd,Ye,Yf,Yg,Yh,Yi,Yj,Yk,Int.reduceEq,reduceCtorEq,Yl,Ym,Yn,Yo,Yp,Yq,Yr,Ys,Yt,Yu,Yv,Yw,Yx,Yy,Yz,YA,YB,YC,h]
theorem B4c {i:Int} (h1: -9223372036854775808≤i) (h2:i<9223372036854775808):Ev (fun k=>F4 k i) (fr (i:Rat)):=by
  have h:=E8s h1 h2
  rw [C0B,A9T]
  refine M4 h ?_
  rintro k h
  try dsimp only [fr]at h
  show F4 _ _=_
  unfold F4 B81
  simp only [fr,A6M,Ya,Yb,Yc,Yd,Ye,Yf,Yg,Yh,Yi,Yj,Yk,Int.reduceEq,reduceCtorEq,Yl,Ym,Yn,Yo,Yp,Yq,Yr,Ys,Yt,Yu,Yv,Yw,Yx,Yy,Yz,YA,YB,YC,h]
def ix {α:Type} (p:α→Bool):Nat→List α→Int
  |_,[]=> -1
  |n,a::l=>if p a=true then(n:Int)else ix p (n+1) l
theorem B4B {α:Type} (p:α→Bool):∀(l:List α) (n:Nat),decide (ix p n l≥0)=l.any p
  | [],n=>rfl
  | a::l,n=>by
    unfold ix
    rw [List.any_cons]
    cases hp:p a with
    |true=>rw [if_pos rfl];simp
    |false=>rw [if_neg (by decide),B4B p l,Bool.false_or]
theorem C5J {f:FP} (h:W6 f=0):f.length≤65:=by
  unfold W6 at h
  by_cases c:65<f.length
  · rw [if_pos c]at h;cases h
  · omega
def B1E (x:FV):Bool:=(((x.1.1==(fr ((1:Int):Rat)).1.1)&&(F0 x.1.2 (fr ((1:Int):Rat)).1.2))&&(F0 x.2 (fr ((1:Int):Rat)).2))
def B0e (m:FP):Bool:=match m.getLast? with|none=>false|some x=>B1E x
def wh (x:FV):Bool:=F0 x.2 ⟨#[1]⟩
def form (m:FP):Int:=if W6 m≠0 then W6 m else if m.length<2 then 1 else if(!B0e m)=true then 1 else if(!m.all wh)=true then 1 else if 25<m.length then 4 else 0
theorem F1Q {m:FP} (hl:m.length<1099511627776):Ev (fun k=>A5i k m) (ix (fun x=>!wh x) 0 m):=by
  show Ev (fun k=>B3V (A0V k) _) _
  unfold B3V
  refine u9 (d:=d0) hl (fun k i (_:Unit)=>A0V k m (m.length:Int) i) (fun n _ l=>ix (fun x=>!wh x) n l) (fun _ _=>True) () trivial ?_ ?_
  · intro _ _
    show Ev (fun k=>A7n (A0V k) (A2m k) _ _ _) _
    unfold A7n
    exact D6 (Int.lt_irrefl _) (Ev.now _)
  · intro pre a post _ hp hi hr _ ih
    show Ev (fun k=>A7n (A0V k) (A2m k) _ _ _) _
    unfold A7n
    refine V9 hi (by omega) hi ?_
    rw [hr]
    have h1:Ev (fun k=>A2m k a) (!wh a):=Ev.now _
    exact Ev.bind h1 (A3S (fun _=>Ev.now _) fun _=>ih () trivial)
theorem E8v {α:Type} (p:α→Bool) (l:List α):l.any (fun x=>!p x)=!l.all p:=by
  induction l with
  |nil=>rfl
  |cons a l ih=>rw [List.any_cons,List.all_cons,ih,Bool.not_and]
theorem D3F {m:FP} {x:FV} (h1:m.getLast?=some x):B0e m=B1E x:=by unfold B0e;rw [h1]
theorem E0c (m:FP):Ev (fun k=>A3Z k m) (form m):=by
  show Ev (fun k=>B3A (E6 k) (A0B k) (A4Y k) _) _
  unfold B3A
  refine Ev.bind (D4W m) (J0 Iff.rfl (fun _=>Ev.now _) fun c=>?_)
  have hl:=C5J (Decidable.not_not.1 c)
  have w:wrap64 ((m.length:Int)-1)=(m.length:Int)-1:=J6 (by omega) (by omega)
  refine J0 (by rw [w];omega) (fun _=>Ev.now _) fun c2=>?_
  obtain⟨x,h1,h2,h3,h4,h5⟩:=B3g (d:=d0) (by omega:m.length<1099511627776) (fun e=>c2 (by rw [e];decide))
  refine C2 h3 (C2 h4 (Ev.bind (C0D (by decide) (by decide)) ?_))
  rw [h5,D3F h1]
  refine A3S (c:=!B1E x) (fun _=>Ev.now _) fun _=>?_
  have h6:Ev (fun k=>A4Y k m) (!m.all wh):=by
    rw [←E8v,←B4B _ _ 0]
    exact Ev.bind (F1Q (by omega)) (Ev.now _)
  refine Ev.bind h6 (A3S (fun _=>Ev.now _) fun _=>?_)
  exact J0 (by rw [w];omega) (fun _=>Ev.now _) fun _=>Ev.now _
theorem C0q {m:FP} (hl:m.length<1099511627776):Ev (fun k=>S7 k m) ((m.length:Int)-1):=by
  have w:wrap64 ((m.length:Int)-1)=(m.length:Int)-1:=J6 (by omega) (by omega)
  show Ev (fun k=>some (wrap64 ((m.length:Int)-1))) _
  rw [w];exact Ev.now _
theorem B9z (m:FP):Ev (fun k=>O6 k m) (form m):=by
  show Ev (fun k=>B13 (A1M k) (V3 k) (Y6 k) (F4 k) _) _
  unfold B13
  refine Ev.bind (C5W m) (J0 Iff.rfl (fun _=>Ev.now _) fun c=>?_)
  have hl:=C5J (Decidable.not_not.1 c)
  refine J0 (by omega) (fun _=>Ev.now _) fun c2=>?_
  obtain⟨x,h1,h2,h3,h4,h5⟩:=B3g (d:=d0) (by omega:m.length<1099511627776) (fun e=>c2 (by rw [e];decide))
  have hL:Ev (fun k=>Y6 k m) x:=by
    show Ev (fun k=>B80 (F4 k) _) _
    unfold B80
    refine D6 (by omega) (C2 h3 (C2 h4 ?_))
    rw [h5];exact Ev.now x
  refine Ev.bind hL (Ev.bind (B4c (by decide) (by decide)) ?_)
  rw [D3F h1]
  refine A3S (c:=!B1E x) (fun _=>Ev.now _) fun _=>?_
  refine u9 (d:=d0) (by omega) (fun k i (_:Unit)=>A1M k m (m.length:Int) i m) (fun _ _ l=>if(!l.all wh)=true then 1 else if 25<m.length then 4 else 0) (fun _ _=>True) () trivial ?_ ?_
  · intro _ _
    show Ev (fun k=>A7L (A1M k) (S7 k) (A2n k) _ _ _ _) _
    unfold A7L
    refine D6 (Int.lt_irrefl _) (Ev.bind (C0q (by omega)) ?_)
    show Ev _ (if 25<m.length then(4:Int)else 0)
    exact J0 (by show(m.length:Int)-1>24↔_;omega) (fun _=>Ev.now _) fun _=>Ev.now _
  · intro pre a post _ hp hi hr _ ih
    show Ev (fun k=>A7L (A1M k) (S7 k) (A2n k) _ _ _ _) _
    unfold A7L
    refine V9 hi (by omega) hi ?_
    rw [hr,List.all_cons]
    have h6:Ev (fun k=>A2n k a) (wh a):=Ev.now _
    refine Ev.bind h6 ?_
    cases h:wh a with
    |false=>exact A4L rfl (Ev.now _)
    |true=>rw [Bool.true_and];exact A2P rfl (ih () trivial)
theorem B2v {m:FP} (h:form m=0):W6 m=0∧2≤m.length∧m.length≤25:=by
  unfold form at h
  by_cases c:W6 m≠0
  · rw [if_pos c]at h;exact absurd h c
  · rw [if_neg c]at h
    by_cases c2:m.length<2
    · rw [if_pos c2]at h;cases h
    · rw [if_neg c2]at h
      split at h
      · cases h
      · split at h
        · cases h
        · split at h
          · cases h
          · exact⟨Decidable.not_not.1 c,by omega,by omega⟩
def elt (m a:FP):Int:=if W6 a≠0 then W6 a else if m.length≤a.length then 3 else 0
theorem C0b (m a:FP):Ev (fun k=>V5 k m a) (elt m a):=by
  show Ev (fun k=>B2o (A0B k) _ _) _
  unfold B2o
  exact Ev.bind (D4W a) (J0 Iff.rfl (fun _=>Ev.now _) fun c=>J0 (by omega) (fun _=>Ev.now _) fun _=>Ev.now _)
theorem E7t {m:FP} (a:FP) (hm:form m=0):Ev (fun k=>A2i k m a) (elt m a):=by
  show Ev (fun k=>B55 (O6 k) (S7 k) (V3 k) _ _) _
  unfold B55
  unfold elt
  have hl:=B2v hm
  have h1:=B9z m
  rw [hm]at h1
  refine Ev.bind h1 (D6 (by decide) (Ev.bind (C5W a) ?_))
  by_cases c:W6 a=0
  · rw [c]
    exact C2 rfl (Ev.bind (C0q (by omega)) (J0 (d:=m.length≤a.length) (by omega) (fun _=>Ev.now _) fun _=>Ev.now _))
  · have:=D6 (a:=fun k=>(S7 k m).bind fun r3=>(if(a.length:Int)>r3 then(some 3)else(some (W6 a)))) c (Ev.now (W6 a))
    rw [if_pos c];exact this
def A8B (f:List FP):Int:=match f.getLast? with|none=>0|some x=>if x.length=0 then 1 else 0
def fck (m:FP) (f:List FP):Int:=if 65<f.length then 4 else X8 (elt m) (A8B f) f
def l8 (m:FP) (f:List FP):Int:=if form m≠0 then form m else fck m f
theorem D5c {f:List FP} (hl:f.length<1099511627776):Ev (fun(k:Nat)=>if(f.length:Int)>0 then(if 0≤wrap64 ((f.length:Int)-1)then(if wrap64 ((f.length:Int)-1)<(f.length:Int)then(if((C5 ([]:FP) f (wrap64 ((f.length:Int)-1))).length:Int)=0 then(some 1)else(some 0))else(none))else(none))else(some (0:Int))) (A8B f):=by
  unfold A8B
  by_cases hn:f=[]
  · subst hn;exact D6 (by simp) (Ev.now _)
  · obtain⟨x,h1,h2,h3,h4,h5⟩:=B3g (d:=([]:FP)) hl hn
    rw [h5,h1]
    exact C2 h2 (C2 h3 (C2 h4 (J0 (by omega) (fun _=>Ev.now _) fun _=>Ev.now _)))
theorem E6l (m:FP) (f:List FP):Ev (fun k=>A2X k m f) (fck m f):=by
  show Ev (fun k=>B4w (A1E k) _ _) _
  unfold B4w
  refine J0 (by omega) (fun _=>Ev.now _) fun c=>u9 (d:=([]:FP)) (by omega) (fun k i (_:Unit)=>A1E k f f (f.length:Int) i m) (fun _ _=>X8 (elt m) (A8B f)) (fun _ _=>True) () trivial ?_ ?_
  · intro _ _
    show Ev (fun k=>A7b (A1E k) (V5 k) _ _ _ _ _) _
    unfold A7b
    exact D6 (Int.lt_irrefl _) (D5c (by omega))
  · intro pre a post _ hp hi hr _ ih
    show Ev (fun k=>A7b (A1E k) (V5 k) _ _ _ _ _) _
    unfold A7b
    refine V9 hi (by omega) hi ?_
    rw [hr]
    exact Ev.bind (C0b m a) (J0 Iff.rfl (fun _=>Ev.now _) fun _=>ih () trivial)
theorem E0F (m:FP) (f:List FP):Ev (fun k=>A3I k m f) (l8 m f):=by
  show Ev (fun k=>B14 (A1L k) (O6 k) _ _) _
  unfold B14
  refine Ev.bind (B9z m) (J0 Iff.rfl (fun _=>Ev.now _) fun c0=>J0 (by omega) (fun _=>Ev.now _) fun c=>u9 (d:=([]:FP)) (by omega) (fun k i (_:Unit)=>A1L k f f (f.length:Int) i m) (fun _ _=>X8 (elt m) (A8B f)) (fun _ _=>True) () trivial ?_ ?_)
  · intro _ _
    show Ev (fun k=>A8p (A1L k) (A2i k) _ _ _ _ _) _
    unfold A8p
    exact D6 (Int.lt_irrefl _) (D5c (by omega))
  · intro pre a post _ hp hi hr _ ih
    show Ev (fun k=>A8p (A1L k) (A2i k) _ _ _ _ _) _
    unfold A8p
    refine V9 hi (by omega) hi ?_
    rw [hr]
    exact Ev.bind (E7t a (Decidable.not_not.1 c0)) (J0 Iff.rfl (fun _=>Ev.now _) fun _=>ih () trivial)
def fst (m:FP) (l:List (List FP)):Int:=if form m≠0 then form m else X8 (fck m) 0 l
theorem C5v (m:FP) {l:List (List FP)} (hl:l.length<1099511627776):Ev (fun k=>J8 k m l) (fst m l):=by
  show Ev (fun k=>B83 (A0Y k) (A3Z k) _ _) _
  unfold B83
  refine Ev.bind (E0c m) (J0 Iff.rfl (fun _=>Ev.now _) fun c=>u9 (d:=([]:List FP)) hl (fun k i (_:Unit)=>A0Y k l (l.length:Int) i m) (fun _ _=>X8 (fck m) 0) (fun _ _=>True) () trivial ?_ ?_)
  · intro _ _
    show Ev (fun k=>A7C (A0Y k) (A2X k) _ _ _ _) _
    unfold A7C
    exact D6 (Int.lt_irrefl _) (Ev.now _)
  · intro pre a post _ hp hi hr _ ih
    show Ev (fun k=>A7C (A0Y k) (A2X k) _ _ _ _) _
    unfold A7C
    refine V9 hi (by omega) hi ?_
    rw [hr]
    exact Ev.bind (E6l m a) (J0 Iff.rfl (fun _=>Ev.now _) fun _=>ih () trivial)
theorem D2l (m:FP) (f:List FP):fst m [f]=l8 m f:=by
  unfold fst l8
  by_cases c:form m≠0
  · rw [if_pos c,if_pos c]
  · rw [if_neg c,if_neg c]
    show(if fck m f≠0 then fck m f else 0)=fck m f
    by_cases c2:fck m f≠0
    · rw [if_pos c2]
    · rw [if_neg c2,Decidable.not_not.1 c2]
def sm8 (x:FV):Bool:=if 8<x.1.2.size then false else if 8<x.2.size then false else true
def few (f:FP) (n:Nat):Bool:=if n+1<f.length then false else if W6 f≠0 then false else f.all sm8
theorem F1h (f:FP) {n:Nat} (hn:n<1000):Ev (fun k=>A4Q k f (n:Int)) (few f n):=by
  show Ev (fun k=>B70 (A0x k) (V3 k) _ _) _
  unfold B70
  have w:wrap64 ((n:Int)+1)=(n:Int)+1:=J6 (by omega) (by omega)
  rw [w]
  refine J0 (by omega) (fun _=>Ev.now _) fun c=>Ev.bind (C5W f) (J0 Iff.rfl (fun _=>Ev.now _) fun _=>?_)
  refine u9 (d:=d0) (by omega) (fun k i (_:Unit)=>A0x k f (f.length:Int) i) (fun _ _ l=>l.all sm8) (fun _ _=>True) () trivial ?_ ?_
  · intro _ _
    show Ev (fun k=>A6w (A0x k) _ _ _) _
    unfold A6w
    exact D6 (Int.lt_irrefl _) (Ev.now _)
  · intro pre a post _ hp hi hr _ ih
    show Ev (fun k=>A6w (A0x k) _ _ _) _
    unfold A6w
    refine V9 hi (by omega) hi ?_
    rw [hr,List.all_cons]
    have e:(sm8 a&&post.all sm8)=if 8<a.1.2.size then false else if 8<a.2.size then false else post.all sm8:=by
      unfold sm8
      split
      · rfl
      · split<;>simp
    rw [e]
    exact J0 (by omega) (fun _=>Ev.now _) fun _=>J0 (by omega) (fun _=>Ev.now _) fun _=>ih () trivial
def A5y (m a:FP):Bool:=if form m=0 then(if a.length≤m.length-1 then few a (m.length-1)else false)else false
theorem D5K (m a:FP):Ev (fun k=>n7 k m a) (A5y m a):=by
  show Ev (fun k=>B49 (O6 k) (S7 k) (A4Q k) _ _) _
  unfold B49
  refine Ev.bind (B9z m) (J0 Iff.rfl (fun c=>?_) fun _=>Ev.now _)
  have hl:=B2v c
  have e:(m.length:Int)-1=((m.length-1:Nat):Int):=by omega
  have hd:=C0q (m:=m) (by omega)
  rw [e]at hd
  exact Ev.bind hd (J0 (by show(a.length:Int)≤((m.length-1:Nat):Int)↔_;omega) (fun _=>Ev.bind hd (Ev.bind (F1h a (by omega)) (Ev.now _))) fun _=>Ev.now _)
def sm4 (x:FV):Bool:=if 4<x.1.2.size then false else true
def A6j (m:FP) (n:Nat):Bool:=if n+1<m.length then false else if form m≠0 then false else m.all sm4
theorem E4M (m:FP) {n:Nat} (hn:n<1000):Ev (fun k=>A3j k m (n:Int)) (A6j m n):=by
  show Ev (fun k=>B79 (A0k k) (O6 k) _ _) _
  unfold B79
  have w:wrap64 ((n:Int)+1)=(n:Int)+1:=J6 (by omega) (by omega)
  rw [w]
  refine J0 (by omega) (fun _=>Ev.now _) fun c=>Ev.bind (B9z m) (J0 Iff.rfl (fun _=>Ev.now _) fun _=>?_)
  refine u9 (d:=d0) (by omega) (fun k i (_:Unit)=>A0k k m (m.length:Int) i) (fun _ _ l=>l.all sm4) (fun _ _=>True) () trivial ?_ ?_
  · intro _ _
    show Ev (fun k=>A8b (A0k k) _ _ _) _
    unfold A8b
    exact D6 (Int.lt_irrefl _) (Ev.now _)
  · intro pre a post _ hp hi hr _ ih
    show Ev (fun k=>A8b (A0k k) _ _ _) _
    unfold A8b
    refine V9 hi (by omega) hi ?_
    rw [hr,List.all_cons]
    have e:(sm4 a&&post.all sm4)=if 4<a.1.2.size then false else post.all sm4:=by
      unfold sm4
      split
      · rfl
      · simp
    rw [e]
    exact J0 (by omega) (fun _=>Ev.now _) fun _=>ih () trivial
def B1M (m:FP) (f:List FP) (n d:Nat):Bool:=if(!A6j m n)=true then false else if d+1<f.length then false else if l8 m f≠0 then false else f.all (A5y m)
theorem E4f (m:FP) (f:List FP) {n d:Nat} (hn:n<1000) (hd:d<1000):Ev (fun k=>A4b k m f (n:Int) (d:Int)) (B1M m f n d):=by
  show Ev (fun k=>B26 (A1H k) (A3I k) (A3j k) _ _ _ _) _
  unfold B26
  have w:wrap64 ((d:Int)+1)=(d:Int)+1:=J6 (by omega) (by omega)
  rw [w]
  refine Ev.bind (E4M m hn) (A3S (fun _=>Ev.now _) fun _=>J0 (by omega) (fun _=>Ev.now _) fun c=>Ev.bind (E0F m f) (J0 Iff.rfl (fun _=>Ev.now _) fun _=>?_))
  refine u9 (d:=([]:FP)) (by omega) (fun k i (_:Unit)=>A1H k f (f.length:Int) i m) (fun _ _ l=>l.all (A5y m)) (fun _ _=>True) () trivial ?_ ?_
  · intro _ _
    show Ev (fun k=>A8h (A1H k) (n7 k) _ _ _ _) _
    unfold A8h
    exact D6 (Int.lt_irrefl _) (Ev.now _)
  · intro pre a post _ hp hi hr _ ih
    show Ev (fun k=>A8h (A1H k) (n7 k) _ _ _ _) _
    unfold A8h
    refine V9 hi (by omega) hi ?_
    rw [hr,List.all_cons]
    refine Ev.bind (D5K m a) ?_
    cases A5y m a with
    |false=>exact A4L rfl (Ev.now _)
    |true=>rw [Bool.true_and];exact A2P rfl (ih () trivial)
theorem E3D {a b:Rat} (h:fr a=fr b):a=b:=by
  unfold fr at h
  rw [Prod.mk.injEq,Prod.mk.injEq]at h
  exact Rat.ext (Go.Proofs.YtijohnkgomcdbaaGreatN.int_inj h.1.1 h.1.2) (B0V.1 h.2)
theorem B0x (a:Rat):zq (fr a)=decide (a=0):=by
  have e:zq (fr a)=decide (a.num=0):=by unfold zq fr;rw [F5];exact B9N a.num
  rw [e,Bool.eq_iff_iff,decide_eq_true_eq,decide_eq_true_eq,Rat.num_eq_zero]
theorem F6A {f:FP} {n:Nat} (h:∀x,x∈f→∃a:Rat,x=fr a∧Sm n a):∃g:List Rat,f=g.map fr∧∀a,a∈g→Sm n a:=by
  induction f with
  |nil=>exact⟨[],rfl,fun a ha=>by simp at ha⟩
  | cons x f ih=>
    obtain⟨g,rfl,hg⟩:=ih fun y hy=>h y (List.mem_cons_of_mem _ hy)
    obtain⟨a,rfl,ha⟩:=h x List.mem_cons_self
    exact⟨a::g,rfl,fun b hb=>by rcases List.mem_cons.1 hb with rfl|hb;exact ha;exact hg b hb⟩
theorem E6S {f:FP} (h:W6 f=0):f.length≤65∧(∀x,x∈f→W0 x=0)∧∀x,f.getLast?=some x→zq x=false:=by
  have hl:=C5J h
  unfold W6 at h
  rw [if_neg (by omega)]at h
  obtain⟨h1,h2⟩:=D0B h
  refine⟨hl,h1,fun x hx=>?_⟩
  unfold A4a at h2
  rw [hx]at h2
  cases hz:zq x with
  |false=>rfl
  |true=>simp [hz]at h2
theorem D5l {f:FP} (h:W6 f=0):∃g:List Rat,f=g.map fr∧(∀a,a∈g→Sm 1024 a)∧g.length≤65∧∀a,g.getLast?=some a→a≠0:=by
  obtain⟨h1,h2,h3⟩:=E6S h
  obtain⟨g,rfl,hg⟩:=F6A (n:=1024) fun x hx=>D6H (h2 x hx)
  refine⟨g,rfl,hg,by rwa [List.length_map]at h1,fun a ha h0=>?_⟩
  have:=h3 (fr a) (by rw [List.getLast?_map,ha];rfl)
  rw [B0x,decide_eq_false_iff_not]at this
  exact this h0
theorem D7r {f:FP} {n:Nat} (h:few f n=true):∃g:List Rat,f=g.map fr∧(∀a,a∈g→Sm 8 a)∧g.length≤n+1∧∀a,g.getLast?=some a→a≠0:=by
  unfold few at h
  by_cases c:n+1<f.length
  · rw [if_pos c]at h;cases h
  · rw [if_neg c]at h
    by_cases c2:W6 f≠0
    · rw [if_pos c2]at h;cases h
    · rw [if_neg c2]at h
      obtain⟨g,rfl,hg,hl,hz⟩:=D5l (Decidable.not_not.1 c2)
      rw [List.length_map]at c
      refine⟨g,rfl,fun a ha=>?_,by omega,hz⟩
      have h1:=List.all_eq_true.1 h (fr a) (List.mem_map_of_mem ha)
      unfold sm8 at h1
      split at h1
      · cases h1
      · split at h1
        · cases h1
        · rename_i h2 h3
          exact⟨Nat.not_lt.1 h2,Nat.not_lt.1 h3⟩
theorem F3q {m:FP} {f:List FP} {n d:Nat} (h:B1M m f n d=true):∃g:List (List Rat),f=g.map (List.map fr)∧(∀a,a∈g→(∀q,q∈a→Sm 8 q)∧(∀q,a.getLast?=some q→q≠0)∧a.length<m.length)∧g.length≤d+1:=by
  unfold B1M at h
  split at h
  · cases h
  · split at h
    · cases h
    · rename_i c
      split at h
      · cases h
      · have h1:=List.all_eq_true.1 h
        have:∀l:List FP,(∀a,a∈l→A5y m a=true)→∃g:List (List Rat),l=g.map (List.map fr)∧∀a,a∈g→(∀q,q∈a→Sm 8 q)∧(∀q,a.getLast?=some q→q≠0)∧a.length<m.length:=by
          intro l
          induction l with
          |nil=>exact fun _=>⟨[],rfl,fun a ha=>by simp at ha⟩
          | cons x l ih=>
            intro hl
            obtain⟨g,rfl,hg⟩:=ih fun y hy=>hl y (List.mem_cons_of_mem _ hy)
            have hx:=hl x List.mem_cons_self
            unfold A5y at hx
            split at hx
            · rename_i hm
              split at hx
              · rename_i hlen
                obtain⟨b,rfl,h2,h3,h4⟩:=D7r hx
                rw [List.length_map]at hlen
                have:=B2v hm
                exact⟨b::g,rfl,fun a ha=>by rcases List.mem_cons.1 ha with rfl|ha;exact⟨h2,h4,by omega⟩;exact hg a ha⟩
              · cases hx
            · cases hx
        obtain⟨g,rfl,hg⟩:=this f h1
        exact⟨g,rfl,hg,by rw [List.length_map]at c;omega⟩
theorem D5k {α β S R:Type} {d:α} {e:β→α} {l:List β} (hl:l.length<1099511627776) (g:Nat→Int→S→Option R) (F:List β→S→List β→R) (I:List β→S→Prop)
    (hT:∀s,I l s→Ev (fun k=>g (k+1) (l.length:Int) s) (F l s []))
    (hC:∀pre a post s,l=pre++a::post→(pre.length:Int)<l.length→C5 d (l.map e) (pre.length:Int)=e a→I pre s→
      (∀s',I (pre++[a]) s'→Ev (fun k=>g k (wrap64 ((pre.length:Int)+1)) s') (F (pre++[a]) s' post))→Ev (fun k=>g (k+1) (pre.length:Int) s) (F pre s (a::post))):
    ∀(post pre:List β) (s:S),l=pre++post→I pre s→Ev (fun k=>g k (pre.length:Int) s) (F pre s post)
  | [],pre,s,hp,hI=>by
    have h0:l=pre:=by rw [hp,List.append_nil]
    subst h0
    exact Ev.step (f:=fun k=>g (k+1) (l.length:Int) s) (fun k=>rfl) (hT s hI)
  | a::post,pre,s,hp,hI=>by
    have h1:l.length=pre.length+post.length+1:=by rw [hp,List.length_append,List.length_cons];omega
    refine Ev.step (f:=fun k=>g (k+1) (pre.length:Int) s) (fun k=>rfl) ?_
    refine hC pre a post s hp (by omega) ?_ hI fun s' hI'=>?_
    · rw [hp,List.map_append,List.map_cons]
      have:=B5h (d:=d) (pre.map e) (e a) (post.map e)
      rwa [List.length_map]at this
    have h:=D5k hl g F I hT hC post (pre++[a]) s' (by rw [hp,List.append_assoc];rfl) hI'
    have e3:wrap64 ((pre.length:Int)+1)=((pre++[a]).length:Int):=by rw [J6 (by omega) (by omega),List.length_append];rfl
    rw [e3];exact h
def G6 {α:Type} (p:α→Bool) (l:List α):List α:=(l.reverse.dropWhile p).reverse
theorem A7z {α:Type} (p:α→Bool) (l:List α) (a:α):G6 p (l++[a])=if p a=true then G6 p l else l++[a]:=by
  unfold G6
  rw [List.reverse_append,List.reverse_singleton,List.singleton_append,List.dropWhile_cons]
  split
  · rfl
  · simp
theorem C8q {α β:Type} (p:β→Bool) (f:α→β) (l:List α):G6 p (l.map f)=(G6 (fun x=>p (f x)) l).map f:=by
  unfold G6
  rw [←List.map_reverse,List.dropWhile_map,List.map_reverse];rfl
theorem B2j {α:Type} {p:α→Bool} {l:List α} {x:α} (h:x∈G6 p l):x∈l:=by
  unfold G6 at h
  exact List.mem_reverse.1 ((List.dropWhile_sublist p).subset (List.mem_reverse.1 h))
theorem B4N {α:Type} (p:α→Bool) (l:List α):(G6 p l).length≤l.length:=by
  unfold G6
  rw [List.length_reverse]
  have:=(List.dropWhile_sublist p (l:=l.reverse)).length_le
  rwa [List.length_reverse]at this
theorem back {α:Type} {d:α} {l:List α} (p:α→Bool) (hl:l.length<1099511627776) (g:Nat→Int→Option (List α)) (h0:Ev (fun k=>g (k+1) 0) [])
    (hC:∀pre a post,l=pre++a::post→C5 d l (pre.length:Int)=a→wrap64 (((pre.length+1:Nat):Int)-1)=(pre.length:Int)→pre.length+1≤l.length→Ev (fun k=>g k (pre.length:Int)) (G6 p pre)→
      Ev (fun k=>g (k+1) ((pre.length+1:Nat):Int)) (if p a=true then G6 p pre else pre++[a])):
    ∀(n:Nat) (pre post:List α),pre.length=n→l=pre++post→Ev (fun k=>g k (n:Int)) (G6 p pre)
  | 0,pre,post,hn,hp=>by
    rw [List.length_eq_zero_iff.1 hn]
    exact Ev.step (f:=fun k=>g (k+1) 0) (fun k=>rfl) h0
  | n+1,pre,post,hn,hp=>by
    have hne:pre≠[]:=fun h=>by rw [h]at hn;cases hn
    have e:=List.dropLast_concat_getLast hne
    have e1:pre.dropLast.length=n:=by rw [List.length_dropLast,hn];rfl
    have hp2:l=pre.dropLast++pre.getLast hne::post:=by
      conv=>lhs;rw [hp,←e]
      rw [List.append_assoc];rfl
    have hle:n+1≤l.length:=by rw [hp,List.length_append];omega
    have h:=hC pre.dropLast (pre.getLast hne) post hp2 (by rw [hp2];exact B5h _ _ _) (by rw [e1,J6 (by omega) (by omega)];omega) (by omega) (by
      have:=back p hl g h0 hC n pre.dropLast (pre.getLast hne::post) e1 hp2
      rwa [←e1]at this)
    rw [e1]at h
    refine Ev.step (f:=fun k=>g (k+1) ((n+1:Nat):Int)) (fun k=>rfl) ?_
    rw [←A7z,e]at h
    exact h
theorem B8n {α:Type} {d:α} {l:List α} (p:α→Bool) (hl:l.length<1099511627776) (g:Nat→Int→Option (List α)) (h0:Ev (fun k=>g (k+1) 0) [])
    (hC:∀pre a post,l=pre++a::post→C5 d l (pre.length:Int)=a→wrap64 (((pre.length+1:Nat):Int)-1)=(pre.length:Int)→pre.length+1≤l.length→Ev (fun k=>g k (pre.length:Int)) (G6 p pre)→
      Ev (fun k=>g (k+1) ((pre.length+1:Nat):Int)) (if p a=true then G6 p pre else pre++[a])):
    Ev (fun k=>g k (l.length:Int)) (G6 p l):=back p hl g h0 hC l.length l [] rfl (by rw [List.append_nil])
theorem B9F {α:Type} {pre post:List α} {a:α}:slice_ (pre++a::post) 0 ((pre.length+1:Nat):Int)=pre++[a]:=by
  have e:pre++a::post=(pre++[a])++post:=by rw [List.append_assoc];rfl
  show(List.take _ _).drop 0=_
  rw [List.drop_zero,e,Int.toNat_natCast,List.take_left' (by rw [List.length_append];rfl)]
theorem B6R {f:FP} (hl:f.length<1099511627776):Ev (fun k=>E9 k f) (G6 zq f):=by
  show Ev (fun k=>B92 (A0n k) _) _
  unfold B92
  refine B8n (d:=d0) zq hl (fun k i=>A0n k f i) ?_ ?_
  · show Ev (fun k=>A8V (A0n k) (J9 k) _ _) _
    unfold A8V
    exact D6 (by decide) (C2 (by decide) (C2 (by decide) (C2 (by decide) (C2 (by omega) (Ev.now [])))))
  · intro pre a post hp hr hw hle ih
    show Ev (fun k=>A8V (A0n k) (J9 k) _ _) _
    unfold A8V
    rw [hw,hr]
    refine C2 (by omega) (C2 (by omega) (C2 (by omega) (Ev.bind (B9t a) (A3S (fun _=>ih) fun _=>?_))))
    refine C2 (by decide) (C2 (by omega) (C2 (Int.le_refl _) (C2 (by omega) ?_)))
    rw [hp,B9F];exact Ev.now _
theorem C4k {f:List FP} (hl:f.length<1099511627776):Ev (fun k=>F7 k f) (G6 List.isEmpty f):=by
  show Ev (fun k=>B3O (A0L k) _) _
  unfold B3O
  refine B8n (d:=([]:FP)) List.isEmpty hl (fun k i=>A0L k f i) ?_ ?_
  · show Ev (fun k=>A8P (A0L k) _ _) _
    unfold A8P
    exact D6 (by decide) (C2 (by decide) (C2 (by decide) (C2 (by decide) (C2 (by omega) (Ev.now [])))))
  · intro pre a post hp hr hw hle ih
    show Ev (fun k=>A8P (A0L k) _ _) _
    unfold A8P
    rw [hw,hr]
    refine C2 (by omega) (C2 (by omega) (C2 (by omega) (J0 (d:=a.isEmpty=true) (by cases a<;>simp;omega) (fun _=>ih) fun _=>?_)))
    refine C2 (by decide) (C2 (by omega) (C2 (Int.le_refl _) (C2 (by omega) ?_)))
    rw [hp,B9F];exact Ev.now _
theorem F2V {f:List FP} (hl:f.length<1000000):Ev (fun k=>A0u k f) (G6 List.isEmpty f):=by
  show Ev (fun k=>B3H (A0Q k) _) _
  unfold B3H
  refine B8n (d:=([]:FP)) List.isEmpty (by omega) (fun k i=>A0Q k f i) ?_ ?_
  · show Ev (fun k=>A7N (A0Q k) _ _) _
    unfold A7N
    exact D6 (by decide) (C2 (by decide) (C2 (by decide) (C2 (by omega) (C2 (Int.le_refl _) (C2 (by show(0+0)*24≤_;decide) (Ev.now []))))))
  · intro pre a post hp hr hw hle ih
    show Ev (fun k=>A7N (A0Q k) _ _) _
    unfold A7N
    rw [hw,hr]
    refine C2 (by omega) (C2 (by omega) (C2 (by omega) (J0 (d:=a.isEmpty=true) (by cases a<;>simp;omega) (fun _=>ih) fun _=>?_)))
    rw [hp,B9F]
    refine C2 (by decide) (C2 (by omega) (C2 (by rw [←hp];omega) (C2 (Int.le_refl _) (C2 ?_ (Ev.now _)))))
    rw [List.length_append,List.length_singleton,List.length_nil];omega
def zr (a:Rat):Bool:=decide (a=0)
theorem D2P:(fun x=>zq (fr x))=zr:=by funext a;exact B0x a
theorem F1p (a:Rat):Ev (fun k=>R0 k (fr a)) (sgn a.num):=by
  have f1:=D6n a.num
  refine⟨0,fun k _=>?_⟩
  show R0 _ _=_
  unfold R0 B4t
  simp only [fr,A4d,Ya,Yb,Yc,Yd,Ye,Yf,Yg,Yh,Yi,Yj,Yk,Int.reduceEq,reduceCtorEq,Yl,Ym,Yn,Yo,Yp,Yq,Yr,Ys,Yt,Yu,Yv,Yw,Yx,Yy,Yz,YA,YB,YC,f1]
theorem F5c (a:Rat):sgn a.num=0↔zr a=true:=by
  unfold sgn zr
  rw [decide_eq_true_eq,←Rat.num_eq_zero]
  constructor
  · intro h
    by_cases c:a.num<0
    · rw [if_pos c]at h;cases h
    · rw [if_neg c]at h
      by_cases c2:a.num=0
      · exact c2
      · rw [if_neg c2]at h;cases h
  · intro h;rw [h];rfl
theorem B3Y {g:List Rat} (hl:g.length<1000000):Ev (fun k=>G1 k (g.map fr)) ((G6 zr g).map fr):=by
  rw [←D2P,←C8q]
  show Ev (fun k=>B48 (A0K k) _) _
  unfold B48
  refine B8n (d:=d0) zq (by rw [List.length_map];omega) (fun k i=>A0K k (g.map fr) i) ?_ ?_
  · show Ev (fun k=>A8r (A0K k) (R0 k) _ _) _
    unfold A8r
    exact D6 (by decide) (C2 (by decide) (C2 (by decide) (C2 (by omega) (C2 (Int.le_refl _) (C2 (by show(0+0)*40≤_;decide) (Ev.now []))))))
  · intro pre a post hp hr hw hle ih
    show Ev (fun k=>A8r (A0K k) (R0 k) _ _) _
    unfold A8r
    rw [hw,hr]
    obtain⟨b,hb,rfl⟩:=List.mem_map.1 (show a∈g.map fr by rw [hp];simp)
    refine C2 (by omega) (C2 (by omega) (C2 (by omega) (Ev.bind (F1p b) (J0 (d:=zq (fr b)=true) (by rw [B0x];exact F5c b) (fun _=>ih) fun _=>?_))))
    have hle':pre.length+1≤g.length:=by rwa [List.length_map]at hle
    rw [hp,B9F]
    refine C2 (by decide) (C2 (by omega) (C2 (by rw [←hp];omega) (C2 (Int.le_refl _) (C2 ?_ (Ev.now _)))))
    rw [List.length_append,List.length_singleton,List.length_nil];omega
def scl (c:Rat) (g:List Rat):List Rat:=G6 zr (g.map (· *c))
theorem D9b {g:List Rat} {c:Rat} (hl:g.length<1000000) (hg:∀a,a∈g→Sm 10000 a) (hc:Sm 10000 c):Ev (fun k=>A5M k (g.map fr) (fr c)) ((scl c g).map fr):=by
  show Ev (fun k=>B98 (A0m k) _ _) _
  unfold B98
  rw [List.length_map]
  refine D5k (d:=d0) (e:=fr) (l:=g) (by omega) (fun k i (s:FP)=>A0m k (g.map fr) (g.length:Int) i (fr c) s) (fun _ _ _=>(scl c g).map fr)
    (fun pre s=>s=(pre.map (· *c)).map fr) ?_ ?_ g [] [] rfl rfl
  · intro s hs
    subst hs
    show Ev (fun k=>A7A (A0m k) (G1 k) (N2 k) _ _ _ _ _) _
    unfold A7A
    exact D6 (Int.lt_irrefl _) (Ev.bind (B3Y (by rw [List.length_map];omega)) (Ev.now _))
  · intro pre a post s hp hi hr hs ih
    subst hs
    show Ev (fun k=>A7A (A0m k) (G1 k) (N2 k) _ _ _ _ _) _
    unfold A7A
    refine V9 hi (by omega) (by rw [List.length_map];exact hi) ?_
    rw [hr]
    refine Ev.bind (C3t (hg a (by rw [hp];simp)) hc) (C2 (by rw [List.length_map,List.length_map];omega) (ih _ ?_))
    rw [List.map_append,List.map_append];rfl
def Z3 (x:FV):Bool:=if 1024<x.1.2.size then true else decide (1024<x.2.size)
theorem E6G (x:FV):Ev (fun k=>A2u k x) (Z3 x):=by
  show Ev (fun k=>B3B _) _
  unfold B3B
  have e:decide ((x.2.size:Int)>1024)=decide (1024<x.2.size):=by rw [Bool.eq_iff_iff,decide_eq_true_eq,decide_eq_true_eq];omega
  rw [e]
  exact J0 (by omega) (fun _=>Ev.now _) fun _=>Ev.now _
theorem D6N {f:FP} (hl:f.length<1099511627776):Ev (fun k=>A1a k f) (f.any Z3):=by
  have h:Ev (fun k=>A5c k f) (ix Z3 0 f):=by
    show Ev (fun k=>B4v (A1B k) _) _
    unfold B4v
    refine u9 (d:=d0) hl (fun k i (_:Unit)=>A1B k f (f.length:Int) i) (fun n _ l=>ix Z3 n l) (fun _ _=>True) () trivial ?_ ?_
    · intro _ _
      show Ev (fun k=>A7h (A1B k) (A2u k) _ _ _) _
      unfold A7h
      exact D6 (Int.lt_irrefl _) (Ev.now _)
    · intro pre a post _ hp hi hr _ ih
      show Ev (fun k=>A7h (A1B k) (A2u k) _ _ _) _
      unfold A7h
      refine V9 hi (by omega) hi ?_
      rw [hr]
      exact Ev.bind (E6G a) (A3S (fun _=>Ev.now _) fun _=>ih () trivial)
  rw [←B4B _ _ 0]
  exact Ev.bind h (Ev.now _)
theorem F5q {f:List FP} (hl:f.length<1099511627776) (hs:∀a,a∈f→a.length<1099511627776):Ev (fun k=>R3 k f) (if 65<f.length then true else f.any (fun a=>a.any Z3)):=by
  have h:Ev (fun k=>A5O k f) (ix (fun a=>a.any Z3) 0 f):=by
    show Ev (fun k=>A9E (i6 k) _) _
    unfold A9E
    refine u9 (d:=([]:FP)) hl (fun k i (_:Unit)=>i6 k f (f.length:Int) i) (fun n _ l=>ix (fun a=>a.any Z3) n l) (fun _ _=>True) () trivial ?_ ?_
    · intro _ _
      show Ev (fun k=>A2j (i6 k) (A0I k) _ _ _) _
      unfold A2j
      exact D6 (Int.lt_irrefl _) (Ev.now _)
    · intro pre a post _ hp hi hr _ ih
      show Ev (fun k=>A2j (i6 k) (A0I k) _ _ _) _
      unfold A2j
      refine V9 hi (by omega) hi ?_
      rw [hr]
      have h1:Ev (fun k=>A0I k a) (a.any Z3):=Ev.bind (D6N (hs a (by rw [hp];simp))) (Ev.now _)
      exact Ev.bind h1 (A3S (fun _=>Ev.now _) fun _=>ih () trivial)
  show Ev (fun k=>B4n (j5 k) _) _
  unfold B4n
  refine J0 (by omega) (fun _=>Ev.now _) fun _=>?_
  rw [←B4B _ _ 0]
  have h2:Ev (fun k=>j5 k f) (decide (ix (fun a=>a.any Z3) 0 f≥0)):=Ev.bind (Ev.bind h (Ev.now _)) (Ev.now _)
  exact Ev.bind h2 (Ev.now _)
theorem D6l {α:Type} {ck:α→Int}:∀{l:List α},(∀x,x∈l→ck x=0)→X8 ck 0 l=0
  | [],_=>rfl
  | a::l,h=>by
    unfold X8
    rw [if_neg (by rw [h a List.mem_cons_self];decide)]
    exact D6l fun x hx=>h x (List.mem_cons_of_mem _ hx)
def A4K (w:List FP):Prop:=w.length≤65∧∀a,a∈w→a.length<1099511627776∧∀x,x∈a→∃q:Rat,x=fr q∧Sm 1024 q
theorem A4K.large {w:List FP} (h:A4K w):Ev (fun k=>R3 k w) false:=by
  have h1:=F5q (f:=w) (by have:=h.1;omega) fun a ha=>(h.2 a ha).1
  have e:w.any (fun a=>a.any Z3)=false:=by
    rw [List.any_eq_false]
    intro a ha
    rw [Bool.not_eq_true,List.any_eq_false]
    intro x hx
    obtain⟨q,rfl,hq⟩:=(h.2 a ha).2 x hx
    unfold Z3
    rw [if_neg (show¬1024<(fr q).1.2.size from Nat.not_lt.2 hq.1),decide_eq_true_eq]
    exact Nat.not_lt.2 hq.2
  rw [if_neg (by have:=h.1;omega),e]at h1
  exact h1
theorem D3t (a:ByteArray):F0 a a=true:=by rw [F5];exact beq_self_eq_true _
theorem D7x {f:FP} (hl:f.length<1099511627776):Ev (fun k=>W4 k f f) true:=by
  show Ev (fun k=>B18 (A1I k) _ _) _
  unfold B18
  refine D6 (fun h=>h rfl) (u9 (d:=d0) hl (fun k i (_:Unit)=>A1I k f f (f.length:Int) i) (fun _ _ _=>true) (fun _ _=>True) () trivial ?_ ?_)
  · intro _ _
    show Ev (fun k=>A8W (A1I k) _ _ _ _) _
    unfold A8W
    exact D6 (Int.lt_irrefl _) (Ev.now _)
  · intro pre a post _ hp hi hr _ ih
    show Ev (fun k=>A8W (A1I k) _ _ _ _) _
    unfold A8W
    refine V9 hi (by omega) hi (O0 (by omega) hi ?_)
    rw [hr]
    exact A2P (by rw [beq_self_eq_true,D3t,D3t];rfl) (ih () trivial)
theorem F1r {f:List FP} (hl:f.length<1099511627776) (hs:∀a,a∈f→a.length<1099511627776):Ev (fun k=>z5 k f f) true:=by
  show Ev (fun k=>B29 (A0N k) _ _) _
  unfold B29
  refine D6 (fun h=>h rfl) (u9 (d:=([]:FP)) hl (fun k i (_:Unit)=>A0N k f f (f.length:Int) i) (fun _ _ _=>true) (fun _ _=>True) () trivial ?_ ?_)
  · intro _ _
    show Ev (fun k=>A8F (A0N k) (W4 k) _ _ _ _) _
    unfold A8F
    exact D6 (Int.lt_irrefl _) (Ev.now _)
  · intro pre a post _ hp hi hr _ ih
    show Ev (fun k=>A8F (A0N k) (W4 k) _ _ _ _) _
    unfold A8F
    refine V9 hi (by omega) hi (O0 (by omega) hi ?_)
    rw [hr]
    exact Ev.bind (D7x (hs a (by rw [hp];simp))) (A2P rfl (ih () trivial))
theorem F3Q {α:Type} {p:α→Bool} {l:List α} (h:∀x,l.getLast?=some x→p x=false):G6 p l=l:=by
  by_cases hn:l=[]
  · subst hn;rfl
  · have e:=List.dropLast_concat_getLast hn
    have:=h _ (List.getLast?_eq_some_getLast hn)
    conv=>lhs;rw [←e]
    rw [A7z,this,if_neg (by decide),e]
def el (a:Rat):FP:=(G6 zr [a]).map fr
theorem wi {i:Nat} (h:i<1099511627776):wrap64 ((i:Int)+1)=((i+1:Nat):Int):=by rw [J6 (by omega) (by omega)];omega
theorem k8 {S R:Type} {n:Nat} (hn:n<1099511627776) (g:Nat→Int→S→Option R) (st:Nat→S) {r:R} (hT:Ev (fun k=>g (k+1) (n:Int) (st n)) r)
    (hC:∀i,i<n→Ev (fun k=>g k ((i+1:Nat):Int) (st (i+1))) r→Ev (fun k=>g (k+1) (i:Int) (st i)) r):Ev (fun k=>g k 0 (st 0)) r:=by
  have key:∀d i,i+d=n→Ev (fun k=>g k (i:Int) (st i)) r:=by
    intro d
    induction d with
    |zero=>intro i hi;rw [Nat.add_zero]at hi;subst hi;exact Ev.step (f:=fun k=>g (k+1) (i:Int) (st i)) (fun k=>rfl) hT
    |succ d ih=>intro i hi;exact Ev.step (f:=fun k=>g (k+1) (i:Int) (st i)) (fun k=>rfl) (hC i (by omega) (ih (i+1) (by omega)))
  exact key n 0 (by omega)
theorem D8A {S R:Type} {n:Nat} (hn:n<1099511627776) (g:Nat→Int→S→Option R) (st:Nat→S) {r:R} (hT:Ev (fun k=>g (k+1) (-1) (st 0)) r)
    (hC:∀i,i<n→Ev (fun k=>g k (wrap64 ((i:Int)-1)) (st i)) r→Ev (fun k=>g (k+1) (i:Int) (st (i+1))) r):Ev (fun k=>g k ((n:Int)-1) (st n)) r:=by
  have key:∀i,i≤n→Ev (fun k=>g k ((i:Int)-1) (st i)) r:=by
    intro i
    induction i with
    |zero=>intro _;exact Ev.step (f:=fun k=>g (k+1) (-1) (st 0)) (fun k=>rfl) hT
    | succ i ih=>
      intro hi
      have h:=hC i (by omega) (by rw [J6 (by omega) (by omega)];exact ih (by omega))
      rw [show((i+1:Nat):Int)-1=(i:Int)by omega]
      exact Ev.step (f:=fun k=>g (k+1) (i:Int) (st (i+1))) (fun k=>rfl) h
  exact key n (Nat.le_refl _)
def tb {α:Type} (n:Nat) (h:Nat→α):List α:=(List.range n).map h
section
variable {α β:Type} {n i:Nat} {h h':Nat→α} {d:α}
theorem J4:(tb n h).length=n:=by unfold tb;rw [List.length_map,List.length_range]
theorem A4l (hi:i<n):(tb n h)[i]?=some (h i):=by unfold tb;rw [List.getElem?_map,List.getElem?_range hi];rfl
theorem B2Y (hi:i<n):C5 d (tb n h) (i:Int)=h i:=by
  unfold C5;rw [Int.toNat_natCast,List.getD_eq_getElem?_getD,A4l hi];rfl
theorem q9 (e:∀j,j<n→h j=h' j):tb n h=tb n h':=List.map_congr_left fun j hj=>e j (List.mem_range.1 hj)
theorem A4v {a:α} (hi:i<n) (e:∀j,j<n→h' j=if j=i then a else h j):(tb n h).set (i:Int).toNat a=tb n h':=by
  rw [Int.toNat_natCast]
  apply List.ext_getElem?
  intro j
  rcases Nat.lt_or_ge j n with hj|hj
  · rw [A4l hj,e j hj,List.getElem?_set]
    split
    · rename_i hij;subst hij;rw [if_pos (by rw [J4];exact hi),if_pos rfl]
    · rename_i hij;rw [A4l hj,if_neg (fun x=>hij x.symm)]
  · rw [List.getElem?_eq_none (by rw [List.length_set,J4];exact hj),List.getElem?_eq_none (by rw [J4];exact hj)]
theorem B4T:List.replicate n d=tb n fun _=>d:=by
  apply List.ext_getElem?
  intro j
  rcases Nat.lt_or_ge j n with hj|hj
  · rw [A4l hj,List.getElem?_replicate,if_pos hj]
  · rw [List.getElem?_eq_none (by rw [List.length_replicate];exact hj),List.getElem?_eq_none (by rw [J4];exact hj)]
theorem A9e:tb n h++[h n]=tb (n+1) h:=by unfold tb;rw [List.range_succ,List.map_append];rfl
theorem A7U (f:α→β):(tb n h).map f=tb n fun j=>f (h j):=by unfold tb;rw [List.map_map];rfl
theorem B9X {a:α} (ha:a∈tb n h):∃j,j<n∧a=h j:=by
  obtain⟨j,hj,rfl⟩:=List.mem_map.1 ha
  exact⟨j,List.mem_range.1 hj,rfl⟩
end
theorem B9H (m n:Nat):mx (m:Int) (n:Int)=((max m n:Nat):Int):=by
  show(if(m:Int)<n then(n:Int)else m)=_
  split<;>omega
def co (l:List Rat) (j:Nat):Rat:=l.getD j 0
def pl (n:Nat) (c:Nat→Rat):List Rat:=G6 zr (tb n c)
def Tr (l:List Rat):Prop:=∀a,l.getLast?=some a→a≠0
theorem N0 {l:List Rat} {j:Nat} (h:l.length≤j):co l j=0:=by unfold co;rw [List.getD_eq_getElem?_getD,List.getElem?_eq_none h];rfl
theorem D7Q {l:List Rat} {j:Nat} (h:j<l.length):co l j∈l:=by unfold co;rw [List.getD_eq_getElem?_getD,List.getElem?_eq_getElem h];exact List.getElem_mem h
theorem E3O {n j:Nat} {c:Nat→Rat}:co (tb n c) j=if j<n then c j else 0:=by
  split
  · rename_i h;unfold co;rw [List.getD_eq_getElem?_getD,A4l h];rfl
  · rename_i h;exact N0 (by rw [J4];omega)
theorem C9r (l:List Rat) (j:Nat):co (G6 zr l) j=co l j:=by
  have key:∀r:List Rat,co (G6 zr r.reverse) j=co r.reverse j:=by
    intro r
    induction r with
    |nil=>rfl
    | cons a r ih=>
      rw [List.reverse_cons,A7z]
      split
      · rename_i h
        rw [ih]
        unfold co
        rw [List.getD_eq_getElem?_getD,List.getD_eq_getElem?_getD]
        rcases Nat.lt_or_ge j r.reverse.length with h1|h1
        · rw [List.getElem?_append_left h1]
        · rw [List.getElem?_append_right h1,List.getElem?_eq_none h1]
          rcases Nat.eq_zero_or_pos (j-r.reverse.length)with h2|h2
          · rw [h2];exact(of_decide_eq_true h).symm
          · rw [List.getElem?_eq_none (by rw [List.length_singleton];exact h2)]
      · rfl
  have:=key l.reverse
  rwa [List.reverse_reverse]at this
theorem D4v (l:List Rat):Tr (G6 zr l):=by
  have key:∀r:List Rat,Tr (G6 zr r.reverse):=by
    intro r
    induction r with
    |nil=>intro a h;cases h
    | cons a r ih=>
      rw [List.reverse_cons,A7z]
      split
      · exact ih
      · rename_i h
        intro b hb
        rw [List.getLast?_concat]at hb
        cases hb
        exact of_decide_eq_false (Bool.eq_false_iff.2 h)
  have:=key l.reverse
  rwa [List.reverse_reverse]at this
theorem A6B {l:List Rat} (h:Tr l) (hl:0<l.length):co l (l.length-1)≠0:=by
  apply h
  unfold co
  rw [List.getD_eq_getElem?_getD,List.getLast?_eq_getElem?,List.getElem?_eq_getElem (by omega)];rfl
theorem w7 {l m:List Rat} (hl:Tr l) (hm:Tr m) (h:∀j,co l j=co m j):l=m:=by
  have le:∀{l m:List Rat},Tr l→(∀j,co l j=co m j)→l.length≤m.length:=fun {l m} hl h=>by
    rcases Nat.lt_or_ge m.length l.length with h1|h1
    · exact absurd ((h _).trans (N0 (by omega))) (A6B hl (by omega))
    · exact h1
  have e:l.length=m.length:=Nat.le_antisymm (le hl h) (le hm fun j=>(h j).symm)
  apply List.ext_getElem e
  intro j h1 h2
  have:=h j
  unfold co at this
  rwa [List.getD_eq_getElem?_getD,List.getD_eq_getElem?_getD,List.getElem?_eq_getElem h1,List.getElem?_eq_getElem h2]at this
theorem A1i {n j:Nat} {c:Nat→Rat}:co (pl n c) j=if j<n then c j else 0:=(C9r _ _).trans E3O
theorem M1 {n:Nat} {c:Nat→Rat}:Tr (pl n c):=D4v _
theorem A0F (n:Nat) (c:Nat→Rat):(pl n c).length≤n:=by have:=B4N zr (tb n c);rwa [J4]at this
theorem E9d {l:List Rat} {n:Nat} (h:Tr l) (hc:∀j,n≤j→co l j=0):l.length≤n:=by
  rcases Nat.lt_or_ge n l.length with h1|h1
  · exact absurd (hc _ (by omega)) (A6B h (by omega))
  · exact h1
theorem Tr.trim {l:List Rat} (h:Tr l):G6 zr l=l:=F3Q fun x hx=>decide_eq_false (h x hx)
theorem F2z {l:List Rat} {n:Nat} {c:Nat→Rat} (h:Tr l) (hc:∀j,co l j=if j<n then c j else 0):l=pl n c:=w7 h M1 fun j=>(hc j).trans A1i.symm
theorem A4V {l:List Rat} {i:Nat} (h:i<l.length):C5 d0 (l.map fr) (i:Int)=fr (co l i):=by
  unfold C5 co
  rw [Int.toNat_natCast,List.getD_eq_getElem?_getD,List.getElem?_map,List.getD_eq_getElem?_getD,List.getElem?_eq_getElem h];rfl
theorem B8d {n:Nat} {c:Nat→Rat}:G6 zq (tb n fun j=>fr (c j))=(pl n c).map fr:=by
  rw [←A7U fr,C8q,D2P];rfl
def Sl (f:List Rat):Prop:=f.length<1000000∧∀a,a∈f→Sm 10000 a
theorem Sl.co {f:List Rat} (h:Sl f) (j:Nat):Sm 10000 (co f j):=by
  rcases Nat.lt_or_ge j f.length with h1|h1
  · exact h.2 _ (D7Q h1)
  · rw [N0 h1];exact D6C.mono (by decide)
theorem Sl.nil:Sl []:=⟨by decide,fun a h=>by cases h⟩
theorem Sl.pl {n:Nat} {c:Nat→Rat} (hn:n<1000000) (h:∀j,j<n→Sm 10000 (c j)):Sl (pl n c):=
  ⟨Nat.lt_of_le_of_lt (A0F n c) hn,fun a ha=>by obtain⟨j,hj,rfl⟩:=B9X (B2j ha);exact h j hj⟩
theorem D3s {f:List Rat} {i:Nat} (hi:i<1099511627776):Ev (fun k=>o5 k (f.map fr) (i:Int)) (fr (co f i)):=by
  show Ev (fun k=>B3X (E6 k) _ _) _
  unfold B3X
  rw [List.length_map]
  refine D6 (by omega) ?_
  rcases Nat.lt_or_ge i f.length with h|h
  · refine D6 (by omega) (O0 (by omega) (by omega) ?_)
    rw [A4V h];exact Ev.now _
  · refine C2 (by omega) (Ev.bind (C0D (i:=0) (by decide) (by decide)) ?_)
    rw [N0 h];exact Ev.now _
theorem D3n {f:List Rat} {i:Nat} (hi:i<1099511627776):Ev (fun k=>A2V k (f.map fr) (i:Int)) (fr (co f i)):=by
  show Ev (fun k=>B3D (F4 k) _ _) _
  unfold B3D
  rw [List.length_map]
  rcases Nat.lt_or_ge i f.length with h|h
  · refine C2 (by omega) (O0 (by omega) (by omega) ?_)
    rw [A4V h];exact Ev.now _
  · refine D6 (by omega) (Ev.bind (B4c (i:=0) (by decide) (by decide)) ?_)
    rw [N0 h];exact Ev.now _
def E5 (f g:List Rat):List Rat:=pl (max f.length g.length) fun j=>co f j+co g j
def o9 (f g:List Rat):List Rat:=pl (max f.length g.length) fun j=>co f j-co g j
section
variable {f g:List Rat} (hf:Sl f) (hg:Sl g)
include hf hg
theorem C8R:Ev (fun k=>K0 k (f.map fr) (g.map fr)) ((E5 f g).map fr):=by
  have:=hf.1;have:=hg.1
  show Ev (fun k=>B90 (A1D k) _ _) _
  unfold B90
  rw [List.length_map,List.length_map,B9H]
  refine C2 (by omega) (C2 (Int.le_refl _) (C2 (by rw [Int.toNat_natCast];omega) ?_))
  rw [Int.toNat_natCast,List.length_replicate,B4T]
  refine k8 (n:=max f.length g.length) (by omega) (fun k i (s:FP)=>A1D k (f.map fr) (g.map fr) ((max f.length g.length:Nat):Int) i s)
    (fun i=>tb (max f.length g.length) fun j=>if j<i then fr (co f j+co g j)else d0) ?_ fun i hi ih=>?_
  · show Ev (fun k=>A8i (A1D k) (E9 k) (L2 k) (o5 k) _ _ _ _ _) _
    unfold A8i
    refine D6 (by omega) ?_
    rw [q9 (h':=fun j=>fr (co f j+co g j)) fun j hj=>if_pos hj]
    have h:=B6R (f:=tb (max f.length g.length) fun j=>fr (co f j+co g j)) (by rw [J4];omega)
    rw [B8d]at h
    exact Ev.bind h (Ev.now _)
  · show Ev (fun k=>A8i (A1D k) (E9 k) (L2 k) (o5 k) _ _ _ _ _) _
    unfold A8i
    rw [wi (by omega),J4]
    refine C2 (by omega) (Ev.bind (D3s (by omega)) (Ev.bind (D3s (by omega)) (Ev.bind (C4f (hf.co i) (hg.co i)) (O0 (by omega) (by omega) ?_))))
    rw [A4v (h':=fun j=>if j<i+1 then fr (co f j+co g j)else d0) hi fun j hj=>?_]
    · exact ih
    · by_cases e:j=i
      · subst e;rw [if_pos (by omega),if_pos rfl]
      · rw [if_neg e];by_cases e2:j<i
        · rw [if_pos e2,if_pos (by omega)]
        · rw [if_neg e2,if_neg (by omega)]
theorem B9Z:Ev (fun k=>M8 k (f.map fr) (g.map fr)) ((E5 f g).map fr):=by
  have:=hf.1;have:=hg.1
  show Ev (fun k=>B20 (A1A k) _ _) _
  unfold B20
  refine k8 (n:=max f.length g.length) (by omega) (fun k i (s:FP)=>A1A k (f.map fr) (g.map fr) i s)
    (fun i=>tb i fun j=>fr (co f j+co g j)) ?_ fun i hi ih=>?_
  · show Ev (fun k=>A7Y (A1A k) (G1 k) (P3 k) (A2V k) _ _ _ _) _
    unfold A7Y
    rw [List.length_map,List.length_map,B9H,←A7U fr]
    exact D6 (by omega) (Ev.bind (B3Y (by rw [J4];omega)) (Ev.now _))
  · show Ev (fun k=>A7Y (A1A k) (G1 k) (P3 k) (A2V k) _ _ _ _) _
    unfold A7Y
    rw [List.length_map,List.length_map,B9H,wi (by omega),J4]
    refine C2 (by omega) (Ev.bind (D3n (by omega)) (Ev.bind (D3n (by omega)) (Ev.bind (D1m (hf.co i) (hg.co i)) (C2 (by omega) ?_))))
    rw [A9e (h:=fun j=>fr (co f j+co g j))]
    exact ih
end
theorem g9 (f g:List Rat) (j:Nat):co (E5 f g) j=co f j+co g j:=by
  unfold E5
  rw [A1i]
  split
  · rfl
  · rw [N0 (show f.length≤j by omega),N0 (show g.length≤j by omega),Rat.add_zero]
theorem B5K (f g:List Rat) (j:Nat):co (o9 f g) j=co f j-co g j:=by
  unfold o9
  rw [A1i]
  split
  · rfl
  · rw [N0 (show f.length≤j by omega),N0 (show g.length≤j by omega)];decide +kernel
theorem D8K (c:Rat) (g:List Rat) (j:Nat):co (scl c g) j=co g j*c:=by
  unfold scl
  rw [C9r]
  unfold co
  rw [List.getD_eq_getElem?_getD,List.getD_eq_getElem?_getD,List.getElem?_map]
  cases g[j]? with
  |none=>exact(Rat.zero_mul c).symm
  |some a=>rfl
theorem E5w (c:Rat) (g:List Rat):(scl c g).length≤g.length:=by have:=B4N zr (g.map (· *c));rwa [List.length_map]at this
theorem E2n (f g:List Rat):E5 f (scl (-1) g)=o9 f g:=by
  refine w7 M1 M1 fun j=>?_
  rw [g9,B5K,D8K,Rat.mul_neg,Rat.mul_one,Rat.sub_eq_add_neg]
theorem D8L:Sm 8 (-1):=⟨by decide +kernel,by decide +kernel⟩
theorem D4i {f g:List Rat} (hf:Sl f) (hg:g.length<1000000∧∀a,a∈g→Sm 9000 a):Ev (fun k=>j6 k (f.map fr) (g.map fr)) ((o9 f g).map fr):=by
  show Ev (fun k=>B51 (M8 k) (F4 k) (A5M k) _ _) _
  unfold B51
  have h2:Sl (scl (-1) g):=⟨Nat.lt_of_le_of_lt (E5w _ _) hg.1,fun a ha=>by
    obtain⟨b,hb,rfl⟩:=List.mem_map.1 (B2j ha)
    exact((hg.2 b hb).mul D8L).mono (by decide)⟩
  have h1:=D9b (g:=g) (c:= -1) hg.1 (fun a ha=>(hg.2 a ha).mono (by decide)) (D8L.mono (by decide))
  have h3:=B9Z hf h2
  rw [E2n]at h3
  exact Ev.bind (B4c (i:= -1) (by decide) (by decide)) (Ev.bind h1 (Ev.bind h3 (Ev.now _)))
def G9 (f g:List Rat) (m:Nat):Nat→Rat
  |0=>0
  |i+1=>if i≤m∧m-i<g.length then G9 f g m i+co f i*co g (m-i)else G9 f g m i
def E2 (f g:List Rat):List Rat:=pl (f.length+g.length-1) fun m=>G9 f g m f.length
theorem D6d (f:List Rat) (m:Nat):∀i,G9 f [] m i=0
  |0=>rfl
  |i+1=>by unfold G9;rw [if_neg (fun h=>Nat.not_lt_zero _ h.2)];exact D6d f m i
theorem D3m {n:Nat} {c:Nat→Rat} (h:∀j,j<n→c j=0):pl n c=[]:=w7 M1 (fun a h=>by cases h) fun j=>by
  rw [A1i]
  show _=(0:Rat)
  split
  · exact h j (by assumption)
  · rfl
theorem F4J (g:List Rat):E2 [] g=[]:=D3m fun j _=>rfl
theorem D1N (f:List Rat):E2 f []=[]:=D3m fun j _=>D6d f j _
structure Ml (f g:List Rat):Prop where
  lf:f.length<400000
  lg:g.length<400000
  c:∀m i,i≤f.length→Sm 10000 (G9 f g m i)
  sf:∀i,Sm 10000 (co f i)
  sg:∀i,Sm 10000 (co g i)
  p:∀i j,Sm 10000 (co f i*co g j)
section
variable {f g:List Rat} (h:Ml f g)
include h
theorem D6O:Ev (fun k=>M2 k (f.map fr) (g.map fr)) ((E2 f g).map fr):=by
  have lf:=h.lf;have lg:=h.lg
  show Ev (fun k=>B91 (o7 k) _ _) _
  unfold B91
  rw [List.length_map,List.length_map]
  rcases Nat.eq_zero_or_pos f.length with e|e
  · rw [List.length_eq_zero_iff.1 e,F4J];exact C2 rfl (Ev.now _)
  refine D6 (by omega) ?_
  rcases Nat.eq_zero_or_pos g.length with e'|e'
  · rw [List.length_eq_zero_iff.1 e',D1N];exact C2 rfl (Ev.now _)
  refine D6 (by omega) ?_
  have hN:wrap64 (wrap64 ((f.length:Int)+(g.length:Int))-1)=((f.length+g.length-1:Nat):Int):=by rw [J6 (x:=(f.length:Int)+_) (by omega) (by omega),J6 (by omega) (by omega)];omega
  rw [hN]
  refine C2 (by omega) (C2 (Int.le_refl _) (C2 (by rw [Int.toNat_natCast];omega) ?_))
  rw [Int.toNat_natCast,List.length_replicate,B4T]
  generalize hn:f.length+g.length-1=N
  have fin:Ev (fun k=>T9 k (g.map fr) (f.map fr) (f.length:Int) 0 (tb N fun m=>fr (G9 f g m 0))) ((E2 f g).map fr):=by
    refine k8 (n:=f.length) (by omega) (fun k i (s:FP)=>T9 k (g.map fr) (f.map fr) (f.length:Int) i s) (fun i=>tb N fun m=>fr (G9 f g m i)) ?_ fun i hi ih=>?_
    · show Ev (fun k=>A8a (T9 k) (k9 k) (E9 k) (J9 k) _ _ _ _ _) _
      unfold A8a
      have h1:=B6R (f:=tb N fun m=>fr (G9 f g m f.length)) (by rw [J4];omega)
      rw [B8d]at h1
      unfold E2
      rw [hn]
      exact D6 (by omega) (Ev.bind h1 (Ev.now _))
    · show Ev (fun k=>A8a (T9 k) (k9 k) (E9 k) (J9 k) _ _ _ _ _) _
      unfold A8a
      rw [wi (by omega),A4V hi]
      refine V9 (by omega) (by omega) (by rw [List.length_map];omega) (Ev.bind (B9t _) ?_)
      rw [B0x]
      rcases Decidable.em (co f i=0)with z|z
      · refine A4L (decide_eq_true z) ?_
        rw [q9 (h':=fun m=>fr (G9 f g m (i+1))) fun m _=>?_]
        · exact ih
        · show fr (G9 f g m i)=fr (if _ then _ else _)
          split
          · rw [z,Rat.zero_mul,Rat.add_zero]
          · rfl
      · refine A2P (decide_eq_false z) ?_
        rw [List.length_map]
        have:=k8 (n:=g.length) (by omega) (fun k j (s:FP)=>k9 k (g.map fr) (i:Int) (f.map fr) (f.length:Int) (i:Int) (g.map fr) (g.length:Int) j s (fr (co f i)))
          (fun j=>tb N fun m=>fr (if i≤m∧m<i+j then G9 f g m i+co f i*co g (m-i)else G9 f g m i)) (r:=(E2 f g).map fr) ?_ fun j hj jh=>?_
        · rw [q9 (h':=fun m=>fr (G9 f g m i)) fun m _=>by rw [if_neg (by omega)]]at this
          exact this
        · show Ev (fun k=>A8M (T9 k) (k9 k) (F8 k) (L2 k) _ _ _ _ _ _ _ _ _ _) _
          unfold A8M
          rw [wi (i:=i) (by omega),q9 (h':=fun m=>fr (G9 f g m (i+1))) fun m _=>?_]
          · exact D6 (by omega) ih
          · show fr (if _ then _ else _)=fr (if _ then _ else _)
            by_cases c:i≤m∧m<i+g.length
            · rw [if_pos c,if_pos (by omega)]
            · rw [if_neg c,if_neg (by omega)]
        · show Ev (fun k=>A8M (T9 k) (k9 k) (F8 k) (L2 k) _ _ _ _ _ _ _ _ _ _) _
          unfold A8M
          have hij:wrap64 ((i:Int)+(j:Int))=((i+j:Nat):Int):=by rw [J6 (by omega) (by omega)];omega
          rw [hij,wi (by omega),J4,A4V hj,B2Y (show i+j<N by omega),if_neg (by omega)]
          refine V9 (by omega) (by omega) (by rw [List.length_map];omega) (O0 (by omega) (by omega) (Ev.bind (C4H (h.sf i) (h.sg j)) (Ev.bind (C4f (h.c _ _ (by omega)) (h.p i j)) (O0 (by omega) (by omega) ?_))))
          rw [A4v (h':=fun m=>fr (if i≤m∧m<i+(j+1)then G9 f g m i+co f i*co g (m-i)else G9 f g m i)) (by omega) fun m hm=>?_]
          · exact jh
          · by_cases c:m=i+j
            · subst c;rw [if_pos rfl,if_pos (by omega),show i+j-i=j by omega]
            · rw [if_neg c]
              by_cases c2:i≤m∧m<i+j
              · rw [if_pos c2,if_pos (by omega)]
              · rw [if_neg c2,if_neg (by omega)]
  refine k8 (n:=N) (by omega) (fun k i (s:FP)=>o7 k (f.map fr) (g.map fr) (N:Int) i s) (fun i=>tb N fun j=>if j<i then fr 0 else d0) ?_ fun i hi ih=>?_
  · show Ev (fun k=>A7G (o7 k) (T9 k) (E6 k) _ _ _ _ _) _
    unfold A7G
    rw [List.length_map,q9 (h':=fun m=>fr (G9 f g m 0)) fun j hj=>by rw [if_pos hj];rfl]
    exact D6 (by omega) fin
  · show Ev (fun k=>A7G (o7 k) (T9 k) (E6 k) _ _ _ _ _) _
    unfold A7G
    rw [wi (by omega),J4]
    refine C2 (by omega) (Ev.bind (C0D (i:=0) (by decide) (by decide)) (O0 (by omega) (by omega) ?_))
    rw [A4v (h':=fun j=>if j<i+1 then fr 0 else d0) hi fun j hj=>?_]
    · exact ih
    · by_cases e:j=i
      · subst e;rw [if_pos (by omega),if_pos rfl];rfl
      · rw [if_neg e];by_cases e2:j<i
        · rw [if_pos e2,if_pos (by omega)]
        · rw [if_neg e2,if_neg (by omega)]
theorem D2I:Ev (fun k=>X1 k (f.map fr) (g.map fr)) ((E2 f g).map fr):=by
  have lf:=h.lf;have lg:=h.lg
  show Ev (fun k=>B45 (A0A k) _ _) _
  unfold B45
  have hN:wrap64 (wrap64 ((f.length:Int)+(g.length:Int))-1)=(f.length:Int)+(g.length:Int)-1:=by rw [J6 (x:=(f.length:Int)+_) (by omega) (by omega),J6 (by omega) (by omega)]
  refine k8 (n:=f.length+g.length-1) (by omega) (fun k i (s:FP)=>A0A k (f.map fr) (g.map fr) i s) (fun i=>tb i fun m=>fr (G9 f g m f.length)) ?_ fun m hm ih=>?_
  · show Ev (fun k=>A7J (t8 k) (G1 k) (F4 k) _ _ _ _) _
    unfold A7J
    rw [List.length_map,List.length_map,hN,←A7U fr]
    exact D6 (by omega) (Ev.bind (B3Y (by rw [J4];omega)) (Ev.now _))
  · show Ev (fun k=>A7J (t8 k) (G1 k) (F4 k) _ _ _ _) _
    unfold A7J
    rw [List.length_map,List.length_map,hN]
    refine C2 (by omega) (Ev.bind (B4c (i:=0) (by decide) (by decide)) ?_)
    refine k8 (n:=f.length) (by omega) (fun k i (s:FV)=>t8 k (f.map fr) (g.map fr) (m:Int) (f.length:Int) i (tb m fun m=>fr (G9 f g m f.length)) s) (fun i=>fr (G9 f g m i)) ?_ fun i hi jh=>?_
    · show Ev (fun k=>A8L (A0A k) (t8 k) (P3 k) (N2 k) _ _ _ _ _ _ _) _
      unfold A8L
      rw [J4,A9e (h:=fun m=>fr (G9 f g m f.length)),wi (i:=m) (by omega)]
      exact D6 (by omega) (C2 (by omega) ih)
    · show Ev (fun k=>A8L (A0A k) (t8 k) (P3 k) (N2 k) _ _ _ _ _ _ _) _
      unfold A8L
      have hw:wrap64 ((m:Int)-(i:Int))=(m:Int)-(i:Int):=J6 (by omega) (by omega)
      rw [List.length_map,List.length_map,hw,wi (by omega)]
      refine C2 (by omega) ?_
      by_cases c:i≤m∧m-i<g.length
      · have e:(m:Int)-(i:Int)=((m-i:Nat):Int):=by omega
        rw [e,A4V hi,A4V c.2]
        refine C2 (by omega) (C2 (by omega) (O0 (by omega) (by omega) (O0 (by omega) (by omega) (Ev.bind (C3t (h.sf i) (h.sg _)) (Ev.bind (D1m (h.c m i (by omega)) (h.p i _)) ?_)))))
        have e2:G9 f g m (i+1)=G9 f g m i+co f i*co g (m-i):=if_pos c
        rw [e2]at jh
        exact jh
      · have e2:G9 f g m (i+1)=G9 f g m i:=if_neg c
        rw [e2]at jh
        by_cases c1:i≤m
        · exact C2 (by omega) (D6 (by omega) jh)
        · exact D6 (by omega) jh
end
theorem E6r {f:FP} (hl:f.length<1000000):Ev (fun k=>A3J k f) f:=by
  show Ev (fun k=>A6C f) f
  unfold A6C
  exact C2 (by rw [List.length_nil];omega) (Ev.now _)
theorem F5i {α:Type} {n m:Nat} {h:Nat→α} (hm:m≤n):slice_ (tb n h) 0 (m:Int)=tb m h:=by
  unfold slice_
  rw [Int.toNat_natCast,show((0:Int)).toNat=0 from rfl,List.drop_zero]
  apply List.ext_getElem?
  intro j
  rw [List.getElem?_take]
  split
  · rename_i h;rw [A4l h,A4l (by omega)]
  · rename_i h;rw [List.getElem?_eq_none (by rw [J4];omega)]
section
variable (g:List Rat) (v:Rat)
def O5 (k:Nat) (r:Nat→Rat) (m:Nat):Rat:=if k≤m∧m<k+g.length then r m-r (k+g.length-1)*v*co g (m-k)else r m
def dv:Nat→(Nat→Rat)→Nat→Rat
  |0,r=>r
  |k+1,r=>dv k (O5 g v k r)
def qv:Nat→(Nat→Rat)→Nat→Rat
  |0,r=>fun _=>0
  |k+1,r=>fun j=>if j=k then r (k+g.length-1)*v else qv k (O5 g v k r) j
def dOk:Nat→(Nat→Rat)→Prop
  |0,r=>∀m,Sm 9000 (r m)
  |k+1,r=>(∀m,Sm 9000 (r m))∧Sm 9000 (r (k+g.length-1)*v)∧(∀m,Sm 9000 (r (k+g.length-1)*v*co g m))∧dOk k (O5 g v k r)
end
def A2F (n:Nat) (c:Nat→Rat):List Rat:=pl (n-1) c
def inv (g:List Rat):Rat:=(co g (g.length-1))⁻¹
def D4 (f g:List Rat):List Rat:=A2F g.length (dv g (inv g) (f.length+1-g.length) (co f))
def A2H (f g:List Rat):List Rat:=pl (f.length+1-g.length) (qv g (inv g) (f.length+1-g.length) (co f))
section
variable {g:List Rat} {v:Rat} (hg:Sl g) (h0:0<g.length) (hv:Sm 10000 v)
include hg h0 hv
theorem E8A {L Q:Nat} (hL:L<1000000):∀(K:Nat) (r q:Nat→Rat),dOk g v K r→K≤Q→K+g.length≤L+1→g.length≤L+1→Q<1000000→
    Ev (fun k=>T2 k (g.map fr) (g.length:Int) ((K:Int)-1) (tb L fun m=>fr (r m)) (tb Q fun j=>fr (q j)) (fr v))
      ((pl Q fun j=>if j<K then qv g v K r j else q j).map fr,(A2F g.length (dv g v K r)).map fr):=by
  have lg:=hg.1
  intro K
  induction K with
  | zero=>
    intro r q hd hQ hK hn hQ2
    refine Ev.step (f:=fun k=>T2 (k+1) (g.map fr) (g.length:Int) (((0:Nat):Int)-1) (tb L fun m=>fr (r m)) (tb Q fun j=>fr (q j)) (fr v)) (fun k=>rfl) ?_
    show Ev (fun k=>A8n (T2 k) (m6 k) (E9 k) (F8 k) (J9 k) _ _ _ _ _ _) _
    unfold A8n
    have h1:=B6R (f:=tb Q fun j=>fr (q j)) (by rw [J4];omega)
    rw [B8d]at h1
    have h2:=B6R (f:=tb (g.length-1) fun j=>fr (r j)) (by rw [J4];omega)
    rw [B8d]at h2
    have hw:wrap64 ((g.length:Int)-1)=((g.length-1:Nat):Int):=by rw [J6 (by omega) (by omega)];omega
    rw [hw,J4,F5i (by omega)]
    exact D6 (by omega) (Ev.bind h1 (C2 (by decide) (C2 (by omega) (C2 (by omega) (C2 (Int.le_refl _) (Ev.bind h2 (Ev.now _)))))))
  | succ K ih=>
    intro r q hd hQ hK hn hQ2
    obtain⟨d1,d2,d3,d4⟩:=hd
    refine Ev.step (f:=fun k=>T2 (k+1) (g.map fr) (g.length:Int) (((K+1:Nat):Int)-1) (tb L fun m=>fr (r m)) (tb Q fun j=>fr (q j)) (fr v)) (fun k=>rfl) ?_
    have hk:((K+1:Nat):Int)-1=(K:Int):=by omega
    rw [hk]
    show Ev (fun k=>A8n (T2 k) (m6 k) (E9 k) (F8 k) (J9 k) _ _ _ _ _ _) _
    unfold A8n
    have hw:wrap64 (wrap64 ((K:Int)+(g.length:Int))-1)=((K+g.length-1:Nat):Int):=by rw [J6 (x:=(K:Int)+_) (by omega) (by omega),J6 (by omega) (by omega)];omega
    have hw2:wrap64 ((K:Int)-1)=(K:Int)-1:=J6 (by omega) (by omega)
    rw [hw,hw2,J4,J4,B2Y (show K+g.length-1<L by omega)]
    refine C2 (by omega) (O0 (by omega) (by omega) (Ev.bind (C4H ((d1 _).mono (by decide)) hv) (O0 (by omega) (by omega) (Ev.bind (B9t _) ?_))))
    have hq:=A4v (n:=Q) (i:=K) (h:=fun j=>fr (q j)) (h':=fun j=>fr (if j=K then r (K+g.length-1)*v else q j)) (a:=fr (r (K+g.length-1)*v)) (by omega) fun j hj=>by
      by_cases e:j=K
      · rw [if_pos e,if_pos e]
      · rw [if_neg e,if_neg e]
    have hi:=ih (O5 g v K r) (fun j=>if j=K then r (K+g.length-1)*v else q j) d4 (by omega) (by omega) hn hQ2
    have eq:(fun j=>if j<K then qv g v K (O5 g v K r) j else if j=K then r (K+g.length-1)*v else q j)=fun j=>if j<K+1 then qv g v (K+1) r j else q j:=by
      funext j
      show _=if j<K+1 then(if j=K then _ else _)else _
      by_cases e:j<K
      · rw [if_pos e,if_pos (by omega),if_neg (by omega)]
      · rw [if_neg e]
        by_cases e2:j=K
        · rw [if_pos e2,if_pos (by omega),if_pos e2]
        · rw [if_neg e2,if_neg (by omega)]
    rw [eq]at hi
    rw [show((fr (r (K+g.length-1)*v)).1,(fr (r (K+g.length-1)*v)).2)=fr (r (K+g.length-1)*v)from rfl,hq,B0x]
    rcases Decidable.em (r (K+g.length-1)*v=0)with z|z
    · refine A4L (decide_eq_true z) ?_
      rw [q9 (h':=fun m=>fr (O5 g v K r m)) fun m _=>?_]
      · exact hi
      · show fr (r m)=fr (if _ then _ else _)
        rw [z,Rat.zero_mul,Rat.sub_eq_add_neg,Rat.neg_zero,Rat.add_zero]
        split<;>rfl
    · refine A2P (decide_eq_false z) ?_
      rw [List.length_map]
      have:=k8 (n:=g.length) (by omega) (fun k j (s:FP)=>m6 k (g.map fr) (g.length:Int) (K:Int) (g.length:Int) j s (tb Q fun j=>fr (if j=K then r (K+g.length-1)*v else q j)) (fr v) (fr (r (K+g.length-1)*v)))
        (fun i=>tb L fun m=>fr (if K≤m∧m<K+i then r m-r (K+g.length-1)*v*co g (m-K)else r m)) (r:=((pl Q fun j=>if j<K+1 then qv g v (K+1) r j else q j).map fr,(A2F g.length (dv g v K (O5 g v K r))).map fr)) ?_ fun j hj jh=>?_
      · rw [q9 (h':=fun m=>fr (r m)) fun m _=>by rw [if_neg (by omega)]]at this
        exact this
      · show Ev (fun k=>A7y (T2 k) (m6 k) (N4 k) (F8 k) _ _ _ _ _ _ _ _ _) _
        unfold A7y
        rw [hw2]
        exact D6 (by omega) hi
      · show Ev (fun k=>A7y (T2 k) (m6 k) (N4 k) (F8 k) _ _ _ _ _ _ _ _ _) _
        unfold A7y
        have hij:wrap64 ((K:Int)+(j:Int))=((K+j:Nat):Int):=by rw [J6 (by omega) (by omega)];omega
        rw [hij,wi (i:=j) (by omega),J4,A4V hj,B2Y (show K+j<L by omega),if_neg (by omega)]
        refine C2 (by omega) (O0 (by omega) (by omega) (O0 (by omega) (by rw [List.length_map];omega) (Ev.bind (C4H (d2.mono (by decide)) (hg.co j)) (Ev.bind (E4L ((d1 _).mono (by decide)) ((d3 j).mono (by decide))) (O0 (by omega) (by omega) ?_)))))
        rw [A4v (h':=fun m=>fr (if K≤m∧m<K+(j+1)then r m-r (K+g.length-1)*v*co g (m-K)else r m)) (by omega) fun m hm=>?_]
        · exact jh
        · by_cases c:m=K+j
          · subst c;rw [if_pos rfl,if_pos (by omega),show K+j-K=j by omega]
          · rw [if_neg c]
            by_cases c2:K≤m∧m<K+j
            · rw [if_pos c2,if_pos (by omega)]
            · rw [if_neg c2,if_neg (by omega)]
end
theorem E7p (f:List Rat):f.map fr=tb f.length fun m=>fr (co f m):=by
  rw [←A7U fr]
  congr 1
  apply List.ext_getElem?
  intro j
  rcases Nat.lt_or_ge j f.length with h|h
  · rw [A4l h,List.getElem?_eq_getElem h];unfold co;rw [List.getD_eq_getElem?_getD,List.getElem?_eq_getElem h];rfl
  · rw [List.getElem?_eq_none h,List.getElem?_eq_none (by rw [J4];exact h)]
theorem A3n {f g:List Rat} (hf:Tr f) (h:f.length<g.length):D4 f g=f:=by
  unfold D4 A2F
  rw [show f.length+1-g.length=0 by omega]
  refine w7 M1 hf fun j=>?_
  rw [A1i]
  split
  · rfl
  · rw [N0 (by omega)]
theorem D9Q {f g:List Rat} (h:f.length<g.length):A2H f g=[]:=by
  unfold A2H
  rw [show f.length+1-g.length=0 by omega]
  rfl
theorem F4m {f g:List Rat} (hf:f.length<400000) (ht:Tr f) (hg:Sl g) (h0:0<g.length) (hg0:Tr g) (hv:Sm 10000 (inv g)) (hd:dOk g (inv g) (f.length+1-g.length) (co f)):
    Ev (fun k=>W8 k (f.map fr) (g.map fr)) ((A2H f g).map fr,(D4 f g).map fr):=by
  have lg:=hg.1
  show Ev (fun k=>B4s (t7 k) (A3J k) _ _) _
  unfold B4s
  refine Ev.bind (E6r (by rw [List.length_map];omega)) ?_
  rw [List.length_map,List.length_map]
  by_cases c:f.length<g.length
  · rw [A3n ht c,D9Q c];exact C2 (by omega) (Ev.now _)
  have hw:wrap64 (wrap64 ((f.length:Int)-(g.length:Int))+1)=((f.length+1-g.length:Nat):Int):=by rw [J6 (x:=(f.length:Int)-_) (by omega) (by omega),J6 (by omega) (by omega)];omega
  have hw2:wrap64 ((f.length:Int)-(g.length:Int))=((f.length+1-g.length:Nat):Int)-1:=by rw [J6 (by omega) (by omega)];omega
  have hw3:wrap64 ((g.length:Int)-1)=((g.length-1:Nat):Int):=by rw [J6 (by omega) (by omega)];omega
  rw [hw]
  refine D6 (by omega) (C2 (by omega) (C2 (Int.le_refl _) (C2 (by rw [Int.toNat_natCast];omega) ?_)))
  rw [Int.toNat_natCast,List.length_replicate,B4T]
  refine k8 (n:=f.length+1-g.length) (by omega) (fun k i (s:FP)=>t7 k (f.map fr) (g.map fr) (g.length:Int) ((f.length+1-g.length:Nat):Int) i (f.map fr) s) (fun i=>tb (f.length+1-g.length) fun j=>if j<i then fr 0 else d0) ?_ fun i hi ih=>?_
  · show Ev (fun k=>A8d (t7 k) (T2 k) (E6 k) (P9 k) _ _ _ _ _ _ _) _
    unfold A8d
    rw [hw3,List.length_map,List.length_map,hw2,A4V (show g.length-1<g.length by omega),q9 (h':=fun m=>fr 0) fun j hj=>if_pos hj]
    have h1:=E8A hg h0 hv (L:=f.length) (Q:=f.length+1-g.length) (by omega) (f.length+1-g.length) (co f) (fun _=>0) hd (Nat.le_refl _) (by omega) (by omega) (by omega)
    rw [←E7p]at h1
    have e:(pl (f.length+1-g.length) fun j=>if j<f.length+1-g.length then qv g (inv g) (f.length+1-g.length) (co f) j else 0)=A2H f g:=by
      unfold A2H pl
      rw [q9 fun j hj=>if_pos hj]
    rw [e]at h1
    exact D6 (by omega) (O0 (by omega) (by omega) (Ev.bind (E7C (A6B hg0 h0)) h1))
  · show Ev (fun k=>A8d (t7 k) (T2 k) (E6 k) (P9 k) _ _ _ _ _ _ _) _
    unfold A8d
    rw [wi (by omega),J4]
    refine C2 (by omega) (Ev.bind (C0D (i:=0) (by decide) (by decide)) (O0 (by omega) (by omega) ?_))
    rw [A4v (h':=fun j=>if j<i+1 then fr 0 else d0) hi fun j hj=>?_]
    · exact ih
    · by_cases e:j=i
      · subst e;rw [if_pos (by omega),if_pos rfl];rfl
      · rw [if_neg e];by_cases e2:j<i
        · rw [if_pos e2,if_pos (by omega)]
        · rw [if_neg e2,if_neg (by omega)]
theorem D7H {f g:List Rat} {m:Nat}:∀{i},f.length≤i→G9 f g m i=G9 f g m f.length:=by
  intro i h
  induction i with
  |zero=>rw [show f.length=0 by omega]
  | succ i ih=>
    rcases Nat.lt_or_ge i f.length with h1|h1
    · rw [show i+1=f.length by omega]
    · rw [←ih h1]
      show(if _ then _ else _)=_
      split
      · rw [N0 h1,Rat.zero_mul,Rat.add_zero]
      · rfl
theorem F4E {f g:List Rat} {m:Nat} (h:f.length+g.length-1≤m):∀{i},i≤f.length→G9 f g m i=0:=by
  intro i hi
  induction i with
  |zero=>rfl
  | succ i ih=>
    show(if _ then _ else _)=_
    rw [if_neg (by omega)];exact ih (by omega)
theorem B6a (f g:List Rat) (m:Nat):co (E2 f g) m=G9 f g m f.length:=by
  unfold E2
  rw [A1i]
  split
  · rfl
  · exact(F4E (by omega) (Nat.le_refl _)).symm
def mono (k:Nat) (c:Rat):List Rat:=pl (k+1) fun j=>if j=k then c else 0
theorem B2V (k:Nat) (c:Rat) (j:Nat):co (mono k c) j=if j=k then c else 0:=by
  unfold mono
  rw [A1i]
  split
  · rfl
  · rw [if_neg (by omega)]
theorem A9P (k:Nat) (c:Rat):(mono k c).length≤k+1:=A0F _ _
theorem C4N (k:Nat) (c:Rat) (g:List Rat) (m:Nat):∀i,i≤k→G9 (mono k c) g m i=0
  |0,_=>rfl
  | i+1,h=>by
    show(if _ then _ else _)=_
    rw [C4N k c g m i (by omega),B2V,if_neg (show¬i=k by omega),Rat.zero_mul,Rat.add_zero]
    split<;>rfl
theorem D2k (k:Nat) (c:Rat) (g:List Rat) (m:Nat):G9 (mono k c) g m (k+1)=if k≤m∧m-k<g.length then c*co g (m-k)else 0:=by
  show(if _ then _ else _)=_
  rw [C4N k c g m k (Nat.le_refl _),B2V,if_pos rfl,Rat.zero_add]
theorem D2T (k:Nat) (c:Rat) (g:List Rat) (m:Nat):co (E2 (mono k c) g) m=if k≤m∧m-k<g.length then c*co g (m-k)else 0:=by
  rw [B6a,←D7H (A9P k c),D2k]
theorem sm0:Sm 9000 0:=D6C.mono (by decide)
theorem F2R {k:Nat} {c:Rat} (hk:k<400000):Ev (fun x=>A2I x (fr c) (k:Int)) ((mono k c).map fr):=by
  show Ev (fun k=>B21 (A0W k) _ _) _
  unfold B21
  refine k8 (n:=k) (by omega) (fun x i (s:FP)=>A0W x (k:Int) i (fr c) s) (fun i=>tb i fun _=>fr 0) ?_ fun i hi ih=>?_
  · show Ev (fun k=>A7t (A0W k) (G1 k) (F4 k) _ _ _ _) _
    unfold A7t
    have e:(tb k fun _=>fr 0)++[fr c]=(tb (k+1) fun j=>if j=k then c else 0).map fr:=by
      rw [A7U fr,←A9e,if_pos rfl]
      congr 1
      exact q9 fun j hj=>by rw [if_neg (by omega)]
    rw [J4,e]
    exact D6 (by omega) (C2 (by omega) (Ev.bind (B3Y (g:=tb (k+1) fun j=>if j=k then c else 0) (by rw [J4];omega)) (Ev.now _)))
  · show Ev (fun k=>A7t (A0W k) (G1 k) (F4 k) _ _ _ _) _
    unfold A7t
    rw [wi (by omega),J4]
    refine C2 (by omega) (Ev.bind (B4c (i:=0) (by decide) (by decide)) (C2 (show(i+1)*40≤140737488355328 by omega) ?_))
    rw [show [((fr ((0:Int):Rat)).1,(fr ((0:Int):Rat)).2)]=[(fun _:Nat=>fr 0) i]from rfl,A9e (h:=fun _=>fr 0)]
    exact ih
theorem D0k {f:List Rat} (hl:f.length<1000000) (h:0<f.length):Ev (fun k=>Y6 k (f.map fr)) (fr (co f (f.length-1))):=by
  show Ev (fun k=>B80 (F4 k) _) _
  unfold B80
  have hw:wrap64 ((f.length:Int)-1)=((f.length-1:Nat):Int):=by rw [J6 (by omega) (by omega)];omega
  rw [List.length_map,hw,A4V (show f.length-1<f.length by omega)]
  exact D6 (by omega) (O0 (by omega) (by omega) (Ev.now _))
theorem A9O {g:List Rat} {v:Rat}:∀{K:Nat} {r:Nat→Rat} {j:Nat},K≤j→qv g v K r j=0
  |0,r,j,_=>rfl
  | K+1,r,j,h=>by
    show(if j=K then _ else _)=_
    rw [if_neg (by omega)]
    exact A9O (by omega)
theorem E7Y {g:List Rat} {v:Rat} {k:Nat} {r:Nat→Rat} (h:r (k+g.length-1)*v=0):O5 g v k r=r:=by
  funext m
  unfold O5
  rw [h,Rat.zero_mul,Rat.sub_eq_add_neg,Rat.neg_zero,Rat.add_zero]
  split<;>rfl
section
variable {g:List Rat} (hg:Sl g) (h0:0<g.length) (hg0:Tr g) (hv:Sm 9000 (inv g))
include hg h0 hg0 hv
theorem F6D {k:Nat} {c:Rat} (hk:k<300000) (hl:g.length<400000) (hc:Sm 9000 c) (hp:∀m,Sm 9000 (c*co g m)):Ml (mono k c) g:=by
  have hm:∀j,co (mono k c) j=c∨co (mono k c) j=0:=fun j=>by
    rw [B2V];split
    · exact Or.inl rfl
    · exact Or.inr rfl
  refine⟨Nat.lt_of_le_of_lt (A9P k c) (by omega),hl,fun m i hi=>?_,fun i=>?_,hg.co,fun i j=>?_⟩
  · rcases Nat.lt_or_ge k i with h1|h1
    · have e:i=k+1:=by have:=A9P k c;omega
      rw [e,D2k]
      split
      · exact(hp _).mono (by decide)
      · exact sm0.mono (by decide)
    · rw [C4N k c g m i h1];exact sm0.mono (by decide)
  · rcases hm i with h|h
    · rw [h];exact hc.mono (by decide)
    · rw [h];exact sm0.mono (by decide)
  · rcases hm i with h|h
    · rw [h];exact(hp j).mono (by decide)
    · rw [h,Rat.zero_mul];exact sm0.mono (by decide)
theorem E7I (hl:g.length<400000):∀(K:Nat) (rest q:List Rat),Tr rest→rest.length<300000→K<300000→Sl q→Tr q→rest.length+1≤K+g.length→dOk g (inv g) K (co rest)→(∀j,j<K→co q j=0)→
    ∃Q,Tr Q∧(∀j,co Q j=co q j+qv g (inv g) K (co rest) j)∧Ev (fun k=>p9 k (g.map fr) (q.map fr) (rest.map fr)) (Q.map fr,(A2F g.length (dv g (inv g) K (co rest))).map fr):=by
  intro K
  induction K with
  | zero=>
    intro rest q ht hr hK hq tq hle hd hz
    refine⟨q,tq,fun j=>by show _=co q j+0;rw [Rat.add_zero],?_⟩
    refine Ev.step (f:=fun k=>p9 (k+1) (g.map fr) (q.map fr) (rest.map fr)) (fun k=>rfl) ?_
    show Ev (fun k=>A7D (p9 k) (M8 k) (A2I k) (X1 k) (j6 k) (Y6 k) (A0H k) _ _ _) _
    unfold A7D
    rw [List.length_map,List.length_map]
    have e:A2F g.length (dv g (inv g) 0 (co rest))=rest:=w7 M1 ht fun j=>by
      unfold A2F
      rw [A1i]
      split
      · rfl
      · rw [N0 (by omega)]
    rw [e]
    exact D6 (by omega) (Ev.now _)
  | succ K ih=>
    intro rest q ht hr hK hq tq hle hd hz
    obtain⟨d1,d2,d3,d4⟩:=hd
    by_cases c:rest.length+1≤K+g.length
    · have hc0:co rest (K+g.length-1)*inv g=0:=by rw [N0 (by omega),Rat.zero_mul]
      have e:=E7Y (g:=g) (v:=inv g) (k:=K) (r:=co rest) hc0
      rw [e]at d4
      obtain⟨Q,h1,h2,h3⟩:=ih rest q ht hr (by omega) hq tq c d4 fun j hj=>hz j (by omega)
      refine⟨Q,h1,fun j=>?_,?_⟩
      · rw [h2 j]
        show _=_+if j=K then _ else qv g (inv g) K (O5 g (inv g) K (co rest)) j
        rw [e]
        split
        · rename_i ej;rw [hc0,ej,A9O (Nat.le_refl _)]
        · rfl
      · show Ev _ (_,(A2F g.length (dv g (inv g) K (O5 g (inv g) K (co rest)))).map fr)
        rw [e];exact h3
    · have hlen:rest.length=K+g.length:=by omega
      have hrl:rest.length-1=K+g.length-1:=by omega
      generalize hc:co rest (K+g.length-1)*inv g=w at d2 d3
      have hml:=F6D (k:=K) hg h0 hg0 hv (by omega) hl d2 d3
      have hdiv:Ev (fun k=>A0H k (fr (co rest (rest.length-1))) (fr (co g (g.length-1)))) (fr w):=by
        have:=E8d (a:=co rest (rest.length-1)) (b:=co g (g.length-1)) ((d1 _).mono (by decide)) (hg.co _) (A6B hg0 h0)
        rw [Rat.div_def,hrl]at this
        rw [hrl,←hc];exact this
      have e2:co (o9 rest (E2 (mono K w) g))=O5 g (inv g) K (co rest):=by
        funext m
        rw [B5K,D2T]
        unfold O5
        rw [hc]
        by_cases cm:K≤m∧m<K+g.length
        · rw [if_pos cm,if_pos (by omega)]
        · rw [if_neg cm,if_neg (by omega),Rat.sub_eq_add_neg,Rat.neg_zero,Rat.add_zero]
      have hz2:O5 g (inv g) K (co rest) (K+g.length-1)=0:=by
        unfold O5
        rw [if_pos (by omega),hc,show K+g.length-1-K=g.length-1 by omega,←hc]
        unfold inv
        rw [Rat.mul_assoc,Rat.inv_mul_cancel _ (A6B hg0 h0),Rat.mul_one,Rat.sub_eq_add_neg,Rat.add_neg_cancel]
      have hlr:(o9 rest (E2 (mono K w) g)).length≤K+g.length-1:=E9d M1 fun j hj=>by
        rw [e2]
        rcases Nat.lt_or_ge (K+g.length-1) j with h1|h1
        · unfold O5
          rw [if_neg (by omega),N0 (by omega)]
        · rw [show j=K+g.length-1 by omega];exact hz2
      have hmu:(E2 (mono K w) g).length<1000000∧∀a,a∈E2 (mono K w) g→Sm 9000 a:=by
        refine⟨Nat.lt_of_le_of_lt (A0F _ _) (by have:=A9P K w;omega),fun a ha=>?_⟩
        obtain⟨j,hj,rfl⟩:=B9X (B2j ha)
        rw [←B6a,D2T]
        split
        · exact d3 _
        · exact sm0
      have hrs:Sl rest:=⟨by omega,fun a ha=>by
        obtain⟨i,hi,rfl⟩:=List.getElem_of_mem ha
        have:=d1 i
        unfold co at this
        rw [List.getD_eq_getElem?_getD,List.getElem?_eq_getElem hi]at this
        exact Sm.mono this (by decide)⟩
      have hq':∀j,co (E5 q (mono K w)) j=co q j+if j=K then w else 0:=fun j=>by rw [g9,B2V]
      have hms:Sl (mono K w):=⟨Nat.lt_of_le_of_lt (A9P _ _) (by omega),fun a ha=>by
        obtain⟨j,hj,rfl⟩:=B9X (B2j ha)
        show Sm 10000 (if j=K then w else 0)
        split
        · exact d2.mono (by decide)
        · exact sm0.mono (by decide)⟩
      rw [←e2]at d4
      obtain⟨Q,h1,h2,h3⟩:=ih (o9 rest (E2 (mono K w) g)) (E5 q (mono K w)) M1 (by omega) (by omega)
        (by
          refine⟨Nat.lt_of_le_of_lt (A0F _ _) (by have:=hq.1;have:=A9P K w;omega),fun a ha=>?_⟩
          obtain⟨j,hj,rfl⟩:=B9X (B2j ha)
          show Sm 10000 (co q j+co (mono K w) j)
          rw [B2V]
          split
          · rename_i ej;rw [ej,hz K (by omega),Rat.zero_add];exact d2.mono (by decide)
          · rw [Rat.add_zero];exact hq.co j)
        M1 (by omega) d4 (fun j hj=>by rw [hq',hz j (by omega),if_neg (by omega),Rat.add_zero])
      refine⟨Q,h1,fun j=>?_,?_⟩
      · rw [h2 j,hq',e2]
        show _=_+if j=K then co rest (K+g.length-1)*inv g else _
        rw [hc]
        split
        · rename_i ej;rw [ej,A9O (Nat.le_refl _),Rat.add_zero]
        · rw [Rat.add_zero]
      · refine Ev.step (f:=fun k=>p9 (k+1) (g.map fr) (q.map fr) (rest.map fr)) (fun k=>rfl) ?_
        show Ev (fun k=>A7D (p9 k) (M8 k) (A2I k) (X1 k) (j6 k) (Y6 k) (A0H k) _ _ _) _
        unfold A7D
        have hw:wrap64 ((rest.length:Int)-(g.length:Int))=(K:Int):=by rw [J6 (by omega) (by omega)];omega
        rw [List.length_map,List.length_map,hw]
        rw [e2]at h3
        exact C2 (by omega) (Ev.bind (D0k (by omega) (by omega)) (Ev.bind (D0k (by omega) h0) (Ev.bind hdiv (Ev.bind (F2R (by omega)) (Ev.bind (B9Z hq hms) (Ev.bind (D2I hml) (Ev.bind (D4i hrs hmu) h3)))))))
theorem D9h {f:List Rat} (hl:g.length<400000) (hf:f.length<200000) (ht:Tr f) (hd:dOk g (inv g) (f.length+1-g.length) (co f)):
    Ev (fun k=>A5P k (f.map fr) (g.map fr)) ((A2H f g).map fr,(D4 f g).map fr):=by
  show Ev (fun k=>B4x (p9 k) (G1 k) _ _) _
  unfold B4x
  have h1:=B3Y (g:=f) (by omega)
  rw [ht.trim]at h1
  obtain⟨Q,q1,q2,q3⟩:=E7I hg h0 hg0 hv hl (f.length+1-g.length) f [] ht (by omega) (by omega) Sl.nil (fun a h=>by cases h) (by omega) hd fun j _=>N0 (Nat.zero_le _)
  have e:Q=A2H f g:=F2z q1 fun j=>by
    rw [q2 j,N0 (show([]:List Rat).length≤j from Nat.zero_le _),Rat.zero_add]
    split
    · rfl
    · exact A9O (by omega)
  rw [e]at q3
  exact Ev.bind h1 q3
theorem E7H {f:List Rat} (hl:g.length<400000) (hf:f.length<200000) (ht:Tr f) (hd:dOk g (inv g) (f.length+1-g.length) (co f)):
    Ev (fun k=>A4q k (f.map fr) (g.map fr)) ((D4 f g).map fr):=by
  show Ev (fun k=>B3u (A5P k) _ _) _
  unfold B3u
  exact Ev.bind (D9h hg h0 hg0 hv hl hf ht hd) (Ev.now _)
theorem F5m {f:List Rat} (hl:g.length<400000) (hf:f.length<200000) (ht:Tr f) (hd:dOk g (inv g) (f.length+1-g.length) (co f)):
    Ev (fun k=>A0a k (g.map fr) (f.map fr)) ((D4 f g).map fr):=by
  show Ev (fun k=>B4b (A4q k) _ _) _
  unfold B4b
  exact Ev.bind (E7H hg h0 hg0 hv hl hf ht hd) (Ev.now _)
theorem F1u {f:List Rat} (hf:f.length<200000) (ht:Tr f) (hd:dOk g (inv g) (f.length+1-g.length) (co f)):
    Ev (fun k=>O1 k (g.map fr) (f.map fr)) ((D4 f g).map fr):=by
  show Ev (fun k=>B2t (W8 k) _ _) _
  unfold B2t
  exact Ev.bind (F4m (by omega) ht hg h0 hg0 (hv.mono (by decide)) hd) (Ev.now _)
end
def Cs (D s:Nat) (q:Rat):Prop:=∃n:Int,q=mkRat n D∧(ab n).size≤s
section
variable {D E s t u:Nat} {a b:Rat} {n:Nat}
theorem Cs.mono (h:Cs D s a) (hs:s≤t):Cs D t a:=by obtain⟨n,e,h⟩:=h;exact⟨n,e,Nat.le_trans h hs⟩
theorem Cs.zero : Cs D s 0 := ⟨0, (Rat.zero_mkRat D).symm, by have:(ab 0).size=0:=by decide +kernel
                                                              omega⟩
theorem Cs.neg (h:Cs D s a):Cs D s (-a):=by
  obtain⟨n,rfl,h⟩:=h
  exact⟨-n,Rat.neg_mkRat n D,by rw [D8n];exact h⟩
theorem Cs.add (hD:D≠0) (ha:Cs D s a) (hb:Cs D t b) (hs:s≤u) (ht:t≤u):Cs D (u+1) (a+b):=by
  obtain⟨n,rfl,h1⟩:=ha
  obtain⟨m,rfl,h2⟩:=hb
  refine⟨n+m,?_,B3o (Nat.le_trans h1 hs) (Nat.le_trans h2 ht)⟩
  rw [Rat.mkRat_add_mkRat n m hD hD,←Int.add_mul,Rat.mkRat_mul_right hD]
theorem Cs.sub (hD:D≠0) (ha:Cs D s a) (hb:Cs D t b) (hs:s≤u) (ht:t≤u):Cs D (u+1) (a-b):=by
  rw [Rat.sub_eq_add_neg];exact ha.add hD hb.neg hs ht
theorem Cs.mul (ha:Cs D s a) (hb:Cs E t b):Cs (D*E) (s+t) (a*b):=by
  obtain⟨n,rfl,h1⟩:=ha
  obtain⟨m,rfl,h2⟩:=hb
  exact⟨n*m,Rat.mkRat_mul_mkRat n m D E,A1R h1 h2⟩
theorem Cs.sm (hD:D≠0) (h:Cs D s a) (hs:s≤t) (hd:(B2 D).size≤t):Sm t a:=by
  obtain⟨n,rfl,h1⟩:=h
  exact Sm.mk_ (Nat.le_trans h1 hs) hd hD
theorem Cs.int (h1:a.den=1) (h2:(ab a.num).size≤s):Cs 1 s a:=⟨a.num,by rw [←h1];exact(Rat.mkRat_self a).symm,h2⟩
theorem f7 (hD:D≠0) (hE:E≠0):D*E≠0:=Nat.mul_ne_zero hD hE
theorem C5U:∀{l:List Rat},(∀a,a∈l→Sm 8 a)→∃D,D≠0∧(B2 D).size≤8*l.length+1∧∀a,a∈l→Cs D (8*l.length+9) a
  | [],_=>⟨1,by decide,by decide +kernel,fun a h=>by cases h⟩
  | a::l,h=>by
    obtain⟨D,d1,d2,d3⟩:=C5U (l:=l) fun b hb=>h b (List.mem_cons_of_mem _ hb)
    obtain⟨a1,a2⟩:=h a List.mem_cons_self
    rw [List.length_cons]
    refine⟨a.den*D,f7 a.den_nz d1,Nat.le_trans (b7 a2 d2) (by omega),fun b hb=>?_⟩
    rcases List.mem_cons.1 hb with rfl|hb
    · refine⟨b.num*(D:Int),?_,Nat.le_trans (A1R a1 (n:=8*l.length+1) (by rw [Y8];exact d2)) (by omega)⟩
      rw [Rat.mkRat_mul_right d1,Rat.mkRat_self]
    · obtain⟨n,rfl,h1⟩:=d3 b hb
      refine⟨(a.den:Int)*n,(Rat.mkRat_mul_left a.den_nz).symm,Nat.le_trans (A1R (m:=8) (by rw [Y8];exact a2) h1) (by omega)⟩
end
structure Pz (D s B:Nat) (a:List Rat):Prop where
  len:a.length≤B
  tr:Tr a
  cs:∀m,Cs D s (co a m)
section
variable {D E s t u B C:Nat} {a b:List Rat}
theorem Pz.mono (h:Pz D s B a) (hs:s≤t) (hB:B≤C):Pz D t C a:=⟨Nat.le_trans h.len hB,h.tr,fun m=>(h.cs m).mono hs⟩
theorem Pz.nil:Pz D s B []:=⟨Nat.zero_le _,(fun a h=>by cases h),fun m=>by rw [N0 (Nat.zero_le _)];exact Cs.zero⟩
theorem Pz.of (h1:a.length≤B) (h2:Tr a) (h3:∀x,x∈a→Cs D s x):Pz D s B a:=⟨h1,h2,fun m=>by
  rcases Nat.lt_or_ge m a.length with h|h
  · exact h3 _ (D7Q h)
  · rw [N0 h];exact Cs.zero⟩
theorem E1v {x:Rat} (h:x∈a):∃i,i<a.length∧x=co a i:=by
  obtain⟨i,hi,rfl⟩:=List.getElem_of_mem h
  refine⟨i,hi,?_⟩
  unfold co
  rw [List.getD_eq_getElem?_getD,List.getElem?_eq_getElem hi];rfl
theorem Pz.mem (h:Pz D s B a) {x:Rat} (hx:x∈a):Cs D s x:=by
  obtain⟨i,_,rfl⟩:=E1v hx
  exact h.cs i
theorem Pz.add (hD:D≠0) (ha:Pz D s B a) (hb:Pz D t C b) (hs:s≤u) (ht:t≤u):Pz D (u+1) (max B C) (E5 a b):=
  ⟨Nat.le_trans (A0F _ _) (by have:=ha.len;have:=hb.len;omega),M1,fun m=>by rw [g9];exact(ha.cs m).add hD (hb.cs m) hs ht⟩
theorem Pz.sub (hD:D≠0) (ha:Pz D s B a) (hb:Pz D t C b) (hs:s≤u) (ht:t≤u):Pz D (u+1) (max B C) (o9 a b):=
  ⟨Nat.le_trans (A0F _ _) (by have:=ha.len;have:=hb.len;omega),M1,fun m=>by rw [B5K];exact(ha.cs m).sub hD (hb.cs m) hs ht⟩
theorem B7e (hD:D≠0) (hE:E≠0) (ha:Pz D s B a) (hb:Pz E t C b) (m:Nat):∀i,Cs (D*E) (s+t+i) (G9 a b m i)
  |0=>Cs.zero
  | i+1=>by
    show Cs _ _ (if _ then _ else _)
    split
    · exact(B7e hD hE ha hb m i).add (u:=s+t+i) (f7 hD hE) ((ha.cs i).mul (hb.cs _)) (Nat.le_refl _) (by omega)
    · exact(B7e hD hE ha hb m i).mono (by omega)
theorem Pz.mul (hD:D≠0) (hE:E≠0) (ha:Pz D s B a) (hb:Pz E t C b):Pz (D*E) (s+t+B) (B+C) (E2 a b):=
  ⟨Nat.le_trans (A0F _ _) (by have:=ha.len;have:=hb.len;omega),M1,fun m=>by rw [B6a];exact(B7e hD hE ha hb m _).mono (by have:=ha.len;omega)⟩
theorem Pz.sl (hD:D≠0) (ha:Pz D s B a) (h1:(B2 D).size≤9000) (h2:s≤9000) (h3:B<400000):a.length<400000∧∀x,x∈a→Sm 9000 x:=
  ⟨Nat.lt_of_le_of_lt ha.len h3,fun x hx=>(ha.mem hx).sm hD h2 h1⟩
theorem Pz.Sl (hD:D≠0) (ha:Pz D s B a) (h1:(B2 D).size≤9000) (h2:s≤9000) (h3:B<400000):Sl a:=
  ⟨by have:=(ha.sl hD h1 h2 h3).1;omega,fun x hx=>((ha.sl hD h1 h2 h3).2 x hx).mono (by decide)⟩
theorem Pz.ml (hD:D≠0) (hE:E≠0) (ha:Pz D s B a) (hb:Pz E t C b) (h1:(B2 D).size+(B2 E).size≤9000) (h2:s+t+B≤9000) (h3:B<400000) (h4:C<400000):Ml a b:=by
  have hd:(B2 (D*E)).size≤9000:=Nat.le_trans (b7 (Nat.le_refl _) (Nat.le_refl _)) h1
  exact⟨by have:=ha.len;omega,by have:=hb.len;omega,fun m i hi=>(B7e hD hE ha hb m i).sm (f7 hD hE) (by have:=ha.len;omega) (by omega),
    fun i=>(ha.cs i).sm hD (by omega) (by omega),fun i=>(hb.cs i).sm hE (by omega) (by omega),fun i j=>((ha.cs i).mul (hb.cs j)).sm (f7 hD hE) (by omega) (by omega)⟩
end
structure Mk (M:List Rat):Prop where
  pz:Pz 1 8 30 M
  pos:0<M.length
  one:inv M=1
section
variable {D s B:Nat} {M a:List Rat} (hM:Mk M)
include hM
theorem D2M (hD:D≠0) {k:Nat} {r:Nat→Rat} (hr:∀m,Cs D s (r m)) (m:Nat):Cs D (s+9) (O5 M (inv M) k r m):=by
  unfold O5
  rw [hM.one]
  split
  · have h1:=(hr (k+M.length-1)).mul (hM.pz.cs (m-k))
    rw [Nat.mul_one]at h1
    rw [Rat.mul_one]
    exact(hr m).sub hD h1 (u:=s+8) (by omega) (Nat.le_refl _)
  · exact(hr m).mono (by omega)
theorem C2a (hD:D≠0):∀{K s:Nat} {r:Nat→Rat},(∀m,Cs D s (r m))→∀m,Cs D (s+9*K) (dv M (inv M) K r m)
  |0,s,r,h,m=>h m
  |K+1,s,r,h,m=>(C2a hD (K:=K) (D2M hM hD (k:=K) h) m).mono (by omega)
theorem C6A (hD:D≠0) (hd:(B2 D).size≤9000):∀{K s:Nat} {r:Nat→Rat},(∀m,Cs D s (r m))→s+9*K≤8900→dOk M (inv M) K r
  |0,s,r,h,hs=>fun m=>(h m).sm hD (by omega) hd
  | K+1,s,r,h,hs=>by
    refine⟨fun m=>(h m).sm hD (by omega) hd,?_,fun m=>?_,C6A hD hd (D2M hM hD (k:=K) h) (by omega)⟩
    · rw [hM.one,Rat.mul_one];exact(h _).sm hD (by omega) hd
    · have h1:=(h (K+M.length-1)).mul (hM.pz.cs m)
      rw [Nat.mul_one]at h1
      rw [hM.one,Rat.mul_one]
      exact h1.sm hD (by omega) hd
theorem Pz.rem (hD:D≠0) (ha:Pz D s B a):Pz D (s+9*B) (M.length-1) (D4 a M):=
  ⟨A0F _ _,M1,fun m=>by
    unfold D4 A2F
    rw [A1i]
    split
    · exact(C2a hM hD ha.cs m).mono (by have:=ha.len;have:=hM.pos;omega)
    · exact Cs.zero⟩
theorem Mk.sl:Sl M:=hM.pz.Sl (by decide) (by decide +kernel) (by decide) (by decide)
theorem Mk.inv:Sm 9000 (inv M):=by rw [hM.one];exact⟨by decide +kernel,by decide +kernel⟩
theorem D7n (hD:D≠0) (ha:Pz D s B a) (hd:(B2 D).size≤9000) (hB:B<200000) (hs:s+9*B≤8900):Ev (fun k=>O1 k (M.map fr) (a.map fr)) ((D4 a M).map fr):=by
  have:=ha.len;have:=hM.pos
  exact F1u hM.sl hM.pos hM.pz.tr hM.inv (by omega) ha.tr (C6A hM hD hd ha.cs (by omega))
theorem D9u (hD:D≠0) (ha:Pz D s B a) (hd:(B2 D).size≤9000) (hB:B<200000) (hs:s+9*B≤8900):Ev (fun k=>A0a k (M.map fr) (a.map fr)) ((D4 a M).map fr):=by
  have:=ha.len;have:=hM.pos;have:=hM.pz.len
  exact F5m hM.sl hM.pos hM.pz.tr hM.inv (by omega) (by omega) ha.tr (C6A hM hD hd ha.cs (by omega))
end
abbrev PQ:=List (List Rat)
abbrev fm (F:PQ):List FP:=F.map (List.map fr)
def C3 (F:PQ) (i:Nat):List Rat:=F.getD i []
def plF (n:Nat) (c:Nat→List Rat):PQ:=G6 List.isEmpty (tb n c)
theorem A3K {F:PQ} {j:Nat} (h:F.length≤j):C3 F j=[]:=by unfold C3;rw [List.getD_eq_getElem?_getD,List.getElem?_eq_none h];rfl
theorem C3W {F:PQ} {j:Nat} (h:j<F.length):C3 F j∈F:=by unfold C3;rw [List.getD_eq_getElem?_getD,List.getElem?_eq_getElem h];exact List.getElem_mem h
theorem A8e {F:PQ} {i:Nat} (h:i<F.length):C5 ([]:FP) (fm F) (i:Int)=(C3 F i).map fr:=by
  unfold C5 C3
  rw [Int.toNat_natCast,List.getD_eq_getElem?_getD,List.getElem?_map,List.getD_eq_getElem?_getD,List.getElem?_eq_getElem h];rfl
theorem S1 (F:PQ):(fm F).length=F.length:=List.length_map ..
theorem B1I (n:Nat) (c:Nat→List Rat):(plF n c).length≤n:=by have:=B4N List.isEmpty (tb n c);rwa [J4]at this
theorem B6f {l:PQ}:G6 List.isEmpty (fm l)=fm (G6 List.isEmpty l):=by
  rw [C8q]
  congr 2
  funext x
  cases x<;>rfl
theorem D7m {n:Nat} {c:Nat→List Rat} (hn:n<1000000):Ev (fun k=>F7 k (tb n fun i=>(c i).map fr)) (fm (plF n c)):=by
  have h:=C4k (f:=fm (tb n c)) (by rw [S1,J4];omega)
  rw [B6f]at h
  rw [←A7U (List.map fr)]
  exact h
theorem E3l {n:Nat} {c:Nat→List Rat} (hn:n<1000000):Ev (fun k=>A0u k (tb n fun i=>(c i).map fr)) (fm (plF n c)):=by
  have h:=F2V (f:=fm (tb n c)) (by rw [S1,J4];omega)
  rw [B6f]at h
  rw [←A7U (List.map fr)]
  exact h
theorem D1W {F:PQ} {i:Nat} (hi:i<1099511627776):Ev (fun k=>A2k k (fm F) (i:Int)) ((C3 F i).map fr):=by
  show Ev (fun k=>B3N _ _) _
  unfold B3N
  rw [S1]
  rcases Nat.lt_or_ge i F.length with h|h
  · rw [A8e h];exact C2 (by omega) (O0 (by omega) (by omega) (Ev.now _))
  · rw [A3K h];exact D6 (by omega) (Ev.now _)
def l9 (F G:PQ):PQ:=plF (max F.length G.length) fun i=>E5 (C3 F i) (C3 G i)
theorem E1C {n i:Nat} {c:Nat→FP} {a:FP} {d:FP} (hi:i<n) (h:c i=a):(tb n fun j=>if j<i then c j else d).set (i:Int).toNat a=tb n fun j=>if j<i+1 then c j else d:=
  A4v hi fun j hj=>by
    by_cases e:j=i
    · rw [if_pos e,if_pos (by omega),e,h]
    · rw [if_neg e]
      by_cases e2:j<i
      · rw [if_pos e2,if_pos (by omega)]
      · rw [if_neg e2,if_neg (by omega)]
section
variable {F G:PQ} (lF:F.length<400000) (lG:G.length<400000) (hF:∀i,(C3 F i).length<400000∧∀x,x∈C3 F i→Sm 9000 x) (hG:∀i,(C3 G i).length<400000∧∀x,x∈C3 G i→Sm 9000 x)
include lF lG hF hG
theorem slF (i:Nat):Sl (C3 F i)∧Sl (C3 G i):=⟨⟨by have:=(hF i).1;omega,fun x hx=>((hF i).2 x hx).mono (by decide)⟩,⟨by have:=(hG i).1;omega,fun x hx=>((hG i).2 x hx).mono (by decide)⟩⟩
theorem E1O:Ev (fun k=>A1h k (fm F) (fm G)) (fm (l9 F G)):=by
  show Ev (fun k=>B4y (A0P k) _ _) _
  unfold B4y
  rw [S1,S1,B9H]
  refine C2 (by omega) (C2 (Int.le_refl _) (C2 (by rw [Int.toNat_natCast];omega) ?_))
  rw [Int.toNat_natCast,List.length_replicate,B4T]
  refine k8 (n:=max F.length G.length) (by omega) (fun k i (s:List FP)=>A0P k (fm F) (fm G) ((max F.length G.length:Nat):Int) i s)
    (fun i=>tb (max F.length G.length) fun j=>if j<i then(E5 (C3 F j) (C3 G j)).map fr else []) ?_ fun i hi ih=>?_
  · show Ev (fun k=>A7c (A0P k) (K0 k) (F7 k) (A2k k) _ _ _ _ _) _
    unfold A7c
    rw [q9 (h':=fun j=>(E5 (C3 F j) (C3 G j)).map fr) fun j hj=>if_pos hj]
    exact D6 (by omega) (Ev.bind (D7m (by omega)) (Ev.now _))
  · show Ev (fun k=>A7c (A0P k) (K0 k) (F7 k) (A2k k) _ _ _ _ _) _
    unfold A7c
    obtain⟨h1,h2⟩:=slF lF lG hF hG i
    rw [wi (by omega),J4]
    refine C2 (by omega) (Ev.bind (D1W (by omega)) (Ev.bind (D1W (by omega)) (Ev.bind (C8R h1 h2) (O0 (by omega) (by omega) ?_))))
    rw [E1C (c:=fun j=>(E5 (C3 F j) (C3 G j)).map fr) hi rfl]
    exact ih
end
def F3 (F G:PQ) (m:Nat):Nat→List Rat
  |0=>[]
  |i+1=>if i≤m∧m-i<G.length then E5 (F3 F G m i) (E2 (C3 F i) (C3 G (m-i)))else F3 F G m i
def G7 (M:List Rat) (F G:PQ):PQ:=plF (F.length+G.length-1) fun m=>D4 (F3 F G m F.length) M
theorem D8v (F:PQ) (m:Nat):∀i,F3 F [] m i=[]
  |0=>rfl
  |i+1=>by unfold F3;rw [if_neg (fun h=>Nat.not_lt_zero _ h.2)];exact D8v F m i
theorem D2X {n:Nat} {c:Nat→List Rat} (h:∀j,j<n→c j=[]):plF n c=[]:=by
  unfold plF
  rw [q9 h]
  induction n with
  |zero=>rfl
  |succ n ih=>rw [←A9e,A7z];exact(if_pos rfl).trans (ih fun j hj=>h j (by omega))
section
variable {D E s t B C:Nat} {M:List Rat} {F G:PQ} (hM:Mk M)
include hM
theorem D7w:D4 [] M=[]:=A3n (fun a h=>by cases h) hM.pos
theorem E9Z (G:PQ):G7 M [] G=[]:=D2X fun j _=>D7w hM
theorem E8P (F:PQ):G7 M F []=[]:=D2X fun j _=>by rw [D8v];exact D7w hM
variable (hD:D≠0) (hE:E≠0) (hF:∀i,Pz D s B (C3 F i)) (hG:∀i,Pz E t C (C3 G i)) (lF:F.length<100000) (lG:G.length<100000)
  (b1:(B2 D).size+(B2 E).size≤9000) (b2:s+t+B+F.length+9*(B+C)≤8000) (b3:B+C<100000)
include hD hE hF hG
theorem B0c (m:Nat):∀i,Pz (D*E) (s+t+B+i) (B+C) (F3 F G m i)
  |0=>Pz.nil
  | i+1=>by
    show Pz _ _ _ (if _ then _ else _)
    split
    · have:=(B0c m i).add (u:=s+t+B+i) (f7 hD hE) ((hF i).mul hD hE (hG (m-i))) (Nat.le_refl _) (by omega)
      rw [Nat.max_self]at this
      exact this
    · exact(B0c m i).mono (by omega) (Nat.le_refl _)
include lF lG b1 b2 b3
theorem B5s:(B2 (D*E)).size≤9000:=Nat.le_trans (b7 (Nat.le_refl _) (Nat.le_refl _)) b1
theorem D0l (m:Nat) {i:Nat} (hi:i≤F.length):Sl (F3 F G m i):=(B0c hM hD hE hF hG m i).Sl (f7 hD hE) (B5s hM hD hE hF hG lF lG b1 b2 b3) (by omega) (by omega)
theorem D5H (i j:Nat):Sl (E2 (C3 F i) (C3 G j)):=((hF i).mul hD hE (hG j)).Sl (f7 hD hE) (B5s hM hD hE hF hG lF lG b1 b2 b3) (by omega) (by omega)
theorem D8C (i j:Nat):Ml (C3 F i) (C3 G j):=(hF i).ml hD hE (hG j) b1 (by omega) (by omega) (by omega)
theorem D7d:Ev (fun k=>m5 k (M.map fr) (fm F) (fm G)) (fm (G7 M F G)):=by
  show Ev (fun k=>B2Z (t3 k) _ _ _) _
  unfold B2Z
  rw [S1,S1]
  rcases Nat.eq_zero_or_pos F.length with e|e
  · rw [List.length_eq_zero_iff.1 e,E9Z hM];exact C2 rfl (Ev.now _)
  refine D6 (by omega) ?_
  rcases Nat.eq_zero_or_pos G.length with e'|e'
  · rw [List.length_eq_zero_iff.1 e',E8P hM];exact C2 rfl (Ev.now _)
  refine D6 (by omega) ?_
  have hN:wrap64 (wrap64 ((F.length:Int)+(G.length:Int))-1)=((F.length+G.length-1:Nat):Int):=by rw [J6 (x:=(F.length:Int)+_) (by omega) (by omega),J6 (by omega) (by omega)];omega
  rw [hN]
  clear hN
  refine C2 (by omega) (C2 (Int.le_refl _) (C2 (by rw [Int.toNat_natCast];omega) ?_))
  rw [Int.toNat_natCast,B4T]
  generalize hn:F.length+G.length-1=N
  have fin:Ev (fun k=>i5 k (N:Int) 0 (M.map fr) (tb N fun m=>(F3 F G m F.length).map fr)) (fm (G7 M F G)):=by
    refine k8 (n:=N) (by omega) (fun k i (s:List FP)=>i5 k (N:Int) i (M.map fr) s) (fun i=>tb N fun m=>if m<i then(D4 (F3 F G m F.length) M).map fr else(F3 F G m F.length).map fr) ?_ fun i hi ih=>?_
    · show Ev (fun k=>A7P (i5 k) (F7 k) (O1 k) _ _ _ _) _
      unfold A7P
      rw [q9 (h':=fun m=>(D4 (F3 F G m F.length) M).map fr) fun m hm=>if_pos hm]
      unfold G7
      rw [hn]
      exact D6 (by omega) (Ev.bind (D7m (by omega)) (Ev.now _))
    · show Ev (fun k=>A7P (i5 k) (F7 k) (O1 k) _ _ _ _) _
      unfold A7P
      rw [wi (by omega),J4,B2Y hi,if_neg (by omega)]
      refine V9 (by omega) (by omega) (by omega) (Ev.bind (D7n hM (f7 hD hE) (B0c hM hD hE hF hG i F.length) (B5s hM hD hE hF hG lF lG b1 b2 b3) (by omega) (by omega)) (O0 (by omega) (by omega) ?_))
      rw [A4v (h':=fun m=>if m<i+1 then(D4 (F3 F G m F.length) M).map fr else(F3 F G m F.length).map fr) hi fun m hm=>?_]
      · exact ih
      · by_cases e:m=i
        · subst e;rw [if_pos (by omega),if_pos rfl]
        · rw [if_neg e];by_cases e2:m<i
          · rw [if_pos e2,if_pos (by omega)]
          · rw [if_neg e2,if_neg (by omega)]
  refine k8 (n:=F.length) (by omega) (fun k i (s:List FP)=>t3 k (fm G) (fm F) (F.length:Int) i (M.map fr) s) (fun i=>tb N fun m=>(F3 F G m i).map fr) ?_ fun i hi ih=>?_
  · show Ev (fun k=>A9F (o6 k) (i5 k) _ _ _ _ _ _) _
    unfold A9F
    rw [J4]
    exact D6 (by omega) fin
  · show Ev (fun k=>A9F (o6 k) (i5 k) _ _ _ _ _ _) _
    unfold A9F
    rw [A8e hi,S1,S1]
    refine V9 (by omega) (by omega) (by omega) ?_
    have:=k8 (n:=G.length) (by omega) (fun k j (s:List FP)=>o6 k (fm G) (i:Int) ((C3 F i).map fr) (fm F) (F.length:Int) (i:Int) (fm G) (G.length:Int) j (M.map fr) s)
      (fun j=>tb N fun m=>(if i≤m∧m<i+j then E5 (F3 F G m i) (E2 (C3 F i) (C3 G (m-i)))else F3 F G m i).map fr) (r:=fm (G7 M F G)) ?_ fun j hj jh=>?_
    · rw [q9 (h':=fun m=>(F3 F G m i).map fr) fun m _=>by rw [if_neg (by omega)]]at this
      exact this
    · show Ev (fun k=>A7p (t3 k) (o6 k) (K0 k) (M2 k) _ _ _ _ _ _ _ _ _ _ _) _
      unfold A7p
      rw [wi (i:=i) (by omega),q9 (h':=fun m=>(F3 F G m (i+1)).map fr) fun m _=>?_]
      · exact D6 (by omega) ih
      · show List.map fr (if _ then _ else _)=List.map fr (if _ then _ else _)
        by_cases c:i≤m∧m<i+G.length
        · rw [if_pos c,if_pos (by omega)]
        · rw [if_neg c,if_neg (by omega)]
    · show Ev (fun k=>A7p (t3 k) (o6 k) (K0 k) (M2 k) _ _ _ _ _ _ _ _ _ _ _) _
      unfold A7p
      have hlt:i+j<N:=by omega
      have hij:wrap64 ((i:Int)+(j:Int))=((i+j:Nat):Int):=by rw [J6 (by omega) (by omega)];omega
      rw [hij,wi (i:=j) (by omega),J4,A8e hj,B2Y (d:=([]:FP)) (h:=fun m=>(if i≤m∧m<i+j then E5 (F3 F G m i) (E2 (C3 F i) (C3 G (m-i)))else F3 F G m i).map fr) hlt,if_neg (show¬(i≤i+j∧i+j<i+j)from fun h=>Nat.lt_irrefl _ h.2)]
      clear hij
      refine V9 (by omega) (by omega) (by rw [S1];omega) (O0 (by omega) (by omega) (Ev.bind (D6O (D8C hM hD hE hF hG lF lG b1 b2 b3 i j)) (Ev.bind (C8R (D0l hM hD hE hF hG lF lG b1 b2 b3 _ (by omega)) (D5H hM hD hE hF hG lF lG b1 b2 b3 i j)) (O0 (by omega) (by omega) ?_))))
      rw [A4v (h':=fun m=>(if i≤m∧m<i+(j+1)then E5 (F3 F G m i) (E2 (C3 F i) (C3 G (m-i)))else F3 F G m i).map fr) (by omega) fun m hm=>?_]
      · exact jh
      · by_cases c:m=i+j
        · subst c;rw [if_pos rfl,if_pos (by omega),show i+j-i=j by omega]
        · rw [if_neg c]
          by_cases c2:i≤m∧m<i+j
          · rw [if_pos c2,if_pos (by omega)]
          · rw [if_neg c2,if_neg (by omega)]
theorem F2M:Ev (fun k=>A5J k (M.map fr) (fm F) (fm G)) (fm (G7 M F G)):=by
  show Ev (fun k=>B30 (A0D k) _ _ _) _
  unfold B30
  have hN:wrap64 (wrap64 ((F.length:Int)+(G.length:Int))-1)=(F.length:Int)+(G.length:Int)-1:=by rw [J6 (x:=(F.length:Int)+_) (by omega) (by omega),J6 (by omega) (by omega)]
  refine k8 (n:=F.length+G.length-1) (by omega) (fun k i (s:List FP)=>A0D k (fm F) (fm G) i (M.map fr) s) (fun i=>tb i fun m=>(D4 (F3 F G m F.length) M).map fr) ?_ fun m hm ih=>?_
  · show Ev (fun k=>A7Q (s8 k) (A0u k) _ _ _ _ _) _
    unfold A7Q
    rw [S1,S1,hN]
    exact D6 (by omega) (Ev.bind (E3l (by omega)) (Ev.now _))
  · show Ev (fun k=>A7Q (s8 k) (A0u k) _ _ _ _ _) _
    unfold A7Q
    rw [S1,S1,hN]
    refine C2 (by omega) ?_
    refine k8 (n:=F.length) (by omega) (fun k i (s:FP)=>s8 k (fm F) (fm G) (m:Int) s (F.length:Int) i (M.map fr) (tb m fun m=>(D4 (F3 F G m F.length) M).map fr)) (fun i=>(F3 F G m i).map fr) ?_ fun i hi jh=>?_
    · show Ev (fun k=>A9D (A0D k) (s8 k) (M8 k) (X1 k) (A0a k) _ _ _ _ _ _ _ _) _
      unfold A9D
      rw [J4,wi (i:=m) (by omega)]
      refine D6 (by omega) (Ev.bind (D9u hM (f7 hD hE) (B0c hM hD hE hF hG m F.length) (B5s hM hD hE hF hG lF lG b1 b2 b3) (by omega) (by omega)) (C2 (by omega) ?_))
      rw [A9e (h:=fun m=>(D4 (F3 F G m F.length) M).map fr)]
      exact ih
    · show Ev (fun k=>A9D (A0D k) (s8 k) (M8 k) (X1 k) (A0a k) _ _ _ _ _ _ _ _) _
      unfold A9D
      have hw:wrap64 ((m:Int)-(i:Int))=(m:Int)-(i:Int):=J6 (by omega) (by omega)
      rw [S1,S1,hw,wi (i:=i) (by omega)]
      refine C2 (by omega) ?_
      by_cases c:i≤m∧m-i<G.length
      · have e:(m:Int)-(i:Int)=((m-i:Nat):Int):=by omega
        rw [e,A8e hi,A8e c.2]
        refine C2 (by omega) (C2 (by omega) (O0 (by omega) (by omega) (O0 (by omega) (by omega) (Ev.bind (D2I (D8C hM hD hE hF hG lF lG b1 b2 b3 i _)) (Ev.bind (B9Z (D0l hM hD hE hF hG lF lG b1 b2 b3 _ (by omega)) (D5H hM hD hE hF hG lF lG b1 b2 b3 i _)) ?_)))))
        have e2:F3 F G m (i+1)=E5 (F3 F G m i) (E2 (C3 F i) (C3 G (m-i))):=if_pos c
        rw [e2]at jh
        exact jh
      · have e2:F3 F G m (i+1)=F3 F G m i:=if_neg c
        rw [e2]at jh
        by_cases c1:i≤m
        · exact C2 (by omega) (D6 (by omega) jh)
        · exact D6 (by omega) jh
end
theorem C6y {a b:ByteArray} (h:F0 a b=true):a=b:=by
  rw [F5]at h
  exact D8d.1 (eq_of_beq h)
theorem F4g {a:Rat} (h:B1E (fr a)=true):a=1:=by
  unfold B1E at h
  rw [Bool.and_eq_true,Bool.and_eq_true]at h
  obtain⟨⟨h1,h2⟩,h3⟩:=h
  exact E3D (b:=((1:Int):Rat)) (Prod.ext (Prod.ext (eq_of_beq h1) (C6y h2)) (C6y h3))
theorem F0M {a:Rat} (h:wh (fr a)=true):a.den=1:=by
  have h1:B2 a.den=⟨#[1]⟩:=C6y h
  rw [←A9T]at h1
  exact B0V.1 h1
theorem E3W {m:FP} (h:A6j m 4=true):∃M,m=M.map fr∧Mk M∧M.length≤5∧2≤M.length:=by
  unfold A6j at h
  split at h
  · cases h
  · rename_i c
    split at h
    · cases h
    · rename_i c2
      have hf:=Decidable.not_not.1 c2
      obtain⟨p1,p2,p3⟩:=B2v hf
      obtain⟨M,rfl,h1,h2,h3⟩:=D5l p1
      rw [List.length_map]at c p2
      have hall:=List.all_eq_true.1 h
      unfold form at hf
      rw [if_neg (fun x=>x p1),List.length_map,if_neg (by omega)]at hf
      split at hf
      · cases hf
      · rename_i l1
        split at hf
        · cases hf
        · rename_i l2
          have e1:B0e (M.map fr)=true:=by cases hx:B0e (M.map fr)with|true=>rfl|false=>rw [hx]at l1;exact absurd rfl l1
          have e2:(M.map fr).all wh=true:=by cases hx:(M.map fr).all wh with|true=>rfl|false=>rw [hx]at l2;exact absurd rfl l2
          have hwh:=List.all_eq_true.1 e2
          have hinv:inv M=1:=by
            have hl:M.getLast?=some (co M (M.length-1)):=by
              unfold co
              rw [List.getD_eq_getElem?_getD,List.getLast?_eq_getElem?,List.getElem?_eq_getElem (by omega)];rfl
            unfold B0e at e1
            rw [List.getLast?_map,hl]at e1
            unfold inv
            rw [F4g e1];decide +kernel
          refine⟨M,rfl,⟨Pz.of (by omega) h3 fun x hx=>Cs.int (F0M (hwh _ (List.mem_map_of_mem hx))) ?_,by omega,hinv⟩,by omega,p2⟩
          have h4:=hall _ (List.mem_map_of_mem (f:=fr) hx)
          unfold sm4 at h4
          split at h4
          · cases h4
          · rename_i h5
            have:(ab x.num).size≤4:=Nat.not_lt.1 h5
            omega
def Few (F:PQ):Prop:=F.length≤5∧∀a,a∈F→(∀q,q∈a→Sm 8 q)∧Tr a∧a.length≤4
theorem D1J:∀{F:PQ},(∀a,a∈F→a.length≤4)→F.flatten.length≤4*F.length
  | [],_=>Nat.le_refl _
  | a::F,h=>by
    rw [List.flatten_cons,List.length_append,List.length_cons]
    have:=D1J (F:=F) fun b hb=>h b (List.mem_cons_of_mem _ hb)
    have:=h a List.mem_cons_self
    omega
theorem E1R {F:PQ} {D s:Nat} (h:Few F) (hc:∀a,a∈F→∀q,q∈a→Cs D s q) (i:Nat):Pz D s 4 (C3 F i):=by
  rcases Nat.lt_or_ge i F.length with h1|h1
  · have hm:=C3W h1
    exact Pz.of (h.2 _ hm).2.2 (h.2 _ hm).2.1 (hc _ hm)
  · rw [A3K h1];exact Pz.nil
theorem A4K.same {w:List FP} (h:A4K w):Ev (fun k=>z5 k w w) true:=F1r (by have:=h.1;omega) fun a ha=>(h.2 a ha).1
theorem E0n {m:FP} {f:List FP} (h:l8 m f=0):form m=0:=by
  unfold l8 at h
  by_cases c:form m≠0
  · rw [if_pos c]at h;exact h
  · exact Decidable.not_not.1 c
theorem E9T (m:FP) (f g:List FP):fst m [f,g]=X8 id 0 [l8 m f,l8 m g]:=by
  unfold fst l8 X8 X8 X8
  by_cases c:form m≠0
  · rw [if_pos c,if_pos c,if_pos c,if_pos (show id (form m)≠0 from c)];rfl
  · rw [if_neg c,if_neg c,if_neg c];rfl
theorem E2y {f:List FP} (h:A4K f):Ev (fun k=>j5 k f) false:=by
  have hl:=h.1
  have h1:Ev (fun k=>A5O k f) (ix (fun a=>a.any Z3) 0 f):=by
    show Ev (fun k=>A9E (i6 k) _) _
    unfold A9E
    refine u9 (d:=([]:FP)) (l:=f) (by omega) (fun k i (_:Unit)=>i6 k f (f.length:Int) i) (fun n _ l=>ix (fun a=>a.any Z3) n l) (fun _ _=>True) () trivial ?_ ?_
    · intro _ _
      show Ev (fun k=>A2j (i6 k) (A0I k) _ _ _) _
      unfold A2j
      exact D6 (Int.lt_irrefl _) (Ev.now _)
    · intro pre a post _ hp hi hr _ ih
      show Ev (fun k=>A2j (i6 k) (A0I k) _ _ _) _
      unfold A2j
      refine V9 hi (by omega) hi ?_
      rw [hr]
      have h1:Ev (fun k=>A0I k a) (a.any Z3):=Ev.bind (D6N (h.2 a (by rw [hp];simp)).1) (Ev.now _)
      exact Ev.bind h1 (A3S (fun _=>Ev.now _) fun _=>ih () trivial)
  have e:f.any (fun a=>a.any Z3)=false:=by
    rw [List.any_eq_false]
    intro a ha
    rw [Bool.not_eq_true,List.any_eq_false]
    intro x hx
    obtain⟨q,rfl,hq⟩:=(h.2 a ha).2 x hx
    unfold Z3
    rw [if_neg (show¬1024<(fr q).1.2.size from Nat.not_lt.2 hq.1),decide_eq_true_eq]
    exact Nat.not_lt.2 hq.2
  have h2:Ev (fun k=>j5 k f) (decide (ix (fun a=>a.any Z3) 0 f≥0)):=Ev.bind (Ev.bind h1 (Ev.now _)) (Ev.now _)
  rw [B4B,e]at h2
  exact h2
theorem Cs.up {D E s t:Nat} {a:Rat} (hE:E≠0) (h:Cs D s a) (he:(B2 E).size≤t):Cs (D*E) (s+t) a:=by
  obtain⟨n,rfl,h1⟩:=h
  exact⟨n*(E:Int),(Rat.mkRat_mul_right hE).symm,A1R h1 (n:=t) (by rw [Y8];exact he)⟩
theorem Pz.up {D E s t B:Nat} {a:List Rat} (hE:E≠0) (h:Pz D s B a) (he:(B2 E).size≤t):Pz (D*E) (s+t) B a:=⟨h.len,h.tr,fun m=>(h.cs m).up hE he⟩
theorem D8r {D j:Nat} (h:D≠0):D^j≠0:=Nat.pos_iff_ne_zero.1 (Nat.pow_pos (Nat.pos_of_ne_zero h))
theorem C7b {D t:Nat} (h:(B2 D).size≤t):∀j,(B2 (D^j)).size≤t*j+1
  | 0=>by
    have:(B2 1).size=1:=by decide +kernel
    rw [Nat.pow_zero];omega
  | j+1=>by
    rw [Nat.pow_succ,Nat.mul_succ]
    have:=b7 (C7b h j) h
    omega
def F5Q (n:Nat) (x:List Rat):Prop:=(∀q,q∈x→Sm 8 q)∧Tr x∧x.length≤n
theorem E3u {F:PQ} (hF:Few F):∃D,D≠0∧(B2 D).size≤161∧∀i,Pz D 169 4 (C3 F i):=by
  have h1:=D1J fun a ha=>(hF.2 a ha).2.2
  obtain⟨D,d1,d2,d3⟩:=C5U (l:=F.flatten) fun q hq=>by
    obtain⟨a,ha,hq⟩:=List.mem_flatten.1 hq
    exact(hF.2 a ha).1 q hq
  have:=hF.1
  exact⟨D,d1,by omega,E1R hF fun a ha q hq=>(d3 q (List.mem_flatten.2 ⟨a,ha,hq⟩)).mono (by omega)⟩
section
variable {D E s t B C:Nat} {M a b:List Rat} (hM:Mk M) (hD:D≠0) (hE:E≠0) (ha:Pz D s B a) (hb:Pz E t C b) (b1:(B2 D).size+(B2 E).size≤9000) (b2:s+t+B+9*(B+C)≤8000) (b3:B+C<100000)
include hM hD hE ha hb
def B5v (M a b:List Rat):List Rat:=D4 (E2 a b) M
include b1 b2 b3
theorem E8T:Ev (fun k=>Q8 k (M.map fr) (a.map fr) (b.map fr)) ((B5v M a b).map fr):=by
  show Ev (fun k=>B3M (M2 k) (O1 k) _ _ _) _
  unfold B3M
  exact Ev.bind (D6O (ha.ml hD hE hb b1 (by omega) (by omega) (by omega))) (Ev.bind (D7n hM (f7 hD hE) (ha.mul hD hE hb) (Nat.le_trans (b7 (Nat.le_refl _) (Nat.le_refl _)) b1) (by omega) (by omega)) (Ev.now _))
end
theorem B7i (l:PQ) (j:Nat):C3 (G6 List.isEmpty l) j=C3 l j:=by
  have key:∀r:PQ,C3 (G6 List.isEmpty r.reverse) j=C3 r.reverse j:=by
    intro r
    induction r with
    |nil=>rfl
    | cons a r ih=>
      rw [List.reverse_cons,A7z]
      split
      · rename_i h
        rw [ih]
        unfold C3
        rw [List.getD_eq_getElem?_getD,List.getD_eq_getElem?_getD]
        rcases Nat.lt_or_ge j r.reverse.length with h1|h1
        · rw [List.getElem?_append_left h1]
        · rw [List.getElem?_append_right h1,List.getElem?_eq_none h1]
          rcases Nat.eq_zero_or_pos (j-r.reverse.length)with h2|h2
          · rw [h2];exact(List.isEmpty_iff.1 h).symm
          · rw [List.getElem?_eq_none (by rw [List.length_singleton];exact h2)]
      · rfl
  have:=key l.reverse
  rwa [List.reverse_reverse]at this
theorem C1t {n j:Nat} {c:Nat→List Rat}:C3 (plF n c) j=if j<n then c j else []:=by
  unfold plF
  rw [B7i]
  split
  · rename_i h;unfold C3;rw [List.getD_eq_getElem?_getD,A4l h];rfl
  · rename_i h;exact A3K (by rw [J4];omega)
theorem D4H (F G:PQ) (j:Nat):C3 (l9 F G) j=E5 (C3 F j) (C3 G j):=by
  unfold l9
  rw [C1t]
  split
  · rfl
  · rw [A3K (show F.length≤j by omega),A3K (show G.length≤j by omega)];rfl
section
variable (M:List Rat) (F:PQ) (x:List Rat) (X:PQ)
def vl:Nat→List Rat
  |0=>[]
  |d+1=>E5 (B5v M (vl d) x) (C3 F (F.length-1-d))
def X3 (a:List Rat):PQ:=G6 List.isEmpty [a]
def sh:Nat→PQ
  |0=>[]
  |d+1=>l9 (G7 M (sh d) X) (X3 (C3 F (F.length-1-d)))
end
def D5 (x:List Rat):PQ:=G6 List.isEmpty [x,[1]]
theorem C3v (a:List Rat) (j:Nat):C3 (X3 a) j=if j=0 then a else []:=by
  unfold X3
  rw [B7i]
  cases j with
  |zero=>rfl
  |succ j=>rfl
theorem D1v (a:List Rat):(X3 a).length≤1:=B4N List.isEmpty [a]
theorem D1C (a:List Rat):(D5 a).length≤2:=B4N List.isEmpty [a,[1]]
theorem F2i (a:List Rat):Ev (fun k=>F7 k [a.map fr]) (fm (X3 a)):=by
  have h:=C4k (f:=fm [a]) (by show 1<_;decide)
  rw [B6f]at h
  exact h
theorem F1I (a:List Rat):Ev (fun k=>F7 k [a.map fr,[1].map fr]) (fm (D5 a)):=by
  have h:=C4k (f:=fm [a,[1]]) (by show 2<_;decide)
  rw [B6f]at h
  exact h
theorem E5g (k:Nat):M0 (k+60) [1]=some ([1].map fr):=by kernel_rfl
theorem F6i:Ev (fun k=>M0 k [1]) ([1].map fr):=⟨60,fun k hk=>by
  obtain⟨m,rfl⟩:=Nat.exists_eq_add_of_le' hk
  exact E5g m⟩
abbrev Sq:=Nat→Rat
def sm (n:Nat) (h:Sq):Rat:=match n with|0=>0|n+1=>sm n h+h n
def H0 (u v:Sq) (m:Nat):Rat:=sm (m+1) fun i=>u i*v (m-i)
def shf (u:Sq):Sq:=fun m=>match m with|0=>0|m+1=>u m
theorem B2x {n:Nat} {h h':Sq} (e:∀i,i<n→h i=h' i):sm n h=sm n h':=by
  induction n with
  |zero=>rfl
  |succ n ih=>show sm n h+h n=sm n h'+h' n;rw [ih fun i hi=>e i (by omega),e n (by omega)]
theorem B3I {n:Nat} {h:Sq} (e:∀i,i<n→h i=0):sm n h=0:=by
  induction n with
  |zero=>rfl
  |succ n ih=>show sm n h+h n=0;rw [ih fun i hi=>e i (by omega),e n (by omega),Rat.add_zero]
theorem D9C (n:Nat) (h h':Sq):sm n (fun i=>h i+h' i)=sm n h+sm n h':=by
  induction n with
  |zero=>exact(Rat.add_zero 0).symm
  |succ n ih=>show sm n _+(h n+h' n)=(sm n h+h n)+(sm n h'+h' n);rw [ih];grind
theorem F3h (n:Nat) (c:Rat) (h:Sq):sm n (fun i=>c*h i)=c*sm n h:=by
  induction n with
  |zero=>exact(Rat.mul_zero c).symm
  |succ n ih=>show sm n _+c*h n=c*(sm n h+h n);rw [ih,Rat.mul_add]
theorem C1m (n:Nat) (h:Sq):sm (n+1) h=h 0+sm n fun i=>h (i+1):=by
  induction n with
  |zero=>show 0+h 0=h 0+0;rw [Rat.zero_add,Rat.add_zero]
  |succ n ih=>show sm (n+1) h+h (n+1)=h 0+(sm n (fun i=>h (i+1))+h (n+1));rw [ih,Rat.add_assoc]
theorem E6j (n:Nat):∀h:Sq,sm (n+1) h=sm (n+1) fun i=>h (n-i):=by
  induction n with
  |zero=>intro h;rfl
  | succ n ih=>
    intro h
    rw [C1m (n+1) fun i=>h (n+1-i)]
    show sm (n+1) h+h (n+1)=h (n+1-0)+_
    rw [ih h,Rat.add_comm,Nat.sub_zero]
    congr 1
    exact B2x fun i hi=>by rw [show n+1-(i+1)=n-i by omega]
theorem B5S (u v:Sq):H0 u v=H0 v u:=by
  funext m
  unfold H0
  rw [E6j m]
  exact B2x fun i hi=>by rw [show m-(m-i)=i by omega,Rat.mul_comm]
theorem B0r (u u' v:Sq):H0 (fun i=>u i+u' i) v=fun m=>H0 u v m+H0 u' v m:=by
  funext m
  unfold H0
  rw [←D9C]
  exact B2x fun i hi=>Rat.add_mul _ _ _
theorem C8z (c:Rat) (u v:Sq):H0 (fun i=>c*u i) v=fun m=>c*H0 u v m:=by
  funext m
  unfold H0
  rw [←F3h]
  exact B2x fun i hi=>Rat.mul_assoc _ _ _
theorem D6S (u v:Sq):H0 (shf u) v=shf (H0 u v):=by
  funext m
  cases m with
  |zero=>show 0+0*_=0;rw [Rat.zero_mul,Rat.add_zero]
  | succ m=>
    show sm (m+1+1) _=sm (m+1) _
    rw [C1m]
    show 0*_+_=_
    rw [Rat.zero_mul,Rat.zero_add]
    exact B2x fun i hi=>by rw [show m+1-(i+1)=m-i by omega];rfl
theorem D0F (a:Rat) (f:List Rat):co (a::f)=fun i=>a*(if i=0 then 1 else 0)+shf (co f) i:=by
  funext i
  cases i with
  |zero=>show a=a*1+0;rw [Rat.mul_one,Rat.add_zero]
  |succ i=>show co f i=a*0+co f i;rw [Rat.mul_zero,Rat.zero_add]
theorem D0i (v:Sq):H0 (fun i=>if i=0 then 1 else 0) v=v:=by
  funext m
  unfold H0
  rw [C1m,B3I fun i hi=>(show(if i+1=0 then(1:Rat)else 0)*v (m-(i+1))=0 by rw [if_neg (by omega),Rat.zero_mul])]
  show(if(0:Nat)=0 then(1:Rat)else 0)*v (m-0)+0=v m
  rw [if_pos rfl,Rat.one_mul,Rat.add_zero];rfl
theorem D4x (a:Rat) (f:List Rat) (v:Sq):H0 (co (a::f)) v=fun m=>a*v m+shf (H0 (co f) v) m:=by
  rw [D0F,B0r,C8z,D0i,D6S]
theorem B9p (v:Sq):H0 (co []) v=fun _=>0:=by
  funext m
  exact B3I fun i hi=>by rw [N0 (Nat.zero_le _),Rat.zero_mul]
theorem D6i (f:List Rat) (v w:Sq):H0 (H0 (co f) v) w=H0 (co f) (H0 v w):=by
  induction f with
  |nil=>rw [B9p,B9p];funext m;exact B3I fun i hi=>Rat.zero_mul _
  |cons a f ih=>rw [D4x,D4x,B0r,C8z,D6S,ih]
theorem D7G (u v v':Sq):H0 u (fun i=>v i+v' i)=fun m=>H0 u v m+H0 u v' m:=by rw [B5S,B0r,B5S v,B5S v']
theorem D8Y (f g:List Rat) (m:Nat):∀i,i≤m+1→G9 f g m i=sm i fun j=>co f j*co g (m-j)
  |0,_=>rfl
  | i+1,h=>by
    show(if i≤m∧m-i<g.length then G9 f g m i+co f i*co g (m-i)else G9 f g m i)=sm i (fun j=>co f j*co g (m-j))+co f i*co g (m-i)
    rw [D8Y f g m i (by omega)]
    split
    · rfl
    · rw [N0 (l:=g) (j:=m-i) (by omega),Rat.mul_zero,Rat.add_zero]
theorem D2Y (f g:List Rat) (m:Nat):∀d,G9 f g m (m+1+d)=G9 f g m (m+1)
  |0=>rfl
  | d+1=>by
    show(if m+1+d≤m∧_ then _ else G9 f g m (m+1+d))=_
    rw [if_neg (fun h=>absurd h.1 (by omega))];exact D2Y f g m d
theorem A0c (f g:List Rat):co (E2 f g)=H0 (co f) (co g):=by
  funext m
  rw [B6a]
  unfold H0
  rw [←D8Y f g m (m+1) (Nat.le_refl _)]
  rcases Nat.lt_or_ge f.length (m+1)with h|h
  · exact(D7H (by omega)).symm
  · have:=D2Y f g m (f.length-(m+1))
    rwa [show m+1+(f.length-(m+1))=f.length by omega]at this
theorem B8Z (f g:List Rat):E2 f g=E2 g f:=w7 M1 M1 fun j=>by rw [A0c,A0c,B5S]
theorem E0l (f g h:List Rat):E2 (E2 f g) h=E2 f (E2 g h):=w7 M1 M1 fun j=>by rw [A0c,A0c,A0c,A0c,D6i]
theorem E3v (f g h:List Rat):E2 f (E5 g h)=E5 (E2 f g) (E2 f h):=w7 M1 M1 fun j=>by
  rw [A0c,g9,A0c,A0c,show co (E5 g h)=fun i=>co g i+co h i from funext (g9 g h),D7G]
theorem F1x (f g:List Rat):E5 f g=E5 g f:=w7 M1 M1 fun j=>by rw [g9,g9,Rat.add_comm]
theorem E4d (f g h:List Rat):E5 (E5 f g) h=E5 f (E5 g h):=w7 M1 M1 fun j=>by rw [g9,g9,g9,g9,Rat.add_assoc]
theorem E9Q (k:Nat) (c:Rat) (v:Sq):H0 (fun i=>if i=k then c else 0) v=fun m=>if k≤m then c*v (m-k)else 0:=by
  funext m
  unfold H0
  split
  · rename_i h
    have key:∀n,n≤m+1→sm n (fun i=>(if i=k then c else 0)*v (m-i))=if k<n then c*v (m-k)else 0:=by
      intro n
      induction n with
      |zero=>intro _;rfl
      | succ n ih=>
        intro hn
        show sm n _+(if n=k then c else 0)*v (m-n)=_
        rw [ih (by omega)]
        by_cases e:n=k
        · subst e;rw [if_neg (by omega),if_pos rfl,if_pos (by omega),Rat.zero_add]
        · rw [if_neg e,Rat.zero_mul,Rat.add_zero]
          by_cases e2:k<n
          · rw [if_pos e2,if_pos (by omega)]
          · rw [if_neg e2,if_neg (by omega)]
    rw [key (m+1) (Nat.le_refl _),if_pos (by omega)]
  · rename_i h
    exact B3I fun i hi=>(show(if i=k then c else 0)*v (m-i)=0 by rw [if_neg (by omega),Rat.zero_mul])
theorem D8t (g:List Rat) (v:Rat):∀(K:Nat) (r:Sq),r=fun m=>H0 (qv g v K r) (co g) m+dv g v K r m
  | 0,r=>by
    funext m
    show r m=H0 (fun _=>0) (co g) m+r m
    rw [show H0 (fun _=>0) (co g) m=0 from B3I fun i hi=>Rat.zero_mul _,Rat.zero_add]
  | K+1,r=>by
    funext m
    have h:=congrFun (D8t g v K (O5 g v K r)) m
    show r m=H0 (fun j=>if j=K then r (K+g.length-1)*v else qv g v K (O5 g v K r) j) (co g) m+dv g v K (O5 g v K r) m
    have e:(fun j=>if j=K then r (K+g.length-1)*v else qv g v K (O5 g v K r) j)=fun j=>(if j=K then r (K+g.length-1)*v else 0)+qv g v K (O5 g v K r) j:=by
      funext j
      split
      · rename_i hj;rw [A9O (by omega),Rat.add_zero]
      · rw [Rat.zero_add]
    rw [e,B0r,E9Q,Rat.add_assoc,←h]
    unfold O5
    show r m=(if K≤m then r (K+g.length-1)*v*co g (m-K)else 0)+_
    by_cases c:K≤m
    · rw [if_pos c]
      by_cases c2:m<K+g.length
      · rw [if_pos ⟨c,c2⟩];grind
      · rw [if_neg (fun x=>c2 x.2),N0 (l:=g) (by omega),Rat.mul_zero,Rat.zero_add]
    · rw [if_neg c,if_neg (fun x=>c x.1),Rat.zero_add]
theorem D8h {g:List Rat} {v:Rat} (hv:co g (g.length-1)*v=1) (h0:0<g.length):∀(K:Nat) (r:Sq),(∀m,K+g.length-1≤m→r m=0)→∀m,g.length-1≤m→dv g v K r m=0
  |0,r,h,m,hm=>h m (by omega)
  |K+1,r,h,m,hm=>D8h hv h0 K (O5 g v K r) (fun m hm=>by
      unfold O5
      by_cases c:K≤m∧m<K+g.length
      · have e:m=K+g.length-1:=by omega
        rw [if_pos c,e,show K+g.length-1-K=g.length-1 by omega]
        grind
      · rw [if_neg c];exact h m (by omega)) m hm
theorem E6D {f g:List Rat} (h0:0<g.length) (hg:Tr g):co f=fun m=>H0 (co (A2H f g)) (co g) m+co (D4 f g) m:=by
  have e1:co (A2H f g)=qv g (inv g) (f.length+1-g.length) (co f):=by
    funext j
    unfold A2H
    rw [A1i]
    split
    · rfl
    · rw [A9O (by omega)]
  have e2:co (D4 f g)=dv g (inv g) (f.length+1-g.length) (co f):=by
    funext j
    unfold D4 A2F
    rw [A1i]
    split
    · rfl
    · exact(D8h (Rat.mul_inv_cancel _ (A6B hg h0)) h0 _ _ (fun m hm=>N0 (by omega)) j (by omega)).symm
  rw [e1,e2]
  exact D8t g (inv g) _ (co f)
theorem F1d {q g:List Rat} (lq:0<q.length) (lg:0<g.length):H0 (co q) (co g) (q.length-1+(g.length-1))=co q (q.length-1)*co g (g.length-1):=by
  unfold H0
  have key:∀n,n≤q.length-1+(g.length-1)+1→sm n (fun i=>co q i*co g (q.length-1+(g.length-1)-i))=if q.length-1<n then co q (q.length-1)*co g (g.length-1)else 0:=by
    intro n
    induction n with
    |zero=>intro _;rfl
    | succ n ih=>
      intro hn
      show sm n _+co q n*co g (q.length-1+(g.length-1)-n)=_
      rw [ih (by omega)]
      by_cases c:n<q.length-1
      · rw [N0 (l:=g) (j:=q.length-1+(g.length-1)-n) (by omega),Rat.mul_zero,if_neg (by omega),if_neg (by omega),Rat.add_zero]
      · by_cases c2:n=q.length-1
        · rw [c2,if_neg (by omega),if_pos (by omega),Rat.zero_add,show q.length-1+(g.length-1)-(q.length-1)=g.length-1 by omega]
        · rw [N0 (l:=q) (j:=n) (by omega),Rat.zero_mul,if_pos (by omega),if_pos (by omega),Rat.add_zero]
  rw [key _ (Nat.le_refl _),if_pos (by omega)]
def Cg (g:List Rat) (u v:Sq):Prop:=∃q:List Rat,∀m,u m=v m+H0 (co q) (co g) m
theorem E3I {g r r':List Rat} (h0:0<g.length) (hg:Tr g) (hr:Tr r) (hr':Tr r') (l1:r.length<g.length) (l2:r'.length<g.length) (h:Cg g (co r) (co r')):r=r':=by
  obtain⟨q0,h⟩:=h
  have eq:co (G6 zr q0)=co q0:=funext fun j=>C9r q0 j
  rw [←eq]at h
  have hq:=D4v q0
  generalize G6 zr q0=q at h hq
  rcases Nat.eq_zero_or_pos q.length with e|e
  · rw [List.length_eq_zero_iff.1 e]at h
    exact w7 hr hr' fun j=>by rw [h j,B9p,Rat.add_zero]
  · have h1:=h (q.length-1+(g.length-1))
    rw [N0 (l:=r) (by omega),N0 (l:=r') (by omega),F1d e h0,Rat.zero_add]at h1
    rcases Rat.mul_eq_zero.1 h1.symm with h2|h2
    · exact absurd h2 (A6B hq e)
    · exact absurd h2 (A6B hg h0)
section
variable {g:List Rat} {u v w:Sq}
theorem Cg.refl (u:Sq):Cg g u u:=⟨[],fun m=>by rw [B9p,Rat.add_zero]⟩
theorem Cg.symm (h:Cg g u v):Cg g v u:=by
  obtain⟨q,h⟩:=h
  refine⟨scl (-1) q,fun m=>?_⟩
  rw [show co (scl (-1) q)=fun j=> -1*co q j from funext fun j=>by rw [D8K,Rat.mul_comm],C8z,h m]
  grind
theorem Cg.trans (h:Cg g u v) (k:Cg g v w):Cg g u w:=by
  obtain⟨q,h⟩:=h
  obtain⟨p,k⟩:=k
  refine⟨E5 q p,fun m=>?_⟩
  rw [show co (E5 q p)=fun j=>co q j+co p j from funext fun j=>g9 q p j,B0r,h m,k m]
  grind
theorem Cg.add {u' v':Sq} (h:Cg g u v) (k:Cg g u' v'):Cg g (fun m=>u m+u' m) fun m=>v m+v' m:=by
  obtain⟨q,h⟩:=h
  obtain⟨p,k⟩:=k
  refine⟨E5 q p,fun m=>?_⟩
  rw [show co (E5 q p)=fun j=>co q j+co p j from funext fun j=>g9 q p j,B0r]
  show u m+u' m=v m+v' m+(H0 (co q) (co g) m+H0 (co p) (co g) m)
  rw [h m,k m]
  grind
theorem Cg.mul (b:List Rat) (h:Cg g u v):Cg g (H0 (co b) u) (H0 (co b) v):=by
  obtain⟨q,h⟩:=h
  refine⟨E2 b q,fun m=>?_⟩
  rw [A0c,D6i,show u=fun m=>v m+H0 (co q) (co g) m from funext h,D7G]
theorem Cg.rem (f:List Rat) (h0:0<g.length) (hg:Tr g):Cg g (co f) (co (D4 f g)):=⟨A2H f g,fun m=>by
  rw [Rat.add_comm]
  exact congrFun (E6D h0 hg) m⟩
end
theorem B7B (f:List Rat) {g:List Rat} (h0:0<g.length):(D4 f g).length<g.length:=Nat.lt_of_le_of_lt (A0F _ _) (by omega)
theorem B5N (f g:List Rat):Tr (D4 f g):=M1
theorem D3T {f f' g:List Rat} (h0:0<g.length) (hg:Tr g) (h:Cg g (co f) (co f')):D4 f g=D4 f' g:=
  E3I h0 hg (B5N f g) (B5N f' g) (B7B f h0) (B7B f' h0) (((Cg.rem f h0 hg).symm.trans h).trans (Cg.rem f' h0 hg))
theorem E1X (f:List Rat) {g:List Rat} (h0:0<g.length):D4 (D4 f g) g=D4 f g:=A3n (B5N f g) (B7B f h0)
section
variable {M:List Rat} (h0:0<M.length) (hM:Tr M)
include h0 hM
theorem C0u (a b:List Rat):D4 (E2 a (D4 b M)) M=D4 (E2 a b) M:=D3T h0 hM (by rw [A0c,A0c];exact(Cg.rem b h0 hM).symm.mul a)
theorem D2t (a b:List Rat):D4 (E2 (D4 a M) b) M=D4 (E2 a b) M:=by rw [B8Z,C0u h0 hM,B8Z]
theorem D5y (a b:List Rat):D4 (E5 (D4 a M) (D4 b M)) M=D4 (E5 a b) M:=D3T h0 hM (by
  rw [show co (E5 (D4 a M) (D4 b M))=fun j=>co (D4 a M) j+co (D4 b M) j from funext (g9 _ _),show co (E5 a b)=fun j=>co a j+co b j from funext (g9 _ _)]
  exact(Cg.rem a h0 hM).symm.add (Cg.rem b h0 hM).symm)
end
structure Rg (α:Type) where
  add:α→α→α
  mul:α→α→α
  zero:α
  one:α
  addA:∀a b c,add (add a b) c=add a (add b c)
  addC:∀a b,add a b=add b a
  add0:∀a,add a zero=a
  mulA:∀a b c,mul (mul a b) c=mul a (mul b c)
  mulC:∀a b,mul a b=mul b a
  mul1:∀a,mul a one=a
  mul0:∀a,mul a zero=zero
  dist:∀a b c,mul a (add b c)=add (mul a b) (mul a c)
section
variable {α:Type} (R:Rg α)
theorem Rg.four (a b c d:α):R.add (R.add a b) (R.add c d)=R.add (R.add a c) (R.add b d):=by rw [R.addA,R.addA,←R.addA b,R.addC b c,R.addA c]
theorem Rg.distr (a b c:α):R.mul (R.add a b) c=R.add (R.mul a c) (R.mul b c):=by rw [R.mulC,R.dist,R.mulC c,R.mulC c]
theorem Rg.zero_mul (a:α):R.mul R.zero a=R.zero:=by rw [R.mulC,R.mul0]
theorem Rg.zero_add (a:α):R.add R.zero a=a:=by rw [R.addC,R.add0]
theorem Rg.one_mul (a:α):R.mul R.one a=a:=by rw [R.mulC,R.mul1]
def tl (u:Nat→α):Nat→α:=fun i=>u (i+1)
def K3:Nat→(Nat→α)→(Nat→α)→α
  |0,u,v=>R.mul (u 0) (v 0)
  |m+1,u,v=>R.add (R.mul (u 0) (v (m+1))) (K3 m (tl u) v)
def A4z (u v:Nat→α):Nat→α:=fun i=>R.add (u i) (v i)
def A0C (u v:Nat→α):Nat→α:=fun i=>K3 R i u v
def t9 (a:α):Nat→α:=fun i=>match i with|0=>a|_+1=>R.zero
theorem C0i:∀(m:Nat) (u u' v:Nat→α),K3 R m (A4z R u u') v=R.add (K3 R m u v) (K3 R m u' v)
  |0,u,u',v=>R.distr _ _ _
  | m+1,u,u',v=>by
    show R.add (R.mul (R.add (u 0) (u' 0)) (v (m+1))) (K3 R m (A4z R (tl u) (tl u')) v)=_
    rw [C0i m,R.distr,R.four];rfl
theorem D5J (c:α):∀(m:Nat) (u v:Nat→α),K3 R m (fun i=>R.mul c (u i)) v=R.mul c (K3 R m u v)
  |0,u,v=>R.mulA _ _ _
  | m+1,u,v=>by
    show R.add (R.mul (R.mul c (u 0)) (v (m+1))) (K3 R m (fun i=>R.mul c (tl u i)) v)=_
    rw [D5J c m,R.mulA,←R.dist];rfl
theorem D1H:∀(m:Nat) (u v:Nat→α),K3 R (m+1) u v=R.add (R.mul (u (m+1)) (v 0)) (K3 R m u (tl v))
  |0,u,v=>R.addC _ _
  | m+1,u,v=>by
    show R.add (R.mul (u 0) (v (m+2))) (K3 R (m+1) (tl u) v)=R.add (R.mul (u (m+2)) (v 0)) (R.add (R.mul (u 0) (v (m+2))) (K3 R m (tl u) (tl v)))
    rw [D1H m (tl u) v,←R.addA,←R.addA,R.addC (R.mul (u 0) _)];rfl
theorem A6s:∀(m:Nat) (u v:Nat→α),K3 R m u v=K3 R m v u
  |0,u,v=>R.mulC _ _
  | m+1,u,v=>by
    rw [D1H R m v u]
    show R.add (R.mul (u 0) (v (m+1))) (K3 R m (tl u) v)=_
    rw [A6s m (tl u) v,R.mulC (u 0)]
theorem D7h (u v:Nat→α):tl (A0C R u v)=A4z R (fun i=>R.mul (u 0) (tl v i)) (A0C R (tl u) v):=rfl
theorem D4E:∀(m:Nat) (u v w:Nat→α),K3 R m (A0C R u v) w=K3 R m u (A0C R v w)
  |0,u,v,w=>R.mulA _ _ _
  | m+1,u,v,w=>by
    show R.add (R.mul (R.mul (u 0) (v 0)) (w (m+1))) (K3 R m (tl (A0C R u v)) w)=R.add (R.mul (u 0) (R.add (R.mul (v 0) (w (m+1))) (K3 R m (tl v) w))) (K3 R m (tl u) (A0C R v w))
    rw [D7h,C0i,D5J,D4E m,R.dist,R.mulA,R.addA]
theorem B2k:∀(m:Nat) (v:Nat→α),K3 R m (fun _=>R.zero) v=R.zero
  |0,v=>R.zero_mul _
  | m+1,v=>by
    show R.add (R.mul R.zero _) (K3 R m (fun _=>R.zero) v)=_
    rw [B2k m,R.zero_mul,R.add0]
theorem C6I (a:α):∀(m:Nat) (v:Nat→α),K3 R m (t9 R a) v=R.mul a (v m)
  |0,v=>rfl
  | m+1,v=>by
    show R.add (R.mul a _) (K3 R m (fun _=>R.zero) v)=_
    rw [B2k,R.add0]
def seq:Rg (Nat→α) where
  add:=A4z R
  mul:=A0C R
  zero:=fun _=>R.zero
  one:=t9 R R.one
  addA a b c:=funext fun i=>R.addA _ _ _
  addC a b:=funext fun i=>R.addC _ _
  add0 a:=funext fun i=>R.add0 _
  mulA a b c:=funext fun i=>D4E R i a b c
  mulC a b:=funext fun i=>A6s R i a b
  mul1 a:=funext fun i=>by show K3 R i a _=_;rw [A6s,C6I,R.one_mul]
  mul0 a:=funext fun i=>by show K3 R i a _=_;rw [A6s,B2k]
  dist a b c:=funext fun i=>by show K3 R i a _=R.add (K3 R i a b) (K3 R i a c);rw [A6s,C0i,A6s R i b,A6s R i c]
theorem F0K (a b:α):t9 R (R.add a b)=A4z R (t9 R a) (t9 R b):=funext fun i=>by
  cases i with
  |zero=>rfl
  |succ i=>exact(R.add0 _).symm
theorem E7n (a b:α):t9 R (R.mul a b)=A0C R (t9 R a) (t9 R b):=funext fun i=>by
  show _=K3 R i _ _
  rw [C6I]
  cases i with
  |zero=>rfl
  |succ i=>exact(R.mul0 _).symm
end
structure Hm {α β:Type} (R:Rg α) (S:Rg β) (φ:α→β):Prop where
  add:∀a b,φ (R.add a b)=S.add (φ a) (φ b)
  mul:∀a b,φ (R.mul a b)=S.mul (φ a) (φ b)
  zero:φ R.zero=S.zero
  one:φ R.one=S.one
section
variable {α β γ:Type} (R:Rg α) (S:Rg β) (U:Rg γ)
theorem C7k:Hm R (seq R) (t9 R):=⟨F0K R,E7n R,funext fun i=>by cases i<;>rfl,rfl⟩
def hor (φ:α→β) (z:β):List α→β
  | []=>S.zero
  |a::f=>S.add (φ a) (S.mul z (hor φ z f))
end
structure Md (M:List Rat):Prop where
  pos:2≤M.length
  tr:Tr M
def KR (M:List Rat):Type:={a:List Rat//Tr a∧a.length<M.length}
theorem B2c:Tr []:=fun a h=>by cases h
theorem C7A:Tr [1]:=fun a ha=>by rw [show([1]:List Rat).getLast?=some 1 from rfl]at ha;cases ha;decide +kernel
section
variable {M:List Rat} (hM:Md M)
theorem Md.p {M:List Rat} (h:Md M):0<M.length:=by have:=h.pos;omega
def kr (a:List Rat):KR M:=⟨D4 a M,B5N a M,B7B a hM.p⟩
theorem B6L {a:List Rat} (h1:Tr a) (h2:a.length<M.length):(kr hM a).1=a:=A3n h1 h2
theorem C1T (a b:KR M):(E5 a.1 b.1).length<M.length:=Nat.lt_of_le_of_lt (A0F _ _) (by have:=a.2.2;have:=b.2.2;omega)
theorem F4j (a:List Rat):co (E2 a [1])=co a:=by
  rw [B8Z,A0c,show co [1]=fun i=>if i=0 then 1 else 0 from by
    rw [D0F]
    funext i
    rw [show shf (co []) i=0 from by cases i with|zero=>rfl|succ i=>exact N0 (Nat.zero_le _),Rat.one_mul,Rat.add_zero],D0i]
def C8:Rg (KR M) where
  add a b:=⟨E5 a.1 b.1,M1,C1T a b⟩
  mul a b:=kr hM (E2 a.1 b.1)
  zero:=⟨[],B2c,hM.p⟩
  one:=⟨[1],C7A,hM.pos⟩
  addA a b c:=Subtype.ext (E4d _ _ _)
  addC a b:=Subtype.ext (F1x _ _)
  add0 a:=Subtype.ext (w7 M1 a.2.1 fun j=>by rw [g9,N0 (l:=[]) (Nat.zero_le _),Rat.add_zero])
  mulA a b c:=Subtype.ext (by
    show D4 (E2 (D4 (E2 a.1 b.1) M) c.1) M=D4 (E2 a.1 (D4 (E2 b.1 c.1) M)) M
    rw [D2t hM.p hM.tr,C0u hM.p hM.tr,E0l])
  mulC a b:=Subtype.ext (by show D4 _ M=D4 _ M;rw [B8Z])
  mul1 a:=Subtype.ext (by
    show D4 (E2 a.1 [1]) M=a.1
    rw [show E2 a.1 [1]=a.1 from w7 M1 a.2.1 fun j=>by rw [F4j],A3n a.2.1 a.2.2])
  mul0 a:=Subtype.ext (by show D4 (E2 a.1 []) M=[];rw [D1N];exact A3n B2c hM.p)
  dist a b c:=Subtype.ext (by
    show D4 (E2 a.1 (E5 b.1 c.1)) M=E5 (D4 (E2 a.1 b.1) M) (D4 (E2 a.1 c.1) M)
    rw [E3v,←D5y hM.p hM.tr]
    exact A3n M1 (C1T (kr hM (E2 a.1 b.1)) (kr hM (E2 a.1 c.1))))
theorem A8G (a b:List Rat):kr hM (E5 a b)=(C8 hM).add (kr hM a) (kr hM b):=Subtype.ext (by
  show D4 (E5 a b) M=E5 (D4 a M) (D4 b M)
  rw [←D5y hM.p hM.tr]
  exact A3n M1 (C1T (kr hM a) (kr hM b)))
theorem D4D (a b:List Rat):kr hM (E2 a b)=(C8 hM).mul (kr hM a) (kr hM b):=Subtype.ext (by
  show D4 (E2 a b) M=D4 (E2 (D4 a M) (D4 b M)) M
  rw [C0u hM.p hM.tr,D2t hM.p hM.tr])
theorem A4U:kr hM []=(C8 hM).zero:=Subtype.ext (A3n B2c hM.p)
theorem D3i (a:List Rat):kr hM (D4 a M)=kr hM a:=Subtype.ext (E1X a hM.p)
def sq (F:PQ):Nat→KR M:=fun i=>kr hM (C3 F i)
theorem B9D (F G:PQ):sq hM (l9 F G)=A4z (C8 hM) (sq hM F) (sq hM G):=funext fun i=>by
  show kr hM (C3 (l9 F G) i)=_
  rw [D4H,A8G];rfl
theorem C2C (a:List Rat):sq hM (X3 a)=t9 (C8 hM) (kr hM a):=funext fun i=>by
  show kr hM (C3 (X3 a) i)=_
  rw [C3v]
  cases i with
  |zero=>rfl
  |succ i=>exact A4U hM
theorem A3v {F:PQ} {i:Nat} (h:F.length≤i):sq hM F i=(C8 hM).zero:=by
  show kr hM (C3 F i)=_
  rw [A3K h,A4U]
theorem B2l (a:List Rat) (F G:PQ) (m:Nat):∀i,kr hM (F3 (a::F) G m (i+1))=(C8 hM).add ((C8 hM).mul (kr hM a) (sq hM G m)) (match m with|0=>(C8 hM).zero|m+1=>kr hM (F3 F G m i))
  | 0=>by
    show kr hM (if 0≤m∧m-0<G.length then E5 [] (E2 a (C3 G (m-0)))else [])=_
    have e0:(match m with|0=>(C8 hM).zero|m+1=>kr hM (F3 F G m 0))=(C8 hM).zero:=by
      cases m with
      |zero=>rfl
      |succ m=>exact A4U hM
    rw [e0,(C8 hM).add0]
    by_cases c:m<G.length
    · rw [if_pos ⟨Nat.zero_le _,c⟩,A8G,A4U,Rg.zero_add,D4D];rfl
    · rw [if_neg (fun h=>c h.2),A3v hM (by omega),(C8 hM).mul0,A4U]
  | i+1=>by
    show kr hM (if i+1≤m∧m-(i+1)<G.length then E5 (F3 (a::F) G m (i+1)) (E2 (C3 F i) (C3 G (m-(i+1))))else F3 (a::F) G m (i+1))=_
    cases m with
    | zero=>
      rw [if_neg (by omega),B2l a F G 0 i]
    | succ m=>
      show _=(C8 hM).add _ (kr hM (if i≤m∧m-i<G.length then E5 (F3 F G m i) (E2 (C3 F i) (C3 G (m-i)))else F3 F G m i))
      by_cases c:i≤m∧m-i<G.length
      · rw [if_pos c,if_pos (by omega),A8G,B2l a F G (m+1) i,A8G,show m+1-(i+1)=m-i by omega,(C8 hM).addA]
      · rw [if_neg c,if_neg (by omega),B2l a F G (m+1) i]
theorem D4o:∀(F G:PQ) (m:Nat),kr hM (F3 F G m F.length)=K3 (C8 hM) m (sq hM F) (sq hM G)
  | [],G,m=>by
    rw [show sq hM []=fun _=>(C8 hM).zero from funext fun i=>A3v hM (Nat.zero_le _),B2k]
    exact A4U hM
  | a::F,G,0=>by
    rw [List.length_cons,B2l,(C8 hM).add0];rfl
  | a::F,G,m+1=>by
    rw [List.length_cons,B2l]
    show(C8 hM).add _ (kr hM (F3 F G m F.length))=_
    rw [D4o F G m];rfl
theorem F4l {F G:PQ} {m:Nat} (h:F.length+G.length-1≤m):∀{i},i≤F.length→F3 F G m i=[]:=by
  intro i hi
  induction i with
  |zero=>rfl
  | succ i ih=>
    show(if _ then _ else _)=_
    rw [if_neg (by omega)];exact ih (by omega)
theorem C8y (F G:PQ):sq hM (G7 M F G)=A0C (C8 hM) (sq hM F) (sq hM G):=funext fun m=>by
  show kr hM (C3 (G7 M F G) m)=K3 (C8 hM) m (sq hM F) (sq hM G)
  rw [←D4o]
  unfold G7
  rw [C1t]
  split
  · exact D3i hM _
  · rw [F4l (by omega) (Nat.le_refl _)]
def Rd (M:List Rat) (F:PQ):Prop:=(∀i,Tr (C3 F i)∧(C3 F i).length<M.length)∧∀a,F.getLast?=some a→a≠[]
theorem C6V {F G:PQ} (hF:Rd M F) (hG:Rd M G) (h:sq hM F=sq hM G):F=G:=by
  have hc:∀i,C3 F i=C3 G i:=fun i=>by
    have:=congrArg Subtype.val (congrFun h i)
    rwa [show(sq hM F i).1=C3 F i from B6L hM (hF.1 i).1 (hF.1 i).2,show(sq hM G i).1=C3 G i from B6L hM (hG.1 i).1 (hG.1 i).2]at this
  have last:∀{F:PQ},Rd M F→0<F.length→C3 F (F.length-1)≠[]:=fun {F} hF hl=>by
    apply hF.2
    unfold C3
    rw [List.getD_eq_getElem?_getD,List.getLast?_eq_getElem?,List.getElem?_eq_getElem (by omega)];rfl
  have le:∀{F G:PQ},Rd M F→(∀i,C3 F i=C3 G i)→F.length≤G.length:=fun {F G} hF hc=>by
    rcases Nat.lt_or_ge G.length F.length with h1|h1
    · exact absurd ((hc _).trans (A3K (by omega))) (last hF (by omega))
    · exact h1
  have e:F.length=G.length:=Nat.le_antisymm (le hF hc) (le hG fun i=>(hc i).symm)
  apply List.ext_getElem e
  intro j h1 h2
  have:=hc j
  unfold C3 at this
  rwa [List.getD_eq_getElem?_getD,List.getD_eq_getElem?_getD,List.getElem?_eq_getElem h1,List.getElem?_eq_getElem h2]at this
end
section
variable {α β:Type} (R:Rg α) (S:Rg β) (ψ:α→β) (z:β)
def hs:Nat→(Nat→α)→β
  |0,u=>S.zero
  |n+1,u=>S.add (ψ (u 0)) (S.mul z (hs n (tl u)))
variable (hψ:Hm R S ψ)
include hψ
theorem C8p:∀(n:Nat) (u:Nat→α),(∀i,u i=R.zero)→hs S ψ z n u=S.zero
  |0,u,_=>rfl
  | n+1,u,h=>by
    show S.add (ψ (u 0)) (S.mul z (hs S ψ z n (tl u)))=_
    rw [C8p n (tl u) fun i=>h (i+1),h 0,hψ.zero,S.mul0,S.add0]
theorem B8O:∀(n d:Nat) (u:Nat→α),(∀i,n≤i→u i=R.zero)→hs S ψ z (n+d) u=hs S ψ z n u
  |0,d,u,h=>C8p R S ψ z hψ _ u fun i=>h i (Nat.zero_le _)
  | n+1,d,u,h=>by
    rw [show n+1+d=n+d+1 by omega]
    show S.add _ (S.mul z (hs S ψ z (n+d) (tl u)))=S.add _ (S.mul z (hs S ψ z n (tl u)))
    rw [B8O n d (tl u) fun i hi=>h (i+1) (by omega)]
theorem C6i:∀(n:Nat) (u v:Nat→α),hs S ψ z n (A4z R u v)=S.add (hs S ψ z n u) (hs S ψ z n v)
  |0,u,v=>(S.add0 _).symm
  | n+1,u,v=>by
    show S.add (ψ (R.add (u 0) (v 0))) (S.mul z (hs S ψ z n (A4z R (tl u) (tl v))))=S.add (S.add _ (S.mul z _)) (S.add _ (S.mul z _))
    rw [C6i n,hψ.add,S.dist,S.four]
theorem D6x (c:α):∀(n:Nat) (u:Nat→α),hs S ψ z n (fun i=>R.mul c (u i))=S.mul (ψ c) (hs S ψ z n u)
  |0,u=>(S.mul0 _).symm
  | n+1,u=>by
    show S.add (ψ (R.mul c (u 0))) (S.mul z (hs S ψ z n (fun i=>R.mul c (tl u i))))=S.mul (ψ c) (S.add _ (S.mul z _))
    rw [D6x c n,hψ.mul,S.dist,←S.mulA z,S.mulC z,S.mulA]
theorem D1u:∀(n m:Nat) (u v:Nat→α),(∀i,n≤i→u i=R.zero)→(∀i,m≤i→v i=R.zero)→hs S ψ z (n+m) (A0C R u v)=S.mul (hs S ψ z n u) (hs S ψ z m v)
  | 0,m,u,v,hu,hv=>by
    rw [C8p R S ψ z hψ _ (A0C R u v) fun i=>?_]
    · exact(S.zero_mul _).symm
    · show K3 R i u v=_
      rw [show u=fun _=>R.zero from funext fun j=>hu j (Nat.zero_le _),B2k]
  | n+1,m,u,v,hu,hv=>by
    rw [show n+1+m=n+m+1 by omega]
    show S.add (ψ (R.mul (u 0) (v 0))) (S.mul z (hs S ψ z (n+m) (tl (A0C R u v))))=S.mul (S.add _ (S.mul z (hs S ψ z n (tl u)))) _
    rw [D7h,C6i R S ψ z hψ,D6x R S ψ z hψ,D1u n m (tl u) v (fun i hi=>hu (i+1) (by omega)) hv,hψ.mul,S.distr,S.dist]
    have e:hs S ψ z m v=S.add (ψ (v 0)) (S.mul z (hs S ψ z (n+m) (tl v))):=by
      have:=B8O R S ψ z hψ m (n+1) v hv
      rw [show m+(n+1)=n+m+1 by omega]at this
      exact this.symm
    have e1:S.add (S.mul (ψ (u 0)) (ψ (v 0))) (S.mul z (S.mul (ψ (u 0)) (hs S ψ z (n+m) (tl v))))=S.mul (ψ (u 0)) (hs S ψ z m v):=by
      rw [e,S.dist,←S.mulA z,S.mulC z,S.mulA]
    rw [←S.addA,e1,S.mulA]
end
section
variable {β:Type} {M:List Rat} (hM:Md M) (S:Rg β) {ψ:KR M→β} (hψ:Hm (C8 hM) S ψ) (z:β)
abbrev Hf (ψ:KR M→β) (F:PQ):β:=hor S (fun a=>ψ (kr hM a)) z F
theorem B9I:∀F:PQ,Hf hM S z ψ F=hs S ψ z F.length (sq hM F)
  | []=>rfl
  | a::F=>by
    show S.add _ (S.mul z (Hf hM S z ψ F))=S.add _ (S.mul z (hs S ψ z F.length (tl (sq hM (a::F)))))
    rw [B9I F];rfl
include hψ
theorem B2K {F:PQ} {n:Nat} (h:∀i,n≤i→sq hM F i=(C8 hM).zero):Hf hM S z ψ F=hs S ψ z n (sq hM F):=by
  rw [B9I]
  rcases Nat.le_total n F.length with h1|h1
  · have:=B8O (C8 hM) S ψ z hψ n (F.length-n) (sq hM F) h
    rwa [show n+(F.length-n)=F.length by omega]at this
  · have:=B8O (C8 hM) S ψ z hψ F.length (n-F.length) (sq hM F) fun i hi=>A3v hM hi
    rw [show F.length+(n-F.length)=n by omega]at this
    exact this.symm
theorem F4o (F G:PQ):Hf hM S z ψ (l9 F G)=S.add (Hf hM S z ψ F) (Hf hM S z ψ G):=by
  have hn:∀i,max F.length G.length≤i→sq hM F i=(C8 hM).zero∧sq hM G i=(C8 hM).zero:=fun i hi=>⟨A3v hM (by omega),A3v hM (by omega)⟩
  rw [B2K hM S hψ z (n:=max F.length G.length) (F:=l9 F G) fun i hi=>by rw [B9D];show(C8 hM).add _ _=_;rw [(hn i hi).1,(hn i hi).2,(C8 hM).add0],
    B2K hM S hψ z (F:=F) fun i hi=>(hn i hi).1,B2K hM S hψ z (F:=G) fun i hi=>(hn i hi).2,B9D,C6i (C8 hM) S ψ z hψ]
theorem D7a (F G:PQ):Hf hM S z ψ (G7 M F G)=S.mul (Hf hM S z ψ F) (Hf hM S z ψ G):=by
  have hl:=B1I (F.length+G.length-1) fun m=>D4 (F3 F G m F.length) M
  rw [B2K hM S hψ z (n:=F.length+G.length) (F:=G7 M F G) fun i hi=>A3v hM (by unfold G7;omega),C8y,D1u (C8 hM) S ψ z hψ _ _ _ _ (fun i hi=>A3v hM hi) fun i hi=>A3v hM hi,B9I,B9I]
theorem F4Z (a:List Rat):Hf hM S z ψ (X3 a)=ψ (kr hM a):=by
  rw [B2K hM S hψ z (n:=1) fun i hi=>by rw [C2C];cases i with|zero=>omega|succ i=>rfl,C2C]
  show S.add _ (S.mul z S.zero)=_
  rw [S.mul0,S.add0];rfl
omit hψ in
theorem C3V (x:List Rat):sq hM (D5 x)=fun i=>match i with|0=>kr hM x|1=>(C8 hM).one|_+2=>(C8 hM).zero:=by
  funext i
  show kr hM (C3 (G6 List.isEmpty [x,[1]]) i)=_
  rw [B7i]
  match i with
  |0=>rfl
  |1=>exact Subtype.ext (A3n C7A hM.pos)
  |i+2=>exact A4U hM
theorem D3J (x:List Rat):Hf hM S z ψ (D5 x)=S.add (ψ (kr hM x)) z:=by
  rw [B2K hM S hψ z (n:=2) fun i hi=>by rw [C3V];match i,hi with|i+2,_=>rfl,C3V]
  show S.add _ (S.mul z (S.add (ψ (C8 hM).one) (S.mul z S.zero)))=_
  rw [S.mul0,S.add0,hψ.one,S.mul1]
theorem C6K (F X:PQ):∀d,d≤F.length→Hf hM S z ψ (sh M F X d)=hor S (fun a=>ψ (kr hM a)) (Hf hM S z ψ X) (F.drop (F.length-d))
  |0,_=>by rw [Nat.sub_zero,List.drop_length];rfl
  | d+1,h=>by
    show Hf hM S z ψ (l9 (G7 M (sh M F X d) X) (X3 (C3 F (F.length-1-d))))=_
    have e:F.drop (F.length-(d+1))=C3 F (F.length-1-d)::F.drop (F.length-d):=by
      rw [List.drop_eq_getElem_cons (by omega),show F.length-(d+1)+1=F.length-d by omega]
      congr 1
      unfold C3
      rw [List.getD_eq_getElem?_getD,show F.length-1-d=F.length-(d+1)by omega,List.getElem?_eq_getElem (by omega)];rfl
    rw [F4o hM S hψ,D7a hM S hψ,F4Z hM S hψ,C6K F X d (by omega),e,S.addC,S.mulC];rfl
end
section
variable {M:List Rat} (hM:Md M)
theorem D5D (F:PQ) {d:Nat} (h:d+1≤F.length):F.drop (F.length-(d+1))=C3 F (F.length-1-d)::F.drop (F.length-d):=by
  rw [List.drop_eq_getElem_cons (by omega),show F.length-(d+1)+1=F.length-d by omega]
  congr 1
  unfold C3
  rw [List.getD_eq_getElem?_getD,show F.length-1-d=F.length-(d+1)by omega,List.getElem?_eq_getElem (by omega)];rfl
theorem B7R (F X:PQ):∀d,d≤F.length→sq hM (sh M F X d)=hor (seq (C8 hM)) (fun a=>t9 (C8 hM) (kr hM a)) (sq hM X) (F.drop (F.length-d))
  | 0,_=>by
    rw [Nat.sub_zero,List.drop_length]
    exact funext fun i=>A3v hM (Nat.zero_le _)
  | d+1,h=>by
    show sq hM (l9 (G7 M (sh M F X d) X) (X3 (C3 F (F.length-1-d))))=_
    rw [B9D,C8y,C2C,B7R F X d (by omega),D5D F h]
    show(seq (C8 hM)).add ((seq (C8 hM)).mul _ _) _=(seq (C8 hM)).add _ ((seq (C8 hM)).mul _ _)
    rw [(seq (C8 hM)).addC,(seq (C8 hM)).mulC]
theorem C9T (F:PQ) (x:List Rat):∀d,d≤F.length→kr hM (vl M F x d)=hor (C8 hM) (kr hM) (kr hM x) (F.drop (F.length-d))
  |0,_=>by rw [Nat.sub_zero,List.drop_length];exact A4U hM
  | d+1,h=>by
    show kr hM (E5 (D4 (E2 (vl M F x d) x) M) (C3 F (F.length-1-d)))=_
    rw [A8G,D3i,D4D,C9T F x d (by omega),D5D F h]
    show(C8 hM).add ((C8 hM).mul _ _) _=(C8 hM).add _ ((C8 hM).mul _ _)
    rw [(C8 hM).addC,(C8 hM).mulC]
def Xs:Nat→KR M:=fun i=>match i with|1=>(C8 hM).one|_=>(C8 hM).zero
theorem E0P (u:Nat→KR M):A0C (C8 hM) (Xs hM) u=fun i=>match i with|0=>(C8 hM).zero|i+1=>u i:=by
  funext i
  cases i with
  |zero=>exact Rg.zero_mul _ _
  | succ i=>
    show(C8 hM).add ((C8 hM).mul (C8 hM).zero _) (K3 (C8 hM) i (tl (Xs hM)) u)=u i
    rw [Rg.zero_mul,Rg.zero_add,show tl (Xs hM)=t9 (C8 hM) (C8 hM).one from funext fun j=>by cases j<;>rfl,C6I,Rg.one_mul]
theorem D2b:∀F:PQ,hor (seq (C8 hM)) (fun a=>t9 (C8 hM) (kr hM a)) (Xs hM) F=sq hM F
  | []=>funext fun i=>(A3v hM (Nat.zero_le _)).symm
  | a::F=>by
    show A4z (C8 hM) _ (A0C (C8 hM) (Xs hM) (hor (seq (C8 hM)) (fun a=>t9 (C8 hM) (kr hM a)) (Xs hM) F))=_
    rw [D2b F,E0P]
    funext i
    cases i with
    |zero=>exact(C8 hM).add0 _
    |succ i=>exact Rg.zero_add _ _
theorem E1u (F:PQ) (x:List Rat):sq hM (sh M (sh M F (D5 x) F.length) (D5 (o9 [] x)) (sh M F (D5 x) F.length).length)=sq hM F:=by
  rw [B7R hM _ _ _ (Nat.le_refl _),Nat.sub_self,List.drop_zero]
  show Hf hM (seq (C8 hM)) (sq hM (D5 (o9 [] x))) (t9 (C8 hM)) (sh M F (D5 x) F.length)=_
  rw [C6K hM (seq (C8 hM)) (C7k _) _ F (D5 x) _ (Nat.le_refl _),Nat.sub_self,List.drop_zero,D3J hM (seq (C8 hM)) (C7k _)]
  refine Eq.trans ?_ (D2b hM F)
  congr 1
  rw [C3V]
  funext i
  show(C8 hM).add _ _=_
  match i with
  | 0=>
    show(C8 hM).add (kr hM x) (kr hM (o9 [] x))=(C8 hM).zero
    rw [←A8G,show E5 x (o9 [] x)=[]from w7 M1 B2c fun j=>by rw [g9,B5K,N0 (l:=[]) (Nat.zero_le _)];grind,A4U]
  |1=>exact Rg.zero_add _ _
  |i+2=>exact Rg.zero_add _ _
theorem E1H (F:PQ) (x:List Rat):kr hM (vl M (sh M F (D5 x) F.length) x (sh M F (D5 x) F.length).length)=kr hM (vl M F (E5 x x) F.length):=by
  have hid:Hm (C8 hM) (C8 hM) id:=⟨fun _ _=>rfl,fun _ _=>rfl,rfl,rfl⟩
  rw [C9T hM _ _ _ (Nat.le_refl _),Nat.sub_self,List.drop_zero,C9T hM F _ _ (Nat.le_refl _),Nat.sub_self,List.drop_zero]
  show Hf hM (C8 hM) (kr hM x) id (sh M F (D5 x) F.length)=_
  rw [C6K hM (C8 hM) hid _ F (D5 x) _ (Nat.le_refl _),Nat.sub_self,List.drop_zero,D3J hM (C8 hM) hid,A8G];rfl
theorem F4y (F:PQ) (x:List Rat):sq hM (sh M (G7 M F F) (D5 x) (G7 M F F).length)=sq hM (G7 M (sh M F (D5 x) F.length) (sh M F (D5 x) F.length)):=by
  have hh:=C7k (C8 hM)
  rw [C8y,B7R hM _ _ _ (Nat.le_refl _),B7R hM F _ _ (Nat.le_refl _),Nat.sub_self,Nat.sub_self,List.drop_zero,List.drop_zero]
  exact D7a hM (seq (C8 hM)) hh (sq hM (D5 x)) F F
end
theorem C8u {α:Type} {ck:α→Int} {t:Int}:∀{l:List α},(∀x,x∈l→ck x=0)→X8 ck t l=t
  | [],_=>rfl
  | a::l,h=>by
    unfold X8
    rw [if_neg (by rw [h a List.mem_cons_self];decide)]
    exact C8u fun x hx=>h x (List.mem_cons_of_mem _ hx)
theorem E8Z {a:List Rat} (h1:Tr a) (h2:∀q,q∈a→Sm 1024 q) (h3:a.length≤65):W6 (a.map fr)=0:=by
  unfold W6
  rw [List.length_map,if_neg (by omega),C8u fun x hx=>by obtain⟨q,hq,rfl⟩:=List.mem_map.1 hx;exact E1p (h2 q hq)]
  unfold A4a
  rw [List.getLast?_map]
  cases e:a.getLast? with
  |none=>rfl
  | some q=>
    show(if zq (fr q)=true then 1 else 0)=(0:Int)
    rw [B0x,if_neg (by rw [decide_eq_true_eq];exact h1 q e)]
theorem D4g {m:FP} {a:List Rat} (h1:Tr a) (h2:∀q,q∈a→Sm 1024 q) (h3:a.length≤65) (h4:a.length<m.length):elt m (a.map fr)=0:=by
  unfold elt
  rw [E8Z h1 h2 h3,if_neg (fun h=>h rfl),List.length_map,if_neg (by omega)]
structure Ok (n:Nat) (F:PQ):Prop where
  len:F.length≤65
  c:∀a,a∈F→Tr a∧a.length<n∧∀q,q∈a→Sm 1024 q
  last:∀a,F.getLast?=some a→a≠[]
theorem Ok.ck0 {m:FP} {F:PQ} (h:Ok m.length F) (hm:form m=0):l8 m (fm F)=0:=by
  unfold l8 fck
  have hl:=B2v hm
  rw [if_neg (fun x=>x hm),S1,if_neg (by have:=h.len;omega),C8u fun x hx=>by
    obtain⟨a,ha,rfl⟩:=List.mem_map.1 hx
    obtain⟨h1,h2,h3⟩:=h.c a ha
    exact D4g h1 h3 (by omega) h2]
  unfold A8B
  rw [List.getLast?_map]
  cases e:F.getLast? with
  |none=>rfl
  | some a=>
    show(if(a.map fr).length=0 then 1 else 0)=(0:Int)
    rw [List.length_map,if_neg fun h0=>h.last a e (List.length_eq_zero_iff.1 h0)]
theorem Ok.fine {n:Nat} {F:PQ} (h:Ok n F) (hn:n<1000):A4K (fm F):=by
  refine⟨by rw [S1];exact h.len,fun a ha=>?_⟩
  obtain⟨b,hb,rfl⟩:=List.mem_map.1 ha
  obtain⟨h1,h2,h3⟩:=h.c b hb
  refine⟨by rw [List.length_map];omega,fun x hx=>?_⟩
  obtain⟨q,hq,rfl⟩:=List.mem_map.1 hx
  exact⟨q,rfl,h3 q hq⟩
theorem Ok.rd {M:List Rat} {F:PQ} (h:Ok M.length F) (hp:0<M.length):Rd M F:=⟨fun i=>by
  rcases Nat.lt_or_ge i F.length with h1|h1
  · obtain⟨a,b,_⟩:=h.c _ (C3W h1)
    exact⟨a,b⟩
  · rw [A3K h1];exact⟨B2c,hp⟩,h.last⟩
theorem C4J (l:PQ):∀a,(G6 List.isEmpty l).getLast?=some a→a≠[]:=by
  have key:∀r:PQ,∀a,(G6 List.isEmpty r.reverse).getLast?=some a→a≠[]:=by
    intro r
    induction r with
    |nil=>intro a h;cases h
    | cons b r ih=>
      rw [List.reverse_cons,A7z]
      split
      · exact ih
      · rename_i h
        intro a ha
        rw [List.getLast?_concat]at ha
        cases ha
        exact fun e=>h (by rw [e];rfl)
  have:=key l.reverse
  rwa [List.reverse_reverse]at this
theorem B1e {M:List Rat} {F:PQ} {D s:Nat} (hp:0<M.length) (hD:D≠0) (h1:F.length≤65) (h2:∀i,Pz D s (M.length-1) (C3 F i)) (h3:∀a,F.getLast?=some a→a≠[]) (d1:(B2 D).size≤1024) (d2:s≤1024):Ok M.length F:=by
  refine⟨h1,fun a ha=>?_,h3⟩
  obtain⟨i,hi,rfl⟩:=List.getElem_of_mem ha
  have q:=h2 i
  unfold C3 at q
  rw [List.getD_eq_getElem?_getD,List.getElem?_eq_getElem hi,Option.getD_some]at q
  exact⟨q.tr,by have:=q.len;omega,fun x hx=>(q.mem hx).sm hD d2 d1⟩
section
variable {D E s t p:Nat} {M:List Rat} (hM:Mk M) (m1:M.length≤4) (m2:2≤M.length) (hD:D≠0) (hE:E≠0)
include hM m1 m2 hD
theorem D4O {a:List Rat} {B:Nat} (ha:Pz D s B a) (hl:a.length≤M.length+1):Pz D (s+18) (M.length-1) (D4 a M):=
  ⟨A0F _ _,M1,fun m=>by
    unfold D4 A2F
    rw [A1i]
    split
    · exact(C2a hM hD ha.cs m).mono (by omega)
    · exact Cs.zero⟩
include hE
theorem D2o {a b:List Rat} (ha:Pz D s (M.length-1) a) (hb:Pz E t (M.length-1) b):Pz (D*E) (s+t+21) (M.length-1) (B5v M a b):=by
  have hl:=A0F (a.length+b.length-1) fun m=>G9 a b m a.length
  have:=ha.len;have:=hb.len
  exact(D4O hM m1 m2 (f7 hD hE) (ha.mul hD hE hb) (Nat.le_trans hl (by omega))).mono (by omega) (Nat.le_refl _)
theorem C7P {F G:PQ} (hF:∀i,(C3 F i).length≤M.length-1) (hG:∀i,(C3 G i).length≤M.length-1) (m:Nat):∀i,(F3 F G m i).length≤M.length+1
  |0=>Nat.zero_le _
  | i+1=>by
    show(if _ then _ else _:List Rat).length≤_
    split
    · have h1:=A0F (max (F3 F G m i).length (E2 (C3 F i) (C3 G (m-i))).length) fun j=>co (F3 F G m i) j+co (E2 (C3 F i) (C3 G (m-i))) j
      have h2:=A0F ((C3 F i).length+(C3 G (m-i)).length-1) fun j=>G9 (C3 F i) (C3 G (m-i)) j (C3 F i).length
      have h3:=C7P hF hG m i
      have:=hF i;have:=hG (m-i)
      unfold E5
      unfold E2 at h1⊢
      omega
    · exact C7P hF hG m i
theorem B8Q {F G:PQ} (hF:∀i,Pz D s (M.length-1) (C3 F i)) (hG:∀i,Pz E t (M.length-1) (C3 G i)) (lF:F.length≤7) (i:Nat):Pz (D*E) (s+t+28) (M.length-1) (C3 (G7 M F G) i):=by
  unfold G7
  rw [C1t]
  split
  · exact(D4O hM m1 m2 (f7 hD hE) (B0c hM hD hE hF hG i F.length) (C7P hM m1 m2 hD hE (fun i=>(hF i).len) (fun i=>(hG i).len) i _)).mono (by omega) (Nat.le_refl _)
  · exact Pz.nil
variable {x:List Rat} {F:PQ} (hF:∀i,Pz D s (M.length-1) (C3 F i)) (hx:Pz E 40 (M.length-1) x) (lF:F.length≤7) (sD:(B2 D).size≤p) (sE:(B2 E).size≤39) (bp:p≤2000) (bs:s≤2000)
include hF hx lF sD sE bp bs
theorem A2f (d:Nat):D*E^d≠0:=f7 hD (D8r hE)
theorem A8I (d:Nat):(B2 (D*E^d)).size≤p+1+39*d:=by have:=b7 sD (C7b sE d);omega
theorem D3g (d i:Nat):Pz (D*E^d) (s+(39*d+1)) (M.length-1) (C3 F i):=(hF i).up (D8r hE) (C7b sE d)
theorem vl2:∀d,d≤7→Pz (D*E^d) (s+1+80*d) (M.length-1) (vl M F x d)
  |0,_=>Pz.nil
  | d+1,h=>by
    have h1:=D2o hM m1 m2 (A2f hM m1 m2 hD hE hF hx lF sD sE bp bs d) hE (vl2 d (by omega)) hx
    rw [Nat.mul_assoc,←Nat.pow_succ]at h1
    have h2:=h1.add (u:=s+80+80*d) (A2f hM m1 m2 hD hE hF hx lF sD sE bp bs (d+1)) (D3g hM m1 m2 hD hE hF hx lF sD sE bp bs (d+1) (F.length-1-d)) (by omega) (by omega)
    exact h2.mono (by omega) (by omega)
theorem D5I:Ev (fun k=>Y4 k (M.map fr) (fm F) (x.map fr)) ((vl M F x F.length).map fr):=by
  show Ev (fun k=>B85 (A0Z k) _ _ _) _
  unfold B85
  rw [S1,J6 (by omega) (by omega)]
  have h:=D8A (n:=F.length) (by omega) (fun k i (s:FP)=>A0Z k (fm F) (x.map fr) s i (M.map fr)) (fun i=>(vl M F x (F.length-i)).map fr) (r:=(vl M F x F.length).map fr) ?_ fun i hi ih=>?_
  · rw [Nat.sub_self]at h;exact h
  · show Ev (fun k=>A7B (A0Z k) (K0 k) (Q8 k) _ _ _ _ _) _
    unfold A7B
    exact D6 (by decide) (Ev.now _)
  · show Ev (fun k=>A7B (A0Z k) (K0 k) (Q8 k) _ _ _ _ _) _
    unfold A7B
    have hd:F.length-i=(F.length-(i+1))+1:=by omega
    have hp:=vl2 hM m1 m2 hD hE hF hx lF sD sE bp bs (F.length-(i+1)) (by omega)
    have hn:=A2f hM m1 m2 hD hE hF hx lF sD sE bp bs (F.length-(i+1))
    have hs:=A8I hM m1 m2 hD hE hF hx lF sD sE bp bs (F.length-(i+1))
    have h1:=E8T hM hn hE hp hx (by omega) (by omega) (by omega)
    have hq:=D2o hM m1 m2 hn hE hp hx
    have hs2:(B2 (D*E^(F.length-(i+1))*E)).size≤9000:=Nat.le_trans (b7 hs sE) (by omega)
    have h2:=C8R (hq.Sl (f7 hn hE) hs2 (by omega) (by omega)) ((hF i).Sl hD (by omega) (by omega) (by omega))
    rw [hd]at ih
    have e:vl M F x (F.length-(i+1)+1)=E5 (B5v M (vl M F x (F.length-(i+1))) x) (C3 F i):=by
      show E5 _ (C3 F (F.length-1-(F.length-(i+1))))=_
      rw [show F.length-1-(F.length-(i+1))=i by omega]
    rw [e]at ih
    rw [S1,A8e hi]
    exact C2 (by omega) (Ev.bind h1 (O0 (by omega) (by omega) (Ev.bind h2 ih)))
theorem D0Y (i:Nat):Pz E 40 (M.length-1) (C3 (D5 x) i):=by
  unfold D5
  rw [B7i]
  match i with
  |0=>exact hx
  | 1=>
    show Pz E 40 (M.length-1) [1]
    refine Pz.of (by show 1≤_;omega) C7A fun q hq=>?_
    rw [List.mem_singleton.1 hq]
    refine⟨(E:Int),?_,by rw [Y8];omega⟩
    have:=Rat.mkRat_mul_right (n:=1) (d:=1) hE
    rw [Int.one_mul,Nat.one_mul]at this
    rw [this];decide +kernel
  |i+2=>exact Pz.nil
theorem sh2:∀d,d≤7→(sh M F (D5 x) d).length≤d∧∀i,Pz (D*E^d) (s+1+80*d) (M.length-1) (C3 (sh M F (D5 x) d) i)
  |0,_=>⟨Nat.le_refl _,fun i=>by rw [show C3 (sh M F (D5 x) 0) i=[]from A3K (Nat.zero_le _)];exact Pz.nil⟩
  | d+1,h=>by
    obtain⟨h1,h2⟩:=sh2 d (by omega)
    have hg:=D1C x
    have ho:=D1v (C3 F (F.length-1-d))
    have hn:=A2f hM m1 m2 hD hE hF hx lF sD sE bp bs d
    refine⟨?_,fun i=>?_⟩
    · have e1:=B1I (max (G7 M (sh M F (D5 x) d) (D5 x)).length (X3 (C3 F (F.length-1-d))).length) fun i=>E5 (C3 (G7 M (sh M F (D5 x) d) (D5 x)) i) (C3 (X3 (C3 F (F.length-1-d))) i)
      have e2:=B1I ((sh M F (D5 x) d).length+(D5 x).length-1) fun m=>D4 (F3 (sh M F (D5 x) d) (D5 x) m (sh M F (D5 x) d).length) M
      show(l9 _ _).length≤_
      unfold l9
      unfold G7 at e1⊢
      omega
    · show Pz _ _ _ (C3 (l9 _ _) i)
      rw [D4H,C3v]
      have hm:=B8Q hM m1 m2 hn hE h2 (D0Y hM m1 m2 hD hE hF hx lF sD sE bp bs) (by omega) i
      rw [Nat.mul_assoc,←Nat.pow_succ]at hm
      have hf:Pz (D*E^(d+1)) (s+(39*(d+1)+1)) (M.length-1) (if i=0 then C3 F (F.length-1-d)else []):=by
        split
        · exact D3g hM m1 m2 hD hE hF hx lF sD sE bp bs (d+1) _
        · exact Pz.nil
      have h4:=hm.add (u:=s+80+80*d) (A2f hM m1 m2 hD hE hF hx lF sD sE bp bs (d+1)) hf (by omega) (by omega)
      exact h4.mono (by omega) (by omega)
theorem E9J {d:Nat} (hd:d≤6) (f:List Rat) (hf:Pz D s (M.length-1) f):Ev (fun k=>m5 k (M.map fr) (fm (sh M F (D5 x) d)) (fm (D5 x))) (fm (G7 M (sh M F (D5 x) d) (D5 x)))∧
    Ev (fun k=>A1h k (fm (G7 M (sh M F (D5 x) d) (D5 x))) (fm (X3 f))) (fm (l9 (G7 M (sh M F (D5 x) d) (D5 x)) (X3 f))):=by
  obtain⟨h1,h2⟩:=sh2 hM m1 m2 hD hE hF hx lF sD sE bp bs d (by omega)
  have hn:=A2f hM m1 m2 hD hE hF hx lF sD sE bp bs d
  have hs:=A8I hM m1 m2 hD hE hF hx lF sD sE bp bs d
  have hg:=D0Y hM m1 m2 hD hE hF hx lF sD sE bp bs
  have lg:=D1C x
  have l1:=D1v f
  have lm:=B1I ((sh M F (D5 x) d).length+(D5 x).length-1) fun m=>D4 (F3 (sh M F (D5 x) d) (D5 x) m (sh M F (D5 x) d).length) M
  have lm':(G7 M (sh M F (D5 x) d) (D5 x)).length<400000:=Nat.lt_of_le_of_lt lm (by omega)
  have s1:∀i,(C3 (G7 M (sh M F (D5 x) d) (D5 x)) i).length<400000∧∀y,y∈C3 (G7 M (sh M F (D5 x) d) (D5 x)) i→Sm 9000 y:=fun i=>
    ((B8Q hM m1 m2 hn hE h2 hg (by omega) i).sl (f7 hn hE) (Nat.le_trans (b7 hs sE) (by omega)) (by omega) (by omega))
  have s2:∀i,(C3 (X3 f) i).length<400000∧∀y,y∈C3 (X3 f) i→Sm 9000 y:=fun i=>by
    rw [C3v]
    split
    · exact hf.sl hD (by omega) (by omega) (by omega)
    · exact⟨by decide,fun y hy=>by cases hy⟩
  exact⟨D7d hM hn hE h2 hg (by omega) (by omega) (by omega) (by omega) (by omega),E1O lm' (by omega) s1 s2⟩
theorem C2A:Ev (fun k=>A4D k (x.map fr) (fm F) (M.map fr)) (fm (sh M F (D5 x) F.length)):=by
  show Ev (fun k=>B2W (A0i k) (M0 k) (F7 k) _ _ _) _
  unfold B2W
  refine Ev.bind F6i (Ev.bind (F1I x) ?_)
  rw [S1,J6 (by omega) (by omega)]
  have h:=D8A (n:=F.length) (by omega) (fun k i (s:List FP)=>A0i k (fm F) (M.map fr) s (fm (D5 x)) i) (fun i=>fm (sh M F (D5 x) (F.length-i))) (r:=fm (sh M F (D5 x) F.length)) ?_ fun i hi ih=>?_
  · rw [Nat.sub_self]at h;exact h
  · show Ev (fun k=>A8H (A0i k) (F7 k) (A1h k) (m5 k) _ _ _ _ _) _
    unfold A8H
    exact D6 (by decide) (Ev.now _)
  · show Ev (fun k=>A8H (A0i k) (F7 k) (A1h k) (m5 k) _ _ _ _ _) _
    unfold A8H
    have hd:F.length-i=(F.length-(i+1))+1:=by omega
    obtain⟨p1,p3⟩:=E9J hM m1 m2 hD hE hF hx lF sD sE bp bs (d:=F.length-(i+1)) (by omega) (C3 F i) (hF i)
    rw [hd]at ih
    have e:sh M F (D5 x) (F.length-(i+1)+1)=l9 (G7 M (sh M F (D5 x) (F.length-(i+1))) (D5 x)) (X3 (C3 F i)):=by
      show l9 _ (X3 (C3 F (F.length-1-(F.length-(i+1)))))=_
      rw [show F.length-1-(F.length-(i+1))=i by omega]
    rw [e]at ih
    rw [S1 F,A8e hi]
    exact C2 (by omega) (Ev.bind p1 (O0 (by omega) (by omega) (Ev.bind (F2i _) (Ev.bind p3 ih))))
end
theorem C1U (M:List Rat) (F X:PQ):∀d a,(sh M F X d).getLast?=some a→a≠[]
  |0,a,h=>by cases h
  |d+1,a,h=>C4J _ a h
end Go.Proofs.YtijohnkgomcdbaaGreatV
set_option maxRecDepth 10000
namespace Go.Proofs.YtijohnkgomcdbaaGreatV
open Go Go.RowKit YtijohnkgomcdbaaGreat YtijohnkgomcdbaaGreatE YtijohnkgomcdbaaGreatW.PrintWords YtijohnkgomcdbaaGreatW.PrintLast YtijohnkgomcdbaaGreatW.PrintMore
theorem C0:F6 Tryz.prog E0:=⟨by kernel_rfl,by kernel_rfl,by kernel_rfl⟩
theorem HM:Tryz.prog.follows .mixedOrders=true:=Tryz.checked.mixed
section
variable {P:Program} {f:Nat}
theorem E6T {k:IntKind} {x:Int} {r:V} (h:∀w,A3W P f #[.int k x] w fun v w'=>w'=w∧∀bl φ,C4 w bl φ r v):Ct P f [.a (.v (.it k) x)] [] r []:=by
 refine⟨(fun q hq=>nomatch hq),fun w0 bl0 φ0 vs _ hm hr=>?_⟩
 cases hr with
 |cons h1 hr=>
  cases hr with
  |nil=>
   rw [E8.1 h1]
   exact(h w0).mono fun v w' ⟨e,hv⟩=>⟨φ0,by rw [e];exact E7.refl hm,by rw [e];exact hv _ _⟩
theorem D4Y {k1 k2 k3:IntKind} {x y z:Int} {r:V} (h:∀w,A3W P f #[.int k1 x, .int k2 y, .int k3 z] w fun v w'=>w'=w∧∀bl φ,C4 w bl φ r v):Ct P f [.a (.v (.it k1) x), .a (.v (.it k2) y), .a (.v (.it k3) z)] [] r []:=by
 refine⟨(fun q hq=>nomatch hq),fun w0 bl0 φ0 vs _ hm hr=>?_⟩
 cases hr with
 |cons h1 hr=>
  cases hr with
  |cons h2 hr=>
   cases hr with
   |cons h3 hr=>
    cases hr with
    |nil=>
     rw [E8.1 h1,E8.1 h2,E8.1 h3]
     exact(h w0).mono fun v w' ⟨e,hv⟩=>⟨φ0,by rw [e];exact E7.refl hm,by rw [e];exact hv _ _⟩
theorem F3y {fn:Func} {c:Code} (hf:P.funcs[f]?=some fn) (hname:(fn.name== "runtime.NumGoroutine")=false) (hb:fn.body=some c) {args:Array Value} {w:World} {Q:Value→World→Prop} (h:Calls P f args w fun e w'=>∃v,e= .returned v∧Q v w'):A3W P f args w Q:=
 Or.inl ⟨by simp only [callFunc,Sem.run_bind,run_program,Result.andThen_ok,hf,hname,hb,Option.isNone_some,Bool.false_eq_true,if_false,Sem.run_pure],h⟩
end
theorem C1j (k:Nat):B5 Tryz.prog (B8R (N5 k)):=by
 rintro⟨⟨x,y,c,⟨⟩⟩,⟨⟩⟩ o h v hv
 replace h:All.bits_Add64.f x y c=some o:=h
 cases hv
 unfold All.bits_Add64.f at h
 by_cases hc:0≤x∧0≤y∧0≤c∧c≤1
 ·rw [if_pos hc]at h
  cases h
  refine D4Y fun w=>Or.inr ⟨_,w,?_,rfl,fun bl φ=>⟨_,rfl, .cons (E8.2 rfl) (.cons (E8.2 rfl) .nil)⟩⟩
  show(callFunc 247 #[.int .u64 x, .int .u64 y, .int .u64 c]).run _ w=_
  rw [run_callFunc_extern Tryz.func247 (by kernel_rfl) (by kernel_rfl) (by kernel_rfl) (by kernel_rfl),run_add64 x y c hc.1 hc.2.1 hc.2.2.1 hc.2.2.2]
  rfl
 ·rw [if_neg hc]at h;cases h
theorem E5P (x y c:Int) (hx:0≤x) (hy:0≤y) (hc0:0≤c) (hc:c≤1) (w:World):
  (callFunc 248 #[.int .u64 x, .int .u64 y, .int .u64 c]).run Tryz.prog w= .ok (.value (.tuple #[.int .u64 ((x-y-c)%18446744073709551616), .int .u64 (if x<y+c then 1 else 0)])) w∨¬y≤18446744073709551615:=by
 by_cases hym:y≤18446744073709551615
 ·refine Or.inl ?_
  obtain⟨X,rfl⟩:=Int.eq_ofNat_of_zero_le hx
  obtain⟨Y,rfl⟩:=Int.eq_ofNat_of_zero_le hy
  obtain⟨C,rfl⟩:=Int.eq_ofNat_of_zero_le hc0
  rw [run_callFunc_extern Tryz.func248 (by kernel_rfl) (by kernel_rfl) (by kernel_rfl) (by kernel_rfl),run_sub64 X Y C (by omega)]
  have e1:(((X+18446744073709551616-Y-C)%18446744073709551616:Nat):Int)=((X:Int)-Y-C)%18446744073709551616:=by omega
  have e2:((if X<Y+C then 1 else 0:Nat):Int)=if(X:Int)<Y+C then 1 else 0:=by split<;>split<;>omega
  rw [e1,e2]
  rfl
 ·exact Or.inr hym
theorem D6j (k:Nat):B5 Tryz.prog (C1D (b9 k)):=by
 rintro⟨⟨x,y,c,⟨⟩⟩,⟨⟩⟩ o h v hv
 replace h:All.bits_Sub64.f x y c=some o:=h
 cases hv
 unfold All.bits_Sub64.f at h
 split at h
 ·rename_i hc
  cases h
  refine D4Y fun w=>Or.inr ⟨_,w,?_,rfl,fun bl φ=>⟨_,rfl, .cons (E8.2 rfl) (.cons (E8.2 rfl) .nil)⟩⟩
  exact(E5P x y c hc.1 hc.2.1 hc.2.2.2.1 hc.2.2.2.2 w).resolve_right fun h=>h hc.2.2.1
 ·cases h
theorem E5S (k:Nat):B5 Tryz.prog (D1e (B4r k)):=by
 rintro⟨⟨x,⟨⟩⟩,⟨⟩⟩ o h v hv
 replace h:All.bits_Len64.f x=some o:=h
 cases hv
 unfold All.bits_Len64.f at h
 split at h
 ·rename_i hc
  cases h
  refine E6T fun w=>F3y (c:=D8j.cd) Tryz.func297 (by kernel_rfl) (by kernel_rfl) ((Go.Proofs.YtijohnkgomcdbaaGreatX.len64_says x w hc.1 hc.2).mono ?_)
  rintro e w' ⟨rfl,rfl⟩
  exact⟨_,rfl,rfl,fun bl φ=>E8.2 rfl⟩
 ·cases h
theorem C8V {l:List Int} {x:Int} (h0:0≤x) (h1:x≤l.length):(((l.take x.toNat).length:Int),l.take x.toNat++l.drop (l.take x.toNat).length)=(x,l):=by
 have e:(l.take x.toNat).length=x.toNat:=by rw [List.length_take];omega
 rw [e,List.take_append_drop,Int.toNat_of_nonneg h0]
theorem C0G:∀(k:Nat) (l:List Int),All.galoisref01_trimV.f k l=All.galoisref01_trim.f k l
 |0,l=>rfl
 |k+1,l=>by
  have ih:=C0G k
  show All.galoisref01_trimV.l0 (k+1) l=All.galoisref01_trim.l0 (k+1) l
  rw [All.galoisref01_trimV.l0,All.galoisref01_trim.l0]
  have ih':∀l,All.galoisref01_trimV.l0 k l=All.galoisref01_trim.l0 k l:=ih
  simp only [ih']
noncomputable abbrev A8s (k:Nat) (x3:Int) (y0:List Int):Option s7:=(All.exact_trim.l0 k y0 x3).bind fun r=>some ((r.length:Int),r++y0.drop r.length)
theorem E4l (k:Nat) (x3:Int) (y0:List Int):A0 (A8s (k+1) x3 y0) (C0d (A8s k) x3 y0):=by
 unfold A8s
 rw [All.exact_trim.l0]
 unfold C0d
 simp only [X0,G0,Option.bind_none]
 repeat' first
 | (with_reducible exact A0.none _)
 | (with_reducible exact A0.refl _)
 | (with_reducible refine A0.posR (by with_reducible assumption) ?_)
 | (with_reducible refine A0.negR (by with_reducible assumption) ?_)
 | (with_reducible refine A0.iteL (fun _=>?_) (fun _=>?_))
 | (refine A0.posR (by first|decide|exact Int.le_refl _|omega) ?_)
 | (rw [C8V (by assumption) (by assumption)])
theorem E4w (k:Nat) (y0:List Int):A0 (M7 k y0) (D3b (A8s k) y0):=A0.refl _
noncomputable abbrev A5h (k:Nat) (x0:Int) (y0:List Int):Option A1G:=if 0≤x0∧x0≤y0.length then(All.galoisref01_trim.l0 k (y0.take x0.toNat)).bind fun r=>some ((r.length:Int),r++y0.drop r.length)else none
theorem A9i {l:List Int} {x i:Int} (h0:0≤i) (h:i<x):rd (l.take x.toNat) i=rd l i:=by
 unfold rd
 rw [List.getD_eq_getElem?_getD,List.getD_eq_getElem?_getD,List.getElem?_take_of_lt (by omega)]
theorem D8z (k:Nat) (x0:Int) (y0:List Int):A0 (A5h (k+1) x0 y0) (C6C (A5h k) x0 y0):=by
 unfold A5h
 refine A0.iteL (fun hx=>?_) (fun _=>A0.none _)
 have e:(((y0.take x0.toNat).length:Nat):Int)=x0:=by rw [List.length_take];omega
 rw [All.galoisref01_trim.l0]
 unfold C6C
 simp only [X0,G0,Option.bind_none,e,Int.sub_zero,Int.zero_add]
 refine A0.iteL (fun h1=>A0.posR h1 ?_) (fun h1=>A0.negR h1 ?_)
 ·refine A0.iteL (fun h2=>A0.posR h2 ?_) (fun _=>A0.none _)
  refine A0.iteL (fun h3=>A0.posR h3 ?_) (fun _=>A0.none _)
  rw [A9i h2 h3]
  refine A0.iteL (fun h4=>A0.posR h4 ?_) (fun h4=>A0.negR h4 ?_)
  ·refine A0.iteL (fun h5=>?_) (fun _=>A0.none _)
   refine A0.posR (Int.le_refl _) (A0.posR h2 (A0.posR h5 (A0.posR (Int.le_refl _) (A0.posR ⟨h2,by omega⟩ ?_))))
   rw [List.take_take,Nat.min_eq_left (by omega)]
   exact A0.refl _
  ·have e2:=C8V hx.1 hx.2;rw [e]at e2;rw [e2];exact A0.refl _
 ·have e2:=C8V hx.1 hx.2;rw [e]at e2;rw [e2];exact A0.refl _
theorem E3x (k:Nat) (y0:List Int):A0 (a9 k y0) (C7q (A5h k) y0):=by
 unfold a9 C7q A5h
 refine A0.posR ⟨by omega,Int.le_refl _⟩ ?_
 rw [Int.toNat_natCast,List.take_length]
 exact A0.refl _
noncomputable abbrev A5q (k:Nat) (x0:Int) (x1:List Int) (x5:Int) (y0:List Int):Option A2M:=if 0≤x0∧x0≤y0.length then(All.galoisref01_below.l0 k (y0.take x0.toNat) x1 x5).bind fun r=>some (r,y0)else none
theorem E2t (k:Nat) (x0:Int) (x1:List Int) (x5:Int) (y0:List Int):A0 (A5q (k+1) x0 x1 x5 y0) (C1G (A5q k) x0 x1 x5 y0):=by
 unfold A5q
 refine A0.iteL (fun hx=>?_) (fun _=>A0.none _)
 have e:(((y0.take x0.toNat).length:Nat):Int)=x0:=by rw [List.length_take];omega
 rw [All.galoisref01_below.l0]
 unfold C1G
 simp only [X0,G0,Option.bind_none,e,Int.sub_zero,Int.zero_add,ite_not,ne_eq]
 refine A0.iteL (fun h1=>A0.posR h1 ?_) (fun h1=>A0.negR h1 (A0.refl _))
 refine A0.iteL (fun h2=>A0.posR h2 ?_) (fun _=>A0.none _)
 refine A0.iteL (fun h3=>A0.posR h3 (A0.posR h2 ?_)) (fun _=>A0.none _)
 refine A0.iteL (fun h4=>A0.posR h4 ?_) (fun _=>A0.none _)
 rw [A9i h2 h3]
 refine A0.iteL (fun h5=>A0.posR h5 (A0.posR hx (A0.refl _))) (fun h5=>A0.negR h5 ?_)
 exact A0.posR h2 (A0.posR h3 (A0.posR h2 (A0.posR h4 (A0.refl _))))
theorem D8c:∀(k:Nat) (l r:List Int),All.galoisref01_trim.l0 k l=some r→r++l.drop r.length=l
 |0,l,r,h=>by cases h
 |k+1,l,r,h=>by
  rw [All.galoisref01_trim.l0]at h
  split at h
  ·split at h
   ·split at h
    ·split at h
     ·split at h
      ·rename_i h1 _ _ h2
       have ih:=D8c k _ _ h
       have hl:r.length≤(l.take (wrap64 ((l.length:Int)-1)).toNat).length:=by
        have:=congrArg List.length ih
        rw [List.length_append]at this
        omega
       have e:l=l.take (wrap64 ((l.length:Int)-1)).toNat++l.drop (wrap64 ((l.length:Int)-1)).toNat:=(List.take_append_drop _ _).symm
       rw [e,List.drop_append_of_le_length hl,←List.append_assoc]
       rw [ih]
      ·cases h
     ·cases h;rw [List.drop_length,List.append_nil]
    ·cases h
   ·cases h
  ·cases h;rw [List.drop_length,List.append_nil]
theorem E4y (k:Nat) (x1:List Int) (y0:List Int):A0 (v8 k x1 y0) (C2M (A5q k) (a9 k) x1 y0):=by
 unfold v8 C2M a9 A5q All.galoisref01_below.f
 simp only [C0G,o4,G0,X0,Int.sub_zero,ite_not,ne_eq]
 refine A0.bindL fun r hr=>A0.bindR hr ?_
 have e:=D8c k y0 r hr
 have hl:(r.length:Int)≤y0.length:=by
  have:=congrArg List.length e
  rw [List.length_append]at this
  omega
 have et:y0.take r.length=r:=by
  have:=congrArg (List.take r.length) e
  rwa [List.take_left,eq_comm]at this
 rw [e]
 refine A0.iteL (fun h1=>A0.posR h1 (A0.posR ⟨by omega,hl⟩ ?_)) (fun h1=>A0.negR h1 (A0.refl _))
 rw [Int.toNat_natCast,et]
 exact A0.refl _
end Go.Proofs.YtijohnkgomcdbaaGreatV
namespace Go.Proofs.YtijohnkgomcdbaaGreatV
end Go.Proofs.YtijohnkgomcdbaaGreatV
set_option maxRecDepth 100000
namespace Go.Proofs.YtijohnkgomcdbaaGreatV
open Go Go.RowKit YtijohnkgomcdbaaGreat YtijohnkgomcdbaaGreatE YtijohnkgomcdbaaGreatW.PrintWords YtijohnkgomcdbaaGreatW.PrintLast YtijohnkgomcdbaaGreatW.PrintMore
theorem F2l (k:Nat) (x0:TI):A0 (S5 k x0) (A3g x0):=A0.refl _
theorem C8U (k:Nat):B5 Tryz.prog (B6J (S5 k)):=
 B9 C0 HM B9J (es:=fun k=>[]) (fun k=>fz) Tryz.func149 0 (by kernel_rfl) (fun s=>rfl) (fun k=>[]) (fz) (fun k s0=> .nil) (F:=fun k s=>S5 k s.1.1) (fun k s r h=>(F1o s).trans (F2l k s.1.1 r h)) k
noncomputable abbrev A7T (k:Nat) (x0:(List Int)) (x3:Int):Option A2a:=All.exact_trim.l0 k x0 x3
theorem E4c (k:Nat) (x0:(List Int)) (x3:Int):A0 (All.exact_trim.l0 (k+1) x0 x3) (C6e (A7T k) x0 x3):=by rw [All.exact_trim.l0];unfold C6e;(try simp only [A7T,All.integer_zero.f,All.exact_stepAt.f,All.S24.f0,All.S24.f1,All.rd_T24,All.z24]);exact BR
theorem E5e (k:Nat) (x0:(List Int)):A0 (A0b k x0) (C1F (A7T k) x0):=by
 show A0 (All.exact_trim.f k x0) _
 unfold All.exact_trim.f;unfold C1F;(try simp only [A7T,All.integer_zero.f,All.exact_stepAt.f,All.S24.f0,All.S24.f1,All.rd_T24,All.z24]);exact BR
theorem F3Z (k:Nat):B5 Tryz.prog (D5w (A0b k)):=
 B9 C0 HM B1r (es:=fun k=>[]) (fun k=>fz) Tryz.func245 1 (by kernel_rfl) (fun s=>rfl) (fun k=>C8w (A7T k)) (fc ⟨fun s=>rfl,fz⟩) (fun k s0=> .cons (by kernel_rfl) (by kernel_rfl) (fun s r h=>(E4t (A7T k) s0 s).trans (E4c k s.1.1 s.1.2.1 r h)) (.nil)) (F:=fun k s=>A0b k s.1.1) (fun k s r h=>(E1c (A7T k) s).trans (E5e k s.1.1 r h)) k
noncomputable abbrev A2G (k:Nat) (x17:(List Int)) (x18:Int) (x19:Int) (x3:(List Int)):Option L8:=All.exact_pack.l0 k x3 x17 x18 x19
noncomputable abbrev A1v (k:Nat) (x4:Int) (x5:Int) (x17:(List Int)) (x18:Int) (x19:Int) (x24:Int) (x3:(List Int)):Option L8:=All.exact_pack.l1 k x3 x4 x5 x17 x18 x19 x24
noncomputable abbrev A2C (k:Nat) (x7:Int) (x3:(List Int)):Option L8:=All.exact_pack.l2 k x3 x7
theorem F6J (k:Nat) (x17:(List Int)) (x18:Int) (x19:Int) (x3:(List Int)):A0 (All.exact_pack.l0 (k+1) x3 x17 x18 x19) (C1n (A1v k) (A2C k) x17 x18 x19 x3):=by rw [All.exact_pack.l0];unfold C1n;(try simp only [A2G,A1v,A2C,A0b,All.integer_zero.f,All.exact_stepAt.f,All.S24.f0,All.S24.f1,All.rd_T24,All.z24]);exact BR
theorem E2C (k:Nat) (x4:Int) (x5:Int) (x17:(List Int)) (x18:Int) (x19:Int) (x24:Int) (x3:(List Int)):A0 (All.exact_pack.l1 (k+1) x3 x4 x5 x17 x18 x19 x24) (C6T (A2G k) (A1v k) x4 x5 x17 x18 x19 x24 x3):=by rw [All.exact_pack.l1];unfold C6T;(try simp only [A2G,A1v,A2C,A0b,All.integer_zero.f,All.exact_stepAt.f,All.S24.f0,All.S24.f1,All.rd_T24,All.z24]);exact BR
theorem F0H (k:Nat) (x7:Int) (x3:(List Int)):A0 (All.exact_pack.l2 (k+1) x3 x7) (C2k (A2C k) x7 x3):=by rw [All.exact_pack.l2];unfold C2k;(try simp only [A2G,A1v,A2C,A0b,All.integer_zero.f,All.exact_stepAt.f,All.S24.f0,All.S24.f1,All.rd_T24,All.z24]);exact BR
theorem D9W (k:Nat) (x0:(List Int)):A0 (I1 k x0) (C9I (A2G k) (A0b k) x0):=by
 show A0 (All.exact_pack.f k x0) _
 unfold All.exact_pack.f;unfold C9I;(try simp only [A2G,A1v,A2C,A0b,All.integer_zero.f,All.exact_stepAt.f,All.S24.f0,All.S24.f1,All.rd_T24,All.z24]);exact BR
theorem A8J (k:Nat):B5 Tryz.prog (A5o (I1 k)):=
 B9 C0 HM A3F (es:=fun k=>B4g (A0b k)) (fun k=>fc ⟨F3Z k,fz⟩) Tryz.func223 3 (by kernel_rfl) (fun s=>rfl) (fun k=>B2w (A2G k) (A1v k) (A2C k)) (fc ⟨fun s=>rfl,fc ⟨fun s=>rfl,fc ⟨fun s=>rfl,fz⟩⟩⟩) (fun k s0=> .cons (by kernel_rfl) (by kernel_rfl) (fun s r h=>(E3t (A2G k) (A1v k) (A2C k) (A0b k) s0 s).trans (F6J k s.1.1 s.1.2.1 s.1.2.2.1 s.2.1 r h)) (.cons (by kernel_rfl) (by kernel_rfl) (fun s r h=>(E6H (A2G k) (A1v k) (A2C k) (A0b k) s0 s).trans (E2C k s.1.1 s.1.2.1 s.1.2.2.1 s.1.2.2.2.1 s.1.2.2.2.2.1 s.1.2.2.2.2.2.1 s.2.1 r h)) (.cons (by kernel_rfl) (by kernel_rfl) (fun s r h=>(F6H (A2G k) (A1v k) (A2C k) (A0b k) s0 s).trans (F0H k s.1.1 s.2.1 r h)) (.nil)))) (F:=fun k s=>I1 k s.1.1) (fun k s r h=>(D9e (A2G k) (A1v k) (A2C k) (A0b k) s).trans (D9W k s.1.1 r h)) k
theorem F3u (k:Nat) (x0:Int):A0 (A7w k x0) (C9G (I1 k) x0):=by
 show A0 (All.exact_NatOf.f k x0) _
 unfold All.exact_NatOf.f;unfold C9G;(try simp only [I1,All.integer_zero.f,All.exact_stepAt.f,All.S24.f0,All.S24.f1,All.rd_T24,All.z24]);exact BR
theorem E5r (k:Nat):B5 Tryz.prog (D8W (A7w k)):=
 B9 C0 HM B8F (es:=fun k=>D3V (I1 k)) (fun k=>fc ⟨A8J k,fz⟩) Tryz.func193 0 (by kernel_rfl) (fun s=>rfl) (fun k=>[]) (fz) (fun k s0=> .nil) (F:=fun k s=>A7w k s.1.1) (fun k s r h=>(E7r (I1 k) s).trans (F3u k s.1.1 r h)) k
theorem F1Z (k:Nat) (x0:Int):A0 (A6U k x0) (C1Y (A7w k) x0):=by
 show A0 (All.exact_IntOf.f k x0) _
 unfold All.exact_IntOf.f;unfold C1Y;(try simp only [A7w,All.integer_zero.f,All.exact_stepAt.f,All.S24.f0,All.S24.f1,All.rd_T24,All.z24]);exact BR
theorem E6v (k:Nat):B5 Tryz.prog (D2x (A6U k)):=
 B9 C0 HM B8Y (es:=fun k=>D4M (A7w k)) (fun k=>fc ⟨E5r k,fz⟩) Tryz.func150 0 (by kernel_rfl) (fun s=>rfl) (fun k=>[]) (fz) (fun k s0=> .nil) (F:=fun k s=>A6U k s.1.1) (fun k s r h=>(E4h (A7w k) s).trans (F1Z k s.1.1 r h)) k
theorem b89 (k:Nat) (x0:Int):A0 (E6 k x0) (B89 (S5 k) (A6U k) x0):=A0.refl _
theorem A7i (k:Nat):B5 Tryz.prog (A5s (E6 k)):=
 B9 C0 HM D89 (es:=fun k=>D4F (S5 k) (A6U k)) (fun k=>fc ⟨C8U k,fc ⟨E6v k,fz⟩⟩) Tryz.func89 0 (by kernel_rfl) (fun s=>rfl) (fun k=>[]) (fz) (fun k s0=> .nil) (F:=fun k s=>E6 k s.1.1) (fun k s r h=>(e89 (S5 k) (A6U k) s).trans (b89 k s.1.1 r h)) k
theorem E3Z (k:Nat) (x0:TQ):A0 (J9 k x0) (C7Z x0):=A0.refl _
theorem B7o (k:Nat):B5 Tryz.prog (B2g (J9 k)):=
 B9 C0 HM B8S (es:=fun k=>[]) (fun k=>fz) Tryz.func152 0 (by kernel_rfl) (fun s=>rfl) (fun k=>[]) (fz) (fun k s0=> .nil) (F:=fun k s=>J9 k s.1.1) (fun k s r h=>(F3H s).trans (E3Z k s.1.1 r h)) k
theorem F2I (k:Nat) (x0:ByteArray):A0 (X7 k x0) (C8c x0):=by
 show A0 (All.natural_Check.f k x0) _
 unfold All.natural_Check.f
 unfold C8c
 (try simp only [All.integer_zero.f,All.exact_stepAt.f,All.S24.f0,All.S24.f1,All.rd_T24,All.z24])
 (try simp only [F5,List.take_append_drop,List.drop_length,List.append_nil,Int.zero_sub,Int.toNat_natCast,Int.reduceToNat,Int.zero_add,List.take_zero,List.nil_append,List.append_assoc,List.length_set,X0,List.take_left,I3,bne,I0,decide_not,I4,if_true,if_false,Bool.false_eq_true,o4,v5,List.drop_zero,List.take_length,I2,G0,m7,C5,ite_not,Bool.and_eq_true,Bool.or_eq_true,Bool.not_eq_true',H7,Bool.not_eq_false',beq_iff_eq,decide_eq_true_eq,I5,H5,H6,ne_eq,H9,List.toList_toArray])
 repeat' first
 | (with_reducible refine A0.trans ((All.natural_Check.mono_l k) _ _) ?_;rw [All.natural_Check.j0];(try simp only [F5,if_true,if_false,decide_eq_true_eq,Bool.false_eq_true,decide_not,ite_not,bne,I0,beq_iff_eq,Bool.not_eq_true',H7,H9,List.toList_toArray,H5,H6,Bool.and_eq_true,Bool.or_eq_true,I5,I4,I2,All.integer_zero.f,G0,Int.toNat_natCast,Int.reduceToNat,Int.zero_sub,I3]))
 | (with_reducible exact A0.none _)
 | (with_reducible exact A0.refl _)
 | (with_reducible refine A0.posR (by with_reducible assumption) ?_)
 | (with_reducible refine A0.negR (by with_reducible assumption) ?_)
 | (with_reducible refine A0.bindR (by with_reducible assumption) ?_)
 | (with_reducible refine A0.posL (by with_reducible assumption) ?_)
 | (with_reducible refine A0.negL (by with_reducible assumption) ?_)
 | (with_reducible refine A0.iteL (fun _=>?_) (fun _=>?_))
 | (with_reducible refine A0.bindK (by with_reducible assumption) ?_)
 | (with_reducible refine A0.bindL (fun _ _=>?_))
 | (refine A0.posR (by first|decide|exact Int.le_refl _|omega|assumption) ?_)
 | (refine A0.negR (by first|decide|omega) ?_)
theorem D7D (k:Nat):B5 Tryz.prog (C0w (X7 k)):=
 B9 C0 HM B9M (es:=fun k=>[]) (fun k=>fz) Tryz.func214 0 (by kernel_rfl) (fun s=>rfl) (fun k=>[]) (fz) (fun k s0=> .nil) (F:=fun k s=>X7 k s.1.1) (fun k s r h=>(E9s s).trans (F2I k s.1.1 r h)) k
theorem E1l (k:Nat):A0 (A6v k) (C3U):=by
 show A0 (All.integer_zero.f) _
 unfold All.integer_zero.f;unfold C3U;(try simp only [All.integer_zero.f,All.exact_stepAt.f,All.S24.f0,All.S24.f1,All.rd_T24,All.z24]);exact BR
theorem F4B (k:Nat):B5 Tryz.prog (D3S (A6v k)):=
 B9 C0 HM B6r (es:=fun k=>[]) (fun k=>fz) Tryz.func243 0 (by kernel_rfl) (fun s=>rfl) (fun k=>[]) (fz) (fun k s0=> .nil) (F:=fun k s=>A6v k) (fun k s r h=>(E4v s).trans (E1l k r h)) k
theorem E3R (k:Nat) (x0:TI):A0 (t5 k x0) (C3h (X7 k) (A6v k) x0):=by
 show A0 (All.integer_Check.f k x0.1 x0.2) _
 unfold All.integer_Check.f;unfold C3h;(try simp only [X7,A6v,All.integer_zero.f,All.exact_stepAt.f,All.S24.f0,All.S24.f1,All.rd_T24,All.z24]);exact BR
theorem E7P (k:Nat):B5 Tryz.prog (D1D (t5 k)):=
 B9 C0 HM B7K (es:=fun k=>D0Q (X7 k) (A6v k)) (fun k=>fc ⟨D7D k,fc ⟨F4B k,fz⟩⟩) Tryz.func213 0 (by kernel_rfl) (fun s=>rfl) (fun k=>[]) (fz) (fun k s0=> .nil) (F:=fun k s=>t5 k s.1.1) (fun k s r h=>(E6V (X7 k) (A6v k) s).trans (E3R k s.1.1 r h)) k
theorem C0K (k:Nat):B5 Tryz.prog (B8J (M7 k)):=
 B9 C0 HM A9w (es:=fun k=>[]) (fun k=>fz) Tryz.func245 1 (by kernel_rfl) (fun s=>rfl) (fun k=>C0O (A8s k)) (fc ⟨fun s=>rfl,fz⟩) (fun k s0=> .cons (by kernel_rfl) (by kernel_rfl) (fun s r h=>(F3i (A8s k) s0 s).trans (E4l k s.1.1 s.2.1 r h)) (.nil)) (F:=fun k s=>M7 k s.2.1) (fun k s r h=>(E8b (A8s k) s).trans (E4w k s.2.1 r h)) k
noncomputable abbrev A8o (k:Nat) (x0:ByteArray) (x12:Int) (x13:Int) (x3:(List Int)):Option V7:=All.exact_words.l0 k x0 x3 x12 x13
theorem F1X (k:Nat) (x0:ByteArray) (x12:Int) (x13:Int) (x3:(List Int)):A0 (All.exact_words.l0 (k+1) x0 x3 x12 x13) (C9D (A8o k) (M7 k) x0 x12 x13 x3):=by rw [All.exact_words.l0];unfold C9D;(try simp only [A8o,M7,All.integer_zero.f,All.exact_stepAt.f,All.S24.f0,All.S24.f1,All.rd_T24,All.z24]);exact BR
theorem F1c (k:Nat) (x0:ByteArray):A0 (K2 k x0) (C0m (A8o k) x0):=by
 show A0 (All.exact_words.f k x0) _
 unfold All.exact_words.f;unfold C0m;(try simp only [A8o,M7,All.integer_zero.f,All.exact_stepAt.f,All.S24.f0,All.S24.f1,All.rd_T24,All.z24]);exact BR
theorem B0b (k:Nat):B5 Tryz.prog (A6y (K2 k)):=
 B9 C0 HM B0z (es:=fun k=>C3m (M7 k)) (fun k=>fc ⟨C0K k,fz⟩) Tryz.func225 1 (by kernel_rfl) (fun s=>rfl) (fun k=>C1C (A8o k)) (fc ⟨fun s=>rfl,fz⟩) (fun k s0=> .cons (by kernel_rfl) (by kernel_rfl) (fun s r h=>(F0d (A8o k) (M7 k) s0 s).trans (F1X k s.1.1 s.1.2.1 s.1.2.2.1 s.2.1 r h)) (.nil)) (F:=fun k s=>K2 k s.1.1) (fun k s r h=>(E3S (A8o k) (M7 k) s).trans (F1c k s.1.1 r h)) k
noncomputable abbrev A6u (k:Nat) (x0:(List Int)) (x1:(List Int)) (x5:Int):Option A1s:=All.exact_compareWords.l0 k x0 x1 x5
theorem F0R (k:Nat) (x0:(List Int)) (x1:(List Int)) (x5:Int):A0 (All.exact_compareWords.l0 (k+1) x0 x1 x5) (C6W (A6u k) x0 x1 x5):=by rw [All.exact_compareWords.l0];unfold C6W;(try simp only [A6u,All.integer_zero.f,All.exact_stepAt.f,All.S24.f0,All.S24.f1,All.rd_T24,All.z24]);exact BR
theorem E3P (k:Nat) (x0:(List Int)) (x1:(List Int)):A0 (A0t k x0 x1) (C8b (A6u k) x0 x1):=by
 show A0 (All.exact_compareWords.f k x0 x1) _
 unfold All.exact_compareWords.f;unfold C8b;(try simp only [A6u,All.integer_zero.f,All.exact_stepAt.f,All.S24.f0,All.S24.f1,All.rd_T24,All.z24]);exact BR
theorem E1d (k:Nat):B5 Tryz.prog (D0s (A0t k)):=
 B9 C0 HM B1x (es:=fun k=>[]) (fun k=>fz) Tryz.func276 1 (by kernel_rfl) (fun s=>rfl) (fun k=>C3Z (A6u k)) (fc ⟨fun s=>rfl,fz⟩) (fun k s0=> .cons (by kernel_rfl) (by kernel_rfl) (fun s r h=>(E1S (A6u k) s0 s).trans (F0R k s.1.1 s.1.2.1 s.1.2.2.1 r h)) (.nil)) (F:=fun k s=>A0t k s.1.1 s.1.2.1) (fun k s r h=>(F3S (A6u k) s).trans (E3P k s.1.1 s.1.2.1 r h)) k
theorem E9F (k:Nat) (x0:Int):A0 (V2 k x0) (C7h (B4r k) x0):=by
 show A0 (All.bits_LeadingZeros64.f x0) _
 unfold All.bits_LeadingZeros64.f;unfold C7h;(try simp only [B4r,All.integer_zero.f,All.exact_stepAt.f,All.S24.f0,All.S24.f1,All.rd_T24,All.z24]);exact BR
theorem D3D (k:Nat):B5 Tryz.prog (C0t (V2 k)):=
 B9 C0 HM B6I (es:=fun k=>D2a (B4r k)) (fun k=>fc ⟨E5S k,fz⟩) Tryz.func278 0 (by kernel_rfl) (fun s=>rfl) (fun k=>[]) (fz) (fun k s0=> .nil) (F:=fun k s=>V2 k s.1.1) (fun k s r h=>(E1V (B4r k) s).trans (E9F k s.1.1 r h)) k
noncomputable abbrev A5A (k:Nat) (x2:Int) (x8:Int) (x9:Int) (x10:Int) (x11:Int) (x13:Int) (x14:Int) (x15:Int) (x16:Int):Option f6:=All.bits_Div64.l0 k x2 x8 x9 x10 x11 x13 x14 x15 x16
noncomputable abbrev A4e (k:Nat) (x2:Int) (x8:Int) (x9:Int) (x10:Int) (x14:Int) (x15:Int) (x16:Int) (x17:Int) (x18:Int):Option f6:=All.bits_Div64.l1 k x2 x8 x9 x10 x14 x15 x16 x17 x18
theorem E1h (k:Nat) (x2:Int) (x8:Int) (x9:Int) (x10:Int) (x11:Int) (x13:Int) (x14:Int) (x15:Int) (x16:Int):A0 (All.bits_Div64.l0 (k+1) x2 x8 x9 x10 x11 x13 x14 x15 x16) (C8Q (A5A k) (A4e k) x2 x8 x9 x10 x11 x13 x14 x15 x16):=by
 rw [All.bits_Div64.l0]
 unfold C8Q
 (try simp only [A5A,A4e,V2,All.integer_zero.f,All.exact_stepAt.f,All.S24.f0,All.S24.f1,All.rd_T24,All.z24])
 (try simp only [F5,List.take_append_drop,List.drop_length,List.append_nil,Int.zero_sub,Int.toNat_natCast,Int.reduceToNat,Int.zero_add,List.take_zero,List.nil_append,List.append_assoc,List.length_set,X0,List.take_left,I3,bne,I0,decide_not,I4,if_true,if_false,Bool.false_eq_true,o4,v5,List.drop_zero,List.take_length,I2,G0,m7,C5,ite_not,Bool.and_eq_true,Bool.or_eq_true,Bool.not_eq_true',H7,Bool.not_eq_false',beq_iff_eq,decide_eq_true_eq,I5,H5,H6,ne_eq,H9,List.toList_toArray])
 repeat' first
 | (with_reducible refine A0.trans ((All.bits_Div64.mono_l k).2.2.2.2 _ _ _ _ _ _ _ _ _ _) ?_;rw [All.bits_Div64.j1];(try simp only [F5,if_true,if_false,decide_eq_true_eq,Bool.false_eq_true,decide_not,ite_not,bne,I0,beq_iff_eq,Bool.not_eq_true',H7,H9,List.toList_toArray,H5,H6,Bool.and_eq_true,Bool.or_eq_true,I5,I4,I2,All.integer_zero.f,G0,Int.toNat_natCast,Int.reduceToNat,Int.zero_sub,I3]))
 | (with_reducible refine A0.trans ((All.bits_Div64.mono_l k).1 _ _ _ _ _ _ _ _) ?_;rw [All.bits_Div64.j2];(try simp only [F5,if_true,if_false,decide_eq_true_eq,Bool.false_eq_true,decide_not,ite_not,bne,I0,beq_iff_eq,Bool.not_eq_true',H7,H9,List.toList_toArray,H5,H6,Bool.and_eq_true,Bool.or_eq_true,I5,I4,I2,All.integer_zero.f,G0,Int.toNat_natCast,Int.reduceToNat,Int.zero_sub,I3]))
 | (with_reducible refine A0.trans ((All.bits_Div64.mono_l k).2.2.1 _ _ _ _ _ _ _ _ _ _) ?_;rw [All.bits_Div64.j4];(try simp only [F5,if_true,if_false,decide_eq_true_eq,Bool.false_eq_true,decide_not,ite_not,bne,I0,beq_iff_eq,Bool.not_eq_true',H7,H9,List.toList_toArray,H5,H6,Bool.and_eq_true,Bool.or_eq_true,I5,I4,I2,All.integer_zero.f,G0,Int.toNat_natCast,Int.reduceToNat,Int.zero_sub,I3]))
 | (with_reducible exact A0.none _)
 | (with_reducible exact A0.refl _)
 | (with_reducible refine A0.posR (by with_reducible assumption) ?_)
 | (with_reducible refine A0.negR (by with_reducible assumption) ?_)
 | (with_reducible refine A0.bindR (by with_reducible assumption) ?_)
 | (with_reducible refine A0.posL (by with_reducible assumption) ?_)
 | (with_reducible refine A0.negL (by with_reducible assumption) ?_)
 | (with_reducible refine A0.iteL (fun _=>?_) (fun _=>?_))
 | (with_reducible refine A0.bindK (by with_reducible assumption) ?_)
 | (with_reducible refine A0.bindL (fun _ _=>?_))
 | (refine A0.posR (by first|decide|exact Int.le_refl _|omega|assumption) ?_)
 | (refine A0.negR (by first|decide|omega) ?_)
theorem E4p (k:Nat) (x2:Int) (x8:Int) (x9:Int) (x10:Int) (x14:Int) (x15:Int) (x16:Int) (x17:Int) (x18:Int):A0 (All.bits_Div64.l1 (k+1) x2 x8 x9 x10 x14 x15 x16 x17 x18) (C7u (A4e k) x2 x8 x9 x10 x14 x15 x16 x17 x18):=by
 rw [All.bits_Div64.l1]
 unfold C7u
 (try simp only [A5A,A4e,V2,All.integer_zero.f,All.exact_stepAt.f,All.S24.f0,All.S24.f1,All.rd_T24,All.z24])
 (try simp only [F5,List.take_append_drop,List.drop_length,List.append_nil,Int.zero_sub,Int.toNat_natCast,Int.reduceToNat,Int.zero_add,List.take_zero,List.nil_append,List.append_assoc,List.length_set,X0,List.take_left,I3,bne,I0,decide_not,I4,if_true,if_false,Bool.false_eq_true,o4,v5,List.drop_zero,List.take_length,I2,G0,m7,C5,ite_not,Bool.and_eq_true,Bool.or_eq_true,Bool.not_eq_true',H7,Bool.not_eq_false',beq_iff_eq,decide_eq_true_eq,I5,H5,H6,ne_eq,H9,List.toList_toArray])
 repeat' first
 | (with_reducible refine A0.trans ((All.bits_Div64.mono_l k).2.2.2.2 _ _ _ _ _ _ _ _ _ _) ?_;rw [All.bits_Div64.j1];(try simp only [F5,if_true,if_false,decide_eq_true_eq,Bool.false_eq_true,decide_not,ite_not,bne,I0,beq_iff_eq,Bool.not_eq_true',H7,H9,List.toList_toArray,H5,H6,Bool.and_eq_true,Bool.or_eq_true,I5,I4,I2,All.integer_zero.f,G0,Int.toNat_natCast,Int.reduceToNat,Int.zero_sub,I3]))
 | (with_reducible refine A0.trans ((All.bits_Div64.mono_l k).1 _ _ _ _ _ _ _ _) ?_;rw [All.bits_Div64.j2];(try simp only [F5,if_true,if_false,decide_eq_true_eq,Bool.false_eq_true,decide_not,ite_not,bne,I0,beq_iff_eq,Bool.not_eq_true',H7,H9,List.toList_toArray,H5,H6,Bool.and_eq_true,Bool.or_eq_true,I5,I4,I2,All.integer_zero.f,G0,Int.toNat_natCast,Int.reduceToNat,Int.zero_sub,I3]))
 | (with_reducible refine A0.trans ((All.bits_Div64.mono_l k).2.2.1 _ _ _ _ _ _ _ _ _ _) ?_;rw [All.bits_Div64.j4];(try simp only [F5,if_true,if_false,decide_eq_true_eq,Bool.false_eq_true,decide_not,ite_not,bne,I0,beq_iff_eq,Bool.not_eq_true',H7,H9,List.toList_toArray,H5,H6,Bool.and_eq_true,Bool.or_eq_true,I5,I4,I2,All.integer_zero.f,G0,Int.toNat_natCast,Int.reduceToNat,Int.zero_sub,I3]))
 | (with_reducible exact A0.none _)
 | (with_reducible exact A0.refl _)
 | (with_reducible refine A0.posR (by with_reducible assumption) ?_)
 | (with_reducible refine A0.negR (by with_reducible assumption) ?_)
 | (with_reducible refine A0.bindR (by with_reducible assumption) ?_)
 | (with_reducible refine A0.posL (by with_reducible assumption) ?_)
 | (with_reducible refine A0.negL (by with_reducible assumption) ?_)
 | (with_reducible refine A0.iteL (fun _=>?_) (fun _=>?_))
 | (with_reducible refine A0.bindK (by with_reducible assumption) ?_)
 | (with_reducible refine A0.bindL (fun _ _=>?_))
 | (refine A0.posR (by first|decide|exact Int.le_refl _|omega|assumption) ?_)
 | (refine A0.negR (by first|decide|omega) ?_)
theorem E0a (k:Nat) (x0:Int) (x1:Int) (x2:Int):A0 (S0 k x0 x1 x2) (C6N (A5A k) (V2 k) x0 x1 x2):=by
 show A0 (All.bits_Div64.f k x0 x1 x2) _
 unfold All.bits_Div64.f
 unfold C6N
 (try simp only [A5A,A4e,V2,All.integer_zero.f,All.exact_stepAt.f,All.S24.f0,All.S24.f1,All.rd_T24,All.z24])
 (try simp only [F5,List.take_append_drop,List.drop_length,List.append_nil,Int.zero_sub,Int.toNat_natCast,Int.reduceToNat,Int.zero_add,List.take_zero,List.nil_append,List.append_assoc,List.length_set,X0,List.take_left,I3,bne,I0,decide_not,I4,if_true,if_false,Bool.false_eq_true,o4,v5,List.drop_zero,List.take_length,I2,G0,m7,C5,ite_not,Bool.and_eq_true,Bool.or_eq_true,Bool.not_eq_true',H7,Bool.not_eq_false',beq_iff_eq,decide_eq_true_eq,I5,H5,H6,ne_eq,H9,List.toList_toArray])
 repeat' first
 | (with_reducible refine A0.trans ((All.bits_Div64.mono_l k).2.2.2.2 _ _ _ _ _ _ _ _ _ _) ?_;rw [All.bits_Div64.j1];(try simp only [F5,if_true,if_false,decide_eq_true_eq,Bool.false_eq_true,decide_not,ite_not,bne,I0,beq_iff_eq,Bool.not_eq_true',H7,H9,List.toList_toArray,H5,H6,Bool.and_eq_true,Bool.or_eq_true,I5,I4,I2,All.integer_zero.f,G0,Int.toNat_natCast,Int.reduceToNat,Int.zero_sub,I3]))
 | (with_reducible refine A0.trans ((All.bits_Div64.mono_l k).1 _ _ _ _ _ _ _ _) ?_;rw [All.bits_Div64.j2];(try simp only [F5,if_true,if_false,decide_eq_true_eq,Bool.false_eq_true,decide_not,ite_not,bne,I0,beq_iff_eq,Bool.not_eq_true',H7,H9,List.toList_toArray,H5,H6,Bool.and_eq_true,Bool.or_eq_true,I5,I4,I2,All.integer_zero.f,G0,Int.toNat_natCast,Int.reduceToNat,Int.zero_sub,I3]))
 | (with_reducible refine A0.trans ((All.bits_Div64.mono_l k).2.2.1 _ _ _ _ _ _ _ _ _ _) ?_;rw [All.bits_Div64.j4];(try simp only [F5,if_true,if_false,decide_eq_true_eq,Bool.false_eq_true,decide_not,ite_not,bne,I0,beq_iff_eq,Bool.not_eq_true',H7,H9,List.toList_toArray,H5,H6,Bool.and_eq_true,Bool.or_eq_true,I5,I4,I2,All.integer_zero.f,G0,Int.toNat_natCast,Int.reduceToNat,Int.zero_sub,I3]))
 | (with_reducible exact A0.none _)
 | (with_reducible exact A0.refl _)
 | (with_reducible refine A0.posR (by with_reducible assumption) ?_)
 | (with_reducible refine A0.negR (by with_reducible assumption) ?_)
 | (with_reducible refine A0.bindR (by with_reducible assumption) ?_)
 | (with_reducible refine A0.posL (by with_reducible assumption) ?_)
 | (with_reducible refine A0.negL (by with_reducible assumption) ?_)
 | (with_reducible refine A0.iteL (fun _=>?_) (fun _=>?_))
 | (with_reducible refine A0.bindK (by with_reducible assumption) ?_)
 | (with_reducible refine A0.bindL (fun _ _=>?_))
 | (refine A0.posR (by first|decide|exact Int.le_refl _|omega|assumption) ?_)
 | (refine A0.negR (by first|decide|omega) ?_)
theorem D5g (k:Nat):B5 Tryz.prog (C2K (S0 k)):=
 B9 C0 HM A6l (es:=fun k=>C0C (V2 k)) (fun k=>fc ⟨D3D k,fz⟩) Tryz.func277 2 (by kernel_rfl) (fun s=>rfl) (fun k=>B6S (A5A k) (A4e k)) (fc ⟨fun s=>rfl,fc ⟨fun s=>rfl,fz⟩⟩) (fun k s0=> .cons (by kernel_rfl) (by kernel_rfl) (fun s r h=>(E6s (A5A k) (A4e k) (V2 k) s0 s).trans (E1h k s.1.1 s.1.2.1 s.1.2.2.1 s.1.2.2.2.1 s.1.2.2.2.2.1 s.1.2.2.2.2.2.1 s.1.2.2.2.2.2.2.1 s.1.2.2.2.2.2.2.2.1 s.1.2.2.2.2.2.2.2.2.1 r h)) (.cons (by kernel_rfl) (by kernel_rfl) (fun s r h=>(E5d (A5A k) (A4e k) (V2 k) s0 s).trans (E4p k s.1.1 s.1.2.1 s.1.2.2.1 s.1.2.2.2.1 s.1.2.2.2.2.1 s.1.2.2.2.2.2.1 s.1.2.2.2.2.2.2.1 s.1.2.2.2.2.2.2.2.1 s.1.2.2.2.2.2.2.2.2.1 r h)) (.nil))) (F:=fun k s=>S0 k s.1.1 s.1.2.1 s.1.2.2.1) (fun k s r h=>(E0m (A5A k) (A4e k) (V2 k) s).trans (E0a k s.1.1 s.1.2.1 s.1.2.2.1 r h)) k
noncomputable abbrev A7o (k:Nat) (x1:Int) (x12:(List Int)) (x13:Int) (x14:Int) (x5:(List Int)):Option A2U:=All.exact_shiftUp.l0 k x1 x5 x12 x13 x14
theorem F2C (k:Nat) (x1:Int) (x12:(List Int)) (x13:Int) (x14:Int) (x5:(List Int)):A0 (All.exact_shiftUp.l0 (k+1) x1 x5 x12 x13 x14) (C3d (A7o k) x1 x12 x13 x14 x5):=by rw [All.exact_shiftUp.l0];unfold C3d;(try simp only [A7o,All.integer_zero.f,All.exact_stepAt.f,All.S24.f0,All.S24.f1,All.rd_T24,All.z24]);exact BR
theorem F4t (k:Nat) (x0:(List Int)) (x1:Int):A0 (A0r k x0 x1) (C6F (A7o k) x0 x1):=by
 show A0 (All.exact_shiftUp.f k x0 x1) _
 unfold All.exact_shiftUp.f;unfold C6F;(try simp only [A7o,All.integer_zero.f,All.exact_stepAt.f,All.S24.f0,All.S24.f1,All.rd_T24,All.z24]);exact BR
theorem E9P (k:Nat):B5 Tryz.prog (D3M (A0r k)):=
 B9 C0 HM A9J (es:=fun k=>[]) (fun k=>fz) Tryz.func279 1 (by kernel_rfl) (fun s=>rfl) (fun k=>C1w (A7o k)) (fc ⟨fun s=>rfl,fz⟩) (fun k s0=> .cons (by kernel_rfl) (by kernel_rfl) (fun s r h=>(F3M (A7o k) s0 s).trans (F2C k s.1.1 s.1.2.1 s.1.2.2.1 s.1.2.2.2.1 s.2.1 r h)) (.nil)) (F:=fun k s=>A0r k s.1.1 s.1.2.1) (fun k s r h=>(F5r (A7o k) s).trans (F4t k s.1.1 s.1.2.1 r h)) k
theorem F5I (k:Nat) (x0:Int) (x1:Int):A0 (T3 k x0 x1) (C0M x0 x1):=by
 show A0 (All.bits_Mul64.f x0 x1) _
 unfold All.bits_Mul64.f;unfold C0M;(try simp only [All.integer_zero.f,All.exact_stepAt.f,All.S24.f0,All.S24.f1,All.rd_T24,All.z24]);exact BR
theorem D3a (k:Nat):B5 Tryz.prog (C4i (T3 k)):=
 B9 C0 HM B7l (es:=fun k=>[]) (fun k=>fz) Tryz.func246 0 (by kernel_rfl) (fun s=>rfl) (fun k=>[]) (fz) (fun k s0=> .nil) (F:=fun k s=>T3 k s.1.1 s.1.2.1) (fun k s r h=>(E2A s).trans (F5I k s.1.1 s.1.2.1 r h)) k
noncomputable abbrev A2l (k:Nat) (x1:(List Int)) (x5:Int) (x6:Int) (x7:Int) (x8:Int) (y0:(List Int)):Option X6:=All.exact_step.l0 k y0 x1 x5 x6 x7 x8
noncomputable abbrev A1p (k:Nat) (x1:(List Int)) (x5:Int) (x6:Int) (x11:Int) (x12:Int) (x104:Int) (x105:Int) (y0:(List Int)):Option X6:=All.exact_step.l1 k y0 x1 x5 x6 x11 x12 x104 x105
noncomputable abbrev A2Z (k:Nat) (x1:(List Int)) (x5:Int) (x6:Int) (x17:Int) (x156:Int) (x157:Int) (y0:(List Int)):Option X6:=All.exact_step.l2 k y0 x1 x5 x6 x17 x156 x157
theorem F3A (k:Nat) (x1:(List Int)) (x5:Int) (x6:Int) (x7:Int) (x8:Int) (y0:(List Int)):A0 (All.exact_step.l0 (k+1) y0 x1 x5 x6 x7 x8) (C9Y (A2l k) (A1p k) (T3 k) (N5 k) x1 x5 x6 x7 x8 y0):=by
 rw [All.exact_step.l0]
 unfold C9Y
 (try simp only [A2l,A1p,A2Z,T3,N5,b9,S0,All.integer_zero.f,All.exact_stepAt.f,All.S24.f0,All.S24.f1,All.rd_T24,All.z24])
 (try simp only [F5,List.take_append_drop,List.drop_length,List.append_nil,Int.zero_sub,Int.toNat_natCast,Int.reduceToNat,Int.zero_add,List.take_zero,List.nil_append,List.append_assoc,List.length_set,X0,List.take_left,I3,bne,I0,decide_not,I4,if_true,if_false,Bool.false_eq_true,o4,v5,List.drop_zero,List.take_length,I2,G0,m7,C5,ite_not,Bool.and_eq_true,Bool.or_eq_true,Bool.not_eq_true',H7,Bool.not_eq_false',beq_iff_eq,decide_eq_true_eq,I5,H5,H6,ne_eq,H9,List.toList_toArray])
 repeat' first
 | (with_reducible refine A0.trans ((All.exact_step.mono_l k).1 _ _ _ _ _ _) ?_;rw [All.exact_step.j0];(try simp only [F5,if_true,if_false,decide_eq_true_eq,Bool.false_eq_true,decide_not,ite_not,bne,I0,beq_iff_eq,Bool.not_eq_true',H7,H9,List.toList_toArray,H5,H6,Bool.and_eq_true,Bool.or_eq_true,I5,I4,I2,All.integer_zero.f,G0,Int.toNat_natCast,Int.reduceToNat,Int.zero_sub,I3]))
 | (with_reducible refine A0.trans ((All.exact_step.mono_l k).2.1 _ _ _ _) ?_;rw [All.exact_step.j2];(try simp only [F5,if_true,if_false,decide_eq_true_eq,Bool.false_eq_true,decide_not,ite_not,bne,I0,beq_iff_eq,Bool.not_eq_true',H7,H9,List.toList_toArray,H5,H6,Bool.and_eq_true,Bool.or_eq_true,I5,I4,I2,All.integer_zero.f,G0,Int.toNat_natCast,Int.reduceToNat,Int.zero_sub,I3]))
 | (with_reducible exact A0.none _)
 | (with_reducible exact A0.refl _)
 | (with_reducible refine A0.posR (by with_reducible assumption) ?_)
 | (with_reducible refine A0.negR (by with_reducible assumption) ?_)
 | (with_reducible refine A0.bindR (by with_reducible assumption) ?_)
 | (with_reducible refine A0.posL (by with_reducible assumption) ?_)
 | (with_reducible refine A0.negL (by with_reducible assumption) ?_)
 | (with_reducible refine A0.iteL (fun _=>?_) (fun _=>?_))
 | (with_reducible refine A0.bindK (by with_reducible assumption) ?_)
 | (with_reducible refine A0.bindL (fun _ _=>?_))
 | (refine A0.posR (by first|decide|exact Int.le_refl _|omega|assumption) ?_)
 | (refine A0.negR (by first|decide|omega) ?_)
theorem E3w (k:Nat) (x1:(List Int)) (x5:Int) (x6:Int) (x11:Int) (x12:Int) (x104:Int) (x105:Int) (y0:(List Int)):A0 (All.exact_step.l1 (k+1) y0 x1 x5 x6 x11 x12 x104 x105) (C4Y (A1p k) (A2Z k) (T3 k) (N5 k) (b9 k) x1 x5 x6 x11 x12 x104 x105 y0):=by
 rw [All.exact_step.l1]
 unfold C4Y
 (try simp only [A2l,A1p,A2Z,T3,N5,b9,S0,All.integer_zero.f,All.exact_stepAt.f,All.S24.f0,All.S24.f1,All.rd_T24,All.z24])
 (try simp only [F5,List.take_append_drop,List.drop_length,List.append_nil,Int.zero_sub,Int.toNat_natCast,Int.reduceToNat,Int.zero_add,List.take_zero,List.nil_append,List.append_assoc,List.length_set,X0,List.take_left,I3,bne,I0,decide_not,I4,if_true,if_false,Bool.false_eq_true,o4,v5,List.drop_zero,List.take_length,I2,G0,m7,C5,ite_not,Bool.and_eq_true,Bool.or_eq_true,Bool.not_eq_true',H7,Bool.not_eq_false',beq_iff_eq,decide_eq_true_eq,I5,H5,H6,ne_eq,H9,List.toList_toArray])
 repeat' first
 | (with_reducible refine A0.trans ((All.exact_step.mono_l k).1 _ _ _ _ _ _) ?_;rw [All.exact_step.j0];(try simp only [F5,if_true,if_false,decide_eq_true_eq,Bool.false_eq_true,decide_not,ite_not,bne,I0,beq_iff_eq,Bool.not_eq_true',H7,H9,List.toList_toArray,H5,H6,Bool.and_eq_true,Bool.or_eq_true,I5,I4,I2,All.integer_zero.f,G0,Int.toNat_natCast,Int.reduceToNat,Int.zero_sub,I3]))
 | (with_reducible refine A0.trans ((All.exact_step.mono_l k).2.1 _ _ _ _) ?_;rw [All.exact_step.j2];(try simp only [F5,if_true,if_false,decide_eq_true_eq,Bool.false_eq_true,decide_not,ite_not,bne,I0,beq_iff_eq,Bool.not_eq_true',H7,H9,List.toList_toArray,H5,H6,Bool.and_eq_true,Bool.or_eq_true,I5,I4,I2,All.integer_zero.f,G0,Int.toNat_natCast,Int.reduceToNat,Int.zero_sub,I3]))
 | (with_reducible exact A0.none _)
 | (with_reducible exact A0.refl _)
 | (with_reducible refine A0.posR (by with_reducible assumption) ?_)
 | (with_reducible refine A0.negR (by with_reducible assumption) ?_)
 | (with_reducible refine A0.bindR (by with_reducible assumption) ?_)
 | (with_reducible refine A0.posL (by with_reducible assumption) ?_)
 | (with_reducible refine A0.negL (by with_reducible assumption) ?_)
 | (with_reducible refine A0.iteL (fun _=>?_) (fun _=>?_))
 | (with_reducible refine A0.bindK (by with_reducible assumption) ?_)
 | (with_reducible refine A0.bindL (fun _ _=>?_))
 | (refine A0.posR (by first|decide|exact Int.le_refl _|omega|assumption) ?_)
 | (refine A0.negR (by first|decide|omega) ?_)
theorem F5j (k:Nat) (x1:(List Int)) (x5:Int) (x6:Int) (x17:Int) (x156:Int) (x157:Int) (y0:(List Int)):A0 (All.exact_step.l2 (k+1) y0 x1 x5 x6 x17 x156 x157) (C9O (A2Z k) (N5 k) x1 x5 x6 x17 x156 x157 y0):=by
 rw [All.exact_step.l2]
 unfold C9O
 (try simp only [A2l,A1p,A2Z,T3,N5,b9,S0,All.integer_zero.f,All.exact_stepAt.f,All.S24.f0,All.S24.f1,All.rd_T24,All.z24])
 (try simp only [F5,List.take_append_drop,List.drop_length,List.append_nil,Int.zero_sub,Int.toNat_natCast,Int.reduceToNat,Int.zero_add,List.take_zero,List.nil_append,List.append_assoc,List.length_set,X0,List.take_left,I3,bne,I0,decide_not,I4,if_true,if_false,Bool.false_eq_true,o4,v5,List.drop_zero,List.take_length,I2,G0,m7,C5,ite_not,Bool.and_eq_true,Bool.or_eq_true,Bool.not_eq_true',H7,Bool.not_eq_false',beq_iff_eq,decide_eq_true_eq,I5,H5,H6,ne_eq,H9,List.toList_toArray])
 repeat' first
 | (with_reducible refine A0.trans ((All.exact_step.mono_l k).1 _ _ _ _ _ _) ?_;rw [All.exact_step.j0];(try simp only [F5,if_true,if_false,decide_eq_true_eq,Bool.false_eq_true,decide_not,ite_not,bne,I0,beq_iff_eq,Bool.not_eq_true',H7,H9,List.toList_toArray,H5,H6,Bool.and_eq_true,Bool.or_eq_true,I5,I4,I2,All.integer_zero.f,G0,Int.toNat_natCast,Int.reduceToNat,Int.zero_sub,I3]))
 | (with_reducible refine A0.trans ((All.exact_step.mono_l k).2.1 _ _ _ _) ?_;rw [All.exact_step.j2];(try simp only [F5,if_true,if_false,decide_eq_true_eq,Bool.false_eq_true,decide_not,ite_not,bne,I0,beq_iff_eq,Bool.not_eq_true',H7,H9,List.toList_toArray,H5,H6,Bool.and_eq_true,Bool.or_eq_true,I5,I4,I2,All.integer_zero.f,G0,Int.toNat_natCast,Int.reduceToNat,Int.zero_sub,I3]))
 | (with_reducible exact A0.none _)
 | (with_reducible exact A0.refl _)
 | (with_reducible refine A0.posR (by with_reducible assumption) ?_)
 | (with_reducible refine A0.negR (by with_reducible assumption) ?_)
 | (with_reducible refine A0.bindR (by with_reducible assumption) ?_)
 | (with_reducible refine A0.posL (by with_reducible assumption) ?_)
 | (with_reducible refine A0.negL (by with_reducible assumption) ?_)
 | (with_reducible refine A0.iteL (fun _=>?_) (fun _=>?_))
 | (with_reducible refine A0.bindK (by with_reducible assumption) ?_)
 | (with_reducible refine A0.bindL (fun _ _=>?_))
 | (refine A0.posR (by first|decide|exact Int.le_refl _|omega|assumption) ?_)
 | (refine A0.negR (by first|decide|omega) ?_)
theorem E0A (k:Nat) (x1:(List Int)) (y0:(List Int)):A0 (A0O k x1 y0) (C0c (A2l k) (N5 k) (S0 k) x1 y0):=by
 show A0 (All.exact_step.f k y0 x1) _
 unfold All.exact_step.f
 unfold C0c
 (try simp only [A2l,A1p,A2Z,T3,N5,b9,S0,All.integer_zero.f,All.exact_stepAt.f,All.S24.f0,All.S24.f1,All.rd_T24,All.z24])
 (try simp only [F5,List.take_append_drop,List.drop_length,List.append_nil,Int.zero_sub,Int.toNat_natCast,Int.reduceToNat,Int.zero_add,List.take_zero,List.nil_append,List.append_assoc,List.length_set,X0,List.take_left,I3,bne,I0,decide_not,I4,if_true,if_false,Bool.false_eq_true,o4,v5,List.drop_zero,List.take_length,I2,G0,m7,C5,ite_not,Bool.and_eq_true,Bool.or_eq_true,Bool.not_eq_true',H7,Bool.not_eq_false',beq_iff_eq,decide_eq_true_eq,I5,H5,H6,ne_eq,H9,List.toList_toArray])
 repeat' first
 | (with_reducible refine A0.trans ((All.exact_step.mono_l k).1 _ _ _ _ _ _) ?_;rw [All.exact_step.j0];(try simp only [F5,if_true,if_false,decide_eq_true_eq,Bool.false_eq_true,decide_not,ite_not,bne,I0,beq_iff_eq,Bool.not_eq_true',H7,H9,List.toList_toArray,H5,H6,Bool.and_eq_true,Bool.or_eq_true,I5,I4,I2,All.integer_zero.f,G0,Int.toNat_natCast,Int.reduceToNat,Int.zero_sub,I3]))
 | (with_reducible refine A0.trans ((All.exact_step.mono_l k).2.1 _ _ _ _) ?_;rw [All.exact_step.j2];(try simp only [F5,if_true,if_false,decide_eq_true_eq,Bool.false_eq_true,decide_not,ite_not,bne,I0,beq_iff_eq,Bool.not_eq_true',H7,H9,List.toList_toArray,H5,H6,Bool.and_eq_true,Bool.or_eq_true,I5,I4,I2,All.integer_zero.f,G0,Int.toNat_natCast,Int.reduceToNat,Int.zero_sub,I3]))
 | (with_reducible exact A0.none _)
 | (with_reducible exact A0.refl _)
 | (with_reducible refine A0.posR (by with_reducible assumption) ?_)
 | (with_reducible refine A0.negR (by with_reducible assumption) ?_)
 | (with_reducible refine A0.bindR (by with_reducible assumption) ?_)
 | (with_reducible refine A0.posL (by with_reducible assumption) ?_)
 | (with_reducible refine A0.negL (by with_reducible assumption) ?_)
 | (with_reducible refine A0.iteL (fun _=>?_) (fun _=>?_))
 | (with_reducible refine A0.bindK (by with_reducible assumption) ?_)
 | (with_reducible refine A0.bindL (fun _ _=>?_))
 | (refine A0.posR (by first|decide|exact Int.le_refl _|omega|assumption) ?_)
 | (refine A0.negR (by first|decide|omega) ?_)
theorem E7v (k:Nat):B5 Tryz.prog (D5B (A0O k)):=
 B9 C0 HM A4E (es:=fun k=>B2Q (T3 k) (N5 k) (b9 k) (S0 k)) (fun k=>fc ⟨D3a k,fc ⟨C1j k,fc ⟨D6j k,fc ⟨D5g k,fz⟩⟩⟩⟩) Tryz.func280 3 (by kernel_rfl) (fun s=>rfl) (fun k=>B4F (A2l k) (A1p k) (A2Z k)) (fc ⟨fun s=>rfl,fc ⟨fun s=>rfl,fc ⟨fun s=>rfl,fz⟩⟩⟩) (fun k s0=> .cons (by kernel_rfl) (by kernel_rfl) (fun s r h=>(F2u (A2l k) (A1p k) (A2Z k) (T3 k) (N5 k) (b9 k) (S0 k) s0 s).trans (F3A k s.1.1 s.1.2.1 s.1.2.2.1 s.1.2.2.2.1 s.1.2.2.2.2.1 s.2.1 r h)) (.cons (by kernel_rfl) (by kernel_rfl) (fun s r h=>(F2S (A2l k) (A1p k) (A2Z k) (T3 k) (N5 k) (b9 k) (S0 k) s0 s).trans (E3w k s.1.1 s.1.2.1 s.1.2.2.1 s.1.2.2.2.1 s.1.2.2.2.2.1 s.1.2.2.2.2.2.1 s.1.2.2.2.2.2.2.1 s.2.1 r h)) (.cons (by kernel_rfl) (by kernel_rfl) (fun s r h=>(E9V (A2l k) (A1p k) (A2Z k) (T3 k) (N5 k) (b9 k) (S0 k) s0 s).trans (F5j k s.1.1 s.1.2.1 s.1.2.2.1 s.1.2.2.2.1 s.1.2.2.2.2.1 s.1.2.2.2.2.2.1 s.2.1 r h)) (.nil)))) (F:=fun k s=>A0O k s.1.1 s.2.1) (fun k s r h=>(F2Y (A2l k) (A1p k) (A2Z k) (T3 k) (N5 k) (b9 k) (S0 k) s).trans (E0A k s.1.1 s.2.1 r h)) k
noncomputable abbrev A3A (k:Nat) (x0:(List Int)) (x1:(List Int)) (x7:Int) (x8:Int) (x6:(List Int)):Option V6:=All.exact_divide.l0 k x0 x1 x6 x7 x8
noncomputable abbrev A2h (k:Nat) (x9:Int) (x10:(List Int)) (x12:Int) (x14:Int) (x11:(List Int)) (x13:(List Int)):Option V6:=All.exact_divide.l1 k x9 x10 x11 x12 x13 x14
noncomputable abbrev A1q (k:Nat) (x9:Int) (x12:Int) (x96:Int) (x97:Int) (x11:(List Int)) (x13:(List Int)):Option V6:=All.exact_divide.l2 k x9 x11 x12 x13 x96 x97
theorem E7Z (k:Nat) (x0:(List Int)) (x1:(List Int)) (x7:Int) (x8:Int) (x6:(List Int)):A0 (All.exact_divide.l0 (k+1) x0 x1 x6 x7 x8) (C0Z (A3A k) (M7 k) (S0 k) x0 x1 x7 x8 x6):=by rw [All.exact_divide.l0];unfold C0Z;(try simp only [A3A,A2h,A1q,M7,A0t,S0,V2,A0r,A0O,All.integer_zero.f,All.exact_stepAt.f,All.S24.f0,All.S24.f1,All.rd_T24,All.z24]);exact BR
theorem E8q (k:Nat) (x9:Int) (x10:(List Int)) (x12:Int) (x14:Int) (x11:(List Int)) (x13:(List Int)):A0 (All.exact_divide.l1 (k+1) x9 x10 x11 x12 x13 x14) (C2d (A2h k) (A1q k) (A0O k) x9 x10 x12 x14 x11 x13):=by rw [All.exact_divide.l1];unfold C2d;(try simp only [A3A,A2h,A1q,M7,A0t,S0,V2,A0r,A0O,All.integer_zero.f,All.exact_stepAt.f,All.S24.f0,All.S24.f1,All.rd_T24,All.z24]);exact BR
theorem F0E (k:Nat) (x9:Int) (x12:Int) (x96:Int) (x97:Int) (x11:(List Int)) (x13:(List Int)):A0 (All.exact_divide.l2 (k+1) x9 x11 x12 x13 x96 x97) (C7V (A1q k) (M7 k) x9 x12 x96 x97 x11 x13):=by rw [All.exact_divide.l2];unfold C7V;(try simp only [A3A,A2h,A1q,M7,A0t,S0,V2,A0r,A0O,All.integer_zero.f,All.exact_stepAt.f,All.S24.f0,All.S24.f1,All.rd_T24,All.z24]);exact BR
theorem D9A (k:Nat) (x0:(List Int)) (x1:(List Int)):A0 (A0T k x0 x1) (C8k (A3A k) (A2h k) (M7 k) (A0t k) (V2 k) (A0r k) x0 x1):=by
 show A0 (All.exact_divide.f k x0 x1) _
 unfold All.exact_divide.f;unfold C8k;(try simp only [A3A,A2h,A1q,M7,A0t,S0,V2,A0r,A0O,All.integer_zero.f,All.exact_stepAt.f,All.S24.f0,All.S24.f1,All.rd_T24,All.z24]);exact BR
theorem D0J (k:Nat):B5 Tryz.prog (C1J (A0T k)):=
 B9 C0 HM A3O (es:=fun k=>B3v (M7 k) (A0t k) (S0 k) (V2 k) (A0r k) (A0O k)) (fun k=>fc ⟨C0K k,fc ⟨E1d k,fc ⟨D5g k,fc ⟨D3D k,fc ⟨E9P k,fc ⟨E7v k,fz⟩⟩⟩⟩⟩⟩) Tryz.func244 3 (by kernel_rfl) (fun s=>rfl) (fun k=>B4z (A3A k) (A2h k) (A1q k)) (fc ⟨fun s=>rfl,fc ⟨fun s=>rfl,fc ⟨fun s=>rfl,fz⟩⟩⟩) (fun k s0=> .cons (by kernel_rfl) (by kernel_rfl) (fun s r h=>(E9A (A3A k) (A2h k) (A1q k) (M7 k) (A0t k) (S0 k) (V2 k) (A0r k) (A0O k) s0 s).trans (E7Z k s.1.1 s.1.2.1 s.1.2.2.1 s.1.2.2.2.1 s.2.1 r h)) (.cons (by kernel_rfl) (by kernel_rfl) (fun s r h=>(E7m (A3A k) (A2h k) (A1q k) (M7 k) (A0t k) (S0 k) (V2 k) (A0r k) (A0O k) s0 s).trans (E8q k s.1.1 s.1.2.1 s.1.2.2.1 s.1.2.2.2.1 s.2.1 s.2.2.1 r h)) (.cons (by kernel_rfl) (by kernel_rfl) (fun s r h=>(E2p (A3A k) (A2h k) (A1q k) (M7 k) (A0t k) (S0 k) (V2 k) (A0r k) (A0O k) s0 s).trans (F0E k s.1.1 s.1.2.1 s.1.2.2.1 s.1.2.2.2.1 s.2.1 s.2.2.1 r h)) (.nil)))) (F:=fun k s=>A0T k s.1.1 s.1.2.1) (fun k s r h=>(E7y (A3A k) (A2h k) (A1q k) (M7 k) (A0t k) (S0 k) (V2 k) (A0r k) (A0O k) s).trans (D9A k s.1.1 s.1.2.1 r h)) k
noncomputable abbrev A8T (k:Nat) (x5:(List Int)) (x6:(List Int)):Option A0X:=All.exact_NatGcd.l0 k x5 x6
theorem E6X (k:Nat) (x5:(List Int)) (x6:(List Int)):A0 (All.exact_NatGcd.l0 (k+1) x5 x6) (C4t (A8T k) (I1 k) (A0T k) x5 x6):=by rw [All.exact_NatGcd.l0];unfold C4t;(try simp only [A8T,I1,K2,A0T,All.integer_zero.f,All.exact_stepAt.f,All.S24.f0,All.S24.f1,All.rd_T24,All.z24]);exact BR
theorem E3s (k:Nat) (x0:ByteArray) (x1:ByteArray):A0 (U4 k x0 x1) (C0h (A8T k) (K2 k) x0 x1):=by
 show A0 (All.exact_NatGcd.f k x0 x1) _
 unfold All.exact_NatGcd.f;unfold C0h;(try simp only [A8T,I1,K2,A0T,All.integer_zero.f,All.exact_stepAt.f,All.S24.f0,All.S24.f1,All.rd_T24,All.z24]);exact BR
theorem D1M (k:Nat):B5 Tryz.prog (C8F (U4 k)):=
 B9 C0 HM A9t (es:=fun k=>C7O (I1 k) (K2 k) (A0T k)) (fun k=>fc ⟨A8J k,fc ⟨B0b k,fc ⟨D0J k,fz⟩⟩⟩) Tryz.func215 1 (by kernel_rfl) (fun s=>rfl) (fun k=>C6U (A8T k)) (fc ⟨fun s=>rfl,fz⟩) (fun k s0=> .cons (by kernel_rfl) (by kernel_rfl) (fun s r h=>(E4Y (A8T k) (I1 k) (K2 k) (A0T k) s0 s).trans (E6X k s.1.1 s.1.2.1 r h)) (.nil)) (F:=fun k s=>U4 k s.1.1 s.1.2.1) (fun k s r h=>(F1N (A8T k) (I1 k) (K2 k) (A0T k) s).trans (E3s k s.1.1 s.1.2.1 r h)) k
theorem F0S (k:Nat) (x0:TQ):A0 (N8 k x0) (A2Y (t5 k) (X7 k) (U4 k) x0):=A0.refl _
theorem D9F (k:Nat):B5 Tryz.prog (D0G (N8 k)):=
 B9 C0 HM B7s (es:=fun k=>D7l (t5 k) (X7 k) (U4 k)) (fun k=>fc ⟨E7P k,fc ⟨D7D k,fc ⟨D1M k,fz⟩⟩⟩) Tryz.func172 0 (by kernel_rfl) (fun s=>rfl) (fun k=>[]) (fz) (fun k s0=> .nil) (F:=fun k s=>N8 k s.1.1) (fun k s r h=>(F0l (t5 k) (X7 k) (U4 k) s).trans (F0S k s.1.1 r h)) k
theorem F6Z (k:Nat) (x0:TP) (x9:TP) (x10:Int) (x11:Int):A0 (A0U (k+1) x0 x9 x10 x11) (A7v (A0U k) (J9 k) (N8 k) x0 x9 x10 x11):=by rw [A0U];exact A0.refl _
theorem E6L (k:Nat) (x0:TP):A0 (A0B k x0) (B3S (A0U k) x0):=A0.refl _
theorem D5M (k:Nat):B5 Tryz.prog (C0f (A0B k)):=
 B9 C0 HM B1R (es:=fun k=>C8j (J9 k) (N8 k)) (fun k=>fc ⟨B7o k,fc ⟨D9F k,fz⟩⟩) Tryz.func120 1 (by kernel_rfl) (fun s=>rfl) (fun k=>C6w (A0U k)) (fc ⟨fun s=>rfl,fz⟩) (fun k s0=> .cons (by kernel_rfl) (by kernel_rfl) (fun s r h=>(E8z (A0U k) (J9 k) (N8 k) s0 s).trans (F6Z k s.1.1 s.1.2.1 s.1.2.2.1 s.1.2.2.2.1 r h)) (.nil)) (F:=fun k s=>A0B k s.1.1) (fun k s r h=>(E2j (A0U k) (J9 k) (N8 k) s).trans (E6L k s.1.1 r h)) k
theorem E5E (k:Nat) (x0:TQ):A0 (A7u k x0) (C3H x0):=A0.refl _
theorem E3H (k:Nat):B5 Tryz.prog (D3j (A7u k)):=
 B9 C0 HM B5V (es:=fun k=>[]) (fun k=>fz) Tryz.func171 0 (by kernel_rfl) (fun s=>rfl) (fun k=>[]) (fz) (fun k s0=> .nil) (F:=fun k s=>A7u k s.1.1) (fun k s r h=>(E9a s).trans (E5E k s.1.1 r h)) k
theorem E9L (k:Nat) (x0:TQ):A0 (A2m k x0) (C1z (A7u k) x0):=A0.refl _
theorem D9d (k:Nat):B5 Tryz.prog (D1y (A2m k)):=
 B9 C0 HM B9x (es:=fun k=>D6z (A7u k)) (fun k=>fc ⟨E3H k,fz⟩) Tryz.func170 0 (by kernel_rfl) (fun s=>rfl) (fun k=>[]) (fz) (fun k s0=> .nil) (F:=fun k s=>A2m k s.1.1) (fun k s r h=>(E7F (A7u k) s).trans (E9L k s.1.1 r h)) k
theorem F5T (k:Nat) (x0:TP) (x7:Int) (x8:Int):A0 (A0V (k+1) x0 x7 x8) (A7n (A0V k) (A2m k) x0 x7 x8):=by rw [A0V];exact A0.refl _
theorem E1e (k:Nat) (x0:TP):A0 (A5i k x0) (B3V (A0V k) x0):=A0.refl _
theorem E9f (k:Nat):B5 Tryz.prog (D3Y (A5i k)):=
 B9 C0 HM B1S (es:=fun k=>C8P (A2m k)) (fun k=>fc ⟨D9d k,fz⟩) Tryz.func194 1 (by kernel_rfl) (fun s=>rfl) (fun k=>C0g (A0V k)) (fc ⟨fun s=>rfl,fz⟩) (fun k s0=> .cons (by kernel_rfl) (by kernel_rfl) (fun s r h=>(E2h (A0V k) (A2m k) s0 s).trans (F5T k s.1.1 s.1.2.1 s.1.2.2.1 r h)) (.nil)) (F:=fun k s=>A5i k s.1.1) (fun k s r h=>(F2m (A0V k) (A2m k) s).trans (E1e k s.1.1 r h)) k
theorem E8J (k:Nat) (x0:TP):A0 (A4Y k x0) (C2h (A5i k) x0):=A0.refl _
theorem F1H (k:Nat):B5 Tryz.prog (D2n (A4Y k)):=
 B9 C0 HM B6E (es:=fun k=>D8o (A5i k)) (fun k=>fc ⟨E9f k,fz⟩) Tryz.func153 0 (by kernel_rfl) (fun s=>rfl) (fun k=>[]) (fz) (fun k s0=> .nil) (F:=fun k s=>A4Y k s.1.1) (fun k s r h=>(F1O (A5i k) s).trans (E8J k s.1.1 r h)) k
theorem E3q (k:Nat) (x0:TP):A0 (A3Z k x0) (B3A (E6 k) (A0B k) (A4Y k) x0):=A0.refl _
theorem E2a (k:Nat):B5 Tryz.prog (D1A (A3Z k)):=
 B9 C0 HM B5t (es:=fun k=>D4N (E6 k) (A0B k) (A4Y k)) (fun k=>fc ⟨A7i k,fc ⟨D5M k,fc ⟨F1H k,fz⟩⟩⟩) Tryz.func119 0 (by kernel_rfl) (fun s=>rfl) (fun k=>[]) (fz) (fun k s0=> .nil) (F:=fun k s=>A3Z k s.1.1) (fun k s r h=>(E6w (E6 k) (A0B k) (A4Y k) s).trans (E3q k s.1.1 r h)) k
theorem F5y (k:Nat) (x0:TP) (x1:TP):A0 (V5 k x0 x1) (B2o (A0B k) x0 x1):=A0.refl _
theorem C7J (k:Nat):B5 Tryz.prog (B8a (V5 k)):=
 B9 C0 HM B6q (es:=fun k=>D2h (A0B k)) (fun k=>fc ⟨D5M k,fz⟩) Tryz.func124 0 (by kernel_rfl) (fun s=>rfl) (fun k=>[]) (fz) (fun k s0=> .nil) (F:=fun k s=>V5 k s.1.1 s.1.2.1) (fun k s r h=>(E0f (A0B k) s).trans (F5y k s.1.1 s.1.2.1 r h)) k
theorem F3D (k:Nat) (x1:TF) (x11:TF) (x12:Int) (x13:Int) (x2:TP):A0 (A1E (k+1) x1 x11 x12 x13 x2) (A7b (A1E k) (V5 k) x1 x11 x12 x13 x2):=by rw [A1E];exact A0.refl _
theorem E9l (k:Nat) (x0:TP) (x1:TF):A0 (A2X k x0 x1) (B4w (A1E k) x0 x1):=A0.refl _
theorem E5t (k:Nat):B5 Tryz.prog (D7f (A2X k)):=
 B9 C0 HM B0v (es:=fun k=>C8W (V5 k)) (fun k=>fc ⟨C7J k,fz⟩) Tryz.func138 1 (by kernel_rfl) (fun s=>rfl) (fun k=>C8D (A1E k)) (fc ⟨fun s=>rfl,fz⟩) (fun k s0=> .cons (by kernel_rfl) (by kernel_rfl) (fun s r h=>(E2f (A1E k) (V5 k) s0 s).trans (F3D k s.1.1 s.1.2.1 s.1.2.2.1 s.1.2.2.2.1 s.2.1 r h)) (.nil)) (F:=fun k s=>A2X k s.1.1 s.1.2.1) (fun k s r h=>(E6W (A1E k) (V5 k) s).trans (E9l k s.1.1 s.1.2.1 r h)) k
theorem F3f (k:Nat) (x14:(List TF)) (x15:Int) (x16:Int) (x2:TP):A0 (A0Y (k+1) x14 x15 x16 x2) (A7C (A0Y k) (A2X k) x14 x15 x16 x2):=by rw [A0Y];exact A0.refl _
theorem b83 (k:Nat) (x0:TP) (x1:(List TF)):A0 (J8 k x0 x1) (B83 (A0Y k) (A3Z k) x0 x1):=A0.refl _
theorem B1f (k:Nat):B5 Tryz.prog (A6z (J8 k)):=
 B9 C0 HM D83 (es:=fun k=>C6l (A3Z k) (A2X k)) (fun k=>fc ⟨E2a k,fc ⟨E5t k,fz⟩⟩) Tryz.func83 1 (by kernel_rfl) (fun s=>rfl) (fun k=>C0y (A0Y k)) (fc ⟨fun s=>rfl,fz⟩) (fun k s0=> .cons (by kernel_rfl) (by kernel_rfl) (fun s r h=>(E7M (A0Y k) (A3Z k) (A2X k) s0 s).trans (F3f k s.1.1 s.1.2.1 s.1.2.2.1 s.2.1 r h)) (.nil)) (F:=fun k s=>J8 k s.1.1 s.1.2.1) (fun k s r h=>(e83 (A0Y k) (A3Z k) (A2X k) s).trans (b83 k s.1.1 s.1.2.1 r h)) k
noncomputable abbrev A4N (k:Nat) (x1:(List Int)) (x20:(List Int)) (x21:Int) (x22:Int) (x5:(List Int)):Option Z1:=All.exact_mulWords.l0 k x1 x5 x20 x21 x22
end Go.Proofs.YtijohnkgomcdbaaGreatV
