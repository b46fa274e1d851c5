/- Part of the proof of the statement RationalRounds: lemmas on the model's steps, Lean functions that say what the program's functions compute, and proofs that the calls do just that. No hypothesis is added. -/
import Derived.Test.YtjllholdppjllaaGreatKRationalRounds5
set_option linter.all false
set_option maxRecDepth 100000
namespace Go.Proofs.YtjllholdppjllaaGreatV
open Go Go.RowKit YtjllholdppjllaaGreat YtjllholdppjllaaGreatE YtjllholdppjllaaGreatN YtjllholdppjllaaGreat.All YtjllholdppjllaaGreatW.PrintWords YtjllholdppjllaaGreatW.PrintLast YtjllholdppjllaaGreatW.PrintMore
section
variable {x y:FV}
theorem withAdd_go {z:R72} {r:R55Add} (h:rck x=0) (h2:rck y=0) (ho:Ev (fun k=>FX72 k [x,y]) z)
  (hr:if z.2.2=0 then Ev (fun k=>FX113 k (z.1,z.2.1)) r else r=rerr z.2.2):Ev (fun k=>FX55Add k [x,y]) r:=by
 obtain⟨K1,h1⟩:=rCk_ev x
 obtain⟨K2,h3⟩:=rCk_ev y
 obtain⟨K3,h5⟩:=ho
 have hf:∃K4,∀k,K4≤k→(if z.2.2≠0 then some ((false,(⟨#[]⟩:ByteArray)),(⟨#[]⟩:ByteArray),z.2.2)else((FX113 k (z.1,z.2.1)).bind fun r3=>some (r3.1,r3.2.1,r3.2.2)))=some r:=by
  by_cases hz:z.2.2=0
  ·rw [if_pos hz]at hr
   obtain⟨K4,h4⟩:=hr
   refine⟨K4,fun k hk=>?_⟩
   have g:=h4 k hk
   dsimp only at g
   rw [if_neg (fun q=>q hz),g,bind_some_]
  ·rw [if_neg hz]at hr
   exact⟨0,fun k _=>by rw [if_pos hz,hr];rfl⟩
 obtain⟨K4,h4⟩:=hf
 refine⟨K1+K2+K3+K4+3,fun k hk=>?_⟩
 obtain⟨m,rfl⟩:∃m,k=m+3:=⟨k-3,by omega⟩
 have g1:=h1 (m+2) (by omega)
 have g2:=h3 (m+1) (by omega)
 have g3:=h5 m (by omega)
 have g4:=h4 m (by omega)
 dsimp only at g1 g2 g3
 rw [h]at g1
 rw [h2]at g2
 show GX55Addl0 (m+2+1) [x,y] [x,y] (([x,y]:List FV).length:Int) 0 _=_
 rw [GX55Addl0];unfold B55Addl0
 simp only [rdOf_0,len2,wrap01,Int.reduceLT,Int.reduceLE,Int.le_refl,bind_some_,if_true,ne_eq,g1,not_true_eq_false,if_false]
 show GX55Addl0 (m+1+1) [x,y] [x,y] 2 1 _=_
 rw [GX55Addl0];unfold B55Addl0
 simp only [rdOf_1,len2,wrap11,Int.reduceLT,Int.reduceLE,Int.le_refl,bind_some_,if_true,ne_eq,g2,not_true_eq_false,if_false]
 show GX55Addl0 (m+1) [x,y] [x,y] 2 2 _=_
 rw [GX55Addl0];unfold B55Addl0
 rw [if_neg (by decide),g3,bind_some_]
 exact g4
end
section
variable {x y:FV}
theorem withSub_go {z:R75} {r:R55Sub} (h:rck x=0) (h2:rck y=0) (ho:Ev (fun k=>FX75 k [x,y]) z)
  (hr:if z.2.2=0 then Ev (fun k=>FX113 k (z.1,z.2.1)) r else r=rerr z.2.2):Ev (fun k=>FX55Sub k [x,y]) r:=by
 obtain⟨K1,h1⟩:=rCk_ev x
 obtain⟨K2,h3⟩:=rCk_ev y
 obtain⟨K3,h5⟩:=ho
 have hf:∃K4,∀k,K4≤k→(if z.2.2≠0 then some ((false,(⟨#[]⟩:ByteArray)),(⟨#[]⟩:ByteArray),z.2.2)else((FX113 k (z.1,z.2.1)).bind fun r3=>some (r3.1,r3.2.1,r3.2.2)))=some r:=by
  by_cases hz:z.2.2=0
  ·rw [if_pos hz]at hr
   obtain⟨K4,h4⟩:=hr
   refine⟨K4,fun k hk=>?_⟩
   have g:=h4 k hk
   dsimp only at g
   rw [if_neg (fun q=>q hz),g,bind_some_]
  ·rw [if_neg hz]at hr
   exact⟨0,fun k _=>by rw [if_pos hz,hr];rfl⟩
 obtain⟨K4,h4⟩:=hf
 refine⟨K1+K2+K3+K4+3,fun k hk=>?_⟩
 obtain⟨m,rfl⟩:∃m,k=m+3:=⟨k-3,by omega⟩
 have g1:=h1 (m+2) (by omega)
 have g2:=h3 (m+1) (by omega)
 have g3:=h5 m (by omega)
 have g4:=h4 m (by omega)
 dsimp only at g1 g2 g3
 rw [h]at g1
 rw [h2]at g2
 show GX55Subl0 (m+2+1) [x,y] [x,y] (([x,y]:List FV).length:Int) 0 _=_
 rw [GX55Subl0];unfold B55Subl0
 simp only [rdOf_0,len2,wrap01,Int.reduceLT,Int.reduceLE,Int.le_refl,bind_some_,if_true,ne_eq,g1,not_true_eq_false,if_false]
 show GX55Subl0 (m+1+1) [x,y] [x,y] 2 1 _=_
 rw [GX55Subl0];unfold B55Subl0
 simp only [rdOf_1,len2,wrap11,Int.reduceLT,Int.reduceLE,Int.le_refl,bind_some_,if_true,ne_eq,g2,not_true_eq_false,if_false]
 show GX55Subl0 (m+1) [x,y] [x,y] 2 2 _=_
 rw [GX55Subl0];unfold B55Subl0
 rw [if_neg (by decide),g3,bind_some_]
 exact g4
end
section
variable {x y:FV}
theorem withMul_go {z:R73} {r:R55Mul} (h:rck x=0) (h2:rck y=0) (ho:Ev (fun k=>FX73 k [x,y]) z)
  (hr:if z.2.2=0 then Ev (fun k=>FX113 k (z.1,z.2.1)) r else r=rerr z.2.2):Ev (fun k=>FX55Mul k [x,y]) r:=by
 obtain⟨K1,h1⟩:=rCk_ev x
 obtain⟨K2,h3⟩:=rCk_ev y
 obtain⟨K3,h5⟩:=ho
 have hf:∃K4,∀k,K4≤k→(if z.2.2≠0 then some ((false,(⟨#[]⟩:ByteArray)),(⟨#[]⟩:ByteArray),z.2.2)else((FX113 k (z.1,z.2.1)).bind fun r3=>some (r3.1,r3.2.1,r3.2.2)))=some r:=by
  by_cases hz:z.2.2=0
  ·rw [if_pos hz]at hr
   obtain⟨K4,h4⟩:=hr
   refine⟨K4,fun k hk=>?_⟩
   have g:=h4 k hk
   dsimp only at g
   rw [if_neg (fun q=>q hz),g,bind_some_]
  ·rw [if_neg hz]at hr
   exact⟨0,fun k _=>by rw [if_pos hz,hr];rfl⟩
 obtain⟨K4,h4⟩:=hf
 refine⟨K1+K2+K3+K4+3,fun k hk=>?_⟩
 obtain⟨m,rfl⟩:∃m,k=m+3:=⟨k-3,by omega⟩
 have g1:=h1 (m+2) (by omega)
 have g2:=h3 (m+1) (by omega)
 have g3:=h5 m (by omega)
 have g4:=h4 m (by omega)
 dsimp only at g1 g2 g3
 rw [h]at g1
 rw [h2]at g2
 show GX55Mull0 (m+2+1) [x,y] [x,y] (([x,y]:List FV).length:Int) 0 _=_
 rw [GX55Mull0];unfold B55Mull0
 simp only [rdOf_0,len2,wrap01,Int.reduceLT,Int.reduceLE,Int.le_refl,bind_some_,if_true,ne_eq,g1,not_true_eq_false,if_false]
 show GX55Mull0 (m+1+1) [x,y] [x,y] 2 1 _=_
 rw [GX55Mull0];unfold B55Mull0
 simp only [rdOf_1,len2,wrap11,Int.reduceLT,Int.reduceLE,Int.le_refl,bind_some_,if_true,ne_eq,g2,not_true_eq_false,if_false]
 show GX55Mull0 (m+1) [x,y] [x,y] 2 2 _=_
 rw [GX55Mull0];unfold B55Mull0
 rw [if_neg (by decide),g3,bind_some_]
 exact g4
end
theorem rAdd_ev {a b:Rat} (ha:Sm 1024 a) (hb:Sm 1024 b):Ev (fun k=>FX25 k (fr a) (fr b)) (rbnd (a+b)):=by
 have s1:Sm 10000 a:=⟨Nat.le_trans ha.1 (by decide),Nat.le_trans ha.2 (by decide)⟩
 have s2:Sm 10000 b:=⟨Nat.le_trans hb.1 (by decide),Nat.le_trans hb.2 (by decide)⟩
 have h1:=Add_ev s1 s2
 have ho:Ev (fun k=>FX72 k [fr a,fr b]) ((fr (a+b)).1,(fr (a+b)).2,0):=by
  refine evE h1 ?_
  rintro k h1
  try dsimp only [fr]at h1
  show FX72 _ _=_
  unfold FX72 B72
  simp only [fr,Ya,Yb,Yc,Yd,Ye,Yf,Yg,Yh,Yi,Yj,Int.reduceEq,reduceCtorEq,Yk,Yl,Ym,Yn,Yo,Yp,Yq,Yr,Ys,Yt,Yu,Yv,Yw,Yx,Yy,Yz,YA,YB,h1,rdOf_0,rdOf_1,len2,Int.reduceLT,Int.reduceLE,Int.le_refl]
 have h2:=withAdd_go (rck_fr ha) (rck_fr hb) ho (r:=rbnd (a+b)) (by rw [if_pos rfl];exact rfit_ev _)
 refine evE h2 ?_
 rintro k h2
 try dsimp only [fr]at h2
 show FX25 _ _ _=_
 unfold FX25 B25
 simp only [fr,Ya,Yb,Yc,Yd,Ye,Yf,Yg,Yh,Yi,Yj,Int.reduceEq,reduceCtorEq,Yk,Yl,Ym,Yn,Yo,Yp,Yq,Yr,Ys,Yt,Yu,Yv,Yw,Yx,Yy,Yz,YA,YB,h2]
theorem rSub_ev {a b:Rat} (ha:Sm 1024 a) (hb:Sm 1024 b):Ev (fun k=>FX27 k (fr a) (fr b)) (rbnd (a-b)):=by
 have s1:Sm 10000 a:=⟨Nat.le_trans ha.1 (by decide),Nat.le_trans ha.2 (by decide)⟩
 have s2:Sm 10000 b:=⟨Nat.le_trans hb.1 (by decide),Nat.le_trans hb.2 (by decide)⟩
 have h1:=Sub_ev s1 s2
 have ho:Ev (fun k=>FX75 k [fr a,fr b]) ((fr (a-b)).1,(fr (a-b)).2,0):=by
  refine evE h1 ?_
  rintro k h1
  try dsimp only [fr]at h1
  show FX75 _ _=_
  unfold FX75 B75
  simp only [fr,Ya,Yb,Yc,Yd,Ye,Yf,Yg,Yh,Yi,Yj,Int.reduceEq,reduceCtorEq,Yk,Yl,Ym,Yn,Yo,Yp,Yq,Yr,Ys,Yt,Yu,Yv,Yw,Yx,Yy,Yz,YA,YB,h1,rdOf_0,rdOf_1,len2,Int.reduceLT,Int.reduceLE,Int.le_refl]
 have h2:=withSub_go (rck_fr ha) (rck_fr hb) ho (r:=rbnd (a-b)) (by rw [if_pos rfl];exact rfit_ev _)
 refine evE h2 ?_
 rintro k h2
 try dsimp only [fr]at h2
 show FX27 _ _ _=_
 unfold FX27 B27
 simp only [fr,Ya,Yb,Yc,Yd,Ye,Yf,Yg,Yh,Yi,Yj,Int.reduceEq,reduceCtorEq,Yk,Yl,Ym,Yn,Yo,Yp,Yq,Yr,Ys,Yt,Yu,Yv,Yw,Yx,Yy,Yz,YA,YB,h2]
theorem rMul_ev {a b:Rat} (ha:Sm 1024 a) (hb:Sm 1024 b):Ev (fun k=>FX26 k (fr a) (fr b)) (rbnd (a*b)):=by
 have s1:Sm 10000 a:=⟨Nat.le_trans ha.1 (by decide),Nat.le_trans ha.2 (by decide)⟩
 have s2:Sm 10000 b:=⟨Nat.le_trans hb.1 (by decide),Nat.le_trans hb.2 (by decide)⟩
 have h1:=Mul_ev s1 s2
 have ho:Ev (fun k=>FX73 k [fr a,fr b]) ((fr (a*b)).1,(fr (a*b)).2,0):=by
  refine evE h1 ?_
  rintro k h1
  try dsimp only [fr]at h1
  show FX73 _ _=_
  unfold FX73 B73
  simp only [fr,Ya,Yb,Yc,Yd,Ye,Yf,Yg,Yh,Yi,Yj,Int.reduceEq,reduceCtorEq,Yk,Yl,Ym,Yn,Yo,Yp,Yq,Yr,Ys,Yt,Yu,Yv,Yw,Yx,Yy,Yz,YA,YB,h1,rdOf_0,rdOf_1,len2,Int.reduceLT,Int.reduceLE,Int.le_refl]
 have h2:=withMul_go (rck_fr ha) (rck_fr hb) ho (r:=rbnd (a*b)) (by rw [if_pos rfl];exact rfit_ev _)
 refine evE h2 ?_
 rintro k h2
 try dsimp only [fr]at h2
 show FX26 _ _ _=_
 unfold FX26 B26
 simp only [fr,Ya,Yb,Yc,Yd,Ye,Yf,Yg,Yh,Yi,Yj,Int.reduceEq,reduceCtorEq,Yk,Yl,Ym,Yn,Yo,Yp,Yq,Yr,Ys,Yt,Yu,Yv,Yw,Yx,Yy,Yz,YA,YB,h2]
section
variable {x:FV} {e:Int}
theorem withPow_err (h:rck x≠0):Ev (fun k=>FX55Pow k [x] e) ((rerr (rck x)).1,(rerr (rck x)).2.1,rck x,e):=by
 obtain⟨K1,h1⟩:=rCk_ev x
 refine⟨K1+3,fun k hk=>?_⟩
 obtain⟨m,rfl⟩:∃m,k=m+3:=⟨k-3,by omega⟩
 have g1:=h1 (m+2) (by omega)
 dsimp only at g1
 show GX55Powl0 (m+2+1) [x] [x] (([x]:List FV).length:Int) 0 e _=_
 rw [GX55Powl0];unfold B55Powl0
 simp only [rdOf_0,len1,Int.reduceLT,Int.reduceLE,Int.le_refl,bind_some_,if_true,ne_eq,g1,h,not_false_eq_true,rerr]
theorem withPow_go {z:R56} {r:TI×ByteArray×Int} (h:rck x=0) (ho:Ev (fun k=>FX56 k [x] e) z)
  (hr:if z.2.2.1=0 then Ev (fun k=>FX113 k (z.1,z.2.1)) r else r=rerr z.2.2.1):Ev (fun k=>FX55Pow k [x] e) (r.1,r.2.1,r.2.2,z.2.2.2):=by
 obtain⟨K1,h1⟩:=rCk_ev x
 obtain⟨K3,h5⟩:=ho
 have hf:∃K4,∀k,K4≤k→(if z.2.2.1≠0 then some ((false,(⟨#[]⟩:ByteArray)),(⟨#[]⟩:ByteArray),z.2.2.1,z.2.2.2)else((FX113 k (z.1,z.2.1)).bind fun r3=>some (r3.1,r3.2.1,r3.2.2,z.2.2.2)))=some (r.1,r.2.1,r.2.2,z.2.2.2):=by
  by_cases hz:z.2.2.1=0
  ·rw [if_pos hz]at hr
   obtain⟨K4,h4⟩:=hr
   refine⟨K4,fun k hk=>?_⟩
   have g:=h4 k hk
   dsimp only at g
   rw [if_neg (fun q=>q hz),g,bind_some_]
  ·rw [if_neg hz]at hr
   exact⟨0,fun k _=>by rw [if_pos hz,hr];rfl⟩
 obtain⟨K4,h4⟩:=hf
 refine⟨K1+K3+K4+3,fun k hk=>?_⟩
 obtain⟨m,rfl⟩:∃m,k=m+3:=⟨k-3,by omega⟩
 have g1:=h1 (m+2) (by omega)
 have g3:=h5 (m+1) (by omega)
 have g4:=h4 (m+1) (by omega)
 dsimp only at g1 g3
 rw [h]at g1
 show GX55Powl0 (m+2+1) [x] [x] (([x]:List FV).length:Int) 0 e _=_
 rw [GX55Powl0];unfold B55Powl0
 simp only [rdOf_0,len1,wrap01,Int.reduceLT,Int.reduceLE,Int.le_refl,bind_some_,if_true,ne_eq,g1,not_true_eq_false,if_false]
 show GX55Powl0 (m+1+1) [x] [x] 1 1 e _=_
 rw [GX55Powl0];unfold B55Powl0
 rw [if_neg (by decide),g3,bind_some_]
 exact g4
theorem rPow_err (h:rck x≠0):Ev (fun k=>FX15 k x e) (rerr (rck x)):=by
 have h1:=withPow_err (e:=e) h
 refine evE h1 ?_
 rintro k h1
 try dsimp only [fr]at h1
 show FX15 _ _ _=_
 unfold FX15 B15
 simp only [fr,Ya,Yb,Yc,Yd,Ye,Yf,Yg,Yh,Yi,Yj,Int.reduceEq,reduceCtorEq,Yk,Yl,Ym,Yn,Yo,Yp,Yq,Yr,Ys,Yt,Yu,Yv,Yw,Yx,Yy,Yz,YA,YB,h1,rerr]
end
def wide (n:Nat) (e:Nat):Bool:=decide (n≠0∧8192≤(bl n-1)*e)
theorem Wide_ev {n e:Nat} (hn:(nat n).size≤1024) (he:e≤4096):Ev (fun k=>FX59 k (nat n) (e:Int)) (wide n e):=by
 have f1:=NatBits_eq (n:=n) (Nat.le_trans hn (by decide))
 by_cases h0:n=0
 ·have f2:wide n e=false:=by unfold wide;rw [decide_eq_false_iff_not];exact fun q=>q.1 h0
  rw [f2]
  refine⟨0,fun k _=>?_⟩
  show FX59 _ _ _=_
  unfold FX59 B59
  simp only [fr,FX114,Ya,Yb,Yc,Yd,Ye,Yf,Yg,Yh,Yi,Yj,Int.reduceEq,reduceCtorEq,Yk,Yl,Ym,Yn,Yo,Yp,Yq,Yr,Ys,Yt,Yu,Yv,Yw,Yx,Yy,Yz,YA,YB,e_nil,h0]
 ·have hb:=bl_size (n:=n)
  obtain⟨g1,g2⟩:=bl_le h0
  have hle:(bl n-1)*e≤8191*4096:=Nat.mul_le_mul (by omega) he
  have e1:wrap64 ((bl n:Int)-1)=((bl n-1:Nat):Int):=by rw [w64 (by omega) (by omega)];omega
  have e2:wrap64 (((bl n-1:Nat):Int)*(e:Int))=(((bl n-1)*e:Nat):Int):=by
   rw [←Int.natCast_mul]
   generalize(bl n-1)*e=A at*
   exact w64 (by omega) (by omega)
  have f2:wide n e=decide ((8192:Int)≤(((bl n-1)*e:Nat):Int)):=by
   unfold wide
   rw [Bool.eq_iff_iff,decide_eq_true_eq,decide_eq_true_eq]
   generalize(bl n-1)*e=A at*
   exact⟨fun q=>by omega,fun q=>⟨h0,by omega⟩⟩
  rw [f2]
  refine⟨0,fun k _=>?_⟩
  show FX59 _ _ _=_
  unfold FX59 B59
  simp only [fr,FX114,Ya,Yb,Yc,Yd,Ye,Yf,Yg,Yh,Yi,Yj,Int.reduceEq,reduceCtorEq,Yk,Yl,Ym,Yn,Yo,Yp,Yq,Yr,Ys,Yt,Yu,Yv,Yw,Yx,Yy,Yz,YA,YB,e_nil,h0,f1,e1,e2]
theorem wide_big {n e:Nat} (h:wide n e=true):1024<(nat (n^e)).size:=by
 unfold wide at h
 rw [decide_eq_true_eq]at h
 obtain⟨g1,g2⟩:=bl_le h.1
 rcases Nat.lt_or_ge 1024 (nat (n^e)).size with h'|h'
 ·exact h'
 ·exfalso
  have h2:=Nat.pow_le_pow_left g2 e
  rw [←Nat.pow_mul]at h2
  have h3:=size_two h' h2
  clear h2
  omega
theorem pow_par (n:Nat):∀e:Nat,(e%2=0→(-(n:Int))^e=((n^e:Nat):Int))∧(e%2=1→(-(n:Int))^e= -((n^e:Nat):Int))
 |0=>⟨fun _=>by simp,fun h=>by omega⟩
 |e+1=>by
  obtain⟨i1,i2⟩:=pow_par n e
  have e1:((n^(e+1):Nat):Int)=((n^e:Nat):Int)*(n:Int):=by rw [Nat.pow_succ,Int.natCast_mul]
  constructor
  ·intro h
   rw [Int.pow_succ,i2 (by omega),e1,Int.neg_mul_neg]
  ·intro h
   rw [Int.pow_succ,i1 (by omega),e1,Int.mul_neg]
theorem sg_pow {x:Int} (h:x<0) (e:Nat):sg (decide (Int.tmod (e:Int) 2=1)) (x.natAbs^e)=x^e:=by
 obtain⟨i1,i2⟩:=pow_par x.natAbs e
 have hx: -((x.natAbs:Nat):Int)=x:=by omega
 rw [hx]at i1 i2
 have ht:Int.tmod (e:Int) 2=((e%2:Nat):Int):=by rw [Int.tmod_eq_emod_of_nonneg (by omega)];omega
 unfold sg
 by_cases hp:e%2=1
 ·rw [ht,hp,i2 hp];rfl
 ·rw [ht,show e%2=0 by omega,i1 (by omega)];rfl
theorem sg_pow0 {x:Int} (h:0≤x) (e:Nat):sg false (x.natAbs^e)=x^e:=by
 have hx:x=((x.natAbs:Nat):Int):=by omega
 show((x.natAbs^e:Nat):Int)=x^e
 rw [Int.natCast_pow,←hx]
theorem IPow_ev {x:Int} {e:Nat} (hx:(ab x).size≤1024) (he:e≤4096):Ev (fun k=>FX115 k (ng x,ab x) (e:Int)) (ng (x^e),ab (x^e)):=by
 have h:=NatPow_ev (m:=x.natAbs) (e:=e) (Nat.le_trans hx (by decide)) (by omega)
 have h':Ev (fun k=>exact_NatPow.f k (ab x) (e:Int)) _:=h
 by_cases hs:x<0
 ·have hi:=IMake_eq (decide (Int.tmod (e:Int) 2=1)) (x.natAbs^e)
  rw [sg_pow hs]at hi
  have s1:=ng_neg hs
  refine evE h' ?_
  rintro k h'
  try dsimp only [fr]at h'
  show FX115 _ _ _=_
  unfold FX115 B115
  simp only [fr,FX108,FX116,Ya,Yb,Yc,Yd,Ye,Yf,Yg,Yh,Yi,Yj,Int.reduceEq,reduceCtorEq,Yk,Yl,Ym,Yn,Yo,Yp,Yq,Yr,Ys,Yt,Yu,Yv,Yw,Yx,Yy,Yz,YA,YB,h',s1,hi]
 ·have hi:=IMake_eq false (x.natAbs^e)
  rw [sg_pow0 (by omega)]at hi
  have s1:=ng_pos (show 0≤x by omega)
  refine evE h' ?_
  rintro k h'
  try dsimp only [fr]at h'
  show FX115 _ _ _=_
  unfold FX115 B115
  simp only [fr,FX108,FX116,Ya,Yb,Yc,Yd,Ye,Yf,Yg,Yh,Yi,Yj,Int.reduceEq,reduceCtorEq,Yk,Yl,Ym,Yn,Yo,Yp,Yq,Yr,Ys,Yt,Yu,Yv,Yw,Yx,Yy,Yz,YA,YB,h',s1,hi]
theorem Pow_ev {a:Rat} {e:Nat} (ha:Sm 1024 a) (he:e≤4096):Ev (fun k=>FX60 k (fr a) (e:Int)) (fr (a^e)):=by
 have h1:=IPow_ev (e:=e) ha.1 he
 have h2:=NatPow_ev (m:=a.den) (e:=e) (Nat.le_trans ha.2 (by decide)) (by omega)
 have e1:fr (a^e)=((ng (a.num^e),ab (a.num^e)),nat (a.den^e)):=by unfold fr;rw [Rat.num_pow,Rat.den_pow]
 rw [e1]
 refine evE (evC h1 h2) ?_
 rintro k ⟨h1,h2⟩
 try dsimp only [fr]at h1 h2
 show FX60 _ _ _=_
 unfold FX60 B60
 simp only [fr,FX116,Ya,Yb,Yc,Yd,Ye,Yf,Yg,Yh,Yi,Yj,Int.reduceEq,reduceCtorEq,Yk,Yl,Ym,Yn,Yo,Yp,Yq,Yr,Ys,Yt,Yu,Yv,Yw,Yx,Yy,Yz,YA,YB,h1,h2]
theorem ab_pow (x:Int) (e:Nat):ab (x^e)=nat (x.natAbs^e):=by unfold ab;rw [Int.natAbs_pow]
theorem rbnd_big {q:Rat} (h:big q=true):rbnd q=rerr 4:=if_pos h
theorem rPow_ev {a:Rat} {e:Nat} (ha:Sm 1024 a) (he:e≤4096):Ev (fun k=>FX15 k (fr a) (e:Int)) (rbnd (a^e)):=by
 have h1:=Wide_ev (n:=a.num.natAbs) (e:=e) ha.1 he
 have h1':Ev (fun k=>FX59 k (ab a.num) (e:Int)) _:=h1
 have h2:=Wide_ev (n:=a.den) (e:=e) ha.2 he
 have h3:=Pow_ev (e:=e) ha he
 have c1:¬(e:Int)< -4096:=by omega
 have c2:¬4096<(e:Int):=by omega
 have c3:¬(e:Int)<0:=by omega
 have key:∀{z:R56},Ev (fun k=>FX56 k [fr a] (e:Int)) z→(if z.2.2.1=0 then Ev (fun k=>FX113 k (z.1,z.2.1)) (rbnd (a^e))else rbnd (a^e)=rerr z.2.2.1)→Ev (fun k=>FX15 k (fr a) (e:Int)) (rbnd (a^e)):=by
  intro z hz hr
  have h5:=withPow_go (rck_fr ha) hz hr
  refine evE h5 ?_
  rintro k h5
  try dsimp only [fr]at h5
  show FX15 _ _ _=_
  unfold FX15 B15
  simp only [fr,Ya,Yb,Yc,Yd,Ye,Yf,Yg,Yh,Yi,Yj,Int.reduceEq,reduceCtorEq,Yk,Yl,Ym,Yn,Yo,Yp,Yq,Yr,Ys,Yt,Yu,Yv,Yw,Yx,Yy,Yz,YA,YB,h5]
 by_cases w1:wide a.num.natAbs e=true
 ·rw [w1]at h1'
  have hb:rbnd (a^e)=rerr 4:=rbnd_big (by unfold big;rw [decide_eq_true_eq,Rat.num_pow,ab_pow];exact Or.inl (wide_big w1))
  have ho:Ev (fun k=>FX56 k [fr a] (e:Int)) ((fr a).1,(fr a).2,4,(e:Int)):=by
   refine evE h1' ?_
   rintro k h1'
   try dsimp only [fr]at h1'
   show FX56 _ _ _=_
   unfold FX56 B56
   simp only [fr,FX57,B57,FX58,B58,Ya,Yb,Yc,Yd,Ye,Yf,Yg,Yh,Yi,Yj,Int.reduceEq,reduceCtorEq,Yk,Yl,Ym,Yn,Yo,Yp,Yq,Yr,Ys,Yt,Yu,Yv,Yw,Yx,Yy,Yz,YA,YB,h1',rdOf_0,len1,Int.reduceLT,Int.reduceLE,Int.le_refl,Int.reduceNeg,c1,c2,c3]
  exact key ho (by show(if(4:Int)=0 then _ else _);rw [if_neg (by decide)];exact hb)
 ·rw [Bool.not_eq_true]at w1
  rw [w1]at h1'
  by_cases w2:wide a.den e=true
  ·rw [w2]at h2
   have hb:rbnd (a^e)=rerr 4:=rbnd_big (by unfold big;rw [decide_eq_true_eq,Rat.den_pow];exact Or.inr (wide_big w2))
   have ho:Ev (fun k=>FX56 k [fr a] (e:Int)) ((fr a).1,(fr a).2,4,(e:Int)):=by
    refine evE (evC h1' h2) ?_
    rintro k ⟨h1',h2⟩
    try dsimp only [fr]at h1' h2
    show FX56 _ _ _=_
    unfold FX56 B56
    simp only [fr,FX57,B57,FX58,B58,Ya,Yb,Yc,Yd,Ye,Yf,Yg,Yh,Yi,Yj,Int.reduceEq,reduceCtorEq,Yk,Yl,Ym,Yn,Yo,Yp,Yq,Yr,Ys,Yt,Yu,Yv,Yw,Yx,Yy,Yz,YA,YB,h1',h2,rdOf_0,len1,Int.reduceLT,Int.reduceLE,Int.le_refl,Int.reduceNeg,c1,c2,c3]
   exact key ho (by show(if(4:Int)=0 then _ else _);rw [if_neg (by decide)];exact hb)
  ·rw [Bool.not_eq_true]at w2
   rw [w2]at h2
   have ho:Ev (fun k=>FX56 k [fr a] (e:Int)) ((fr (a^e)).1,(fr (a^e)).2,0,(e:Int)):=by
    refine evE (evC h1' (evC h2 h3)) ?_
    rintro k ⟨h1',h2,h3⟩
    try dsimp only [fr]at h1' h2 h3
    show FX56 _ _ _=_
    unfold FX56 B56
    simp only [fr,FX57,B57,FX58,B58,Ya,Yb,Yc,Yd,Ye,Yf,Yg,Yh,Yi,Yj,Int.reduceEq,reduceCtorEq,Yk,Yl,Ym,Yn,Yo,Yp,Yq,Yr,Ys,Yt,Yu,Yv,Yw,Yx,Yy,Yz,YA,YB,h1',h2,h3,rdOf_0,len1,Int.reduceLT,Int.reduceLE,Int.le_refl,Int.reduceNeg,c1,c2,c3]
   exact key ho (by rw [if_pos rfl];exact rfit_ev _)
theorem neg_e {e:Nat} (he:e≤4096):wrap64 (0- -(e:Int))=(e:Int):=by rw [Int.zero_sub,Int.neg_neg];exact w64 (by omega) (by omega)
theorem z_num {a:Rat} (h:a≠0):((ab a.num).toList==(⟨#[]⟩:ByteArray).toList)=false:=by
 rw [e_ab,decide_eq_false_iff_not]
 exact fun e=>h (Rat.num_eq_zero.1 e)
theorem rPow_neg {a:Rat} {e:Nat} (ha:Sm 1024 a) (h0:a≠0) (he:e≤4096) (h1e:1≤e):Ev (fun k=>FX15 k (fr a) (-(e:Int))) (rbnd (a⁻¹^e)):=by
 have hi:=ha.inv h0
 have e0:=fr_inv h0
 have h1:=Wide_ev (n:=a.den) (e:=e) ha.2 he
 have h2:=Wide_ev (n:=a.num.natAbs) (e:=e) ha.1 he
 have h2':Ev (fun k=>FX59 k (ab a.num) (e:Int)) _:=h2
 have h3:=Pow_ev (e:=e) hi he
 rw [e0]at h3
 have c1:¬ -(e:Int)< -4096:=by omega
 have c2:¬4096< -(e:Int):=by omega
 have c3: -(e:Int)<0:=by omega
 have c4:=neg_e he
 have c5:=z_num h0
 have f:fr a⁻¹=((ng a⁻¹.num,ab a⁻¹.num),nat a⁻¹.den):=rfl
 rw [f,Prod.mk.injEq,Prod.mk.injEq]at e0
 have key:∀{z:R56},Ev (fun k=>FX56 k [fr a] (-(e:Int))) z→(if z.2.2.1=0 then Ev (fun k=>FX113 k (z.1,z.2.1)) (rbnd (a⁻¹^e))else rbnd (a⁻¹^e)=rerr z.2.2.1)→Ev (fun k=>FX15 k (fr a) (-(e:Int))) (rbnd (a⁻¹^e)):=by
  intro z hz hr
  have h5:=withPow_go (rck_fr ha) hz hr
  refine evE h5 ?_
  rintro k h5
  try dsimp only [fr]at h5
  show FX15 _ _ _=_
  unfold FX15 B15
  simp only [fr,Ya,Yb,Yc,Yd,Ye,Yf,Yg,Yh,Yi,Yj,Int.reduceEq,reduceCtorEq,Yk,Yl,Ym,Yn,Yo,Yp,Yq,Yr,Ys,Yt,Yu,Yv,Yw,Yx,Yy,Yz,YA,YB,h5]
 by_cases w1:wide a.den e=true
 ·rw [w1]at h1
  have hb:rbnd (a⁻¹^e)=rerr 4:=rbnd_big (by
   unfold big;rw [decide_eq_true_eq,Rat.num_pow,ab_pow,show nat (a⁻¹.num.natAbs^e)=nat (a.den^e)from by
    have:=nat_inj.1 (show nat a⁻¹.num.natAbs=nat a.den from e0.1.2)
    rw [this]]
   exact Or.inl (wide_big w1))
  have ho:Ev (fun k=>FX56 k [fr a] (-(e:Int))) ((ng a.num,nat a.den),ab a.num,4,(e:Int)):=by
   refine evE h1 ?_
   rintro k h1
   try dsimp only [fr]at h1
   show FX56 _ _ _=_
   unfold FX56 B56
   simp only [fr,FX57,B57,FX58,B58,Ya,Yb,Yc,Yd,Ye,Yf,Yg,Yh,Yi,Yj,Int.reduceEq,reduceCtorEq,Yk,Yl,Ym,Yn,Yo,Yp,Yq,Yr,Ys,Yt,Yu,Yv,Yw,Yx,Yy,Yz,YA,YB,h1,rdOf_0,len1,Int.reduceLT,Int.reduceLE,Int.le_refl,Int.reduceNeg,c1,c2,c3,c4,c5]
  exact key ho (by show(if(4:Int)=0 then _ else _);rw [if_neg (by decide)];exact hb)
 ·rw [Bool.not_eq_true]at w1
  rw [w1]at h1
  by_cases w2:wide a.num.natAbs e=true
  ·rw [w2]at h2'
   have hb:rbnd (a⁻¹^e)=rerr 4:=rbnd_big (by
    unfold big;rw [decide_eq_true_eq,Rat.den_pow,nat_inj.1 (show nat a⁻¹.den=nat a.num.natAbs from e0.2)]
    exact Or.inr (wide_big w2))
   have ho:Ev (fun k=>FX56 k [fr a] (-(e:Int))) ((ng a.num,nat a.den),ab a.num,4,(e:Int)):=by
    refine evE (evC h1 h2') ?_
    rintro k ⟨h1,h2'⟩
    try dsimp only [fr]at h1 h2'
    show FX56 _ _ _=_
    unfold FX56 B56
    simp only [fr,FX57,B57,FX58,B58,Ya,Yb,Yc,Yd,Ye,Yf,Yg,Yh,Yi,Yj,Int.reduceEq,reduceCtorEq,Yk,Yl,Ym,Yn,Yo,Yp,Yq,Yr,Ys,Yt,Yu,Yv,Yw,Yx,Yy,Yz,YA,YB,h1,h2',rdOf_0,len1,Int.reduceLT,Int.reduceLE,Int.le_refl,Int.reduceNeg,c1,c2,c3,c4,c5]
   exact key ho (by show(if(4:Int)=0 then _ else _);rw [if_neg (by decide)];exact hb)
  ·rw [Bool.not_eq_true]at w2
   rw [w2]at h2'
   have ho:Ev (fun k=>FX56 k [fr a] (-(e:Int))) ((fr (a⁻¹^e)).1,(fr (a⁻¹^e)).2,0,(e:Int)):=by
    refine evE (evC h1 (evC h2' h3)) ?_
    rintro k ⟨h1,h2',h3⟩
    try dsimp only [fr]at h1 h2' h3
    show FX56 _ _ _=_
    unfold FX56 B56
    simp only [fr,FX57,B57,FX58,B58,Ya,Yb,Yc,Yd,Ye,Yf,Yg,Yh,Yi,Yj,Int.reduceEq,reduceCtorEq,Yk,Yl,Ym,Yn,Yo,Yp,Yq,Yr,Ys,Yt,Yu,Yv,Yw,Yx,Yy,Yz,YA,YB,h1,h2',h3,rdOf_0,len1,Int.reduceLT,Int.reduceLE,Int.le_refl,Int.reduceNeg,c1,c2,c3,c4,c5]
   exact key ho (by rw [if_pos rfl];exact rfit_ev _)
theorem rPow_bad {a:Rat} {p z:Int} {q:FV} {r:Int} (ha:Sm 1024 a) (hz:z≠0) (ho:Ev (fun k=>FX56 k [fr a] p) (q.1,q.2,z,r)):Ev (fun k=>FX15 k (fr a) p) (rerr z):=by
 have h5:=withPow_go (r:=rerr z) (rck_fr ha) ho (by show(if z=0 then _ else _);rw [if_neg hz])
 refine evE h5 ?_
 rintro k h5
 try dsimp only [fr]at h5
 show FX15 _ _ _=_
 unfold FX15 B15
 simp only [fr,Ya,Yb,Yc,Yd,Ye,Yf,Yg,Yh,Yi,Yj,Int.reduceEq,reduceCtorEq,Yk,Yl,Ym,Yn,Yo,Yp,Yq,Yr,Ys,Yt,Yu,Yv,Yw,Yx,Yy,Yz,YA,YB,h5,rerr]
theorem rPow_range {a:Rat} {p:Int} (ha:Sm 1024 a) (hp:p< -4096∨4096<p):Ev (fun k=>FX15 k (fr a) p) (rerr 3):=by
 refine rPow_bad (q:=fr a) (r:=p) ha (by decide) ?_
 by_cases h:p< -4096
 ·refine⟨0,fun k _=>?_⟩
  show FX56 _ _ _=_
  unfold FX56 B56
  simp only [fr,FX57,B57,FX58,B58,Ya,Yb,Yc,Yd,Ye,Yf,Yg,Yh,Yi,Yj,Int.reduceEq,reduceCtorEq,Yk,Yl,Ym,Yn,Yo,Yp,Yq,Yr,Ys,Yt,Yu,Yv,Yw,Yx,Yy,Yz,YA,YB,rdOf_0,len1,Int.reduceLT,Int.reduceLE,Int.le_refl,Int.reduceNeg,h]
 ·have h2:4096<p:=by omega
  refine⟨0,fun k _=>?_⟩
  show FX56 _ _ _=_
  unfold FX56 B56
  simp only [fr,FX57,B57,FX58,B58,Ya,Yb,Yc,Yd,Ye,Yf,Yg,Yh,Yi,Yj,Int.reduceEq,reduceCtorEq,Yk,Yl,Ym,Yn,Yo,Yp,Yq,Yr,Ys,Yt,Yu,Yv,Yw,Yx,Yy,Yz,YA,YB,rdOf_0,len1,Int.reduceLT,Int.reduceLE,Int.le_refl,Int.reduceNeg,h,h2]
theorem rPow_zero {p:Int} (hp: -4096≤p) (hn:p<0):Ev (fun k=>FX15 k (fr 0) p) (rerr 6):=by
 refine rPow_bad (q:=fr 0) (r:=p) ⟨by decide +kernel,by decide +kernel⟩ (by decide) ?_
 have z1:((ab (0:Rat).num).toList==(⟨#[]⟩:ByteArray).toList)=true:=by rw [e_ab];rfl
 have c1:¬p< -4096:=by omega
 have c2:¬4096<p:=by omega
 refine⟨0,fun k _=>?_⟩
 show FX56 _ _ _=_
 unfold FX56 B56
 simp only [fr,FX57,B57,FX58,B58,Ya,Yb,Yc,Yd,Ye,Yf,Yg,Yh,Yi,Yj,Int.reduceEq,reduceCtorEq,Yk,Yl,Ym,Yn,Yo,Yp,Yq,Yr,Ys,Yt,Yu,Yv,Yw,Yx,Yy,Yz,YA,YB,rdOf_0,len1,Int.reduceLT,Int.reduceLE,Int.le_refl,Int.reduceNeg,c1,c2,hn,z1]
theorem Sm.mono {m n:Nat} {a:Rat} (h:Sm m a) (hmn:m≤n):Sm n a:=⟨Nat.le_trans h.1 hmn,Nat.le_trans h.2 hmn⟩
theorem Sm.mk_ {n:Int} {d s:Nat} (hn:(ab n).size≤s) (hd:(nat d).size≤s) (h0:d≠0):Sm s (mkRat n d):=by
 have hg:Nat.gcd d n.natAbs≠0:=fun e=>h0 (Nat.gcd_eq_zero_iff.1 e).1
 constructor
 ·rw [Rat.num_mkRat,if_neg h0]
  obtain⟨c,hc⟩:=Nat.gcd_dvd_right d n.natAbs
  have hi:∃z:Int,n=(Nat.gcd d n.natAbs:Int)*z:=by
   have:(Nat.gcd d n.natAbs:Int)∣n:=Int.dvd_natAbs.1 (Int.natCast_dvd_natCast.2 (Nat.gcd_dvd_right d n.natAbs))
   exact this
  obtain⟨z,hz⟩:=hi
  have e:n/(Nat.gcd d n.natAbs:Int)=z:=by
   conv=>lhs;lhs;rw [hz]
   exact Int.mul_ediv_cancel_left _ (by omega)
  rw [e]
  refine Nat.le_trans (size_mono ?_) hn
  have:n.natAbs=Nat.gcd d n.natAbs*z.natAbs:=by
   conv=>lhs;rw [hz]
   rw [Int.natAbs_mul,Int.natAbs_natCast]
  rw [this]
  exact Nat.le_mul_of_pos_left _ (Nat.pos_of_ne_zero hg)
 ·rw [Rat.den_mkRat,if_neg h0]
  exact Nat.le_trans (size_div_ _ _) hd
section
variable {a b:Rat} {m n:Nat}
theorem Sm.add (ha:Sm m a) (hb:Sm n b):Sm (m+n+1) (a+b):=by
 rw [Rat.add_def']
 refine Sm.mk_ (sz_add (sz_mul ha.1 (n:=n) (by rw [ab_nat];exact hb.2)) (Nat.le_trans (sz_mul hb.1 (n:=m) (by rw [ab_nat];exact ha.2)) (by omega))) (Nat.le_trans (sz_nmul ha.2 hb.2) (by omega)) (Nat.mul_ne_zero a.den_nz b.den_nz)
theorem Sm.sub (ha:Sm m a) (hb:Sm n b):Sm (m+n+1) (a-b):=by rw [Rat.sub_eq_add_neg];exact ha.add hb.neg
theorem Sm.mul (ha:Sm m a) (hb:Sm n b):Sm (m+n) (a*b):=by
 rw [Rat.mul_def']
 exact Sm.mk_ (sz_mul ha.1 hb.1) (sz_nmul ha.2 hb.2) (Nat.mul_ne_zero a.den_nz b.den_nz)
def okv (q:Rat):TI×ByteArray×Int:=((ng q.num,ab q.num),nat q.den,0)
end
def lng (x y:FV) (n:Nat):Bool:=decide (n<x.1.2.size∨n<x.2.size∨n<y.1.2.size∨n<y.2.size)
theorem lng_ev (x y:FV) (n:Nat):Ev (fun k=>FX11 k x y (n:Int)) (lng x y n):=by
 refine⟨0,fun k _=>?_⟩
 show FX11 _ _ _ _=_
 unfold FX11 B11 lng
 have c:∀s:Nat,((s:Int)>(n:Int))=(n<s):=fun s=>propext ⟨fun h=>by omega,fun h=>by omega⟩
 simp only [c]
 by_cases h1:n<x.1.2.size
 ·simp only [h1,if_true,true_or,decide_true]
 ·by_cases h2:n<x.2.size
  ·simp only [h1,h2,if_true,if_false,true_or,or_true,false_or,decide_true]
  ·by_cases h3:n<y.1.2.size
   ·simp only [h1,h2,h3,if_true,if_false,true_or,or_true,false_or,decide_true]
   ·simp only [h1,h2,h3,if_false,false_or]
theorem cmpQ_self (a:Rat):cmpQ a a=0:=by unfold cmpQ cmpI;rw [if_neg (Int.lt_irrefl _),if_pos rfl]
theorem fr_eq {a b:Rat} (h:((((fr a).1.1==(fr b).1.1)&&((fr a).1.2.toList==(fr b).1.2.toList))&&((fr a).2.toList==(fr b).2.toList))=true):a=b:=by
 rw [Bool.and_eq_true,Bool.and_eq_true,beq_iff_eq,beq_iff_eq,beq_iff_eq,ba_inj,ba_inj]at h
 exact Rat.ext (Go.Proofs.YtjllholdppjllaaGreatN.int_inj h.1.1 h.1.2) (nat_inj.1 h.2)
theorem rCompare_ev {a b:Rat} (ha:Sm 1024 a) (hb:Sm 1024 b):Ev (fun k=>FX33 k (fr a) (fr b)) (cmpQ a b,0):=by
 obtain⟨K1,h1⟩:=rCk_ev (fr a)
 obtain⟨K2,h3⟩:=rCk_ev (fr b)
 obtain⟨K3,h5⟩:=Cmp_ev (ha.mono (n:=10000) (by decide)) (hb.mono (n:=10000) (by decide))
 refine⟨K1+K2+K3+3,fun k hk=>?_⟩
 obtain⟨m,rfl⟩:∃m,k=m+3:=⟨k-3,by omega⟩
 have g1:=h1 (m+2) (by omega)
 have g2:=h3 (m+1) (by omega)
 have g3:=h5 m (by omega)
 dsimp only at g1 g2 g3
 rw [rck_fr ha]at g1
 rw [rck_fr hb]at g2
 show GX33l0 (m+2+1) 2 0 (fr a) (fr b) [fr a,fr b]=_
 rw [GX33l0];unfold B33l0
 simp only [rdOf_0,len2,wrap01,Int.reduceLT,Int.reduceLE,Int.le_refl,bind_some_,if_true,ne_eq,g1,not_true_eq_false,if_false]
 show GX33l0 (m+1+1) 2 1 (fr a) (fr b) [fr a,fr b]=_
 rw [GX33l0];unfold B33l0
 simp only [rdOf_1,len2,wrap11,Int.reduceLT,Int.reduceLE,Int.le_refl,bind_some_,if_true,ne_eq,g2,not_true_eq_false,if_false]
 show GX33l0 (m+1) 2 2 (fr a) (fr b) [fr a,fr b]=_
 rw [GX33l0];unfold B33l0
 rw [if_neg (by decide),cnd_eq_if]
 split
 ·rename_i hq
  rw [fr_eq hq,cmpQ_self]
 ·rw [g3,bind_some_]
theorem rfitInt_ev {x:Int} (h:(ab x).size≤1024):Ev (fun k=>FX50 k (ng x,ab x)) (ng x,ab x,0):=by
 have c:¬1024<((ab x).size:Int):=by omega
 refine⟨0,fun k _=>?_⟩
 show FX50 _ _=_
 unfold FX50 B50
 simp only [fr,Ya,Yb,Yc,Yd,Ye,Yf,Yg,Yh,Yi,Yj,Int.reduceEq,reduceCtorEq,Yk,Yl,Ym,Yn,Yo,Yp,Yq,Yr,Ys,Yt,Yu,Yv,Yw,Yx,Yy,Yz,YA,YB,c]
theorem floor_size {a:Rat} {n:Nat} (ha:Sm n a):(ab a.floor).size≤n:=by
 rw [Rat.floor_def]
 have h0:(a.den:Int)≠0:=by have:=a.den_nz;omega
 obtain⟨d1,d2⟩:=quo_rem (x:=a.num) h0
 have hd:=Nat.div_add_mod a.num.natAbs (a.den:Int).natAbs
 have nsg:∀(s:Bool) (n:Nat),(sg s n).natAbs=n:=fun s n=>by unfold sg;split<;>omega
 refine Nat.le_trans ?_ ha.1
 unfold ab
 refine size_mono ?_
 by_cases hs:a.num<0∧a.num.natAbs%(a.den:Int).natAbs≠0
 ·rw [←(d1 hs).1]
  have h2:2≤(a.den:Int).natAbs:=by
   rcases Nat.lt_or_ge (a.den:Int).natAbs 2 with h|h
   ·have h1:(a.den:Int).natAbs=1:=by omega
    have:=hs.2
    rw [h1,Nat.mod_one]at this
    exact absurd rfl this
   ·exact h
  have h3:=Nat.mul_le_mul_right (a.num.natAbs/(a.den:Int).natAbs) h2
  rw [nsg]
  omega
 ·rw [←(d2 hs).1]
  rw [nsg]
  exact Nat.div_le_self _ _
theorem rFloor_ev {a:Rat} (ha:Sm 1024 a):Ev (fun k=>FX12 k (fr a)) (ng a.floor,ab a.floor,0):=by
 have h1:=rCk_ev (fr a)
 rw [rck_fr ha]at h1
 have h2:=Floor_ev (ha.mono (n:=10000) (by decide))
 have h3:=rfitInt_ev (floor_size ha)
 refine evE (evC h1 (evC h2 h3)) ?_
 rintro k ⟨h1,h2,h3⟩
 try dsimp only [fr]at h1 h2 h3
 show FX12 _ _=_
 unfold FX12 B12
 simp only [fr,Ya,Yb,Yc,Yd,Ye,Yf,Yg,Yh,Yi,Yj,Int.reduceEq,reduceCtorEq,Yk,Yl,Ym,Yn,Yo,Yp,Yq,Yr,Ys,Yt,Yu,Yv,Yw,Yx,Yy,Yz,YA,YB,h1,h2,h3]
theorem rFloor_err {x:FV} (h:rck x≠0):Ev (fun k=>FX12 k x) (false,⟨#[]⟩,rck x):=by
 have h1:=rCk_ev x
 refine evE h1 ?_
 rintro k h1
 try dsimp only [fr]at h1
 show FX12 _ _=_
 unfold FX12 B12
 simp only [fr,FX50,B50,Ya,Yb,Yc,Yd,Ye,Yf,Yg,Yh,Yi,Yj,Int.reduceEq,reduceCtorEq,Yk,Yl,Ym,Yn,Yo,Yp,Yq,Yr,Ys,Yt,Yu,Yv,Yw,Yx,Yy,Yz,YA,YB,h1,h]
theorem half_ev:Ev (fun k=>FX53 k 1 2) (fr (1/2)):=by
 have h:FX53 40 1 2=some (fr (1/2)):=by kernel_rfl
 exact Ev.of (fun k=>m53 k 1 2) h
theorem sm_half:Sm 1 (1/2):=⟨by decide +kernel,by decide +kernel⟩
theorem rRound_ev {a:Rat} (ha:Sm 1022 a):Ev (fun k=>FX13 k (fr a)) (ng (a+1/2).floor,ab (a+1/2).floor,0):=by
 have h1:=rCk_ev (fr a)
 rw [rck_fr (ha.mono (by decide))]at h1
 have h2:=half_ev
 have hs:=ha.add sm_half
 have h3:=Add_ev (ha.mono (n:=10000) (by decide)) (sm_half.mono (n:=10000) (by decide))
 have h4:=Floor_ev (hs.mono (n:=10000) (by decide))
 have h5:=rfitInt_ev (floor_size (hs.mono (n:=1024) (by decide)))
 refine evE (evC h1 (evC h2 (evC h3 (evC h4 h5)))) ?_
 rintro k ⟨h1,h2,h3,h4,h5⟩
 try dsimp only [fr]at h1 h2 h3 h4 h5
 show FX13 _ _=_
 unfold FX13 B13
 simp only [fr,Ya,Yb,Yc,Yd,Ye,Yf,Yg,Yh,Yi,Yj,Int.reduceEq,reduceCtorEq,Yk,Yl,Ym,Yn,Yo,Yp,Yq,Yr,Ys,Yt,Yu,Yv,Yw,Yx,Yy,Yz,YA,YB,h1,h2,h3,h4,h5]
theorem rRound_err {x:FV} (h:rck x≠0):Ev (fun k=>FX13 k x) (false,⟨#[]⟩,rck x):=by
 have h1:=rCk_ev x
 refine evE h1 ?_
 rintro k h1
 try dsimp only [fr]at h1
 show FX13 _ _=_
 unfold FX13 B13
 simp only [fr,FX50,B50,Ya,Yb,Yc,Yd,Ye,Yf,Yg,Yh,Yi,Yj,Int.reduceEq,reduceCtorEq,Yk,Yl,Ym,Yn,Yo,Yp,Yq,Yr,Ys,Yt,Yu,Yv,Yw,Yx,Yy,Yz,YA,YB,h1,h]
theorem refMake_ev {n d:Int} (hn:(ab n).size≤1099511627776) (hd:(ab d).size≤1099511627776) (h0:d≠0):Ev (fun k=>FX90 k (ng n,ab n) (ng d,ab d)) (fr (Rat.divInt n d)):=by
 have h1:=Go.Proofs.YtjllholdppjllaaGreatN.rGcd_ev (m:=n.natAbs) (n:=d.natAbs) hn hd
 have hg:=Nat.pos_of_ne_zero (gcd_ne (n:=n) h0)
 have sg_:(nat (Nat.gcd n.natAbs d.natAbs)).size≤1099511627776:=Nat.le_trans (size_mono (Nat.le_of_dvd (by omega) (Nat.gcd_dvd_right _ _))) hd
 have h2:=Go.Proofs.YtjllholdppjllaaGreatN.rDivMod_ev (m:=n.natAbs) hn sg_
 have h3:=Go.Proofs.YtjllholdppjllaaGreatN.rDivMod_ev (m:=d.natAbs) hd sg_
 rw [if_neg (Nat.ne_of_gt hg)]at h2 h3
 have f1:=RMake_eq (ng n !=ng d) (n.natAbs/Nat.gcd n.natAbs d.natAbs)
 have f3:=fr_div (n:=n) h0
 rw [←f3]
 have h1':Ev (fun k=>galoisref01_Gcd.f k (ab n) (ab d)) _:=h1
 have h2':Ev (fun k=>galoisref01_DivMod.f k (ab n) (nat (Nat.gcd n.natAbs d.natAbs))) _:=h2
 have h3':Ev (fun k=>galoisref01_DivMod.f k (ab d) (nat (Nat.gcd n.natAbs d.natAbs))) _:=h3
 refine evE (evC h1' (evC h2' h3')) ?_
 rintro k ⟨h1',h2',h3'⟩
 try dsimp only [fr]at h1' h2' h3'
 show FX90 _ _ _=_
 unfold FX90 B90
 simp only [fr,FX64,FX118,FX123,Ya,Yb,Yc,Yd,Ye,Yf,Yg,Yh,Yi,Yj,Int.reduceEq,reduceCtorEq,Yk,Yl,Ym,Yn,Yo,Yp,Yq,Yr,Ys,Yt,Yu,Yv,Yw,Yx,Yy,Yz,YA,YB,h1',h2',h3',e_ab,e_ng,f1,h0]
theorem refMakeN_ev {n:Int} {d:Nat} (hn:(ab n).size≤1099511627776) (hd:(nat d).size≤1099511627776) (h0:d≠0):Ev (fun k=>FX90 k (ng n,ab n) (false,nat d)) (fr (mkRat n d)):=by
 have h:=refMake_ev (d:=(d:Int)) hn (by rw [ab_nat];exact hd) (by omega)
 rwa [ng_nat,ab_nat,Rat.divInt_ofNat]at h
theorem refMulD {x:Int} {d:Nat} (hx:(ab x).size≤10000) (hd:(nat d).size≤10000):Ev (fun k=>galoisref02_Mul.f k (ng x) (ab x) false (nat d)) (ng (x*d),ab (x*d)):=by
 have h:=RMul_ev (x:=x) (y:=(d:Int)) (Nat.le_trans hx (by decide)) (by rw [ab_nat];exact Nat.le_trans hd (by decide))
 rwa [ng_nat,ab_nat]at h
theorem refMulDD {d e:Nat} (hd:(nat d).size≤10000) (he:(nat e).size≤10000):Ev (fun k=>galoisref02_Mul.f k false (nat d) false (nat e)) (false,nat (d*e)):=by
 have h:=refMulD (x:=(d:Int)) (by rw [ab_nat];exact hd) he
 rwa [←Int.natCast_mul,ng_nat,ab_nat,ng_nat,ab_nat]at h
section
variable {a b:Rat}
theorem szD {x:Int} {d:Nat} (hx:(ab x).size≤10000) (hd:(nat d).size≤10000):(ab (x*d)).size≤20000:=Nat.le_trans (sz_mul hx (n:=10000) (by rw [ab_nat];exact hd)) (by decide)
theorem refAdd_ev (ha:Sm 10000 a) (hb:Sm 10000 b):Ev (fun k=>FX37 k (fr a) (fr b)) (fr (a+b)):=by
 have h1:=refMulD ha.1 hb.2
 have h2:=refMulD hb.1 ha.2
 have s1:=szD ha.1 hb.2
 have s2:=szD hb.1 ha.2
 have h3:=RAdd_ev (Nat.le_trans s1 (by decide)) (Nat.le_trans s2 (by decide))
 have h4:=refMulDD ha.2 hb.2
 have h5:=refMakeN_ev (n:=a.num*b.den+b.num*a.den) (d:=a.den*b.den) (Nat.le_trans (sz_add s1 s2) (by decide)) (Nat.le_trans (sz_nmul ha.2 hb.2) (by decide)) (Nat.mul_ne_zero a.den_nz b.den_nz)
 rw [←Rat.add_def']at h5
 by_cases h1d:a.den=1
 ·by_cases h2d:b.den=1
  ·have h6:=RAdd_ev (x:=a.num) (y:=b.num) (Nat.le_trans ha.1 (by decide)) (Nat.le_trans hb.1 (by decide))
   rw [←add_one h1d h2d]
   refine evE h6 ?_
   rintro k h6
   try dsimp only [fr]at h6
   show FX37 _ _ _=_
   unfold FX37 B37
   simp only [fr,FX67,B67,FX87,FX88,B88,FX89,Ya,Yb,Yc,Yd,Ye,Yf,Yg,Yh,Yi,Yj,Int.reduceEq,reduceCtorEq,Yk,Yl,Ym,Yn,Yo,Yp,Yq,Yr,Ys,Yt,Yu,Yv,Yw,Yx,Yy,Yz,YA,YB,h6,e_one,h1d,h2d]
  ·refine evE (evC h1 (evC h2 (evC h3 (evC h4 h5)))) ?_
   rintro k ⟨h1,h2,h3,h4,h5⟩
   try dsimp only [fr]at h1 h2 h3 h4 h5
   show FX37 _ _ _=_
   unfold FX37 B37
   simp only [fr,FX67,B67,FX87,FX88,B88,FX89,Ya,Yb,Yc,Yd,Ye,Yf,Yg,Yh,Yi,Yj,Int.reduceEq,reduceCtorEq,Yk,Yl,Ym,Yn,Yo,Yp,Yq,Yr,Ys,Yt,Yu,Yv,Yw,Yx,Yy,Yz,YA,YB,h1,h2,h3,h4,h5,e_one,h2d,ite_self]
 ·refine evE (evC h1 (evC h2 (evC h3 (evC h4 h5)))) ?_
  rintro k ⟨h1,h2,h3,h4,h5⟩
  try dsimp only [fr]at h1 h2 h3 h4 h5
  show FX37 _ _ _=_
  unfold FX37 B37
  simp only [fr,FX67,B67,FX87,FX88,B88,FX89,Ya,Yb,Yc,Yd,Ye,Yf,Yg,Yh,Yi,Yj,Int.reduceEq,reduceCtorEq,Yk,Yl,Ym,Yn,Yo,Yp,Yq,Yr,Ys,Yt,Yu,Yv,Yw,Yx,Yy,Yz,YA,YB,h1,h2,h3,h4,h5,e_one,h1d]
theorem num_ne (h:a≠0):a.num≠0:=fun e=>h (Rat.num_eq_zero.1 e)
theorem refInv_ev (h:a≠0):Ev (fun k=>FX22 k (fr a)) (fr a⁻¹):=by
 have h0:=num_ne h
 rw [fr_inv h]
 refine⟨0,fun k _=>?_⟩
 show FX22 _ _=_
 unfold FX22 B22
 simp only [fr,Ya,Yb,Yc,Yd,Ye,Yf,Yg,Yh,Yi,Yj,Int.reduceEq,reduceCtorEq,Yk,Yl,Ym,Yn,Yo,Yp,Yq,Yr,Ys,Yt,Yu,Yv,Yw,Yx,Yy,Yz,YA,YB,e_ab,h0]
def bigE (q:Rat):Int:=if big q=true then 4 else 0
theorem refFits_ev (q:Rat):Ev (fun k=>FX63 k (fr q)) (bigE q):=by
 have f1:=rFits_eq (ng q.num) (ab q.num)
 have f2:=rFits1_eq (nat q.den)
 unfold bigE big
 by_cases h1:1024<(ab q.num).size
 ·have h1':((ab q.num).size:Int)>1024:=by omega
  rw [if_pos h1']at f1
  rw [if_pos (decide_eq_true (Or.inl h1))]
  refine⟨0,fun k _=>?_⟩
  show FX63 _ _=_
  unfold FX63 B63
  simp only [fr,FX65,FX117,Ya,Yb,Yc,Yd,Ye,Yf,Yg,Yh,Yi,Yj,Int.reduceEq,reduceCtorEq,Yk,Yl,Ym,Yn,Yo,Yp,Yq,Yr,Ys,Yt,Yu,Yv,Yw,Yx,Yy,Yz,YA,YB,f1,f2]
 ·have h1':¬((ab q.num).size:Int)>1024:=by omega
  rw [if_neg h1']at f1
  by_cases h2:1024<(nat q.den).size
  ·have h2':((nat q.den).size:Int)>1024:=by omega
   rw [if_pos h2']at f2
   rw [if_pos (decide_eq_true (Or.inr h2))]
   refine⟨0,fun k _=>?_⟩
   show FX63 _ _=_
   unfold FX63 B63
   simp only [fr,FX65,FX117,Ya,Yb,Yc,Yd,Ye,Yf,Yg,Yh,Yi,Yj,Int.reduceEq,reduceCtorEq,Yk,Yl,Ym,Yn,Yo,Yp,Yq,Yr,Ys,Yt,Yu,Yv,Yw,Yx,Yy,Yz,YA,YB,f1,f2]
  ·have h2':¬((nat q.den).size:Int)>1024:=by omega
   rw [if_neg h2']at f2
   rw [if_neg (show¬decide _=true from fun h=>(of_decide_eq_true h).elim h1 h2)]
   refine⟨0,fun k _=>?_⟩
   show FX63 _ _=_
   unfold FX63 B63
   simp only [fr,FX65,FX117,Ya,Yb,Yc,Yd,Ye,Yf,Yg,Yh,Yi,Yj,Int.reduceEq,reduceCtorEq,Yk,Yl,Ym,Yn,Yo,Yp,Yq,Yr,Ys,Yt,Yu,Yv,Yw,Yx,Yy,Yz,YA,YB,f1,f2]
theorem right_err {e:Int} {w:FV} (h:e≠0):Ev (fun k=>FX18 k ((false,⟨#[]⟩),⟨#[]⟩) e e w) true:=by
 refine⟨0,fun k _=>?_⟩
 show FX18 _ _ _ _ _=_
 unfold FX18 B18
 simp only [fr,Ya,Yb,Yc,Yd,Ye,Yf,Yg,Yh,Yi,Yj,Int.reduceEq,reduceCtorEq,Yk,Yl,Ym,Yn,Yo,Yp,Yq,Yr,Ys,Yt,Yu,Yv,Yw,Yx,Yy,Yz,YA,YB,h]
theorem right_ok {q:Rat} (h:big q=false):Ev (fun k=>FX18 k ((ng q.num,ab q.num),nat q.den) 0 0 (fr q)) true:=by
 have h1:=refFits_ev q
 unfold bigE at h1
 rw [h,if_neg Bool.false_ne_true]at h1
 refine evE h1 ?_
 rintro k h1
 try dsimp only [fr]at h1
 show FX18 _ _ _ _ _=_
 unfold FX18 B18
 simp only [fr,Ya,Yb,Yc,Yd,Ye,Yf,Yg,Yh,Yi,Yj,Int.reduceEq,reduceCtorEq,Yk,Yl,Ym,Yn,Yo,Yp,Yq,Yr,Ys,Yt,Yu,Yv,Yw,Yx,Yy,Yz,YA,YB,h1]
end
theorem lng_sm {a b:Rat} {n:Nat} (h:lng (fr a) (fr b) n=false):Sm n a∧Sm n b:=by
 unfold lng at h
 have h2:=of_decide_eq_false h
 unfold fr at h2
 simp only at h2
 unfold Sm
 omega
def isq (x:Int) (r:Nat):Bool×ByteArray×Bool:=if x<0 then(false,⟨#[]⟩,false)else if r*r=x.natAbs then(false,nat r,true)else(false,⟨#[]⟩,false)
theorem root_size {x:Int} {r:Nat} (hx:(ab x).size≤1024) (h:r^2≤x.natAbs):(nat r).size≤1024:=by
 refine Nat.le_trans (size_mono (Nat.le_trans ?_ h)) hx
 rw [Nat.pow_succ,Nat.pow_one]
 rcases Nat.eq_zero_or_pos r with h0|h0
 ·omega
 ·exact Nat.le_mul_of_pos_left r h0
theorem isq_step {x:Int} {r:Nat} (hs:¬x<0):(if(nat (r*r)).toList=(ab x).toList then some (false,nat r,true)else some (false,(⟨#[]⟩:ByteArray),false))=some (isq x r):=by
 unfold isq
 rw [if_neg hs]
 by_cases h:r*r=x.natAbs
 ·rw [if_pos h,if_pos (by unfold ab;rw [h])]
 ·rw [if_neg h,if_neg (show¬(nat (r*r)).toList=(ab x).toList from fun h2=>h (nat_inj.1 (show nat (r*r)=nat x.natAbs from toList_ext.1 h2)))]
theorem ISqrt_ev {x:Int} (hx:(ab x).size≤1024):∃r,r^2≤x.natAbs∧x.natAbs<(r+1)^2∧Ev (fun k=>exact_IntSqrt.f k (ng x) (ab x)) (isq x r):=by
 obtain⟨s,r1,r2,r3⟩:=NatRoot_ev (n:=x.natAbs) (K:=2) (by decide) (by decide) (Nat.le_trans hx (by decide))
 have hz:=root_size hx r1
 refine⟨s,r1,r2,?_⟩
 by_cases hs:x<0
 ·rw [show isq x s=(false,⟨#[]⟩,false)from if_pos hs]
  exact Ev.congr (fun k=>if_pos (ng_neg hs)) (Ev.now _)
 ·refine Ev.congr (fun k=>if_neg (by rw [ng_pos (by omega)];exact Bool.false_ne_true)) (Ev.bind r3 (Ev.bind (NatMul_ev (Nat.le_trans hz (by decide)) (Nat.le_trans hz (by decide))) (Ev.congr (fun k=>isq_step hs) (Ev.now _))))
theorem isq_cases (x:Int) (r:Nat):isq x r=(false,nat r,true)∨isq x r=(false,⟨#[]⟩,false):=by
 unfold isq
 split
 ·exact Or.inr rfl
 ·split
  ·exact Or.inl rfl
  ·exact Or.inr rfl
theorem ISqrtD_ev {d:Nat} (hx:(nat d).size≤1024):∃r,r^2≤d∧d<(r+1)^2∧Ev (fun k=>exact_IntSqrt.f k false (nat d)) (isq (d:Int) r):=by
 have h:=ISqrt_ev (x:=(d:Int)) (by rw [ab_nat];exact hx)
 rwa [ng_nat,ab_nat,Int.natAbs_natCast]at h
theorem int0_ev:Ev (fun k=>FX112 k 0) ((false,⟨#[]⟩),⟨#[1]⟩):=by
 have h:FX112 40 0=some ((false,⟨#[]⟩),⟨#[1]⟩):=by kernel_rfl
 exact Ev.of (fun k=>m112 k 0) h
theorem rIsSquare_err {x:FV} (h:rck x≠0):Ev (fun k=>FX14 k x) ((false,⟨#[]⟩),⟨#[]⟩,false,rck x):=by
 have h1:=rCk_ev x
 refine evE h1 ?_
 rintro k h1
 try dsimp only [fr]at h1
 show FX14 _ _=_
 unfold FX14 B14
 simp only [fr,Ya,Yb,Yc,Yd,Ye,Yf,Yg,Yh,Yi,Yj,Int.reduceEq,reduceCtorEq,Yk,Yl,Ym,Yn,Yo,Yp,Yq,Yr,Ys,Yt,Yu,Yv,Yw,Yx,Yy,Yz,YA,YB,h1,h]
theorem Sqrt_ok {a:Rat} {p q:Nat} (h1:Ev (fun k=>exact_IntSqrt.f k (ng a.num) (ab a.num)) (false,nat p,true)) (h2:Ev (fun k=>exact_IntSqrt.f k false (nat a.den)) (false,nat q,true)):
  Ev (fun k=>FX54 k (fr a)) ((false,nat p),nat q,true):=by
 refine evE (evC h1 h2) ?_
 rintro k ⟨h1,h2⟩
 try dsimp only [fr]at h1 h2
 show FX54 _ _=_
 unfold FX54 B54
 simp only [fr,FX111,Ya,Yb,Yc,Yd,Ye,Yf,Yg,Yh,Yi,Yj,Int.reduceEq,reduceCtorEq,Yk,Yl,Ym,Yn,Yo,Yp,Yq,Yr,Ys,Yt,Yu,Yv,Yw,Yx,Yy,Yz,YA,YB,h1,h2]
theorem Sqrt_no1 {a:Rat} {z:Bool×ByteArray×Bool} (h1:Ev (fun k=>exact_IntSqrt.f k (ng a.num) (ab a.num)) (false,⟨#[]⟩,false)) (h2:Ev (fun k=>exact_IntSqrt.f k false (nat a.den)) z):
  Ev (fun k=>FX54 k (fr a)) ((false,⟨#[]⟩),⟨#[1]⟩,false):=by
 have h3:=int0_ev
 refine evE (evC h1 (evC h2 h3)) ?_
 rintro k ⟨h1,h2,h3⟩
 try dsimp only [fr]at h1 h2 h3
 show FX54 _ _=_
 unfold FX54 B54
 simp only [fr,FX111,Ya,Yb,Yc,Yd,Ye,Yf,Yg,Yh,Yi,Yj,Int.reduceEq,reduceCtorEq,Yk,Yl,Ym,Yn,Yo,Yp,Yq,Yr,Ys,Yt,Yu,Yv,Yw,Yx,Yy,Yz,YA,YB,h1,h2,h3]
theorem Sqrt_no2 {a:Rat} {z:Bool×ByteArray×Bool} (h1:Ev (fun k=>exact_IntSqrt.f k (ng a.num) (ab a.num)) z) (h2:Ev (fun k=>exact_IntSqrt.f k false (nat a.den)) (false,⟨#[]⟩,false)):
  Ev (fun k=>FX54 k (fr a)) ((false,⟨#[]⟩),⟨#[1]⟩,false):=by
 have h3:=int0_ev
 refine evE (evC h1 (evC h2 h3)) ?_
 rintro k ⟨h1,h2,h3⟩
 try dsimp only [fr]at h1 h2 h3
 show FX54 _ _=_
 unfold FX54 B54
 simp only [fr,FX111,Ya,Yb,Yc,Yd,Ye,Yf,Yg,Yh,Yi,Yj,Int.reduceEq,reduceCtorEq,Yk,Yl,Ym,Yn,Yo,Yp,Yq,Yr,Ys,Yt,Yu,Yv,Yw,Yx,Yy,Yz,YA,YB,h1,h2,h3,ite_self]
theorem rIsSquare_ok {a:Rat} {z:FV} (ha:Sm 1024 a) (h:Ev (fun k=>FX54 k (fr a)) (z.1,z.2,true)):Ev (fun k=>FX14 k (fr a)) (z.1,z.2,true,0):=by
 have h1:=rCk_ev (fr a)
 rw [rck_fr ha]at h1
 refine evE (evC h1 h) ?_
 rintro k ⟨h1,h⟩
 try dsimp only [fr]at h1 h
 show FX14 _ _=_
 unfold FX14 B14
 simp only [fr,Ya,Yb,Yc,Yd,Ye,Yf,Yg,Yh,Yi,Yj,Int.reduceEq,reduceCtorEq,Yk,Yl,Ym,Yn,Yo,Yp,Yq,Yr,Ys,Yt,Yu,Yv,Yw,Yx,Yy,Yz,YA,YB,h1,h]
theorem rIsSquare_no {a:Rat} {z:FV} (ha:Sm 1024 a) (h:Ev (fun k=>FX54 k (fr a)) (z.1,z.2,false)):Ev (fun k=>FX14 k (fr a)) ((false,⟨#[]⟩),⟨#[]⟩,false,0):=by
 have h1:=rCk_ev (fr a)
 rw [rck_fr ha]at h1
 refine evE (evC h1 h) ?_
 rintro k ⟨h1,h⟩
 try dsimp only [fr]at h1 h
 show FX14 _ _=_
 unfold FX14 B14
 simp only [fr,Ya,Yb,Yc,Yd,Ye,Yf,Yg,Yh,Yi,Yj,Int.reduceEq,reduceCtorEq,Yk,Yl,Ym,Yn,Yo,Yp,Yq,Yr,Ys,Yt,Yu,Yv,Yw,Yx,Yy,Yz,YA,YB,h1,h]
theorem RSqrt_ev {x:Int} {r:Nat} (hx:(ab x).size≤1024) (r1:r^2≤x.natAbs) (r2:x.natAbs<(r+1)^2):Ev (fun k=>galoisref02_IsSquare.f k (ng x) (ab x)) (isq x r):=by
 obtain⟨s,s1,s2,s3⟩:=rSqrt_ev (n:=x.natAbs) (Nat.le_trans hx (by decide))
 have e:=root_unique s1 s2 r1 r2
 subst e
 have hz:=root_size hx r1
 refine Ev.bind s3 ?_
 by_cases hs:x<0
 ·rw [show isq x s=(false,⟨#[]⟩,false)from if_pos hs]
  exact Ev.congr (fun k=>if_pos (ng_neg hs)) (Ev.now _)
 ·exact Ev.congr (fun k=>if_neg (by rw [ng_pos (by omega)];exact Bool.false_ne_true)) (Ev.bind (Go.Proofs.YtjllholdppjllaaGreatN.rMul_ev (Nat.le_trans hz (by decide)) (Nat.le_trans hz (by decide))) (Ev.congr (fun k=>isq_step hs) (Ev.now _)))
theorem RSqrtD_ev {d r:Nat} (hx:(nat d).size≤1024) (r1:r^2≤d) (r2:d<(r+1)^2):Ev (fun k=>galoisref02_IsSquare.f k false (nat d)) (isq (d:Int) r):=by
 have h:=RSqrt_ev (x:=(d:Int)) (r:=r) (by rw [ab_nat];exact hx) (by rw [Int.natAbs_natCast];exact r1) (by rw [Int.natAbs_natCast];exact r2)
 rwa [ng_nat,ab_nat]at h
theorem refSq_ok {a:Rat} {p q:Nat} (h1:Ev (fun k=>galoisref02_IsSquare.f k (ng a.num) (ab a.num)) (false,nat p,true)) (h2:Ev (fun k=>galoisref02_IsSquare.f k false (nat a.den)) (false,nat q,true)):
  Ev (fun k=>FX19 k (fr a)) ((false,nat p),nat q,true):=by
 refine evE (evC h1 h2) ?_
 rintro k ⟨h1,h2⟩
 try dsimp only [fr]at h1 h2
 show FX19 _ _=_
 unfold FX19 B19
 simp only [fr,FX66,FX67,B67,Ya,Yb,Yc,Yd,Ye,Yf,Yg,Yh,Yi,Yj,Int.reduceEq,reduceCtorEq,Yk,Yl,Ym,Yn,Yo,Yp,Yq,Yr,Ys,Yt,Yu,Yv,Yw,Yx,Yy,Yz,YA,YB,h1,h2]
theorem refSq_no1 {a:Rat} {z:Bool×ByteArray×Bool} (h1:Ev (fun k=>galoisref02_IsSquare.f k (ng a.num) (ab a.num)) (false,⟨#[]⟩,false)) (h2:Ev (fun k=>galoisref02_IsSquare.f k false (nat a.den)) z):
  Ev (fun k=>FX19 k (fr a)) ((false,⟨#[]⟩),⟨#[1]⟩,false):=by
 refine evE (evC h1 h2) ?_
 rintro k ⟨h1,h2⟩
 try dsimp only [fr]at h1 h2
 show FX19 _ _=_
 unfold FX19 B19
 simp only [fr,FX66,FX67,B67,Ya,Yb,Yc,Yd,Ye,Yf,Yg,Yh,Yi,Yj,Int.reduceEq,reduceCtorEq,Yk,Yl,Ym,Yn,Yo,Yp,Yq,Yr,Ys,Yt,Yu,Yv,Yw,Yx,Yy,Yz,YA,YB,h1,h2]
theorem refSq_no2 {a:Rat} {z:Bool×ByteArray×Bool} (h1:Ev (fun k=>galoisref02_IsSquare.f k (ng a.num) (ab a.num)) z) (h2:Ev (fun k=>galoisref02_IsSquare.f k false (nat a.den)) (false,⟨#[]⟩,false)):
  Ev (fun k=>FX19 k (fr a)) ((false,⟨#[]⟩),⟨#[1]⟩,false):=by
 refine evE (evC h1 h2) ?_
 rintro k ⟨h1,h2⟩
 try dsimp only [fr]at h1 h2
 show FX19 _ _=_
 unfold FX19 B19
 simp only [fr,FX66,FX67,B67,Ya,Yb,Yc,Yd,Ye,Yf,Yg,Yh,Yi,Yj,Int.reduceEq,reduceCtorEq,Yk,Yl,Ym,Yn,Yo,Yp,Yq,Yr,Ys,Yt,Yu,Yv,Yw,Yx,Yy,Yz,YA,YB,h1,h2,ite_self]
theorem sq_both {a:Rat} (ha:Sm 1024 a):(∃p q:Nat,Ev (fun k=>FX14 k (fr a)) ((false,nat p),nat q,true,0)∧Ev (fun k=>FX19 k (fr a)) ((false,nat p),nat q,true))∨
  (Ev (fun k=>FX14 k (fr a)) ((false,⟨#[]⟩),⟨#[]⟩,false,0)∧Ev (fun k=>FX19 k (fr a)) ((false,⟨#[]⟩),⟨#[1]⟩,false)):=by
 obtain⟨r,r1,r2,r3⟩:=ISqrt_ev ha.1
 obtain⟨s,s1,s2,s3⟩:=ISqrtD_ev ha.2
 have t3:=RSqrt_ev ha.1 r1 r2
 have u3:=RSqrtD_ev ha.2 s1 s2
 rcases isq_cases a.num r with e|e<;>rcases isq_cases a.den s with f|f<;>rw [e]at r3 t3<;>rw [f]at s3 u3
 ·exact Or.inl ⟨r,s,rIsSquare_ok (z:=((false,nat r),nat s)) ha (Sqrt_ok r3 s3),refSq_ok t3 u3⟩
 ·exact Or.inr ⟨rIsSquare_no (z:=((false,⟨#[]⟩),⟨#[1]⟩)) ha (Sqrt_no2 r3 s3),refSq_no2 t3 u3⟩
 ·exact Or.inr ⟨rIsSquare_no (z:=((false,⟨#[]⟩),⟨#[1]⟩)) ha (Sqrt_no1 r3 s3),refSq_no1 t3 u3⟩
 ·exact Or.inr ⟨rIsSquare_no (z:=((false,⟨#[]⟩),⟨#[1]⟩)) ha (Sqrt_no1 r3 s3),refSq_no1 t3 u3⟩
theorem refFloor_ev {a:Rat} (ha:Sm 10000 a):Ev (fun k=>FX20 k (fr a)) (ng a.floor,ab a.floor):=by
 have h1:=RDivMod_ev (x:=a.num) (y:=(a.den:Int)) (Nat.le_trans ha.1 (by decide)) (by rw [ab_nat];exact Nat.le_trans ha.2 (by decide)) (by have:=a.den_nz;omega)
 rw [ng_nat,ab_nat,←Rat.floor_def]at h1
 refine evE h1 ?_
 rintro k h1
 try dsimp only [fr]at h1
 show FX20 _ _=_
 unfold FX20 B20
 simp only [fr,FX67,B67,FX68,Ya,Yb,Yc,Yd,Ye,Yf,Yg,Yh,Yi,Yj,Int.reduceEq,reduceCtorEq,Yk,Yl,Ym,Yn,Yo,Yp,Yq,Yr,Ys,Yt,Yu,Yv,Yw,Yx,Yy,Yz,YA,YB,h1]
theorem refHalf:Ev (fun k=>FX69 k 1 2) (fr (1/2)):=by
 have h:FX69 40 1 2=some (fr (1/2)):=by kernel_rfl
 exact Ev.of (fun k=>m69 k 1 2) h
theorem refRound_ev {a:Rat} (ha:Sm 1022 a):Ev (fun k=>FX21 k (fr a)) (ng (a+1/2).floor,ab (a+1/2).floor):=by
 have h1:=refHalf
 have h2:=refAdd_ev (ha.mono (n:=10000) (by decide)) (sm_half.mono (n:=10000) (by decide))
 have h3:=refFloor_ev ((ha.add sm_half).mono (n:=10000) (by decide))
 refine evE (evC h1 (evC h2 h3)) ?_
 rintro k ⟨h1,h2,h3⟩
 try dsimp only [fr]at h1 h2 h3
 show FX21 _ _=_
 unfold FX21 B21
 simp only [fr,Ya,Yb,Yc,Yd,Ye,Yf,Yg,Yh,Yi,Yj,Int.reduceEq,reduceCtorEq,Yk,Yl,Ym,Yn,Yo,Yp,Yq,Yr,Ys,Yt,Yu,Yv,Yw,Yx,Yy,Yz,YA,YB,h1,h2,h3]
theorem whole_err {e:Int} {w:Bool×ByteArray} (h:e≠0):Ev (fun k=>FX17 k (false,⟨#[]⟩) e e w) true:=by
 refine⟨0,fun k _=>?_⟩
 show FX17 _ _ _ _ _=_
 unfold FX17 B17
 simp only [fr,FX65,Ya,Yb,Yc,Yd,Ye,Yf,Yg,Yh,Yi,Yj,Int.reduceEq,reduceCtorEq,Yk,Yl,Ym,Yn,Yo,Yp,Yq,Yr,Ys,Yt,Yu,Yv,Yw,Yx,Yy,Yz,YA,YB,h]
theorem whole_ok {x:Int} (h:(ab x).size≤1024):Ev (fun k=>FX17 k (ng x,ab x) 0 0 (ng x,ab x)) true:=by
 have f1:=rFits_eq (ng x) (ab x)
 rw [if_neg (by omega)]at f1
 refine⟨0,fun k _=>?_⟩
 show FX17 _ _ _ _ _=_
 unfold FX17 B17
 simp only [fr,FX65,Ya,Yb,Yc,Yd,Ye,Yf,Yg,Yh,Yi,Yj,Int.reduceEq,reduceCtorEq,Yk,Yl,Ym,Yn,Yo,Yp,Yq,Yr,Ys,Yt,Yu,Yv,Yw,Yx,Yy,Yz,YA,YB,f1]
theorem RPow_fit {x:Int} {e:Nat} (hx:(ab x).size≤1024) (he:e≤4096) (hf:(ab (x^e)).size≤1024):Ev (fun k=>galoisref02_PowWithin.f k (ng x) (ab x) (e:Int) 1024) (ng (x^e),ab (x^e),true):=by
 obtain⟨K,h⟩:=rPowWithin_ev (m:=x.natAbs) (e:=e) hx (by omega)
 refine⟨K,fun k hk=>?_⟩
 replace h:galoisref01_PowWithin.f k (ab x) (e:Int) 1024=some (powR x.natAbs e):=h k hk
 rw [show powR x.natAbs e=(nat (x.natAbs^e),true)from if_pos (by rw [←ab_pow];exact hf)]at h
 show galoisref02_PowWithin.f _ _ _ _ _=_
 unfold galoisref02_PowWithin.f
 by_cases hs:x<0
 ·have hi:=RMake_eq (decide (Int.tmod (e:Int) 2=1)) (x.natAbs^e)
  rw [sg_pow hs]at hi
  rw [h,bind_some_,if_pos (ng_neg hs)]
  rw [show(Int.tmod (e:Int) 2==1)=decide (Int.tmod (e:Int) 2=1)from rfl,hi,bind_some_]
 ·have hi:=RMake_eq false (x.natAbs^e)
  rw [sg_pow0 (by omega)]at hi
  rw [h,bind_some_,if_neg (by rw [ng_pos (by omega)];exact Bool.false_ne_true),hi,bind_some_]
theorem RPow_big {x:Int} {e:Nat} (hx:(ab x).size≤1024) (he:e≤4096) (hf:¬(ab (x^e)).size≤1024):∃s a,Ev (fun k=>galoisref02_PowWithin.f k (ng x) (ab x) (e:Int) 1024) (s,a,false):=by
 obtain⟨K,h⟩:=rPowWithin_ev (m:=x.natAbs) (e:=e) hx (by omega)
 have hp:powR x.natAbs e=(⟨#[]⟩,false):=if_neg (by rw [←ab_pow];exact hf)
 by_cases hs:x<0
 ·obtain⟨⟨s,a⟩,hi⟩:∃q,galoisref02_Make.f (decide (Int.tmod (e:Int) 2=1)) ⟨#[]⟩=some q:=by unfold galoisref02_Make.f;split<;>exact⟨_,rfl⟩
  refine⟨s,a,K,fun k hk=>?_⟩
  replace h:galoisref01_PowWithin.f k (ab x) (e:Int) 1024=some (powR x.natAbs e):=h k hk
  show galoisref02_PowWithin.f _ _ _ _ _=_
  unfold galoisref02_PowWithin.f
  rw [h,bind_some_,if_pos (ng_neg hs),hp]
  rw [show(Int.tmod (e:Int) 2==1)=decide (Int.tmod (e:Int) 2=1)from rfl,hi,bind_some_]
 ·obtain⟨⟨s,a⟩,hi⟩:∃q,galoisref02_Make.f false ⟨#[]⟩=some q:=⟨_,rfl⟩
  refine⟨s,a,K,fun k hk=>?_⟩
  replace h:galoisref01_PowWithin.f k (ab x) (e:Int) 1024=some (powR x.natAbs e):=h k hk
  show galoisref02_PowWithin.f _ _ _ _ _=_
  unfold galoisref02_PowWithin.f
  rw [h,bind_some_,if_neg (by rw [ng_pos (by omega)];exact Bool.false_ne_true),hp,hi,bind_some_]
section
variable {a:Rat} {e:Nat}
theorem refPow_fit (ha:Sm 1024 a) (he:e≤4096) (hf:big (a^e)=false):Ev (fun k=>FX23 k (fr a) (e:Int) 1024) ((ng (a^e).num,ab (a^e).num),nat (a^e).den,true):=by
 have hf2:=of_decide_eq_false hf
 rw [Rat.num_pow,Rat.den_pow]at*
 have h1:=RPow_fit ha.1 he (by omega)
 have h2:=rPowWithin_ev (m:=a.den) (e:=e) ha.2 (by omega)
 rw [show powR a.den e=(nat (a.den^e),true)from if_pos (by omega)]at h2
 refine evE (evC h1 h2) ?_
 rintro k ⟨h1,h2⟩
 try dsimp only [fr]at h1 h2
 show FX23 _ _ _ _=_
 unfold FX23 B23
 simp only [fr,FX70,FX71,Ya,Yb,Yc,Yd,Ye,Yf,Yg,Yh,Yi,Yj,Int.reduceEq,reduceCtorEq,Yk,Yl,Ym,Yn,Yo,Yp,Yq,Yr,Ys,Yt,Yu,Yv,Yw,Yx,Yy,Yz,YA,YB,h1,h2]
theorem refPow_big (ha:Sm 1024 a) (he:e≤4096) (hf:big (a^e)=true):∃z:FV,Ev (fun k=>FX23 k (fr a) (e:Int) 1024) (z.1,z.2,false):=by
 have hf2:=of_decide_eq_true hf
 rw [Rat.num_pow,Rat.den_pow]at hf2
 have h2:=rPowWithin_ev (m:=a.den) (e:=e) ha.2 (by omega)
 by_cases hn:(ab (a.num^e)).size≤1024
 ·have h1:=RPow_fit ha.1 he hn
  rw [show powR a.den e=(⟨#[]⟩,false)from if_neg (by omega)]at h2
  refine⟨((ng (a.num^e),ab (a.num^e)),⟨#[]⟩),?_⟩
  refine evE (evC h1 h2) ?_
  rintro k ⟨h1,h2⟩
  try dsimp only [fr]at h1 h2
  show FX23 _ _ _ _=_
  unfold FX23 B23
  simp only [fr,FX70,FX71,Ya,Yb,Yc,Yd,Ye,Yf,Yg,Yh,Yi,Yj,Int.reduceEq,reduceCtorEq,Yk,Yl,Ym,Yn,Yo,Yp,Yq,Yr,Ys,Yt,Yu,Yv,Yw,Yx,Yy,Yz,YA,YB,h1,h2]
 ·obtain⟨s,b,h1⟩:=RPow_big ha.1 he hn
  refine⟨((s,b),(powR a.den e).1),?_⟩
  refine evE (evC h1 h2) ?_
  rintro k ⟨h1,h2⟩
  try dsimp only [fr]at h1 h2
  show FX23 _ _ _ _=_
  unfold FX23 B23
  simp only [fr,FX70,FX71,Ya,Yb,Yc,Yd,Ye,Yf,Yg,Yh,Yi,Yj,Int.reduceEq,reduceCtorEq,Yk,Yl,Ym,Yn,Yo,Yp,Yq,Yr,Ys,Yt,Yu,Yv,Yw,Yx,Yy,Yz,YA,YB,h1,h2]
end
theorem okv_of {q:Rat} (h:big q=false):rbnd q=okv q:=if_neg (by rw [h];exact Bool.false_ne_true)
theorem rounds_ev (x:FV) (p:Int):Ev (fun k=>FX3 k x p) true:=by
 have aw:=awake_ev
 have hl:Ev (fun k=>FX11 k x x 40) (lng x x 40):=lng_ev x x 40
 cases hc:lng x x 40 with
 |true=>
  rw [hc]at hl
  refine evE (evC aw hl) ?_
  rintro k ⟨aw,hl⟩
  try dsimp only [fr]at aw hl
  show FX3 _ _ _=_
  unfold FX3 B3
  simp only [fr,FX22,B22,Ya,Yb,Yc,Yd,Ye,Yf,Yg,Yh,Yi,Yj,Int.reduceEq,reduceCtorEq,Yk,Yl,Ym,Yn,Yo,Yp,Yq,Yr,Ys,Yt,Yu,Yv,Yw,Yx,Yy,Yz,YA,YB,aw,hl]
 |false=>
  rw [hc]at hl
  have hck:=RCk_ev x
  by_cases hx:rck x=0
  ·rw [hx]at hck
   obtain⟨a,rfl,sa⟩:=rck_zero hx
   have sm:=(lng_sm hc).1
   have h1:=rFloor_ev sa
   have h2:=rRound_ev (sm.mono (n:=1022) (by decide))
   have h5:=refFloor_ev (sa.mono (n:=10000) (by decide))
   have h6:=refRound_ev (sm.mono (n:=1022) (by decide))
   have g1:=whole_ok (Nat.le_trans (floor_size sm) (by decide))
   have g2:=whole_ok (Nat.le_trans (floor_size (sm.add sm_half)) (by decide))
   rcases sq_both sa with⟨u,v,h7,h8⟩| ⟨h7,h8⟩
   ·rcases Int.lt_or_le p (-4096)with c1|c1
    ·have h4:=rPow_range sa (p:=p) (by omega)
     have g3:=right_err (e:=3) (w:=fr a) (by decide)
     refine evE (evC aw (evC hl (evC hck (evC h1 (evC h2 (evC h4 (evC h5 (evC h6 (evC h7 (evC h8 (evC g1 (evC g2 g3)))))))))))) ?_
     rintro k ⟨aw,hl,hck,h1,h2,h4,h5,h6,h7,h8,g1,g2,g3⟩
     try dsimp only [fr]at aw hl hck h1 h2 h4 h5 h6 h7 h8 g1 g2 g3
     show FX3 _ _ _=_
     unfold FX3 B3
     simp only [fr,Ya,Yb,Yc,Yd,Ye,Yf,Yg,Yh,Yi,Yj,Int.reduceEq,reduceCtorEq,Yk,Yl,Ym,Yn,Yo,Yp,Yq,Yr,Ys,Yt,Yu,Yv,Yw,Yx,Yy,Yz,YA,YB,aw,hl,hck,h1,h2,h4,h5,h6,h7,h8,g1,g2,g3,rerr,c1]
    ·rcases Int.lt_or_le 4096 p with c2|c2
     ·have h4:=rPow_range sa (p:=p) (by omega)
      have g3:=right_err (e:=3) (w:=fr a) (by decide)
      have d1:¬p< -4096:=by omega
      refine evE (evC aw (evC hl (evC hck (evC h1 (evC h2 (evC h4 (evC h5 (evC h6 (evC h7 (evC h8 (evC g1 (evC g2 g3)))))))))))) ?_
      rintro k ⟨aw,hl,hck,h1,h2,h4,h5,h6,h7,h8,g1,g2,g3⟩
      try dsimp only [fr]at aw hl hck h1 h2 h4 h5 h6 h7 h8 g1 g2 g3
      show FX3 _ _ _=_
      unfold FX3 B3
      simp only [fr,Ya,Yb,Yc,Yd,Ye,Yf,Yg,Yh,Yi,Yj,Int.reduceEq,reduceCtorEq,Yk,Yl,Ym,Yn,Yo,Yp,Yq,Yr,Ys,Yt,Yu,Yv,Yw,Yx,Yy,Yz,YA,YB,aw,hl,hck,h1,h2,h4,h5,h6,h7,h8,g1,g2,g3,rerr,d1,c2]
     ·have d1:¬p< -4096:=by omega
      have d2:¬4096<p:=by omega
      rcases Int.lt_or_le p 0 with c3|c3
      ·by_cases h0:a=0
       ·have f0:(a.num=0)=True:=eq_true (by rw [h0];rfl)
        have h4:=rPow_zero (p:=p) (by omega) c3
        rw [←h0]at h4
        have g3:=right_err (e:=6) (w:=fr a) (by decide)
        refine evE (evC aw (evC hl (evC hck (evC h1 (evC h2 (evC h4 (evC h5 (evC h6 (evC h7 (evC h8 (evC g1 (evC g2 g3)))))))))))) ?_
        rintro k ⟨aw,hl,hck,h1,h2,h4,h5,h6,h7,h8,g1,g2,g3⟩
        try dsimp only [fr]at aw hl hck h1 h2 h4 h5 h6 h7 h8 g1 g2 g3
        show FX3 _ _ _=_
        unfold FX3 B3
        simp only [fr,Ya,Yb,Yc,Yd,Ye,Yf,Yg,Yh,Yi,Yj,Int.reduceEq,reduceCtorEq,Yk,Yl,Ym,Yn,Yo,Yp,Yq,Yr,Ys,Yt,Yu,Yv,Yw,Yx,Yy,Yz,YA,YB,aw,hl,hck,h1,h2,h4,h5,h6,h7,h8,g1,g2,g3,rerr,d1,d2,c3,e_ab,f0]
       ·have f0:=num_ne h0
        obtain⟨e,he⟩:∃e:Nat,p= -(e:Int):=⟨p.natAbs,by omega⟩
        have h4:=rPow_neg sa h0 (e:=e) (by omega) (by omega)
        have w1:=neg_e (e:=e) (by omega)
        rw [←he]at h4 w1
        have h9:=refInv_ev h0
        cases hb:big (a⁻¹^e)with
        |false=>
         rw [okv_of hb]at h4
         have h10:=refPow_fit (sa.inv h0) (e:=e) (by omega) hb
         have g3:=right_ok hb
         refine evE (evC aw (evC hl (evC hck (evC h1 (evC h2 (evC h4 (evC h5 (evC h6 (evC h7 (evC h8 (evC h9 (evC h10 (evC g1 (evC g2 g3)))))))))))))) ?_
         rintro k ⟨aw,hl,hck,h1,h2,h4,h5,h6,h7,h8,h9,h10,g1,g2,g3⟩
         try dsimp only [fr]at aw hl hck h1 h2 h4 h5 h6 h7 h8 h9 h10 g1 g2 g3
         show FX3 _ _ _=_
         unfold FX3 B3
         simp only [fr,Ya,Yb,Yc,Yd,Ye,Yf,Yg,Yh,Yi,Yj,Int.reduceEq,reduceCtorEq,Yk,Yl,Ym,Yn,Yo,Yp,Yq,Yr,Ys,Yt,Yu,Yv,Yw,Yx,Yy,Yz,YA,YB,aw,hl,hck,h1,h2,h4,h5,h6,h7,h8,h9,h10,g1,g2,g3,okv,d1,d2,c3,w1,e_ab,f0]
        |true=>
         rw [rbnd_big hb]at h4
         obtain⟨z,h10⟩:=refPow_big (sa.inv h0) (e:=e) (by omega) hb
         have g3:=right_err (e:=4) (w:=fr a) (by decide)
         refine evE (evC aw (evC hl (evC hck (evC h1 (evC h2 (evC h4 (evC h5 (evC h6 (evC h7 (evC h8 (evC h9 (evC h10 (evC g1 (evC g2 g3)))))))))))))) ?_
         rintro k ⟨aw,hl,hck,h1,h2,h4,h5,h6,h7,h8,h9,h10,g1,g2,g3⟩
         try dsimp only [fr]at aw hl hck h1 h2 h4 h5 h6 h7 h8 h9 h10 g1 g2 g3
         show FX3 _ _ _=_
         unfold FX3 B3
         simp only [fr,Ya,Yb,Yc,Yd,Ye,Yf,Yg,Yh,Yi,Yj,Int.reduceEq,reduceCtorEq,Yk,Yl,Ym,Yn,Yo,Yp,Yq,Yr,Ys,Yt,Yu,Yv,Yw,Yx,Yy,Yz,YA,YB,aw,hl,hck,h1,h2,h4,h5,h6,h7,h8,h9,h10,g1,g2,g3,rerr,d1,d2,c3,w1,e_ab,f0]
      ·obtain⟨e,rfl⟩:∃e:Nat,p=(e:Int):=⟨p.natAbs,by omega⟩
       have d3:¬(e:Int)<0:=by omega
       have h4:=rPow_ev sa (e:=e) (by omega)
       cases hb:big (a^e)with
       |false=>
        rw [okv_of hb]at h4
        have h10:=refPow_fit sa (e:=e) (by omega) hb
        have g3:=right_ok hb
        refine evE (evC aw (evC hl (evC hck (evC h1 (evC h2 (evC h4 (evC h5 (evC h6 (evC h7 (evC h8 (evC h10 (evC g1 (evC g2 g3))))))))))))) ?_
        rintro k ⟨aw,hl,hck,h1,h2,h4,h5,h6,h7,h8,h10,g1,g2,g3⟩
        try dsimp only [fr]at aw hl hck h1 h2 h4 h5 h6 h7 h8 h10 g1 g2 g3
        show FX3 _ _ _=_
        unfold FX3 B3
        simp only [fr,Ya,Yb,Yc,Yd,Ye,Yf,Yg,Yh,Yi,Yj,Int.reduceEq,reduceCtorEq,Yk,Yl,Ym,Yn,Yo,Yp,Yq,Yr,Ys,Yt,Yu,Yv,Yw,Yx,Yy,Yz,YA,YB,aw,hl,hck,h1,h2,h4,h5,h6,h7,h8,h10,g1,g2,g3,okv,d1,d2,d3]
       |true=>
        rw [rbnd_big hb]at h4
        obtain⟨z,h10⟩:=refPow_big sa (e:=e) (by omega) hb
        have g3:=right_err (e:=4) (w:=fr a) (by decide)
        refine evE (evC aw (evC hl (evC hck (evC h1 (evC h2 (evC h4 (evC h5 (evC h6 (evC h7 (evC h8 (evC h10 (evC g1 (evC g2 g3))))))))))))) ?_
        rintro k ⟨aw,hl,hck,h1,h2,h4,h5,h6,h7,h8,h10,g1,g2,g3⟩
        try dsimp only [fr]at aw hl hck h1 h2 h4 h5 h6 h7 h8 h10 g1 g2 g3
        show FX3 _ _ _=_
        unfold FX3 B3
        simp only [fr,Ya,Yb,Yc,Yd,Ye,Yf,Yg,Yh,Yi,Yj,Int.reduceEq,reduceCtorEq,Yk,Yl,Ym,Yn,Yo,Yp,Yq,Yr,Ys,Yt,Yu,Yv,Yw,Yx,Yy,Yz,YA,YB,aw,hl,hck,h1,h2,h4,h5,h6,h7,h8,h10,g1,g2,g3,rerr,d1,d2,d3]
   ·rcases Int.lt_or_le p (-4096)with c1|c1
    ·have h4:=rPow_range sa (p:=p) (by omega)
     have g3:=right_err (e:=3) (w:=fr a) (by decide)
     refine evE (evC aw (evC hl (evC hck (evC h1 (evC h2 (evC h4 (evC h5 (evC h6 (evC h7 (evC h8 (evC g1 (evC g2 g3)))))))))))) ?_
     rintro k ⟨aw,hl,hck,h1,h2,h4,h5,h6,h7,h8,g1,g2,g3⟩
     try dsimp only [fr]at aw hl hck h1 h2 h4 h5 h6 h7 h8 g1 g2 g3
     show FX3 _ _ _=_
     unfold FX3 B3
     simp only [fr,Ya,Yb,Yc,Yd,Ye,Yf,Yg,Yh,Yi,Yj,Int.reduceEq,reduceCtorEq,Yk,Yl,Ym,Yn,Yo,Yp,Yq,Yr,Ys,Yt,Yu,Yv,Yw,Yx,Yy,Yz,YA,YB,aw,hl,hck,h1,h2,h4,h5,h6,h7,h8,g1,g2,g3,rerr,c1]
    ·rcases Int.lt_or_le 4096 p with c2|c2
     ·have h4:=rPow_range sa (p:=p) (by omega)
      have g3:=right_err (e:=3) (w:=fr a) (by decide)
      have d1:¬p< -4096:=by omega
      refine evE (evC aw (evC hl (evC hck (evC h1 (evC h2 (evC h4 (evC h5 (evC h6 (evC h7 (evC h8 (evC g1 (evC g2 g3)))))))))))) ?_
      rintro k ⟨aw,hl,hck,h1,h2,h4,h5,h6,h7,h8,g1,g2,g3⟩
      try dsimp only [fr]at aw hl hck h1 h2 h4 h5 h6 h7 h8 g1 g2 g3
      show FX3 _ _ _=_
      unfold FX3 B3
      simp only [fr,Ya,Yb,Yc,Yd,Ye,Yf,Yg,Yh,Yi,Yj,Int.reduceEq,reduceCtorEq,Yk,Yl,Ym,Yn,Yo,Yp,Yq,Yr,Ys,Yt,Yu,Yv,Yw,Yx,Yy,Yz,YA,YB,aw,hl,hck,h1,h2,h4,h5,h6,h7,h8,g1,g2,g3,rerr,d1,c2]
     ·have d1:¬p< -4096:=by omega
      have d2:¬4096<p:=by omega
      rcases Int.lt_or_le p 0 with c3|c3
      ·by_cases h0:a=0
       ·have f0:(a.num=0)=True:=eq_true (by rw [h0];rfl)
        have h4:=rPow_zero (p:=p) (by omega) c3
        rw [←h0]at h4
        have g3:=right_err (e:=6) (w:=fr a) (by decide)
        refine evE (evC aw (evC hl (evC hck (evC h1 (evC h2 (evC h4 (evC h5 (evC h6 (evC h7 (evC h8 (evC g1 (evC g2 g3)))))))))))) ?_
        rintro k ⟨aw,hl,hck,h1,h2,h4,h5,h6,h7,h8,g1,g2,g3⟩
        try dsimp only [fr]at aw hl hck h1 h2 h4 h5 h6 h7 h8 g1 g2 g3
        show FX3 _ _ _=_
        unfold FX3 B3
        simp only [fr,Ya,Yb,Yc,Yd,Ye,Yf,Yg,Yh,Yi,Yj,Int.reduceEq,reduceCtorEq,Yk,Yl,Ym,Yn,Yo,Yp,Yq,Yr,Ys,Yt,Yu,Yv,Yw,Yx,Yy,Yz,YA,YB,aw,hl,hck,h1,h2,h4,h5,h6,h7,h8,g1,g2,g3,rerr,d1,d2,c3,e_ab,f0]
       ·have f0:=num_ne h0
        obtain⟨e,he⟩:∃e:Nat,p= -(e:Int):=⟨p.natAbs,by omega⟩
        have h4:=rPow_neg sa h0 (e:=e) (by omega) (by omega)
        have w1:=neg_e (e:=e) (by omega)
        rw [←he]at h4 w1
        have h9:=refInv_ev h0
        cases hb:big (a⁻¹^e)with
        |false=>
         rw [okv_of hb]at h4
         have h10:=refPow_fit (sa.inv h0) (e:=e) (by omega) hb
         have g3:=right_ok hb
         refine evE (evC aw (evC hl (evC hck (evC h1 (evC h2 (evC h4 (evC h5 (evC h6 (evC h7 (evC h8 (evC h9 (evC h10 (evC g1 (evC g2 g3)))))))))))))) ?_
         rintro k ⟨aw,hl,hck,h1,h2,h4,h5,h6,h7,h8,h9,h10,g1,g2,g3⟩
         try dsimp only [fr]at aw hl hck h1 h2 h4 h5 h6 h7 h8 h9 h10 g1 g2 g3
         show FX3 _ _ _=_
         unfold FX3 B3
         simp only [fr,Ya,Yb,Yc,Yd,Ye,Yf,Yg,Yh,Yi,Yj,Int.reduceEq,reduceCtorEq,Yk,Yl,Ym,Yn,Yo,Yp,Yq,Yr,Ys,Yt,Yu,Yv,Yw,Yx,Yy,Yz,YA,YB,aw,hl,hck,h1,h2,h4,h5,h6,h7,h8,h9,h10,g1,g2,g3,okv,d1,d2,c3,w1,e_ab,f0]
        |true=>
         rw [rbnd_big hb]at h4
         obtain⟨z,h10⟩:=refPow_big (sa.inv h0) (e:=e) (by omega) hb
         have g3:=right_err (e:=4) (w:=fr a) (by decide)
         refine evE (evC aw (evC hl (evC hck (evC h1 (evC h2 (evC h4 (evC h5 (evC h6 (evC h7 (evC h8 (evC h9 (evC h10 (evC g1 (evC g2 g3)))))))))))))) ?_
         rintro k ⟨aw,hl,hck,h1,h2,h4,h5,h6,h7,h8,h9,h10,g1,g2,g3⟩
         try dsimp only [fr]at aw hl hck h1 h2 h4 h5 h6 h7 h8 h9 h10 g1 g2 g3
         show FX3 _ _ _=_
         unfold FX3 B3
         simp only [fr,Ya,Yb,Yc,Yd,Ye,Yf,Yg,Yh,Yi,Yj,Int.reduceEq,reduceCtorEq,Yk,Yl,Ym,Yn,Yo,Yp,Yq,Yr,Ys,Yt,Yu,Yv,Yw,Yx,Yy,Yz,YA,YB,aw,hl,hck,h1,h2,h4,h5,h6,h7,h8,h9,h10,g1,g2,g3,rerr,d1,d2,c3,w1,e_ab,f0]
      ·obtain⟨e,rfl⟩:∃e:Nat,p=(e:Int):=⟨p.natAbs,by omega⟩
       have d3:¬(e:Int)<0:=by omega
       have h4:=rPow_ev sa (e:=e) (by omega)
       cases hb:big (a^e)with
       |false=>
        rw [okv_of hb]at h4
        have h10:=refPow_fit sa (e:=e) (by omega) hb
        have g3:=right_ok hb
        refine evE (evC aw (evC hl (evC hck (evC h1 (evC h2 (evC h4 (evC h5 (evC h6 (evC h7 (evC h8 (evC h10 (evC g1 (evC g2 g3))))))))))))) ?_
        rintro k ⟨aw,hl,hck,h1,h2,h4,h5,h6,h7,h8,h10,g1,g2,g3⟩
        try dsimp only [fr]at aw hl hck h1 h2 h4 h5 h6 h7 h8 h10 g1 g2 g3
        show FX3 _ _ _=_
        unfold FX3 B3
        simp only [fr,Ya,Yb,Yc,Yd,Ye,Yf,Yg,Yh,Yi,Yj,Int.reduceEq,reduceCtorEq,Yk,Yl,Ym,Yn,Yo,Yp,Yq,Yr,Ys,Yt,Yu,Yv,Yw,Yx,Yy,Yz,YA,YB,aw,hl,hck,h1,h2,h4,h5,h6,h7,h8,h10,g1,g2,g3,okv,d1,d2,d3]
       |true=>
        rw [rbnd_big hb]at h4
        obtain⟨z,h10⟩:=refPow_big sa (e:=e) (by omega) hb
        have g3:=right_err (e:=4) (w:=fr a) (by decide)
        refine evE (evC aw (evC hl (evC hck (evC h1 (evC h2 (evC h4 (evC h5 (evC h6 (evC h7 (evC h8 (evC h10 (evC g1 (evC g2 g3))))))))))))) ?_
        rintro k ⟨aw,hl,hck,h1,h2,h4,h5,h6,h7,h8,h10,g1,g2,g3⟩
        try dsimp only [fr]at aw hl hck h1 h2 h4 h5 h6 h7 h8 h10 g1 g2 g3
        show FX3 _ _ _=_
        unfold FX3 B3
        simp only [fr,Ya,Yb,Yc,Yd,Ye,Yf,Yg,Yh,Yi,Yj,Int.reduceEq,reduceCtorEq,Yk,Yl,Ym,Yn,Yo,Yp,Yq,Yr,Ys,Yt,Yu,Yv,Yw,Yx,Yy,Yz,YA,YB,aw,hl,hck,h1,h2,h4,h5,h6,h7,h8,h10,g1,g2,g3,rerr,d1,d2,d3]
  ·have h1:=rFloor_err hx
   have h2:=rRound_err hx
   have h3:=rIsSquare_err hx
   have h4:=rPow_err (e:=p) hx
   have g1:=whole_err (w:=x.1) hx
   have g2:=right_err (w:=x) hx
   refine evE (evC aw (evC hl (evC hck (evC h1 (evC h2 (evC h3 (evC h4 (evC g1 g2)))))))) ?_
   rintro k ⟨aw,hl,hck,h1,h2,h3,h4,g1,g2⟩
   try dsimp only [fr]at aw hl hck h1 h2 h3 h4 g1 g2
   show FX3 _ _ _=_
   unfold FX3 B3
   simp only [fr,FX22,B22,Ya,Yb,Yc,Yd,Ye,Yf,Yg,Yh,Yi,Yj,Int.reduceEq,reduceCtorEq,Yk,Yl,Ym,Yn,Yo,Yp,Yq,Yr,Ys,Yt,Yu,Yv,Yw,Yx,Yy,Yz,YA,YB,aw,hl,hck,h1,h2,h3,h4,g1,g2,rerr,hx]
theorem law3_ev (a0:Bool) (a1 a2:ByteArray) (p:Int):Ev (fun k=>FX3 k ((a0,a1),a2) p) true:=rounds_ev _ _
end Go.Proofs.YtjllholdppjllaaGreatV
namespace Go.Proofs.YtjllholdppjllaaGreatJ
open Go Go.ChangeShapes Go.WideShapes Go.ChangeAt
variable {H:Type} {enc:TypeId×Value→H} {P:Program} {w:World} {base:Nat} {spare:Nat→Bool} {held:Bool}
structure RatTy (P:Program) (t:TypeId) (g0 g1 f0 f1:Field):Prop where
 s:P.underlying t=some (.struct #[g0,g1])
 i:P.underlying g0.type=some (.struct #[f0,f1])
 c:P.cellsOf t=3
 c0:P.cellsOf g0.type=2
 c1:P.cellsOf g1.type=1
 k0:P.cellsOf f0.type=1
 k1:P.cellsOf f1.type=1
 o0:g0.offset=0
 o1:g1.offset=2
 p0:f0.offset=0
 p1:f1.offset=1
variable {t:TypeId} {g0 g1 f0 f1:Field}
theorem open_rat {r:Reach} {b0:Nat} {v:Value} {d:DataW H} {p:List MemPlace} (R:RatTy P t g0 g1 f0 f1)
  (hv:Value.okWide P w r b0 t v) (h:DataW.Trod enc P w base spare held t v d p):
  ∃(v0 v1 v2:Value) (y0 y1 y2:DataW H×List MemPlace) (n m:Nat),v= .agg #[v0,v1,v2]∧d= .agg [.agg [y0.1,y1.1],y2.1]∧p=(y0.2++y1.2)++y2.2∧
   DataW.trod enc P w base spare held n f0.type [v0]=some y0∧DataW.trod enc P w base spare held n f1.type [v1]=some y1∧DataW.trod enc P w base spare held m g1.type [v2]=some y2:=by
 obtain⟨cs,rfl,hsz⟩:=okWide_struct R.s hv
 obtain⟨c0,c1,c2,rfl⟩:=Go.Joins.array3 (hsz.trans R.c)
 obtain⟨fuel,hf⟩:=h
 obtain⟨z0,z1,m,hx,_,h0,h1⟩:=trod_struct2 R.s hf
 rw [R.o0,R.c0]at h0
 rw [R.o1,R.c1]at h1
 obtain⟨y0,y1,n,hz,_,q0,q1⟩:=trod_struct2 R.i h0
 rw [R.p0,R.k0]at q0
 rw [R.p1,R.k1]at q1
 simp only [Prod.mk.injEq]at hx
 refine⟨c0,c1,c2,y0,y1,z1,n,m,rfl,?_,?_,by simpa [Value.cells]using q0,by simpa [Value.cells]using q1,by simpa [Value.cells]using h1⟩
 ·rw [hx.1,hz]
 ·rw [hx.2,hz]
theorem shut_rat {v0 v1 v2:Value} {y0 y1 y2:DataW H×List MemPlace} (R:RatTy P t g0 g1 f0 f1)
  (t0:∃n,DataW.trod enc P w base spare held n f0.type [v0]=some y0) (t1:∃n,DataW.trod enc P w base spare held n f1.type [v1]=some y1) (t2:∃n,DataW.trod enc P w base spare held n g1.type [v2]=some y2):
  DataW.Trod enc P w base spare held t (.agg #[v0,v1,v2]) (.agg [.agg [y0.1,y1.1],y2.1]) ((y0.2++y1.2)++y2.2):=by
 obtain⟨n0,t0⟩:=t0
 obtain⟨n1,t1⟩:=t1
 obtain⟨n2,t2⟩:=t2
 have ti:=trod_struct2_mk (enc:=enc) (w:=w) (base:=base) (spare:=spare) (held:=held) (n:=n0+n1+n2) (cs:=[v0,v1]) R.i (by simp [R.c0])
  (by rw [R.p0,R.k0];simpa using DataW.trod_le (show n0≤n0+n1+n2 by omega) t0) (by rw [R.p1,R.k1];simpa using DataW.trod_le (show n1≤n0+n1+n2 by omega) t1)
 have ts:=trod_struct2_mk (enc:=enc) (w:=w) (base:=base) (spare:=spare) (held:=held) (n:=n0+n1+n2+1) (cs:=[v0,v1,v2]) R.s (by simp [R.c])
  (by rw [R.o0,R.c0];simpa using ti) (by rw [R.o1,R.c1];simpa using DataW.trod_le (show n2≤n0+n1+n2+1 by omega) t2)
 exact⟨_,by simpa [Value.cells]using ts⟩
end Go.Proofs.YtjllholdppjllaaGreatJ
namespace Go.Proofs.YtjllholdppjllaaGreat.Pure
open Go Go.RowKit Go.Proofs.YtjllholdppjllaaGreat.All Go.Proofs.YtjllholdppjllaaGreatN Go.Proofs.YtjllholdppjllaaGreatW.PrintWords Go.Proofs.YtjllholdppjllaaGreatW.PrintLast
theorem RationalRounds (a0:Bool) (a1 a2:ByteArray) (p:Int) (hp:(Lit.int .i64 p).wf=true) (w:World):
    Calls Tryz.prog 3 #[.agg #[.bool a0, .string a1, .string a2], .int .i64 p] w fun e w'=>e= .returned (.bool true)∧Below w.heap.size w w':=
  Go.Proofs.YtjllholdppjllaaGreatV.calls3 a0 a1 a2 p (Go.Proofs.YtjllholdppjllaaGreatV.law3_ev a0 a1 a2 p).rounds w
end Go.Proofs.YtjllholdppjllaaGreat.Pure
