/- Part of the proof of the statement RationalTexts: lemmas on the model's steps, Lean functions that say what the program's functions compute, and proofs that the calls do just that. No hypothesis is added. -/
import Derived.Test.YtjllholdppjllaaGreatKRationalTexts4
set_option linter.all false
namespace Go.Proofs.YtjllholdppjllaaGreatN
open Go.RowKit Go.Proofs.YtjllholdppjllaaGreat.All Go.Proofs.YtjllholdppjllaaGreatW.PrintWords Go.Proofs.YtjllholdppjllaaGreatW.PrintLast Go.Proofs.YtjllholdppjllaaGreatW.PrintMore
theorem sub_mul {u v z:List Int} {q b c d e:Int} {i:Nat} (hz:i<z.length) (q0:0≤q) (q1:q<B64) (hv:Dig B64 v) (hi:i<v.length) (h:SubMul u v z q i b c) (d0:0≤d) (d1:d<B64) (e0:0≤e) (e1:e≤1)
  (he:d=rd z (i:Int)-(q*rd v (i:Int)+0+c)%B64-b+B64*e):SubMul u v (z.set i d) q (i+1) e ((q*rd v (i:Int)+0+c)/B64):=by
 obtain⟨hl,hd,hb,hc,hs⟩:=h
 obtain⟨y0,y1⟩:=Dig_rd hv i hi
 obtain⟨-, -,n0,n1⟩:=mul_add q0 q1 y0 y1 (Int.le_refl 0) (by decide) hc.1 hc.2
 refine⟨by rw [List.length_set];exact hl,Dig_set hd _ d0 d1,⟨e0,e1⟩,⟨n0,n1⟩,?_⟩
 rw [vB_set _ _ _ _ hz,take_succ,Int.pow_succ,he]
 have g:=Int.emod_add_mul_ediv (q*rd v (i:Int)+0+c) B64
 generalize(q*rd v (i:Int)+0+c)/B64=C at*
 generalize(q*rd v (i:Int)+0+c)%B64=l at*
 have er:l=q*rd v (i:Int)+c-B64*C:=by clear hs;omega
 have e2:rd z (i:Int)-l-b+B64*e-rd z (i:Int)=B64*e+B64*C-q*rd v (i:Int)-c-b:=by clear hs;omega
 rw [e2]
 generalize rd v (i:Int)=y at*
 generalize vB B64 (List.take i v)=T at*
 generalize(B64:Int)^i=P at*
 rw [Int.mul_add q,Int.mul_left_comm q P y,Int.mul_sub,Int.mul_sub,Int.mul_sub,Int.mul_add,Int.mul_assoc P B64,Int.mul_add B64,Int.mul_add P]
 rw [Int.mul_add]at hs
 generalize q*y=qy at*
 generalize P*qy=A at*
 generalize P*(B64*e)=A1 at*
 generalize P*(B64*C)=A2 at*
 generalize P*c=A3 at*
 generalize P*b=A4 at*
 omega
def AddBack (u v z:List Int) (i:Nat) (c:Int):Prop:=
 z.length=u.length∧Dig B64 z∧(0≤c∧c≤1)∧vB B64 z+B64^i*c=vB B64 u+vB B64 (v.take i)
theorem add_back {u v z:List Int} {i:Nat} {c:Int} (hz:i<z.length) (hv:Dig B64 v) (hi:i<v.length) (h:AddBack u v z i c):
  AddBack u v (z.set i ((rd z (i:Int)+rd v (i:Int)+c)%B64)) (i+1) ((rd z (i:Int)+rd v (i:Int)+c)/B64):=by
 obtain⟨hl,hd,hc,hs⟩:=h
 obtain⟨x0,x1⟩:=Dig_rd hd i hz
 obtain⟨y0,y1⟩:=Dig_rd hv i hi
 refine⟨by rw [List.length_set];exact hl,Dig_set hd _ (Int.emod_nonneg _ (by decide)) (Int.emod_lt_of_pos _ (by decide)),add_range x0 x1 y0 y1 hc.1 hc.2,?_⟩
 rw [vB_set _ _ _ _ hz,take_succ,Int.pow_succ]
 have e:=Int.emod_add_mul_ediv (rd z (i:Int)+rd v (i:Int)+c) B64
 generalize(rd z (i:Int)+rd v (i:Int)+c)/B64=q at*
 generalize(rd z (i:Int)+rd v (i:Int)+c)%B64=r at*
 have er:r-rd z (i:Int)=rd v (i:Int)+c-B64*q:=by clear hs;omega
 rw [er,Int.mul_sub,Int.mul_add,Int.mul_assoc (B64^i) B64 q]
 generalize(B64:Int)^i=P at*
 omega
theorem back_last {u v z:List Int} {n:Nat} {c U q:Int} (hn:v.length=n) (hl:u.length=n+1) (h:AddBack u v z n c) (hu:vB B64 u=U-q*vB B64 v+B64^(n+1)) (h0:0≤U-(q-1)*vB B64 v) (h1:U-(q-1)*vB B64 v<B64^(n+1)):
  vB B64 (z.set n (IntKind.u64.wrap (rd z (n:Int)+c)))=U-(q-1)*vB B64 v∧Dig B64 (z.set n (IntKind.u64.wrap (rd z (n:Int)+c))):=by
 obtain⟨hlz,hd,hc,hs⟩:=h
 have hz:n<z.length:=by omega
 obtain⟨x0,x1⟩:=Dig_rd hd n hz
 have hdd:Dig B64 (z.set n (IntKind.u64.wrap (rd z (n:Int)+c))):=Dig_set hd _ (by rw [u64_mod];exact Int.emod_nonneg _ (by decide)) (by rw [u64_mod];exact Int.emod_lt_of_pos _ (by decide))
 refine⟨?_,hdd⟩
 have b0:=vB_nonneg (by decide) hdd
 have b1:=vB_lt (by decide) hdd
 rw [List.length_set,hlz,hl]at b1
 rw [vB_set _ _ _ _ hz]at b0 b1⊢
 rw [vB_all _ _ _ (by rw [hn];exact Nat.le_refl _)]at hs
 rw [u64_mod]at b0 b1⊢
 rw [Int.sub_mul,Int.one_mul]at h0 h1⊢
 have e:=Int.emod_add_mul_ediv (rd z (n:Int)+c) 18446744073709551616
 have x1':rd z (n:Int)<18446744073709551616:=x1
 have he:(rd z (n:Int)+c)/18446744073709551616=0∨(rd z (n:Int)+c)/18446744073709551616=1:=by clear hs hu h0 h1 b0 b1;omega
 have hBB:(B64:Int)^(n+1)=B64^n*18446744073709551616:=Int.pow_succ _ _
 rw [hBB]at hu h1 b1
 clear hBB hdd hd
 generalize(rd z (n:Int)+c)/18446744073709551616=E at*
 generalize(rd z (n:Int)+c)%18446744073709551616=r at*
 have er:r-rd z (n:Int)=c-18446744073709551616*E:=by clear hs hu h0 h1 b0 b1;omega
 rw [er,Int.mul_sub]at b0 b1⊢
 clear er e
 generalize(B64:Int)^n=P at*
 generalize q*vB B64 v=qV at*
 generalize P*c=Pc at*
 rcases he with rfl|rfl
 ·simp only [Int.mul_zero,Int.sub_zero]at b0 b1⊢
  omega
 ·simp only [Int.mul_one]at b0 b1⊢
  omega
theorem step_l2 {u v:List Int} {n:Nat} {q U:Int} (hn:v.length=n) (ln:n≤1099511627776) (hv:Dig B64 v) (hl:u.length=n+1) (hu:vB B64 u=U-q*vB B64 v+B64^(n+1)) (h0:0≤U-(q-1)*vB B64 v) (h1:U-(q-1)*vB B64 v<B64^(n+1)) (q0:1≤q) (q1:q<B64):
  ∀(d i:Nat) (z:List Int) (c:Int),i+d=n→AddBack u v z i c→∃r,r.length=n+1∧Dig B64 r∧vB B64 r=U-(q-1)*vB B64 v∧Ev (fun k=>exact_step.l2 k z v (n:Int) q c (n:Int) (i:Int)) (q-1,r):=by
 intro d
 induction d with
 |zero=>
  intro i z c hi h
  have hi:i=n:=by omega
  subst hi
  obtain⟨g1,g2⟩:=back_last hn hl h hu h0 h1
  have hlz:=h.1
  have c1:(i:Int)<(z.length:Int):=by omega
  have q1':q<18446744073709551616:=q1
  have w1:IntKind.u64.wrap (q-1)=q-1:=by clear hu h0 h1 g1;exact u64 (by omega) (by omega)
  refine⟨_,by rw [List.length_set,hlz,hl],g2,g1,Ev.step (f:=fun _=>some _) (fun k=>?_) (Ev.now _)⟩
  simp only [exact_step.l2,w1]
  rw [if_neg (Int.lt_irrefl _),if_pos (Int.natCast_nonneg _),if_pos c1,Int.toNat_natCast]
 |succ d ih=>
  intro i z c hi h
  have hi':i<n:=by omega
  have hlz:=h.1
  have hiz:i<z.length:=by omega
  have c0:i+1+d=n:=by omega
  have c1:(i:Int)<(n:Int):=by omega
  have c2:(i:Int)<(z.length:Int):=by omega
  have c3:(i:Int)<(v.length:Int):=by omega
  obtain⟨x0,x1⟩:=Dig_rd h.2.1 i hiz
  obtain⟨y0,y1⟩:=Dig_rd hv i (by omega)
  have ea:=add64_eq x0 y0 h.2.2.1.1 h.2.2.1.2
  have e1:wrap64 ((i:Int)+1)=((i+1:Nat):Int):=by clear hu h0 h1;rw [w64 (by omega) (by omega)];omega
  obtain⟨r,r1,r2,r3,r4⟩:=ih (i+1) _ _ c0 (add_back hiz hv (by rw [hn];exact hi') h)
  refine⟨r,r1,r2,r3,Ev.step (fun k=>?_) r4⟩
  simp only [exact_step.l2,e1]
  rw [if_pos c1,if_pos (Int.natCast_nonneg _),if_pos c2,if_pos c3,ea,Option.bind_some,Int.toNat_natCast]
theorem sub_last {u v z:List Int} {n:Nat} {q b c d e:Int} (hn:v.length=n) (hl:u.length=n+1) (h:SubMul u v z q n b c) (d0:0≤d) (d1:d<B64) (e0:0≤e) (e1:e≤1) (he:d=rd z (n:Int)-c-b+B64*e):
  (z.set n d).length=n+1∧Dig B64 (z.set n d)∧vB B64 (z.set n d)=vB B64 u-q*vB B64 v+B64^(n+1)*e:=by
 obtain⟨hlz,hd,hb,hc,hs⟩:=h
 refine⟨by rw [List.length_set,hlz,hl],Dig_set hd _ d0 d1,?_⟩
 rw [vB_set _ _ _ _ (by omega),Int.pow_succ,he]
 rw [vB_all _ _ _ (by rw [hn];exact Nat.le_refl _)]at hs
 have e2:rd z (n:Int)-c-b+B64*e-rd z (n:Int)=B64*e-c-b:=by clear hs;omega
 rw [e2,Int.mul_sub,Int.mul_sub,Int.mul_assoc (B64^n) B64]
 rw [Int.mul_add]at hs
 generalize(B64:Int)^n=P at*
 generalize P*(B64*e)=A1 at*
 generalize P*c=A3 at*
 generalize P*b=A4 at*
 omega
theorem step_l1 {u v:List Int} {n:Nat} {q:Int} (hn:v.length=n) (ln:n≤1099511627776) (hu:Dig B64 u) (hv:Dig B64 v) (hl:u.length=n+1) (hV:0<vB B64 v) (q0:0≤q) (q1:q<B64)
  (hq:vB B64 u/vB B64 v≤q) (hq':q≤vB B64 u/vB B64 v+1):∀(d i:Nat) (z:List Int) (b c:Int),i+d=n→SubMul u v z q i b c→
  ∃r,r.length=n+1∧Dig B64 r∧vB B64 r=vB B64 u%vB B64 v∧Ev (fun k=>exact_step.l1 k z v (n:Int) q b c (n:Int) (i:Int)) (vB B64 u/vB B64 v,r):=by
 have hB:(0:Int)<B64:=by decide
 have hU0:=vB_nonneg (Int.le_of_lt hB) hu
 have hU1:=vB_lt hB hu
 have hV1:=vB_lt hB hv
 rw [hl]at hU1
 rw [hn]at hV1
 have hdm:=Int.emod_add_mul_ediv (vB B64 u) (vB B64 v)
 have hm0:=Int.emod_nonneg (vB B64 u) (show vB B64 v≠0 by omega)
 have hm1:=Int.emod_lt_of_pos (vB B64 u) hV
 have hp:=pow_le_pow hB (show n≤n+1 by omega)
 intro d
 induction d with
 |zero=>
  intro i z b c hi h
  have hi:i=n:=by omega
  subst hi
  have hlz:=h.1
  have c1:(i:Int)<(z.length:Int):=by clear hU1 hV1 hp;omega
  obtain⟨x0,x1⟩:=Dig_rd h.2.1 i (by clear hU1 hV1 hp;omega)
  obtain⟨d,e,ea,d0,d1,b0,b1,he⟩:=sub64_eq x0 x1 h.2.2.2.1.1 h.2.2.2.1.2 h.2.2.1.1 h.2.2.1.2
  obtain⟨g1,g2,g3⟩:=sub_last hn hl h d0 d1 b0 b1 he
  have hcase:e=0∨e=1:=by clear hU1 hV1 hp g3;omega
  rcases hcase with rfl|rfl
  ·rw [Int.mul_zero,Int.add_zero]at g3
   have g4:=vB_nonneg (Int.le_of_lt hB) g2
   rw [g3]at g4
   have hqe:q=vB B64 u/vB B64 v:=by
    have:q≤vB B64 u/vB B64 v:=Int.le_ediv_of_mul_le hV (by clear hU1 hV1 hp;omega)
    clear hU1 hV1 hp;omega
   refine⟨z.set i d,g1,g2,?_,Ev.step (f:=fun _=>some _) (fun k=>?_) (Ev.now _)⟩
   ·rw [g3,hqe]
    rw [Int.mul_comm]at hdm
    generalize vB B64 u/vB B64 v*vB B64 v=A at*
    clear hU1 hV1 hp;omega
   ·simp only [exact_step.l1]
    rw [if_neg (Int.lt_irrefl _),if_pos (Int.natCast_nonneg _),if_pos c1,ea,Option.bind_some,Option.bind_some,if_pos rfl,Int.toNat_natCast,←hqe]
  ·rw [Int.mul_one]at g3
   have g4:=vB_lt hB g2
   rw [g1,g3]at g4
   have hqe:vB B64 u/vB B64 v=q-1:=by
    have:vB B64 u/vB B64 v<q:=Int.ediv_lt_of_lt_mul hV (by
     generalize(B64:Int)^(i+1)=P at*
     omega)
    clear hU1 hV1 hp g4 g3;omega
   have hre:vB B64 u-(q-1)*vB B64 v=vB B64 u%vB B64 v:=by
    rw [hqe,Int.mul_comm]at hdm
    generalize(q-1)*vB B64 v=A at*
    clear hU1 hV1 hp g4 g3;omega
   have hq00:0≤vB B64 u/vB B64 v:=Int.ediv_nonneg hU0 (Int.le_of_lt hV)
   have hq01:1≤q:=by clear hU1 hV1 hp g4 g3;omega
   obtain⟨r,r1,r2,r3,r4⟩:=step_l2 (u:=z.set i d) (U:=vB B64 u) hn ln hv g1 g3 (by rw [hre];exact hm0) (by rw [hre];exact Int.lt_trans hm1 (Int.lt_of_lt_of_le hV1 hp)) hq01 q1 i 0 (z.set i d) 0 (Nat.zero_add _) ⟨rfl,g2,⟨by decide,by decide⟩,by simp [vB]⟩
   refine⟨r,r1,r2,by rw [r3,hre],?_⟩
   rw [hqe]
   refine Ev.step (f:=fun k=>exact_step.l2 k (z.set i d) v (i:Int) q 0 (i:Int) ((0:Nat):Int)) (fun k=>?_) r4
   simp only [exact_step.l1]
   rw [if_neg (Int.lt_irrefl _),if_pos (Int.natCast_nonneg _),if_pos c1,ea,Option.bind_some,Option.bind_some,if_neg (show¬(1:Int)=0 by decide),Int.toNat_natCast]
   rfl
 |succ d ih=>
  intro i z b c hi h
  have hlz:=h.1
  have hi':i<n:=by clear hU1 hV1 hp;omega
  have hiz:i<z.length:=by clear hU1 hV1 hp;omega
  have c0:i+1+d=n:=by clear hU1 hV1 hp;omega
  have c1:(i:Int)<(n:Int):=Int.ofNat_lt.2 hi'
  have c2:(i:Int)<(z.length:Int):=Int.ofNat_lt.2 hiz
  have c3:(i:Int)<(v.length:Int):=by rw [hn];exact c1
  have hiv:i<v.length:=by rw [hn];exact hi'
  obtain⟨x0,x1⟩:=Dig_rd h.2.1 i hiz
  obtain⟨y0,y1⟩:=Dig_rd hv i hiv
  have hc:=h.2.2.2.1
  have hb:=h.2.2.1
  obtain⟨m0,m1,n0,n1⟩:=mul_add q0 q1 y0 y1 (Int.le_refl 0) hB hc.1 hc.2
  have a1:=mul64_eq q0 q1 y0 y1
  have a2:=add64_eq (Int.emod_nonneg (q*rd v (i:Int)) (show(B64:Int)≠0 by decide)) hc.1 (Int.le_refl 0) (by decide)
  have l0:=Int.emod_nonneg (q*rd v (i:Int)+0+c) (show(B64:Int)≠0 by decide)
  have l1:=Int.emod_lt_of_pos (q*rd v (i:Int)+0+c) (show(0:Int)<B64 by decide)
  obtain⟨d,e,ea,d0,d1,b0,b1,he⟩:=sub64_eq x0 x1 l0 l1 hb.1 hb.2
  have e1:wrap64 ((i:Int)+1)=((i+1:Nat):Int):=by clear hU1 hV1 hp a1 a2 m0 m1 ea he hdm;rw [w64 (by omega) (by omega)];omega
  have e2:(q*rd v (i:Int)%B64+c+0)%B64=(q*rd v (i:Int)+0+c)%B64∧IntKind.u64.wrap (q*rd v (i:Int)/B64+(q*rd v (i:Int)%B64+c+0)/B64)=(q*rd v (i:Int)+0+c)/B64:=by
   clear hU1 hV1 hp a1 a2 ea he hdm m0 m1
   have hc2:c<18446744073709551616:=hc.2
   have n0':0≤(q*rd v (i:Int)+0+c)/18446744073709551616:=n0
   have n1':(q*rd v (i:Int)+0+c)/18446744073709551616<18446744073709551616:=n1
   have hc1:=hc.1
   show(q*rd v (i:Int)%18446744073709551616+c+0)%18446744073709551616=(q*rd v (i:Int)+0+c)%18446744073709551616∧IntKind.u64.wrap (q*rd v (i:Int)/18446744073709551616+(q*rd v (i:Int)%18446744073709551616+c+0)/18446744073709551616)=(q*rd v (i:Int)+0+c)/18446744073709551616
   generalize q*rd v (i:Int)=p at*
   have e3:p/18446744073709551616+(p%18446744073709551616+c+0)/18446744073709551616=(p+0+c)/18446744073709551616:=by omega
   rw [e3,u64 n0' n1']
   exact⟨by omega,rfl⟩
  obtain⟨r,r1,r2,r3,r4⟩:=ih (i+1) _ _ _ c0 (sub_mul hiz q0 q1 hv hiv h d0 d1 b0 b1 he)
  refine⟨r,r1,r2,r3,Ev.step (fun k=>?_) r4⟩
  simp only [exact_step.l1,e1]
  rw [if_pos c1,if_pos (Int.natCast_nonneg _),if_pos c3,a1,Option.bind_some,a2,Option.bind_some,if_pos c2,e2.1,ea,Option.bind_some,e2.2,Int.toNat_natCast]
theorem split2 {v:List Int} {n:Nat} (hv:Dig B64 v) (hn:v.length=n+2):∃l,0≤l∧l<B64^n∧vB B64 v=l+B64^n*(rd v (n:Int)+B64*rd v ((n+1:Nat):Int)):=by
 refine⟨vB B64 (v.take n),vB_nonneg (by decide) (Dig_take hv _),?_,?_⟩
 ·have:=vB_lt (by decide) (Dig_take hv n)
  rwa [List.length_take,Nat.min_eq_left (by omega)]at this
 ·have h:=vB_all B64 v (n+1+1) (by omega)
  rw [←h,take_succ,take_succ,Int.pow_succ,Int.mul_add,Int.mul_assoc,Int.add_assoc]
theorem split3 {u:List Int} {n:Nat} (hu:Dig B64 u) (hn:u.length=n+3):∃l,0≤l∧l<B64^n∧vB B64 u=l+B64^n*(rd u (n:Int)+B64*(rd u ((n+1:Nat):Int)+B64*rd u ((n+2:Nat):Int))):=by
 refine⟨vB B64 (u.take n),vB_nonneg (by decide) (Dig_take hu _),?_,?_⟩
 ·have:=vB_lt (by decide) (Dig_take hu n)
  rwa [List.length_take,Nat.min_eq_left (by omega)]at this
 ·have h:=vB_all B64 u (n+1+1+1) (by omega)
  have p1:(B64:Int)^(n+1)=B64^n*B64:=Int.pow_succ _ _
  have p2:(B64:Int)^(n+1+1)=B64^n*B64*B64:=by rw [Int.pow_succ,p1]
  rw [←h,take_succ,take_succ,take_succ,p2,p1,Int.mul_add B64,Int.mul_add (B64^n),Int.mul_add (B64^n),Int.mul_assoc (B64^n) B64 (rd u _),Int.mul_assoc (B64^n*B64) B64,Int.mul_assoc (B64^n) B64 (B64*_)]
  generalize B64^n*rd u (n:Int)=a
  generalize B64^n*(B64*rd u ((n+1:Nat):Int))=b
  generalize B64^n*(B64*(B64*rd u ((n+2:Nat):Int)))=c
  omega
section
theorem guess_le {P lv lu W X q U V:Int} (hP:0<P) (lv0:0≤lv) (lv1:lv<P) (lu0:0≤lu) (hV:V=lv+P*W) (hU:U=lu+P*X) (hW:B64≤W) (q0:0≤q) (q1:q<B64) (h:q*W≤X):q≤U/V+1:=by
 have hV0:0<V:=by
  have:0<P*W:=Int.mul_pos hP (Int.lt_of_lt_of_le (by decide) hW)
  omega
 have h1:q*V<U+V:=by
  have e1:q*V=q*lv+P*(q*W):=by rw [hV,Int.mul_add,Int.mul_left_comm]
  have e2:P*(q*W)≤P*X:=Int.mul_le_mul_of_nonneg_left h (Int.le_of_lt hP)
  have e3:q*lv≤q*P:=Int.mul_le_mul_of_nonneg_left (Int.le_of_lt lv1) q0
  have e4:q*P<B64*P:=Int.mul_lt_mul_of_pos_right q1 hP
  have e5:P*B64≤P*W:=Int.mul_le_mul_of_nonneg_left hW (Int.le_of_lt hP)
  rw [Int.mul_comm B64 P]at e4
  omega
 have h2:(q-1)*V≤U:=by rw [Int.sub_mul,Int.one_mul];omega
 have:=Int.le_ediv_of_mul_le hV0 h2
 omega
theorem guess_gt {P lv lu W X q U V:Int} (hP:0<P) (lv0:0≤lv) (lu1:lu<P) (hV:V=lv+P*W) (hU:U=lu+P*X) (hV0:0<V) (q0:0≤q) (h:X<q*W):U/V≤q-1:=by
 have:U/V<q:=by
  apply Int.ediv_lt_of_lt_mul hV0
  have e1:q*V=q*lv+P*(q*W):=by rw [hV,Int.mul_add,Int.mul_left_comm]
  have e2:P*(X+1)≤P*(q*W):=Int.mul_le_mul_of_nonneg_left (by omega) (Int.le_of_lt hP)
  rw [Int.mul_add,Int.mul_one]at e2
  have e3:0≤q*lv:=Int.mul_nonneg q0 lv0
  omega
 omega
end
theorem l0_pass {u v:List Int} {n:Nat} {q r o:Int} (hn:v.length=n+2) (hl:u.length=n+3) (ew:wrap64 (((n+2:Nat):Int)-2)=((n:Nat):Int)) (q0:0≤q) (q1:q<B64) (w0:0≤rd v (n:Int)) (w1:rd v (n:Int)<B64) (t0:0≤rd u (n:Int)) (t1:rd u (n:Int)<B64)
  (h:o=1∨o=0∧q*rd v (n:Int)≤B64*r+rd u (n:Int)) (k:Nat):exact_step.l0 (k+1) u v ((n+2:Nat):Int) q r o=exact_step.j2 k u v ((n+2:Nat):Int) q:=by
 rcases h with rfl| ⟨rfl,h⟩
 ·simp only [exact_step.l0]
  rw [if_neg (show¬(1:Int)=0 by decide)]
 ·have c1:(n:Int)<(v.length:Int):=by clear h ew;omega
  have c2:(n:Int)<(u.length:Int):=by clear h ew;omega
  have t1':rd u (n:Int)<18446744073709551616:=t1
  have h':q*rd v (n:Int)≤18446744073709551616*r+rd u (n:Int):=h
  have e:=Int.emod_add_mul_ediv (q*rd v (n:Int)) 18446744073709551616
  have m0:=Int.emod_nonneg (q*rd v (n:Int)) (show(18446744073709551616:Int)≠0 by decide)
  have g:q*rd v (n:Int)/18446744073709551616<r∨q*rd v (n:Int)/18446744073709551616=r∧q*rd v (n:Int)%18446744073709551616≤rd u (n:Int):=by clear h ew;omega
  have a1:=mul64_eq q0 q1 w0 w1
  simp only [exact_step.l0,ew]
  rw [if_pos trivial,if_pos (Int.natCast_nonneg _),if_pos c1,a1,Option.bind_some]
  rcases g with g| ⟨g1,g2⟩
  ·rw [if_pos g]
  ·rw [if_neg (show¬q*rd v (n:Int)/18446744073709551616<r by clear h ew;omega),if_pos g1,if_pos c2,if_pos g2]
theorem l0_fail {u v:List Int} {n:Nat} {q r:Int} (hn:v.length=n+2) (hl:u.length=n+3) (ew:wrap64 (((n+2:Nat):Int)-2)=((n:Nat):Int)) (ew1:wrap64 (((n+2:Nat):Int)-1)=((n+1:Nat):Int)) (q0:1≤q) (q1:q<B64) (r0:0≤r) (w0:0≤rd v (n:Int)) (w1:rd v (n:Int)<B64) (t0:0≤rd u (n:Int)) (t1:rd u (n:Int)<B64) (y0:0≤rd v ((n+1:Nat):Int))
  (h:¬q*rd v (n:Int)≤B64*r+rd u (n:Int)) (k:Nat):exact_step.l0 (k+1) u v ((n+2:Nat):Int) q r 0=exact_step.l0 k u v ((n+2:Nat):Int) (q-1) ((r+rd v ((n+1:Nat):Int)+0)%B64) ((r+rd v ((n+1:Nat):Int)+0)/B64):=by
 have c1:(n:Int)<(v.length:Int):=by clear h ew ew1;omega
 have c2:(n:Int)<(u.length:Int):=by clear h ew ew1;omega
 have c3:((n+1:Nat):Int)<(v.length:Int):=by clear h ew ew1;omega
 have t1':rd u (n:Int)<18446744073709551616:=t1
 have q1':q<18446744073709551616:=q1
 have h':¬q*rd v (n:Int)≤18446744073709551616*r+rd u (n:Int):=h
 have e:=Int.emod_add_mul_ediv (q*rd v (n:Int)) 18446744073709551616
 have m0:=Int.emod_lt_of_pos (q*rd v (n:Int)) (show(0:Int)<18446744073709551616 by decide)
 have g1:¬q*rd v (n:Int)/18446744073709551616<r:=by clear h ew ew1;omega
 have g2:q*rd v (n:Int)/18446744073709551616=r→¬q*rd v (n:Int)%18446744073709551616≤rd u (n:Int):=by clear h ew ew1;omega
 have a1:=mul64_eq (show 0≤q by omega) q1 w0 w1
 have a2:=add64_eq r0 y0 (Int.le_refl 0) (by decide)
 have wq:IntKind.u64.wrap (q-1)=q-1:=by clear h h' ew ew1 g1 g2 e;exact u64 (by omega) (by omega)
 conv=>lhs;simp only [exact_step.l0,ew,ew1,wq]
 rw [if_pos trivial,if_pos (Int.natCast_nonneg _),if_pos c1,a1,Option.bind_some,if_neg g1]
 by_cases g3:q*rd v (n:Int)/18446744073709551616=r
 ·rw [if_pos g3,if_pos c2,if_neg (g2 g3),if_pos (Int.natCast_nonneg _),if_pos c3,a2,Option.bind_some]
 ·rw [if_neg g3,if_pos (Int.natCast_nonneg _),if_pos c3,a2,Option.bind_some]
theorem step_l0 {u v:List Int} {n:Nat} (hn:v.length=n+2) (ln:n≤1099511627000) (hu:Dig B64 u) (hv:Dig B64 v) (hl:u.length=n+3) (ht:rd v ((n+1:Nat):Int)≠0):
  ∀(d:Nat) (q r o:Int),q=vB B64 u/vB B64 v+d→0≤q→q<B64→0≤r→r<B64→(o=0∨o=1)→q*rd v ((n+1:Nat):Int)+(r+B64*o)=rd u ((n+1:Nat):Int)+B64*rd u ((n+2:Nat):Int)→
  ∃z,z.length=n+3∧Dig B64 z∧vB B64 z=vB B64 u%vB B64 v∧Ev (fun k=>exact_step.l0 k u v ((n+2:Nat):Int) q r o) (vB B64 u/vB B64 v,z):=by
 have hB:(0:Int)<B64:=by decide
 obtain⟨lv,lv0,lv1,eV⟩:=split2 hv hn
 obtain⟨lu,lu0,lu1,eU⟩:=split3 hu hl
 have hP:(0:Int)<B64^n:=Int.pow_pos hB
 obtain⟨y0,y1⟩:=Dig_rd hv (n+1) (by clear lv1 lu1 eV eU;omega)
 obtain⟨w0,w1⟩:=Dig_rd hv n (by clear lv1 lu1 eV eU;omega)
 obtain⟨t0,t1⟩:=Dig_rd hu n (by clear lv1 lu1 eV eU;omega)
 have hW:B64≤rd v (n:Int)+B64*rd v ((n+1:Nat):Int):=by
  have:B64*1≤B64*rd v ((n+1:Nat):Int):=Int.mul_le_mul_of_nonneg_left (by clear lv1 lu1 eV eU;omega) (Int.le_of_lt hB)
  rw [Int.mul_one]at this
  clear lv1 lu1 eV eU;omega
 have hV0:0<vB B64 v:=by
  have:0<B64^n*(rd v (n:Int)+B64*rd v ((n+1:Nat):Int)):=Int.mul_pos hP (Int.lt_of_lt_of_le hB hW)
  generalize B64^n*(rd v (n:Int)+B64*rd v ((n+1:Nat):Int))=A at*
  clear lv1 lu1 eU;omega
 have hQ0:0≤vB B64 u/vB B64 v:=Int.ediv_nonneg (vB_nonneg (Int.le_of_lt hB) hu) (Int.le_of_lt hV0)
 have ew:wrap64 (((n+2:Nat):Int)-2)=((n:Nat):Int):=by clear lv1 lu1 eV eU;rw [w64 (by omega) (by omega)];omega
 have ew1:wrap64 (((n+2:Nat):Int)-1)=((n+1:Nat):Int):=by clear lv1 lu1 eV eU ew;rw [w64 (by omega) (by omega)];omega
 have done:∀q:Int,vB B64 u/vB B64 v≤q→0≤q→q<B64→q*(rd v (n:Int)+B64*rd v ((n+1:Nat):Int))≤rd u (n:Int)+B64*(rd u ((n+1:Nat):Int)+B64*rd u ((n+2:Nat):Int))→
   ∃z,z.length=n+3∧Dig B64 z∧vB B64 z=vB B64 u%vB B64 v∧Ev (fun k=>exact_step.j2 k u v ((n+2:Nat):Int) q) (vB B64 u/vB B64 v,z):=by
  intro q g1 q0 q1 g2
  have g3:=guess_le hP lv0 lv1 lu0 eV eU hW q0 q1 g2
  obtain⟨z,z1,z2,z3,z4⟩:=step_l1 hn (by clear lv1 lu1 eV eU ew ew1;omega) hu hv hl hV0 q0 q1 g1 g3 (n+2) 0 u 0 0 (Nat.zero_add _) ⟨rfl,hu,⟨by decide,by decide⟩,⟨by decide,hB⟩,by simp [vB]⟩
  exact⟨z,z1,z2,z3,Ev.step (f:=fun k=>exact_step.l1 k u v ((n+2:Nat):Int) q 0 0 ((n+2:Nat):Int) ((0:Nat):Int)) (fun k=>rfl) z4⟩
 have test:∀q r:Int,q*rd v ((n+1:Nat):Int)+r=rd u ((n+1:Nat):Int)+B64*rd u ((n+2:Nat):Int)→(q*rd v (n:Int)≤B64*r+rd u (n:Int)↔q*(rd v (n:Int)+B64*rd v ((n+1:Nat):Int))≤rd u (n:Int)+B64*(rd u ((n+1:Nat):Int)+B64*rd u ((n+2:Nat):Int))):=by
  intro q r he
  rw [←he,Int.mul_add q,Int.mul_left_comm q B64,Int.mul_add B64]
  generalize q*rd v ((n+1:Nat):Int)=a
  generalize q*rd v (n:Int)=b
  clear lv1 lu1 eV eU ew ew1
  omega
 intro d
 induction d with
 |zero=>
  intro q r o hq q0 q1 r0 r1 ho he
  have hq:vB B64 u/vB B64 v=q:=by omega
  have hle:q*rd v (n:Int)≤B64*(r+B64*o)+rd u (n:Int):=by
   rw [test q (r+B64*o) he]
   rcases Int.lt_or_le (rd u (n:Int)+B64*(rd u ((n+1:Nat):Int)+B64*rd u ((n+2:Nat):Int))) (q*(rd v (n:Int)+B64*rd v ((n+1:Nat):Int)))with h|h
   ·have:=guess_gt hP lv0 lu1 eV eU hV0 q0 h
    omega
   ·exact h
  obtain⟨z,z1,z2,z3,z4⟩:=done q (by omega) q0 q1 ((test q _ he).1 hle)
  refine⟨z,z1,z2,z3,Ev.step (fun k=>l0_pass hn hl ew q0 q1 w0 w1 t0 t1 ?_ k) z4⟩
  rcases ho with rfl|rfl
  ·right
   rw [Int.mul_zero,Int.add_zero]at hle
   exact⟨rfl,hle⟩
  ·exact Or.inl rfl
 |succ d ih=>
  intro q r o hq q0 q1 r0 r1 ho he
  by_cases hp:o=1∨o=0∧q*rd v (n:Int)≤B64*r+rd u (n:Int)
  ·have hle:q*rd v (n:Int)≤B64*(r+B64*o)+rd u (n:Int):=by
    rcases hp with rfl| ⟨rfl,h⟩
    ·have q1':q<18446744073709551616:=q1
     have w1':rd v (n:Int)<18446744073709551616:=w1
     have h1:=mul_range q0 (show q≤18446744073709551615 by omega) w0 (show rd v (n:Int)≤18446744073709551615 by omega)
     have h2:(18446744073709551615:Int)*18446744073709551615=340282366920938463426481119284349108225:=rfl
     have h3:(B64:Int)*(B64*1)=340282366920938463463374607431768211456:=rfl
     rw [h2]at h1
     rw [Int.mul_add,h3]
     have h4:0≤B64*r:=Int.mul_nonneg (by decide) r0
     clear lv1 lu1 eV eU ew ew1
     omega
    ·rw [Int.mul_zero,Int.add_zero]
     exact h
   obtain⟨z,z1,z2,z3,z4⟩:=done q (by omega) q0 q1 ((test q _ he).1 hle)
   exact⟨z,z1,z2,z3,Ev.step (fun k=>l0_pass hn hl ew q0 q1 w0 w1 t0 t1 hp k) z4⟩
  ·have ho:o=0:=by
    rcases ho with h|h
    ·exact h
    ·exact absurd (Or.inl h) hp
   subst ho
   have hp':¬q*rd v (n:Int)≤B64*r+rd u (n:Int):=fun h=>hp (Or.inr ⟨rfl,h⟩)
   have hov:=add_range r0 r1 y0 y1 (Int.le_refl 0) (by decide)
   have he2:=Int.emod_add_mul_ediv (r+rd v ((n+1:Nat):Int)+0) B64
   obtain⟨z,z1,z2,z3,z4⟩:=ih (q-1) ((r+rd v ((n+1:Nat):Int)+0)%B64) ((r+rd v ((n+1:Nat):Int)+0)/B64) (by omega) (by omega) (by omega) (Int.emod_nonneg _ (by decide)) (Int.emod_lt_of_pos _ hB) (by omega) (by
    rw [he2,Int.sub_mul,Int.one_mul]
    rw [Int.mul_zero]at he
    clear lv1 lu1 eV eU ew ew1 hp hp' hov he2
    omega)
   exact⟨z,z1,z2,z3,Ev.step (fun k=>l0_fail hn hl ew ew1 (by omega) q1 r0 w0 w1 t0 t1 y0 hp' k) z4⟩
theorem step_ev {u v:List Int} {n:Nat} (hn:v.length=n+2) (ln:n≤1099511627000) (hu:Dig B64 u) (hv:Dig B64 v) (hl:u.length=n+3) (ht:rd v ((n+1:Nat):Int)≠0) (hlt:vB B64 u<vB B64 v*B64):
  ∃z,z.length=n+3∧Dig B64 z∧vB B64 z=vB B64 u%vB B64 v∧Ev (fun k=>exact_step.f k u v) (vB B64 u/vB B64 v,z):=by
 have hB:(0:Int)<B64:=by decide
 obtain⟨lv,lv0,lv1,eV⟩:=split2 hv hn
 obtain⟨lu,lu0,lu1,eU⟩:=split3 hu hl
 have hP:(0:Int)<B64^n:=Int.pow_pos hB
 obtain⟨y0,y1⟩:=Dig_rd hv (n+1) (by clear lv1 lu1 eV eU;omega)
 obtain⟨w0,w1⟩:=Dig_rd hv n (by clear lv1 lu1 eV eU;omega)
 obtain⟨t0,t1⟩:=Dig_rd hu n (by clear lv1 lu1 eV eU;omega)
 obtain⟨p0,p1⟩:=Dig_rd hu (n+1) (by clear lv1 lu1 eV eU;omega)
 obtain⟨x0,x1⟩:=Dig_rd hu (n+2) (by clear lv1 lu1 eV eU;omega)
 have y2:1≤rd v ((n+1:Nat):Int):=by clear lv1 lu1 eV eU;omega
 have hW:B64≤rd v (n:Int)+B64*rd v ((n+1:Nat):Int):=by
  have:B64*1≤B64*rd v ((n+1:Nat):Int):=Int.mul_le_mul_of_nonneg_left y2 (Int.le_of_lt hB)
  rw [Int.mul_one]at this
  clear lv1 lu1 eV eU;omega
 have hV0:0<vB B64 v:=by
  have:0<B64^n*(rd v (n:Int)+B64*rd v ((n+1:Nat):Int)):=Int.mul_pos hP (Int.lt_of_lt_of_le hB hW)
  generalize B64^n*(rd v (n:Int)+B64*rd v ((n+1:Nat):Int))=A at*
  clear lv1 lu1 eU;omega
 have hQ0:0≤vB B64 u/vB B64 v:=Int.ediv_nonneg (vB_nonneg (Int.le_of_lt hB) hu) (Int.le_of_lt hV0)
 have hQ1:vB B64 u/vB B64 v<B64:=Int.ediv_lt_of_lt_mul hV0 (by rw [Int.mul_comm];exact hlt)
 have hX:(vB B64 u/vB B64 v)*rd v ((n+1:Nat):Int)≤rd u ((n+1:Nat):Int)+B64*rd u ((n+2:Nat):Int):=by
  have h1:=Int.ediv_mul_le (vB B64 u) (show vB B64 v≠0 by clear lv1 lu1 eV eU;omega)
  generalize vB B64 u/vB B64 v=Q at*
  rw [eV,eU]at h1
  have e1:Q*(lv+B64^n*(rd v (n:Int)+B64*rd v ((n+1:Nat):Int)))=Q*lv+Q*(B64^n*rd v (n:Int))+B64^n*(B64*(Q*rd v ((n+1:Nat):Int))):=by
   rw [Int.mul_add Q,Int.mul_add (B64^n),Int.mul_add Q,Int.mul_left_comm Q (B64^n) (B64*_),Int.mul_left_comm Q B64,Int.add_assoc]
  rw [e1]at h1
  have h2:0≤Q*lv:=Int.mul_nonneg hQ0 lv0
  have h3:0≤Q*(B64^n*rd v (n:Int)):=Int.mul_nonneg hQ0 (Int.mul_nonneg (Int.le_of_lt hP) w0)
  rcases Int.lt_or_le (rd u ((n+1:Nat):Int)+B64*rd u ((n+2:Nat):Int)) (Q*rd v ((n+1:Nat):Int))with h|h
  ·exfalso
   have h4:B64*(rd u ((n+1:Nat):Int)+B64*rd u ((n+2:Nat):Int)+1)≤B64*(Q*rd v ((n+1:Nat):Int)):=Int.mul_le_mul_of_nonneg_left (by clear lv1 lu1 eV eU h1 e1;omega) (Int.le_of_lt hB)
   have h5:=Int.mul_le_mul_of_nonneg_left h4 (Int.le_of_lt hP)
   have h6:B64^n*(rd u (n:Int)+1)≤B64^n*B64:=Int.mul_le_mul_of_nonneg_left (by clear lv1 lu1 eV eU h1 e1 h5;omega) (Int.le_of_lt hP)
   rw [Int.mul_add B64,Int.mul_one,Int.mul_add (B64^n)]at h5
   rw [Int.mul_add (B64^n) (rd u (n:Int)),Int.mul_one]at h6
   rw [Int.mul_add (B64^n) (rd u (n:Int))]at h1
   generalize B64^n*(B64*(rd u ((n+1:Nat):Int)+B64*rd u ((n+2:Nat):Int)))=A at*
   generalize B64^n*(B64*(Q*rd v ((n+1:Nat):Int)))=A1 at*
   generalize B64^n*rd u (n:Int)=A2 at*
   generalize B64^n*B64=A3 at*
   generalize(B64:Int)^n=P at*
   clear eV eU e1 hV0 hQ1
   omega
  ·exact h
 have ew1:wrap64 (((n+2:Nat):Int)-1)=((n+1:Nat):Int):=by clear lv1 lu1 eV eU;rw [w64 (by omega) (by omega)];omega
 have c1:((n+2:Nat):Int)<(u.length:Int):=by clear lv1 lu1 eV eU ew1;omega
 have c2:((n+1:Nat):Int)<(v.length:Int):=by clear lv1 lu1 eV eU ew1;omega
 have c3:((n+1:Nat):Int)<(u.length:Int):=by clear lv1 lu1 eV eU ew1;omega
 have ev:(v.length:Int)=((n+2:Nat):Int):=by clear lv1 lu1 eV eU ew1;omega
 by_cases hc:rd u ((n+2:Nat):Int)≥rd v ((n+1:Nat):Int)
 ·
  have heq:rd u ((n+2:Nat):Int)=rd v ((n+1:Nat):Int):=by
   rcases Int.lt_or_le (rd v ((n+1:Nat):Int)) (rd u ((n+2:Nat):Int))with h|h
   ·exfalso
    have g1:B64*(rd v ((n+1:Nat):Int)+1)≤B64*rd u ((n+2:Nat):Int):=Int.mul_le_mul_of_nonneg_left (by clear lv1 lu1 eV eU;omega) (Int.le_of_lt hB)
    rw [Int.mul_add,Int.mul_one]at g1
    have g2:rd v (n:Int)+B64*rd v ((n+1:Nat):Int)+1≤rd u ((n+1:Nat):Int)+B64*rd u ((n+2:Nat):Int):=by clear lv1 lu1 eV eU;omega
    have g3:B64*(rd v (n:Int)+B64*rd v ((n+1:Nat):Int)+1)≤B64*(rd u ((n+1:Nat):Int)+B64*rd u ((n+2:Nat):Int)):=Int.mul_le_mul_of_nonneg_left g2 (Int.le_of_lt hB)
    have g4:=Int.mul_le_mul_of_nonneg_left g3 (Int.le_of_lt hP)
    rw [eV,eU,Int.add_mul,Int.mul_add (B64^n) (rd u (n:Int))]at hlt
    have g5:0≤B64^n*rd u (n:Int):=Int.mul_nonneg (Int.le_of_lt hP) t0
    have g6:lv*B64<B64^n*B64:=Int.mul_lt_mul_of_pos_right lv1 hB
    rw [Int.mul_add B64,Int.mul_one,Int.mul_add (B64^n)]at g4
    have e2:B64^n*(rd v (n:Int)+B64*rd v ((n+1:Nat):Int))*B64=B64^n*(B64*(rd v (n:Int)+B64*rd v ((n+1:Nat):Int))):=by rw [Int.mul_assoc,Int.mul_comm _ B64]
    rw [e2]at hlt
    generalize B64^n*(B64*(rd u ((n+1:Nat):Int)+B64*rd u ((n+2:Nat):Int)))=A at*
    generalize B64^n*(B64*(rd v (n:Int)+B64*rd v ((n+1:Nat):Int)))=A1 at*
    generalize B64^n*rd u (n:Int)=A2 at*
    generalize B64^n*B64=A3 at*
    generalize lv*B64=A4 at*
    clear eV eU e2 hV0 hQ1 hX lv1 lu1
    omega
   ·clear lv1 lu1 eV eU;omega
  have a2:=add64_eq p0 y0 (Int.le_refl 0) (by decide)
  have hov:=add_range p0 p1 y0 y1 (Int.le_refl 0) (by decide)
  have he2:=Int.emod_add_mul_ediv (rd u ((n+1:Nat):Int)+rd v ((n+1:Nat):Int)+0) B64
  have hd:(18446744073709551615:Int)=vB B64 u/vB B64 v+((18446744073709551615-vB B64 u/vB B64 v).toNat:Nat):=by
   have:vB B64 u/vB B64 v<18446744073709551616:=hQ1
   clear lv1 lu1 eV eU;omega
  obtain⟨z,z1,z2,z3,z4⟩:=step_l0 hn ln hu hv hl ht _ 18446744073709551615 _ _ hd (by decide) (by decide) (Int.emod_nonneg _ (by decide)) (Int.emod_lt_of_pos _ hB) (show(rd u ((n+1:Nat):Int)+rd v ((n+1:Nat):Int)+0)/B64=0∨(rd u ((n+1:Nat):Int)+rd v ((n+1:Nat):Int)+0)/B64=1 by clear lv1 lu1 eV eU;omega) (by
   rw [he2,heq]
   show 18446744073709551615*rd v ((n+1:Nat):Int)+(rd u ((n+1:Nat):Int)+rd v ((n+1:Nat):Int)+0)=rd u ((n+1:Nat):Int)+18446744073709551616*rd v ((n+1:Nat):Int)
   clear lv1 lu1 eV eU;omega)
  refine⟨z,z1,z2,z3,Ev.congr (fun k=>?_) (Ev.step (f:=_) (fun k=>rfl) z4:Ev (fun k=>exact_step.j0 k u v ((n+2:Nat):Int) 18446744073709551615 ((rd u ((n+1:Nat):Int)+rd v ((n+1:Nat):Int)+0)%B64) ((rd u ((n+1:Nat):Int)+rd v ((n+1:Nat):Int)+0)/B64)) _)⟩
  unfold exact_step.f
  rw [ev,ew1,if_pos (Int.natCast_nonneg _),if_pos c1,if_pos (Int.natCast_nonneg _),if_pos (by rw [←ev];exact c2),if_pos hc,if_pos c3,a2,Option.bind_some]
 ·have hq:=div64_ev x0 (show rd u ((n+2:Nat):Int)<rd v ((n+1:Nat):Int)by clear lv1 lu1 eV eU;omega) y1 p0 p1
  have hyp:0<rd v ((n+1:Nat):Int):=by clear lv1 lu1 eV eU;omega
  have g:=Int.emod_add_mul_ediv (rd u ((n+2:Nat):Int)*B64+rd u ((n+1:Nat):Int)) (rd v ((n+1:Nat):Int))
  have r0:=Int.emod_nonneg (rd u ((n+2:Nat):Int)*B64+rd u ((n+1:Nat):Int)) (show rd v ((n+1:Nat):Int)≠0 from ht)
  have r1:=Int.emod_lt_of_pos (rd u ((n+2:Nat):Int)*B64+rd u ((n+1:Nat):Int)) hyp
  have q0:0≤(rd u ((n+2:Nat):Int)*B64+rd u ((n+1:Nat):Int))/rd v ((n+1:Nat):Int):=Int.ediv_nonneg (Int.add_nonneg (Int.mul_nonneg x0 (Int.le_of_lt hB)) p0) (Int.le_of_lt hyp)
  have q1:(rd u ((n+2:Nat):Int)*B64+rd u ((n+1:Nat):Int))/rd v ((n+1:Nat):Int)<B64:=Int.ediv_lt_of_lt_mul hyp (by
   have h1:=Int.mul_le_mul_of_nonneg_right (show rd u ((n+2:Nat):Int)+1≤rd v ((n+1:Nat):Int)by clear lv1 lu1 eV eU;omega) (Int.le_of_lt hB)
   rw [Int.add_mul,Int.one_mul,Int.mul_comm (rd v _)]at h1
   clear lv1 lu1 eV eU;omega)
  have hQq:vB B64 u/vB B64 v≤(rd u ((n+2:Nat):Int)*B64+rd u ((n+1:Nat):Int))/rd v ((n+1:Nat):Int):=Int.le_ediv_of_mul_le hyp (by rw [Int.mul_comm (rd u _) B64,Int.add_comm];exact hX)
  obtain⟨z,z1,z2,z3,z4⟩:=step_l0 hn ln hu hv hl ht ((rd u ((n+2:Nat):Int)*B64+rd u ((n+1:Nat):Int))/rd v ((n+1:Nat):Int)-vB B64 u/vB B64 v).toNat ((rd u ((n+2:Nat):Int)*B64+rd u ((n+1:Nat):Int))/rd v ((n+1:Nat):Int)) ((rd u ((n+2:Nat):Int)*B64+rd u ((n+1:Nat):Int))%rd v ((n+1:Nat):Int)) 0 (by clear lv1 lu1 eV eU;omega) q0 q1 r0 (Int.lt_trans r1 y1) (Or.inl rfl) (by
   rw [Int.mul_zero,Int.add_zero,Int.mul_comm]
   rw [Int.mul_comm (rd u _) B64]at g⊢
   clear lv1 lu1 eV eU;omega)
  refine⟨z,z1,z2,z3,Ev.congr (f:=fun k=>(bits_Div64.f k (rd u ((n+2:Nat):Int)) (rd u ((n+1:Nat):Int)) (rd v ((n+1:Nat):Int))).bind fun bt=>exact_step.j0 k u v ((n+2:Nat):Int) bt.1 bt.2 0) (fun k=>?_) (Ev.bind hq (Ev.step (f:=_) (fun k=>rfl) z4))⟩
  unfold exact_step.f
  rw [ev,ew1,if_pos (Int.natCast_nonneg _),if_pos c1,if_pos (Int.natCast_nonneg _),if_pos (by rw [←ev];exact c2),if_neg hc,if_pos c3]
theorem drop_succ (B:Int) (l:List Int) (i:Nat) (h:i<l.length):vB B (l.drop i)=rd l (i:Int)+B*vB B (l.drop (i+1)):=by
 rw [List.drop_eq_getElem_cons h,vB_cons,rd_get l i h]
theorem drop_set (l:List Int) (i:Nat) (x:Int):(l.set i x).drop (i+1)=l.drop (i+1):=by
 apply List.ext_getElem?
 intro j
 rw [List.getElem?_drop,List.getElem?_drop,List.getElem?_set_ne (by omega)]
theorem vB_far (B:Int) {l:List Int} {n:Nat} (h:l.length≤n):vB B (l.drop n)=0:=by rw [List.drop_of_length_le h];rfl
theorem divide_l0 {a b:List Int} {y:Int} (ha:Dig B64 a) (la:a.length≤1099511627776) (hb:b.length=1) (hy:rd b 0=y) (y0:0<y) (y1:y<B64) {m n:Nat} (hm:vB B64 a=m) (hn:y=n):∀(i:Nat) (q:List Int) (r:Int),i≤a.length→q.length=a.length→Dig B64 q→0≤r→r<y→vB B64 (a.drop i)=y*vB B64 (q.drop i)+r→
  Ev (fun k=>exact_divide.l0 k a b q r ((i:Int)-1)) (d64 (m/n),d64 (m%n)):=by
 intro i
 induction i with
 |zero=>
  intro q r _ hl hd r0 r1 hv
  rw [List.drop_zero,List.drop_zero,hm,hn]at hv
  have hq0:=vB_nonneg (by decide) hd
  have e1:(vB B64 q).toNat=m/n:=by
   have:(vB B64 q)=((m/n:Nat):Int):=by
    rw [Int.natCast_ediv,hv,Int.add_comm,Int.add_mul_ediv_left _ _ (by omega),Int.ediv_eq_zero_of_lt r0 (by omega),Int.zero_add]
   rw [this,Int.toNat_natCast]
  have e2:(vB B64 [r]).toNat=m%n:=by
   have:(vB B64 [r])=((m%n:Nat):Int):=by
    rw [Int.natCast_emod,hv,Int.add_comm,Int.add_mul_emod_self_left,Int.emod_eq_of_lt r0 (by omega)]
    simp [vB]
   rw [this,Int.toNat_natCast]
  have t1:=trim_ev hd (by omega)
  have t2:=trim_ev (l:=[r]) (Dig_cons.2 ⟨⟨r0,Int.lt_trans r1 y1⟩,Dig_nil _⟩) (by simp)
  rw [e1]at t1
  rw [e2]at t2
  refine Ev.step (f:=fun k=>(exact_trim.f k q).bind fun t173=>((exact_trim.f k [r]).bind fun t179=>some (t173,t179))) (fun k=>?_) (Ev.bind t1 (Ev.bind (f:=fun _ t179=>some (d64 (m/n),t179)) t2 (Ev.now _)))
  simp only [exact_divide.l0]
  rw [if_neg (by decide)]
 |succ i ih=>
  intro q r hi hl hd r0 r1 hv
  have hi':i<a.length:=by omega
  obtain⟨x0,x1⟩:=Dig_rd ha i hi'
  have hdv:=div64_ev r0 r1 y1 x0 x1
  have g:=Int.emod_add_mul_ediv (r*B64+rd a (i:Int)) y
  have g0:=Int.emod_nonneg (r*B64+rd a (i:Int)) (show y≠0 by omega)
  have g1:=Int.emod_lt_of_pos (r*B64+rd a (i:Int)) y0
  have d0:0≤(r*B64+rd a (i:Int))/y:=Int.ediv_nonneg (Int.add_nonneg (Int.mul_nonneg r0 (by decide)) x0) (by omega)
  have d1:(r*B64+rd a (i:Int))/y<B64:=Int.ediv_lt_of_lt_mul y0 (by
   have h1:=Int.mul_le_mul_of_nonneg_right (show r+1≤y by omega) (show(0:Int)≤B64 by decide)
   rw [Int.add_mul,Int.one_mul,Int.mul_comm y]at h1
   omega)
  have e0:((i+1:Nat):Int)-1=(i:Int):=by omega
  have e1:wrap64 ((i:Int)-1)=(i:Int)-1:=w64 (by omega) (by omega)
  have c1:(i:Int)≥0:=by omega
  have c2:(i:Int)<(a.length:Int):=by omega
  have c3:(0:Int)<(b.length:Int):=by omega
  have c4:(i:Int)<(q.length:Int):=by omega
  rw [e0]
  refine Ev.step (f:=fun k=>(bits_Div64.f k r (rd a (i:Int)) y).bind fun bt170=>exact_divide.l0 k a b (q.set i bt170.1) bt170.2 ((i:Int)-1)) (fun k=>?_) (Ev.bind hdv (ih _ _ (by omega) (by rw [List.length_set];exact hl) (Dig_set hd _ d0 d1) g0 g1 ?_))
  ·simp only [exact_divide.l0,e1]
   rw [if_pos c1,if_pos c1,if_pos c2,if_pos c3,hy]
   simp only [if_pos c4,Int.toNat_natCast]
  ·show vB B64 (a.drop i)=y*vB B64 ((q.set i ((r*B64+rd a (i:Int))/y)).drop i)+(r*B64+rd a (i:Int))%y
   rw [drop_succ B64 a i hi',drop_succ B64 (q.set i ((r*B64+rd a (i:Int))/y)) i (by rw [List.length_set];omega),rd_set_self _ _ _ (by omega),drop_set,hv]
   rw [Int.mul_add B64,Int.mul_add y,Int.mul_left_comm y B64]
   rw [Int.mul_comm r B64]at*
   generalize y*((B64*r+rd a (i:Int))/y)=A at*
   generalize(B64*r+rd a (i:Int))%y=A2 at*
   generalize B64*(y*vB B64 (q.drop (i+1)))=A3 at*
   generalize B64*r=A4 at*
   clear hdv hv
   omega
def Down (u z:List Int) (s i:Nat):Prop:=
 z.length=u.length∧Dig B64 z∧(∀j:Nat,i≤j→rd z (j:Int)=rd u (j:Int))∧2^s*vB B64 (z.take i)=vB B64 (u.take i)+B64^i*(rd u (i:Int)%2^s)
theorem word_down {x y:Int} (x0:0≤x) (x1:x<B64) (y0:0≤y) (y1:y<B64) (s:Nat) (hs:s≤63):2^s*(x/2^s+(y*2^(64-s))%B64)=x-x%2^s+B64*(y%2^s)∧(y*2^(64-s))%B64%2^(64-s)=0∧x/2^s<2^(64-s)∧0≤x/2^s∧x/2^s+(y*2^(64-s))%B64<B64:=by
 have hP:(0:Int)<2^s:=Int.pow_pos (by decide)
 have hR:(0:Int)<2^(64-s):=Int.pow_pos (by decide)
 have hPR:(2:Int)^s*2^(64-s)=B64:=by
  rw [←Int.pow_add]
  have:s+(64-s)=64:=by omega
  rw [this]
  rfl
 have g:=Int.emod_add_mul_ediv y (2^s)
 have g0:=Int.emod_nonneg y (show(2:Int)^s≠0 by omega)
 have g1:=Int.emod_lt_of_pos y hP
 have g2:y*2^(64-s)=y%2^s*2^(64-s)+B64*(y/2^s):=by
  conv=>lhs;rw [←g]
  rw [Int.add_mul,Int.mul_right_comm,hPR]
 have g3:0≤y%2^s*2^(64-s):=Int.mul_nonneg g0 (Int.le_of_lt hR)
 have g4:y%2^s*2^(64-s)+2^(64-s)≤B64:=by
  have:=Int.mul_le_mul_of_nonneg_right (show y%2^s+1≤2^s by omega) (Int.le_of_lt hR)
  rwa [hPR,Int.add_mul,Int.one_mul]at this
 have g5:(y*2^(64-s))%B64=y%2^s*2^(64-s):=by
  rw [g2,Int.add_mul_emod_self_left,Int.emod_eq_of_lt g3 (by omega)]
 have k1:=Int.emod_add_mul_ediv x (2^s)
 have k2:x/2^s<2^(64-s):=Int.ediv_lt_of_lt_mul hP (by rw [Int.mul_comm,hPR];exact x1)
 refine⟨?_,by rw [g5];exact Int.mul_emod_left _ _,k2,Int.ediv_nonneg x0 (Int.le_of_lt hP),by rw [g5];omega⟩
 rw [g5,Int.mul_add,Int.mul_left_comm (2^s) (y%2^s),hPR,Int.mul_comm (y%2^s)]
 omega
theorem down_step {u z:List Int} {s i:Nat} (hs:s≤63) (hu:Dig B64 u) (hi:i+1<u.length) (h:Down u z s i):Down u (z.set i (rd u (i:Int)/2^s+(rd u ((i+1:Nat):Int)*2^(64-s))%B64)) s (i+1):=by
 obtain⟨hl,hd,hr,hv⟩:=h
 obtain⟨x0,x1⟩:=Dig_rd hu i (by omega)
 obtain⟨y0,y1⟩:=Dig_rd hu (i+1) hi
 obtain⟨a1,a2,a3,a4,a5⟩:=word_down x0 x1 y0 y1 s hs
 have a6:=Int.emod_nonneg (rd u ((i+1:Nat):Int)*2^(64-s)) (show(B64:Int)≠0 by decide)
 refine⟨by rw [List.length_set];exact hl,Dig_set hd _ (Int.add_nonneg a4 a6) a5,fun j hj=>?_,?_⟩
 ·rw [rd_set_ne _ _ _ _ (by omega)]
  exact hr j (by omega)
 ·rw [take_succ,take_succ,rd_set_self _ _ _ (by omega),List.take_set_of_le (Nat.le_refl _),Int.mul_add,hv,Int.mul_left_comm (2^s),a1,Int.pow_succ,Int.mul_assoc (B64^i) B64,Int.mul_add (B64^i),Int.mul_sub]
  generalize B64^i*(rd u (i:Int)%2^s)=A
  generalize B64^i*rd u (i:Int)=A1
  generalize B64^i*(B64*(rd u ((i+1:Nat):Int)%2^s))=A2
  omega
theorem divide_l2 {u q:List Int} {s N Q R:Nat} (hs:s≤63) (hu:Dig B64 u) (hN:N+1≤u.length) (lu:u.length≤1099511627780) (hq:Dig B64 q) (lq:q.length≤1099511627780) (hQ:vB B64 q=Q) (hR:vB B64 (u.take N)+B64^N*(rd u (N:Int)%2^s)=2^s*R):
  ∀(d i:Nat) (z:List Int),i+d=N→Down u z s i→Ev (fun k=>exact_divide.l2 k (s:Int) z (N:Int) q (N:Int) (i:Int)) (d64 Q,d64 R):=by
 intro d
 induction d with
 |zero=>
  intro i z hi h
  have hi:i=N:=by omega
  subst hi
  have hl:=h.1
  have c1:(i:Int)≤(z.length:Int):=by omega
  have lz:z.length<9223372036854775808:=by omega
  have lz2:(z.take i).length<9223372036854775808:=by rw [List.length_take];omega
  have lq2:q.length<9223372036854775808:=by omega
  obtain⟨-,hd, -,hv⟩:=h
  rw [hR]at hv
  have hv':vB B64 (z.take i)=R:=Int.eq_of_mul_eq_mul_left (show(2:Int)^s≠0 from Int.ne_of_gt (Int.pow_pos (by decide))) hv
  have t1:=trim_ev hq lq2
  have t2:=trim_ev (Dig_take hd i) lz2
  rw [hQ,Int.toNat_natCast]at t1
  rw [hv',Int.toNat_natCast]at t2
  refine Ev.step (f:=fun k=>(exact_trim.f k q).bind fun t208=>(exact_trim.f k (z.take i)).bind fun t214=>some (t208,t214)) (fun k=>?_) (Ev.bind t1 (Ev.bind (f:=fun _ t214=>some (d64 Q,t214)) t2 (Ev.now _)))
  simp only [exact_divide.l2]
  rw [if_neg (Int.lt_irrefl _)]
  simp only [if_pos c1,if_pos (Int.natCast_nonneg i),Int.toNat_natCast]
 |succ d ih=>
  intro i z hi h
  have hi':i<N:=by omega
  have c0:i+1+d=N:=by omega
  have hl:=h.1
  have c1:(i:Int)<(N:Int):=by omega
  have c2:(i:Int)<(z.length:Int):=by omega
  have c3:((i+1:Nat):Int)<(z.length:Int):=by omega
  have c4:i<z.length:=by omega
  have c5:i+1<u.length:=by omega
  have hn:=down_step hs hu c5 h
  have e1:wrap64 ((i:Int)+1)=((i+1:Nat):Int):=by clear hR;rw [w64 (by omega) (by omega)];omega
  have e2:wrap64 (64-(s:Int))=((64-s:Nat):Int):=by clear hR e1;rw [w64 (by omega) (by omega)];omega
  have g0:=h.2.2.1 i (Nat.le_refl _)
  have g1:=h.2.2.1 (i+1) (by clear hR e1 e2;omega)
  obtain⟨x0,x1⟩:=Dig_rd hu i (by clear hR e1 e2;omega)
  obtain⟨y0,y1⟩:=Dig_rd hu (i+1) c5
  obtain⟨a1,a2,a3,a4,a5⟩:=word_down x0 x1 y0 y1 s hs
  have a6:=Int.emod_nonneg (rd u ((i+1:Nat):Int)*2^(64-s)) (show(B64:Int)≠0 by decide)
  have a7:=Int.emod_lt_of_pos (rd u ((i+1:Nat):Int)*2^(64-s)) (show(0:Int)<B64 by decide)
  have sh1:shr .u64 (rd z (i:Int)) (s:Int)=rd u (i:Int)/2^s:=by rw [g0];exact shr_eq _ _ (by clear hR e1 e2 a1;omega)
  have sh2:shl .u64 (rd u ((i+1:Nat):Int)) ((64-s:Nat):Int)=(rd u ((i+1:Nat):Int)*2^(64-s))%B64:=shl_eq _ _ (by clear hR e1 e2 a1;omega)
  have hor:=bits_join2 (64-s) (by clear hR e1 e2 a1;omega) a4 a3 a6 a7 a2 a5
  have r1:rd (z.set i (rd u (i:Int)/2^s)) (i:Int)=rd u (i:Int)/2^s:=rd_set_self _ _ _ c4
  have r2:rd (z.set i (rd u (i:Int)/2^s)) ((i+1:Nat):Int)=rd u ((i+1:Nat):Int):=by rw [rd_set_ne _ _ _ _ (by clear hR e1 e2 a1;omega)];exact g1
  refine Ev.step (fun k=>?_) (ih (i+1) _ c0 hn)
  simp only [exact_divide.l2,e1,e2,sh1,Int.toNat_natCast,Option.bind_some]
  rw [if_pos c1,if_pos (Int.natCast_nonneg _),if_pos c2,if_pos (Int.natCast_nonneg _)]
  by_cases hs0:(s:Int)>0
  ·rw [if_pos hs0,if_pos c3,if_pos (Int.natCast_nonneg _),if_pos (Int.natCast_nonneg _),r1,r2,sh2,hor,List.set_set]
  ·rw [if_neg hs0]
   have hs1:s=0:=by clear hR e1 e2 a1;omega
   subst hs1
   have:(rd u ((i+1:Nat):Int)*2^(64-0))%B64=0:=Int.mul_emod_left _ _
   rw [this,Int.add_zero]
def Long (M V:Int) (L Lq:Nat) (u q:List Int) (J:Nat):Prop:=
 u.length=L∧Dig B64 u∧q.length=Lq∧Dig B64 q∧vB B64 (u.drop J)<V∧M=vB B64 u+V*(B64^J*vB B64 (q.drop J))
theorem long_step {M:Int} {L Lq N j:Nat} {u v q:List Int} (hv:Dig B64 v) (hN:v.length=N+2) (ln:N≤1099511627000) (ht:rd v ((N+1:Nat):Int)≠0) (hj:j+(N+2)+1≤L) (hjq:j<Lq) (h:Long M (vB B64 v) L Lq u q (j+1)):
  ∃d u',Long M (vB B64 v) L Lq u' (q.set j d) j∧Ev (fun k=>exact_stepAt.f k u v (j:Int) ((j+(N+2)+1:Nat):Int)) (d,u'):=by
 have hB:(0:Int)<B64:=by decide
 obtain⟨hl,hd,hlq,hdq,hlt,hM⟩:=h
 have hV1:=vB_lt hB hv
 rw [hN]at hV1
 have hVn:=vB_nonneg (Int.le_of_lt hB) hv
 obtain⟨w,hw⟩:∃w,w=(u.take (j+(N+2)+1)).drop j:=⟨_,rfl⟩
 have hwl:w.length=N+3:=by rw [hw,List.length_drop,List.length_take];omega
 have hwd:Dig B64 w:=by rw [hw];exact Dig_drop (Dig_take hd _) _
 have hwt:w=(u.drop j).take (N+3):=by rw [hw,List.drop_take];congr 1;omega
 have hdl:(u.drop j).length=L-j:=by rw [List.length_drop,hl]
 have s1:=vB_split B64 (u.drop j) (N+3) (by omega)
 rw [←hwt,List.drop_drop]at s1
 have s2:=vB_split B64 (u.drop (j+1)) (N+2) (by rw [List.length_drop];omega)
 rw [List.drop_drop,show j+1+(N+2)=j+(N+3)by omega]at s2
 have p1:=vB_nonneg (Int.le_of_lt hB) (Dig_take (Dig_drop hd (j+1)) (N+2))
 have p2:=vB_nonneg (Int.le_of_lt hB) (Dig_drop hd (j+(N+3)))
 have hz:vB B64 (u.drop (j+(N+3)))=0:=by
  rcases Int.lt_or_le (vB B64 (u.drop (j+(N+3)))) 1 with h|h
  ·clear hV1 s1 s2 hM hlt;omega
  ·exfalso
   have:=Int.mul_le_mul_of_nonneg_left h (Int.le_of_lt (show(0:Int)<B64^(N+2)from Int.pow_pos hB))
   rw [Int.mul_one]at this
   generalize(B64:Int)^(N+2)=P at*
   generalize P*vB B64 (u.drop (j+(N+3)))=A at*
   clear hM s1
   omega
 rw [hz,Int.mul_zero,Int.add_zero]at s1
 have s3:=drop_succ B64 u j (by omega)
 obtain⟨x0,x1⟩:=Dig_rd hd j (by omega)
 have hwlt:vB B64 w<vB B64 v*B64:=by
  rw [←s1,s3]
  have h1:=Int.mul_le_mul_of_nonneg_left (show vB B64 (u.drop (j+1))+1≤vB B64 v by clear hV1 s1 s2 hM s3;omega) (Int.le_of_lt hB)
  rw [Int.mul_add,Int.mul_one,Int.mul_comm B64 (vB B64 v)]at h1
  clear hV1 s1 s2 hM s3
  omega
 obtain⟨z,z1,z2,z3,z4⟩:=step_ev hN ln hwd hv hwl ht hwlt
 have hV0:0<vB B64 v:=by
  rcases Int.lt_or_le 0 (vB B64 v)with h|h
  ·exact h
  ·exfalso
   have:vB B64 v=0:=by clear hV1 s1 s2 hM s3 hwlt;omega
   rw [this,Int.zero_mul]at hwlt
   have:=vB_nonneg (Int.le_of_lt hB) hwd
   clear hV1 s1 s2 hM s3;omega
 have q0:0≤vB B64 w/vB B64 v:=Int.ediv_nonneg (vB_nonneg (Int.le_of_lt hB) hwd) (Int.le_of_lt hV0)
 have q1:vB B64 w/vB B64 v<B64:=Int.ediv_lt_of_lt_mul hV0 (by rw [Int.mul_comm];exact hwlt)
 have hdm:=Int.emod_add_mul_ediv (vB B64 w) (vB B64 v)
 have m1:=Int.emod_lt_of_pos (vB B64 w) hV0
 have htj:(u.take j).length=j:=by rw [List.length_take];omega
 have hdrop:(u.take j++z++u.drop (j+(N+2)+1)).drop j=z++u.drop (j+(N+3)):=by
  rw [List.append_assoc,List.drop_append_of_le_length (by omega),List.drop_of_length_le (by omega),List.nil_append]
  rfl
 have hvz:vB B64 (z++u.drop (j+(N+3)))=vB B64 z:=by rw [vB_append,hz,Int.mul_zero,Int.add_zero]
 refine⟨vB B64 w/vB B64 v,u.take j++z++u.drop (j+(N+2)+1),⟨?_,Dig_append (Dig_append (Dig_take hd _) z2) (Dig_drop hd _),by rw [List.length_set];exact hlq,Dig_set hdq _ q0 q1,?_,?_⟩,?_⟩
 ·rw [List.length_append,List.length_append,htj,z1,List.length_drop]
  clear hV1 s1 s2 hM s3 hwlt hdm;omega
 ·rw [hdrop,hvz,z3]
  exact m1
 ·have t1:=vB_split B64 u j (by clear hV1 s1 s2 hM s3 hwlt hdm;omega)
  have t2:vB B64 (u.take j++z++u.drop (j+(N+2)+1))=vB B64 (u.take j)+B64^j*vB B64 z:=by
   rw [List.append_assoc,vB_append,htj]
   congr 2
  rw [t2,z3,drop_succ B64 (q.set j (vB B64 w/vB B64 v)) j (by rw [List.length_set,hlq];exact hjq),rd_set_self _ _ _ (by rw [hlq];exact hjq),drop_set,hM,t1,s1,Int.pow_succ]
  generalize vB B64 (u.take j)=A
  generalize vB B64 (q.drop (j+1))=C
  generalize vB B64 w/vB B64 v=D at*
  generalize vB B64 w%vB B64 v=E at*
  rw [←hdm]
  generalize vB B64 v=V
  generalize(B64:Int)^j=P
  rw [Int.mul_add P E,Int.mul_add P D,Int.mul_add V (P*D),Int.mul_left_comm P V D,Int.mul_assoc P B64 C,Int.add_assoc,Int.add_assoc,Int.add_assoc]
 ·refine Ev.congr (f:=fun k=>(exact_step.f k w v).bind fun bt=>some (bt.1,u.take j++bt.2++u.drop (j+(N+2)+1))) (fun k=>?_) (Ev.bind z4 (Ev.now _))
  unfold exact_stepAt.f
  rw [Int.toNat_natCast,Int.toNat_natCast,←hw]
theorem divide_l1 {M:Int} {L Lq N s Q R:Nat} {v:List Int} (hv:Dig B64 v) (hN:v.length=N+2) (ln:N≤1099511627000) (ht:rd v ((N+1:Nat):Int)≠0) (hs:s≤63) (hL:L≤1099511627780) (hLq:Lq+(N+2)=L) (hLq1:1≤Lq)
  (hQ:M/vB B64 v=Q) (hR:M%vB B64 v=2^s*R):∀(J:Nat) (u q:List Int),J≤Lq→Long M (vB B64 v) L Lq u q J→Ev (fun k=>exact_divide.l1 k (s:Int) v u ((N+2:Nat):Int) q ((J:Int)-1)) (d64 Q,d64 R):=by
 have hB:(0:Int)<B64:=by decide
 have hV1:=vB_lt hB hv
 rw [hN]at hV1
 intro J
 induction J with
 |zero=>
  intro u q hJ h
  obtain⟨hl,hd,hlq,hdq,hlt,hM⟩:=h
  rw [List.drop_zero]at hlt hM
  rw [Int.pow_zero,Int.one_mul]at hM
  have hu0:=vB_nonneg (Int.le_of_lt hB) hd
  have hV0:vB B64 v≠0:=by clear hV1;omega
  have eQ:vB B64 q=Q:=by
   rw [←hQ,hM,Int.add_mul_ediv_left _ _ hV0,Int.ediv_eq_zero_of_lt hu0 hlt,Int.zero_add]
  have eR:vB B64 u=2^s*R:=by
   rw [←hR,hM,Int.add_mul_emod_self_left,Int.emod_eq_of_lt hu0 hlt]
  have hNl:N+2+1≤u.length:=by clear hV1 hlt hM;omega
  have s1:=vB_split B64 u (N+2) (by clear hV1 hlt hM;omega)
  have p1:=vB_nonneg (Int.le_of_lt hB) (Dig_take hd (N+2))
  have p2:=vB_nonneg (Int.le_of_lt hB) (Dig_drop hd (N+2))
  have hz:vB B64 (u.drop (N+2))=0:=by
   rcases Int.lt_or_le (vB B64 (u.drop (N+2))) 1 with h|h
   ·clear hV1 s1 hM hlt;omega
   ·exfalso
    have:=Int.mul_le_mul_of_nonneg_left h (Int.le_of_lt (show(0:Int)<B64^(N+2)from Int.pow_pos hB))
    rw [Int.mul_one]at this
    generalize(B64:Int)^(N+2)=P at*
    generalize P*vB B64 (u.drop (N+2))=A at*
    clear hM eR
    omega
  have hz2:rd u ((N+2:Nat):Int)=0:=by
   have s3:=drop_succ B64 u (N+2) (by clear hV1 hlt hM s1;omega)
   obtain⟨x0,x1⟩:=Dig_rd hd (N+2) (by clear hV1 hlt hM s1;omega)
   have p3:=Int.mul_nonneg (Int.le_of_lt hB) (vB_nonneg (Int.le_of_lt hB) (Dig_drop hd (N+2+1)))
   rw [hz]at s3
   clear hV1 hlt hM s1;omega
  rw [hz,Int.mul_zero,Int.add_zero]at s1
  have c1:¬(((0:Nat):Int)-1≥0):=by decide
  refine Ev.step (f:=fun k=>exact_divide.l2 k (s:Int) u ((N+2:Nat):Int) q ((N+2:Nat):Int) ((0:Nat):Int)) (fun k=>?_) (divide_l2 hs hd hNl (by clear hV1 hlt hM s1;omega) hdq (by clear hV1 hlt hM s1;omega) eQ (by rw [hz2,←s1,Int.zero_emod,Int.mul_zero,Int.add_zero];exact eR) (N+2) 0 u (Nat.zero_add _) ⟨rfl,hd,fun _ _=>rfl,?_⟩)
  ·simp only [exact_divide.l1]
   rw [if_neg c1]
   rfl
  ·have h0:rd u ((0:Nat):Int)%2^s=0:=by
    have s3:=drop_succ B64 u 0 (by clear hV1 hlt hM s1;omega)
    rw [List.drop_zero,eR]at s3
    obtain⟨c,hc⟩:∃c,c*2^s=B64:=⟨2^(64-s),by
     rw [←Int.pow_add]
     have:64-s+s=64:=by clear hV1 hlt hM s1;omega
     rw [this]
     rfl⟩
    have:rd u ((0:Nat):Int)=2^s*(R-c*vB B64 (u.drop 1)):=by
     rw [show 0+1=1 from rfl]at s3
     generalize vB B64 (u.drop 1)=X at*
     rw [←hc]at s3
     rw [Int.mul_sub,←Int.mul_assoc,Int.mul_comm (2^s) c]
     clear hV1 hlt hM s1;omega
    rw [this]
    exact Int.mul_emod_right _ _
   rw [h0]
   simp [vB]
 |succ j ih=>
  intro u q hJ h
  have hj:j+(N+2)+1≤L:=by clear hV1;omega
  have e0:((j+1:Nat):Int)-1=(j:Int):=by clear hV1;omega
  have hl:=h.1
  have hlq:=h.2.2.1
  have c1:(j:Int)≥0:=by clear hV1;omega
  have c2:(j:Int)≤((j+(N+2)+1:Nat):Int):=by clear hV1;omega
  have c3:((j+(N+2)+1:Nat):Int)≤(u.length:Int):=by clear hV1;omega
  have c4:(j:Int)<(q.length:Int):=by clear hV1;omega
  have e1:wrap64 ((j:Int)+((N+2:Nat):Int))=((j+(N+2):Nat):Int):=by clear hV1;rw [w64 (by omega) (by omega)];omega
  have e2:wrap64 (((j+(N+2):Nat):Int)+1)=((j+(N+2)+1:Nat):Int):=by clear hV1 e1;rw [w64 (by omega) (by omega)];omega
  have e3:wrap64 ((j:Int)-1)=(j:Int)-1:=by clear hV1 e1 e2;exact w64 (by omega) (by omega)
  obtain⟨d,u',h',hev⟩:=long_step hv hN ln ht hj (by clear hV1 e1 e2 e3;omega) h
  rw [e0]
  refine Ev.step (f:=fun k=>(exact_stepAt.f k u v (j:Int) ((j+(N+2)+1:Nat):Int)).bind fun bt200=>exact_divide.l1 k (s:Int) v bt200.2 ((N+2:Nat):Int) (q.set j bt200.1) ((j:Int)-1)) (fun k=>?_) (Ev.bind hev (ih u' _ (by clear hV1 e1 e2 e3;omega) h'))
  simp only [exact_divide.l1,e1,e2,e3]
  rw [if_pos c1,if_pos c1,if_pos c2,if_pos c3]
  simp only [if_pos c4,Int.toNat_natCast]
theorem divide_ev {m n:Nat} (hm:(d64 m).length≤1099511627000) (hn:(d64 n).length≤1099511627000) (n0:0<n):Ev (fun k=>exact_divide.f k (d64 m) (d64 n)) (d64 (m/n),d64 (m%n)):=by
 have hB:(0:Int)<B64:=by decide
 refine Ev.bind (compareWords_ev (by omega) (by omega)) ?_
 by_cases hlt:m<n
 ·refine Ev.congr (fun k=>if_pos (show cmpN m n<0 by unfold cmpN;rw [if_pos hlt];decide)) ?_
  rw [Nat.div_eq_of_lt hlt,Nat.mod_eq_of_lt hlt,d64_zero]
  exact Ev.now _
 refine Ev.congr (fun k=>if_neg (show¬cmpN m n<0 by unfold cmpN;rw [if_neg hlt];split<;>decide)) ?_
 have hpos:0<(d64 n).length:=by
  rcases Nat.eq_zero_or_pos (d64 n).length with h|h
  ·exfalso
   have:=d64_val n
   rw [List.eq_nil_of_length_eq_zero h]at this
   simp [vB]at this
   omega
  ·exact h
 have hle:(d64 n).length≤(d64 m).length:=d64_len_mono (by omega)
 by_cases h1:(d64 n).length=1
 ·refine Ev.congr (fun k=>if_pos (show((d64 n).length:Int)=1 by omega)) ?_
  have hy:vB B64 (d64 n)=rd (d64 n) 0:=by
   have:=drop_succ B64 (d64 n) 0 (by omega)
   rw [List.drop_zero,vB_far _ (by omega),Int.mul_zero,Int.add_zero]at this
   exact this
  rw [d64_val]at hy
  obtain⟨y0,y1⟩:=Dig_rd (d64_dig n) 0 (by omega)
  have y0':0<rd (d64 n) 0:=by omega
  have e1:wrap64 (((d64 m).length:Int)-1)=((d64 m).length:Int)-1:=w64 (by omega) (by omega)
  refine Ev.congr (f:=fun k=>exact_divide.l0 k (d64 m) (d64 n) (List.replicate (d64 m).length 0) 0 (((d64 m).length:Int)-1)) (fun k=>?_) (divide_l0 (d64_dig m) (by omega) h1 rfl y0' y1 (d64_val m) hy.symm (d64 m).length _ 0 (Nat.le_refl _) (by simp) (Dig_replicate hB _) (Int.le_refl 0) y0' (by rw [vB_far _ (Nat.le_refl _),vB_far _ (by simp)];simp))
  rw [if_pos (Int.natCast_nonneg _),Int.toNat_natCast,if_pos (by omega),e1]
 ·refine Ev.congr (fun k=>if_neg (show¬((d64 n).length:Int)=1 by omega)) ?_
  obtain⟨N,hN⟩:∃N,(d64 n).length=N+2:=⟨(d64 n).length-2,by omega⟩
  have e1:wrap64 (((d64 n).length:Int)-1)=((N+1:Nat):Int):=by rw [w64 (by omega) (by omega)];omega
  have htop:=d64_trim n hpos
  rw [hN,show N+2-1=N+1 by omega]at htop
  obtain⟨t0,t1⟩:=Dig_rd (d64_dig n) (N+1) (by omega)
  obtain⟨s,hs,hlz,n1,n2⟩:=norm_word (show 0<rd (d64 n) ((N+1:Nat):Int)by omega) t1
  obtain⟨b,b1,b2,b3,b4⟩:=shiftUp_ev (d64 n) (d64_dig n) (by omega) s hs
  obtain⟨a,a1,a2,a3,a4⟩:=shiftUp_ev (d64 m) (d64_dig m) (by omega) s hs
  rw [d64_val]at a3 b3
  have hb:vB B64 b=((n*2^s:Nat):Int):=by rw [b3,Int.natCast_mul,Int.natCast_pow];rfl
  have tb:=trim_ev b2 (by omega)
  rw [hb,Int.toNat_natCast]at tb
  have hlen:(d64 (n*2^s)).length=N+2:=by
   have g1:(d64 n).length≤(d64 (n*2^s)).length:=d64_len_mono (Nat.le_mul_of_pos_right n (Nat.two_pow_pos s))
   have g2:(d64 (n*2^s)).length≤N+2:=by
    apply dgs_len
    have h2:vB B64 (d64 n)*2^s<B64^(N+2):=by
     have h3:=vB_all B64 (d64 n) (N+1+1) (by omega)
     have hp:(B64:Int)^(N+2)=B64^(N+1)*B64:=Int.pow_succ _ _
     rw [←h3,take_succ,Int.add_mul,hp,Int.mul_assoc]
     have h4:=vB_lt hB (Dig_take (d64_dig n) (N+1))
     rw [List.length_take,Nat.min_eq_left (by omega)]at h4
     have hP:(0:Int)<2^s:=Int.pow_pos (by decide)
     obtain⟨c,hc⟩:∃c,c*2^s=B64:=⟨2^(64-s),by
      rw [←Int.pow_add]
      have:64-s+s=64:=by omega
      rw [this]
      rfl⟩
     have h5:rd (d64 n) ((N+1:Nat):Int)*2^s+2^s≤B64:=by
      have n2':rd (d64 n) ((N+1:Nat):Int)*2^s<B64:=n2
      rw [←hc]at n2'⊢
      have h6:rd (d64 n) ((N+1:Nat):Int)<c:=Int.lt_of_mul_lt_mul_right n2' (Int.le_of_lt hP)
      have h7:=Int.mul_le_mul_of_nonneg_right (show rd (d64 n) ((N+1:Nat):Int)+1≤c by omega) (Int.le_of_lt hP)
      rwa [Int.add_mul,Int.one_mul]at h7
     have h8:=Int.mul_lt_mul_of_pos_right h4 hP
     have h9:=Int.mul_le_mul_of_nonneg_left h5 (Int.le_of_lt (show(0:Int)<B64^(N+1)from Int.pow_pos hB))
     rw [Int.mul_add]at h9
     generalize vB B64 ((d64 n).take (N+1))*2^s=A at*
     generalize(B64:Int)^(N+1)*(rd (d64 n) ((N+1:Nat):Int)*2^s)=A1 at*
     generalize(B64:Int)^(N+1)*2^s=A2 at*
     generalize(B64:Int)^(N+1)*B64=A3 at*
     clear h4 h3
     omega
    rw [d64_val]at h2
    have h3:((n*2^s:Nat):Int)<((18446744073709551614+2:Nat):Int)^(N+2):=by rw [Int.natCast_mul,Int.natCast_pow];exact h2
    exact_mod_cast h3
   omega
  have hvt:=d64_trim (n*2^s) (by omega)
  rw [hlen,show N+2-1=N+1 by omega]at hvt
  have e2:wrap64 (((d64 m).length:Int)-((d64 (n*2^s)).length:Int))=(((d64 m).length-(N+2)+1:Nat):Int)-1:=by rw [w64 (by omega) (by omega)];omega
  have e3:wrap64 ((((d64 m).length-(N+2)+1:Nat):Int)-1+1)=(((d64 m).length-(N+2)+1:Nat):Int):=by rw [w64 (by omega) (by omega)];omega
  have hV:vB B64 (d64 (n*2^s))=(n:Int)*2^s:=by rw [d64_val,Int.natCast_mul,Int.natCast_pow];rfl
  have hP:(0:Int)<2^s:=Int.pow_pos (by decide)
  have dQ:(m:Int)*2^s/vB B64 (d64 (n*2^s))=((m/n:Nat):Int):=by rw [hV,Int.mul_ediv_mul_of_pos_left _ _ hP];rfl
  have dR:(m:Int)*2^s%vB B64 (d64 (n*2^s))=2^s*((m%n:Nat):Int):=by rw [hV,Int.mul_comm (m:Int),Int.mul_comm (n:Int),Int.mul_emod_mul_of_pos _ _ hP];rfl
  have start:Long ((m:Int)*2^s) (vB B64 (d64 (n*2^s))) ((d64 m).length+1) ((d64 m).length-(N+2)+1) a (List.replicate ((d64 m).length-(N+2)+1) 0) ((d64 m).length-(N+2)+1):=by
   refine⟨a1,a2,by simp,Dig_replicate hB _,?_,?_⟩
   ·
    have h1:=vB_split B64 a ((d64 m).length-(N+2)+1) (by omega)
    have h2:=vB_nonneg (Int.le_of_lt hB) (Dig_take a2 ((d64 m).length-(N+2)+1))
    have h3:=vB_lt hB (d64_dig m)
    have h4:=trim_le hB (d64_dig n) (d64_trim n) hpos
    rw [d64_val]at h3 h4
    rw [hN,show N+2-1=N+1 by omega]at h4
    rw [a3]at h1
    have h5:(B64:Int)^(d64 m).length=B64^((d64 m).length-(N+2)+1)*B64^(N+1):=by rw [←Int.pow_add];congr 1;omega
    rw [h5]at h3
    have h6:=Int.mul_lt_mul_of_pos_right h3 hP
    rw [Int.mul_assoc]at h6
    have h7:=Int.mul_le_mul_of_nonneg_right h4 (Int.le_of_lt hP)
    rw [hV]
    have hC:(0:Int)<B64^((d64 m).length-(N+2)+1):=Int.pow_pos hB
    have h8:B64^((d64 m).length-(N+2)+1)*vB B64 (a.drop ((d64 m).length-(N+2)+1))<B64^((d64 m).length-(N+2)+1)*(B64^(N+1)*2^s):=by
     generalize B64^((d64 m).length-(N+2)+1)*vB B64 (a.drop ((d64 m).length-(N+2)+1))=A at*
     generalize B64^((d64 m).length-(N+2)+1)*(B64^(N+1)*2^s)=A1 at*
     generalize(m:Int)*2^s=A2 at*
     clear h5 h7 hC h4 h3
     omega
    exact Int.lt_of_lt_of_le (Int.lt_of_mul_lt_mul_left h8 (Int.le_of_lt hC)) h7
   ·rw [a3,vB_far _ (by simp),Int.mul_zero,Int.mul_zero,Int.add_zero]
  have key:=divide_l1 (d64_dig (n*2^s)) hlen (by omega) hvt hs (by omega) (by omega) (by omega) dQ dR _ _ _ (Nat.le_refl _) start
  refine Ev.congr (f:=fun k=>(exact_shiftUp.f k (d64 n) (s:Int)).bind fun t184=>((exact_trim.f k t184).bind fun t187=>((exact_shiftUp.f k (d64 m) (s:Int)).bind fun t190=>(if 0≤(wrap64 ((wrap64 (((d64 m).length:Int)-(t187.length:Int)))+1))then(if(wrap64 ((wrap64 (((d64 m).length:Int)-(t187.length:Int)))+1):Int).toNat≤35184372088832 then(exact_divide.l1 k (s:Int) t187 t190 (t187.length:Int) (List.replicate (wrap64 ((wrap64 (((d64 m).length:Int)-(t187.length:Int)))+1):Int).toNat 0) (wrap64 (((d64 m).length:Int)-(t187.length:Int))))else(none))else(none))))) (fun k=>?_) (Ev.bind b4 (Ev.bind tb (Ev.bind a4 ?_)))
  ·rw [e1,if_pos (Int.natCast_nonneg _),if_pos (by omega),hlz,Option.bind_some]
  ·refine Ev.congr (fun k=>?_) key
   rw [e2,e3,if_pos (Int.natCast_nonneg _),Int.toNat_natCast,if_pos (by omega)]
   rw [show((d64 (n*2^s)).length:Int)=((N+2:Nat):Int)by omega]
theorem NatDivMod_ev {m n:Nat} (hm:(nat m).size≤1099511627776) (hn:(nat n).size≤1099511627776) (n0:0<n):Ev (fun k=>exact_NatDivMod.f k (nat m) (nat n)) (nat (m/n),nat (m%n)):=by
 have lm:=words_len m
 have ln:=words_len n
 have h1:(d64 (m/n)).length≤(d64 m).length:=d64_len_mono (Nat.div_le_self _ _)
 have h2:(d64 (m%n)).length≤(d64 n).length:=d64_len_mono (Nat.le_of_lt (Nat.mod_lt _ n0))
 have p1:=pack_ev (d64_dig (m/n)) (by omega)
 have p2:=pack_ev (d64_dig (m%n)) (by omega)
 rw [d64_val,Int.toNat_natCast]at p1 p2
 exact Ev.bind (words_nat hm) (Ev.bind (words_nat hn) (Ev.bind (divide_ev (by omega) (by omega) n0) (Ev.bind p1 (Ev.bind p2 (Ev.now _)))))
theorem Gcd_l0:∀(n m:Nat),(d64 m).length≤1099511627000→(d64 n).length≤1099511627000→Ev (fun k=>exact_NatGcd.l0 k (d64 m) (d64 n)) (nat (Nat.gcd m n)):=by
 intro n
 induction n using Nat.strongRecOn with
 |_ n ih=>
  intro m hm hn
  by_cases h:n=0
  ·subst h
   have p:=pack_ev (d64_dig m) (by omega)
   rw [d64_val,Int.toNat_natCast]at p
   rw [Nat.gcd_zero_right]
   refine Ev.step (f:=fun k=>(exact_pack.f k (d64 m)).bind fun t=>some t) (fun k=>?_) (Ev.bind p (Ev.now _))
   simp only [exact_NatGcd.l0]
   rw [d64_zero,if_neg (by decide)]
  ·have hpos:0<(d64 n).length:=by
    rcases Nat.eq_zero_or_pos (d64 n).length with h1|h1
    ·exfalso
     have:=d64_val n
     rw [List.eq_nil_of_length_eq_zero h1]at this
     simp [vB]at this
     omega
    ·exact h1
   have hlt:=Nat.mod_lt m (Nat.pos_of_ne_zero h)
   have hl:(d64 (m%n)).length≤(d64 n).length:=d64_len_mono (Nat.le_of_lt hlt)
   have e:Nat.gcd m n=Nat.gcd n (m%n):=by rw [Nat.gcd_comm m n,Nat.gcd_rec n m,Nat.gcd_comm]
   rw [e]
   refine Ev.step (f:=fun k=>(exact_divide.f k (d64 m) (d64 n)).bind fun bt264=>exact_NatGcd.l0 k (d64 n) bt264.2) (fun k=>?_) (Ev.bind (divide_ev hm hn (Nat.pos_of_ne_zero h)) (ih (m%n) hlt n hn (by omega)))
   simp only [exact_NatGcd.l0]
   rw [if_pos (by omega)]
theorem NatGcd_ev {m n:Nat} (hm:(nat m).size≤1099511627776) (hn:(nat n).size≤1099511627776):Ev (fun k=>exact_NatGcd.f k (nat m) (nat n)) (nat (Nat.gcd m n)):=by
 have lm:=words_len m
 have ln:=words_len n
 exact Ev.bind (words_nat hm) (Ev.bind (words_nat hn) (Gcd_l0 n m (by omega) (by omega)))
theorem nat_empty {n:Nat}:(nat n).toList=([]:List UInt8)↔n=0:=by rw [toList_nil,nat_size_zero]
def bl (n:Nat):Nat:=if n=0 then 0 else n.log2+1
theorem str_nat {l:List Int} {n:Nat} (hd:Dig 256 l) (ht:0<l.length→rd l 0≠0) (hv:vB 256 l.reverse=n):strOfNums l=nat n:=by
 have:l.reverse=d8 n:=by
  refine d8_unique (Dig_reverse hd) (fun hp=>?_) hv
  rw [List.length_reverse]at hp⊢
  have:=rd_reverse l (l.length-1) (by omega)
  rw [show l.length-1-(l.length-1)=0 by omega]at this
  rw [this]
  exact ht hp
 unfold nat
 rw [←this,List.reverse_reverse]
theorem drop_zeros (l:List Int) (hd:Dig 256 l):Dig 256 (l.dropWhile (· ==0))∧(0<(l.dropWhile (· ==0)).length→rd (l.dropWhile (· ==0)) 0≠0)∧vB 256 (l.dropWhile (· ==0)).reverse=vB 256 l.reverse:=by
 induction l with
 |nil=>exact⟨Dig_nil _,fun h=>absurd h (by simp),rfl⟩
 |cons x l ih=>
  have h:=Dig_cons.1 hd
  by_cases hx:x=0
  ·subst hx
   have e:(0::l).dropWhile (· ==0)=l.dropWhile (· ==0):=by simp [List.dropWhile]
   obtain⟨h1,h2,h3⟩:=ih h.2
   rw [e]
   refine⟨h1,h2,?_⟩
   rw [h3,List.reverse_cons,vB_append]
   simp [vB]
  ·have hb:(x==0)=false:=by simpa using hx
   have e:(x::l).dropWhile (· ==0)=x::l:=by simp [List.dropWhile,hb]
   rw [e]
   exact⟨hd,fun _=>hx,rfl⟩
theorem Of_eq {u:Nat} (hu:u<18446744073709551616):natural_Of.f (u:Int)=some (nat u):=by
 unfold natural_Of.f
 rw [if_pos ⟨by omega,by omega⟩]
 congr 1
 have hl:natural_Of.bytes (u:Int) 8=[natural_Of.byte u 0,natural_Of.byte u 1,natural_Of.byte u 2,natural_Of.byte u 3,natural_Of.byte u 4,natural_Of.byte u 5,natural_Of.byte u 6,natural_Of.byte u 7]:=rfl
 simp only [natural_Of.byte,Nat.reduceMul,Nat.reduceSub,Int.reducePow]at hl
 have hd:Dig 256 (natural_Of.bytes (u:Int) 8):=by
  rw [hl]
  repeat (refine Dig_cons.2 ⟨⟨Int.emod_nonneg _ (by decide),Int.emod_lt_of_pos _ (by decide)⟩,?_⟩)
  exact Dig_nil _
 have hv:vB 256 (natural_Of.bytes (u:Int) 8).reverse=u:=by
  rw [hl]
  simp only [List.reverse_cons,List.reverse_nil,List.nil_append,List.cons_append,vB]
  omega
 obtain⟨h1,h2,h3⟩:=drop_zeros _ hd
 exact str_nat h1 h2 (by rw [h3,hv])
abbrev B32:Int:=4294967296
def d32 (n:Nat):List Int:=dgs 4294967294 n
theorem d32_dig (n:Nat):Dig B32 (d32 n):=(dgs_spec 4294967294 n).1
theorem d32_trim (n:Nat):Trim (d32 n):=(dgs_spec 4294967294 n).2.1
theorem d32_val (n:Nat):vB B32 (d32 n)=n:=(dgs_spec 4294967294 n).2.2
theorem d32_unique {l:List Int} {n:Nat} (hl:Dig B32 l) (ht:Trim l) (hv:vB B32 l=n):l=d32 n:=dgs_unique hl ht hv
theorem d32_zero:d32 0=[]:=dgs_zero _
theorem d32_len_mono {m n:Nat} (h:m≤n):(d32 m).length≤(d32 n).length:=dgs_len (Nat.lt_of_le_of_lt h (dgs_lt 4294967294 n))
theorem limbs_len (n:Nat):(d32 n).length≤((nat n).size+3)/4:=by
 apply dgs_len
 have h1:=nat_lt_size n
 have h2:256^(nat n).size≤256^(4*(((nat n).size+3)/4)):=Nat.pow_le_pow_right (by decide) (by omega)
 rw [Nat.pow_mul]at h2
 exact Nat.lt_of_lt_of_le h1 h2
theorem rtrim_ev:∀(n:Nat) (l:List Int),l.length=n→n<9223372036854775808→Dig B32 l→Ev (fun k=>galoisref01_trim.f k l) (d32 (vB B32 l).toNat):=by
 intro n
 induction n with
 |zero=>
  intro l hl _ hd
  rw [List.eq_nil_of_length_eq_zero hl]
  refine Ev.step (f:=fun _=>some []) (fun k=>?_) (by
   show Ev (fun _=>some []) (d32 0)
   rw [d32_zero]
   exact Ev.now _)
  simp [galoisref01_trim.f,galoisref01_trim.l0]
 |succ n ih=>
  intro l hl hn hd
  have hv:=vB_nonneg (by decide) hd
  have e1:wrap64 ((l.length:Int)-1)=(n:Int):=by rw [w64 (by omega) (by omega)];omega
  have hvs:=take_succ B32 l n
  rw [vB_all _ _ _ (by omega)]at hvs
  by_cases hz:rd l (n:Int)=0
  ·rw [hz,Int.mul_zero,Int.add_zero]at hvs
   rw [hvs]
   refine Ev.step (f:=fun k=>galoisref01_trim.f k (l.take n)) (fun k=>?_) (ih _ (by rw [List.length_take];omega) (by omega) (Dig_take hd _))
   simp only [galoisref01_trim.f,galoisref01_trim.l0,e1]
   rw [if_pos (by omega),if_pos (by omega),if_pos (by omega),if_pos hz,if_pos (by omega),Int.toNat_natCast]
  ·have:l=d32 (vB B32 l).toNat:=d32_unique hd (fun _=>by rw [hl,Nat.add_sub_cancel];exact hz) (by omega)
   rw [←this]
   refine Ev.step (f:=fun _=>some l) (fun k=>?_) (Ev.now _)
   simp only [galoisref01_trim.f,galoisref01_trim.l0,e1]
   rw [if_pos (by omega),if_pos (by omega),if_pos (by omega),if_neg hz]
theorem trimV_eq:∀(k:Nat) (l:List Int),galoisref01_trimV.l0 k l=galoisref01_trim.l0 k l:=by
 intro k
 induction k with
 |zero=>intro l;rfl
 |succ k ih=>intro l;simp only [galoisref01_trimV.l0,galoisref01_trim.l0,ih]
theorem rtrimV_ev {l:List Int} (hn:l.length<9223372036854775808) (hd:Dig B32 l):Ev (fun k=>galoisref01_trimV.f k l) (d32 (vB B32 l).toNat):=
 Ev.congr (fun k=>trimV_eq k l) (rtrim_ev _ l rfl hn hd)
def win (s:ByteArray) (a b:Nat):Int:=vB 256 (((bytesOf s).take b).drop a).reverse
theorem win_self (s:ByteArray) (a:Nat):win s a a=0:=by
 unfold win
 rw [List.drop_of_length_le (by rw [List.length_take];omega)]
 rfl
theorem win_succ (s:ByteArray) (a b:Nat) (hab:a≤b) (hb:b<s.size):win s a (b+1)=win s a b*256+bt s (b:Int):=by
 unfold win
 rw [List.take_succ_eq_append_getElem (by rw [bytesOf_length];exact hb),List.drop_append_of_le_length (by rw [List.length_take,bytesOf_length];omega),List.reverse_append,List.reverse_singleton,List.singleton_append,vB_cons,bt_rd,rd_get _ b (by rw [bytesOf_length];exact hb)]
 omega
theorem win_range (s:ByteArray) (a b:Nat) (hab:a≤b) (hb:b≤s.size):0≤win s a b∧win s a b<256^(b-a):=by
 have hd:Dig 256 (((bytesOf s).take b).drop a).reverse:=Dig_reverse (Dig_drop (Dig_take (bytesOf_dig s) _) _)
 refine⟨vB_nonneg (by decide) hd,?_⟩
 have:=vB_lt (by decide) hd
 rw [List.length_reverse,List.length_drop,List.length_take,bytesOf_length,Nat.min_eq_left hb]at this
 exact this
theorem win_join (s:ByteArray) (a b c:Nat) (hab:a≤b) (hbc:b≤c) (hc:c≤s.size):win s a c=win s b c+256^(c-b)*win s a b:=by
 obtain⟨d,rfl⟩:∃d,c=b+d:=⟨c-b,by omega⟩
 induction d with
 |zero=>
  rw [Nat.add_zero,win_self,Nat.sub_self,Int.pow_zero,Int.one_mul,Int.zero_add]
 |succ d ih=>
  rw [←Nat.add_assoc,win_succ s a _ (by omega) (by omega),win_succ s b _ (by omega) (by omega),ih (by omega) (by omega)]
  rw [show b+d+1-b=(b+d-b)+1 by omega,Int.pow_succ,Int.mul_right_comm]
  generalize 256^(b+d-b)*win s a b=X
  omega
theorem win_all (s:ByteArray):win s 0 s.size=bval s:=by
 unfold win bval
 rw [List.drop_zero,List.take_of_length_le (by rw [bytesOf_length];exact Nat.le_refl _)]
theorem limbs_l1 (s:ByteArray) (hs:s.size≤1099511627776) (out:List Int) (lo:Nat) (hlo:out.length≤1099511627776) (e:Nat) (he:e≤s.size) (hle:lo≤e) (h4:e≤lo+4) (r:List Int)
  (next:Ev (fun k=>galoisref01_limbs.l0 k s (out++[win s lo e]) ((e:Int)-4)) r):∀(d i:Nat),i+d=e→lo≤i→Ev (fun k=>galoisref01_limbs.l1 k s out (e:Int) (win s lo i) (i:Int)) r:=by
 intro d
 induction d with
 |zero=>
  intro i hi hl
  have hi:i=e:=by omega
  subst hi
  have e1:wrap64 ((i:Int)-4)=(i:Int)-4:=w64 (by omega) (by omega)
  refine Ev.step (fun k=>?_) next
  simp only [galoisref01_limbs.l1,e1]
  rw [if_neg (Int.lt_irrefl _),if_pos (by omega)]
 |succ d ih=>
  intro i hi hl
  have c1:(i:Int)<(e:Int):=by omega
  have c2:(i:Int)<(s.size:Int):=by omega
  have e1:wrap64 ((i:Int)+1)=((i+1:Nat):Int):=by rw [w64 (by omega) (by omega)];omega
  obtain⟨w0,w1⟩:=win_range s lo i hl (by omega)
  have w2:win s lo i<16777216:=by
   refine Int.lt_of_lt_of_le w1 ?_
   exact pow_le_pow (B:=256) (by decide) (show i-lo≤3 by omega)
  obtain⟨b0,b1⟩:=bt_range s (i:Int)
  have e2:IntKind.u64.wrap (IntKind.u64.wrap (win s lo i*256)+IntKind.u64.wrap (bt s (i:Int)))=win s lo (i+1):=by
   rw [win_succ s lo i hl (by omega),u64 (x:=win s lo i*256) (by omega) (by omega),u64 (x:=bt s (i:Int)) (by omega) (by omega),u64 (by omega) (by omega)]
  refine Ev.step (f:=fun k=>galoisref01_limbs.l1 k s out (e:Int) (win s lo (i+1)) ((i+1:Nat):Int)) (fun k=>?_) (ih (i+1) (by omega) (by omega))
  simp only [galoisref01_limbs.l1,e1,e2]
  rw [if_pos c1,if_pos (Int.natCast_nonneg _),if_pos c2]
theorem limbs_end (s:ByteArray) (out:List Int) (hd:Dig B32 out) (hl:out.length≤1099511627776) (hv:vB B32 out=bval s) (x:Int) (hx:¬x>0):Ev (fun k=>galoisref01_limbs.l0 k s out x) (d32 (bval s).toNat):=by
 have h:=rtrim_ev out.length out rfl (by omega) hd
 rw [hv]at h
 refine Ev.step (f:=fun k=>(galoisref01_trim.f k out).bind fun t=>some t) (fun k=>?_) (Ev.bind h (Ev.now _))
 simp only [galoisref01_limbs.l0]
 rw [if_neg hx]
theorem limbs_l0 (s:ByteArray) (hs:s.size≤1099511627776):∀(e:Nat) (out:List Int),e≤s.size→4*out.length=s.size-e→Dig B32 out→vB B32 out=win s e s.size→Ev (fun k=>galoisref01_limbs.l0 k s out (e:Int)) (d32 (bval s).toNat):=by
 intro e
 induction e using Nat.strongRecOn with
 |_ e ih=>
  intro out he hl hd hv
  by_cases h0:e=0
  ·subst h0
   exact limbs_end s out hd (by omega) (by rw [hv,win_all]) _ (by omega)
  ·have hmx:mx 0 (wrap64 ((e:Int)-4))=((e-4:Nat):Int):=by
    rw [w64 (by omega) (by omega)]
    unfold mx
    split<;>omega
   have hw:=win_range s (e-4) e (by omega) he
   have hw1:win s (e-4) e<B32:=by
    refine Int.lt_of_lt_of_le hw.2 ?_
    exact pow_le_pow (B:=256) (by decide) (show e-(e-4)≤4 by omega)
   have hd':Dig B32 (out++[win s (e-4) e]):=Dig_append hd (Dig_cons.2 ⟨⟨hw.1,hw1⟩,Dig_nil _⟩)
   have hpow:(B32:Int)^out.length=256^(s.size-e):=by
    rw [←hl,Int.pow_mul]
    rfl
   have hv':vB B32 (out++[win s (e-4) e])=win s (e-4) s.size:=by
    rw [vB_append,hpow,hv,win_join s (e-4) e s.size (by omega) he (Nat.le_refl _)]
    simp [vB]
   refine Ev.step (f:=fun k=>galoisref01_limbs.l1 k s out (e:Int) (win s (e-4) (e-4)) ((e-4:Nat):Int)) (fun k=>?_) (limbs_l1 s hs out (e-4) (by omega) e he (by omega) (by omega) _ ?_ (e-(e-4)) (e-4) (by omega) (Nat.le_refl _))
   ·simp only [galoisref01_limbs.l0,hmx]
    rw [if_pos (by omega),win_self]
   ·by_cases h4:e≤4
    ·refine limbs_end s _ hd' (by rw [List.length_append];simp;omega) ?_ _ (by omega)
     rw [hv',show e-4=0 by omega,win_all]
    ·have:=ih (e-4) (by omega) (out++[win s (e-4) e]) (by omega) (by rw [List.length_append];simp;omega) hd' hv'
     rwa [show((e-4:Nat):Int)=(e:Int)-4 by omega]at this
theorem limbs_ev (s:ByteArray) (hs:s.size≤1099511627776):Ev (fun k=>galoisref01_limbs.f k s) (d32 (bval s).toNat):=
 limbs_l0 s hs s.size [] (Nat.le_refl _) (by simp) (Dig_nil _) (by rw [win_self];rfl)
theorem limbs_nat {n:Nat} (hs:(nat n).size≤1099511627776):Ev (fun k=>galoisref01_limbs.f k (nat n)) (d32 n):=by
 have:=limbs_ev (nat n) hs
 rwa [bval_nat,Int.toNat_natCast]at this
theorem d8_push {N x:Nat} (hx:x<256) (h:N*256+x≠0):d8 (N*256+x)=(x:Int)::d8 N:=by
 unfold d8
 rw [dgs_pos _ _ h,show(N*256+x)%(254+2)=x by omega,show(N*256+x)/(254+2)=N by omega]
theorem rpack_byte {N x:Nat} (hx:x<256):(if(((d8 N).reverse.length:Int)>0)then(d8 N).reverse++[(x:Int)]else if(x:Int)>0 then(d8 N).reverse++[(x:Int)]else(d8 N).reverse)=(d8 (N*256+x)).reverse:=by
 by_cases h:N*256+x=0
 ·have hN:N=0:=by omega
  have hx0:x=0:=by omega
  subst hN hx0
  have:d8 0=[]:=dgs_zero _
  rw [show 0*256+0=0 from rfl,this]
  simp
 ·rw [d8_push hx h,List.reverse_cons]
  by_cases h1:((d8 N).reverse.length:Int)>0
  ·rw [if_pos h1]
  ·rw [if_neg h1,if_pos]
   have:N=0:=by
    rcases Nat.eq_zero_or_pos N with h2|h2
    ·exact h2
    ·exfalso
     have h3:(nat N).size≠0:=fun h4=>by have:=nat_size_zero.1 h4;omega
     rw [nat_size]at h3
     rw [List.length_reverse]at h1
     omega
   omega
theorem rpack_l1 {l:List Int} {V:Nat} (hd:Dig B32 l) (hl:l.length≤1099511627776) (hV:(nat V).size≤4398046511104) {i H D:Nat} (hi:i<l.length) (hD:rd l (i:Int)=D) (hle:H*4294967296+D≤V) {r:ByteArray}
  (next:Ev (fun k=>galoisref01_pack.l0 k l (d8 (H*4294967296+D)).reverse ((i:Int)-1)) r):∀(c N:Nat),c≤4→N=H*256^(4-c)+D/256^c→Ev (fun k=>galoisref01_pack.l1 k l (d8 N).reverse (i:Int) (8*(c:Int)-8)) r:=by
 have hD32:D<4294967296:=by
  have h:=(Dig_rd hd i hi).2
  rw [hD]at h
  exact Int.ofNat_lt.1 h
 intro c
 induction c with
 |zero=>
  intro N _ hN
  have hN:N=H*4294967296+D:=by simpa using hN
  rw [hN]
  have e1:wrap64 ((i:Int)-1)=(i:Int)-1:=w64 (by omega) (by omega)
  refine Ev.step (fun k=>?_) next
  simp only [galoisref01_pack.l1,e1]
  rw [if_neg (by decide)]
 |succ c ih=>
  intro N hc hN
  have hcase:c=0∨c=1∨c=2∨c=3:=by omega
  have hNV:N≤V:=by
   refine Nat.le_trans ?_ hle
   rw [hN]
   exact Nat.add_le_add (Nat.mul_le_mul_left H (Nat.pow_le_pow_right (show 0<256 by decide) (show 4-(c+1)≤4 from Nat.sub_le _ _))) (Nat.div_le_self _ _)
  have hb:∃x:Nat,x<256∧(shr .u64 (rd l (i:Int)) (8*((c+1:Nat):Int)-8))%256=(x:Int)∧N*256+x=H*256^(4-c)+D/256^c:=by
   refine⟨D/256^c%256,Nat.mod_lt _ (by decide),?_,?_⟩
   ·rw [show 8*((c+1:Nat):Int)-8=((8*c:Nat):Int)by omega,shr_eq _ _ (by omega),hD]
    rcases hcase with rfl|rfl|rfl|rfl<;>simp<;>omega
   ·rw [hN]
    rcases hcase with rfl|rfl|rfl|rfl<;>simp<;>omega
  obtain⟨x,x1,x2,x3⟩:=hb
  have hsz:(d8 N).reverse.length<140737488355328:=by
   have:=size_mono hNV
   rw [nat_size]at this
   rw [List.length_reverse]
   omega
  have e1:wrap64 (8*((c+1:Nat):Int)-8-8)=8*(c:Int)-8:=by rw [w64 (by omega) (by omega)];omega
  refine Ev.step (f:=fun k=>galoisref01_pack.l1 k l (d8 (N*256+x)).reverse (i:Int) (8*(c:Int)-8)) (fun k=>?_) (ih (N*256+x) (by omega) x3)
  rw [←rpack_byte x1]
  simp only [galoisref01_pack.l1,e1,x2]
  rw [if_pos (by omega),if_pos (by omega),if_pos (by omega),if_pos (by omega)]
  by_cases h1:((d8 N).reverse.length:Int)>0
  ·rw [if_pos h1,if_pos hsz,if_pos h1]
  ·rw [if_neg h1,if_neg h1]
   by_cases h2:(x:Int)>0
   ·rw [if_pos h2,if_pos hsz,if_pos h2]
   ·rw [if_neg h2,if_neg h2]
theorem rpack_l0 {l:List Int} {V:Nat} (hd:Dig B32 l) (hl:l.length≤1099511627776) (hV:(nat V).size≤4398046511104) (hv:vB B32 l=V):∀(J H:Nat),J≤l.length→vB B32 (l.drop J)=H→Ev (fun k=>galoisref01_pack.l0 k l (d8 H).reverse ((J:Int)-1)) (nat V):=by
 intro J
 induction J with
 |zero=>
  intro H _ hH
  rw [List.drop_zero,hv]at hH
  have e:H=V:=by omega
  subst e
  refine Ev.step (f:=fun _=>some (nat H)) (fun k=>?_) (Ev.now _)
  simp only [galoisref01_pack.l0]
  rw [if_neg (by decide)]
  rfl
 |succ i ih=>
  intro H hJ hH
  have hi:i<l.length:=by omega
  obtain⟨D,hD⟩:=Int.eq_ofNat_of_zero_le (Dig_rd hd i hi).1
  have hds:=drop_succ B32 l i hi
  rw [hH,hD]at hds
  have hds':vB B32 (l.drop i)=((H*4294967296+D:Nat):Int):=by
   rw [hds]
   show(D:Int)+4294967296*(H:Int)=_
   omega
  have hle:H*4294967296+D≤V:=by
   have h1:=vB_split B32 l i (by omega)
   have h2:=vB_nonneg (show(0:Int)≤B32 by decide) (Dig_take hd i)
   have h3:(1:Int)≤B32^i:=by have:(0:Int)<B32^i:=Int.pow_pos (by decide);omega
   have h4:=Int.mul_le_mul_of_nonneg_right h3 (show 0≤vB B32 (l.drop i)from vB_nonneg (by decide) (Dig_drop hd i))
   rw [Int.one_mul]at h4
   rw [hv]at h1
   rw [hds']at h1 h4
   generalize B32^i*((H*4294967296+D:Nat):Int)=X at*
   clear h3
   omega
  refine Ev.congr (f:=fun k=>galoisref01_pack.l0 k l (d8 H).reverse (i:Int)) (fun k=>by rw [show((i+1:Nat):Int)-1=(i:Int)by omega]) ?_
  refine Ev.step (f:=fun k=>galoisref01_pack.l1 k l (d8 H).reverse (i:Int) (8*((4:Nat):Int)-8)) (fun k=>?_) (rpack_l1 hd hl hV hi hD hle (ih _ (by omega) hds') 4 H (Nat.le_refl _) ?_)
  ·simp only [galoisref01_pack.l0]
   rw [if_pos (by omega)]
   rfl
  ·have hD32:D<4294967296:=by
    have h:=(Dig_rd hd i hi).2
    rw [hD]at h
    exact Int.ofNat_lt.1 h
   simp
   omega
theorem rpack_ev {l:List Int} (hd:Dig B32 l) (hl:l.length≤1099511627776):Ev (fun k=>galoisref01_pack.f k l) (nat (vB B32 l).toNat):=by
 have hv:=vB_nonneg (show(0:Int)≤B32 by decide) hd
 have hV:(nat (vB B32 l).toNat).size≤4398046511104:=by
  have h:(nat (vB B32 l).toNat).size≤4*l.length:=by
   apply nat_size_le.2
   have h1:=vB_lt (show(0:Int)<B32 by decide) hd
   rw [Nat.pow_mul]
   have h2:(((vB B32 l).toNat:Nat):Int)<((4294967296^l.length:Nat):Int):=by
    rw [Int.toNat_of_nonneg hv,Int.natCast_pow]
    exact h1
   exact Int.ofNat_lt.1 h2
  omega
 have e1:wrap64 ((l.length:Int)-1)=(l.length:Int)-1:=w64 (by omega) (by omega)
 have:=rpack_l0 hd hl hV (show vB B32 l=(((vB B32 l).toNat:Nat):Int)by omega) l.length 0 (Nat.le_refl _) (by rw [List.drop_of_length_le (Nat.le_refl _)];rfl)
 refine Ev.congr (fun k=>?_) this
 unfold galoisref01_pack.f
 rw [e1,show d8 0=[]from dgs_zero _]
 rfl
theorem and32 {x:Int} (h0:0≤x) (h1:x<18446744073709551616):Go.bits .and .u64 x 4294967295=x%B32:=and_low h0 h1
theorem empty_toList:(⟨#[]⟩:ByteArray).toList=([]:List UInt8):=toList_nil.2 rfl
def d10 (n:Nat):List Int:=dgs 8 n
theorem d10_dig (n:Nat):Dig 10 (d10 n):=(dgs_spec 8 n).1
theorem d10_trim (n:Nat):Trim (d10 n):=(dgs_spec 8 n).2.1
theorem d10_val (n:Nat):vB 10 (d10 n)=n:=(dgs_spec 8 n).2.2
theorem d10_unique {l:List Int} {n:Nat} (hl:Dig 10 l) (ht:Trim l) (hv:vB 10 l=n):l=d10 n:=dgs_unique hl ht hv
theorem d10_zero:d10 0=[]:=dgs_zero _
theorem d10_pos {n:Nat} (h:n≠0):d10 n=((n%10:Nat):Int)::d10 (n/10):=dgs_pos 8 n h
def txt (D:List Int):List Int:=D.map (fun x=>48+x)
theorem txt_append (a b:List Int):txt (a++b)=txt a++txt b:=List.map_append
theorem txt_length (D:List Int):(txt D).length=D.length:=List.length_map _
theorem txt_dig {D:List Int} (h:Dig 10 D):Dig 256 (txt D):=by
 intro x hx
 obtain⟨y,hy,rfl⟩:=List.mem_map.1 hx
 have:=h y hy
 show 0≤48+y∧48+y<256
 omega
theorem txt_rd {D:List Int} {i:Nat} (h:i<D.length):rd (txt D) (i:Int)=48+rd D (i:Int):=by
 rw [rd_get _ i (by rw [txt_length];exact h),rd_get D i h]
 unfold txt
 rw [List.getElem_map]
def dec (n:Nat):ByteArray:=if n=0 then⟨#[48]⟩else strOfNums (txt (d10 n)).reverse
theorem rFormat_l2 (D:List Int) (hl:D.length≤1099511627776):∀(d i:Nat) (out:List Int),i+d=D.length→out.length=D.length→out.drop (D.length-i)=(D.take i).reverse→Ev (fun k=>galoisref01_Format.l2 k D out (i:Int)) (strOfNums D.reverse):=by
 intro d
 induction d with
 |zero=>
  intro i out hi ho hd
  have hi:i=D.length:=by omega
  subst hi
  rw [Nat.sub_self,List.drop_zero,List.take_length]at hd
  refine Ev.step (fun k=>galoisref01_Format.l2.eq_2 ..) (Ev.congr (fun k=>if_neg (Int.lt_irrefl _)) ?_)
  rw [hd]
  exact Ev.now _
 |succ d ih=>
  intro i out hi ho hd
  have hlt:i<D.length:=by omega
  have hj:D.length-1-i<out.length:=by omega
  have e1:wrap64 ((wrap64 ((D.length:Int)-1))-(i:Int))=((D.length-1-i:Nat):Int):=by
   rw [w64 (x:=(D.length:Int)-1) (by omega) (by omega),w64 (by omega) (by omega)]
   omega
  have e2:wrap64 ((i:Int)+1)=((i+1:Nat):Int):=by clear e1;rw [w64 (by omega) (by omega)];omega
  have c1:(i:Int)<(D.length:Int):=by omega
  have c2:((D.length-1-i:Nat):Int)<(out.length:Int):=by omega
  refine Ev.step (fun k=>?_) (ih (i+1) (out.set (D.length-1-i) (rd D (i:Int))) (by omega) (by rw [List.length_set];exact ho) ?_)
  ·simp only [galoisref01_Format.l2,e1,e2]
   rw [if_pos c1,if_pos (Int.natCast_nonneg _),if_pos (Int.natCast_nonneg _),if_pos c2,Int.toNat_natCast]
  ·rw [show D.length-(i+1)=D.length-1-i by omega,List.drop_eq_getElem_cons (by rw [List.length_set];exact hj),List.getElem_set_self,drop_set,show D.length-1-i+1=D.length-i by omega,hd,List.take_succ_eq_append_getElem hlt,List.reverse_append,rd_get D i hlt]
   rfl
theorem rFormat_l1 {E l:List Int} {N:Nat} (hl:Dig B32 l) (ll:l.length≤1099511627776) (lE:E.length≤1099511627776) (hN:vB B32 l=N) {r:ByteArray} (next:Ev (fun k=>galoisref01_Format.l0 k (txt (E++[((N%10:Nat):Int)])) (d32 (N/10))) r):
  ∀(J:Nat) (z:List Int) (c:Int),J≤l.length→z.length=l.length→Dig B32 z→0≤c→c<10→z.take J=l.take J→vB B32 (l.drop J)=10*vB B32 (z.drop J)+c→Ev (fun k=>galoisref01_Format.l1 k (txt E) z c ((J:Int)-1)) r:=by
 intro J
 induction J with
 |zero=>
  intro z c _ hz hd c0 c1 _ hv
  rw [List.drop_zero,List.drop_zero,hN]at hv
  obtain⟨Z,hZ⟩:=Int.eq_ofNat_of_zero_le (vB_nonneg (show(0:Int)≤B32 by decide) hd)
  rw [hZ]at hv
  have t:=rtrim_ev z.length z rfl (by omega) hd
  rw [hZ,Int.toNat_natCast]at t
  have hZN:Z=N/10:=by omega
  have hc:c=((N%10:Nat):Int):=by omega
  refine Ev.step (fun k=>galoisref01_Format.l1.eq_2 ..) (Ev.congr (fun k=>if_neg (by decide)) (Ev.congr (fun k=>if_pos (show(txt E).length<140737488355328 by rw [txt_length];omega)) (Ev.bind t ?_)))
  rw [txt_append]at next
  rw [u64 (by omega) (by omega),show(48+c)%256=48+c by omega,hZN,hc]
  exact next
 |succ J ih=>
  intro z c hJ hz hd c0 c1 ht hv
  have hJz:J<z.length:=by omega
  obtain⟨z0,z1⟩:=Dig_rd hd J hJz
  have z1':rd z (J:Int)<4294967296:=z1
  have s1:=drop_succ B32 l J (by omega)
  have hzl:rd z (J:Int)=rd l (J:Int):=by
   rw [←rd_take z (J+1) J (by omega),ht,rd_take l (J+1) J (by omega)]
  rw [hv,←hzl]at s1
  obtain⟨T,hT⟩:∃T,T=c*4294967296+rd z (J:Int):=⟨_,rfl⟩
  have T0:0≤T:=by omega
  have T1:T<42949672960:=by omega
  have e0:((J+1:Nat):Int)-1=(J:Int):=by omega
  have e1:wrap64 ((J:Int)-1)=(J:Int)-1:=w64 (by omega) (by omega)
  have e2:IntKind.u64.wrap (c*4294967296)=c*4294967296:=u64 (by omega) (by omega)
  have e3:IntKind.u64.wrap T=T:=u64 T0 (by omega)
  have e4:IntKind.u64.wrap (Int.tdiv T 10)=T/10:=by
   rw [Int.tdiv_eq_ediv_of_nonneg T0]
   exact u64 (by omega) (by omega)
  have e5:Int.tmod T 10=T%10:=Int.tmod_eq_emod_of_nonneg T0
  have c2:(J:Int)<(z.length:Int):=by omega
  refine Ev.step (fun k=>?_) (ih (z.set J (T/10)) (T%10) (by omega) (by rw [List.length_set];exact hz) (Dig_set hd J (by omega) (by show _<(4294967296:Int);omega)) (by omega) (by omega) ?_ ?_)
  ·simp only [galoisref01_Format.l1,e0,e1,e2,←hT,e3,e4,e5]
   rw [if_pos (by omega),if_pos (Int.natCast_nonneg _),if_pos c2,Int.toNat_natCast]
  ·rw [List.take_set_of_le (Nat.le_refl J)]
   have h:=congrArg (List.take J) ht
   rwa [List.take_take,List.take_take,Nat.min_eq_left (by omega)]at h
  ·rw [s1,drop_succ B32 (z.set J (T/10)) J (by rw [List.length_set];exact hJz),rd_set_self _ _ _ hJz,drop_set]
   show _+4294967296*(10*vB B32 (z.drop (J+1))+c)=10*(T/10+4294967296*vB B32 (z.drop (J+1)))+T%10
   omega
theorem rFormat_l0:∀(N:Nat) (E:List Int),(E++d10 N).length≤1000000000→(d32 N).length≤1000000000→Ev (fun k=>galoisref01_Format.l0 k (txt E) (d32 N)) (strOfNums (txt (E++d10 N)).reverse):=by
 intro N
 induction N using Nat.strongRecOn with
 |_ N ih=>
  intro E hE hN
  refine Ev.step (fun k=>galoisref01_Format.l0.eq_2 ..) ?_
  by_cases h:N=0
  ·subst h
   rw [d10_zero,List.append_nil]at hE⊢
   rw [d32_zero]
   have hl:=txt_length E
   refine Ev.congr (fun k=>if_neg (by decide)) (Ev.congr (fun k=>if_pos (Int.natCast_nonneg _)) (Ev.congr (fun k=>if_pos (show((((txt E).length:Nat):Int):Int).toNat≤281474976710656 by omega)) ?_))
   rw [Int.toNat_natCast]
   refine rFormat_l2 (txt E) (by omega) (txt E).length 0 _ (by omega) (List.length_replicate) ?_
   rw [Nat.sub_zero,List.drop_of_length_le (by rw [List.length_replicate];exact Nat.le_refl _)]
   rfl
  ·have hpos:0<(d32 N).length:=by
    rcases Nat.eq_zero_or_pos (d32 N).length with h1|h1
    ·exfalso
     have:=d32_val N
     rw [List.eq_nil_of_length_eq_zero h1]at this
     simp [vB]at this
     omega
    ·exact h1
   have he:E++d10 N=(E++[((N%10:Nat):Int)])++d10 (N/10):=by
    rw [d10_pos h,List.append_assoc]
    rfl
   rw [he]at hE⊢
   have hl:E.length≤1000000000:=by
    rw [List.length_append,List.length_append]at hE
    omega
   refine Ev.congr (fun k=>if_pos (show((d32 N).length:Int)>0 by omega)) ?_
   rw [w64 (by omega) (by omega)]
   refine rFormat_l1 (d32_dig N) (by omega) (by omega) (d32_val N) (ih (N/10) (by omega) _ hE (Nat.le_trans (d32_len_mono (Nat.div_le_self N 10)) hN)) (d32 N).length (d32 N) 0 (Nat.le_refl _) rfl (d32_dig N) (by decide) (by decide) rfl ?_
   rw [List.drop_of_length_le (Nat.le_refl _)]
   rfl
theorem d10_len {n k:Nat} (h:(nat n).size≤k):(d10 n).length≤3*k:=by
 apply dgs_len
 have h1:=nat_size_le.1 h
 rw [Nat.pow_mul]
 exact Nat.lt_of_lt_of_le h1 (Nat.pow_le_pow_left (by decide) k)
theorem rFormat_ev {n:Nat} (hn:(nat n).size≤100000):Ev (fun k=>galoisref01_Format.f k (nat n)) (dec n):=by
 unfold dec
 by_cases h:n=0
 ·rw [if_pos h]
  exact Ev.congr (fun k=>if_pos (nat_empty.2 h)) (Ev.now _)
 ·rw [if_neg h]
  have h1:=d10_len hn
  have h2:=limbs_len n
  exact Ev.congr (fun k=>if_neg (fun h0=>h (nat_empty.1 h0))) (Ev.bind (limbs_nat (by omega)) (rFormat_l0 n [] (by rw [List.nil_append];omega) (by omega)))
def digit (s:ByteArray) (i:Nat):Prop:=48≤bt s (i:Int)∧bt s (i:Int)≤57
instance (s:ByteArray) (i:Nat):Decidable (digit s i):=by unfold digit;infer_instance
def dv (s:ByteArray):Nat→Nat
 |0=>0
 |i+1=>dv s i*10+(bt s (i:Int)-48).toNat
def digits (s:ByteArray):Prop:=∀i:Nat,i<s.size→digit s i
instance (s:ByteArray):Decidable (digits s):=by unfold digits;infer_instance
theorem dv_lt {s:ByteArray}:∀{i:Nat},(∀j:Nat,j<i→digit s j)→dv s i<10^i:=by
 intro i
 induction i with
 |zero=>intro _;exact Nat.one_pos
 |succ i ih=>
  intro h
  have h1:=ih (fun j hj=>h j (by omega))
  have h2:=h i (by omega)
  unfold digit at h2
  rw [dv,Nat.pow_succ]
  omega
theorem dv_size {s:ByteArray} {i:Nat} (h:∀j:Nat,j<i→digit s j):(nat (dv s i)).size≤i:=
 nat_size_le.2 (Nat.lt_of_lt_of_le (dv_lt h) (Nat.pow_le_pow_left (by decide) i))
def RDig (l z:List Int) (d:Int) (j:Nat) (c:Int):Prop:=
 z.length=l.length∧Dig B32 z∧0≤c∧c<10∧z.drop j=l.drop j∧vB B32 (z.take j)+B32^j*c=10*vB B32 (l.take j)+d
theorem rdig_step {l z:List Int} {d c:Int} {j:Nat} (hj:j<l.length) (h:RDig l z d j c):0≤c+rd z (j:Int)*10∧c+rd z (j:Int)*10<42949672960∧RDig l (z.set j ((c+rd z (j:Int)*10)%B32)) d (j+1) ((c+rd z (j:Int)*10)/B32):=by
 obtain⟨h1,h2,h3,h4,h5,h6⟩:=h
 obtain⟨z0,z1⟩:=Dig_rd h2 j (by omega)
 have z1':rd z (j:Int)<4294967296:=z1
 have hzl:rd z (j:Int)=rd l (j:Int):=by
  have:=congrArg (fun x=>rd x ((0:Nat):Int)) h5
  simpa only [rd_drop,Nat.add_zero]using this
 obtain⟨T,hT⟩:∃T,T=c+rd z (j:Int)*10:=⟨_,rfl⟩
 have T0:0≤T:=by clear h6;omega
 have T1:T<42949672960:=by clear h6;omega
 rw [←hT]
 refine⟨T0,T1,by rw [List.length_set];exact h1,Dig_set h2 j (by show 0≤T%4294967296;omega) (by show T%4294967296<4294967296;omega),by show 0≤T/4294967296;omega,by show T/4294967296<10;omega,?_,?_⟩
 ·rw [drop_set,←List.drop_drop,h5,List.drop_drop]
 ·have ht:(z.set j (T%B32)).take j=z.take j:=List.take_set_of_le (Nat.le_refl j)
  rw [take_succ,take_succ,ht,rd_set_self _ _ _ (by omega),←hzl,Int.pow_succ]
  have e1:B32^j*(T%B32)+B32^j*B32*(T/B32)=B32^j*T:=by
   rw [Int.mul_assoc,←Int.mul_add,Int.emod_add_mul_ediv]
  have e2:B32^j*T=B32^j*c+10*(B32^j*rd z (j:Int)):=by rw [hT,Int.mul_add,←Int.mul_assoc (B32^j),Int.mul_comm _ 10]
  rw [e2]at e1
  rw [Int.mul_add 10]
  generalize B32^j*(T%B32)=A at*
  generalize B32^j*B32*(T/B32)=A2 at*
  generalize B32^j*rd z (j:Int)=A3 at*
  generalize B32^j*c=A4 at*
  clear e2 hT T0 T1
  omega
theorem rDigits_l1 {s:ByteArray} {i V:Nat} {l:List Int} {d:Int} (hl:Dig B32 l) (ll:l.length≤1099511627776) (hi:i≤1099511627776) (hv:vB B32 l*10+d=V) {r:ByteArray×Bool}
  (next:∀z:List Int,Dig B32 z→z.length≤l.length+1→vB B32 z=V→Ev (fun k=>galoisref01_Digits.l0 k s z ((i+1:Nat):Int)) r):∀(m j:Nat) (z:List Int) (c:Int),j+m=l.length→RDig l z d j c→Ev (fun k=>galoisref01_Digits.l1 k s z (i:Int) c (j:Int)) r:=by
 intro m
 induction m with
 |zero=>
  intro j z c hj h
  have hj:j=l.length:=by omega
  subst hj
  obtain⟨h1,h2,h3,h4,h5,h6⟩:=h
  have e1:wrap64 ((i:Int)+1)=((i+1:Nat):Int):=by clear h6 hv;rw [w64 (by omega) (by omega)];omega
  rw [vB_all _ _ _ (by omega),vB_all _ _ _ (by omega)]at h6
  refine Ev.step (fun k=>galoisref01_Digits.l1.eq_2 ..) (Ev.congr (fun k=>if_neg (show¬(l.length:Int)<(z.length:Int)by omega)) ?_)
  rw [e1]
  by_cases hc:c>0
  ·refine Ev.congr (fun k=>if_pos hc) (Ev.congr (fun k=>if_pos (show z.length<17592186044416 by omega)) (next (z++[c]) (Dig_append h2 (Dig_cons.2 ⟨⟨h3,by show c<4294967296;omega⟩,Dig_nil _⟩)) (by rw [List.length_append,h1];exact Nat.le_refl _) ?_))
   rw [vB_append,h1]
   simp only [vB]
   rw [Int.mul_zero,Int.add_zero,h6]
   omega
  ·have hc0:c=0:=by omega
   rw [hc0,Int.mul_zero,Int.add_zero]at h6
   exact Ev.congr (fun k=>if_neg hc) (next z h2 (by omega) (by rw [h6];omega))
 |succ m ih=>
  intro j z c hj h
  obtain⟨t0,t1,h'⟩:=rdig_step (by omega) h
  have h1:=h.1
  obtain⟨z0,z1⟩:=Dig_rd h.2.1 j (by omega)
  have z1':rd z (j:Int)<4294967296:=z1
  have c1:(j:Int)<(z.length:Int):=by clear hv;omega
  have c2:j+1+m=l.length:=by clear hv;omega
  have e1:wrap64 ((j:Int)+1)=((j+1:Nat):Int):=by clear hv;rw [w64 (by omega) (by omega)];omega
  have e2:IntKind.u64.wrap (rd z (j:Int)*10)=rd z (j:Int)*10:=u64 (by omega) (by omega)
  have e3:IntKind.u64.wrap (c+rd z (j:Int)*10)=c+rd z (j:Int)*10:=u64 t0 (by omega)
  have e4:=and32 t0 (show c+rd z (j:Int)*10<18446744073709551616 by omega)
  refine Ev.step (fun k=>?_) (ih (j+1) _ _ c2 h')
  simp only [galoisref01_Digits.l1,e1,e2,e3,e4,Int.toNat_natCast]
  rw [if_pos c1,if_pos (Int.natCast_nonneg _)]
theorem rDigits_l0 {s:ByteArray} (hs:s.size≤100000):∀(d i:Nat) (l:List Int),i+d=s.size→(∀j:Nat,j<i→digit s j)→Dig B32 l→l.length≤i→vB B32 l=dv s i→Ev (fun k=>galoisref01_Digits.l0 k s l (i:Int)) (if digits s then(nat (dv s s.size),true)else(⟨#[]⟩,false)):=by
 intro d
 induction d with
 |zero=>
  intro i l hi hd hl ll hv
  have hi:i=s.size:=by omega
  subst hi
  have p:=rpack_ev hl (by omega)
  rw [hv,Int.toNat_natCast]at p
  rw [if_pos (show digits s from hd)]
  exact Ev.step (fun k=>galoisref01_Digits.l0.eq_2 ..) (Ev.congr (fun k=>if_neg (Int.lt_irrefl _)) (Ev.bind p (Ev.now _)))
 |succ d ih=>
  intro i l hi hd hl ll hv
  refine Ev.step (fun k=>galoisref01_Digits.l0.eq_2 ..) (Ev.congr (fun k=>if_pos (show(i:Int)<(s.size:Int)by omega)) (Ev.congr (fun k=>if_pos (Int.natCast_nonneg _)) ?_))
  have bad:¬digit s i→Ev (fun k=>galoisref01_Digits.j2 k s l (i:Int) true) (if digits s then(nat (dv s s.size),true)else(⟨#[]⟩,false)):=by
   intro h
   rw [if_neg (fun h'=>h (h' i (by omega)))]
   exact Ev.step (fun k=>galoisref01_Digits.j2.eq_2 ..) (Ev.congr (fun k=>if_pos rfl) (Ev.now _))
  by_cases h1:bt s (i:Int)<48
  ·exact Ev.congr (fun k=>if_pos h1) (bad (fun h=>by unfold digit at h;omega))
  ·refine Ev.congr (fun k=>if_neg h1) ?_
   by_cases h2:bt s (i:Int)>57
   ·rw [decide_eq_true h2]
    exact bad (fun h=>by unfold digit at h;omega)
   ·rw [decide_eq_false h2]
    have hdi:digit s i:=⟨by omega,by omega⟩
    have hd':∀j:Nat,j<i+1→digit s j:=fun j hj=>by
     rcases Nat.lt_or_ge j i with h|h
     ·exact hd j h
     ·rw [show j=i by omega];exact hdi
    refine Ev.step (fun k=>galoisref01_Digits.j2.eq_2 ..) (Ev.congr (fun k=>if_neg (by decide)) (Ev.congr (fun k=>if_pos (Int.natCast_nonneg _)) (Ev.congr (fun k=>if_pos (show(i:Int)<(s.size:Int)by omega)) ?_)))
    rw [show(bt s (i:Int)-48)%256=bt s (i:Int)-48 by omega]
    refine rDigits_l1 (V:=dv s (i+1)) (d:=bt s (i:Int)-48) hl (by omega) (by omega) ?_ (fun z z1 z2 z3=>ih (i+1) z (by omega) hd' z1 (by omega) z3) l.length 0 l _ (by omega) ⟨rfl,hl,by omega,by omega,rfl,?_⟩
    ·rw [hv,dv]
     omega
    ·rw [List.take_zero,Int.pow_zero]
     simp [vB]
def bad0 (s:ByteArray):Prop:=s.size=0∨(1<s.size∧bt s 0=48)
instance (s:ByteArray):Decidable (bad0 s):=by unfold bad0;infer_instance
theorem rDigits_ev {s:ByteArray} (hs:s.size≤100000):Ev (fun k=>galoisref01_Digits.f k s) (if bad0 s then(⟨#[]⟩,false)else if digits s then(nat (dv s s.size),true)else(⟨#[]⟩,false)):=by
 have bad:bad0 s→Ev (fun k=>galoisref01_Digits.j0 k s true) (if bad0 s then(⟨#[]⟩,false)else if digits s then(nat (dv s s.size),true)else(⟨#[]⟩,false)):=by
  intro h
  rw [if_pos h]
  exact Ev.step (fun k=>galoisref01_Digits.j0.eq_2 ..) (Ev.congr (fun k=>if_pos rfl) (Ev.now _))
 have good:¬bad0 s→Ev (fun k=>galoisref01_Digits.j0 k s false) (if bad0 s then(⟨#[]⟩,false)else if digits s then(nat (dv s s.size),true)else(⟨#[]⟩,false)):=by
  intro h
  rw [if_neg h]
  exact Ev.step (fun k=>galoisref01_Digits.j0.eq_2 ..) (Ev.congr (fun k=>if_neg (by decide)) (rDigits_l0 hs s.size 0 [] (by omega) (fun j hj=>absurd hj (by omega)) (Dig_nil _) (by decide) rfl))
 by_cases h0:s.size=0
 ·exact Ev.congr (fun k=>if_pos (toList_nil.2 h0)) (bad (Or.inl h0))
 ·refine Ev.congr (fun k=>if_neg (fun h=>h0 (toList_nil.1 h))) ?_
  by_cases h1:(s.size:Int)>1
  ·refine Ev.congr (fun k=>if_pos h1) (Ev.congr (fun k=>if_pos (show 0<(s.size:Int)by omega)) ?_)
   by_cases h2:bt s 0=48
   ·rw [h2]
    exact bad (Or.inr ⟨by omega,h2⟩)
   ·rw [show(bt s 0==48)=false from beq_eq_false_iff_ne.2 h2]
    exact good (fun h=>by unfold bad0 at h;omega)
  ·exact Ev.congr (fun k=>if_neg h1) (good (fun h=>by unfold bad0 at h;omega))
def parseR (s:ByteArray):ByteArray×Int:=if 4096<s.size then(⟨#[]⟩,12)else if bad0 s then(⟨#[]⟩,11)else if digits s then bnd (dv s s.size)else(⟨#[]⟩,11)
theorem bytes_txt {D:List Int} (h:Dig 10 D):bytesOf (strOfNums (txt D).reverse)=(txt D).reverse:=bytesOf_str (Dig_reverse (txt_dig h))
theorem size_txt {D:List Int} (h:Dig 10 D):(strOfNums (txt D).reverse).size=D.length:=by
 rw [←bytesOf_length,bytes_txt h,List.length_reverse,txt_length]
theorem bt_txt {D:List Int} (h:Dig 10 D) {i:Nat} (hi:i<D.length):bt (strOfNums (txt D).reverse) (i:Int)=48+rd D ((D.length-1-i:Nat):Int):=by
 rw [bt_rd,bytes_txt h,rd_reverse _ _ (by rw [txt_length];exact hi),txt_length,txt_rd (by omega)]
theorem dv_txt {D:List Int} (h:Dig 10 D):∀i:Nat,i≤D.length→((dv (strOfNums (txt D).reverse) i:Nat):Int)=vB 10 (D.drop (D.length-i)):=by
 intro i
 induction i with
 |zero=>
  intro _
  rw [Nat.sub_zero,List.drop_of_length_le (Nat.le_refl _)]
  rfl
 |succ i ih=>
  intro hi
  have h1:=ih (by omega)
  obtain⟨d0,d1⟩:=Dig_rd h (D.length-1-i) (by omega)
  have h2:=drop_succ 10 D (D.length-1-i) (by omega)
  rw [show D.length-1-i+1=D.length-i by omega,←h1]at h2
  rw [show D.length-(i+1)=D.length-1-i by omega,h2,dv,bt_txt h (by omega)]
  omega
theorem dec_digits (n:Nat):digits (dec n)∧¬bad0 (dec n)∧dv (dec n) (dec n).size=n∧(dec n).size=if n=0 then 1 else(d10 n).length:=by
 unfold dec
 by_cases h:n=0
 ·subst h
  rw [if_pos rfl]
  exact⟨by decide,by decide,by decide,rfl⟩
 ·rw [if_neg h,if_neg h]
  have hd:=d10_dig n
  have hs:=size_txt hd
  have hpos:0<(d10 n).length:=by rw [d10_pos h];simp
  refine⟨?_,?_,?_,hs⟩
  ·intro i hi
   rw [hs]at hi
   obtain⟨d0,d1⟩:=Dig_rd hd ((d10 n).length-1-i) (by omega)
   unfold digit
   rw [bt_txt hd hi]
   omega
  ·intro hb
   unfold bad0 at hb
   rw [hs]at hb
   rcases hb with hb| ⟨_,hb⟩
   ·omega
   ·have h1:=bt_txt hd hpos
    rw [show(d10 n).length-1-0=(d10 n).length-1 by omega]at h1
    have h2:=d10_trim n hpos
    have h3:bt (strOfNums (txt (d10 n)).reverse) ((0:Nat):Int)=48:=hb
    rw [h3]at h1
    omega
  ·have h1:=dv_txt hd (d10 n).length (Nat.le_refl _)
   rw [Nat.sub_self,List.drop_zero,d10_val]at h1
   rw [hs]
   exact Int.ofNat_inj.1 h1
theorem parse_dec {n:Nat} (hn:(nat n).size≤1024):parseR (dec n)=(nat n,0):=by
 obtain⟨h1,h2,h3,h4⟩:=dec_digits n
 have h5:=d10_len hn
 have h6:¬4096<(dec n).size:=by rw [h4];split<;>omega
 unfold parseR
 rw [if_neg h6,if_neg h2,if_pos h1,h3,bnd_ok hn]
abbrev G18:Int:=1000000000000000000
def d18 (n:Nat):List Int:=dgs 999999999999999998 n
theorem d18_dig (n:Nat):Dig G18 (d18 n):=(dgs_spec 999999999999999998 n).1
theorem d18_trim (n:Nat):Trim (d18 n):=(dgs_spec 999999999999999998 n).2.1
theorem d18_val (n:Nat):vB G18 (d18 n)=n:=(dgs_spec 999999999999999998 n).2.2
theorem d18_zero:d18 0=[]:=dgs_zero _
theorem d18_pos {n:Nat} (h:n≠0):d18 n=((n%1000000000000000000:Nat):Int)::d18 (n/1000000000000000000):=dgs_pos 999999999999999998 n h
theorem NatUint_ev {n:Nat} (hn:n<18446744073709551616):Ev (fun k=>exact_NatUint.f k (nat n)) ((n:Int),true):=by
 have hs:(nat n).size≤8:=nat_size_le.2 hn
 refine Ev.bind (words_nat (by omega)) ?_
 have hl:(d64 n).length≤1:=dgs_len (by rw [Nat.pow_one];exact hn)
 refine Ev.congr (fun k=>if_neg (show¬((d64 n).length:Int)>1 by omega)) ?_
 by_cases h:n=0
 ·subst h
  rw [d64_zero]
  exact Ev.congr (fun k=>if_pos rfl) (Ev.now _)
 ·have he:d64 n=[(n:Int)]:=by
   unfold d64
   rw [dgs_pos _ _ h,show n%(18446744073709551614+2)=n by omega,show n/(18446744073709551614+2)=0 by omega,dgs_zero]
  rw [he]
  exact Ev.congr (fun k=>if_neg (show¬(1:Int)=0 by decide)) (Ev.congr (fun k=>if_pos (show(0:Int)<1 by decide)) (Ev.now _))
def Turned (D z:List Int) (i j:Nat):Prop:=z.length=D.length∧∀p:Nat,p<D.length→rd z (p:Int)=if p<i∨j≤p then rd D ((D.length-1-p:Nat):Int)else rd D (p:Int)
theorem rd_ext {x y:List Int} (h:x.length=y.length) (h2:∀p:Nat,p<x.length→rd x (p:Int)=rd y (p:Int)):x=y:=by
 refine List.ext_getElem h (fun p p1 p2=>?_)
 have:=h2 p p1
 rwa [rd_get x p p1,rd_get y p p2]at this
theorem turned_done {D z:List Int} {i j:Nat} (hij:i+j=D.length) (h:Turned D z i j) (hle:j≤i+1):z=D.reverse:=by
 refine rd_ext (by rw [List.length_reverse];exact h.1) (fun p hp=>?_)
 rw [h.1]at hp
 rw [h.2 p hp,rd_reverse D p hp]
 split
 ·rfl
 ·rw [show D.length-1-p=p by omega]
theorem turned_step {D z:List Int} {i j:Nat} (hij:i+(j+1)=D.length) (hlt:i<j) (h:Turned D z i (j+1)):Turned D ((z.set i (rd z (j:Int))).set j (rd z (i:Int))) (i+1) j:=by
 refine⟨by rw [List.length_set,List.length_set];exact h.1,fun p hp=>?_⟩
 have hl:=h.1
 by_cases hj:p=j
 ·subst hj
  rw [rd_set_self _ _ _ (by rw [List.length_set];omega),h.2 i (by omega),if_neg (by omega),if_pos (Or.inr (Nat.le_refl _))]
  congr 2
  omega
 ·rw [rd_set_ne _ _ _ _ (fun h=>hj h.symm)]
  by_cases hi:p=i
  ·subst hi
   rw [rd_set_self _ _ _ (by omega),h.2 j (by omega),if_neg (by omega),if_pos (Or.inl (by omega))]
   congr 2
   omega
  ·rw [rd_set_ne _ _ _ _ (fun h=>hi h.symm),h.2 p hp]
   by_cases h1:p<i∨j+1≤p
   ·rw [if_pos h1,if_pos (by omega)]
   ·rw [if_neg h1,if_neg (by omega)]
theorem Format_l3 {D:List Int} (hD:D.length≤1099511627776):∀(j i:Nat) (z:List Int),i+j=D.length→Turned D z i j→Ev (fun k=>natural_Format.l3 k z (i:Int) ((j:Int)-1)) (strOfNums D.reverse,0):=by
 intro j
 induction j using Nat.strongRecOn with
 |_ j ih=>
  intro i z hij h
  have hl:=h.1
  by_cases hlt:j≤i+1
  ·refine Ev.step (fun k=>natural_Format.l3.eq_2 ..) (Ev.congr (fun k=>if_neg (show¬(i:Int)<(j:Int)-1 by omega)) ?_)
   rw [turned_done hij h hlt]
   exact Ev.now _
  ·obtain⟨q,rfl⟩:∃q,j=q+1:=⟨j-1,by omega⟩
   have e0:((q+1:Nat):Int)-1=(q:Int):=by omega
   have e1:wrap64 ((i:Int)+1)=((i+1:Nat):Int):=by rw [w64 (by omega) (by omega)];omega
   have e2:wrap64 ((q:Int)-1)=(q:Int)-1:=w64 (by omega) (by omega)
   refine Ev.step (fun k=>?_) (ih q (by omega) (i+1) _ (by omega) (turned_step hij (by omega) h))
   simp only [natural_Format.l3,e0,e1,e2,Int.toNat_natCast]
   rw [if_pos (by omega),if_pos (Int.natCast_nonneg _),if_pos (by omega),if_pos (Int.natCast_nonneg _),if_pos (by omega)]
theorem Format_rev {D:List Int} (hD:D.length≤1099511627776):Ev (fun k=>natural_Format.l3 k D 0 (wrap64 ((D.length:Int)-1))) (strOfNums D.reverse,0):=by
 rw [w64 (by omega) (by omega)]
 refine Format_l3 hD D.length 0 D (by omega) ⟨rfl,fun p hp=>?_⟩
 rw [if_neg (by omega)]
def FOut (n:Nat) (D:List Int) (i j:Nat) (u:Int):Prop:=Dig 10 D∧D.length=18*i+j∧vB 10 D+10^(18*i+j)*u=vB G18 ((d18 n).take (i+1))∧0≤u∧u<10^(18-j)
theorem fout_step {n:Nat} {D:List Int} {i j:Nat} {u:Int} (hj:j<18) (h:FOut n D i j u):FOut n (D++[u%10]) i (j+1) (u/10):=by
 obtain⟨h1,h2,h3,h4,h5⟩:=h
 refine⟨Dig_append h1 (Dig_cons.2 ⟨⟨by omega,by omega⟩,Dig_nil _⟩),by rw [List.length_append,h2];rfl,?_,by omega,?_⟩
 ·rw [vB_append,h2,←h3,←Nat.add_assoc,Int.pow_succ]
  simp only [vB]
  rw [Int.mul_zero,Int.add_zero,Int.mul_assoc,Int.add_assoc,←Int.mul_add,Int.emod_add_mul_ediv]
 ·obtain⟨q,hq⟩:∃q,18-j=q+1:=⟨17-j,by omega⟩
  rw [hq,Int.pow_succ]at h5
  rw [show 18-(j+1)=q by omega]
  exact Int.ediv_lt_of_lt_mul (by decide) h5
theorem Format_l2 {n:Nat} (hlen:(d18 n).length≤1000000000) {i:Nat} (hi:i<(d18 n).length) {r:ByteArray×Int}
  (next:∀D:List Int,FOut n D i 18 0→i+1<(d18 n).length→Ev (fun k=>natural_Format.l1 k (d18 n) (txt D) ((d18 n).length:Int) ((i+1:Nat):Int)) r)
  (last:∀D:List Int,D=d10 n→i+1=(d18 n).length→Ev (fun k=>natural_Format.l1 k (d18 n) (txt D) ((d18 n).length:Int) ((i+1:Nat):Int)) r):
  ∀(m j:Nat) (D:List Int) (u:Int),j+m=18→FOut n D i j u→(i+1=(d18 n).length→u=0→D=d10 n)→Ev (fun k=>natural_Format.l2 k (d18 n) (txt D) (i:Int) u (j:Int) ((d18 n).length:Int) (i:Int)) r:=by
 have ei:wrap64 ((i:Int)+1)=((i+1:Nat):Int):=by rw [w64 (by omega) (by omega)];omega
 have el:wrap64 (((d18 n).length:Int)-1)=((d18 n).length:Int)-1:=w64 (by omega) (by omega)
 intro m
 induction m with
 |zero=>
  intro j D u hj h hz
  have hj:j=18:=by omega
  subst hj
  have hu:u=0:=by
   obtain⟨_,_,_,h4,h5⟩:=h
   rw [Nat.sub_self,Int.pow_zero]at h5
   omega
  subst hu
  refine Ev.step (fun k=>natural_Format.l2.eq_2 ..) (Ev.congr (fun k=>if_neg (by decide)) ?_)
  rw [ei]
  by_cases hl:i+1=(d18 n).length
  ·exact last D (hz hl rfl) hl
  ·exact next D h (by omega)
 |succ m ih=>
  intro j D u hj h hz
  obtain⟨h1,h2,h3,h4,h5⟩:=id h
  have hu:u<1000000000000000000:=Int.lt_of_lt_of_le h5 (pow_le_pow (B:=10) (by decide) (show 18-j≤18 by omega))
  have hL:(txt D).length<140737488355328:=by rw [txt_length,h2];omega
  have e1:wrap64 ((j:Int)+1)=((j+1:Nat):Int):=by clear h3 h5;rw [w64 (by omega) (by omega)];omega
  have e2:IntKind.u64.wrap (Int.tdiv u 10)=u/10:=by
   rw [Int.tdiv_eq_ediv_of_nonneg h4]
   clear h3 h5
   exact u64 (by omega) (by omega)
  have e3:IntKind.u64.wrap (48+Int.tmod u 10)%256=48+u%10:=by
   rw [Int.tmod_eq_emod_of_nonneg h4,u64 (by omega) (by omega)]
   omega
  have e4:txt D++[48+u%10]=txt (D++[u%10]):=by rw [txt_append];rfl
  have cj:(j:Int)<18:=by clear h3 h5 e1 e2 e3 e4;omega
  have cm:j+1+m=18:=by clear h3 h5 e1 e2 e3 e4;omega
  have cj':j<18:=by clear h3 h5 e1 e2 e3 e4;omega
  have more:(i+1=(d18 n).length→u/10=0→D++[u%10]=d10 n)→Ev (fun k=>natural_Format.l2 k (d18 n) (txt D++[48+u%10]) (i:Int) (u/10) ((j+1:Nat):Int) ((d18 n).length:Int) (i:Int)) r:=by
   intro hz'
   rw [e4]
   exact ih (j+1) _ _ cm (fout_step cj' h) hz'
  refine Ev.step (fun k=>natural_Format.l2.eq_2 ..) (Ev.congr (fun k=>if_pos cj) ?_)
  rw [e1,e2,e3,el,ei]
  by_cases hu0:u>0
  ·refine Ev.congr (fun k=>if_pos hu0) (Ev.congr (fun k=>if_pos hL) (more (fun hl hq=>?_)))
   have hf:=fout_step cj' h
   obtain⟨f1,f2,f3,f4,f5⟩:=hf
   rw [hq,Int.mul_zero,Int.add_zero,vB_all _ _ _ (Nat.le_of_eq hl.symm),d18_val]at f3
   refine d10_unique f1 (fun _=>?_) f3
   rw [List.length_append]
   show rd (D++[u%10]) ((D.length+1-1:Nat):Int)≠0
   rw [show D.length+1-1=D.length+0 from rfl,rd_append_right]
   show u%10≠0
   clear f3 f5 h3 h5 e1 e2 e3 e4 ei el hL h2 f2 hj
   omega
  ·have hu0':u=0:=Int.le_antisymm (Int.not_lt.1 hu0) h4
   subst hu0'
   refine Ev.congr (fun k=>if_neg hu0) ?_
   by_cases hl:i+1=(d18 n).length
   ·exact Ev.congr (fun k=>if_neg (show¬(i:Int)<((d18 n).length:Int)-1 by clear h3 h5 e1 e2 e3 e4 ei el;omega)) (last D (hz hl rfl) hl)
   ·refine Ev.congr (fun k=>if_pos (show(i:Int)<((d18 n).length:Int)-1 by clear h3 h5 e1 e2 e3 e4 ei el;omega)) (Ev.congr (fun k=>if_pos hL) ?_)
    exact more (fun hl'=>absurd hl' hl)
theorem pow18 (i:Nat):(10:Int)^(18*i)=G18^i:=by rw [Int.pow_mul];rfl
theorem Format_l1 {n:Nat} (hlen:(d18 n).length≤1000000000) (h10:(d10 n).length≤1000000000) (h0:n≠0):∀(m i:Nat) (D:List Int),i+m=(d18 n).length→(m=0→D=d10 n)→Dig 10 D→D.length=18*i∨m=0→vB 10 D=vB G18 ((d18 n).take i)→Ev (fun k=>natural_Format.l1 k (d18 n) (txt D) ((d18 n).length:Int) (i:Int)) (strOfNums (txt (d10 n)).reverse,0):=by
 intro m
 induction m with
 |zero=>
  intro i D hi hD _ _ _
  rw [hD rfl]
  refine Ev.step (fun k=>natural_Format.l1.eq_2 ..) (Ev.congr (fun k=>if_neg (show¬(i:Int)<((d18 n).length:Int)by omega)) ?_)
  exact Format_rev (by rw [txt_length];omega)
 |succ m ih=>
  intro i D hi _ hd hl hv
  have hlt:i<(d18 n).length:=by omega
  have hl:D.length=18*i:=by omega
  obtain⟨p0,p1⟩:=Dig_rd (d18_dig n) i hlt
  refine Ev.step (fun k=>natural_Format.l1.eq_2 ..) (Ev.congr (fun k=>if_pos (show(i:Int)<((d18 n).length:Int)by omega)) (Ev.congr (fun k=>if_pos (Int.natCast_nonneg _)) (Ev.congr (fun k=>if_pos (show(i:Int)<((d18 n).length:Int)by omega)) ?_)))
  refine Format_l2 hlen hlt (fun D' hf hlt'=>?_) (fun D' hD' hl'=>?_) 18 0 D _ (by omega) ⟨hd,hl,?_,p0,p1⟩ (fun hl' hu=>?_)
  ·obtain⟨f1,f2,f3,f4,f5⟩:=hf
   rw [Int.mul_zero,Int.add_zero]at f3
   exact ih (i+1) D' (by omega) (fun h=>by omega) f1 (Or.inl (by omega)) f3
  ·rw [hD']
   exact ih (i+1) _ (by omega) (fun _=>rfl) (d10_dig n) (Or.inr (by omega)) (by rw [d10_val,vB_all _ _ _ (by omega),d18_val])
  ·rw [Nat.add_zero,pow18,hv,take_succ]
  ·exfalso
   have:=d18_trim n (by omega)
   rw [show(d18 n).length-1=i by omega]at this
   exact this hu
theorem Format_l0 {n0:Nat} (h0:n0≠0) (hlen:(d18 n0).length≤1000000000) (h10:(d10 n0).length≤1000000000):∀(n:Nat) (P:List Int),P++d18 n=d18 n0→(nat n).size≤1099511627776→Ev (fun k=>natural_Format.l0 k (nat n) P) (strOfNums (txt (d10 n0)).reverse,0):=by
 intro n
 induction n using Nat.strongRecOn with
 |_ n ih=>
  intro P hP hn
  refine Ev.step (fun k=>natural_Format.l0.eq_2 ..) ?_
  by_cases h:n=0
  ·subst h
   rw [d18_zero,List.append_nil]at hP
   subst hP
   exact Ev.congr (fun k=>if_pos (nat_empty.2 rfl)) (Format_l1 hlen h10 h0 (d18 n0).length 0 [] (by omega) (fun hl=>by
    exfalso
    have:=d18_val n0
    rw [List.eq_nil_of_length_eq_zero hl]at this
    simp [vB]at this
    omega) (Dig_nil _) (Or.inl rfl) rfl)
  ·have hg:=Of_eq (u:=1000000000000000000) (by decide)
   rw [show((1000000000000000000:Nat):Int)=1000000000000000000 from rfl]at hg
   have hd:=NatDivMod_ev (m:=n) (n:=1000000000000000000) hn (Nat.le_trans (nat_size_le (k:=8).2 (by decide)) (by decide)) (by decide)
   have hu:=NatUint_ev (n:=n%1000000000000000000) (by omega)
   have hPl:P.length≤1000000000:=by
    have:=congrArg List.length hP
    rw [List.length_append]at this
    omega
   refine Ev.congr (fun k=>if_neg (fun h'=>h (nat_empty.1 h'))) (ev_some hg (Ev.bind hd (Ev.bind hu (Ev.congr (fun k=>if_pos (show P.length<17592186044416 by omega)) ?_))))
   refine ih (n/1000000000000000000) (by omega) _ ?_ (Nat.le_trans (size_mono (Nat.div_le_self _ _)) hn)
   rw [←hP,d18_pos h,List.append_assoc]
   rfl
theorem Format_ev {n:Nat} (hn:(nat n).size≤1024):Ev (fun k=>natural_Format.f k (nat n)) (dec n,0):=by
 have h1:=first1 (nat n)
 rw [chk_nat hn]at h1
 refine Ev.bind h1 (Ev.congr (fun k=>if_pos rfl) ?_)
 unfold dec
 by_cases h:n=0
 ·rw [if_pos h]
  exact Ev.congr (fun k=>if_pos (nat_empty.2 h)) (Ev.now _)
 ·rw [if_neg h]
  have hl:=d10_len hn
  have hl18:(d18 n).length≤(nat n).size:=dgs_len (Nat.lt_of_lt_of_le (nat_lt_size n) (Nat.pow_le_pow_left (by decide) _))
  exact Ev.congr (fun k=>if_neg (fun h'=>h (nat_empty.1 h'))) (Format_l0 h (by omega) (by omega) n [] (by rw [List.nil_append]) (by omega))
theorem Parse_l2 {s:ByteArray} (hs:s.size≤100000) (hd:digits s) {e:Nat} (he:e≤s.size) {r:ByteArray×Int} (next:Ev (fun k=>natural_Parse.l1 k s (nat (dv s e)) (e:Int)) r):
  ∀(m i c n u:Nat),i+m=e→c+m≤18→u<10^c→n*10^c+u=dv s i→(nat n).size≤100000→Ev (fun k=>natural_Parse.l2 k s (nat n) (i:Int) (e:Int) (u:Int) ((10^c:Nat):Int)) r:=by
 intro m
 induction m with
 |zero=>
  intro i c n u hi hc hu hv hn
  have hi:i=e:=by omega
  subst hi
  have hc18:10^c≤10^18:=Nat.pow_le_pow_right (by decide) (by omega)
  have h18:(10:Nat)^18=1000000000000000000:=rfl
  have o1:=Of_eq (u:=10^c) (by omega)
  have o2:=Of_eq (u:=u) (by omega)
  have z1:(nat (10^c)).size≤8:=nat_size_le.2 (Nat.lt_of_le_of_lt hc18 (by decide))
  have z2:(nat u).size≤8:=nat_size_le.2 (show u<256^8 by have:(256:Nat)^8=18446744073709551616:=rfl;omega)
  have z3:=size_mul (m:=n) (n:=10^c)
  have m1:=NatMul_ev (m:=n) (n:=10^c) (by omega) (by omega)
  have m2:=NatAdd_ev (m:=n*10^c) (n:=u) (by omega) (by omega)
  rw [hv]at m2
  exact Ev.step (fun k=>natural_Parse.l2.eq_2 ..) (Ev.congr (fun k=>if_neg (Int.lt_irrefl _)) (ev_some o1 (Ev.bind m1 (ev_some o2 (Ev.bind m2 next)))))
 |succ m ih=>
  intro i c n u hi hc hu hv hn
  have hlt:i<s.size:=by omega
  have h1:=hd i hlt
  unfold digit at h1
  have hc17:10^c≤10^17:=Nat.pow_le_pow_right (by decide) (by omega)
  have h17:(10:Nat)^17=100000000000000000:=rfl
  have c1:(i:Int)<(e:Int):=by clear hv;omega
  have c2:(i:Int)<(s.size:Int):=by clear hv;omega
  have c3:i+1+m=e:=by clear hv;omega
  have c4:c+1+m≤18:=by clear hv;omega
  have e1:wrap64 ((i:Int)+1)=((i+1:Nat):Int):=by clear hv;rw [w64 (by omega) (by omega)];omega
  have e2:IntKind.u64.wrap (10*(u:Int))=((10*u:Nat):Int):=by clear hv;rw [u64 (by omega) (by omega)];omega
  have e3:(bt s (i:Int)-48)%256=(((bt s (i:Int)-48).toNat:Nat):Int):=by omega
  have e4:IntKind.u64.wrap (((10*u:Nat):Int)+(((bt s (i:Int)-48).toNat:Nat):Int))=((10*u+(bt s (i:Int)-48).toNat:Nat):Int):=by clear hv;rw [u64 (by omega) (by omega)];omega
  have e5:IntKind.u64.wrap (10*((10^c:Nat):Int))=((10^(c+1):Nat):Int):=by
   clear hv e4 e3 e2 e1
   rw [Nat.pow_succ]
   generalize 10^c=P at*
   rw [u64 (by omega) (by omega)]
   omega
  refine Ev.step (fun k=>?_) (ih (i+1) (c+1) n (10*u+(bt s (i:Int)-48).toNat) c3 c4 ?_ ?_ hn)
  ·simp only [natural_Parse.l2,e1,e2,e3,e4,e5]
   rw [if_pos c1,if_pos (Int.natCast_nonneg _),if_pos c2]
  ·rw [Nat.pow_succ]
   clear hv e1 e2 e3 e4 e5
   generalize 10^c=P at*
   omega
  ·rw [dv,←hv,Nat.pow_succ,Nat.add_mul,Nat.mul_assoc]
   omega
theorem Parse_l1 {s:ByteArray} (hs:s.size≤100000) (hd:digits s):∀(m i:Nat),i+m=s.size→Ev (fun k=>natural_Parse.l1 k s (nat (dv s i)) (i:Int)) (bnd (dv s s.size)):=by
 intro m
 induction m using Nat.strongRecOn with
 |_ m ih=>
  intro i hi
  by_cases h:m=0
  ·have hi:i=s.size:=by omega
   subst hi
   refine Ev.step (fun k=>natural_Parse.l1.eq_2 ..) (Ev.congr (fun k=>if_neg (Int.lt_irrefl _)) ?_)
   exact ev_some (bounded_eq _) (Ev.now _)
  ·obtain⟨e,he⟩:∃e,e=min s.size (i+18):=⟨_,rfl⟩
   have he1:e≤s.size:=by omega
   have he2:i<e:=by omega
   have he3:e≤i+18:=by omega
   have e1:mn (s.size:Int) (wrap64 ((i:Int)+18))=(e:Int):=by
    rw [w64 (by omega) (by omega)]
    unfold mn
    split<;>omega
   have hds:∀j:Nat,j<i→digit s j:=fun j hj=>hd j (by omega)
   refine Ev.step (fun k=>natural_Parse.l1.eq_2 ..) (Ev.congr (fun k=>if_pos (show(i:Int)<(s.size:Int)by omega)) ?_)
   rw [e1]
   exact Parse_l2 hs hd he1 (ih (s.size-e) (by omega) e (by omega)) (e-i) i 0 (dv s i) 0 (by omega) (by omega) (by decide) (by rw [Nat.pow_zero,Nat.mul_one,Nat.add_zero]) (Nat.le_trans (dv_size hds) (by omega))
theorem Parse_l0 {s:ByteArray} (hs:s.size≤100000):∀(d i:Nat),i+d=s.size→(∀j:Nat,j<i→digit s j)→Ev (fun k=>natural_Parse.l0 k s (s.size:Int) (i:Int)) (if digits s then bnd (dv s s.size)else(⟨#[]⟩,11)):=by
 intro d
 induction d with
 |zero=>
  intro i hi hd
  have hi:i=s.size:=by omega
  subst hi
  rw [if_pos (show digits s from hd)]
  refine Ev.step (fun k=>natural_Parse.l0.eq_2 ..) (Ev.congr (fun k=>if_neg (Int.lt_irrefl _)) ?_)
  have:=Parse_l1 hs hd s.size 0 (by omega)
  rw [show dv s 0=0 from rfl,nat_zero]at this
  exact this
 |succ d ih=>
  intro i hi hd
  have e1:wrap64 ((i:Int)+1)=((i+1:Nat):Int):=by rw [w64 (by omega) (by omega)];omega
  refine Ev.step (fun k=>natural_Parse.l0.eq_2 ..) (Ev.congr (fun k=>if_pos (show(i:Int)<(s.size:Int)by omega)) (Ev.congr (fun k=>if_pos (Int.natCast_nonneg _)) (Ev.congr (fun k=>if_pos (show(i:Int)<(s.size:Int)by omega)) ?_)))
  rw [e1]
  by_cases h1:bt s (i:Int)<48
  ·rw [if_neg (fun h'=>by have:=h' i (by omega);unfold digit at this;omega)]
   exact Ev.congr (fun k=>if_pos h1) (Ev.now _)
  ·refine Ev.congr (fun k=>if_neg h1) ?_
   by_cases h2:bt s (i:Int)>57
   ·rw [if_neg (fun h'=>by have:=h' i (by omega);unfold digit at this;omega)]
    exact Ev.congr (fun k=>if_pos h2) (Ev.now _)
   ·have hdi:digit s i:=⟨by omega,by omega⟩
    refine Ev.congr (fun k=>if_neg h2) (ih (i+1) (by omega) (fun j hj=>?_))
    rcases Nat.lt_or_ge j i with h|h
    ·exact hd j h
    ·rw [show j=i by omega];exact hdi
theorem Parse_ev {s:ByteArray} (hs:s.size≤100000):Ev (fun k=>natural_Parse.f k s) (parseR s):=by
 unfold parseR
 have bad:bad0 s→Ev (fun k=>natural_Parse.j0 k s true) (if bad0 s then(⟨#[]⟩,11)else if digits s then bnd (dv s s.size)else(⟨#[]⟩,11)):=by
  intro h
  rw [if_pos h]
  exact Ev.step (fun k=>natural_Parse.j0.eq_2 ..) (Ev.congr (fun k=>if_pos rfl) (Ev.now _))
 have good:¬bad0 s→Ev (fun k=>natural_Parse.j0 k s false) (if bad0 s then(⟨#[]⟩,11)else if digits s then bnd (dv s s.size)else(⟨#[]⟩,11)):=by
  intro h
  rw [if_neg h]
  exact Ev.step (fun k=>natural_Parse.j0.eq_2 ..) (Ev.congr (fun k=>if_neg (by decide)) (Parse_l0 hs s.size 0 (by omega) (fun j hj=>absurd hj (by omega))))
 by_cases h:4096<s.size
 ·rw [if_pos h]
  exact Ev.congr (fun k=>if_pos (show(s.size:Int)>4096 by omega)) (Ev.now _)
 ·rw [if_neg h]
  refine Ev.congr (fun k=>if_neg (show¬(s.size:Int)>4096 by omega)) ?_
  by_cases h0:s.size=0
  ·exact Ev.congr (fun k=>if_pos (toList_nil.2 h0)) (bad (Or.inl h0))
  ·refine Ev.congr (fun k=>if_neg (fun h'=>h0 (toList_nil.1 h'))) (Ev.congr (fun k=>if_pos (show 0<(s.size:Int)by omega)) ?_)
   by_cases h2:bt s 0=48
   ·refine Ev.congr (fun k=>if_pos h2) ?_
    by_cases h3:(s.size:Int)>1
    ·rw [decide_eq_true h3]
     exact bad (Or.inr ⟨by omega,h2⟩)
    ·rw [decide_eq_false h3]
     exact good (fun h'=>by unfold bad0 at h';omega)
   ·exact Ev.congr (fun k=>if_neg h2) (good (fun h'=>by unfold bad0 at h';omega))
theorem rtop_lt {x y:List Int} (hx:Dig B32 x) (hy:Dig B32 y) {i:Nat} (hi:i<x.length) (hi':i<y.length) (hd:vB B32 (x.drop (i+1))=vB B32 (y.drop (i+1))) (h:rd x (i:Int)<rd y (i:Int)):vB B32 x<vB B32 y:=by
 have hB:(0:Int)<B32:=by decide
 have hsx:=vB_split B32 x (i+1) (by omega)
 have hsy:=vB_split B32 y (i+1) (by omega)
 rw [take_succ]at hsx hsy
 have ax:=vB_lt hB (Dig_take hx i)
 rw [List.length_take,Nat.min_eq_left (by omega)]at ax
 have bb:=vB_nonneg (Int.le_of_lt hB) (Dig_take hy i)
 rw [hd]at hsx
 have hP:(0:Int)<B32^i:=Int.pow_pos hB
 rw [hsx,hsy]
 generalize vB B32 (x.take i)=X at*
 generalize vB B32 (y.take i)=Y at*
 generalize B32^(i+1)*vB B32 (y.drop (i+1))=Z at*
 generalize(B32:Int)^i=P at*
 generalize rd x (i:Int)=a at*
 generalize rd y (i:Int)=b at*
 have h1:=Int.mul_le_mul_of_nonneg_left (show a+1≤b by omega) (Int.le_of_lt hP)
 rw [Int.mul_add,Int.mul_one]at h1
 clear hsx hsy hd
 omega
theorem below_l0 (x y:List Int) (hx:Dig B32 x) (hy:Dig B32 y) (hl:x.length=y.length) (hs:x.length<9223372036854775808) {m n:Nat} (hm:vB B32 x=m) (hn:vB B32 y=n):∀i:Nat,i≤x.length→vB B32 (x.drop i)=vB B32 (y.drop i)→Ev (fun k=>galoisref01_below.l0 k x y ((i:Int)-1)) (decide (m<n)):=by
 intro i
 induction i with
 |zero=>
  intro _ hd
  rw [List.drop_zero,List.drop_zero,hm,hn]at hd
  have e:¬m<n:=by omega
  rw [decide_eq_false e]
  refine Ev.step (f:=fun _=>some false) (fun k=>?_) (Ev.now _)
  simp only [galoisref01_below.l0]
  rw [if_neg (by decide)]
 |succ i ih=>
  intro hi hd
  have e0:((i+1:Nat):Int)-1=(i:Int):=by omega
  have e1:wrap64 ((i:Int)-1)=(i:Int)-1:=w64 (by omega) (by omega)
  have c1:(i:Int)≥0:=by omega
  have c2:(i:Int)<(x.length:Int):=by omega
  have c3:(i:Int)<(y.length:Int):=by omega
  rw [e0]
  by_cases he:rd x (i:Int)=rd y (i:Int)
  ·refine Ev.step (f:=fun k=>galoisref01_below.l0 k x y ((i:Int)-1)) (fun k=>?_) (ih (by omega) ?_)
   ·simp only [galoisref01_below.l0,e1]
    rw [if_pos c1,if_pos c1,if_pos c2,if_pos c3,if_pos he]
   ·rw [drop_succ B32 x i (by omega),drop_succ B32 y i (by omega),hd,he]
  ·have hdec:decide (rd x (i:Int)<rd y (i:Int))=decide (m<n):=by
    by_cases hab:rd x (i:Int)<rd y (i:Int)
    ·have h1:=rtop_lt hx hy (by omega) (by omega) hd hab
     rw [decide_eq_true hab,decide_eq_true (by rw [hm,hn]at h1;omega)]
    ·have h1:=rtop_lt hy hx (by omega) (by omega) hd.symm (show rd y (i:Int)<rd x (i:Int)by omega)
     rw [decide_eq_false hab,decide_eq_false (by rw [hm,hn]at h1;omega)]
   refine Ev.step (f:=fun _=>some (decide (m<n))) (fun k=>?_) (Ev.now _)
   simp only [galoisref01_below.l0,e1]
   rw [if_pos c1,if_pos c1,if_pos c2,if_pos c3,if_neg he,hdec]
theorem below_ev {l:List Int} {n R:Nat} (hd:Dig B32 l) (hl:l.length<9223372036854775808) (hR:vB B32 l=R) (hn:(d32 n).length<9223372036854775808):Ev (fun k=>galoisref01_below.f k l (d32 n)) (decide (R<n)):=by
 have ht:=rtrimV_ev hl hd
 rw [hR,Int.toNat_natCast]at ht
 have hRl:(d32 R).length<9223372036854775808:=by
  have:(d32 R).length≤l.length:=dgs_len (by
   have h1:=vB_lt (show(0:Int)<B32 by decide) hd
   rw [hR]at h1
   have h2:((R:Nat):Int)<((4294967294+2:Nat):Int)^l.length:=h1
   rw [←Int.natCast_pow]at h2
   exact Int.ofNat_lt.1 h2)
  omega
 refine Ev.bind ht ?_
 by_cases h1:(d32 R).length=(d32 n).length
 ·have:=below_l0 (d32 R) (d32 n) (d32_dig R) (d32_dig n) h1 hRl (d32_val R) (d32_val n) (d32 R).length (Nat.le_refl _) (by
   rw [List.drop_of_length_le (Nat.le_refl _),List.drop_of_length_le (by omega)])
  refine Ev.congr (fun k=>?_) this
  rw [if_pos (by omega),w64 (by omega) (by omega)]
 ·have hdec:decide (((d32 R).length:Int)<((d32 n).length:Int))=decide (R<n):=by
   by_cases h2:(d32 R).length<(d32 n).length
   ·have h3:=trim_len (by decide) (d32_dig R) (d32_dig n) (d32_trim n) h2
    rw [d32_val,d32_val]at h3
    rw [decide_eq_true (by omega),decide_eq_true (by omega)]
   ·have h3:=trim_len (by decide) (d32_dig n) (d32_dig R) (d32_trim R) (by omega)
    rw [d32_val,d32_val]at h3
    rw [decide_eq_false (by omega),decide_eq_false (by omega)]
  refine Ev.congr (f:=fun _=>some (decide (R<n))) (fun k=>?_) (Ev.now _)
  rw [if_neg (by omega),hdec]
def RSm (u y z:List Int) (g:Int) (K i:Nat) (c:Int):Prop:=
 z.length=u.length∧Dig B32 z∧(0≤c∧c<B32)∧z.take K=u.take K∧z.drop (K+i)=u.drop (K+i)∧vB B32 z+B32^K*(g*vB B32 (y.take i))=vB B32 u+B32^(K+i)*c
theorem take_set_far {l:List Int} {K j:Nat} (h:K≤j) (x:Int):(l.set j x).take K=l.take K:=List.take_set_of_le h
theorem rsm_digit {z y g c:Int} (z0:0≤z) (z1:z<B32) (y0:0≤y) (y1:y<B32) (g0:0≤g) (g1:g<B32) (c0:0≤c) (c1:c<B32):
  IntKind.u64.wrap (IntKind.u64.wrap (y*g)+c)=y*g+c∧Go.bits .and .u64 (y*g+c) 4294967295=(y*g+c)%B32∧0≤(y*g+c)/B32∧(y*g+c)/B32<B32∧0≤(y*g+c)%B32∧(y*g+c)%B32<B32∧(z<(y*g+c)%B32→(y*g+c)/B32+1<B32):=by
 have z1':z<4294967296:=z1
 have y1':y<4294967296:=y1
 have g1':g<4294967296:=g1
 have c1':c<4294967296:=c1
 have hp:=mul_range y0 (show y≤4294967295 by omega) g0 (show g≤4294967295 by omega)
 have h1:(4294967295:Int)*4294967295=18446744065119617025:=rfl
 rw [h1]at hp
 rw [and32 (x:=y*g+c) (by omega) (by omega)]
 show IntKind.u64.wrap (IntKind.u64.wrap (y*g)+c)=y*g+c∧(y*g+c)%4294967296=(y*g+c)%4294967296∧0≤(y*g+c)/4294967296∧(y*g+c)/4294967296<4294967296∧0≤(y*g+c)%4294967296∧(y*g+c)%4294967296<4294967296∧(z<(y*g+c)%4294967296→(y*g+c)/4294967296+1<4294967296)
 generalize y*g=p at*
 clear y0 y1 y1' g0 g1 g1' z1 c1 h1
 rw [u64 (x:=p) (by omega) (by omega),u64 (x:=p+c) (by omega) (by omega)]
 omega
theorem rsm_step {u y z:List Int} {g c d e:Int} {K i:Nat} (hj:K+i<z.length) (h:RSm u y z g K i c) (d0:0≤d) (d1:d<B32) (he:0≤(rd y (i:Int)*g+c)/B32+e) (he1:(rd y (i:Int)*g+c)/B32+e<B32)
  (hd:d=rd z ((K+i:Nat):Int)-(rd y (i:Int)*g+c)%B32+B32*e):RSm u y (z.set (K+i) d) g K (i+1) ((rd y (i:Int)*g+c)/B32+e):=by
 obtain⟨hl,hdg,hc,ht,hdr,hv⟩:=h
 refine⟨by rw [List.length_set];exact hl,Dig_set hdg _ d0 d1,⟨he,he1⟩,by rw [take_set_far (by omega)];exact ht,?_,?_⟩
 ·rw [←Nat.add_assoc,drop_set,←List.drop_drop,hdr,List.drop_drop]
 ·rw [vB_set _ _ _ _ hj,take_succ,←Nat.add_assoc,Int.pow_succ,hd]
  have em:=Int.emod_add_mul_ediv (rd y (i:Int)*g+c) B32
  generalize(rd y (i:Int)*g+c)/B32=q at*
  generalize(rd y (i:Int)*g+c)%B32=r at*
  have er:rd z ((K+i:Nat):Int)-r+B32*e-rd z ((K+i:Nat):Int)=B32*(q+e)-rd y (i:Int)*g-c:=by
   rw [Int.mul_add]
   clear hv
   omega
  have ep:(B32:Int)^(K+i)=B32^K*B32^i:=Int.pow_add _ _ _
  rw [er,Int.mul_sub,Int.mul_sub,Int.mul_assoc (B32^(K+i)) B32]
  have e3:B32^K*(g*(vB B32 (y.take i)+B32^i*rd y (i:Int)))=B32^K*(g*vB B32 (y.take i))+B32^(K+i)*(rd y (i:Int)*g):=by
   rw [ep,Int.mul_add g,Int.mul_add (B32^K),Int.mul_left_comm g (B32^i),←Int.mul_assoc (B32^K) (B32^i),Int.mul_comm g (rd y _)]
  rw [e3]
  generalize B32^(K+i)*(B32*(q+e))=A1 at*
  generalize B32^(K+i)*(rd y (i:Int)*g)=A2 at*
  generalize B32^(K+i)*c=A3 at*
  generalize B32^K*(g*vB B32 (y.take i))=A4 at*
  clear ep er em
  omega
theorem rsm_end {u y z:List Int} {g c:Int} {K N:Nat} (hN:y.length=N) (hKN:K+N<u.length) (hu:Dig B32 u) (hy:Dig B32 y) (h:RSm u y z g K N c) (hg:g*vB B32 y≤vB B32 (u.drop K)) (hR:vB B32 (u.drop K)<vB B32 y*B32):
  0≤rd z ((K+N:Nat):Int)-c∧rd z ((K+N:Nat):Int)-c<B32∧(z.set (K+N) (rd z ((K+N:Nat):Int)-c)).length=u.length∧Dig B32 (z.set (K+N) (rd z ((K+N:Nat):Int)-c))∧
  vB B32 ((z.set (K+N) (rd z ((K+N:Nat):Int)-c)).drop K)=vB B32 (u.drop K)-g*vB B32 y∧vB B32 (z.set (K+N) (rd z ((K+N:Nat):Int)-c))+B32^K*(g*vB B32 y)=vB B32 u:=by
 have hB:(0:Int)<B32:=by decide
 obtain⟨hl,hd,hc,ht,hdr,hv⟩:=h
 rw [vB_all _ _ _ (by rw [hN];exact Nat.le_refl _)]at hv
 have hj:K+N<z.length:=by omega
 obtain⟨z0,z1⟩:=Dig_rd hd (K+N) hj
 have hy1:=vB_lt hB hy
 rw [hN]at hy1
 have s2:=vB_split B32 (u.drop K) (N+1) (by rw [List.length_drop];omega)
 rw [List.drop_drop]at s2
 have p1:=vB_nonneg (Int.le_of_lt hB) (Dig_take (Dig_drop hu K) (N+1))
 have p2:=vB_nonneg (Int.le_of_lt hB) (Dig_drop hu (K+(N+1)))
 have hzero:vB B32 (u.drop (K+(N+1)))=0:=by
  rcases Int.lt_or_le (vB B32 (u.drop (K+(N+1)))) 1 with h|h
  ·clear hv hy1 s2 hR hg;omega
  ·exfalso
   have h1:=Int.mul_le_mul_of_nonneg_left h (Int.le_of_lt (show(0:Int)<B32^(N+1)from Int.pow_pos hB))
   rw [Int.mul_one]at h1
   have h2:=Int.mul_lt_mul_of_pos_right hy1 hB
   have h3:(B32:Int)^(N+1)=B32^N*B32:=Int.pow_succ _ _
   rw [h3]at h1 s2
   generalize(B32:Int)^N*B32=P at*
   generalize P*vB B32 (u.drop (K+(N+1)))=A at*
   clear hv hy1 hg h3
   omega
 have s3:=vB_split B32 z (K+N) (by omega)
 have s4:vB B32 (z.drop (K+N))=rd z ((K+N:Nat):Int):=by
  have h1:=drop_succ B32 z (K+N) hj
  have h2:z.drop (K+N+1)=u.drop (K+(N+1)):=by rw [←List.drop_drop,hdr,List.drop_drop,Nat.add_assoc]
  rw [h2,hzero,Int.mul_zero,Int.add_zero]at h1
  exact h1
 have l0:=vB_nonneg (Int.le_of_lt hB) (Dig_take hd (K+N))
 have l1:=vB_lt hB (Dig_take hd (K+N))
 rw [List.length_take,Nat.min_eq_left (by clear hv hy1 s2 s3;omega)]at l1
 have s5:=vB_split B32 u K (by clear hv hy1 s2 s3 l1;omega)
 have l2:=vB_nonneg (Int.le_of_lt hB) (Dig_take hu K)
 have hge:c≤rd z ((K+N:Nat):Int):=by
  rcases Int.lt_or_le (rd z ((K+N:Nat):Int)) c with h|h
  ·exfalso
   have h1:=Int.mul_le_mul_of_nonneg_left (show rd z ((K+N:Nat):Int)+1≤c by clear hv hy1 s2 s3 l1 s5;omega) (Int.le_of_lt (show(0:Int)<B32^(K+N)from Int.pow_pos hB))
   rw [Int.mul_add,Int.mul_one]at h1
   have h2:=Int.mul_le_mul_of_nonneg_left hg (Int.le_of_lt (show(0:Int)<B32^K from Int.pow_pos hB))
   rw [s4]at s3
   generalize B32^(K+N)*rd z ((K+N:Nat):Int)=A1 at*
   generalize B32^(K+N)*c=A2 at*
   generalize(B32:Int)^(K+N)=A3 at*
   generalize B32^K*(g*vB B32 y)=A4 at*
   generalize B32^K*vB B32 (u.drop K)=A5 at*
   clear hy1 s2
   omega
  ·exact h
 have d0:0≤rd z ((K+N:Nat):Int)-c:=by clear hv hy1 s2 s3 l1 s5;omega
 have d1:rd z ((K+N:Nat):Int)-c<B32:=by clear hv hy1 s2 s3 l1 s5;omega
 have hval:vB B32 (z.set (K+N) (rd z ((K+N:Nat):Int)-c))+B32^K*(g*vB B32 y)=vB B32 u:=by
  rw [vB_set _ _ _ _ hj,show rd z ((K+N:Nat):Int)-c-rd z ((K+N:Nat):Int)= -c by clear hv hy1 s2 s3 l1 s5;omega,Int.mul_neg]
  generalize B32^(K+N)*c=A2 at*
  generalize B32^K*(g*vB B32 y)=A4 at*
  clear hy1 s2 s3 l1 s5
  omega
 refine⟨d0,d1,by rw [List.length_set];exact hl,Dig_set hd _ d0 d1,?_,hval⟩
 have s6:=vB_split B32 (z.set (K+N) (rd z ((K+N:Nat):Int)-c)) K (by rw [List.length_set];clear hv hy1 s2 s3 l1 s5 hval;omega)
 rw [take_set_far (by clear hv hy1 s2 s3 l1 s5 hval;omega),ht]at s6
 have hne:(B32:Int)^K≠0:=Int.ne_of_gt (Int.pow_pos hB)
 apply Int.eq_of_mul_eq_mul_left hne
 rw [Int.mul_sub]
 generalize B32^K*vB B32 ((z.set (K+N) (rd z ((K+N:Nat):Int)-c)).drop K)=A1 at*
 generalize B32^K*vB B32 (u.drop K)=A2 at*
 generalize B32^K*(g*vB B32 y)=A4 at*
 clear hv hy1 s2 s3 l1
 omega
theorem rdiv_l2 {u y q:List Int} {g:Int} {K N:Nat} (hN:y.length=N) (hKN:K+N<u.length) (lu:u.length≤1099511627776) (hu:Dig B32 u) (hy:Dig B32 y) (g0:0≤g) (g1:g<B32) (hg:g*vB B32 y≤vB B32 (u.drop K)) (hR:vB B32 (u.drop K)<vB B32 y*B32) {r:ByteArray×ByteArray}
  (next:∀z':List Int,z'.length=u.length→Dig B32 z'→vB B32 (z'.drop K)=vB B32 (u.drop K)-g*vB B32 y→vB B32 z'+B32^K*(g*vB B32 y)=vB B32 u→Ev (fun k=>galoisref01_DivMod.l1 k y (N:Int) z' q (K:Int)) r):
  ∀(d i:Nat) (z:List Int) (c:Int),i+d=N→RSm u y z g K i c→Ev (fun k=>galoisref01_DivMod.l2 k y (N:Int) z q (K:Int) g c (i:Int)) r:=by
 intro d
 induction d with
 |zero=>
  intro i z c hi h
  have hi:i=N:=by omega
  subst hi
  have hl:=h.1
  have c1:((K+i:Nat):Int)<(z.length:Int):=by omega
  obtain⟨d0,d1,r1,r2,r3,r4⟩:=rsm_end hN hKN hu hy h hg hR
  have d1':rd z ((K+i:Nat):Int)-c<4294967296:=d1
  have e1:wrap64 ((K:Int)+(i:Int))=((K+i:Nat):Int):=by clear r3 r4 hg hR;rw [w64 (by omega) (by omega)];omega
  have e2:IntKind.u64.wrap (rd z ((K+i:Nat):Int)-c)=rd z ((K+i:Nat):Int)-c:=by clear r3 r4 hg hR e1;exact u64 (by omega) (by omega)
  refine Ev.step (fun k=>?_) (next _ r1 r2 r3 r4)
  simp only [galoisref01_DivMod.l2,e1,e2]
  rw [if_neg (Int.lt_irrefl _),if_pos (Int.natCast_nonneg _),if_pos c1,Int.toNat_natCast]
 |succ d ih=>
  intro i z c hi h
  have hl:=h.1
  have hi':i<N:=by omega
  have hj:K+i<z.length:=by omega
  have c0:i+1+d=N:=by omega
  have c1:(i:Int)<(N:Int):=Int.ofNat_lt.2 hi'
  have c2:(i:Int)<(y.length:Int):=by rw [hN];exact c1
  have c3:((K+i:Nat):Int)<(z.length:Int):=Int.ofNat_lt.2 hj
  obtain⟨z0,z1⟩:=Dig_rd h.2.1 (K+i) hj
  obtain⟨y0,y1⟩:=Dig_rd hy i (by omega)
  have hc:=h.2.2.1
  obtain⟨p1,p2,p3,p4,p5,p6,p7⟩:=rsm_digit z0 z1 y0 y1 g0 g1 hc.1 hc.2
  have z1':rd z ((K+i:Nat):Int)<4294967296:=z1
  have p4':(rd y (i:Int)*g+c)/B32<4294967296:=p4
  have p6':(rd y (i:Int)*g+c)%B32<4294967296:=p6
  have e1:wrap64 ((K:Int)+(i:Int))=((K+i:Nat):Int):=by clear p1 p2 p3 p4 p4' p5 p6 p6' p7 hg hR;rw [w64 (by omega) (by omega)];omega
  have e2:wrap64 ((i:Int)+1)=((i+1:Nat):Int):=by clear p1 p2 p3 p4 p4' p5 p6 p6' p7 hg hR e1;rw [w64 (by omega) (by omega)];omega
  by_cases hb:rd z ((K+i:Nat):Int)<(rd y (i:Int)*g+c)%B32
  ·have p8:=p7 hb
   have hs:=rsm_step (d:=rd z ((K+i:Nat):Int)+4294967296-(rd y (i:Int)*g+c)%B32) (e:=1) hj h (by clear p1 p2 p3 p4 p4' p5 p7 hg hR e1 e2;omega) (by show _<(4294967296:Int);clear p1 p2 p3 p4 p4' p5 p7 hg hR e1 e2;omega) (by clear p1 p2 p4 p4' p5 p7 hg hR e1 e2 hb;omega) p8 (by show _=rd z ((K+i:Nat):Int)-(rd y (i:Int)*g+c)%B32+4294967296*1;clear p1 p2 p3 p4 p4' p5 p7 hg hR e1 e2;omega)
   have e3:IntKind.u64.wrap (rd z ((K+i:Nat):Int)+4294967296)=rd z ((K+i:Nat):Int)+4294967296:=by clear p1 p2 p3 p4 p4' p5 p7 hg hR e1 e2;exact u64 (by omega) (by omega)
   have e4:IntKind.u64.wrap (rd z ((K+i:Nat):Int)+4294967296-(rd y (i:Int)*g+c)%B32)=rd z ((K+i:Nat):Int)+4294967296-(rd y (i:Int)*g+c)%B32:=by clear p1 p2 p3 p4 p4' p7 hg hR e1 e2 e3;exact u64 (by omega) (by omega)
   have e5:IntKind.u64.wrap ((rd y (i:Int)*g+c)/4294967296+1)=(rd y (i:Int)*g+c)/B32+1:=by
    clear p1 p2 p7 hg hR e1 e2 e3 e4
    exact u64 (Int.add_nonneg p3 (by decide)) (Int.lt_trans p8 (by decide))
   have r1:rd (z.set (K+i) (rd z ((K+i:Nat):Int)+4294967296)) ((K+i:Nat):Int)=rd z ((K+i:Nat):Int)+4294967296:=rd_set_self _ _ _ hj
   refine Ev.step (fun k=>?_) (ih (i+1) _ _ c0 hs)
   simp only [galoisref01_DivMod.l2,e1,e2,p1,p2,e3,e5,Int.toNat_natCast,Option.bind_some]
   rw [if_pos c1,if_pos (Int.natCast_nonneg _),if_pos c2,if_pos (Int.natCast_nonneg _),if_pos c3,if_pos hb,r1,e4,List.set_set]
  ·have hs:=rsm_step (d:=rd z ((K+i:Nat):Int)-(rd y (i:Int)*g+c)%B32) (e:=0) hj h (by clear p1 p2 p3 p4 p4' p7 hg hR e1 e2;omega) (by show _<(4294967296:Int);clear p1 p2 p3 p4 p4' p7 hg hR e1 e2;omega) (by rw [Int.add_zero];exact p3) (by rw [Int.add_zero];exact p4) (by rw [Int.mul_zero,Int.add_zero])
   have e4:IntKind.u64.wrap (rd z ((K+i:Nat):Int)-(rd y (i:Int)*g+c)%B32)=rd z ((K+i:Nat):Int)-(rd y (i:Int)*g+c)%B32:=by clear p1 p2 p3 p4 p4' p7 hg hR e1 e2;exact u64 (by omega) (by omega)
   rw [Int.add_zero]at hs
   refine Ev.step (fun k=>?_) (ih (i+1) _ _ c0 hs)
   simp only [galoisref01_DivMod.l2,e1,e2,p1,p2,Int.toNat_natCast]
   rw [if_pos c1,if_pos (Int.natCast_nonneg _),if_pos c2,if_pos (Int.natCast_nonneg _),if_pos c3,if_neg hb,e4]
theorem d32_pos {n:Nat} (h:0<n):0<(d32 n).length:=by
 rcases Nat.eq_zero_or_pos (d32 n).length with h1|h1
 ·exfalso
  have:=d32_val n
  rw [List.eq_nil_of_length_eq_zero h1]at this
  simp [vB]at this
  omega
 ·exact h1
theorem mx_or (a b:Int):(mx a b=a∧b≤a)∨(mx a b=b∧a≤b):=by
 unfold mx
 split
 ·right;exact⟨rfl,by omega⟩
 ·left;exact⟨rfl,by omega⟩
theorem rguess {u:List Int} {n K N:Nat} {R T top:Int} (hn:0<n) (hN:(d32 n).length=N+1) (hKN:K+(N+1)<u.length) (hu:Dig B32 u) (hR:vB B32 (u.drop K)=R) (hge:(n:Int)≤R) (hlt:R<n*B32)
  (hT:T=rd u ((K+(N+1):Nat):Int)*4294967296+rd u ((K+N:Nat):Int)) (htop:top=rd (d32 n) (N:Int)):
  (0≤T∧T<18446744073709551616)∧(0≤top∧top<4294967296)∧1≤mx 1 (T/(top+1))∧mx 1 (T/(top+1))<B32∧mx 1 (T/(top+1))*n≤R:=by
 have hB:(0:Int)<B32:=by decide
 obtain⟨t0,t1⟩:=Dig_rd (d32_dig n) N (by omega)
 obtain⟨u0,u1⟩:=Dig_rd hu (K+(N+1)) hKN
 obtain⟨v0,v1⟩:=Dig_rd hu (K+N) (by omega)
 rw [←htop]at t0 t1
 have t1':top<4294967296:=t1
 have u1':rd u ((K+(N+1):Nat):Int)<4294967296:=u1
 have v1':rd u ((K+N:Nat):Int)<4294967296:=v1
 have T0:0≤T:=by omega
 have T1:T<18446744073709551616:=by omega
 have key:T/(top+1)*n≤R:=by
  have hg0:0≤T/(top+1):=Int.ediv_nonneg T0 (by omega)
  have hg1:T/(top+1)*(top+1)≤T:=Int.ediv_mul_le T (by omega)
  have s1:=vB_split B32 (u.drop K) N (by rw [List.length_drop];omega)
  rw [List.drop_drop,hR]at s1
  have p1:=vB_nonneg (Int.le_of_lt hB) (Dig_take (Dig_drop hu K) N)
  have s2:=drop_succ B32 u (K+N) (by omega)
  have s3:=drop_succ B32 u (K+(N+1)) hKN
  rw [show K+N+1=K+(N+1)by omega,s3]at s2
  have p2:=vB_nonneg (Int.le_of_lt hB) (Dig_drop hu (K+(N+1)+1))
  have hle:T≤vB B32 (u.drop (K+N)):=by
   rw [s2,hT]
   show _≤rd u ((K+N:Nat):Int)+4294967296*(rd u ((K+(N+1):Nat):Int)+4294967296*vB B32 (u.drop (K+(N+1)+1)))
   clear s1 s2 s3 hg1 hlt hge
   omega
  have hP:(0:Int)≤B32^N:=Int.le_of_lt (Int.pow_pos hB)
  have h1:=Int.mul_le_mul_of_nonneg_left hle hP
  have hn1:=vB_all B32 (d32 n) (N+1) (by omega)
  rw [take_succ,d32_val,←htop]at hn1
  have hn2:=vB_lt hB (Dig_take (d32_dig n) N)
  rw [List.length_take,Nat.min_eq_left (by omega)]at hn2
  have hn3:(n:Int)≤B32^N*(top+1):=by
   rw [Int.mul_add,Int.mul_one]
   generalize B32^N*top=A at*
   generalize(B32:Int)^N=P at*
   clear s1 s2 s3 hg1 hlt hge hle h1
   omega
  have h2:=Int.mul_le_mul_of_nonneg_left hn3 hg0
  have h3:=Int.mul_le_mul_of_nonneg_left hg1 hP
  have e:T/(top+1)*(B32^N*(top+1))=B32^N*(T/(top+1)*(top+1)):=Int.mul_left_comm _ _ _
  rw [e]at h2
  generalize B32^N*(T/(top+1)*(top+1))=A at*
  generalize B32^N*T=A2 at*
  generalize B32^N*vB B32 (u.drop (K+N))=A3 at*
  generalize T/(top+1)*(n:Int)=A4 at*
  clear s2 s3 hg1 hlt hge hle hn1 hn2 hn3 e
  omega
 have hall:1≤mx 1 (T/(top+1))∧mx 1 (T/(top+1))*n≤R:=by
  rcases mx_or 1 (T/(top+1))with⟨h,h'⟩| ⟨h,h'⟩
  ·rw [h,Int.one_mul]
   exact⟨Int.le_refl _,hge⟩
  ·rw [h]
   exact⟨h',key⟩
 refine⟨⟨T0,T1⟩,⟨t0,t1'⟩,hall.1,?_,hall.2⟩
 rcases Int.lt_or_le (mx 1 (T/(top+1))) B32 with h|h
 ·exact h
 ·exfalso
  have h1:=Int.mul_le_mul_of_nonneg_right h (show(0:Int)≤n by omega)
  rw [Int.mul_comm B32]at h1
  have:=hall.2
  clear hall key
  generalize mx 1 (T/(top+1))*(n:Int)=A at*
  generalize(n:Int)*B32=A2 at*
  omega
theorem rdiv_l1 {n N K Lu Lq:Nat} {V:Int} (hn:0<n) (hN:(d32 n).length=N+1) (hKN:K+(N+1)<Lu) (hKq:K<Lq) (lu:Lu≤1099511627776) {r:ByteArray×ByteArray}
  (next:∀u q:List Int,u.length=Lu→q.length=Lq→Dig B32 u→Dig B32 q→q.take K=List.replicate K 0→vB B32 u+n*vB B32 q=V→vB B32 (u.drop K)<n→Ev (fun k=>galoisref01_DivMod.l0 k (d32 n) ((N+1:Nat):Int) u q ((K:Int)-1)) r):
  ∀(R:Nat) (u q:List Int),u.length=Lu→q.length=Lq→Dig B32 u→Dig B32 q→q.take K=List.replicate K 0→vB B32 u+n*vB B32 q=V→vB B32 (u.drop K)=R→rd q (K:Int)*n+R<n*B32→Ev (fun k=>galoisref01_DivMod.l1 k (d32 n) ((N+1:Nat):Int) u q (K:Int)) r:=by
 intro R
 induction R using Nat.strongRecOn with
 |_ R ih=>
  intro u q hlu hlq hu hq hz hV hR hb
  have hbe:=below_ev (n:=n) (Dig_drop hu K) (by rw [List.length_drop];omega) hR (by omega)
  have c0:(K:Int)≤(u.length:Int):=by omega
  refine Ev.step (fun k=>galoisref01_DivMod.l1.eq_2 ..) ?_
  refine Ev.congr (fun k=>if_pos (Int.natCast_nonneg K)) (Ev.congr (fun k=>if_pos c0) ?_)
  refine Ev.bind hbe ?_
  have e0:wrap64 ((K:Int)-1)=(K:Int)-1:=by clear hV hb hR;exact w64 (by omega) (by omega)
  have c1:((K+(N+1):Nat):Int)<(u.length:Int):=by clear hV hb hR e0;omega
  have c2:((K+N:Nat):Int)<(u.length:Int):=by clear hV hb hR e0;omega
  have c3:(N:Int)<((d32 n).length:Int):=by clear hV hb hR e0;omega
  have c5:(K:Int)<(q.length:Int):=by clear hV hb hR e0;omega
  have cG:∀G:Int,rd q (K:Int)+G-rd q (K:Int)=G:=fun G=>by clear hV hb hR e0;omega
  by_cases hlt:R<n
  ·refine Ev.congr (fun k=>if_pos (decide_eq_true hlt)) ?_
   rw [e0]
   exact next u q hlu hlq hu hq hz hV (by rw [hR];exact Int.ofNat_lt.2 hlt)
  ·obtain⟨q0,q1⟩:=Dig_rd hq K (by omega)
   have hq0n:0≤rd q (K:Int)*n:=Int.mul_nonneg q0 (by omega)
   have hRB:(R:Int)<n*B32:=by
    generalize rd q (K:Int)*(n:Int)=A at*
    generalize(n:Int)*B32=A2 at*
    clear hV
    omega
   obtain⟨⟨T0,T1⟩,⟨p0,p1⟩,g1,gB,gR⟩:=rguess hn hN (by omega) hu hR (by omega) hRB rfl rfl
   obtain⟨T,hT⟩:∃T,T=rd u ((K+(N+1):Nat):Int)*4294967296+rd u ((K+N:Nat):Int):=⟨_,rfl⟩
   rw [←hT]at T0 T1 g1 gB gR
   obtain⟨top,htop⟩:∃top,top=rd (d32 n) (N:Int):=⟨_,rfl⟩
   rw [←htop]at p0 p1 g1 gB gR
   obtain⟨u0,u1⟩:=Dig_rd hu (K+(N+1)) (by omega)
   obtain⟨v0,v1⟩:=Dig_rd hu (K+N) (by omega)
   have u1':rd u ((K+(N+1):Nat):Int)<4294967296:=u1
   have q1':rd q (K:Int)<4294967296:=q1
   have e1:wrap64 ((K:Int)+((N+1:Nat):Int))=((K+(N+1):Nat):Int):=by clear hV hb hR hT htop e0;rw [w64 (by omega) (by omega)];omega
   have e2:wrap64 (((K+(N+1):Nat):Int)-1)=((K+N:Nat):Int):=by clear hV hb hR hT htop e0 e1;rw [w64 (by omega) (by omega)];omega
   have e3:wrap64 (((N+1:Nat):Int)-1)=(N:Int):=by clear hV hb hR hT htop e0 e1 e2;rw [w64 (by omega) (by omega)];omega
   have e4:IntKind.u64.wrap (top+1)=top+1:=by clear hV hb hR hT htop e0 e1 e2 e3;exact u64 (by omega) (by omega)
   have e5:IntKind.u64.wrap (rd u ((K+(N+1):Nat):Int)*4294967296)=rd u ((K+(N+1):Nat):Int)*4294967296:=by clear hV hb hR hT htop e0 e1 e2 e3 e4;exact u64 (by omega) (by omega)
   have e6:IntKind.u64.wrap T=T:=u64 T0 T1
   have d0:0≤T/(top+1):=Int.ediv_nonneg T0 (by clear hV hb hR hT htop e0 e1 e2 e3 e4 e5 e6;omega)
   have d1:T/(top+1)≤T:=Int.ediv_le_self _ T0
   have e7:IntKind.u64.wrap (Int.tdiv T (top+1))=T/(top+1):=by
    rw [Int.tdiv_eq_ediv_of_nonneg T0]
    exact u64 d0 (Int.lt_of_le_of_lt d1 T1)
   obtain⟨G,hG⟩:=Int.eq_ofNat_of_zero_le (show 0≤mx 1 (T/(top+1))from Int.le_trans (by decide) g1)
   rw [hG]at g1 gB gR
   have gB':(G:Int)<4294967296:=gB
   have gR':G*n≤R:=by
    apply Int.ofNat_le.1
    rw [Int.natCast_mul]
    exact gR
   have hGn:n≤G*n:=Nat.le_mul_of_pos_left _ (by clear hV hb hR hT htop e0 e1 e2 e3 e4 e5 e6 e7 hG gR gR';omega)
   have hnew:(rd q (K:Int)+G)*n+((R-G*n:Nat):Int)<n*B32:=by
    rw [Int.add_mul,Int.ofNat_sub gR',Int.natCast_mul]
    generalize rd q (K:Int)*(n:Int)=A at*
    generalize(G:Int)*(n:Int)=A3 at*
    generalize(n:Int)*B32=A2 at*
    clear hV e0 e1 e2 e3 e4 e5 e6 e7 hT htop hG
    omega
   have hdig:rd q (K:Int)+G<B32:=by
    rcases Int.lt_or_le (rd q (K:Int)+G) B32 with h|h
    ·exact h
    ·exfalso
     have h1:=Int.mul_le_mul_of_nonneg_right h (show(0:Int)≤n by omega)
     rw [Int.mul_comm B32]at h1
     generalize(rd q (K:Int)+G)*(n:Int)=A at*
     generalize(n:Int)*B32=A2 at*
     generalize R-G*n=A3 at*
     clear hV e0 e1 e2 e3 e4 e5 e6 e7 hT htop hG hb
     omega
   have hdig':rd q (K:Int)+G<4294967296:=hdig
   have e8:IntKind.u64.wrap (rd q (K:Int)+(G:Int))=rd q (K:Int)+G:=by clear hV hb hR hT htop e0 e1 e2 e3 e4 e5 e6 e7 hG;exact u64 (by omega) (by omega)
   have hyv:=d32_val n
   have k1:K+(N+1)<u.length:=by rw [hlu];exact hKN
   have k2:u.length≤1099511627776:=by rw [hlu];exact lu
   have hl2:=rdiv_l2 (u:=u) (y:=d32 n) (q:=q.set K (rd q (K:Int)+G)) (g:=G) (K:=K) (N:=N+1) hN k1 k2 hu (d32_dig n) (Int.natCast_nonneg G) gB (by rw [hyv,hR];exact gR) (by rw [hyv,hR];exact hRB) (r:=r) (by
    intro z hlz hdz hvz hvz2
    rw [hyv,hR]at hvz
    rw [hyv]at hvz2
    refine ih (R-G*n) (by clear hV hb hR hT htop e0 e1 e2 e3 e4 e5 e6 e7 e8 hG hvz hvz2 hnew;omega) z _ (hlz.trans hlu) (by rw [List.length_set];exact hlq) hdz (Dig_set hq K (Int.add_nonneg q0 (Int.natCast_nonneg G)) hdig) (by rw [take_set_far (Nat.le_refl K)];exact hz) ?_ ?_ ?_
    ·rw [vB_set _ _ _ _ (by rw [hlq];exact hKq),cG,Int.mul_add,Int.mul_left_comm (n:Int),Int.mul_comm (n:Int) (G:Int)]
     generalize B32^K*((G:Int)*(n:Int))=A at*
     generalize(n:Int)*vB B32 q=A2 at*
     clear hb hR hT htop e0 e1 e2 e3 e4 e5 e6 e7 e8 hG hnew
     omega
    ·rw [hvz,Int.ofNat_sub gR',Int.natCast_mul]
    ·rw [rd_set_self _ _ _ (by rw [hlq];exact hKq)]
     exact hnew) (N+1) 0 u 0 (Nat.zero_add _) ⟨rfl,hu,⟨by decide,by decide⟩,rfl,rfl,by simp [vB]⟩
   refine Ev.congr (fun k=>?_) hl2
   have c4:¬top+1=0:=Int.ne_of_gt (Int.lt_add_one_of_le p0)
   have c6:¬decide (R<n)=true:=by rw [decide_eq_true_eq];exact hlt
   rw [if_neg c6]
   simp only [e1,e2,e3,←htop,e4,e5,←hT,e6,e7,hG,e8,Int.toNat_natCast]
   rw [if_pos (Int.natCast_nonneg _),if_pos c1,if_pos (Int.natCast_nonneg _),if_pos c2,if_pos (Int.natCast_nonneg _),if_pos c3,if_neg c4,if_pos c5]
   rfl
theorem rdiv_l0 {n N m Lu Lq:Nat} (hn:0<n) (hN:(d32 n).length=N+1) (lu:Lu≤1099511627776) (lq:Lq≤1099511627776):∀(K:Nat) (u q:List Int),K≤Lq→(K=0∨K+(N+1)≤Lu)→u.length=Lu→q.length=Lq→Dig B32 u→Dig B32 q→q.take K=List.replicate K 0→vB B32 u+n*vB B32 q=m→vB B32 (u.drop K)<n→
  Ev (fun k=>galoisref01_DivMod.l0 k (d32 n) ((N+1:Nat):Int) u q ((K:Int)-1)) (nat (m/n),nat (m%n)):=by
 intro K
 induction K with
 |zero=>
  intro u q _ _ hlu hlq hu hq _ hV hR
  rw [List.drop_zero]at hR
  obtain⟨U,hU⟩:=Int.eq_ofNat_of_zero_le (vB_nonneg (show(0:Int)≤B32 by decide) hu)
  obtain⟨Q,hQ⟩:=Int.eq_ofNat_of_zero_le (vB_nonneg (show(0:Int)≤B32 by decide) hq)
  rw [hU]at hR hV
  rw [hQ]at hV
  have hm:m=U+n*Q:=by
   apply Int.ofNat_inj.1
   rw [Int.natCast_add,Int.natCast_mul]
   exact hV.symm
  have hUn:U<n:=Int.ofNat_lt.1 hR
  have pu:=rpack_ev hu (by omega)
  have pq:=rpack_ev hq (by omega)
  rw [hU,Int.toNat_natCast]at pu
  rw [hQ,Int.toNat_natCast]at pq
  have r1:m/n=Q:=by rw [hm,Nat.add_mul_div_left _ _ hn,Nat.div_eq_of_lt hUn,Nat.zero_add]
  have r2:m%n=U:=by rw [hm,Nat.add_mul_mod_self_left,Nat.mod_eq_of_lt hUn]
  rw [r1,r2]
  refine Ev.step (fun k=>galoisref01_DivMod.l0.eq_2 ..) ?_
  refine Ev.congr (fun k=>if_neg (by decide)) ?_
  exact Ev.bind pq (Ev.bind pu (Ev.now _))
 |succ K ih=>
  intro u q hK hK2 hlu hlq hu hq hz hV hR
  have hKN:K+(N+1)<Lu:=by omega
  have e0:((K+1:Nat):Int)-1=(K:Int):=by omega
  rw [e0]
  obtain⟨R,hR'⟩:=Int.eq_ofNat_of_zero_le (vB_nonneg (show(0:Int)≤B32 by decide) (Dig_drop hu K))
  have s:=drop_succ B32 u K (by omega)
  obtain⟨u0,u1⟩:=Dig_rd hu K (by omega)
  have hq0:rd q (K:Int)=0:=by
   rw [←rd_take q (K+1) K (by omega),hz,rd_replicate]
  have hz':q.take K=List.replicate K 0:=by
   have h:=congrArg (List.take K) hz
   rwa [List.take_take,Nat.min_eq_left (by omega),List.take_replicate,Nat.min_eq_left (by omega)]at h
  refine Ev.step (f:=fun k=>galoisref01_DivMod.l1 k (d32 n) ((N+1:Nat):Int) u q (K:Int)) (fun k=>(galoisref01_DivMod.l0.eq_2 ..).trans (if_pos (Int.natCast_nonneg K))) ?_
  refine rdiv_l1 (V:=m) hn hN hKN hK lu (fun u' q' h1 h2 h3 h4 h5 h6 h7=>ih u' q' (by omega) (Or.inr (by omega)) h1 h2 h3 h4 h5 h6 h7) R u q hlu hlq hu hq hz' hV hR' ?_
  rw [hq0,Int.zero_mul,←hR',s,Int.mul_comm (n:Int)]
  have h1:=Int.mul_le_mul_of_nonneg_left (show vB B32 (u.drop (K+1))+1≤n by omega) (show(0:Int)≤B32 by decide)
  rw [Int.mul_add,Int.mul_one]at h1
  generalize B32*vB B32 (u.drop (K+1))=A at*
  generalize B32*(n:Int)=A2 at*
  clear hV s hR hR'
  omega
theorem rDivMod_ev {m n:Nat} (hm:(nat m).size≤1099511627776) (hn:(nat n).size≤1099511627776):Ev (fun k=>galoisref01_DivMod.f k (nat m) (nat n)) (if n=0 then(⟨#[]⟩,⟨#[]⟩)else(nat (m/n),nat (m%n))):=by
 by_cases h0:n=0
 ·rw [if_pos h0]
  exact Ev.congr (fun k=>if_pos (nat_empty.2 h0)) (Ev.now _)
 ·rw [if_neg h0]
  refine Ev.congr (fun k=>if_neg (fun h=>h0 (nat_empty.1 h))) ?_
  refine Ev.bind (limbs_nat hm) (Ev.bind (limbs_nat hn) ?_)
  have lm:=limbs_len m
  have ln:=limbs_len n
  have hpos:=d32_pos (Nat.pos_of_ne_zero h0)
  obtain⟨N,hN⟩:∃N,(d32 n).length=N+1:=⟨(d32 n).length-1,by omega⟩
  have e1:mx 0 (wrap64 ((wrap64 (((d32 m).length:Int)-((d32 n).length:Int)))+1))=(((d32 m).length+1-(N+1):Nat):Int):=by
   rw [w64 (x:=((d32 m).length:Int)-((d32 n).length:Int)) (by omega) (by omega),w64 (by omega) (by omega)]
   rcases mx_or 0 (((d32 m).length:Int)-((d32 n).length:Int)+1)with⟨h,h'⟩| ⟨h,h'⟩<;>rw [h]<;>omega
  refine Ev.congr (fun k=>if_pos (show(d32 m).length<17592186044416 by omega)) ?_
  rw [e1]
  obtain⟨L,hL⟩:∃L,(d32 m).length+1-(N+1)=L:=⟨_,rfl⟩
  rw [hL]
  clear e1
  refine Ev.congr (fun k=>if_pos (Int.natCast_nonneg _)) (Ev.congr (fun k=>if_pos (show((L:Nat):Int).toNat≤35184372088832 by rw [Int.toNat_natCast];omega)) ?_)
  refine ev_some rfl ?_
  rw [Int.toNat_natCast,List.length_replicate,hN,w64 (by omega) (by omega)]
  refine rdiv_l0 (Lu:=(d32 m).length+1) (Lq:=L) (Nat.pos_of_ne_zero h0) hN (by omega) (by omega) L _ _ (Nat.le_refl _) (by omega) (by simp) (by simp) (Dig_append (d32_dig m) (Dig_cons.2 ⟨⟨by decide,by decide⟩,Dig_nil _⟩)) (Dig_replicate (by decide) L) (by simp) ?_ ?_
  ·rw [vB_append,vB_replicate,d32_val]
   simp [vB]
  ·have hx:vB B32 ((d32 m++[0]).drop L)=vB B32 ((d32 m).drop L):=by
    rcases Nat.lt_or_ge (d32 m).length L with h|h
    ·omega
    ·rw [List.drop_append_of_le_length h,vB_append]
     simp [vB]
   rw [hx]
   have t:=trim_le (by decide) (d32_dig n) (d32_trim n) hpos
   rw [d32_val]at t
   by_cases hl0:L=0
   ·rw [hl0,List.drop_zero,d32_val]
    have:=trim_len (by decide) (d32_dig m) (d32_dig n) (d32_trim n) (by omega)
    rwa [d32_val,d32_val]at this
   ·have h1:=vB_lt (show(0:Int)<B32 by decide) (Dig_drop (d32_dig m) L)
    rw [List.length_drop]at h1
    have e:(d32 m).length-L=(d32 n).length-1:=by omega
    rw [e]at h1
    exact Int.lt_of_lt_of_le h1 t
theorem rDivMod_ok {m n:Nat} (hm:(nat m).size≤1099511627776) (hn:(nat n).size≤1099511627776) (h0:n≠0):Ev (fun k=>galoisref01_DivMod.f k (nat m) (nat n)) (nat (m/n),nat (m%n)):=by
 have:=rDivMod_ev hm hn
 rwa [if_neg h0]at this
theorem rGcd_l0:∀(n m:Nat),(nat m).size≤1099511627776→(nat n).size≤1099511627776→Ev (fun k=>galoisref01_Gcd.l0 k (nat m) (nat n)) (nat (Nat.gcd m n)):=by
 intro n
 induction n using Nat.strongRecOn with
 |_ n ih=>
  intro m hm hn
  refine Ev.step (fun k=>galoisref01_Gcd.l0.eq_2 ..) ?_
  by_cases h:n=0
  ·subst h
   rw [Nat.gcd_zero_right]
   exact Ev.congr (fun k=>if_pos (nat_empty.2 rfl)) (Ev.now _)
  ·have hlt:=Nat.mod_lt m (Nat.pos_of_ne_zero h)
   have hs:=size_mono (Nat.le_of_lt hlt)
   have e:Nat.gcd m n=Nat.gcd n (m%n):=by rw [Nat.gcd_comm m n,Nat.gcd_rec n m,Nat.gcd_comm]
   rw [e]
   exact Ev.congr (fun k=>if_neg (fun h'=>h (nat_empty.1 h'))) (Ev.bind (rDivMod_ok hm hn h) (ih (m%n) hlt n hn (by omega)))
theorem rGcd_ev {m n:Nat} (hm:(nat m).size≤1099511627776) (hn:(nat n).size≤1099511627776):Ev (fun k=>galoisref01_Gcd.f k (nat m) (nat n)) (nat (Nat.gcd m n)):=rGcd_l0 n m hm hn
def ng (x:Int):Bool:=decide (x<0)
def ab (x:Int):ByteArray:=nat x.natAbs
def sg (s:Bool) (n:Nat):Int:=if s then -(n:Int)else n
theorem sg_true (n:Nat):sg true n= -(n:Int):=rfl
theorem sg_false (n:Nat):sg false n=(n:Int):=rfl
theorem ng_sg (s:Bool) (n:Nat):ng (sg s n)=(s&&!decide (n=0)):=by
 cases s
 ·exact decide_eq_false (by rw [sg_false];omega)
 ·by_cases h:n=0
  ·subst h
   rfl
  ·rw [decide_eq_false h]
   exact decide_eq_true (by rw [sg_true];omega)
theorem ab_sg (s:Bool) (n:Nat):ab (sg s n)=nat n:=by
 unfold ab
 cases s
 ·rw [sg_false,Int.natAbs_natCast]
 ·rw [sg_true,Int.natAbs_neg,Int.natAbs_natCast]
theorem ng_nat (n:Nat):ng (n:Int)=false:=decide_eq_false (by omega)
theorem ab_nat (n:Nat):ab (n:Int)=nat n:=by unfold ab;rw [Int.natAbs_natCast]
theorem ng_pos {x:Int} (h:0≤x):ng x=false:=decide_eq_false (by omega)
theorem ng_neg {x:Int} (h:x<0):ng x=true:=decide_eq_true h
theorem ab_size_zero {x:Int}:(ab x).size=0↔x=0:=by unfold ab;rw [nat_size_zero];omega
def ick (s:Bool) (a:ByteArray):Int:=if chk a=1 then 1 else if s=true∧a.size=0 then 1 else chk a
theorem rValid_eq (s:ByteArray):galoisref01_Valid.f s=some (decide (s.size=0∨bt s 0≠0)):=by
 unfold galoisref01_Valid.f
 by_cases h:s.size=0
 ·rw [if_pos (toList_nil.2 h)]
  simp [h]
 ·rw [if_neg (fun h'=>h (toList_nil.1 h')),if_pos (by omega)]
  by_cases h2:bt s 0=0<;>simp [h,h2]
theorem chk_one {a:ByteArray}:chk a=1↔¬(a.size=0∨bt a 0≠0):=by
 unfold chk
 by_cases h:0<a.size∧bt a 0=0
 ·rw [if_pos h]
  refine⟨fun _ h'=>?_,fun _=>rfl⟩
  rcases h' with h'|h'
  ·omega
  ·exact h' h.2
 ·rw [if_neg h]
  refine⟨fun h'=>?_,fun h'=>absurd ⟨Nat.pos_of_ne_zero fun h2=>h' (Or.inl h2),?_⟩ h⟩
  ·split at h'<;>exact absurd h' (by decide)
  ·rcases Decidable.em (bt a 0=0)with h2|h2
   ·exact h2
   ·exact absurd (Or.inr h2) h'
theorem chk_rest {a:ByteArray} (h:chk a≠1):chk a=if(a.size:Int)>1024 then 4 else 0:=by
 have h1:¬(0<a.size∧bt a 0=0):=fun h'=>h (by unfold chk;rw [if_pos h'])
 unfold chk
 rw [if_neg h1]
 by_cases h2:1024<a.size
 ·rw [if_pos h2,if_pos (by omega)]
 ·rw [if_neg h2,if_neg (by omega)]
theorem rFits1_eq (a:ByteArray):galoisref01_Fits.f a=some (if(a.size:Int)>1024 then 4 else 0):=by
 unfold galoisref01_Fits.f
 by_cases h:(a.size:Int)>1024
 ·rw [if_pos h,if_pos h]
 ·rw [if_neg h,if_neg h]
theorem rFits_eq (s:Bool) (a:ByteArray):galoisref02_Fits.f s a=some (if(a.size:Int)>1024 then 4 else 0):=by
 unfold galoisref02_Fits.f
 rw [rFits1_eq]
 rfl
theorem rValid2_eq (s:Bool) (a:ByteArray):galoisref02_Valid.f s a=some (decide ((a.size=0∨bt a 0≠0)∧¬(s=true∧a.size=0))):=by
 unfold galoisref02_Valid.f
 rw [rValid_eq,Option.bind_some]
 by_cases h:a.size=0∨bt a 0≠0
 ·rw [if_pos (decide_eq_true h)]
  cases s
  ·rw [if_neg Bool.false_ne_true]
   congr 1
   exact(decide_eq_true ⟨h,fun h'=>Bool.false_ne_true h'.1⟩).symm
  ·rw [if_pos rfl]
   congr 1
   by_cases h2:a.size=0
   ·rw [decide_eq_false (fun h'=>h'.2 ⟨rfl,h2⟩)]
    exact bne_eq_false_iff_eq.2 (toList_nil.2 h2)
   ·have e:(a.size=0∨bt a 0≠0)∧¬(true=true∧a.size=0):=⟨h,fun h'=>h2 h'.2⟩
    rw [decide_eq_true e]
    exact bne_iff_ne.2 (fun h'=>h2 (toList_nil.1 h'))
 ·rw [if_neg (by rw [decide_eq_true_eq];exact h),decide_eq_false (fun h'=>h h'.1)]
theorem ick_zero {s:Bool} {a:ByteArray} (h:ick s a=0):∃x:Int,s=ng x∧a=ab x∧(ab x).size≤1024:=by
 unfold ick at h
 by_cases h1:chk a=1
 ·rw [if_pos h1]at h
  exact absurd h (by decide)
 ·rw [if_neg h1]at h
  by_cases h2:s=true∧a.size=0
  ·rw [if_pos h2]at h
   exact absurd h (by decide)
  ·rw [if_neg h2]at h
   obtain⟨n,rfl,hn⟩:=number h
   refine⟨sg s n,?_,(ab_sg s n).symm,by rw [ab_sg];exact hn⟩
   rw [ng_sg]
   cases s
   ·rfl
   ·rw [Bool.true_and,decide_eq_false (fun h3=>h2 ⟨rfl,by rw [h3,nat_zero];rfl⟩)]
    rfl
theorem ick_int {x:Int} (h:(ab x).size≤1024):ick (ng x) (ab x)=0:=by
 unfold ick
 have hc:chk (ab x)=0:=chk_nat h
 rw [hc,if_neg (by decide),if_neg]
 rintro⟨h1,h2⟩
 have:=ab_size_zero.1 h2
 rw [this]at h1
 exact absurd h1 (by decide)
theorem empty_toList':(⟨#[]⟩:ByteArray).toList=([]:List UInt8):=toList_nil.2 rfl
theorem iCheck_ev (s:Bool) (a:ByteArray):Ev (fun k=>integer_Check.f k s a) (ick s a):=by
 refine Ev.bind (Check_ev a) ?_
 by_cases h1:chk a=1
 ·have e:ick s a=chk a:=by unfold ick;rw [if_pos h1,h1]
  rw [e]
  exact Ev.congr (fun k=>if_pos h1) (Ev.now _)
 ·refine Ev.congr (fun k=>if_neg h1) (ev_some (a:=(false,(⟨#[]⟩:ByteArray))) rfl ?_)
  by_cases h2:a.size=0
  ·have h3:a.toList=([]:List UInt8):=toList_nil.2 h2
   cases s
   ·have e:ick false a=chk a:=by unfold ick;rw [if_neg h1,if_neg (fun h=>Bool.false_ne_true h.1)]
    rw [e]
    exact Ev.congr (fun k=>if_neg (by rw [h3,empty_toList'];decide)) (Ev.now _)
   ·have e:ick true a=1:=by unfold ick;rw [if_neg h1,if_pos ⟨rfl,h2⟩]
    rw [e]
    exact Ev.congr (fun k=>if_pos rfl) (Ev.congr (fun k=>if_pos h3) (Ev.now _))
  ·have h3:a.toList≠([]:List UInt8):=fun h=>h2 (toList_nil.1 h)
   have e:ick s a=chk a:=by unfold ick;rw [if_neg h1,if_neg (fun h=>h2 h.2)]
   rw [e]
   by_cases h4:(!(s==false)||(!(a.toList==(⟨#[]⟩:ByteArray).toList)))=true
   ·exact Ev.congr (fun k=>if_pos h4) (Ev.congr (fun k=>if_neg h3) (Ev.now _))
   ·exact Ev.congr (fun k=>if_neg h4) (Ev.now _)
def ibnd (x:Int):Bool×ByteArray×Int:=if((ab x).size:Int)>1024 then(false,⟨#[]⟩,4)else(ng x,ab x,0)
theorem ibnd_ok {x:Int} (h:(ab x).size≤1024):ibnd x=(ng x,ab x,0):=if_neg (by omega)
end Go.Proofs.YtjllholdppjllaaGreatN
set_option maxRecDepth 100000
namespace Go.Proofs.YtjllholdppjllaaGreatV
open Go Go.RowKit YtjllholdppjllaaGreat YtjllholdppjllaaGreatE YtjllholdppjllaaGreatN YtjllholdppjllaaGreat.All YtjllholdppjllaaGreatW.PrintWords YtjllholdppjllaaGreatW.PrintLast YtjllholdppjllaaGreatW.PrintMore
abbrev Ya:= @cnd_eq_if
abbrev Yb:= @bind_some_
abbrev Yc:= @if_true
abbrev Yd:= @if_false
abbrev Ye:= @ne_eq
abbrev Yf:= @not_true_eq_false
abbrev Yg:= @not_false_eq_true
abbrev Yh:= @Bool.not_true
abbrev Yi:= @Bool.not_false
abbrev Yj:= @Bool.false_eq_true
abbrev Yk:= @Bool.not_eq_true'
abbrev Yl:= @bfalse
abbrev Ym:= @ite_not
abbrev Yn:= @eq_self
abbrev Yo:= @Bool.and_eq_true
abbrev Yp:= @Bool.or_eq_true
abbrev Yq:= @ite_and_
abbrev Yr:= @ite_or_
abbrev Ys:= @and_self
abbrev Yt:= @decide_true
abbrev Yu:= @decide_false
abbrev Yv:= @Bool.true_and
abbrev Yw:= @Bool.and_true
abbrev Yx:= @beq_self_eq_true
abbrev Yy:= @decide_eq_true_eq
abbrev Yz:= @gt_iff_lt
abbrev YA:= @ge_iff_le
abbrev YB:= @Int.neg_eq_zero
theorem evC {α:Type _} {f:Nat→Option α} {a:α} {Q:Nat→Prop}:Ev f a→(∃K,∀k,K≤k→Q k)→∃K,∀k,K≤k→f k=some a∧Q k:=fun⟨K,h⟩ ⟨L,g⟩=>⟨K+L,fun k hk=>⟨h k (by omega),g k (by omega)⟩⟩
theorem evE {α:Type _} {f:Nat→Option α} {a:α} {Q:Nat→Prop}:(∃K,∀k,K≤k→Q k)→(∀k,Q k→f k=some a)→Ev f a:=fun⟨K,h⟩ g=>⟨K,fun k hk=>g k (h k hk)⟩
def fr (q:Rat):TI×ByteArray:=((ng q.num,ab q.num),nat q.den)
theorem nat1:nat 1=⟨#[1]⟩:=by decide +kernel
theorem nat0:nat 0=⟨#[]⟩:=by decide +kernel
theorem ba_inj {a b:ByteArray}:a.toList=b.toList↔a=b:=by
 constructor
 ·intro h
  rw [ByteArray.toList_eq,ByteArray.toList_eq]at h
  cases a;cases b
  simp only [ByteArray.mk.injEq]
  exact Array.toList_inj.1 h
 ·intro h;rw [h]
theorem e_nat (m n:Nat):((nat m).toList==(nat n).toList)=decide (m=n):=by
 rw [Bool.eq_iff_iff,beq_iff_eq,decide_eq_true_eq,ba_inj,nat_inj]
theorem e_one (m:Nat):((nat m).toList==(⟨#[1]⟩:ByteArray).toList)=decide (m=1):=by rw [←nat1,e_nat]
theorem e_nil (m:Nat):((nat m).toList==(⟨#[]⟩:ByteArray).toList)=decide (m=0):=by rw [←nat0,e_nat]
theorem size_div_ (m n:Nat):(nat (m/n)).size≤(nat m).size:=size_mono (Nat.div_le_self m n)
def Sm (n:Nat) (q:Rat):Prop:=(ab q.num).size≤n∧(nat q.den).size≤n
theorem sz_add {x y:Int} {n:Nat} (hx:(ab x).size≤n) (hy:(ab y).size≤n):(ab (x+y)).size≤n+1:=by
 unfold ab at*
 rw [nat_size_le]at*
 have:=Int.natAbs_add_le x y
 rw [Nat.pow_succ]
 omega
theorem sz_neg {x:Int}:(ab (-x)).size=(ab x).size:=by unfold ab;rw [Int.natAbs_neg]
theorem sz_nmul {x y:Nat} {m n:Nat} (hx:(nat x).size≤m) (hy:(nat y).size≤n):(nat (x*y)).size≤m+n:=by
 rw [nat_size_le]at*
 rw [Nat.pow_add]
 exact Nat.mul_lt_mul'' hx hy
theorem sz_mul {x y:Int} {m n:Nat} (hx:(ab x).size≤m) (hy:(ab y).size≤n):(ab (x*y)).size≤m+n:=by
 unfold ab at*
 rw [Int.natAbs_mul]
 exact sz_nmul hx hy
section
variable {a b:Rat}
theorem Sm.neg {n:Nat} (h:Sm n a):Sm n (-a):=⟨by rw [Rat.neg_num,sz_neg];exact h.1,h.2⟩
end
abbrev FV:=TI×ByteArray
def rck (x:FV):Int:=if ick x.1.1 x.1.2=1∨chk x.2=1∨x.2.size=0 then 1 else if ick x.1.1 x.1.2≠0∨chk x.2≠0 then 4 else
 if Nat.gcd (bval x.1.2).toNat (bval x.2).toNat=1 then 0 else 1
theorem chk_cases (a:ByteArray):chk a=0∨chk a=1∨chk a=4:=by
 unfold chk
 split
 ·exact Or.inr (Or.inl rfl)
 ·split
  ·exact Or.inr (Or.inr rfl)
  ·exact Or.inl rfl
theorem ick_cases (s:Bool) (a:ByteArray):ick s a=0∨ick s a=1∨ick s a=4:=by
 unfold ick
 split
 ·exact Or.inr (Or.inl rfl)
 ·split
  ·exact Or.inr (Or.inl rfl)
  ·exact chk_cases a
theorem bval_n (n:Nat):(bval (nat n)).toNat=n:=by rw [Go.Proofs.YtjllholdppjllaaGreatN.bval_nat];exact Int.toNat_natCast n
theorem rck_fr {a:Rat} (h:Sm 1024 a):rck (fr a)=0:=by
 unfold rck fr
 have h1:=ick_int h.1
 have h2:=chk_nat h.2
 simp only
 rw [if_neg,if_neg,if_pos]
 ·have:=a.reduced
  show Nat.gcd (bval (nat a.num.natAbs)).toNat (bval (nat a.den)).toNat=1
  rw [bval_n,bval_n];exact this
 ·rw [h1,h2];simp
 ·rw [h1,h2]
  have h3:(nat a.den).size≠0:=fun e=>a.den_nz (nat_size_zero.1 e)
  simp [h3]
theorem rck_zero {x:FV} (h:rck x=0):∃a:Rat,x=fr a∧Sm 1024 a:=by
 unfold rck at h
 split at h
 ·cases h
 ·rename_i c1
  split at h
  ·cases h
  ·rename_i c2
   split at h
   ·rename_i c3
    rw [not_or,Decidable.not_not,Decidable.not_not]at c2
    obtain⟨z,e1,e2,e3⟩:=ick_zero c2.1
    obtain⟨f1,f2⟩:=chk_zero c2.2
    have hd:(bval x.2).toNat≠0:=fun e=>c1 (Or.inr (Or.inr (by rw [f1,e];exact nat_size_zero.2 rfl)))
    have hr:Nat.gcd z.natAbs (bval x.2).toNat=1:=by
     have:(bval x.1.2).toNat=z.natAbs:=by rw [e2];exact bval_n _
     rw [←this];exact c3
    refine⟨⟨z,(bval x.2).toNat,hd,hr⟩,?_,e3,by rw [←f1];exact f2⟩
    show x=((ng z,ab z),nat (bval x.2).toNat)
    rw [←f1,←e1,←e2]
   ·cases h
theorem rck_cases (x:FV):((ick x.1.1 x.1.2=1∨chk x.2=1∨x.2.size=0)∧rck x=1)∨
  (¬(ick x.1.1 x.1.2=1∨chk x.2=1∨x.2.size=0)∧(ick x.1.1 x.1.2=4∨ick x.1.1 x.1.2=0∧chk x.2=4)∧rck x=4)∨
  (∃(z:Int) (d:Nat),x=((ng z,ab z),nat d)∧d≠0∧(ab z).size≤1024∧(nat d).size≤1024∧rck x=if Nat.gcd z.natAbs d=1 then 0 else 1):=by
 by_cases c1:ick x.1.1 x.1.2=1∨chk x.2=1∨x.2.size=0
 ·exact Or.inl ⟨c1,if_pos c1⟩
 ·by_cases c2:ick x.1.1 x.1.2≠0∨chk x.2≠0
  ·refine Or.inr (Or.inl ⟨c1,?_,by unfold rck;rw [if_neg c1,if_pos c2]⟩)
   rw [not_or,not_or]at c1
   rcases ick_cases x.1.1 x.1.2 with h|h|h
   ·rcases chk_cases x.2 with g|g|g
    ·rw [h,g]at c2;simp at c2
    ·exact absurd g c1.2.1
    ·exact Or.inr ⟨h,g⟩
   ·exact absurd h c1.1
   ·exact Or.inl h
  ·have c2':=c2
   rw [not_or,Decidable.not_not,Decidable.not_not]at c2'
   obtain⟨z,e1,e2,e3⟩:=ick_zero c2'.1
   obtain⟨f1,f2⟩:=chk_zero c2'.2
   have hd:(bval x.2).toNat≠0:=fun e=>c1 (Or.inr (Or.inr (by rw [f1,e];exact nat_size_zero.2 rfl)))
   have hb:(bval x.1.2).toNat=z.natAbs:=by rw [e2];exact bval_n _
   refine Or.inr (Or.inr ⟨z,(bval x.2).toNat,by rw [←f1,←e1,←e2],hd,e3,by rw [←f1];exact f2,?_⟩)
   unfold rck;rw [if_neg c1,if_neg c2,hb]
theorem e_size (d:ByteArray):(d.toList==(⟨#[]⟩:ByteArray).toList)=decide (d.size=0):=by
 rw [Bool.eq_iff_iff,beq_iff_eq,decide_eq_true_eq,empty_toList,toList_nil]
theorem rCk_ev (x:FV):Ev (fun k=>FX34 k x) (rck x):=by
 have h1:=iCheck_ev x.1.1 x.1.2
 have h2:=Go.Proofs.YtjllholdppjllaaGreatN.Check_ev x.2
 rcases rck_cases x with⟨c,e⟩| ⟨c,c2,e⟩| ⟨z,d,rfl,hd,hz,hs,e⟩
 ·rw [e]
  by_cases c1:ick x.1.1 x.1.2=1
  ·refine evE (evC h1 h2) ?_
   rintro k ⟨h1,h2⟩
   try dsimp only [fr]at h1 h2
   show FX34 _ _=_
   unfold FX34 B34
   simp only [fr,FX83,FX84,FX85,Ya,Yb,Yc,Yd,Ye,Yf,Yg,Yh,Yi,Yj,Int.reduceEq,reduceCtorEq,Yk,Yl,Ym,Yn,Yo,Yp,Yq,Yr,Ys,Yt,Yu,Yv,Yw,Yx,Yy,Yz,YA,YB,h1,h2,c1]
  ·by_cases c2:chk x.2=1
   ·refine evE (evC h1 h2) ?_
    rintro k ⟨h1,h2⟩
    try dsimp only [fr]at h1 h2
    show FX34 _ _=_
    unfold FX34 B34
    simp only [fr,FX83,FX84,FX85,Ya,Yb,Yc,Yd,Ye,Yf,Yg,Yh,Yi,Yj,Int.reduceEq,reduceCtorEq,Yk,Yl,Ym,Yn,Yo,Yp,Yq,Yr,Ys,Yt,Yu,Yv,Yw,Yx,Yy,Yz,YA,YB,h1,h2,c1,c2,ite_self]
   ·have c3:x.2.size=0:=by rcases c with c|c|c;exact absurd c c1;exact absurd c c2;exact c
    refine evE (evC h1 h2) ?_
    rintro k ⟨h1,h2⟩
    try dsimp only [fr]at h1 h2
    show FX34 _ _=_
    unfold FX34 B34
    simp only [fr,FX83,FX84,FX85,Ya,Yb,Yc,Yd,Ye,Yf,Yg,Yh,Yi,Yj,Int.reduceEq,reduceCtorEq,Yk,Yl,Ym,Yn,Yo,Yp,Yq,Yr,Ys,Yt,Yu,Yv,Yw,Yx,Yy,Yz,YA,YB,h1,h2,c1,c2,c3,e_size]
 ·rw [not_or,not_or]at c
  rw [e]
  rcases c2 with c2| ⟨c2,c3⟩
  ·have c1:=c.2.1
   have c4:=c.2.2
   refine evE (evC h1 h2) ?_
   rintro k ⟨h1,h2⟩
   try dsimp only [fr]at h1 h2
   show FX34 _ _=_
   unfold FX34 B34
   simp only [fr,FX83,FX84,FX85,Ya,Yb,Yc,Yd,Ye,Yf,Yg,Yh,Yi,Yj,Int.reduceEq,reduceCtorEq,Yk,Yl,Ym,Yn,Yo,Yp,Yq,Yr,Ys,Yt,Yu,Yv,Yw,Yx,Yy,Yz,YA,YB,h1,h2,c1,c2,c4,e_size]
  ·have c4:=c.2.2
   refine evE (evC h1 h2) ?_
   rintro k ⟨h1,h2⟩
   try dsimp only [fr]at h1 h2
   show FX34 _ _=_
   unfold FX34 B34
   simp only [fr,FX83,FX84,FX85,Ya,Yb,Yc,Yd,Ye,Yf,Yg,Yh,Yi,Yj,Int.reduceEq,reduceCtorEq,Yk,Yl,Ym,Yn,Yo,Yp,Yq,Yr,Ys,Yt,Yu,Yv,Yw,Yx,Yy,Yz,YA,YB,h1,h2,c2,c3,c4,e_size]
 ·rw [e]
  have h3:=NatGcd_ev (m:=z.natAbs) (n:=d) (Nat.le_trans hz (by decide)) (Nat.le_trans hs (by decide))
  have h3':Ev (fun k=>exact_NatGcd.f k (ab z) (nat d)) _:=h3
  dsimp only at h1 h2
  rw [ick_int hz]at h1
  rw [chk_nat hs]at h2
  by_cases c:d=1
  ·subst c
   have e1:Nat.gcd z.natAbs 1=1:=Nat.gcd_one_right _
   refine evE (evC h1 h2) ?_
   rintro k ⟨h1,h2⟩
   try dsimp only [fr]at h1 h2
   show FX34 _ _=_
   unfold FX34 B34
   simp only [fr,FX83,FX84,FX85,Ya,Yb,Yc,Yd,Ye,Yf,Yg,Yh,Yi,Yj,Int.reduceEq,reduceCtorEq,Yk,Yl,Ym,Yn,Yo,Yp,Yq,Yr,Ys,Yt,Yu,Yv,Yw,Yx,Yy,Yz,YA,YB,h1,h2,e_one,e_nil,e1]
  ·by_cases c5:Nat.gcd z.natAbs d=1
   ·refine evE (evC h1 (evC h2 h3')) ?_
    rintro k ⟨h1,h2,h3'⟩
    try dsimp only [fr]at h1 h2 h3'
    show FX34 _ _=_
    unfold FX34 B34
    simp only [fr,FX83,FX84,FX85,Ya,Yb,Yc,Yd,Ye,Yf,Yg,Yh,Yi,Yj,Int.reduceEq,reduceCtorEq,Yk,Yl,Ym,Yn,Yo,Yp,Yq,Yr,Ys,Yt,Yu,Yv,Yw,Yx,Yy,Yz,YA,YB,h1,h2,h3',e_one,e_nil,hd,c,c5]
   ·refine evE (evC h1 (evC h2 h3')) ?_
    rintro k ⟨h1,h2,h3'⟩
    try dsimp only [fr]at h1 h2 h3'
    show FX34 _ _=_
    unfold FX34 B34
    simp only [fr,FX83,FX84,FX85,Ya,Yb,Yc,Yd,Ye,Yf,Yg,Yh,Yi,Yj,Int.reduceEq,reduceCtorEq,Yk,Yl,Ym,Yn,Yo,Yp,Yq,Yr,Ys,Yt,Yu,Yv,Yw,Yx,Yy,Yz,YA,YB,h1,h2,h3',e_one,e_nil,hd,c,c5]
theorem RCk_ev (x:FV):Ev (fun k=>FX16 k x) (rck x):=by
 have f1:=rValid2_eq x.1.1 x.1.2
 have f2:=rValid_eq x.2
 have f3:=rFits_eq x.1.1 x.1.2
 have f4:=rFits1_eq x.2
 have k1:decide ((x.1.2.size=0∨bt x.1.2 0≠0)∧¬(x.1.1=true∧x.1.2.size=0))=!decide (ick x.1.1 x.1.2=1):=by
  rw [Bool.eq_iff_iff,decide_eq_true_eq,Bool.not_eq_true',decide_eq_false_iff_not]
  unfold ick
  by_cases g:chk x.1.2=1
  ·rw [if_pos g]
   have:=chk_one.1 g
   exact⟨fun q=>absurd q.1 this,fun q=>absurd rfl q⟩
  ·rw [if_neg g]
   have g2:x.1.2.size=0∨bt x.1.2 0≠0:=Decidable.not_not.1 fun q=>g (chk_one.2 q)
   by_cases g3:x.1.1=true∧x.1.2.size=0
   ·rw [if_pos g3];exact⟨fun q=>absurd g3 q.2,fun q=>absurd rfl q⟩
   ·rw [if_neg g3];exact⟨fun _=>g,fun _=>⟨g2,g3⟩⟩
 have k2:decide (x.2.size=0∨bt x.2 0≠0)=!decide (chk x.2=1):=by
  rw [Bool.eq_iff_iff,decide_eq_true_eq,Bool.not_eq_true',decide_eq_false_iff_not]
  constructor
  ·intro q r;exact chk_one.1 r q
  ·intro q;exact Decidable.not_not.1 fun r=>q (chk_one.2 r)
 rw [k1]at f1
 rw [k2]at f2
 rcases rck_cases x with⟨c,e⟩| ⟨c,c2,e⟩| ⟨z,d,rfl,hd,hz,hs,e⟩
 ·rw [e]
  have f5:FX63=FX63:=rfl
  by_cases c1:ick x.1.1 x.1.2=1
  ·refine⟨0,fun k _=>?_⟩
   show FX16 _ _=_
   unfold FX16 B16
   simp only [fr,FX61,FX62,FX64,Ya,Yb,Yc,Yd,Ye,Yf,Yg,Yh,Yi,Yj,Int.reduceEq,reduceCtorEq,Yk,Yl,Ym,Yn,Yo,Yp,Yq,Yr,Ys,Yt,Yu,Yv,Yw,Yx,Yy,Yz,YA,YB,f1,c1]
  ·by_cases c2:chk x.2=1
   ·refine⟨0,fun k _=>?_⟩
    show FX16 _ _=_
    unfold FX16 B16
    simp only [fr,FX61,FX62,FX64,Ya,Yb,Yc,Yd,Ye,Yf,Yg,Yh,Yi,Yj,Int.reduceEq,reduceCtorEq,Yk,Yl,Ym,Yn,Yo,Yp,Yq,Yr,Ys,Yt,Yu,Yv,Yw,Yx,Yy,Yz,YA,YB,f1,f2,c1,c2]
   ·have c3:x.2.size=0:=by rcases c with c|c|c;exact absurd c c1;exact absurd c c2;exact c
    refine⟨0,fun k _=>?_⟩
    show FX16 _ _=_
    unfold FX16 B16
    simp only [fr,FX61,FX62,FX64,Ya,Yb,Yc,Yd,Ye,Yf,Yg,Yh,Yi,Yj,Int.reduceEq,reduceCtorEq,Yk,Yl,Ym,Yn,Yo,Yp,Yq,Yr,Ys,Yt,Yu,Yv,Yw,Yx,Yy,Yz,YA,YB,f1,f2,c1,c2,c3,e_size]
 ·rw [e]
  rw [not_or,not_or]at c
  have c1:=c.1
  have c3:=c.2.1
  have c4:=c.2.2
  have hf:Ev (fun k=>FX63 k x) 4:=by
   by_cases g:(x.1.2.size:Int)>1024
   ·rw [if_pos g]at f3
    refine⟨0,fun k _=>?_⟩
    show FX63 _ _=_
    unfold FX63 B63
    simp only [fr,FX65,FX117,Ya,Yb,Yc,Yd,Ye,Yf,Yg,Yh,Yi,Yj,Int.reduceEq,reduceCtorEq,Yk,Yl,Ym,Yn,Yo,Yp,Yq,Yr,Ys,Yt,Yu,Yv,Yw,Yx,Yy,Yz,YA,YB,f3]
   ·rw [if_neg g]at f3
    have g2:(x.2.size:Int)>1024:=by
     rcases c2 with c2| ⟨c2,c5⟩
     ·exfalso
      unfold ick at c2 c1
      split at c2
      ·cases c2
      ·split at c2
       ·cases c2
       ·rename_i q1 q2
        rw [chk_rest q1,if_neg g]at c2;cases c2
     ·rw [chk_rest c3]at c5
      split at c5
      ·assumption
      ·cases c5
    rw [if_pos g2]at f4
    refine⟨0,fun k _=>?_⟩
    show FX63 _ _=_
    unfold FX63 B63
    simp only [fr,FX65,FX117,Ya,Yb,Yc,Yd,Ye,Yf,Yg,Yh,Yi,Yj,Int.reduceEq,reduceCtorEq,Yk,Yl,Ym,Yn,Yo,Yp,Yq,Yr,Ys,Yt,Yu,Yv,Yw,Yx,Yy,Yz,YA,YB,f3,f4]
  refine evE hf ?_
  rintro k hf
  try dsimp only [fr]at hf
  show FX16 _ _=_
  unfold FX16 B16
  simp only [fr,FX61,FX62,FX64,Ya,Yb,Yc,Yd,Ye,Yf,Yg,Yh,Yi,Yj,Int.reduceEq,reduceCtorEq,Yk,Yl,Ym,Yn,Yo,Yp,Yq,Yr,Ys,Yt,Yu,Yv,Yw,Yx,Yy,Yz,YA,YB,hf,f1,f2,c1,c3,c4,e_size]
 ·rw [e]
  have h3:=rGcd_ev (m:=z.natAbs) (n:=d) (Nat.le_trans hz (by decide)) (Nat.le_trans hs (by decide))
  have h3':Ev (fun k=>galoisref01_Gcd.f k (ab z) (nat d)) _:=h3
  dsimp only at f1 f2 f3 f4
  rw [ick_int hz]at f1
  rw [chk_nat hs]at f2
  have g1:¬((ab z).size:Int)>1024:=by omega
  have g2:¬((nat d).size:Int)>1024:=by omega
  rw [if_neg g1]at f3
  rw [if_neg g2]at f4
  have hf:Ev (fun k=>FX63 k ((ng z,ab z),nat d)) 0:=by
   refine⟨0,fun k _=>?_⟩
   show FX63 _ _=_
   unfold FX63 B63
   simp only [fr,FX65,FX117,Ya,Yb,Yc,Yd,Ye,Yf,Yg,Yh,Yi,Yj,Int.reduceEq,reduceCtorEq,Yk,Yl,Ym,Yn,Yo,Yp,Yq,Yr,Ys,Yt,Yu,Yv,Yw,Yx,Yy,Yz,YA,YB,f3,f4]
  by_cases c5:Nat.gcd z.natAbs d=1
  ·refine evE (evC hf h3') ?_
   rintro k ⟨hf,h3'⟩
   try dsimp only [fr]at hf h3'
   show FX16 _ _=_
   unfold FX16 B16
   simp only [fr,FX61,FX62,FX64,Ya,Yb,Yc,Yd,Ye,Yf,Yg,Yh,Yi,Yj,Int.reduceEq,reduceCtorEq,Yk,Yl,Ym,Yn,Yo,Yp,Yq,Yr,Ys,Yt,Yu,Yv,Yw,Yx,Yy,Yz,YA,YB,hf,h3',f1,f2,e_one,e_nil,hd,c5]
  ·refine evE (evC hf h3') ?_
   rintro k ⟨hf,h3'⟩
   try dsimp only [fr]at hf h3'
   show FX16 _ _=_
   unfold FX16 B16
   simp only [fr,FX61,FX62,FX64,Ya,Yb,Yc,Yd,Ye,Yf,Yg,Yh,Yi,Yj,Int.reduceEq,reduceCtorEq,Yk,Yl,Ym,Yn,Yo,Yp,Yq,Yr,Ys,Yt,Yu,Yv,Yw,Yx,Yy,Yz,YA,YB,hf,h3',f1,f2,e_one,e_nil,hd,c5]
def rerr (e:Int):TI×ByteArray×Int:=((false,⟨#[]⟩),⟨#[]⟩,e)
theorem len1 (x:FV):(([x]:List FV).length:Int)=1:=rfl
theorem len2 (x y:FV):(([x,y]:List FV).length:Int)=2:=rfl
theorem Sm.mono {m n:Nat} {a:Rat} (h:Sm m a) (hmn:m≤n):Sm n a:=⟨Nat.le_trans h.1 hmn,Nat.le_trans h.2 hmn⟩
theorem Sm.mk_ {n:Int} {d s:Nat} (hn:(ab n).size≤s) (hd:(nat d).size≤s) (h0:d≠0):Sm s (mkRat n d):=by
 have hg:Nat.gcd d n.natAbs≠0:=fun e=>h0 (Nat.gcd_eq_zero_iff.1 e).1
 constructor
 ·rw [Rat.num_mkRat,if_neg h0]
  obtain⟨c,hc⟩:=Nat.gcd_dvd_right d n.natAbs
  have hi:∃z:Int,n=(Nat.gcd d n.natAbs:Int)*z:=by
   have:(Nat.gcd d n.natAbs:Int)∣n:=Int.dvd_natAbs.1 (Int.natCast_dvd_natCast.2 (Nat.gcd_dvd_right d n.natAbs))
   exact this
  obtain⟨z,hz⟩:=hi
  have e:n/(Nat.gcd d n.natAbs:Int)=z:=by
   conv=>lhs;lhs;rw [hz]
   exact Int.mul_ediv_cancel_left _ (by omega)
  rw [e]
  refine Nat.le_trans (size_mono ?_) hn
  have:n.natAbs=Nat.gcd d n.natAbs*z.natAbs:=by
   conv=>lhs;rw [hz]
   rw [Int.natAbs_mul,Int.natAbs_natCast]
  rw [this]
  exact Nat.le_mul_of_pos_left _ (Nat.pos_of_ne_zero hg)
 ·rw [Rat.den_mkRat,if_neg h0]
  exact Nat.le_trans (size_div_ _ _) hd
section
variable {a b:Rat} {m n:Nat}
theorem Sm.add (ha:Sm m a) (hb:Sm n b):Sm (m+n+1) (a+b):=by
 rw [Rat.add_def']
 refine Sm.mk_ (sz_add (sz_mul ha.1 (n:=n) (by rw [ab_nat];exact hb.2)) (Nat.le_trans (sz_mul hb.1 (n:=m) (by rw [ab_nat];exact ha.2)) (by omega))) (Nat.le_trans (sz_nmul ha.2 hb.2) (by omega)) (Nat.mul_ne_zero a.den_nz b.den_nz)
theorem Sm.sub (ha:Sm m a) (hb:Sm n b):Sm (m+n+1) (a-b):=by rw [Rat.sub_eq_add_neg];exact ha.add hb.neg
theorem Sm.mul (ha:Sm m a) (hb:Sm n b):Sm (m+n) (a*b):=by
 rw [Rat.mul_def']
 exact Sm.mk_ (sz_mul ha.1 hb.1) (sz_nmul ha.2 hb.2) (Nat.mul_ne_zero a.den_nz b.den_nz)
def okv (q:Rat):TI×ByteArray×Int:=((ng q.num,ab q.num),nat q.den,0)
end
def lng (x y:FV) (n:Nat):Bool:=decide (n<x.1.2.size∨n<x.2.size∨n<y.1.2.size∨n<y.2.size)
theorem lng_ev (x y:FV) (n:Nat):Ev (fun k=>FX11 k x y (n:Int)) (lng x y n):=by
 refine⟨0,fun k _=>?_⟩
 show FX11 _ _ _ _=_
 unfold FX11 B11 lng
 have c:∀s:Nat,((s:Int)>(n:Int))=(n<s):=fun s=>propext ⟨fun h=>by omega,fun h=>by omega⟩
 simp only [c]
 by_cases h1:n<x.1.2.size
 ·simp only [h1,if_true,true_or,decide_true]
 ·by_cases h2:n<x.2.size
  ·simp only [h1,h2,if_true,if_false,true_or,or_true,false_or,decide_true]
  ·by_cases h3:n<y.1.2.size
   ·simp only [h1,h2,h3,if_true,if_false,true_or,or_true,false_or,decide_true]
   ·simp only [h1,h2,h3,if_false,false_or]
theorem lng_sm {a b:Rat} {n:Nat} (h:lng (fr a) (fr b) n=false):Sm n a∧Sm n b:=by
 unfold lng at h
 have h2:=of_decide_eq_false h
 unfold fr at h2
 simp only at h2
 unfold Sm
 omega
def minus (d:ByteArray):ByteArray:=(⟨#[45]⟩:ByteArray)++d
theorem minus_size (d:ByteArray):(minus d).size=1+d.size:=by
 unfold minus;rw [ByteArray.size_append];rfl
theorem minus_data (d:ByteArray):(minus d).data= #[45]++d.data:=by unfold minus;rw [ByteArray.data_append]
theorem minus_bt (d:ByteArray):bt (minus d) 0=45:=by
 have h:(0:Int).toNat<(minus d).size:=by show 0<(minus d).size;rw [minus_size];omega
 unfold bt
 rw [dif_pos h]
 have e:(minus d)[(0:Int).toNat]'h=45:=by
  have e1:(minus d)[(0:Int).toNat]'h=(minus d).data[(0:Int).toNat]'h:=rfl
  rw [e1]
  have e2:∀(x:Array UInt8) (hx:(0:Int).toNat<x.size),x= #[45]++d.data→x[(0:Int).toNat]'hx=45:=by
   intro x hx e;subst e;simp
  exact e2 _ _ (minus_data d)
 rw [e];rfl
theorem minus_tail (d:ByteArray):(minus d).extract 1 (minus d).size=d:=by
 apply ByteArray.ext
 rw [ByteArray.data_extract,minus_data,minus_size]
 apply Array.ext'
 rw [Array.toList_extract,Array.toList_append]
 show List.take (1+d.size-1) d.data.toList=d.data.toList
 rw [show 1+d.size-1=d.data.toList.length by rw [Array.length_toList];show 1+d.data.size-1=_;omega,List.take_length]
def txI (x:Int):ByteArray:=if x<0 then minus (dec x.natAbs)else dec x.natAbs
theorem dec_size {n:Nat} (h:(nat n).size≤1024):(dec n).size≤3072:=by
 obtain⟨_,_,_,h4⟩:=dec_digits n
 have h5:=d10_len h
 rw [h4]
 split<;>omega
theorem iFormat_ev {x:Int} (hx:(ab x).size≤1024):Ev (fun k=>integer_Format.f k (ng x) (ab x)) (txI x,0):=by
 have hc:=iCheck_ev (ng x) (ab x)
 rw [ick_int hx]at hc
 have hd:=dec_size hx
 refine Ev.bind hc (Ev.congr (fun k=>if_pos rfl) (Ev.bind (show Ev (fun k=>natural_Format.f k (ab x)) (dec x.natAbs,0)from Format_ev hx) ?_))
 unfold txI
 by_cases h:x<0
 ·rw [if_pos h]
  exact Ev.congr (fun k=>if_pos (ng_neg h)) (Ev.congr (fun k=>if_pos rfl) (Ev.congr (fun k=>if_pos (show 1+(dec x.natAbs).size≤9223372036854775807 by omega)) (Ev.now _)))
 ·rw [if_neg h]
  exact Ev.congr (fun k=>if_neg (by rw [ng_pos (by omega)];exact Bool.false_ne_true)) (Ev.now _)
theorem RFormat_ev {x:Int} (hx:(ab x).size≤1024):Ev (fun k=>galoisref02_Format.f k (ng x) (ab x)) (txI x):=by
 have hd:=dec_size hx
 have hf:Ev (fun k=>galoisref01_Format.f k (ab x)) (dec x.natAbs):=rFormat_ev (Nat.le_trans hx (by decide))
 unfold txI
 by_cases h:x<0
 ·rw [if_pos h]
  exact Ev.congr (fun k=>if_pos (ng_neg h)) (Ev.bind hf (Ev.congr (fun k=>if_pos (show 1+(dec x.natAbs).size≤9223372036854775807 by omega)) (Ev.now _)))
 ·rw [if_neg h]
  exact Ev.congr (fun k=>if_neg (by rw [ng_pos (by omega)];exact Bool.false_ne_true)) (Ev.bind hf (Ev.now _))
def fin (neg:Bool) (r:ByteArray×Int):Bool×ByteArray×Int:=if r.2=0 then(if neg=true then(if r.1.toList=([]:List UInt8)then(false,⟨#[]⟩,11)else(neg,r.1,0))else(neg,r.1,0))else(false,⟨#[]⟩,r.2)
theorem fin_step (neg:Bool) (r:ByteArray×Int):(if r.2=0 then(if neg=true then(if r.1.toList=([]:List UInt8)then((integer_zero.f).bind fun b=>(some (b.1,b.2,(11:Int))))else(some (neg,r.1,0)))else(some (neg,r.1,0)))else((integer_zero.f).bind fun b=>(some (b.1,b.2,r.2))))=some (fin neg r):=by
 unfold fin
 by_cases h1:r.2=0
 ·rw [if_pos h1,if_pos h1]
  cases neg with
  |true=>
   rw [if_pos rfl,if_pos rfl]
   by_cases h2:r.1.toList=([]:List UInt8)
   ·rw [if_pos h2,if_pos h2];rfl
   ·rw [if_neg h2,if_neg h2]
  |false=>rw [if_neg Bool.false_ne_true,if_neg Bool.false_ne_true]
 ·rw [if_neg h1,if_neg h1];rfl
theorem iParse_j1 {s:ByteArray} (hs:s.size≤100000) (neg:Bool):Ev (fun k=>integer_Parse.j1 k s neg) (fin neg (parseR s)):=
 Ev.step (fun k=>integer_Parse.j1.eq_2 ..) (Ev.bind (Parse_ev hs) (Ev.congr (fun k=>fin_step neg (parseR s)) (Ev.now _)))
theorem extract_size (s:ByteArray) (h:0<s.size):(s.extract 1 s.size).size=s.size-1:=by
 rw [ByteArray.size_extract];omega
theorem iParse_ev {s:ByteArray} (h1:¬(s.size:Int)>4096):Ev (fun k=>integer_Parse.f k s) (if 0<s.size∧bt s 0=45 then fin true (parseR (s.extract 1 s.size))else fin false (parseR s)):=by
 refine Ev.congr (fun k=>if_neg h1) ?_
 have no:Ev (fun k=>integer_Parse.j0 k s false) (fin false (parseR s)):=Ev.step (fun k=>integer_Parse.j0.eq_2 ..) (Ev.congr (fun k=>if_neg Bool.false_ne_true) (iParse_j1 (by omega) false))
 by_cases h2:0<s.size
 ·refine Ev.congr (fun k=>if_pos (show(s.size:Int)>0 by omega)) (Ev.congr (fun k=>if_pos (show(0:Int)<s.size by omega)) ?_)
  by_cases h3:bt s 0=45
  ·rw [if_pos ⟨h2,h3⟩,show(bt s 0==45)=true from beq_iff_eq.2 h3]
   have hz:=extract_size s h2
   exact Ev.step (fun k=>integer_Parse.j0.eq_2 ..) (Ev.congr (fun k=>if_pos rfl) (Ev.congr (fun k=>if_pos (show(1:Int)≤s.size by omega)) (iParse_j1 (by omega) true)))
  ·rw [if_neg (fun h=>h3 h.2),show(bt s 0==45)=false from beq_eq_false_iff_ne.2 h3]
   exact no
 ·rw [if_neg (fun h=>h2 h.1)]
  exact Ev.congr (fun k=>if_neg (show¬(s.size:Int)>0 by omega)) no
def rdg (s:ByteArray):ByteArray×Bool:=if bad0 s then(⟨#[]⟩,false)else if digits s then(nat (dv s s.size),true)else(⟨#[]⟩,false)
theorem rdg_ev {s:ByteArray} (hs:s.size≤4096):Ev (fun k=>galoisref01_Digits.f k s) (rdg s):=rDigits_ev (by omega)
theorem RDigits_neg {s:ByteArray} (hs:s.size≤4096) (h2:0<s.size) (h3:bt s 0=45):
  Ev (fun k=>galoisref02_Digits.f k s) (if(rdg (s.extract 1 s.size)).2=true then(!(rdg (s.extract 1 s.size)).1.toList.isEmpty,(rdg (s.extract 1 s.size)).1,((rdg (s.extract 1 s.size)).1.toList !=([]:List UInt8)))else(!(rdg (s.extract 1 s.size)).1.toList.isEmpty,(rdg (s.extract 1 s.size)).1,false)):=by
 have hz:=extract_size s h2
 have hq:galoisref02_Make.f true (rdg (s.extract 1 s.size)).1=some (!(rdg (s.extract 1 s.size)).1.toList.isEmpty,(rdg (s.extract 1 s.size)).1):=rfl
 refine Ev.congr (fun k=>if_pos (show(s.size:Int)>0 by omega)) (Ev.congr (fun k=>if_pos (show(0:Int)<s.size by omega)) ?_)
 rw [show(bt s 0==45)=true from beq_iff_eq.2 h3]
 refine Ev.step (fun k=>galoisref02_Digits.j0.eq_2 ..) (Ev.congr (fun k=>if_pos rfl) (Ev.congr (fun k=>if_pos (show(1:Int)≤s.size by omega)) (Ev.bind (show Ev (fun k=>galoisref01_Digits.f k (s.extract 1 s.size)) (rdg (s.extract 1 s.size))from rdg_ev (by omega)) (ev_some hq ?_))))
 refine Ev.congr (f:=fun _=>some _) (fun k=>?_) (Ev.now _)
 by_cases h4:(rdg (s.extract 1 s.size)).2=true
 ·simp only [if_pos h4]
 ·simp only [if_neg h4]
theorem RDigits_pos {s:ByteArray} (hs:s.size≤4096) (h:¬(0<s.size∧bt s 0=45)):Ev (fun k=>galoisref02_Digits.f k s) (false,(rdg s).1,(rdg s).2):=by
 have hj:Ev (fun k=>galoisref02_Digits.j0 k s false) (false,(rdg s).1,(rdg s).2):=Ev.step (fun k=>galoisref02_Digits.j0.eq_2 ..) (Ev.congr (fun k=>if_neg Bool.false_ne_true) (Ev.bind (rdg_ev hs) (Ev.now _)))
 by_cases h2:0<s.size
 ·have hd:∀k,galoisref02_Digits.f k s=galoisref02_Digits.j0 k s false:=fun k=>by
   unfold galoisref02_Digits.f
   rw [if_pos (show(s.size:Int)>0 by omega),if_pos (show(0:Int)<s.size by omega),show(bt s 0==45)=false from beq_eq_false_iff_ne.2 (fun g=>h ⟨h2,g⟩)]
  exact Ev.congr hd hj
 ·have hd:∀k,galoisref02_Digits.f k s=galoisref02_Digits.j0 k s false:=fun k=>by
   unfold galoisref02_Digits.f
   rw [if_neg (show¬(s.size:Int)>0 by omega)]
  exact Ev.congr hd hj
theorem parseR_cases {s:ByteArray} (hs:s.size≤4096):(∃v,parseR s=bnd v∧rdg s=(nat v,true))∨(parseR s=(⟨#[]⟩,11)∧rdg s=(⟨#[]⟩,false)):=by
 unfold parseR rdg
 rw [if_neg (show¬4096<s.size by omega)]
 by_cases hb:bad0 s
 ·rw [if_pos hb,if_pos hb];exact Or.inr ⟨rfl,rfl⟩
 ·rw [if_neg hb,if_neg hb]
  by_cases hd:digits s
  ·rw [if_pos hd,if_pos hd];exact Or.inl ⟨_,rfl,rfl⟩
  ·rw [if_neg hd,if_neg hd];exact Or.inr ⟨rfl,rfl⟩
theorem nat_cases {s:ByteArray} (hs:s.size≤4096):(∃v,Ev (fun k=>natural_Parse.f k s) (bnd v)∧Ev (fun k=>galoisref01_Digits.f k s) (nat v,true))∨
  (Ev (fun k=>natural_Parse.f k s) (⟨#[]⟩,11)∧Ev (fun k=>galoisref01_Digits.f k s) (⟨#[]⟩,false)):=by
 have h1:=Parse_ev (s:=s) (by omega)
 have h2:=rdg_ev hs
 rcases parseR_cases hs with⟨v,e1,e2⟩| ⟨e1,e2⟩<;>rw [e1]at h1<;>rw [e2]at h2
 ·exact Or.inl ⟨v,h1,h2⟩
 ·exact Or.inr ⟨h1,h2⟩
theorem fin_neg {N:Nat} (h:N≠0):fin true (bnd N)=ibnd (-(N:Int)):=by
 have e:ab (-(N:Int))=nat N:=by unfold ab;rw [Int.natAbs_neg,Int.natAbs_natCast]
 have hn:¬(nat N).toList=([]:List UInt8):=fun g=>h (nat_empty.1 g)
 unfold bnd ibnd
 rw [e,ng_neg (by omega)]
 by_cases hz:1024<(nat N).size
 ·rw [if_pos hz,if_pos (show((nat N).size:Int)>1024 by omega)];rfl
 ·rw [if_neg hz,if_neg (show¬((nat N).size:Int)>1024 by omega)]
  unfold fin
  rw [if_pos rfl,if_pos rfl,if_neg hn]
theorem fin_pos (N:Nat):fin false (bnd N)=ibnd (N:Int):=by
 unfold bnd ibnd
 rw [ab_nat,ng_nat]
 by_cases hz:1024<(nat N).size
 ·rw [if_pos hz,if_pos (show((nat N).size:Int)>1024 by omega)];rfl
 ·rw [if_neg hz,if_neg (show¬((nat N).size:Int)>1024 by omega)];rfl
theorem signed_cases {s:ByteArray} (hs:s.size≤4096):(∃x:Int,Ev (fun k=>integer_Parse.f k s) (ibnd x)∧Ev (fun k=>galoisref02_Digits.f k s) (ng x,ab x,true))∨
  (Ev (fun k=>integer_Parse.f k s) (false,⟨#[]⟩,11)∧∃q:Bool×ByteArray,Ev (fun k=>galoisref02_Digits.f k s) (q.1,q.2,false)):=by
 have hp:=iParse_ev (s:=s) (by omega)
 by_cases h:0<s.size∧bt s 0=45
 ·have hz:=extract_size s h.1
  have hd:=RDigits_neg hs h.1 h.2
  rw [if_pos h]at hp
  rcases parseR_cases (s:=s.extract 1 s.size) (by omega)with⟨v,e1,e2⟩| ⟨e1,e2⟩<;>rw [e1]at hp<;>rw [e2]at hd
  ·by_cases hv:v=0
   ·subst hv
    have e0:fin true (bnd 0)=(false,⟨#[]⟩,11):=by
     have g:bnd 0=(nat 0,0):=if_neg (by decide +kernel)
     rw [g];unfold fin
     rw [if_pos rfl,if_pos rfl,if_pos (nat_empty.2 rfl)]
    have e3:((nat 0).toList !=([]:List UInt8))=false:=by rw [nat_empty.2 rfl];rfl
    rw [e0]at hp
    rw [if_pos rfl,e3]at hd
    exact Or.inr ⟨hp,(_,_),hd⟩
   ·rw [fin_neg hv]at hp
    refine Or.inl ⟨_,hp,?_⟩
    have hn:¬(nat v).toList=([]:List UInt8):=fun g=>hv (nat_empty.1 g)
    rw [if_pos rfl,isEmpty_eq,beq_eq_false_iff_ne.2 hn,bne_iff_ne.2 hn]at hd
    rw [ng_neg (by omega),show ab (-(v:Int))=nat v by unfold ab;rw [Int.natAbs_neg,Int.natAbs_natCast]]
    exact hd
  ·exact Or.inr ⟨hp,(_,_),hd⟩
 ·have hd:=RDigits_pos hs h
  rw [if_neg h]at hp
  rcases parseR_cases hs with⟨v,e1,e2⟩| ⟨e1,e2⟩<;>rw [e1]at hp<;>rw [e2]at hd
  ·rw [fin_pos]at hp
   refine Or.inl ⟨_,hp,?_⟩
   rw [ng_nat,ab_nat];exact hd
  ·exact Or.inr ⟨hp,(_,_),hd⟩
theorem iback_ev {x:Int} (hx:(ab x).size≤1024):Ev (fun k=>integer_Parse.f k (txI x)) (ng x,ab x,0):=by
 have hd:=dec_size hx
 have hp:=parse_dec hx
 unfold txI
 by_cases h:x<0
 ·rw [if_pos h]
  have he:=iParse_ev (s:=minus (dec x.natAbs)) (by rw [minus_size];omega)
  rw [if_pos ⟨by rw [minus_size];omega,minus_bt _⟩,minus_tail,hp]at he
  have hn:¬(nat x.natAbs).toList=([]:List UInt8):=fun h'=>by have:=(nat_empty).1 h';omega
  have hf:fin true (nat x.natAbs,0)=(true,nat x.natAbs,0):=by
   unfold fin
   rw [if_pos rfl,if_pos rfl,if_neg hn]
  rw [hf]at he
  rw [ng_neg h]
  exact he
 ·rw [if_neg h]
  have he:=iParse_ev (s:=dec x.natAbs) (by omega)
  obtain⟨d1,d2,_,_⟩:=dec_digits x.natAbs
  have hb:¬(0<(dec x.natAbs).size∧bt (dec x.natAbs) 0=45):=by
   rintro⟨g1,g2⟩
   have:=(d1 0 g1).1
   have e0:(((0:Nat):Int))=0:=rfl
   rw [e0]at this
   omega
  rw [if_neg hb,hp]at he
  rw [ng_pos (by omega)]
  exact he
theorem ib_at {c:UInt8}:∀{l:List UInt8} {i:Nat} (h:i<l.length),l[i]=c→(∀j (hj:j<i),l[j]'(by omega)≠c)→Lib.indexByte l c=i
 | [],i,h,_,_=>absurd h (Nat.not_lt_zero _)
 |b::l,0,h,e,_=>by
  have h0:b=c:=e
  unfold Lib.indexByte;rw [if_pos (beq_iff_eq.2 h0)];rfl
 |b::l,i+1,h,e,n=>by
  have h0:b≠c:=n 0 (by omega)
  have ih:=ib_at (l:=l) (i:=i) (Nat.lt_of_succ_lt_succ h) e (fun j hj=>n (j+1) (by omega))
  unfold Lib.indexByte
  rw [if_neg (fun g=>h0 (beq_iff_eq.1 g)),ih,if_neg (fun g=>by have:=beq_iff_eq.1 g;omega)]
  omega
theorem ib_no {c:UInt8}:∀{l:List UInt8},(∀j (hj:j<l.length),l[j]≠c)→Lib.indexByte l c= -1
 | [],_=>rfl
 |b::l,n=>by
  have h0:b≠c:=n 0 (Nat.zero_lt_succ _)
  have ih:=ib_no (l:=l) (fun j hj=>n (j+1) (Nat.succ_lt_succ hj))
  unfold Lib.indexByte
  rw [if_neg (fun g=>h0 (beq_iff_eq.1 g)),ih];rfl
theorem bt_get {s:ByteArray} {i:Nat} (h:i<s.size):bt s (i:Int)=(((s.data.toList[i]'(by rw [Array.length_toList];exact h)).toNat:Nat):Int):=by
 have h':((i:Int)).toNat<s.size:=h
 unfold bt
 rw [dif_pos h']
 rfl
theorem u47 {x:UInt8}:((x.toNat:Nat):Int)=47↔x=47:=by
 constructor
 ·intro h
  apply UInt8.toNat_inj.1
  show x.toNat=47
  omega
 ·rintro rfl;rfl
def Sl (s:ByteArray) (i:Nat):Prop:=i<s.size∧bt s (i:Int)=47∧∀j:Nat,j<i→bt s (j:Int)≠47
def NoSl (s:ByteArray):Prop:=∀j:Nat,j<s.size→bt s (j:Int)≠47
theorem slash_cases (s:ByteArray):(∃i,Sl s i)∨NoSl s:=by
 have h:∀n,n≤s.size→(∃i,Sl s i)∨∀j:Nat,j<n→bt s (j:Int)≠47:=by
  intro n
  induction n with
  |zero=>intro _;exact Or.inr (fun j hj=>absurd hj (Nat.not_lt_zero _))
  |succ n ih=>
   intro hn
   rcases ih (by omega)with g|g
   ·exact Or.inl g
   ·by_cases e:bt s (n:Int)=47
    ·exact Or.inl ⟨n,by omega,e,g⟩
    ·refine Or.inr (fun j hj=>?_)
     rcases Nat.lt_or_ge j n with k|k
     ·exact g j k
     ·obtain rfl:j=n:=by omega
      exact e
 exact h _ (Nat.le_refl _)
theorem ib_sl {s:ByteArray} {i:Nat} (h:Sl s i):Lib.indexByte s.data.toList (47:Int).toNat.toUInt8=i:=by
 have hl:s.data.toList.length=s.size:=Array.length_toList
 refine ib_at (by rw [hl];exact h.1) ?_ (fun j hj g=>?_)
 ·exact u47.1 (by rw [←bt_get h.1];exact h.2.1)
 ·exact h.2.2 j hj (by rw [bt_get (Nat.lt_trans hj h.1)];exact u47.2 g)
theorem ib_nosl {s:ByteArray} (h:NoSl s):Lib.indexByte s.data.toList (47:Int).toNat.toUInt8= -1:=by
 have hl:s.data.toList.length=s.size:=Array.length_toList
 refine ib_no (fun j hj g=>?_)
 rw [hl]at hj
 exact h j hj (by rw [bt_get hj];exact u47.2 g)
theorem bt47:bt (⟨#[47]⟩:ByteArray) 0=47:=by decide +kernel
theorem sz47:(((⟨#[47]⟩:ByteArray).size:Nat):Int)=1:=rfl
theorem idxB_ev {s:ByteArray} {r:Int} (h:Lib.indexByte s.data.toList (47:Int).toNat.toUInt8=r):Ev (fun k=>FX168 k s 47) r:=by
 refine⟨0,fun k _=>?_⟩
 show FX168 _ _ _=_
 unfold FX168 B168
 simp only [fr,FX172,Ya,Yb,Yc,Yd,Ye,Yf,Yg,Yh,Yi,Yj,Int.reduceEq,reduceCtorEq,Yk,Yl,Ym,Yn,Yo,Yp,Yq,Yr,Ys,Yt,Yu,Yv,Yw,Yx,Yy,Yz,YA,YB,h]
theorem idx_ev {s:ByteArray} {r:Int} (h:Lib.indexByte s.data.toList (47:Int).toNat.toUInt8=r):Ev (fun k=>FX158 k s ⟨#[47]⟩) r:=by
 have h1:=idxB_ev h
 have f3:(0:Int)<1:=by decide
 by_cases he:(⟨#[47]⟩:ByteArray).toList=s.toList
 ·have e:=ba_inj.1 he
  subst e
  have e2:r=0:=by rw [←h];rfl
  subst e2
  have f4:((⟨#[47]⟩:ByteArray).toList==(⟨#[47]⟩:ByteArray).toList)=true:=beq_iff_eq.2 rfl
  refine⟨0,fun k _=>?_⟩
  show FX158 _ _ _=_
  unfold FX158 B158
  simp only [fr,Ya,Yb,Yc,Yd,Ye,Yf,Yg,Yh,Yi,Yj,Int.reduceEq,reduceCtorEq,Yk,Yl,Ym,Yn,Yo,Yp,Yq,Yr,Ys,Yt,Yu,Yv,Yw,Yx,Yy,Yz,YA,YB,sz47,f4]
 ·have f4:((⟨#[47]⟩:ByteArray).toList==s.toList)=false:=beq_eq_false_iff_ne.2 he
  refine evE h1 ?_
  rintro k h1
  try dsimp only [fr]at h1
  show FX158 _ _ _=_
  unfold FX158 B158
  simp only [fr,Ya,Yb,Yc,Yd,Ye,Yf,Yg,Yh,Yi,Yj,Int.reduceEq,reduceCtorEq,Yk,Yl,Ym,Yn,Yo,Yp,Yq,Yr,Ys,Yt,Yu,Yv,Yw,Yx,Yy,Yz,YA,YB,h1,sz47,bt47,f3,f4,Int.le_refl]
theorem lcut_at {s:ByteArray} {i:Nat} (h:Sl s i) (hs:s.size≤100000):Ev (fun k=>FX137 k s ⟨#[47]⟩) (s.extract 0 i,s.extract (i+1) s.size,true):=by
 have h1:=idx_ev (ib_sl h)
 have hi:=h.1
 have c1:(0:Int)≤(i:Int):=by omega
 have c2:(i:Int)≤(s.size:Int):=by omega
 have c3:wrap64 ((i:Int)+1)=((i+1:Nat):Int):=by rw [w64 (by omega) (by omega)];rfl
 have c4:(0:Int)≤((i+1:Nat):Int):=by omega
 have c5:((i+1:Nat):Int)≤(s.size:Int):=by omega
 have z:(0:Int).toNat=0:=rfl
 refine evE h1 ?_
 rintro k h1
 try dsimp only [fr]at h1
 show FX137 _ _ _=_
 unfold FX137 B137
 simp only [fr,Ya,Yb,Yc,Yd,Ye,Yf,Yg,Yh,Yi,Yj,Int.reduceEq,reduceCtorEq,Yk,Yl,Ym,Yn,Yo,Yp,Yq,Yr,Ys,Yt,Yu,Yv,Yw,Yx,Yy,Yz,YA,YB,h1,sz47,c1,c2,c3,c4,c5,Int.le_refl,Int.toNat_natCast,z]
theorem lcut_no {s:ByteArray} (h:NoSl s):Ev (fun k=>FX137 k s ⟨#[47]⟩) (s,⟨#[]⟩,false):=by
 have h1:=idx_ev (ib_nosl h)
 have c1:¬(0:Int)≤ -1:=by decide
 refine evE h1 ?_
 rintro k h1
 try dsimp only [fr]at h1
 show FX137 _ _ _=_
 unfold FX137 B137
 simp only [fr,Ya,Yb,Yc,Yd,Ye,Yf,Yg,Yh,Yi,Yj,Int.reduceEq,reduceCtorEq,Yk,Yl,Ym,Yn,Yo,Yp,Yq,Yr,Ys,Yt,Yu,Yv,Yw,Yx,Yy,Yz,YA,YB,h1,c1]
theorem cut_at {s:ByteArray} {i:Nat} (h:Sl s i) (hs:s.size≤100000):Ev (fun k=>FX96 k s ⟨#[47]⟩) (s.extract 0 i,s.extract (i+1) s.size,true):=by
 have h1:=lcut_at h hs
 refine evE h1 ?_
 rintro k h1
 try dsimp only [fr]at h1
 show FX96 _ _ _=_
 unfold FX96 B96
 simp only [fr,Ya,Yb,Yc,Yd,Ye,Yf,Yg,Yh,Yi,Yj,Int.reduceEq,reduceCtorEq,Yk,Yl,Ym,Yn,Yo,Yp,Yq,Yr,Ys,Yt,Yu,Yv,Yw,Yx,Yy,Yz,YA,YB,h1]
theorem cut_no {s:ByteArray} (h:NoSl s):Ev (fun k=>FX96 k s ⟨#[47]⟩) (s,⟨#[]⟩,false):=by
 have h1:=lcut_no h
 refine evE h1 ?_
 rintro k h1
 try dsimp only [fr]at h1
 show FX96 _ _ _=_
 unfold FX96 B96
 simp only [fr,Ya,Yb,Yc,Yd,Ye,Yf,Yg,Yh,Yi,Yj,Int.reduceEq,reduceCtorEq,Yk,Yl,Ym,Yn,Yo,Yp,Yq,Yr,Ys,Yt,Yu,Yv,Yw,Yx,Yy,Yz,YA,YB,h1]
theorem split_lp {s:ByteArray} {j:Nat} {r:R99} (hs:s.size≤100000) (hj:j<s.size) (hn:bt s (j:Int)≠47) (h:Ev (fun k=>GX99l0 k s ((j+1:Nat):Int)) r):Ev (fun k=>GX99l0 k s (j:Int)) r:=by
 obtain⟨K,h⟩:=h
 refine⟨K+1,fun k hk=>?_⟩
 obtain⟨m,rfl⟩:∃m,k=m+1:=⟨k-1,by omega⟩
 show GX99l0 (m+1) _ _=_
 rw [GX99l0];unfold B99l0
 rw [if_pos (by omega),if_pos (by omega),if_pos (by omega),if_neg hn,w64 (by omega) (by omega)]
 exact h m (by omega)
theorem split_at {s:ByteArray} {i:Nat} (h:Sl s i) (hs:s.size≤100000):Ev (fun k=>FX99 k s) (s.extract 0 i,s.extract (i+1) s.size,true):=by
 have hi:=h.1
 have g:∀d j:Nat,j+d=i→Ev (fun k=>GX99l0 k s (j:Int)) (s.extract 0 i,s.extract (i+1) s.size,true):=by
  intro d
  induction d with
  |zero=>
   intro j e
   obtain rfl:j=i:=e
   refine⟨1,fun k hk=>?_⟩
   obtain⟨m,rfl⟩:∃m,k=m+1:=⟨k-1,by omega⟩
   show GX99l0 (m+1) _ _=_
   rw [GX99l0];unfold B99l0
   have c3:wrap64 ((j:Int)+1)=((j+1:Nat):Int):=by rw [w64 (by omega) (by omega)];rfl
   rw [c3,if_pos (by omega),if_pos (by omega),if_pos (by omega),if_pos h.2.1,if_pos (Int.le_refl _),if_pos (by omega),if_pos (by omega),if_pos (Int.le_refl _),if_pos (by omega),if_pos (by omega),if_pos (Int.le_refl _),if_pos (Int.le_refl _)]
   rfl
  |succ d ih=>
   intro j e
   exact split_lp hs (by omega) (h.2.2 j (by omega)) (ih (j+1) (by omega))
 exact g i 0 (by omega)
theorem split_no {s:ByteArray} (h:NoSl s) (hs:s.size≤100000):Ev (fun k=>FX99 k s) (s,⟨#[49]⟩,false):=by
 have g:∀d j:Nat,j+d=s.size→Ev (fun k=>GX99l0 k s (j:Int)) (s,⟨#[49]⟩,false):=by
  intro d
  induction d with
  |zero=>
   intro j e
   refine⟨1,fun k hk=>?_⟩
   obtain⟨m,rfl⟩:∃m,k=m+1:=⟨k-1,by omega⟩
   show GX99l0 (m+1) _ _=_
   rw [GX99l0];unfold B99l0
   rw [if_neg (by omega)]
  |succ d ih=>
   intro j e
   exact split_lp hs (by omega) (h j (by omega)) (ih (j+1) (by omega))
 exact g s.size 0 (by omega)
def made (sl:Bool) (x:Int) (v:Nat):TI×ByteArray×Int:=
 if 1024<(ab x).size∨1024<(nat v).size then rerr 4 else if sl=true∧v<2 then rerr 1 else if Nat.gcd x.natAbs v=1 then((ng x,ab x),nat v,0)else rerr 1
theorem rck_two {x:Int} {v:Nat} (hx:(ab x).size≤1024) (hv:(nat v).size≤1024) (h0:v≠0):rck ((ng x,ab x),nat v)=if Nat.gcd x.natAbs v=1 then 0 else 1:=by
 have h1:=ick_int hx
 have h2:=chk_nat hv
 have h3:(nat v).size≠0:=fun e=>h0 (nat_size_zero.1 e)
 unfold rck
 show(if ick (ng x) (ab x)=1∨chk (nat v)=1∨(nat v).size=0 then(1:Int)else if ick (ng x) (ab x)≠0∨chk (nat v)≠0 then 4 else if Nat.gcd (bval (nat x.natAbs)).toNat (bval (nat v)).toNat=1 then 0 else 1)=_
 rw [h1,h2,if_neg (by simp [h3]),if_neg (by simp),bval_n,bval_n]
theorem ibnd_big {x:Int} (h:1024<(ab x).size):ibnd x=(false,⟨#[]⟩,4):=if_pos (by omega)
theorem bnd_big {v:Nat} (h:1024<(nat v).size):bnd v=(⟨#[]⟩,4):=if_pos h
theorem bnd_ok {v:Nat} (h:(nat v).size≤1024):bnd v=(nat v,0):=if_neg (by omega)
theorem refFits_big {x:Int} {v:Nat} (h:1024<(ab x).size∨1024<(nat v).size):Ev (fun k=>FX63 k ((ng x,ab x),nat v)) 4:=by
 have f1:=rFits_eq (ng x) (ab x)
 have f2:=rFits1_eq (nat v)
 by_cases h1:1024<(ab x).size
 ·rw [if_pos (by omega)]at f1
  refine⟨0,fun k _=>?_⟩
  show FX63 _ _=_
  unfold FX63 B63
  simp only [fr,FX65,FX117,Ya,Yb,Yc,Yd,Ye,Yf,Yg,Yh,Yi,Yj,Int.reduceEq,reduceCtorEq,Yk,Yl,Ym,Yn,Yo,Yp,Yq,Yr,Ys,Yt,Yu,Yv,Yw,Yx,Yy,Yz,YA,YB,f1,f2]
 ·rw [if_neg (by omega)]at f1
  rw [if_pos (by omega)]at f2
  refine⟨0,fun k _=>?_⟩
  show FX63 _ _=_
  unfold FX63 B63
  simp only [fr,FX65,FX117,Ya,Yb,Yc,Yd,Ye,Yf,Yg,Yh,Yi,Yj,Int.reduceEq,reduceCtorEq,Yk,Yl,Ym,Yn,Yo,Yp,Yq,Yr,Ys,Yt,Yu,Yv,Yw,Yx,Yy,Yz,YA,YB,f1,f2]
theorem refFits_ok {x:Int} {v:Nat} (h1:(ab x).size≤1024) (h2:(nat v).size≤1024):Ev (fun k=>FX63 k ((ng x,ab x),nat v)) 0:=by
 have f1:=rFits_eq (ng x) (ab x)
 have f2:=rFits1_eq (nat v)
 rw [if_neg (by omega)]at f1 f2
 refine⟨0,fun k _=>?_⟩
 show FX63 _ _=_
 unfold FX63 B63
 simp only [fr,FX65,FX117,Ya,Yb,Yc,Yd,Ye,Yf,Yg,Yh,Yi,Yj,Int.reduceEq,reduceCtorEq,Yk,Yl,Ym,Yn,Yo,Yp,Yq,Yr,Ys,Yt,Yu,Yv,Yw,Yx,Yy,Yz,YA,YB,f1,f2]
theorem nat1b:(nat 1).size≤1024:=by decide +kernel
theorem one_dg:Ev (fun k=>galoisref01_Digits.f k ⟨#[49]⟩) (nat 1,true):=by
 have h:=rdg_ev (s:=⟨#[49]⟩) (by decide)
 rwa [show rdg ⟨#[49]⟩=(nat 1,true)by decide +kernel]at h
section
variable {s f b:ByteArray} {x:Int} {v:Nat}
theorem Parse_sl (hs:s.size≤4096) (h1:Ev (fun k=>FX96 k s ⟨#[47]⟩) (f,b,true)) (h2:Ev (fun k=>integer_Parse.f k f) (ibnd x)) (h3:Ev (fun k=>natural_Parse.f k b) (bnd v)):Ev (fun k=>FX45 k s) (made true x v):=by
 have c0:¬4096<(s.size:Int):=by omega
 unfold made
 by_cases g1:1024<(ab x).size
 ·rw [ibnd_big g1]at h2
  rw [if_pos (Or.inl g1)]
  by_cases g2:1024<(nat v).size
  ·rw [bnd_big g2]at h3
   refine evE (evC h1 (evC h2 h3)) ?_
   rintro k ⟨h1,h2,h3⟩
   try dsimp only [fr]at h1 h2 h3
   show FX45 _ _=_
   unfold FX45 B45
   simp only [fr,FX97,FX98,Ya,Yb,Yc,Yd,Ye,Yf,Yg,Yh,Yi,Yj,Int.reduceEq,reduceCtorEq,Yk,Yl,Ym,Yn,Yo,Yp,Yq,Yr,Ys,Yt,Yu,Yv,Yw,Yx,Yy,Yz,YA,YB,h1,h2,h3,c0,rerr]
  ·rw [bnd_ok (by omega)]at h3
   refine evE (evC h1 (evC h2 h3)) ?_
   rintro k ⟨h1,h2,h3⟩
   try dsimp only [fr]at h1 h2 h3
   show FX45 _ _=_
   unfold FX45 B45
   simp only [fr,FX97,FX98,Ya,Yb,Yc,Yd,Ye,Yf,Yg,Yh,Yi,Yj,Int.reduceEq,reduceCtorEq,Yk,Yl,Ym,Yn,Yo,Yp,Yq,Yr,Ys,Yt,Yu,Yv,Yw,Yx,Yy,Yz,YA,YB,h1,h2,h3,c0,rerr]
 ·rw [ibnd_ok (by omega)]at h2
  by_cases g2:1024<(nat v).size
  ·rw [bnd_big g2]at h3
   rw [if_pos (Or.inr g2)]
   refine evE (evC h1 (evC h2 h3)) ?_
   rintro k ⟨h1,h2,h3⟩
   try dsimp only [fr]at h1 h2 h3
   show FX45 _ _=_
   unfold FX45 B45
   simp only [fr,FX97,FX98,Ya,Yb,Yc,Yd,Ye,Yf,Yg,Yh,Yi,Yj,Int.reduceEq,reduceCtorEq,Yk,Yl,Ym,Yn,Yo,Yp,Yq,Yr,Ys,Yt,Yu,Yv,Yw,Yx,Yy,Yz,YA,YB,h1,h2,h3,c0,rerr]
  ·rw [bnd_ok (by omega)]at h3
   rw [if_neg (by omega)]
   by_cases v0:v=0
   ·rw [if_pos ⟨rfl,by omega⟩]
    refine evE (evC h1 (evC h2 h3)) ?_
    rintro k ⟨h1,h2,h3⟩
    try dsimp only [fr]at h1 h2 h3
    show FX45 _ _=_
    unfold FX45 B45
    simp only [fr,FX97,FX98,Ya,Yb,Yc,Yd,Ye,Yf,Yg,Yh,Yi,Yj,Int.reduceEq,reduceCtorEq,Yk,Yl,Ym,Yn,Yo,Yp,Yq,Yr,Ys,Yt,Yu,Yv,Yw,Yx,Yy,Yz,YA,YB,h1,h2,h3,c0,rerr,e_nil,v0]
   ·by_cases v1:v=1
    ·rw [if_pos ⟨rfl,by omega⟩]
     refine evE (evC h1 (evC h2 h3)) ?_
     rintro k ⟨h1,h2,h3⟩
     try dsimp only [fr]at h1 h2 h3
     show FX45 _ _=_
     unfold FX45 B45
     simp only [fr,FX97,FX98,Ya,Yb,Yc,Yd,Ye,Yf,Yg,Yh,Yi,Yj,Int.reduceEq,reduceCtorEq,Yk,Yl,Ym,Yn,Yo,Yp,Yq,Yr,Ys,Yt,Yu,Yv,Yw,Yx,Yy,Yz,YA,YB,h1,h2,h3,c0,rerr,e_nil,e_one,v1]
    ·rw [if_neg (by omega)]
     have h4:=rCk_ev ((ng x,ab x),nat v)
     rw [rck_two (by omega) (by omega) v0]at h4
     by_cases hg:Nat.gcd x.natAbs v=1
     ·rw [if_pos hg]at h4⊢
      refine evE (evC h1 (evC h2 (evC h3 h4))) ?_
      rintro k ⟨h1,h2,h3,h4⟩
      try dsimp only [fr]at h1 h2 h3 h4
      show FX45 _ _=_
      unfold FX45 B45
      simp only [fr,FX97,FX98,Ya,Yb,Yc,Yd,Ye,Yf,Yg,Yh,Yi,Yj,Int.reduceEq,reduceCtorEq,Yk,Yl,Ym,Yn,Yo,Yp,Yq,Yr,Ys,Yt,Yu,Yv,Yw,Yx,Yy,Yz,YA,YB,h1,h2,h3,h4,c0,rerr,e_nil,e_one,v0,v1]
     ·rw [if_neg hg]at h4⊢
      refine evE (evC h1 (evC h2 (evC h3 h4))) ?_
      rintro k ⟨h1,h2,h3,h4⟩
      try dsimp only [fr]at h1 h2 h3 h4
      show FX45 _ _=_
      unfold FX45 B45
      simp only [fr,FX97,FX98,Ya,Yb,Yc,Yd,Ye,Yf,Yg,Yh,Yi,Yj,Int.reduceEq,reduceCtorEq,Yk,Yl,Ym,Yn,Yo,Yp,Yq,Yr,Ys,Yt,Yu,Yv,Yw,Yx,Yy,Yz,YA,YB,h1,h2,h3,h4,c0,rerr,e_nil,e_one,v0,v1]
theorem Parse_no (hs:s.size≤4096) (h1:Ev (fun k=>FX96 k s ⟨#[47]⟩) (s,b,false)) (h2:Ev (fun k=>integer_Parse.f k s) (ibnd x)):Ev (fun k=>FX45 k s) (made false x 1):=by
 have c0:¬4096<(s.size:Int):=by omega
 have n1:=nat1b
 unfold made
 by_cases g1:1024<(ab x).size
 ·rw [ibnd_big g1]at h2
  rw [if_pos (Or.inl g1)]
  refine evE (evC h1 h2) ?_
  rintro k ⟨h1,h2⟩
  try dsimp only [fr]at h1 h2
  show FX45 _ _=_
  unfold FX45 B45
  simp only [fr,FX97,FX98,Ya,Yb,Yc,Yd,Ye,Yf,Yg,Yh,Yi,Yj,Int.reduceEq,reduceCtorEq,Yk,Yl,Ym,Yn,Yo,Yp,Yq,Yr,Ys,Yt,Yu,Yv,Yw,Yx,Yy,Yz,YA,YB,h1,h2,c0,rerr]
 ·rw [ibnd_ok (by omega)]at h2
  rw [if_neg (by omega),if_neg (by simp),if_pos (Nat.gcd_one_right _)]
  have h4:=rCk_ev ((ng x,ab x),nat 1)
  rw [rck_two (by omega) n1 (by decide),if_pos (Nat.gcd_one_right _),nat1]at h4
  refine evE (evC h1 (evC h2 h4)) ?_
  rintro k ⟨h1,h2,h4⟩
  try dsimp only [fr]at h1 h2 h4
  show FX45 _ _=_
  unfold FX45 B45
  simp only [fr,FX97,FX98,Ya,Yb,Yc,Yd,Ye,Yf,Yg,Yh,Yi,Yj,Int.reduceEq,reduceCtorEq,Yk,Yl,Ym,Yn,Yo,Yp,Yq,Yr,Ys,Yt,Yu,Yv,Yw,Yx,Yy,Yz,YA,YB,h1,h2,h4,c0,nat1]
theorem refParse_ok {sl:Bool} (hs:s.size≤4096) (hx:sl=true∨v=1) (h1:Ev (fun k=>FX99 k s) (f,b,sl)) (h2:Ev (fun k=>galoisref02_Digits.f k f) (ng x,ab x,true)) (h3:Ev (fun k=>galoisref01_Digits.f k b) (nat v,true)):Ev (fun k=>FX46 k s) (made sl x v):=by
 have c0:¬4096<(s.size:Int):=by omega
 unfold made
 by_cases g:1024<(ab x).size∨1024<(nat v).size
 ·have h4:=refFits_big g
  rw [if_pos g]
  refine evE (evC h1 (evC h2 (evC h3 h4))) ?_
  rintro k ⟨h1,h2,h3,h4⟩
  try dsimp only [fr]at h1 h2 h3 h4
  show FX46 _ _=_
  unfold FX46 B46
  simp only [fr,FX64,FX100,FX101,Ya,Yb,Yc,Yd,Ye,Yf,Yg,Yh,Yi,Yj,Int.reduceEq,reduceCtorEq,Yk,Yl,Ym,Yn,Yo,Yp,Yq,Yr,Ys,Yt,Yu,Yv,Yw,Yx,Yy,Yz,YA,YB,h1,h2,h3,h4,c0,rerr]
 ·have h4:=refFits_ok (x:=x) (v:=v) (by omega) (by omega)
  have h5:Ev (fun k=>galoisref01_Gcd.f k (ab x) (nat v)) (nat (Nat.gcd x.natAbs v)):=Go.Proofs.YtjllholdppjllaaGreatN.rGcd_ev (m:=x.natAbs) (n:=v) (Nat.le_trans (show(ab x).size≤1024 by omega) (by decide)) (Nat.le_trans (show(nat v).size≤1024 by omega) (by decide))
  rw [if_neg g]
  cases sl with
  |false=>
   rw [if_neg (by simp)]
   by_cases hg:Nat.gcd x.natAbs v=1
   ·rw [if_pos hg]
    refine evE (evC h1 (evC h2 (evC h3 (evC h4 h5)))) ?_
    rintro k ⟨h1,h2,h3,h4,h5⟩
    try dsimp only [fr]at h1 h2 h3 h4 h5
    show FX46 _ _=_
    unfold FX46 B46
    simp only [fr,FX64,FX100,FX101,Ya,Yb,Yc,Yd,Ye,Yf,Yg,Yh,Yi,Yj,Int.reduceEq,reduceCtorEq,Yk,Yl,Ym,Yn,Yo,Yp,Yq,Yr,Ys,Yt,Yu,Yv,Yw,Yx,Yy,Yz,YA,YB,h1,h2,h3,h4,h5,c0,rerr,e_one,hg]
   ·rw [if_neg hg]
    refine evE (evC h1 (evC h2 (evC h3 (evC h4 h5)))) ?_
    rintro k ⟨h1,h2,h3,h4,h5⟩
    try dsimp only [fr]at h1 h2 h3 h4 h5
    show FX46 _ _=_
    unfold FX46 B46
    simp only [fr,FX64,FX100,FX101,Ya,Yb,Yc,Yd,Ye,Yf,Yg,Yh,Yi,Yj,Int.reduceEq,reduceCtorEq,Yk,Yl,Ym,Yn,Yo,Yp,Yq,Yr,Ys,Yt,Yu,Yv,Yw,Yx,Yy,Yz,YA,YB,h1,h2,h3,h4,h5,c0,rerr,e_one,hg]
  |true=>
   by_cases v0:v=0
   ·subst v0
    rw [if_pos ⟨rfl,by decide⟩]
    refine evE (evC h1 (evC h2 (evC h3 (evC h4 h5)))) ?_
    rintro k ⟨h1,h2,h3,h4,h5⟩
    try dsimp only [fr]at h1 h2 h3 h4 h5
    show FX46 _ _=_
    unfold FX46 B46
    simp only [fr,FX64,FX100,FX101,Ya,Yb,Yc,Yd,Ye,Yf,Yg,Yh,Yi,Yj,Int.reduceEq,reduceCtorEq,Yk,Yl,Ym,Yn,Yo,Yp,Yq,Yr,Ys,Yt,Yu,Yv,Yw,Yx,Yy,Yz,YA,YB,h1,h2,h3,h4,h5,c0,rerr,e_nil]
   ·by_cases v1:v=1
    ·subst v1
     have n10:((1:Nat)=0)=False:=eq_false (by decide)
     rw [if_pos ⟨rfl,by decide⟩]
     refine evE (evC h1 (evC h2 (evC h3 (evC h4 h5)))) ?_
     rintro k ⟨h1,h2,h3,h4,h5⟩
     try dsimp only [fr]at h1 h2 h3 h4 h5
     show FX46 _ _=_
     unfold FX46 B46
     simp only [fr,FX64,FX100,FX101,Ya,Yb,Yc,Yd,Ye,Yf,Yg,Yh,Yi,Yj,Int.reduceEq,reduceCtorEq,Yk,Yl,Ym,Yn,Yo,Yp,Yq,Yr,Ys,Yt,Yu,Yv,Yw,Yx,Yy,Yz,YA,YB,h1,h2,h3,h4,h5,c0,rerr,e_nil,e_one,n10]
    ·rw [if_neg (by omega)]
     by_cases hg:Nat.gcd x.natAbs v=1
     ·rw [if_pos hg]
      refine evE (evC h1 (evC h2 (evC h3 (evC h4 h5)))) ?_
      rintro k ⟨h1,h2,h3,h4,h5⟩
      try dsimp only [fr]at h1 h2 h3 h4 h5
      show FX46 _ _=_
      unfold FX46 B46
      simp only [fr,FX64,FX100,FX101,Ya,Yb,Yc,Yd,Ye,Yf,Yg,Yh,Yi,Yj,Int.reduceEq,reduceCtorEq,Yk,Yl,Ym,Yn,Yo,Yp,Yq,Yr,Ys,Yt,Yu,Yv,Yw,Yx,Yy,Yz,YA,YB,h1,h2,h3,h4,h5,c0,rerr,e_nil,e_one,v0,v1,hg]
     ·rw [if_neg hg]
      refine evE (evC h1 (evC h2 (evC h3 (evC h4 h5)))) ?_
      rintro k ⟨h1,h2,h3,h4,h5⟩
      try dsimp only [fr]at h1 h2 h3 h4 h5
      show FX46 _ _=_
      unfold FX46 B46
      simp only [fr,FX64,FX100,FX101,Ya,Yb,Yc,Yd,Ye,Yf,Yg,Yh,Yi,Yj,Int.reduceEq,reduceCtorEq,Yk,Yl,Ym,Yn,Yo,Yp,Yq,Yr,Ys,Yt,Yu,Yv,Yw,Yx,Yy,Yz,YA,YB,h1,h2,h3,h4,h5,c0,rerr,e_nil,e_one,v0,v1,hg]
theorem refParse_bad1 {sl:Bool} {q:Bool×ByteArray} {p:ByteArray×Bool} (hs:s.size≤4096) (h1:Ev (fun k=>FX99 k s) (f,b,sl)) (h2:Ev (fun k=>galoisref02_Digits.f k f) (q.1,q.2,false)) (h3:Ev (fun k=>galoisref01_Digits.f k b) p):Ev (fun k=>FX46 k s) (rerr 11):=by
 have c0:¬4096<(s.size:Int):=by omega
 refine evE (evC h1 (evC h2 h3)) ?_
 rintro k ⟨h1,h2,h3⟩
 try dsimp only [fr]at h1 h2 h3
 show FX46 _ _=_
 unfold FX46 B46
 simp only [fr,FX64,FX100,FX101,Ya,Yb,Yc,Yd,Ye,Yf,Yg,Yh,Yi,Yj,Int.reduceEq,reduceCtorEq,Yk,Yl,Ym,Yn,Yo,Yp,Yq,Yr,Ys,Yt,Yu,Yv,Yw,Yx,Yy,Yz,YA,YB,h1,h2,h3,c0,rerr]
theorem refParse_bad2 {sl:Bool} {q:Bool×ByteArray×Bool} {p:ByteArray} (hs:s.size≤4096) (h1:Ev (fun k=>FX99 k s) (f,b,sl)) (h2:Ev (fun k=>galoisref02_Digits.f k f) q) (h3:Ev (fun k=>galoisref01_Digits.f k b) (p,false)):Ev (fun k=>FX46 k s) (rerr 11):=by
 have c0:¬4096<(s.size:Int):=by omega
 refine evE (evC h1 (evC h2 h3)) ?_
 rintro k ⟨h1,h2,h3⟩
 try dsimp only [fr]at h1 h2 h3
 show FX46 _ _=_
 unfold FX46 B46
 simp only [fr,FX64,FX100,FX101,Ya,Yb,Yc,Yd,Ye,Yf,Yg,Yh,Yi,Yj,Int.reduceEq,reduceCtorEq,Yk,Yl,Ym,Yn,Yo,Yp,Yq,Yr,Ys,Yt,Yu,Yv,Yw,Yx,Yy,Yz,YA,YB,h1,h2,h3,c0,rerr,ite_self]
theorem Parse_bad1 {p:ByteArray×Int} (hs:s.size≤4096) (h1:Ev (fun k=>FX96 k s ⟨#[47]⟩) (f,b,true)) (h2:Ev (fun k=>integer_Parse.f k f) (false,⟨#[]⟩,11)) (h3:Ev (fun k=>natural_Parse.f k b) p):Ev (fun k=>FX45 k s) (rerr 11):=by
 have c0:¬4096<(s.size:Int):=by omega
 refine evE (evC h1 (evC h2 h3)) ?_
 rintro k ⟨h1,h2,h3⟩
 try dsimp only [fr]at h1 h2 h3
 show FX45 _ _=_
 unfold FX45 B45
 simp only [fr,FX97,FX98,Ya,Yb,Yc,Yd,Ye,Yf,Yg,Yh,Yi,Yj,Int.reduceEq,reduceCtorEq,Yk,Yl,Ym,Yn,Yo,Yp,Yq,Yr,Ys,Yt,Yu,Yv,Yw,Yx,Yy,Yz,YA,YB,h1,h2,h3,c0,rerr]
theorem Parse_bad2 {q:Bool×ByteArray×Int} {p:ByteArray} (hs:s.size≤4096) (h1:Ev (fun k=>FX96 k s ⟨#[47]⟩) (f,b,true)) (h2:Ev (fun k=>integer_Parse.f k f) q) (h3:Ev (fun k=>natural_Parse.f k b) (p,11)):Ev (fun k=>FX45 k s) (rerr 11):=by
 have c0:¬4096<(s.size:Int):=by omega
 refine evE (evC h1 (evC h2 h3)) ?_
 rintro k ⟨h1,h2,h3⟩
 try dsimp only [fr]at h1 h2 h3
 show FX45 _ _=_
 unfold FX45 B45
 simp only [fr,FX97,FX98,Ya,Yb,Yc,Yd,Ye,Yf,Yg,Yh,Yi,Yj,Int.reduceEq,reduceCtorEq,Yk,Yl,Ym,Yn,Yo,Yp,Yq,Yr,Ys,Yt,Yu,Yv,Yw,Yx,Yy,Yz,YA,YB,h1,h2,h3,c0,rerr,ite_self]
theorem Parse_bad3 (hs:s.size≤4096) (h1:Ev (fun k=>FX96 k s ⟨#[47]⟩) (s,b,false)) (h2:Ev (fun k=>integer_Parse.f k s) (false,⟨#[]⟩,11)):Ev (fun k=>FX45 k s) (rerr 11):=by
 have c0:¬4096<(s.size:Int):=by omega
 refine evE (evC h1 h2) ?_
 rintro k ⟨h1,h2⟩
 try dsimp only [fr]at h1 h2
 show FX45 _ _=_
 unfold FX45 B45
 simp only [fr,FX97,FX98,Ya,Yb,Yc,Yd,Ye,Yf,Yg,Yh,Yi,Yj,Int.reduceEq,reduceCtorEq,Yk,Yl,Ym,Yn,Yo,Yp,Yq,Yr,Ys,Yt,Yu,Yv,Yw,Yx,Yy,Yz,YA,YB,h1,h2,c0,rerr]
end
theorem parse_both (s:ByteArray):∃z:TI×ByteArray×Int,Ev (fun k=>FX45 k s) z∧Ev (fun k=>FX46 k s) z:=by
 by_cases hs:s.size≤4096
 ·have hb:∀i j,(s.extract i j).size≤4096:=fun i j=>by rw [ByteArray.size_extract];omega
  rcases slash_cases s with⟨i,hi⟩|hn
  ·have h1:=cut_at hi (by omega)
   have h2:=split_at hi (by omega)
   rcases signed_cases (hb 0 i)with⟨x,p1,p2⟩| ⟨p1,q,p2⟩<;>rcases nat_cases (hb (i+1) s.size)with⟨v,p3,p4⟩| ⟨p3,p4⟩
   ·exact⟨_,Parse_sl hs h1 p1 p3,refParse_ok hs (Or.inl rfl) h2 p2 p4⟩
   ·exact⟨_,Parse_bad2 hs h1 p1 p3,refParse_bad2 (q:=(ng x,ab x,true)) hs h2 p2 p4⟩
   ·exact⟨_,Parse_bad1 hs h1 p1 p3,refParse_bad1 hs h2 p2 p4⟩
   ·exact⟨_,Parse_bad1 hs h1 p1 p3,refParse_bad1 hs h2 p2 p4⟩
  ·have h1:=cut_no hn
   have h2:=split_no hn (by omega)
   have h3:=one_dg
   rcases signed_cases hs with⟨x,p1,p2⟩| ⟨p1,q,p2⟩
   ·exact⟨_,Parse_no hs h1 p1,refParse_ok hs (Or.inr rfl) h2 p2 h3⟩
   ·exact⟨_,Parse_bad3 hs h1 p1,refParse_bad1 hs h2 p2 h3⟩
 ·have c0:4096<(s.size:Int):=by omega
  refine⟨rerr 12,?_,?_⟩
  ·refine⟨0,fun k _=>?_⟩
   show FX45 _ _=_
   unfold FX45 B45
   simp only [fr,FX97,FX98,Ya,Yb,Yc,Yd,Ye,Yf,Yg,Yh,Yi,Yj,Int.reduceEq,reduceCtorEq,Yk,Yl,Ym,Yn,Yo,Yp,Yq,Yr,Ys,Yt,Yu,Yv,Yw,Yx,Yy,Yz,YA,YB,c0,rerr]
  ·refine⟨0,fun k _=>?_⟩
   show FX46 _ _=_
   unfold FX46 B46
   simp only [fr,FX64,FX100,FX101,Ya,Yb,Yc,Yd,Ye,Yf,Yg,Yh,Yi,Yj,Int.reduceEq,reduceCtorEq,Yk,Yl,Ym,Yn,Yo,Yp,Yq,Yr,Ys,Yt,Yu,Yv,Yw,Yx,Yy,Yz,YA,YB,c0,rerr]
def fmt (q:Rat):ByteArray:=if q.den=1 then txI q.num else(txI q.num++⟨#[47]⟩)++dec q.den
theorem txI_size {x:Int} (h:(ab x).size≤1024):(txI x).size≤3073:=by
 have hd:=dec_size h
 unfold txI
 split
 ·rw [minus_size];omega
 ·omega
section
variable {a:Rat}
theorem fmt_sz (ha:Sm 1024 a):(txI a.num).size+(⟨#[47]⟩:ByteArray).size≤maxStr∧((txI a.num)++(⟨#[47]⟩:ByteArray)).size+(dec a.den).size≤maxStr:=by
 have h1:=txI_size ha.1
 have h2:=dec_size ha.2
 have e:(⟨#[47]⟩:ByteArray).size=1:=rfl
 constructor
 ·show _≤9223372036854775807;omega
 ·rw [ByteArray.size_append];show _≤9223372036854775807;omega
theorem rFormat_ev (ha:Sm 1024 a):Ev (fun k=>FX44 k (fr a)) (fmt a,0):=by
 have h1:=rCk_ev (fr a)
 rw [rck_fr ha]at h1
 have h2:=iFormat_ev ha.1
 obtain⟨c1,c2⟩:=fmt_sz ha
 unfold fmt
 by_cases hd:a.den=1
 ·rw [if_pos hd]
  have e1:((nat a.den).toList==(⟨#[1]⟩:ByteArray).toList)=true:=by rw [e_one,hd];rfl
  refine evE (evC h1 h2) ?_
  rintro k ⟨h1,h2⟩
  try dsimp only [fr]at h1 h2
  show FX44 _ _=_
  unfold FX44 B44
  simp only [fr,FX94,FX95,Ya,Yb,Yc,Yd,Ye,Yf,Yg,Yh,Yi,Yj,Int.reduceEq,reduceCtorEq,Yk,Yl,Ym,Yn,Yo,Yp,Yq,Yr,Ys,Yt,Yu,Yv,Yw,Yx,Yy,Yz,YA,YB,h1,h2,e1]
 ·rw [if_neg hd]
  have h3:=Go.Proofs.YtjllholdppjllaaGreatN.Format_ev ha.2
  refine evE (evC h1 (evC h2 h3)) ?_
  rintro k ⟨h1,h2,h3⟩
  try dsimp only [fr]at h1 h2 h3
  show FX44 _ _=_
  unfold FX44 B44
  simp only [fr,FX94,FX95,Ya,Yb,Yc,Yd,Ye,Yf,Yg,Yh,Yi,Yj,Int.reduceEq,reduceCtorEq,Yk,Yl,Ym,Yn,Yo,Yp,Yq,Yr,Ys,Yt,Yu,Yv,Yw,Yx,Yy,Yz,YA,YB,h1,h2,h3,e_one,hd,c1,c2]
theorem rFormat_err {x:FV} (h:rck x≠0):Ev (fun k=>FX44 k x) (⟨#[]⟩,rck x):=by
 have h1:=rCk_ev x
 refine evE h1 ?_
 rintro k h1
 try dsimp only [fr]at h1
 show FX44 _ _=_
 unfold FX44 B44
 simp only [fr,FX94,FX95,Ya,Yb,Yc,Yd,Ye,Yf,Yg,Yh,Yi,Yj,Int.reduceEq,reduceCtorEq,Yk,Yl,Ym,Yn,Yo,Yp,Yq,Yr,Ys,Yt,Yu,Yv,Yw,Yx,Yy,Yz,YA,YB,h1,h]
theorem refFormat_ev (ha:Sm 1024 a):Ev (fun k=>FX47 k (fr a)) (fmt a):=by
 have h2:=RFormat_ev ha.1
 obtain⟨c1,c2⟩:=fmt_sz ha
 unfold fmt
 by_cases hd:a.den=1
 ·rw [if_pos hd]
  have e1:((nat a.den).toList==(⟨#[1]⟩:ByteArray).toList)=true:=by rw [e_one,hd];rfl
  refine evE h2 ?_
  rintro k h2
  try dsimp only [fr]at h2
  show FX47 _ _=_
  unfold FX47 B47
  simp only [fr,FX102,FX103,Ya,Yb,Yc,Yd,Ye,Yf,Yg,Yh,Yi,Yj,Int.reduceEq,reduceCtorEq,Yk,Yl,Ym,Yn,Yo,Yp,Yq,Yr,Ys,Yt,Yu,Yv,Yw,Yx,Yy,Yz,YA,YB,h2,e1]
 ·rw [if_neg hd]
  have h3:=Go.Proofs.YtjllholdppjllaaGreatN.rFormat_ev (n:=a.den) (Nat.le_trans ha.2 (by decide))
  refine evE (evC h2 h3) ?_
  rintro k ⟨h2,h3⟩
  try dsimp only [fr]at h2 h3
  show FX47 _ _=_
  unfold FX47 B47
  simp only [fr,FX102,FX103,Ya,Yb,Yc,Yd,Ye,Yf,Yg,Yh,Yi,Yj,Int.reduceEq,reduceCtorEq,Yk,Yl,Ym,Yn,Yo,Yp,Yq,Yr,Ys,Yt,Yu,Yv,Yw,Yx,Yy,Yz,YA,YB,h2,h3,e_one,hd,c1,c2]
end
section
variable {a b c:ByteArray}
theorem toList_app:(a++b).data.toList=a.data.toList++b.data.toList:=by rw [ByteArray.data_append,Array.toList_append]
theorem dl_len:a.data.toList.length=a.size:=Array.length_toList
theorem bt_app1 {j:Nat} (h:j<a.size):bt (a++b) (j:Int)=bt a (j:Int):=by
 have h':j<(a++b).size:=by rw [ByteArray.size_append];omega
 rw [bt_get h',bt_get h]
 congr 2
 exact(List.getElem_of_eq toList_app _).trans (List.getElem_append_left _)
theorem bt_app2 {j:Nat} (h:j<b.size):bt (a++b) ((a.size+j:Nat):Int)=bt b (j:Int):=by
 have h':a.size+j<(a++b).size:=by rw [ByteArray.size_append];omega
 rw [bt_get h',bt_get h]
 congr 2
 refine(List.getElem_of_eq toList_app _).trans ?_
 rw [List.getElem_append_right (by rw [dl_len];omega)]
 congr 1
 rw [dl_len];omega
theorem ext_0:((a++b)++c).extract 0 a.size=a:=by
 apply ByteArray.ext
 apply Array.ext'
 rw [ByteArray.data_extract,Array.toList_extract,toList_app,toList_app]
 show List.take (a.size-0) (List.drop 0 _)=_
 rw [List.drop_zero,Nat.sub_zero,List.append_assoc,List.take_left' dl_len]
theorem ext_1:((a++b)++c).extract (a.size+b.size) ((a++b)++c).size=c:=by
 apply ByteArray.ext
 apply Array.ext'
 rw [ByteArray.data_extract,Array.toList_extract,toList_app,toList_app]
 show List.take (((a++b)++c).size-(a.size+b.size)) (List.drop (a.size+b.size) _)=_
 rw [List.drop_left' (by rw [List.length_append,dl_len,dl_len]),List.take_of_length_le]
 rw [dl_len,ByteArray.size_append,ByteArray.size_append];omega
end
theorem dec_300 {n:Nat} (h:(nat n).size≤300):(dec n).size≤900:=by
 obtain⟨_,_,_,h4⟩:=dec_digits n
 have h5:=d10_len h
 rw [h4]
 split<;>omega
theorem txI_300 {x:Int} (h:(ab x).size≤300):(txI x).size≤901:=by
 have hd:=dec_300 h
 unfold txI
 split
 ·rw [minus_size];omega
 ·omega
theorem noSl_dec (n:Nat):NoSl (dec n):=by
 intro j hj h
 obtain⟨d1,_,_,_⟩:=dec_digits n
 have:=(d1 j hj).1
 omega
theorem noSl_minus {d:ByteArray} (h:NoSl d):NoSl (minus d):=by
 intro j hj
 rcases Nat.eq_zero_or_pos j with e|e
 ·subst e
  have:=minus_bt d
  show bt (minus d) 0≠47
  omega
 ·obtain⟨i,rfl⟩:∃i,j=1+i:=⟨j-1,by omega⟩
  rw [minus_size]at hj
  have g:=bt_app2 (a:=⟨#[45]⟩) (b:=d) (j:=i) (by omega)
  have g2:bt (minus d) ((1+i:Nat):Int)=bt d (i:Int):=g
  rw [g2]
  exact h i (by omega)
theorem noSl_txI (x:Int):NoSl (txI x):=by
 unfold txI
 split
 ·exact noSl_minus (noSl_dec _)
 ·exact noSl_dec _
theorem sl_mid {a c:ByteArray} (h:NoSl a):Sl ((a++⟨#[47]⟩)++c) a.size:=by
 have e:(⟨#[47]⟩:ByteArray).size=1:=rfl
 refine⟨by rw [ByteArray.size_append,ByteArray.size_append];omega,?_,fun j hj=>?_⟩
 ·rw [bt_app1 (by rw [ByteArray.size_append];omega)]
  have g:=bt_app2 (a:=a) (b:=⟨#[47]⟩) (j:=0) (by decide)
  rw [Nat.add_zero]at g
  rw [g];exact bt47
 ·rw [bt_app1 (by rw [ByteArray.size_append];omega),bt_app1 hj]
  exact h j hj
theorem rback_ev {a:Rat} (ha:Sm 300 a):Ev (fun k=>FX45 k (fmt a)) (okv a):=by
 have hx:(ab a.num).size≤1024:=Nat.le_trans ha.1 (by decide)
 have hd:(nat a.den).size≤1024:=Nat.le_trans ha.2 (by decide)
 have h1:=iback_ev hx
 rw [←ibnd_ok hx]at h1
 have s1:=txI_size hx
 have s2:=dec_size hd
 have hr:Nat.gcd a.num.natAbs a.den=1:=a.reduced
 unfold fmt
 by_cases hd1:a.den=1
 ·rw [if_pos hd1]
  have h2:=Parse_no (by omega) (cut_no (noSl_txI a.num)) h1
  have e:made false a.num 1=okv a:=by
   unfold made okv
   rw [if_neg (by have:=nat1b;omega),if_neg (by simp),if_pos (Nat.gcd_one_right _),hd1]
  rwa [e]at h2
 ·rw [if_neg hd1]
  have hs:=sl_mid (c:=dec a.den) (noSl_txI a.num)
  have sz:((txI a.num++⟨#[47]⟩)++dec a.den).size=(txI a.num).size+1+(dec a.den).size:=by rw [ByteArray.size_append,ByteArray.size_append];rfl
  have hc:=cut_at hs (by omega)
  rw [ext_0,show(txI a.num).size+1=(txI a.num).size+(⟨#[47]⟩:ByteArray).size from rfl,ext_1]at hc
  have h3:=Parse_ev (s:=dec a.den) (by omega)
  rw [parse_dec hd,←bnd_ok hd]at h3
  have h2:=Parse_sl (by have g1:=dec_300 ha.2;have g2:=txI_300 ha.1;omega) hc h1 h3
  have e:made true a.num a.den=okv a:=by
   unfold made okv
   have:=a.den_nz
   rw [if_neg (by omega),if_neg (by omega),if_pos hr]
  rwa [e]at h2
theorem texts_ev (x:FV) (s:ByteArray):Ev (fun k=>FX9 k x s) true:=by
 have aw:=awake_ev
 have hl:Ev (fun k=>FX11 k x x 300) (lng x x 300):=lng_ev x x 300
 cases hc:lng x x 300 with
 |true=>
  rw [hc]at hl
  refine evE (evC aw hl) ?_
  rintro k ⟨aw,hl⟩
  try dsimp only [fr]at aw hl
  show FX9 _ _ _=_
  unfold FX9 B9
  simp only [fr,Ya,Yb,Yc,Yd,Ye,Yf,Yg,Yh,Yi,Yj,Int.reduceEq,reduceCtorEq,Yk,Yl,Ym,Yn,Yo,Yp,Yq,Yr,Ys,Yt,Yu,Yv,Yw,Yx,Yy,Yz,YA,YB,aw,hl]
 |false=>
  rw [hc]at hl
  by_cases c0:4200<(s.size:Int)
  ·refine evE (evC aw hl) ?_
   rintro k ⟨aw,hl⟩
   try dsimp only [fr]at aw hl
   show FX9 _ _ _=_
   unfold FX9 B9
   simp only [fr,Ya,Yb,Yc,Yd,Ye,Yf,Yg,Yh,Yi,Yj,Int.reduceEq,reduceCtorEq,Yk,Yl,Ym,Yn,Yo,Yp,Yq,Yr,Ys,Yt,Yu,Yv,Yw,Yx,Yy,Yz,YA,YB,aw,hl,c0]
  ·obtain⟨z,h1,h2⟩:=parse_both s
   have hck:=RCk_ev x
   by_cases hx:rck x=0
   ·rw [hx]at hck
    obtain⟨a,rfl,sa⟩:=rck_zero hx
    have sm:=(lng_sm hc).1
    have h3:=rFormat_ev sa
    have h4:=refFormat_ev sa
    have h5:=rback_ev sm
    refine evE (evC aw (evC hl (evC hck (evC h1 (evC h2 (evC h3 (evC h4 h5))))))) ?_
    rintro k ⟨aw,hl,hck,h1,h2,h3,h4,h5⟩
    try dsimp only [fr]at aw hl hck h1 h2 h3 h4 h5
    show FX9 _ _ _=_
    unfold FX9 B9
    simp only [fr,Ya,Yb,Yc,Yd,Ye,Yf,Yg,Yh,Yi,Yj,Int.reduceEq,reduceCtorEq,Yk,Yl,Ym,Yn,Yo,Yp,Yq,Yr,Ys,Yt,Yu,Yv,Yw,Yx,Yy,Yz,YA,YB,aw,hl,hck,h1,h2,h3,h4,h5,c0,okv]
   ·have h3:=rFormat_err hx
    refine evE (evC aw (evC hl (evC hck (evC h1 (evC h2 h3))))) ?_
    rintro k ⟨aw,hl,hck,h1,h2,h3⟩
    try dsimp only [fr]at aw hl hck h1 h2 h3
    show FX9 _ _ _=_
    unfold FX9 B9
    simp only [fr,Ya,Yb,Yc,Yd,Ye,Yf,Yg,Yh,Yi,Yj,Int.reduceEq,reduceCtorEq,Yk,Yl,Ym,Yn,Yo,Yp,Yq,Yr,Ys,Yt,Yu,Yv,Yw,Yx,Yy,Yz,YA,YB,aw,hl,hck,h1,h2,h3,c0,hx]
theorem law9_ev (a0:Bool) (a1 a2:ByteArray) (s:ByteArray):Ev (fun k=>FX9 k ((a0,a1),a2) s) true:=texts_ev _ _
end Go.Proofs.YtjllholdppjllaaGreatV
namespace Go.Proofs.YtjllholdppjllaaGreatJ
open Go Go.ChangeShapes Go.WideShapes Go.ChangeAt
variable {H:Type} {enc:TypeId×Value→H} {P:Program} {w:World} {base:Nat} {spare:Nat→Bool} {held:Bool}
structure RatTy (P:Program) (t:TypeId) (g0 g1 f0 f1:Field):Prop where
 s:P.underlying t=some (.struct #[g0,g1])
 i:P.underlying g0.type=some (.struct #[f0,f1])
 c:P.cellsOf t=3
 c0:P.cellsOf g0.type=2
 c1:P.cellsOf g1.type=1
 k0:P.cellsOf f0.type=1
 k1:P.cellsOf f1.type=1
 o0:g0.offset=0
 o1:g1.offset=2
 p0:f0.offset=0
 p1:f1.offset=1
variable {t:TypeId} {g0 g1 f0 f1:Field}
theorem open_rat {r:Reach} {b0:Nat} {v:Value} {d:DataW H} {p:List MemPlace} (R:RatTy P t g0 g1 f0 f1)
  (hv:Value.okWide P w r b0 t v) (h:DataW.Trod enc P w base spare held t v d p):
  ∃(v0 v1 v2:Value) (y0 y1 y2:DataW H×List MemPlace) (n m:Nat),v= .agg #[v0,v1,v2]∧d= .agg [.agg [y0.1,y1.1],y2.1]∧p=(y0.2++y1.2)++y2.2∧
   DataW.trod enc P w base spare held n f0.type [v0]=some y0∧DataW.trod enc P w base spare held n f1.type [v1]=some y1∧DataW.trod enc P w base spare held m g1.type [v2]=some y2:=by
 obtain⟨cs,rfl,hsz⟩:=okWide_struct R.s hv
 obtain⟨c0,c1,c2,rfl⟩:=Go.Joins.array3 (hsz.trans R.c)
 obtain⟨fuel,hf⟩:=h
 obtain⟨z0,z1,m,hx,_,h0,h1⟩:=trod_struct2 R.s hf
 rw [R.o0,R.c0]at h0
 rw [R.o1,R.c1]at h1
 obtain⟨y0,y1,n,hz,_,q0,q1⟩:=trod_struct2 R.i h0
 rw [R.p0,R.k0]at q0
 rw [R.p1,R.k1]at q1
 simp only [Prod.mk.injEq]at hx
 refine⟨c0,c1,c2,y0,y1,z1,n,m,rfl,?_,?_,by simpa [Value.cells]using q0,by simpa [Value.cells]using q1,by simpa [Value.cells]using h1⟩
 ·rw [hx.1,hz]
 ·rw [hx.2,hz]
theorem shut_rat {v0 v1 v2:Value} {y0 y1 y2:DataW H×List MemPlace} (R:RatTy P t g0 g1 f0 f1)
  (t0:∃n,DataW.trod enc P w base spare held n f0.type [v0]=some y0) (t1:∃n,DataW.trod enc P w base spare held n f1.type [v1]=some y1) (t2:∃n,DataW.trod enc P w base spare held n g1.type [v2]=some y2):
  DataW.Trod enc P w base spare held t (.agg #[v0,v1,v2]) (.agg [.agg [y0.1,y1.1],y2.1]) ((y0.2++y1.2)++y2.2):=by
 obtain⟨n0,t0⟩:=t0
 obtain⟨n1,t1⟩:=t1
 obtain⟨n2,t2⟩:=t2
 have ti:=trod_struct2_mk (enc:=enc) (w:=w) (base:=base) (spare:=spare) (held:=held) (n:=n0+n1+n2) (cs:=[v0,v1]) R.i (by simp [R.c0])
  (by rw [R.p0,R.k0];simpa using DataW.trod_le (show n0≤n0+n1+n2 by omega) t0) (by rw [R.p1,R.k1];simpa using DataW.trod_le (show n1≤n0+n1+n2 by omega) t1)
 have ts:=trod_struct2_mk (enc:=enc) (w:=w) (base:=base) (spare:=spare) (held:=held) (n:=n0+n1+n2+1) (cs:=[v0,v1,v2]) R.s (by simp [R.c])
  (by rw [R.o0,R.c0];simpa using ti) (by rw [R.o1,R.c1];simpa using DataW.trod_le (show n2≤n0+n1+n2+1 by omega) t2)
 exact⟨_,by simpa [Value.cells]using ts⟩
end Go.Proofs.YtjllholdppjllaaGreatJ
namespace Go.Proofs.YtjllholdppjllaaGreat.Pure
open Go Go.RowKit Go.Proofs.YtjllholdppjllaaGreat.All Go.Proofs.YtjllholdppjllaaGreatN Go.Proofs.YtjllholdppjllaaGreatW.PrintWords Go.Proofs.YtjllholdppjllaaGreatW.PrintLast
theorem RationalTexts (a0:Bool) (a1 a2:ByteArray) (s:ByteArray) (w:World):
    Calls Tryz.prog 9 #[.agg #[.bool a0, .string a1, .string a2], .string s] w fun e w'=>e= .returned (.bool true)∧Below w.heap.size w w':=
  Go.Proofs.YtjllholdppjllaaGreatV.calls9 a0 a1 a2 s (Go.Proofs.YtjllholdppjllaaGreatV.law9_ev a0 a1 a2 s).rounds w
end Go.Proofs.YtjllholdppjllaaGreat.Pure
