/- Part of the proof of the statement RationalPowers: lemmas on the model's steps, Lean functions that say what the program's functions compute, and proofs that the calls do just that. No hypothesis is added. -/
import Derived.Test.YtjllholdppjllaaGreatKRationalPowers4
set_option linter.all false
namespace Go.Proofs.YtjllholdppjllaaGreatN
open Go.RowKit Go.Proofs.YtjllholdppjllaaGreat.All Go.Proofs.YtjllholdppjllaaGreatW.PrintWords Go.Proofs.YtjllholdppjllaaGreatW.PrintLast Go.Proofs.YtjllholdppjllaaGreatW.PrintMore
theorem step_ev {u v:List Int} {n:Nat} (hn:v.length=n+2) (ln:n≤1099511627000) (hu:Dig B64 u) (hv:Dig B64 v) (hl:u.length=n+3) (ht:rd v ((n+1:Nat):Int)≠0) (hlt:vB B64 u<vB B64 v*B64):
  ∃z,z.length=n+3∧Dig B64 z∧vB B64 z=vB B64 u%vB B64 v∧Ev (fun k=>exact_step.f k u v) (vB B64 u/vB B64 v,z):=by
 have hB:(0:Int)<B64:=by decide
 obtain⟨lv,lv0,lv1,eV⟩:=split2 hv hn
 obtain⟨lu,lu0,lu1,eU⟩:=split3 hu hl
 have hP:(0:Int)<B64^n:=Int.pow_pos hB
 obtain⟨y0,y1⟩:=Dig_rd hv (n+1) (by clear lv1 lu1 eV eU;omega)
 obtain⟨w0,w1⟩:=Dig_rd hv n (by clear lv1 lu1 eV eU;omega)
 obtain⟨t0,t1⟩:=Dig_rd hu n (by clear lv1 lu1 eV eU;omega)
 obtain⟨p0,p1⟩:=Dig_rd hu (n+1) (by clear lv1 lu1 eV eU;omega)
 obtain⟨x0,x1⟩:=Dig_rd hu (n+2) (by clear lv1 lu1 eV eU;omega)
 have y2:1≤rd v ((n+1:Nat):Int):=by clear lv1 lu1 eV eU;omega
 have hW:B64≤rd v (n:Int)+B64*rd v ((n+1:Nat):Int):=by
  have:B64*1≤B64*rd v ((n+1:Nat):Int):=Int.mul_le_mul_of_nonneg_left y2 (Int.le_of_lt hB)
  rw [Int.mul_one]at this
  clear lv1 lu1 eV eU;omega
 have hV0:0<vB B64 v:=by
  have:0<B64^n*(rd v (n:Int)+B64*rd v ((n+1:Nat):Int)):=Int.mul_pos hP (Int.lt_of_lt_of_le hB hW)
  generalize B64^n*(rd v (n:Int)+B64*rd v ((n+1:Nat):Int))=A at*
  clear lv1 lu1 eU;omega
 have hQ0:0≤vB B64 u/vB B64 v:=Int.ediv_nonneg (vB_nonneg (Int.le_of_lt hB) hu) (Int.le_of_lt hV0)
 have hQ1:vB B64 u/vB B64 v<B64:=Int.ediv_lt_of_lt_mul hV0 (by rw [Int.mul_comm];exact hlt)
 have hX:(vB B64 u/vB B64 v)*rd v ((n+1:Nat):Int)≤rd u ((n+1:Nat):Int)+B64*rd u ((n+2:Nat):Int):=by
  have h1:=Int.ediv_mul_le (vB B64 u) (show vB B64 v≠0 by clear lv1 lu1 eV eU;omega)
  generalize vB B64 u/vB B64 v=Q at*
  rw [eV,eU]at h1
  have e1:Q*(lv+B64^n*(rd v (n:Int)+B64*rd v ((n+1:Nat):Int)))=Q*lv+Q*(B64^n*rd v (n:Int))+B64^n*(B64*(Q*rd v ((n+1:Nat):Int))):=by
   rw [Int.mul_add Q,Int.mul_add (B64^n),Int.mul_add Q,Int.mul_left_comm Q (B64^n) (B64*_),Int.mul_left_comm Q B64,Int.add_assoc]
  rw [e1]at h1
  have h2:0≤Q*lv:=Int.mul_nonneg hQ0 lv0
  have h3:0≤Q*(B64^n*rd v (n:Int)):=Int.mul_nonneg hQ0 (Int.mul_nonneg (Int.le_of_lt hP) w0)
  rcases Int.lt_or_le (rd u ((n+1:Nat):Int)+B64*rd u ((n+2:Nat):Int)) (Q*rd v ((n+1:Nat):Int))with h|h
  ·exfalso
   have h4:B64*(rd u ((n+1:Nat):Int)+B64*rd u ((n+2:Nat):Int)+1)≤B64*(Q*rd v ((n+1:Nat):Int)):=Int.mul_le_mul_of_nonneg_left (by clear lv1 lu1 eV eU h1 e1;omega) (Int.le_of_lt hB)
   have h5:=Int.mul_le_mul_of_nonneg_left h4 (Int.le_of_lt hP)
   have h6:B64^n*(rd u (n:Int)+1)≤B64^n*B64:=Int.mul_le_mul_of_nonneg_left (by clear lv1 lu1 eV eU h1 e1 h5;omega) (Int.le_of_lt hP)
   rw [Int.mul_add B64,Int.mul_one,Int.mul_add (B64^n)]at h5
   rw [Int.mul_add (B64^n) (rd u (n:Int)),Int.mul_one]at h6
   rw [Int.mul_add (B64^n) (rd u (n:Int))]at h1
   generalize B64^n*(B64*(rd u ((n+1:Nat):Int)+B64*rd u ((n+2:Nat):Int)))=A at*
   generalize B64^n*(B64*(Q*rd v ((n+1:Nat):Int)))=A1 at*
   generalize B64^n*rd u (n:Int)=A2 at*
   generalize B64^n*B64=A3 at*
   generalize(B64:Int)^n=P at*
   clear eV eU e1 hV0 hQ1
   omega
  ·exact h
 have ew1:wrap64 (((n+2:Nat):Int)-1)=((n+1:Nat):Int):=by clear lv1 lu1 eV eU;rw [w64 (by omega) (by omega)];omega
 have c1:((n+2:Nat):Int)<(u.length:Int):=by clear lv1 lu1 eV eU ew1;omega
 have c2:((n+1:Nat):Int)<(v.length:Int):=by clear lv1 lu1 eV eU ew1;omega
 have c3:((n+1:Nat):Int)<(u.length:Int):=by clear lv1 lu1 eV eU ew1;omega
 have ev:(v.length:Int)=((n+2:Nat):Int):=by clear lv1 lu1 eV eU ew1;omega
 by_cases hc:rd u ((n+2:Nat):Int)≥rd v ((n+1:Nat):Int)
 ·
  have heq:rd u ((n+2:Nat):Int)=rd v ((n+1:Nat):Int):=by
   rcases Int.lt_or_le (rd v ((n+1:Nat):Int)) (rd u ((n+2:Nat):Int))with h|h
   ·exfalso
    have g1:B64*(rd v ((n+1:Nat):Int)+1)≤B64*rd u ((n+2:Nat):Int):=Int.mul_le_mul_of_nonneg_left (by clear lv1 lu1 eV eU;omega) (Int.le_of_lt hB)
    rw [Int.mul_add,Int.mul_one]at g1
    have g2:rd v (n:Int)+B64*rd v ((n+1:Nat):Int)+1≤rd u ((n+1:Nat):Int)+B64*rd u ((n+2:Nat):Int):=by clear lv1 lu1 eV eU;omega
    have g3:B64*(rd v (n:Int)+B64*rd v ((n+1:Nat):Int)+1)≤B64*(rd u ((n+1:Nat):Int)+B64*rd u ((n+2:Nat):Int)):=Int.mul_le_mul_of_nonneg_left g2 (Int.le_of_lt hB)
    have g4:=Int.mul_le_mul_of_nonneg_left g3 (Int.le_of_lt hP)
    rw [eV,eU,Int.add_mul,Int.mul_add (B64^n) (rd u (n:Int))]at hlt
    have g5:0≤B64^n*rd u (n:Int):=Int.mul_nonneg (Int.le_of_lt hP) t0
    have g6:lv*B64<B64^n*B64:=Int.mul_lt_mul_of_pos_right lv1 hB
    rw [Int.mul_add B64,Int.mul_one,Int.mul_add (B64^n)]at g4
    have e2:B64^n*(rd v (n:Int)+B64*rd v ((n+1:Nat):Int))*B64=B64^n*(B64*(rd v (n:Int)+B64*rd v ((n+1:Nat):Int))):=by rw [Int.mul_assoc,Int.mul_comm _ B64]
    rw [e2]at hlt
    generalize B64^n*(B64*(rd u ((n+1:Nat):Int)+B64*rd u ((n+2:Nat):Int)))=A at*
    generalize B64^n*(B64*(rd v (n:Int)+B64*rd v ((n+1:Nat):Int)))=A1 at*
    generalize B64^n*rd u (n:Int)=A2 at*
    generalize B64^n*B64=A3 at*
    generalize lv*B64=A4 at*
    clear eV eU e2 hV0 hQ1 hX lv1 lu1
    omega
   ·clear lv1 lu1 eV eU;omega
  have a2:=add64_eq p0 y0 (Int.le_refl 0) (by decide)
  have hov:=add_range p0 p1 y0 y1 (Int.le_refl 0) (by decide)
  have he2:=Int.emod_add_mul_ediv (rd u ((n+1:Nat):Int)+rd v ((n+1:Nat):Int)+0) B64
  have hd:(18446744073709551615:Int)=vB B64 u/vB B64 v+((18446744073709551615-vB B64 u/vB B64 v).toNat:Nat):=by
   have:vB B64 u/vB B64 v<18446744073709551616:=hQ1
   clear lv1 lu1 eV eU;omega
  obtain⟨z,z1,z2,z3,z4⟩:=step_l0 hn ln hu hv hl ht _ 18446744073709551615 _ _ hd (by decide) (by decide) (Int.emod_nonneg _ (by decide)) (Int.emod_lt_of_pos _ hB) (show(rd u ((n+1:Nat):Int)+rd v ((n+1:Nat):Int)+0)/B64=0∨(rd u ((n+1:Nat):Int)+rd v ((n+1:Nat):Int)+0)/B64=1 by clear lv1 lu1 eV eU;omega) (by
   rw [he2,heq]
   show 18446744073709551615*rd v ((n+1:Nat):Int)+(rd u ((n+1:Nat):Int)+rd v ((n+1:Nat):Int)+0)=rd u ((n+1:Nat):Int)+18446744073709551616*rd v ((n+1:Nat):Int)
   clear lv1 lu1 eV eU;omega)
  refine⟨z,z1,z2,z3,Ev.congr (fun k=>?_) (Ev.step (f:=_) (fun k=>rfl) z4:Ev (fun k=>exact_step.j0 k u v ((n+2:Nat):Int) 18446744073709551615 ((rd u ((n+1:Nat):Int)+rd v ((n+1:Nat):Int)+0)%B64) ((rd u ((n+1:Nat):Int)+rd v ((n+1:Nat):Int)+0)/B64)) _)⟩
  unfold exact_step.f
  rw [ev,ew1,if_pos (Int.natCast_nonneg _),if_pos c1,if_pos (Int.natCast_nonneg _),if_pos (by rw [←ev];exact c2),if_pos hc,if_pos c3,a2,Option.bind_some]
 ·have hq:=div64_ev x0 (show rd u ((n+2:Nat):Int)<rd v ((n+1:Nat):Int)by clear lv1 lu1 eV eU;omega) y1 p0 p1
  have hyp:0<rd v ((n+1:Nat):Int):=by clear lv1 lu1 eV eU;omega
  have g:=Int.emod_add_mul_ediv (rd u ((n+2:Nat):Int)*B64+rd u ((n+1:Nat):Int)) (rd v ((n+1:Nat):Int))
  have r0:=Int.emod_nonneg (rd u ((n+2:Nat):Int)*B64+rd u ((n+1:Nat):Int)) (show rd v ((n+1:Nat):Int)≠0 from ht)
  have r1:=Int.emod_lt_of_pos (rd u ((n+2:Nat):Int)*B64+rd u ((n+1:Nat):Int)) hyp
  have q0:0≤(rd u ((n+2:Nat):Int)*B64+rd u ((n+1:Nat):Int))/rd v ((n+1:Nat):Int):=Int.ediv_nonneg (Int.add_nonneg (Int.mul_nonneg x0 (Int.le_of_lt hB)) p0) (Int.le_of_lt hyp)
  have q1:(rd u ((n+2:Nat):Int)*B64+rd u ((n+1:Nat):Int))/rd v ((n+1:Nat):Int)<B64:=Int.ediv_lt_of_lt_mul hyp (by
   have h1:=Int.mul_le_mul_of_nonneg_right (show rd u ((n+2:Nat):Int)+1≤rd v ((n+1:Nat):Int)by clear lv1 lu1 eV eU;omega) (Int.le_of_lt hB)
   rw [Int.add_mul,Int.one_mul,Int.mul_comm (rd v _)]at h1
   clear lv1 lu1 eV eU;omega)
  have hQq:vB B64 u/vB B64 v≤(rd u ((n+2:Nat):Int)*B64+rd u ((n+1:Nat):Int))/rd v ((n+1:Nat):Int):=Int.le_ediv_of_mul_le hyp (by rw [Int.mul_comm (rd u _) B64,Int.add_comm];exact hX)
  obtain⟨z,z1,z2,z3,z4⟩:=step_l0 hn ln hu hv hl ht ((rd u ((n+2:Nat):Int)*B64+rd u ((n+1:Nat):Int))/rd v ((n+1:Nat):Int)-vB B64 u/vB B64 v).toNat ((rd u ((n+2:Nat):Int)*B64+rd u ((n+1:Nat):Int))/rd v ((n+1:Nat):Int)) ((rd u ((n+2:Nat):Int)*B64+rd u ((n+1:Nat):Int))%rd v ((n+1:Nat):Int)) 0 (by clear lv1 lu1 eV eU;omega) q0 q1 r0 (Int.lt_trans r1 y1) (Or.inl rfl) (by
   rw [Int.mul_zero,Int.add_zero,Int.mul_comm]
   rw [Int.mul_comm (rd u _) B64]at g⊢
   clear lv1 lu1 eV eU;omega)
  refine⟨z,z1,z2,z3,Ev.congr (f:=fun k=>(bits_Div64.f k (rd u ((n+2:Nat):Int)) (rd u ((n+1:Nat):Int)) (rd v ((n+1:Nat):Int))).bind fun bt=>exact_step.j0 k u v ((n+2:Nat):Int) bt.1 bt.2 0) (fun k=>?_) (Ev.bind hq (Ev.step (f:=_) (fun k=>rfl) z4))⟩
  unfold exact_step.f
  rw [ev,ew1,if_pos (Int.natCast_nonneg _),if_pos c1,if_pos (Int.natCast_nonneg _),if_pos (by rw [←ev];exact c2),if_neg hc,if_pos c3]
theorem drop_succ (B:Int) (l:List Int) (i:Nat) (h:i<l.length):vB B (l.drop i)=rd l (i:Int)+B*vB B (l.drop (i+1)):=by
 rw [List.drop_eq_getElem_cons h,vB_cons,rd_get l i h]
theorem drop_set (l:List Int) (i:Nat) (x:Int):(l.set i x).drop (i+1)=l.drop (i+1):=by
 apply List.ext_getElem?
 intro j
 rw [List.getElem?_drop,List.getElem?_drop,List.getElem?_set_ne (by omega)]
theorem vB_far (B:Int) {l:List Int} {n:Nat} (h:l.length≤n):vB B (l.drop n)=0:=by rw [List.drop_of_length_le h];rfl
theorem divide_l0 {a b:List Int} {y:Int} (ha:Dig B64 a) (la:a.length≤1099511627776) (hb:b.length=1) (hy:rd b 0=y) (y0:0<y) (y1:y<B64) {m n:Nat} (hm:vB B64 a=m) (hn:y=n):∀(i:Nat) (q:List Int) (r:Int),i≤a.length→q.length=a.length→Dig B64 q→0≤r→r<y→vB B64 (a.drop i)=y*vB B64 (q.drop i)+r→
  Ev (fun k=>exact_divide.l0 k a b q r ((i:Int)-1)) (d64 (m/n),d64 (m%n)):=by
 intro i
 induction i with
 |zero=>
  intro q r _ hl hd r0 r1 hv
  rw [List.drop_zero,List.drop_zero,hm,hn]at hv
  have hq0:=vB_nonneg (by decide) hd
  have e1:(vB B64 q).toNat=m/n:=by
   have:(vB B64 q)=((m/n:Nat):Int):=by
    rw [Int.natCast_ediv,hv,Int.add_comm,Int.add_mul_ediv_left _ _ (by omega),Int.ediv_eq_zero_of_lt r0 (by omega),Int.zero_add]
   rw [this,Int.toNat_natCast]
  have e2:(vB B64 [r]).toNat=m%n:=by
   have:(vB B64 [r])=((m%n:Nat):Int):=by
    rw [Int.natCast_emod,hv,Int.add_comm,Int.add_mul_emod_self_left,Int.emod_eq_of_lt r0 (by omega)]
    simp [vB]
   rw [this,Int.toNat_natCast]
  have t1:=trim_ev hd (by omega)
  have t2:=trim_ev (l:=[r]) (Dig_cons.2 ⟨⟨r0,Int.lt_trans r1 y1⟩,Dig_nil _⟩) (by simp)
  rw [e1]at t1
  rw [e2]at t2
  refine Ev.step (f:=fun k=>(exact_trim.f k q).bind fun t173=>((exact_trim.f k [r]).bind fun t179=>some (t173,t179))) (fun k=>?_) (Ev.bind t1 (Ev.bind (f:=fun _ t179=>some (d64 (m/n),t179)) t2 (Ev.now _)))
  simp only [exact_divide.l0]
  rw [if_neg (by decide)]
 |succ i ih=>
  intro q r hi hl hd r0 r1 hv
  have hi':i<a.length:=by omega
  obtain⟨x0,x1⟩:=Dig_rd ha i hi'
  have hdv:=div64_ev r0 r1 y1 x0 x1
  have g:=Int.emod_add_mul_ediv (r*B64+rd a (i:Int)) y
  have g0:=Int.emod_nonneg (r*B64+rd a (i:Int)) (show y≠0 by omega)
  have g1:=Int.emod_lt_of_pos (r*B64+rd a (i:Int)) y0
  have d0:0≤(r*B64+rd a (i:Int))/y:=Int.ediv_nonneg (Int.add_nonneg (Int.mul_nonneg r0 (by decide)) x0) (by omega)
  have d1:(r*B64+rd a (i:Int))/y<B64:=Int.ediv_lt_of_lt_mul y0 (by
   have h1:=Int.mul_le_mul_of_nonneg_right (show r+1≤y by omega) (show(0:Int)≤B64 by decide)
   rw [Int.add_mul,Int.one_mul,Int.mul_comm y]at h1
   omega)
  have e0:((i+1:Nat):Int)-1=(i:Int):=by omega
  have e1:wrap64 ((i:Int)-1)=(i:Int)-1:=w64 (by omega) (by omega)
  have c1:(i:Int)≥0:=by omega
  have c2:(i:Int)<(a.length:Int):=by omega
  have c3:(0:Int)<(b.length:Int):=by omega
  have c4:(i:Int)<(q.length:Int):=by omega
  rw [e0]
  refine Ev.step (f:=fun k=>(bits_Div64.f k r (rd a (i:Int)) y).bind fun bt170=>exact_divide.l0 k a b (q.set i bt170.1) bt170.2 ((i:Int)-1)) (fun k=>?_) (Ev.bind hdv (ih _ _ (by omega) (by rw [List.length_set];exact hl) (Dig_set hd _ d0 d1) g0 g1 ?_))
  ·simp only [exact_divide.l0,e1]
   rw [if_pos c1,if_pos c1,if_pos c2,if_pos c3,hy]
   simp only [if_pos c4,Int.toNat_natCast]
  ·show vB B64 (a.drop i)=y*vB B64 ((q.set i ((r*B64+rd a (i:Int))/y)).drop i)+(r*B64+rd a (i:Int))%y
   rw [drop_succ B64 a i hi',drop_succ B64 (q.set i ((r*B64+rd a (i:Int))/y)) i (by rw [List.length_set];omega),rd_set_self _ _ _ (by omega),drop_set,hv]
   rw [Int.mul_add B64,Int.mul_add y,Int.mul_left_comm y B64]
   rw [Int.mul_comm r B64]at*
   generalize y*((B64*r+rd a (i:Int))/y)=A at*
   generalize(B64*r+rd a (i:Int))%y=A2 at*
   generalize B64*(y*vB B64 (q.drop (i+1)))=A3 at*
   generalize B64*r=A4 at*
   clear hdv hv
   omega
def Down (u z:List Int) (s i:Nat):Prop:=
 z.length=u.length∧Dig B64 z∧(∀j:Nat,i≤j→rd z (j:Int)=rd u (j:Int))∧2^s*vB B64 (z.take i)=vB B64 (u.take i)+B64^i*(rd u (i:Int)%2^s)
theorem word_down {x y:Int} (x0:0≤x) (x1:x<B64) (y0:0≤y) (y1:y<B64) (s:Nat) (hs:s≤63):2^s*(x/2^s+(y*2^(64-s))%B64)=x-x%2^s+B64*(y%2^s)∧(y*2^(64-s))%B64%2^(64-s)=0∧x/2^s<2^(64-s)∧0≤x/2^s∧x/2^s+(y*2^(64-s))%B64<B64:=by
 have hP:(0:Int)<2^s:=Int.pow_pos (by decide)
 have hR:(0:Int)<2^(64-s):=Int.pow_pos (by decide)
 have hPR:(2:Int)^s*2^(64-s)=B64:=by
  rw [←Int.pow_add]
  have:s+(64-s)=64:=by omega
  rw [this]
  rfl
 have g:=Int.emod_add_mul_ediv y (2^s)
 have g0:=Int.emod_nonneg y (show(2:Int)^s≠0 by omega)
 have g1:=Int.emod_lt_of_pos y hP
 have g2:y*2^(64-s)=y%2^s*2^(64-s)+B64*(y/2^s):=by
  conv=>lhs;rw [←g]
  rw [Int.add_mul,Int.mul_right_comm,hPR]
 have g3:0≤y%2^s*2^(64-s):=Int.mul_nonneg g0 (Int.le_of_lt hR)
 have g4:y%2^s*2^(64-s)+2^(64-s)≤B64:=by
  have:=Int.mul_le_mul_of_nonneg_right (show y%2^s+1≤2^s by omega) (Int.le_of_lt hR)
  rwa [hPR,Int.add_mul,Int.one_mul]at this
 have g5:(y*2^(64-s))%B64=y%2^s*2^(64-s):=by
  rw [g2,Int.add_mul_emod_self_left,Int.emod_eq_of_lt g3 (by omega)]
 have k1:=Int.emod_add_mul_ediv x (2^s)
 have k2:x/2^s<2^(64-s):=Int.ediv_lt_of_lt_mul hP (by rw [Int.mul_comm,hPR];exact x1)
 refine⟨?_,by rw [g5];exact Int.mul_emod_left _ _,k2,Int.ediv_nonneg x0 (Int.le_of_lt hP),by rw [g5];omega⟩
 rw [g5,Int.mul_add,Int.mul_left_comm (2^s) (y%2^s),hPR,Int.mul_comm (y%2^s)]
 omega
theorem down_step {u z:List Int} {s i:Nat} (hs:s≤63) (hu:Dig B64 u) (hi:i+1<u.length) (h:Down u z s i):Down u (z.set i (rd u (i:Int)/2^s+(rd u ((i+1:Nat):Int)*2^(64-s))%B64)) s (i+1):=by
 obtain⟨hl,hd,hr,hv⟩:=h
 obtain⟨x0,x1⟩:=Dig_rd hu i (by omega)
 obtain⟨y0,y1⟩:=Dig_rd hu (i+1) hi
 obtain⟨a1,a2,a3,a4,a5⟩:=word_down x0 x1 y0 y1 s hs
 have a6:=Int.emod_nonneg (rd u ((i+1:Nat):Int)*2^(64-s)) (show(B64:Int)≠0 by decide)
 refine⟨by rw [List.length_set];exact hl,Dig_set hd _ (Int.add_nonneg a4 a6) a5,fun j hj=>?_,?_⟩
 ·rw [rd_set_ne _ _ _ _ (by omega)]
  exact hr j (by omega)
 ·rw [take_succ,take_succ,rd_set_self _ _ _ (by omega),List.take_set_of_le (Nat.le_refl _),Int.mul_add,hv,Int.mul_left_comm (2^s),a1,Int.pow_succ,Int.mul_assoc (B64^i) B64,Int.mul_add (B64^i),Int.mul_sub]
  generalize B64^i*(rd u (i:Int)%2^s)=A
  generalize B64^i*rd u (i:Int)=A1
  generalize B64^i*(B64*(rd u ((i+1:Nat):Int)%2^s))=A2
  omega
theorem divide_l2 {u q:List Int} {s N Q R:Nat} (hs:s≤63) (hu:Dig B64 u) (hN:N+1≤u.length) (lu:u.length≤1099511627780) (hq:Dig B64 q) (lq:q.length≤1099511627780) (hQ:vB B64 q=Q) (hR:vB B64 (u.take N)+B64^N*(rd u (N:Int)%2^s)=2^s*R):
  ∀(d i:Nat) (z:List Int),i+d=N→Down u z s i→Ev (fun k=>exact_divide.l2 k (s:Int) z (N:Int) q (N:Int) (i:Int)) (d64 Q,d64 R):=by
 intro d
 induction d with
 |zero=>
  intro i z hi h
  have hi:i=N:=by omega
  subst hi
  have hl:=h.1
  have c1:(i:Int)≤(z.length:Int):=by omega
  have lz:z.length<9223372036854775808:=by omega
  have lz2:(z.take i).length<9223372036854775808:=by rw [List.length_take];omega
  have lq2:q.length<9223372036854775808:=by omega
  obtain⟨-,hd, -,hv⟩:=h
  rw [hR]at hv
  have hv':vB B64 (z.take i)=R:=Int.eq_of_mul_eq_mul_left (show(2:Int)^s≠0 from Int.ne_of_gt (Int.pow_pos (by decide))) hv
  have t1:=trim_ev hq lq2
  have t2:=trim_ev (Dig_take hd i) lz2
  rw [hQ,Int.toNat_natCast]at t1
  rw [hv',Int.toNat_natCast]at t2
  refine Ev.step (f:=fun k=>(exact_trim.f k q).bind fun t208=>(exact_trim.f k (z.take i)).bind fun t214=>some (t208,t214)) (fun k=>?_) (Ev.bind t1 (Ev.bind (f:=fun _ t214=>some (d64 Q,t214)) t2 (Ev.now _)))
  simp only [exact_divide.l2]
  rw [if_neg (Int.lt_irrefl _)]
  simp only [if_pos c1,if_pos (Int.natCast_nonneg i),Int.toNat_natCast]
 |succ d ih=>
  intro i z hi h
  have hi':i<N:=by omega
  have c0:i+1+d=N:=by omega
  have hl:=h.1
  have c1:(i:Int)<(N:Int):=by omega
  have c2:(i:Int)<(z.length:Int):=by omega
  have c3:((i+1:Nat):Int)<(z.length:Int):=by omega
  have c4:i<z.length:=by omega
  have c5:i+1<u.length:=by omega
  have hn:=down_step hs hu c5 h
  have e1:wrap64 ((i:Int)+1)=((i+1:Nat):Int):=by clear hR;rw [w64 (by omega) (by omega)];omega
  have e2:wrap64 (64-(s:Int))=((64-s:Nat):Int):=by clear hR e1;rw [w64 (by omega) (by omega)];omega
  have g0:=h.2.2.1 i (Nat.le_refl _)
  have g1:=h.2.2.1 (i+1) (by clear hR e1 e2;omega)
  obtain⟨x0,x1⟩:=Dig_rd hu i (by clear hR e1 e2;omega)
  obtain⟨y0,y1⟩:=Dig_rd hu (i+1) c5
  obtain⟨a1,a2,a3,a4,a5⟩:=word_down x0 x1 y0 y1 s hs
  have a6:=Int.emod_nonneg (rd u ((i+1:Nat):Int)*2^(64-s)) (show(B64:Int)≠0 by decide)
  have a7:=Int.emod_lt_of_pos (rd u ((i+1:Nat):Int)*2^(64-s)) (show(0:Int)<B64 by decide)
  have sh1:shr .u64 (rd z (i:Int)) (s:Int)=rd u (i:Int)/2^s:=by rw [g0];exact shr_eq _ _ (by clear hR e1 e2 a1;omega)
  have sh2:shl .u64 (rd u ((i+1:Nat):Int)) ((64-s:Nat):Int)=(rd u ((i+1:Nat):Int)*2^(64-s))%B64:=shl_eq _ _ (by clear hR e1 e2 a1;omega)
  have hor:=bits_join2 (64-s) (by clear hR e1 e2 a1;omega) a4 a3 a6 a7 a2 a5
  have r1:rd (z.set i (rd u (i:Int)/2^s)) (i:Int)=rd u (i:Int)/2^s:=rd_set_self _ _ _ c4
  have r2:rd (z.set i (rd u (i:Int)/2^s)) ((i+1:Nat):Int)=rd u ((i+1:Nat):Int):=by rw [rd_set_ne _ _ _ _ (by clear hR e1 e2 a1;omega)];exact g1
  refine Ev.step (fun k=>?_) (ih (i+1) _ c0 hn)
  simp only [exact_divide.l2,e1,e2,sh1,Int.toNat_natCast,Option.bind_some]
  rw [if_pos c1,if_pos (Int.natCast_nonneg _),if_pos c2,if_pos (Int.natCast_nonneg _)]
  by_cases hs0:(s:Int)>0
  ·rw [if_pos hs0,if_pos c3,if_pos (Int.natCast_nonneg _),if_pos (Int.natCast_nonneg _),r1,r2,sh2,hor,List.set_set]
  ·rw [if_neg hs0]
   have hs1:s=0:=by clear hR e1 e2 a1;omega
   subst hs1
   have:(rd u ((i+1:Nat):Int)*2^(64-0))%B64=0:=Int.mul_emod_left _ _
   rw [this,Int.add_zero]
def Long (M V:Int) (L Lq:Nat) (u q:List Int) (J:Nat):Prop:=
 u.length=L∧Dig B64 u∧q.length=Lq∧Dig B64 q∧vB B64 (u.drop J)<V∧M=vB B64 u+V*(B64^J*vB B64 (q.drop J))
theorem long_step {M:Int} {L Lq N j:Nat} {u v q:List Int} (hv:Dig B64 v) (hN:v.length=N+2) (ln:N≤1099511627000) (ht:rd v ((N+1:Nat):Int)≠0) (hj:j+(N+2)+1≤L) (hjq:j<Lq) (h:Long M (vB B64 v) L Lq u q (j+1)):
  ∃d u',Long M (vB B64 v) L Lq u' (q.set j d) j∧Ev (fun k=>exact_stepAt.f k u v (j:Int) ((j+(N+2)+1:Nat):Int)) (d,u'):=by
 have hB:(0:Int)<B64:=by decide
 obtain⟨hl,hd,hlq,hdq,hlt,hM⟩:=h
 have hV1:=vB_lt hB hv
 rw [hN]at hV1
 have hVn:=vB_nonneg (Int.le_of_lt hB) hv
 obtain⟨w,hw⟩:∃w,w=(u.take (j+(N+2)+1)).drop j:=⟨_,rfl⟩
 have hwl:w.length=N+3:=by rw [hw,List.length_drop,List.length_take];omega
 have hwd:Dig B64 w:=by rw [hw];exact Dig_drop (Dig_take hd _) _
 have hwt:w=(u.drop j).take (N+3):=by rw [hw,List.drop_take];congr 1;omega
 have hdl:(u.drop j).length=L-j:=by rw [List.length_drop,hl]
 have s1:=vB_split B64 (u.drop j) (N+3) (by omega)
 rw [←hwt,List.drop_drop]at s1
 have s2:=vB_split B64 (u.drop (j+1)) (N+2) (by rw [List.length_drop];omega)
 rw [List.drop_drop,show j+1+(N+2)=j+(N+3)by omega]at s2
 have p1:=vB_nonneg (Int.le_of_lt hB) (Dig_take (Dig_drop hd (j+1)) (N+2))
 have p2:=vB_nonneg (Int.le_of_lt hB) (Dig_drop hd (j+(N+3)))
 have hz:vB B64 (u.drop (j+(N+3)))=0:=by
  rcases Int.lt_or_le (vB B64 (u.drop (j+(N+3)))) 1 with h|h
  ·clear hV1 s1 s2 hM hlt;omega
  ·exfalso
   have:=Int.mul_le_mul_of_nonneg_left h (Int.le_of_lt (show(0:Int)<B64^(N+2)from Int.pow_pos hB))
   rw [Int.mul_one]at this
   generalize(B64:Int)^(N+2)=P at*
   generalize P*vB B64 (u.drop (j+(N+3)))=A at*
   clear hM s1
   omega
 rw [hz,Int.mul_zero,Int.add_zero]at s1
 have s3:=drop_succ B64 u j (by omega)
 obtain⟨x0,x1⟩:=Dig_rd hd j (by omega)
 have hwlt:vB B64 w<vB B64 v*B64:=by
  rw [←s1,s3]
  have h1:=Int.mul_le_mul_of_nonneg_left (show vB B64 (u.drop (j+1))+1≤vB B64 v by clear hV1 s1 s2 hM s3;omega) (Int.le_of_lt hB)
  rw [Int.mul_add,Int.mul_one,Int.mul_comm B64 (vB B64 v)]at h1
  clear hV1 s1 s2 hM s3
  omega
 obtain⟨z,z1,z2,z3,z4⟩:=step_ev hN ln hwd hv hwl ht hwlt
 have hV0:0<vB B64 v:=by
  rcases Int.lt_or_le 0 (vB B64 v)with h|h
  ·exact h
  ·exfalso
   have:vB B64 v=0:=by clear hV1 s1 s2 hM s3 hwlt;omega
   rw [this,Int.zero_mul]at hwlt
   have:=vB_nonneg (Int.le_of_lt hB) hwd
   clear hV1 s1 s2 hM s3;omega
 have q0:0≤vB B64 w/vB B64 v:=Int.ediv_nonneg (vB_nonneg (Int.le_of_lt hB) hwd) (Int.le_of_lt hV0)
 have q1:vB B64 w/vB B64 v<B64:=Int.ediv_lt_of_lt_mul hV0 (by rw [Int.mul_comm];exact hwlt)
 have hdm:=Int.emod_add_mul_ediv (vB B64 w) (vB B64 v)
 have m1:=Int.emod_lt_of_pos (vB B64 w) hV0
 have htj:(u.take j).length=j:=by rw [List.length_take];omega
 have hdrop:(u.take j++z++u.drop (j+(N+2)+1)).drop j=z++u.drop (j+(N+3)):=by
  rw [List.append_assoc,List.drop_append_of_le_length (by omega),List.drop_of_length_le (by omega),List.nil_append]
  rfl
 have hvz:vB B64 (z++u.drop (j+(N+3)))=vB B64 z:=by rw [vB_append,hz,Int.mul_zero,Int.add_zero]
 refine⟨vB B64 w/vB B64 v,u.take j++z++u.drop (j+(N+2)+1),⟨?_,Dig_append (Dig_append (Dig_take hd _) z2) (Dig_drop hd _),by rw [List.length_set];exact hlq,Dig_set hdq _ q0 q1,?_,?_⟩,?_⟩
 ·rw [List.length_append,List.length_append,htj,z1,List.length_drop]
  clear hV1 s1 s2 hM s3 hwlt hdm;omega
 ·rw [hdrop,hvz,z3]
  exact m1
 ·have t1:=vB_split B64 u j (by clear hV1 s1 s2 hM s3 hwlt hdm;omega)
  have t2:vB B64 (u.take j++z++u.drop (j+(N+2)+1))=vB B64 (u.take j)+B64^j*vB B64 z:=by
   rw [List.append_assoc,vB_append,htj]
   congr 2
  rw [t2,z3,drop_succ B64 (q.set j (vB B64 w/vB B64 v)) j (by rw [List.length_set,hlq];exact hjq),rd_set_self _ _ _ (by rw [hlq];exact hjq),drop_set,hM,t1,s1,Int.pow_succ]
  generalize vB B64 (u.take j)=A
  generalize vB B64 (q.drop (j+1))=C
  generalize vB B64 w/vB B64 v=D at*
  generalize vB B64 w%vB B64 v=E at*
  rw [←hdm]
  generalize vB B64 v=V
  generalize(B64:Int)^j=P
  rw [Int.mul_add P E,Int.mul_add P D,Int.mul_add V (P*D),Int.mul_left_comm P V D,Int.mul_assoc P B64 C,Int.add_assoc,Int.add_assoc,Int.add_assoc]
 ·refine Ev.congr (f:=fun k=>(exact_step.f k w v).bind fun bt=>some (bt.1,u.take j++bt.2++u.drop (j+(N+2)+1))) (fun k=>?_) (Ev.bind z4 (Ev.now _))
  unfold exact_stepAt.f
  rw [Int.toNat_natCast,Int.toNat_natCast,←hw]
theorem divide_l1 {M:Int} {L Lq N s Q R:Nat} {v:List Int} (hv:Dig B64 v) (hN:v.length=N+2) (ln:N≤1099511627000) (ht:rd v ((N+1:Nat):Int)≠0) (hs:s≤63) (hL:L≤1099511627780) (hLq:Lq+(N+2)=L) (hLq1:1≤Lq)
  (hQ:M/vB B64 v=Q) (hR:M%vB B64 v=2^s*R):∀(J:Nat) (u q:List Int),J≤Lq→Long M (vB B64 v) L Lq u q J→Ev (fun k=>exact_divide.l1 k (s:Int) v u ((N+2:Nat):Int) q ((J:Int)-1)) (d64 Q,d64 R):=by
 have hB:(0:Int)<B64:=by decide
 have hV1:=vB_lt hB hv
 rw [hN]at hV1
 intro J
 induction J with
 |zero=>
  intro u q hJ h
  obtain⟨hl,hd,hlq,hdq,hlt,hM⟩:=h
  rw [List.drop_zero]at hlt hM
  rw [Int.pow_zero,Int.one_mul]at hM
  have hu0:=vB_nonneg (Int.le_of_lt hB) hd
  have hV0:vB B64 v≠0:=by clear hV1;omega
  have eQ:vB B64 q=Q:=by
   rw [←hQ,hM,Int.add_mul_ediv_left _ _ hV0,Int.ediv_eq_zero_of_lt hu0 hlt,Int.zero_add]
  have eR:vB B64 u=2^s*R:=by
   rw [←hR,hM,Int.add_mul_emod_self_left,Int.emod_eq_of_lt hu0 hlt]
  have hNl:N+2+1≤u.length:=by clear hV1 hlt hM;omega
  have s1:=vB_split B64 u (N+2) (by clear hV1 hlt hM;omega)
  have p1:=vB_nonneg (Int.le_of_lt hB) (Dig_take hd (N+2))
  have p2:=vB_nonneg (Int.le_of_lt hB) (Dig_drop hd (N+2))
  have hz:vB B64 (u.drop (N+2))=0:=by
   rcases Int.lt_or_le (vB B64 (u.drop (N+2))) 1 with h|h
   ·clear hV1 s1 hM hlt;omega
   ·exfalso
    have:=Int.mul_le_mul_of_nonneg_left h (Int.le_of_lt (show(0:Int)<B64^(N+2)from Int.pow_pos hB))
    rw [Int.mul_one]at this
    generalize(B64:Int)^(N+2)=P at*
    generalize P*vB B64 (u.drop (N+2))=A at*
    clear hM eR
    omega
  have hz2:rd u ((N+2:Nat):Int)=0:=by
   have s3:=drop_succ B64 u (N+2) (by clear hV1 hlt hM s1;omega)
   obtain⟨x0,x1⟩:=Dig_rd hd (N+2) (by clear hV1 hlt hM s1;omega)
   have p3:=Int.mul_nonneg (Int.le_of_lt hB) (vB_nonneg (Int.le_of_lt hB) (Dig_drop hd (N+2+1)))
   rw [hz]at s3
   clear hV1 hlt hM s1;omega
  rw [hz,Int.mul_zero,Int.add_zero]at s1
  have c1:¬(((0:Nat):Int)-1≥0):=by decide
  refine Ev.step (f:=fun k=>exact_divide.l2 k (s:Int) u ((N+2:Nat):Int) q ((N+2:Nat):Int) ((0:Nat):Int)) (fun k=>?_) (divide_l2 hs hd hNl (by clear hV1 hlt hM s1;omega) hdq (by clear hV1 hlt hM s1;omega) eQ (by rw [hz2,←s1,Int.zero_emod,Int.mul_zero,Int.add_zero];exact eR) (N+2) 0 u (Nat.zero_add _) ⟨rfl,hd,fun _ _=>rfl,?_⟩)
  ·simp only [exact_divide.l1]
   rw [if_neg c1]
   rfl
  ·have h0:rd u ((0:Nat):Int)%2^s=0:=by
    have s3:=drop_succ B64 u 0 (by clear hV1 hlt hM s1;omega)
    rw [List.drop_zero,eR]at s3
    obtain⟨c,hc⟩:∃c,c*2^s=B64:=⟨2^(64-s),by
     rw [←Int.pow_add]
     have:64-s+s=64:=by clear hV1 hlt hM s1;omega
     rw [this]
     rfl⟩
    have:rd u ((0:Nat):Int)=2^s*(R-c*vB B64 (u.drop 1)):=by
     rw [show 0+1=1 from rfl]at s3
     generalize vB B64 (u.drop 1)=X at*
     rw [←hc]at s3
     rw [Int.mul_sub,←Int.mul_assoc,Int.mul_comm (2^s) c]
     clear hV1 hlt hM s1;omega
    rw [this]
    exact Int.mul_emod_right _ _
   rw [h0]
   simp [vB]
 |succ j ih=>
  intro u q hJ h
  have hj:j+(N+2)+1≤L:=by clear hV1;omega
  have e0:((j+1:Nat):Int)-1=(j:Int):=by clear hV1;omega
  have hl:=h.1
  have hlq:=h.2.2.1
  have c1:(j:Int)≥0:=by clear hV1;omega
  have c2:(j:Int)≤((j+(N+2)+1:Nat):Int):=by clear hV1;omega
  have c3:((j+(N+2)+1:Nat):Int)≤(u.length:Int):=by clear hV1;omega
  have c4:(j:Int)<(q.length:Int):=by clear hV1;omega
  have e1:wrap64 ((j:Int)+((N+2:Nat):Int))=((j+(N+2):Nat):Int):=by clear hV1;rw [w64 (by omega) (by omega)];omega
  have e2:wrap64 (((j+(N+2):Nat):Int)+1)=((j+(N+2)+1:Nat):Int):=by clear hV1 e1;rw [w64 (by omega) (by omega)];omega
  have e3:wrap64 ((j:Int)-1)=(j:Int)-1:=by clear hV1 e1 e2;exact w64 (by omega) (by omega)
  obtain⟨d,u',h',hev⟩:=long_step hv hN ln ht hj (by clear hV1 e1 e2 e3;omega) h
  rw [e0]
  refine Ev.step (f:=fun k=>(exact_stepAt.f k u v (j:Int) ((j+(N+2)+1:Nat):Int)).bind fun bt200=>exact_divide.l1 k (s:Int) v bt200.2 ((N+2:Nat):Int) (q.set j bt200.1) ((j:Int)-1)) (fun k=>?_) (Ev.bind hev (ih u' _ (by clear hV1 e1 e2 e3;omega) h'))
  simp only [exact_divide.l1,e1,e2,e3]
  rw [if_pos c1,if_pos c1,if_pos c2,if_pos c3]
  simp only [if_pos c4,Int.toNat_natCast]
theorem divide_ev {m n:Nat} (hm:(d64 m).length≤1099511627000) (hn:(d64 n).length≤1099511627000) (n0:0<n):Ev (fun k=>exact_divide.f k (d64 m) (d64 n)) (d64 (m/n),d64 (m%n)):=by
 have hB:(0:Int)<B64:=by decide
 refine Ev.bind (compareWords_ev (by omega) (by omega)) ?_
 by_cases hlt:m<n
 ·refine Ev.congr (fun k=>if_pos (show cmpN m n<0 by unfold cmpN;rw [if_pos hlt];decide)) ?_
  rw [Nat.div_eq_of_lt hlt,Nat.mod_eq_of_lt hlt,d64_zero]
  exact Ev.now _
 refine Ev.congr (fun k=>if_neg (show¬cmpN m n<0 by unfold cmpN;rw [if_neg hlt];split<;>decide)) ?_
 have hpos:0<(d64 n).length:=by
  rcases Nat.eq_zero_or_pos (d64 n).length with h|h
  ·exfalso
   have:=d64_val n
   rw [List.eq_nil_of_length_eq_zero h]at this
   simp [vB]at this
   omega
  ·exact h
 have hle:(d64 n).length≤(d64 m).length:=d64_len_mono (by omega)
 by_cases h1:(d64 n).length=1
 ·refine Ev.congr (fun k=>if_pos (show((d64 n).length:Int)=1 by omega)) ?_
  have hy:vB B64 (d64 n)=rd (d64 n) 0:=by
   have:=drop_succ B64 (d64 n) 0 (by omega)
   rw [List.drop_zero,vB_far _ (by omega),Int.mul_zero,Int.add_zero]at this
   exact this
  rw [d64_val]at hy
  obtain⟨y0,y1⟩:=Dig_rd (d64_dig n) 0 (by omega)
  have y0':0<rd (d64 n) 0:=by omega
  have e1:wrap64 (((d64 m).length:Int)-1)=((d64 m).length:Int)-1:=w64 (by omega) (by omega)
  refine Ev.congr (f:=fun k=>exact_divide.l0 k (d64 m) (d64 n) (List.replicate (d64 m).length 0) 0 (((d64 m).length:Int)-1)) (fun k=>?_) (divide_l0 (d64_dig m) (by omega) h1 rfl y0' y1 (d64_val m) hy.symm (d64 m).length _ 0 (Nat.le_refl _) (by simp) (Dig_replicate hB _) (Int.le_refl 0) y0' (by rw [vB_far _ (Nat.le_refl _),vB_far _ (by simp)];simp))
  rw [if_pos (Int.natCast_nonneg _),Int.toNat_natCast,if_pos (by omega),e1]
 ·refine Ev.congr (fun k=>if_neg (show¬((d64 n).length:Int)=1 by omega)) ?_
  obtain⟨N,hN⟩:∃N,(d64 n).length=N+2:=⟨(d64 n).length-2,by omega⟩
  have e1:wrap64 (((d64 n).length:Int)-1)=((N+1:Nat):Int):=by rw [w64 (by omega) (by omega)];omega
  have htop:=d64_trim n hpos
  rw [hN,show N+2-1=N+1 by omega]at htop
  obtain⟨t0,t1⟩:=Dig_rd (d64_dig n) (N+1) (by omega)
  obtain⟨s,hs,hlz,n1,n2⟩:=norm_word (show 0<rd (d64 n) ((N+1:Nat):Int)by omega) t1
  obtain⟨b,b1,b2,b3,b4⟩:=shiftUp_ev (d64 n) (d64_dig n) (by omega) s hs
  obtain⟨a,a1,a2,a3,a4⟩:=shiftUp_ev (d64 m) (d64_dig m) (by omega) s hs
  rw [d64_val]at a3 b3
  have hb:vB B64 b=((n*2^s:Nat):Int):=by rw [b3,Int.natCast_mul,Int.natCast_pow];rfl
  have tb:=trim_ev b2 (by omega)
  rw [hb,Int.toNat_natCast]at tb
  have hlen:(d64 (n*2^s)).length=N+2:=by
   have g1:(d64 n).length≤(d64 (n*2^s)).length:=d64_len_mono (Nat.le_mul_of_pos_right n (Nat.two_pow_pos s))
   have g2:(d64 (n*2^s)).length≤N+2:=by
    apply dgs_len
    have h2:vB B64 (d64 n)*2^s<B64^(N+2):=by
     have h3:=vB_all B64 (d64 n) (N+1+1) (by omega)
     have hp:(B64:Int)^(N+2)=B64^(N+1)*B64:=Int.pow_succ _ _
     rw [←h3,take_succ,Int.add_mul,hp,Int.mul_assoc]
     have h4:=vB_lt hB (Dig_take (d64_dig n) (N+1))
     rw [List.length_take,Nat.min_eq_left (by omega)]at h4
     have hP:(0:Int)<2^s:=Int.pow_pos (by decide)
     obtain⟨c,hc⟩:∃c,c*2^s=B64:=⟨2^(64-s),by
      rw [←Int.pow_add]
      have:64-s+s=64:=by omega
      rw [this]
      rfl⟩
     have h5:rd (d64 n) ((N+1:Nat):Int)*2^s+2^s≤B64:=by
      have n2':rd (d64 n) ((N+1:Nat):Int)*2^s<B64:=n2
      rw [←hc]at n2'⊢
      have h6:rd (d64 n) ((N+1:Nat):Int)<c:=Int.lt_of_mul_lt_mul_right n2' (Int.le_of_lt hP)
      have h7:=Int.mul_le_mul_of_nonneg_right (show rd (d64 n) ((N+1:Nat):Int)+1≤c by omega) (Int.le_of_lt hP)
      rwa [Int.add_mul,Int.one_mul]at h7
     have h8:=Int.mul_lt_mul_of_pos_right h4 hP
     have h9:=Int.mul_le_mul_of_nonneg_left h5 (Int.le_of_lt (show(0:Int)<B64^(N+1)from Int.pow_pos hB))
     rw [Int.mul_add]at h9
     generalize vB B64 ((d64 n).take (N+1))*2^s=A at*
     generalize(B64:Int)^(N+1)*(rd (d64 n) ((N+1:Nat):Int)*2^s)=A1 at*
     generalize(B64:Int)^(N+1)*2^s=A2 at*
     generalize(B64:Int)^(N+1)*B64=A3 at*
     clear h4 h3
     omega
    rw [d64_val]at h2
    have h3:((n*2^s:Nat):Int)<((18446744073709551614+2:Nat):Int)^(N+2):=by rw [Int.natCast_mul,Int.natCast_pow];exact h2
    exact_mod_cast h3
   omega
  have hvt:=d64_trim (n*2^s) (by omega)
  rw [hlen,show N+2-1=N+1 by omega]at hvt
  have e2:wrap64 (((d64 m).length:Int)-((d64 (n*2^s)).length:Int))=(((d64 m).length-(N+2)+1:Nat):Int)-1:=by rw [w64 (by omega) (by omega)];omega
  have e3:wrap64 ((((d64 m).length-(N+2)+1:Nat):Int)-1+1)=(((d64 m).length-(N+2)+1:Nat):Int):=by rw [w64 (by omega) (by omega)];omega
  have hV:vB B64 (d64 (n*2^s))=(n:Int)*2^s:=by rw [d64_val,Int.natCast_mul,Int.natCast_pow];rfl
  have hP:(0:Int)<2^s:=Int.pow_pos (by decide)
  have dQ:(m:Int)*2^s/vB B64 (d64 (n*2^s))=((m/n:Nat):Int):=by rw [hV,Int.mul_ediv_mul_of_pos_left _ _ hP];rfl
  have dR:(m:Int)*2^s%vB B64 (d64 (n*2^s))=2^s*((m%n:Nat):Int):=by rw [hV,Int.mul_comm (m:Int),Int.mul_comm (n:Int),Int.mul_emod_mul_of_pos _ _ hP];rfl
  have start:Long ((m:Int)*2^s) (vB B64 (d64 (n*2^s))) ((d64 m).length+1) ((d64 m).length-(N+2)+1) a (List.replicate ((d64 m).length-(N+2)+1) 0) ((d64 m).length-(N+2)+1):=by
   refine⟨a1,a2,by simp,Dig_replicate hB _,?_,?_⟩
   ·
    have h1:=vB_split B64 a ((d64 m).length-(N+2)+1) (by omega)
    have h2:=vB_nonneg (Int.le_of_lt hB) (Dig_take a2 ((d64 m).length-(N+2)+1))
    have h3:=vB_lt hB (d64_dig m)
    have h4:=trim_le hB (d64_dig n) (d64_trim n) hpos
    rw [d64_val]at h3 h4
    rw [hN,show N+2-1=N+1 by omega]at h4
    rw [a3]at h1
    have h5:(B64:Int)^(d64 m).length=B64^((d64 m).length-(N+2)+1)*B64^(N+1):=by rw [←Int.pow_add];congr 1;omega
    rw [h5]at h3
    have h6:=Int.mul_lt_mul_of_pos_right h3 hP
    rw [Int.mul_assoc]at h6
    have h7:=Int.mul_le_mul_of_nonneg_right h4 (Int.le_of_lt hP)
    rw [hV]
    have hC:(0:Int)<B64^((d64 m).length-(N+2)+1):=Int.pow_pos hB
    have h8:B64^((d64 m).length-(N+2)+1)*vB B64 (a.drop ((d64 m).length-(N+2)+1))<B64^((d64 m).length-(N+2)+1)*(B64^(N+1)*2^s):=by
     generalize B64^((d64 m).length-(N+2)+1)*vB B64 (a.drop ((d64 m).length-(N+2)+1))=A at*
     generalize B64^((d64 m).length-(N+2)+1)*(B64^(N+1)*2^s)=A1 at*
     generalize(m:Int)*2^s=A2 at*
     clear h5 h7 hC h4 h3
     omega
    exact Int.lt_of_lt_of_le (Int.lt_of_mul_lt_mul_left h8 (Int.le_of_lt hC)) h7
   ·rw [a3,vB_far _ (by simp),Int.mul_zero,Int.mul_zero,Int.add_zero]
  have key:=divide_l1 (d64_dig (n*2^s)) hlen (by omega) hvt hs (by omega) (by omega) (by omega) dQ dR _ _ _ (Nat.le_refl _) start
  refine Ev.congr (f:=fun k=>(exact_shiftUp.f k (d64 n) (s:Int)).bind fun t184=>((exact_trim.f k t184).bind fun t187=>((exact_shiftUp.f k (d64 m) (s:Int)).bind fun t190=>(if 0≤(wrap64 ((wrap64 (((d64 m).length:Int)-(t187.length:Int)))+1))then(if(wrap64 ((wrap64 (((d64 m).length:Int)-(t187.length:Int)))+1):Int).toNat≤35184372088832 then(exact_divide.l1 k (s:Int) t187 t190 (t187.length:Int) (List.replicate (wrap64 ((wrap64 (((d64 m).length:Int)-(t187.length:Int)))+1):Int).toNat 0) (wrap64 (((d64 m).length:Int)-(t187.length:Int))))else(none))else(none))))) (fun k=>?_) (Ev.bind b4 (Ev.bind tb (Ev.bind a4 ?_)))
  ·rw [e1,if_pos (Int.natCast_nonneg _),if_pos (by omega),hlz,Option.bind_some]
  ·refine Ev.congr (fun k=>?_) key
   rw [e2,e3,if_pos (Int.natCast_nonneg _),Int.toNat_natCast,if_pos (by omega)]
   rw [show((d64 (n*2^s)).length:Int)=((N+2:Nat):Int)by omega]
theorem NatDivMod_ev {m n:Nat} (hm:(nat m).size≤1099511627776) (hn:(nat n).size≤1099511627776) (n0:0<n):Ev (fun k=>exact_NatDivMod.f k (nat m) (nat n)) (nat (m/n),nat (m%n)):=by
 have lm:=words_len m
 have ln:=words_len n
 have h1:(d64 (m/n)).length≤(d64 m).length:=d64_len_mono (Nat.div_le_self _ _)
 have h2:(d64 (m%n)).length≤(d64 n).length:=d64_len_mono (Nat.le_of_lt (Nat.mod_lt _ n0))
 have p1:=pack_ev (d64_dig (m/n)) (by omega)
 have p2:=pack_ev (d64_dig (m%n)) (by omega)
 rw [d64_val,Int.toNat_natCast]at p1 p2
 exact Ev.bind (words_nat hm) (Ev.bind (words_nat hn) (Ev.bind (divide_ev (by omega) (by omega) n0) (Ev.bind p1 (Ev.bind p2 (Ev.now _)))))
theorem Gcd_l0:∀(n m:Nat),(d64 m).length≤1099511627000→(d64 n).length≤1099511627000→Ev (fun k=>exact_NatGcd.l0 k (d64 m) (d64 n)) (nat (Nat.gcd m n)):=by
 intro n
 induction n using Nat.strongRecOn with
 |_ n ih=>
  intro m hm hn
  by_cases h:n=0
  ·subst h
   have p:=pack_ev (d64_dig m) (by omega)
   rw [d64_val,Int.toNat_natCast]at p
   rw [Nat.gcd_zero_right]
   refine Ev.step (f:=fun k=>(exact_pack.f k (d64 m)).bind fun t=>some t) (fun k=>?_) (Ev.bind p (Ev.now _))
   simp only [exact_NatGcd.l0]
   rw [d64_zero,if_neg (by decide)]
  ·have hpos:0<(d64 n).length:=by
    rcases Nat.eq_zero_or_pos (d64 n).length with h1|h1
    ·exfalso
     have:=d64_val n
     rw [List.eq_nil_of_length_eq_zero h1]at this
     simp [vB]at this
     omega
    ·exact h1
   have hlt:=Nat.mod_lt m (Nat.pos_of_ne_zero h)
   have hl:(d64 (m%n)).length≤(d64 n).length:=d64_len_mono (Nat.le_of_lt hlt)
   have e:Nat.gcd m n=Nat.gcd n (m%n):=by rw [Nat.gcd_comm m n,Nat.gcd_rec n m,Nat.gcd_comm]
   rw [e]
   refine Ev.step (f:=fun k=>(exact_divide.f k (d64 m) (d64 n)).bind fun bt264=>exact_NatGcd.l0 k (d64 n) bt264.2) (fun k=>?_) (Ev.bind (divide_ev hm hn (Nat.pos_of_ne_zero h)) (ih (m%n) hlt n hn (by omega)))
   simp only [exact_NatGcd.l0]
   rw [if_pos (by omega)]
theorem NatGcd_ev {m n:Nat} (hm:(nat m).size≤1099511627776) (hn:(nat n).size≤1099511627776):Ev (fun k=>exact_NatGcd.f k (nat m) (nat n)) (nat (Nat.gcd m n)):=by
 have lm:=words_len m
 have ln:=words_len n
 exact Ev.bind (words_nat hm) (Ev.bind (words_nat hn) (Gcd_l0 n m (by omega) (by omega)))
theorem nat_empty {n:Nat}:(nat n).toList=([]:List UInt8)↔n=0:=by rw [toList_nil,nat_size_zero]
theorem len_mul (m n:Nat):(d64 (m*n)).length≤(d64 m).length+(d64 n).length:=by
 apply dgs_len
 have h1:=dgs_lt 18446744073709551614 m
 have h2:=dgs_lt 18446744073709551614 n
 rw [Nat.pow_add]
 exact Nat.lt_of_le_of_lt (Nat.mul_le_mul_right _ (Nat.le_of_lt h1)) (Nat.mul_lt_mul_of_pos_left h2 (Nat.lt_of_le_of_lt (Nat.zero_le _) h1))
theorem d64_one:d64 1=[1]:=by
 unfold d64
 rw [dgs_pos _ _ (by decide),show 1/(18446744073709551614+2)=0 from rfl,dgs_zero]
 rfl
theorem wraps_i64 (n:Int) (h0:0≤n) (h1:n<2^63):IntKind.i64.wrap n=n:=by rw [IntKind.wrap_i64];omega
theorem odd_bit (e:Nat) (h:e<9223372036854775808):Go.bits .and .i64 (e:Int) 1=((e%2:Nat):Int):=by
 have:=bits_mask .i64 63 (by decide) wraps_i64 1 (by decide) (e:Int) (by omega) (by omega)
 have e1:(2:Int)^1-1=1:=rfl
 rw [e1]at this
 rw [this]
 omega
theorem NatPow_l0:∀(e A X:Nat),e<9223372036854775808→(d64 A).length+2*e*(d64 X).length≤1000000000000→(d64 X).length≤1000000000000→Ev (fun k=>exact_NatPow.l0 k (e:Int) (d64 A) (d64 X)) (nat (A*X^e)):=by
 intro e
 induction e using Nat.strongRecOn with
 |_ e ih=>
  intro A X he hl hx
  by_cases h:e=0
  ·subst h
   have p:=pack_ev (d64_dig A) (by omega)
   rw [d64_val,Int.toNat_natCast]at p
   rw [Nat.pow_zero,Nat.mul_one]
   refine Ev.step (f:=fun k=>(exact_pack.f k (d64 A)).bind fun t=>some t) (fun k=>?_) (Ev.bind p (Ev.now _))
   simp only [exact_NatPow.l0]
   rw [if_neg (by decide)]
  ·have c1:(e:Int)>0:=by omega
   have hb:=odd_bit e he
   have e2:(e:Int)/2=((e/2:Nat):Int):=by omega
   have lXX:=len_mul X X
   have lAX:=len_mul A X
   have hX:(d64 X).length≤e*(d64 X).length:=Nat.le_mul_of_pos_left _ (Nat.pos_of_ne_zero h)
   have h2:2*e*(d64 X).length=2*(e*(d64 X).length):=Nat.mul_assoc _ _ _
   have hhalf:2*(e/2)*(d64 (X*X)).length≤4*(e/2*(d64 X).length):=by
    have:=Nat.mul_le_mul_left (2*(e/2)) lXX
    have e3:2*(e/2)*((d64 X).length+(d64 X).length)=4*(e/2*(d64 X).length):=by
     rw [Nat.mul_add,Nat.mul_assoc]
     omega
    omega
   have hcut:2*(e/2*(d64 X).length)+e%2*(d64 X).length=e*(d64 X).length:=by
    rw [←Nat.mul_assoc,←Nat.add_mul]
    congr 1
    omega
   rw [h2]at hl
   have sq:=mulWords_d64 (m:=X) (n:=X) (by omega) (by omega)
   by_cases ho:e%2=1
   ·rw [ho,Nat.one_mul]at hcut
    have ax:=mulWords_d64 (m:=A) (n:=X) (by omega) (by omega)
    have hp:A*X^e=A*X*(X*X)^(e/2):=by
     have:X^e=X*(X*X)^(e/2):=by
      rw [←Nat.pow_two,←Nat.pow_mul,Nat.mul_comm X,←Nat.pow_succ]
      congr 1
      omega
     rw [this,Nat.mul_assoc]
    rw [hp]
    refine Ev.step (f:=fun k=>(exact_mulWords.f k (d64 A) (d64 X)).bind fun t301=>((exact_mulWords.f k (d64 X) (d64 X)).bind fun t304=>exact_NatPow.l0 k ((e/2:Nat):Int) t301 t304)) (fun k=>?_) (Ev.bind ax (Ev.bind sq (ih (e/2) (by omega) _ _ (by omega) (by omega) (by omega))))
    simp only [exact_NatPow.l0,hb,e2]
    rw [if_pos c1,if_pos (by rw [ho];rfl)]
   ·have ho':e%2=0:=by omega
    rw [ho',Nat.zero_mul,Nat.add_zero]at hcut
    have hp:A*X^e=A*(X*X)^(e/2):=by
     have:X^e=(X*X)^(e/2):=by
      rw [←Nat.pow_two,←Nat.pow_mul]
      congr 1
      omega
     rw [this]
    rw [hp]
    refine Ev.step (f:=fun k=>(exact_mulWords.f k (d64 X) (d64 X)).bind fun t307=>exact_NatPow.l0 k ((e/2:Nat):Int) (d64 A) t307) (fun k=>?_) (Ev.bind sq (ih (e/2) (by omega) _ _ (by omega) (by omega) (by omega)))
    simp only [exact_NatPow.l0,hb,e2]
    rw [if_pos c1,if_neg (by rw [ho'];decide)]
theorem NatPow_ev {m e:Nat} (hm:(nat m).size≤100000) (he:e≤100000):Ev (fun k=>exact_NatPow.f k (nat m) (e:Int)) (nat (m^e)):=by
 have lm:=words_len m
 refine Ev.bind (words_nat (by omega)) ?_
 have h1:2*e*(d64 m).length≤200000*100000:=Nat.mul_le_mul (by omega) (by omega)
 have:=NatPow_l0 e 1 m (by omega) (by rw [d64_one];show 1+_≤_;omega) (by omega)
 rw [d64_one,Nat.one_mul]at this
 exact this
def bl (n:Nat):Nat:=if n=0 then 0 else n.log2+1
theorem bl_lt (n:Nat):n<2^bl n:=by
 unfold bl
 split
 ·subst_vars;decide
 ·exact Nat.lt_log2_self
theorem bl_le {n:Nat} (h:n≠0):1≤bl n∧2^(bl n-1)≤n:=by
 unfold bl
 rw [if_neg h]
 exact⟨by omega,by simpa using Nat.log2_self_le h⟩
theorem bl_unique {n b:Nat} (h:n≠0) (hb:1≤b) (h1:2^(b-1)≤n) (h2:n<2^b):bl n=b:=by
 obtain⟨g1,g2⟩:=bl_le h
 have g3:=bl_lt n
 have k1:b-1<bl n:=(Nat.pow_lt_pow_iff_right (by decide:1<2)).1 (Nat.lt_of_le_of_lt h1 g3)
 have k2:bl n-1<b:=(Nat.pow_lt_pow_iff_right (by decide:1<2)).1 (Nat.lt_of_le_of_lt g2 h2)
 omega
theorem bl_size {n:Nat}:bl n≤8*(nat n).size:=by
 by_cases h:n=0
 ·subst h;simp [bl]
 ·have h1:=nat_lt_size n
  obtain⟨g1,g2⟩:=bl_le h
  have e:256^(nat n).size=2^(8*(nat n).size):=by rw [Nat.pow_mul]
  rw [e]at h1
  have k2:bl n-1<8*(nat n).size:=(Nat.pow_lt_pow_iff_right (by decide:1<2)).1 (Nat.lt_of_le_of_lt g2 h1)
  omega
theorem NatBits_eq {n:Nat} (hn:(nat n).size≤1099511627776):exact_NatBits.f (nat n)=some (bl n:Int):=by
 unfold exact_NatBits.f
 by_cases h:n=0
 ·rw [if_pos (nat_empty.2 h),h]
  rfl
 ·have hp:0<(nat n).size:=Nat.pos_of_ne_zero fun h0=>h (nat_size_zero.1 h0)
  have hl:=nat_size n
  rw [if_neg (fun h0=>h (nat_empty.1 h0)),if_pos (by omega)]
  have ht:bt (nat n) 0=rd (d8 n) (((nat n).size-1:Nat):Int):=by
   have:=rd_reverse (d8 n) 0 (by omega)
   rw [bt_rd,nat_bytes]
   rw [show(d8 n).length-1-0=(nat n).size-1 by omega]at this
   exact this
  have hne:bt (nat n) 0≠0:=by
   rcases nat_wf n with h1|h1
   ·omega
   ·exact h1
  obtain⟨b0,b1⟩:=bt_range (nat n) 0
  obtain⟨t,ht2⟩:=Int.eq_ofNat_of_zero_le b0
  rw [ht2]at ht hne b1⊢
  have hv:=vB_all 256 (d8 n) ((nat n).size-1+1) (by omega)
  rw [take_succ,d8_val,←ht]at hv
  have lo0:=vB_nonneg (show(0:Int)≤256 by decide) (Dig_take (d8_dig n) ((nat n).size-1))
  have lo1:=vB_lt (show(0:Int)<256 by decide) (Dig_take (d8_dig n) ((nat n).size-1))
  rw [List.length_take,Nat.min_eq_left (by omega)]at lo1
  obtain⟨l,hlo⟩:=Int.eq_ofNat_of_zero_le lo0
  rw [hlo]at hv lo1
  have hv':l+256^((nat n).size-1)*t=n:=by
   apply Int.ofNat_inj.1
   rw [Int.natCast_add,Int.natCast_mul,Int.natCast_pow]
   exact hv
  have lo1':l<256^((nat n).size-1):=by
   apply Int.ofNat_lt.1
   rw [Int.natCast_pow]
   exact lo1
  obtain⟨h1,h2,h3⟩:=Lib.bitLenAux_bounds 64 t (by omega) (by omega)
  have h4:Lib.bitLen t≤8:=Lib.bitLen_le t 8 (by decide) (by omega)
  have eb:Lib.bitLenAux 64 t=Lib.bitLen t:=rfl
  rw [eb]at h1 h2 h3
  generalize hL:Lib.bitLen t=L at*
  have hb:bl n=8*((nat n).size-1)+L:=by
   have e8:256^((nat n).size-1)=2^(8*((nat n).size-1)):=by rw [Nat.pow_mul]
   rw [e8]at hv' lo1'
   apply bl_unique h (by omega)
   ·rw [show 8*((nat n).size-1)+L-1=8*((nat n).size-1)+(L-1)by omega,Nat.pow_add]
    have:=Nat.mul_le_mul_left (2^(8*((nat n).size-1))) h2
    omega
   ·rw [Nat.pow_add]
    have:=Nat.mul_le_mul_left (2^(8*((nat n).size-1))) (show t+1≤2^L by omega)
    rw [Nat.mul_add,Nat.mul_one]at this
    omega
  unfold bits_Len8.f
  rw [if_pos (by omega),Option.bind_some,Int.toNat_natCast,hL,hb]
  clear hv' lo1' hv lo1 h2 h3 hb
  rw [w64 (x:=((nat n).size:Int)-1) (by omega) (by omega),w64 (x:=8*(((nat n).size:Int)-1)) (by omega) (by omega),w64 (by omega) (by omega)]
  congr 1
  omega
theorem str_nat {l:List Int} {n:Nat} (hd:Dig 256 l) (ht:0<l.length→rd l 0≠0) (hv:vB 256 l.reverse=n):strOfNums l=nat n:=by
 have:l.reverse=d8 n:=by
  refine d8_unique (Dig_reverse hd) (fun hp=>?_) hv
  rw [List.length_reverse]at hp⊢
  have:=rd_reverse l (l.length-1) (by omega)
  rw [show l.length-1-(l.length-1)=0 by omega]at this
  rw [this]
  exact ht hp
 unfold nat
 rw [←this,List.reverse_reverse]
theorem NatTwo_eq {b:Nat} (hb:b≤1099511627776):exact_NatTwo.f (b:Int)=some (nat (2^b)):=by
 have hr:b%8<8:=Nat.mod_lt _ (by decide)
 have e1:Int.tdiv (b:Int) 8=((b/8:Nat):Int):=by rw [Int.tdiv_eq_ediv_of_nonneg (by omega)];omega
 have e2:Int.tmod (b:Int) 8=((b%8:Nat):Int):=by rw [Int.tmod_eq_emod_of_nonneg (by omega)];omega
 have e3:wrap64 ((b/8:Nat):Int)=((b/8:Nat):Int):=w64 (by omega) (by omega)
 have e4:wrap64 (((b/8:Nat):Int)+1)=((b/8+1:Nat):Int):=by rw [w64 (by omega) (by omega)];omega
 have e5:shl .u8 1 ((b%8:Nat):Int)=((2^(b%8):Nat):Int):=by
  have:b%8=0∨b%8=1∨b%8=2∨b%8=3∨b%8=4∨b%8=5∨b%8=6∨b%8=7:=by omega
  rcases this with h|h|h|h|h|h|h|h<;>rw [h]<;>decide
 have hx:1≤2^(b%8)∧2^(b%8)<256:=by
  have:b%8=0∨b%8=1∨b%8=2∨b%8=3∨b%8=4∨b%8=5∨b%8=6∨b%8=7:=by omega
  rcases this with h|h|h|h|h|h|h|h<;>rw [h]<;>decide
 unfold exact_NatTwo.f
 rw [e1,e2,e3,e4,if_pos (Int.natCast_nonneg _),Int.toNat_natCast,if_pos (by omega),Option.bind_some,if_pos (Int.natCast_nonneg _),if_pos (by rw [List.length_replicate];omega),e5]
 congr 1
 have hs:(List.replicate (b/8+1) (0:Int)).set (0:Int).toNat ((2^(b%8):Nat):Int)=((2^(b%8):Nat):Int)::List.replicate (b/8) 0:=by
  rw [List.replicate_succ]
  rfl
 rw [hs]
 apply str_nat
 ·exact Dig_cons.2 ⟨⟨by omega,by omega⟩,Dig_replicate (by decide) _⟩
 ·intro _
  show((2^(b%8):Nat):Int)≠0
  omega
 ·rw [List.reverse_cons,List.reverse_replicate,vB_append,vB_replicate,List.length_replicate]
  have:(2:Nat)^b=256^(b/8)*2^(b%8):=by
   have e8:(256:Nat)^(b/8)=2^(8*(b/8)):=by rw [Nat.pow_mul]
   rw [e8,←Nat.pow_add,Nat.div_add_mod]
  rw [this,Int.natCast_mul,Int.natCast_pow]
  simp [vB]
theorem NatRoot_l0 {n K:Nat} (hK:1≤K) (hK1:K≤4096) (hn:(nat n).size≤4096):∀(c low:Nat),c≤bl n+1→low^K≤n→n<(low+2^c)^K→∃r,r^K≤n∧n<(r+1)^K∧Ev (fun k=>exact_NatRoot.l0 k (nat n) (K:Int) (nat low) ((c:Int)-1)) (nat r):=by
 intro c
 induction c with
 |zero=>
  intro low _ h1 h2
  refine⟨low,h1,h2,Ev.step (f:=fun _=>some (nat low)) (fun k=>?_) (Ev.now _)⟩
  simp only [exact_NatRoot.l0]
  rw [if_neg (by decide)]
 |succ c ih=>
  intro low hc h1 h2
  have e0:((c+1:Nat):Int)-1=(c:Int):=by omega
  have hbl:=bl_size (n:=n)
  have e1:wrap64 ((c:Int)-1)=(c:Int)-1:=w64 (by omega) (by omega)
  have hlow:low≤n:=Nat.le_trans (Nat.le_self_pow (by omega) low) h1
  have hs1:=size_mono hlow
  have hs2:(nat (2^c)).size≤(nat n).size+1:=by
   apply nat_size_le.2
   have g:(256:Nat)^((nat n).size+1)=2^(8*((nat n).size+1)):=by rw [Nat.pow_mul]
   rw [g]
   exact Nat.pow_lt_pow_right (by decide) (by omega)
  have hs3:=size_add (m:=low) (n:=2^c)
  have t1:=NatTwo_eq (b:=c) (by omega)
  have t2:=NatAdd_ev (m:=low) (n:=2^c) (by omega) (by omega)
  have t3:=NatPow_ev (m:=low+2^c) (e:=K) (by omega) (by omega)
  have t4:=NatCmp_ev ((low+2^c)^K) n
  rw [e0]
  have hadd:low+2^(c+1)=low+2^c+2^c:=by rw [Nat.pow_succ];omega
  by_cases hle:(low+2^c)^K≤n
  ·rw [hadd]at h2
   obtain⟨r,r1,r2,r3⟩:=ih (low+2^c) (by omega) hle h2
   have hcmp:cmpN ((low+2^c)^K) n≤0:=by
    unfold cmpN
    split
    ·decide
    ·rw [if_pos (by omega)];decide
   refine⟨r,r1,r2,Ev.step (f:=fun k=>(exact_NatAdd.f k (nat low) (nat (2^c))).bind fun t344=>((exact_NatPow.f k t344 (K:Int)).bind fun t345=>((exact_NatCmp.f k t345 (nat n)).bind fun t346=>(if t346≤0 then(exact_NatRoot.l0 k (nat n) (K:Int) t344 ((c:Int)-1))else(exact_NatRoot.l0 k (nat n) (K:Int) (nat low) ((c:Int)-1)))))) (fun k=>?_) (Ev.bind t2 (Ev.bind t3 (Ev.bind t4 (Ev.congr (fun k=>if_pos hcmp) r3))))⟩
   simp only [exact_NatRoot.l0,e1]
   rw [if_pos (by omega),t1,Option.bind_some]
  ·obtain⟨r,r1,r2,r3⟩:=ih low (by omega) h1 (by omega)
   have hcmp:¬cmpN ((low+2^c)^K) n≤0:=by
    unfold cmpN
    rw [if_neg (by omega),if_neg (by omega)]
    decide
   refine⟨r,r1,r2,Ev.step (f:=fun k=>(exact_NatAdd.f k (nat low) (nat (2^c))).bind fun t344=>((exact_NatPow.f k t344 (K:Int)).bind fun t345=>((exact_NatCmp.f k t345 (nat n)).bind fun t346=>(if t346≤0 then(exact_NatRoot.l0 k (nat n) (K:Int) t344 ((c:Int)-1))else(exact_NatRoot.l0 k (nat n) (K:Int) (nat low) ((c:Int)-1)))))) (fun k=>?_) (Ev.bind t2 (Ev.bind t3 (Ev.bind t4 (Ev.congr (fun k=>if_neg hcmp) r3))))⟩
   simp only [exact_NatRoot.l0,e1]
   rw [if_pos (by omega),t1,Option.bind_some]
theorem NatRoot_ev {n K:Nat} (hK:1≤K) (hK1:K≤4096) (hn:(nat n).size≤4096):∃r,r^K≤n∧n<(r+1)^K∧Ev (fun k=>exact_NatRoot.f k (nat n) (K:Int)) (nat r):=by
 have hbl:=bl_size (n:=n)
 have hb0:(bl n+K-1)/K≤bl n:=by
  rcases Nat.eq_zero_or_pos (bl n)with h|h
  ·rw [h,Nat.zero_add,Nat.div_eq_of_lt (by omega)]
   exact Nat.le_refl _
  ·apply Nat.div_le_of_le_mul
   have:bl n+K≤K*bl n+1:=by
    obtain⟨j,rfl⟩:∃j,K=j+1:=⟨K-1,by omega⟩
    rw [Nat.add_mul,Nat.one_mul]
    have:=Nat.le_mul_of_pos_right j h
    omega
   omega
 have hbK:bl n≤(bl n+K-1)/K*K:=by
  have h1:=Nat.div_add_mod (bl n+K-1) K
  have h2:=Nat.mod_lt (bl n+K-1) (show K>0 by omega)
  rw [Nat.mul_comm]at h1
  omega
 generalize hB:(bl n+K-1)/K=B at*
 have h2:n<(0+2^(B+1))^K:=by
  rw [Nat.zero_add,←Nat.pow_mul]
  refine Nat.lt_of_lt_of_le (bl_lt n) (Nat.pow_le_pow_right (by decide) ?_)
  rw [Nat.add_mul]
  omega
 obtain⟨r,r1,r2,r3⟩:=NatRoot_l0 hK hK1 hn (B+1) 0 (by omega) (by rw [Nat.zero_pow (by omega)];exact Nat.zero_le _) h2
 refine⟨r,r1,r2,Ev.congr (fun k=>?_) r3⟩
 unfold exact_NatRoot.f
 clear h2 r1 r2 r3
 have c0:(nat n).size≤1099511627776:=by omega
 have c1:¬(K:Int)=0:=by omega
 have c2:(B:Int)=((B+1:Nat):Int)-1:=by omega
 have e1:wrap64 ((bl n:Int)+(K:Int))=((bl n+K:Nat):Int):=by rw [w64 (by omega) (by omega)];omega
 have e2:wrap64 (((bl n+K:Nat):Int)-1)=((bl n+K-1:Nat):Int):=by clear e1;rw [w64 (by omega) (by omega)];omega
 have e3:wrap64 (Int.tdiv ((bl n+K-1:Nat):Int) (K:Int))=(B:Int):=by
  clear e1 e2
  rw [Int.tdiv_eq_ediv_of_nonneg (by omega),←Int.natCast_ediv,hB,w64 (by omega) (by omega)]
 rw [NatBits_eq c0,Option.bind_some,if_neg c1,e1,e2,e3,nat_zero,c2]
theorem root_unique {n K r s:Nat} (hr:r^K≤n) (hr':n<(r+1)^K) (hs:s^K≤n) (hs':n<(s+1)^K):r=s:=by
 rcases Nat.lt_trichotomy r s with h|h|h
 ·have:=Nat.pow_le_pow_left (show r+1≤s by omega) K
  omega
 ·exact h
 ·have:=Nat.pow_le_pow_left (show s+1≤r by omega) K
  omega
theorem size_two {m a s:Nat} (h:(nat m).size≤s) (h2:2^a≤m):a<8*s:=by
 have h1:=nat_size_le.1 h
 have e8:(256:Nat)^s=2^(8*s):=by rw [Nat.pow_mul]
 rw [e8]at h1
 exact(Nat.pow_lt_pow_iff_right (by decide:1<2)).1 (Nat.lt_of_le_of_lt h2 h1)
abbrev B32:Int:=4294967296
def d32 (n:Nat):List Int:=dgs 4294967294 n
theorem d32_dig (n:Nat):Dig B32 (d32 n):=(dgs_spec 4294967294 n).1
theorem d32_trim (n:Nat):Trim (d32 n):=(dgs_spec 4294967294 n).2.1
theorem d32_val (n:Nat):vB B32 (d32 n)=n:=(dgs_spec 4294967294 n).2.2
theorem d32_unique {l:List Int} {n:Nat} (hl:Dig B32 l) (ht:Trim l) (hv:vB B32 l=n):l=d32 n:=dgs_unique hl ht hv
theorem d32_zero:d32 0=[]:=dgs_zero _
theorem limbs_len (n:Nat):(d32 n).length≤((nat n).size+3)/4:=by
 apply dgs_len
 have h1:=nat_lt_size n
 have h2:256^(nat n).size≤256^(4*(((nat n).size+3)/4)):=Nat.pow_le_pow_right (by decide) (by omega)
 rw [Nat.pow_mul]at h2
 exact Nat.lt_of_lt_of_le h1 h2
theorem rtrim_ev:∀(n:Nat) (l:List Int),l.length=n→n<9223372036854775808→Dig B32 l→Ev (fun k=>galoisref01_trim.f k l) (d32 (vB B32 l).toNat):=by
 intro n
 induction n with
 |zero=>
  intro l hl _ hd
  rw [List.eq_nil_of_length_eq_zero hl]
  refine Ev.step (f:=fun _=>some []) (fun k=>?_) (by
   show Ev (fun _=>some []) (d32 0)
   rw [d32_zero]
   exact Ev.now _)
  simp [galoisref01_trim.f,galoisref01_trim.l0]
 |succ n ih=>
  intro l hl hn hd
  have hv:=vB_nonneg (by decide) hd
  have e1:wrap64 ((l.length:Int)-1)=(n:Int):=by rw [w64 (by omega) (by omega)];omega
  have hvs:=take_succ B32 l n
  rw [vB_all _ _ _ (by omega)]at hvs
  by_cases hz:rd l (n:Int)=0
  ·rw [hz,Int.mul_zero,Int.add_zero]at hvs
   rw [hvs]
   refine Ev.step (f:=fun k=>galoisref01_trim.f k (l.take n)) (fun k=>?_) (ih _ (by rw [List.length_take];omega) (by omega) (Dig_take hd _))
   simp only [galoisref01_trim.f,galoisref01_trim.l0,e1]
   rw [if_pos (by omega),if_pos (by omega),if_pos (by omega),if_pos hz,if_pos (by omega),Int.toNat_natCast]
  ·have:l=d32 (vB B32 l).toNat:=d32_unique hd (fun _=>by rw [hl,Nat.add_sub_cancel];exact hz) (by omega)
   rw [←this]
   refine Ev.step (f:=fun _=>some l) (fun k=>?_) (Ev.now _)
   simp only [galoisref01_trim.f,galoisref01_trim.l0,e1]
   rw [if_pos (by omega),if_pos (by omega),if_pos (by omega),if_neg hz]
theorem trimV_eq:∀(k:Nat) (l:List Int),galoisref01_trimV.l0 k l=galoisref01_trim.l0 k l:=by
 intro k
 induction k with
 |zero=>intro l;rfl
 |succ k ih=>intro l;simp only [galoisref01_trimV.l0,galoisref01_trim.l0,ih]
theorem rtrimV_ev {l:List Int} (hn:l.length<9223372036854775808) (hd:Dig B32 l):Ev (fun k=>galoisref01_trimV.f k l) (d32 (vB B32 l).toNat):=
 Ev.congr (fun k=>trimV_eq k l) (rtrim_ev _ l rfl hn hd)
def win (s:ByteArray) (a b:Nat):Int:=vB 256 (((bytesOf s).take b).drop a).reverse
theorem win_self (s:ByteArray) (a:Nat):win s a a=0:=by
 unfold win
 rw [List.drop_of_length_le (by rw [List.length_take];omega)]
 rfl
theorem win_succ (s:ByteArray) (a b:Nat) (hab:a≤b) (hb:b<s.size):win s a (b+1)=win s a b*256+bt s (b:Int):=by
 unfold win
 rw [List.take_succ_eq_append_getElem (by rw [bytesOf_length];exact hb),List.drop_append_of_le_length (by rw [List.length_take,bytesOf_length];omega),List.reverse_append,List.reverse_singleton,List.singleton_append,vB_cons,bt_rd,rd_get _ b (by rw [bytesOf_length];exact hb)]
 omega
theorem win_range (s:ByteArray) (a b:Nat) (hab:a≤b) (hb:b≤s.size):0≤win s a b∧win s a b<256^(b-a):=by
 have hd:Dig 256 (((bytesOf s).take b).drop a).reverse:=Dig_reverse (Dig_drop (Dig_take (bytesOf_dig s) _) _)
 refine⟨vB_nonneg (by decide) hd,?_⟩
 have:=vB_lt (by decide) hd
 rw [List.length_reverse,List.length_drop,List.length_take,bytesOf_length,Nat.min_eq_left hb]at this
 exact this
theorem win_join (s:ByteArray) (a b c:Nat) (hab:a≤b) (hbc:b≤c) (hc:c≤s.size):win s a c=win s b c+256^(c-b)*win s a b:=by
 obtain⟨d,rfl⟩:∃d,c=b+d:=⟨c-b,by omega⟩
 induction d with
 |zero=>
  rw [Nat.add_zero,win_self,Nat.sub_self,Int.pow_zero,Int.one_mul,Int.zero_add]
 |succ d ih=>
  rw [←Nat.add_assoc,win_succ s a _ (by omega) (by omega),win_succ s b _ (by omega) (by omega),ih (by omega) (by omega)]
  rw [show b+d+1-b=(b+d-b)+1 by omega,Int.pow_succ,Int.mul_right_comm]
  generalize 256^(b+d-b)*win s a b=X
  omega
theorem win_all (s:ByteArray):win s 0 s.size=bval s:=by
 unfold win bval
 rw [List.drop_zero,List.take_of_length_le (by rw [bytesOf_length];exact Nat.le_refl _)]
theorem limbs_l1 (s:ByteArray) (hs:s.size≤1099511627776) (out:List Int) (lo:Nat) (hlo:out.length≤1099511627776) (e:Nat) (he:e≤s.size) (hle:lo≤e) (h4:e≤lo+4) (r:List Int)
  (next:Ev (fun k=>galoisref01_limbs.l0 k s (out++[win s lo e]) ((e:Int)-4)) r):∀(d i:Nat),i+d=e→lo≤i→Ev (fun k=>galoisref01_limbs.l1 k s out (e:Int) (win s lo i) (i:Int)) r:=by
 intro d
 induction d with
 |zero=>
  intro i hi hl
  have hi:i=e:=by omega
  subst hi
  have e1:wrap64 ((i:Int)-4)=(i:Int)-4:=w64 (by omega) (by omega)
  refine Ev.step (fun k=>?_) next
  simp only [galoisref01_limbs.l1,e1]
  rw [if_neg (Int.lt_irrefl _),if_pos (by omega)]
 |succ d ih=>
  intro i hi hl
  have c1:(i:Int)<(e:Int):=by omega
  have c2:(i:Int)<(s.size:Int):=by omega
  have e1:wrap64 ((i:Int)+1)=((i+1:Nat):Int):=by rw [w64 (by omega) (by omega)];omega
  obtain⟨w0,w1⟩:=win_range s lo i hl (by omega)
  have w2:win s lo i<16777216:=by
   refine Int.lt_of_lt_of_le w1 ?_
   exact pow_le_pow (B:=256) (by decide) (show i-lo≤3 by omega)
  obtain⟨b0,b1⟩:=bt_range s (i:Int)
  have e2:IntKind.u64.wrap (IntKind.u64.wrap (win s lo i*256)+IntKind.u64.wrap (bt s (i:Int)))=win s lo (i+1):=by
   rw [win_succ s lo i hl (by omega),u64 (x:=win s lo i*256) (by omega) (by omega),u64 (x:=bt s (i:Int)) (by omega) (by omega),u64 (by omega) (by omega)]
  refine Ev.step (f:=fun k=>galoisref01_limbs.l1 k s out (e:Int) (win s lo (i+1)) ((i+1:Nat):Int)) (fun k=>?_) (ih (i+1) (by omega) (by omega))
  simp only [galoisref01_limbs.l1,e1,e2]
  rw [if_pos c1,if_pos (Int.natCast_nonneg _),if_pos c2]
theorem limbs_end (s:ByteArray) (out:List Int) (hd:Dig B32 out) (hl:out.length≤1099511627776) (hv:vB B32 out=bval s) (x:Int) (hx:¬x>0):Ev (fun k=>galoisref01_limbs.l0 k s out x) (d32 (bval s).toNat):=by
 have h:=rtrim_ev out.length out rfl (by omega) hd
 rw [hv]at h
 refine Ev.step (f:=fun k=>(galoisref01_trim.f k out).bind fun t=>some t) (fun k=>?_) (Ev.bind h (Ev.now _))
 simp only [galoisref01_limbs.l0]
 rw [if_neg hx]
theorem limbs_l0 (s:ByteArray) (hs:s.size≤1099511627776):∀(e:Nat) (out:List Int),e≤s.size→4*out.length=s.size-e→Dig B32 out→vB B32 out=win s e s.size→Ev (fun k=>galoisref01_limbs.l0 k s out (e:Int)) (d32 (bval s).toNat):=by
 intro e
 induction e using Nat.strongRecOn with
 |_ e ih=>
  intro out he hl hd hv
  by_cases h0:e=0
  ·subst h0
   exact limbs_end s out hd (by omega) (by rw [hv,win_all]) _ (by omega)
  ·have hmx:mx 0 (wrap64 ((e:Int)-4))=((e-4:Nat):Int):=by
    rw [w64 (by omega) (by omega)]
    unfold mx
    split<;>omega
   have hw:=win_range s (e-4) e (by omega) he
   have hw1:win s (e-4) e<B32:=by
    refine Int.lt_of_lt_of_le hw.2 ?_
    exact pow_le_pow (B:=256) (by decide) (show e-(e-4)≤4 by omega)
   have hd':Dig B32 (out++[win s (e-4) e]):=Dig_append hd (Dig_cons.2 ⟨⟨hw.1,hw1⟩,Dig_nil _⟩)
   have hpow:(B32:Int)^out.length=256^(s.size-e):=by
    rw [←hl,Int.pow_mul]
    rfl
   have hv':vB B32 (out++[win s (e-4) e])=win s (e-4) s.size:=by
    rw [vB_append,hpow,hv,win_join s (e-4) e s.size (by omega) he (Nat.le_refl _)]
    simp [vB]
   refine Ev.step (f:=fun k=>galoisref01_limbs.l1 k s out (e:Int) (win s (e-4) (e-4)) ((e-4:Nat):Int)) (fun k=>?_) (limbs_l1 s hs out (e-4) (by omega) e he (by omega) (by omega) _ ?_ (e-(e-4)) (e-4) (by omega) (Nat.le_refl _))
   ·simp only [galoisref01_limbs.l0,hmx]
    rw [if_pos (by omega),win_self]
   ·by_cases h4:e≤4
    ·refine limbs_end s _ hd' (by rw [List.length_append];simp;omega) ?_ _ (by omega)
     rw [hv',show e-4=0 by omega,win_all]
    ·have:=ih (e-4) (by omega) (out++[win s (e-4) e]) (by omega) (by rw [List.length_append];simp;omega) hd' hv'
     rwa [show((e-4:Nat):Int)=(e:Int)-4 by omega]at this
theorem limbs_ev (s:ByteArray) (hs:s.size≤1099511627776):Ev (fun k=>galoisref01_limbs.f k s) (d32 (bval s).toNat):=
 limbs_l0 s hs s.size [] (Nat.le_refl _) (by simp) (Dig_nil _) (by rw [win_self];rfl)
theorem limbs_nat {n:Nat} (hs:(nat n).size≤1099511627776):Ev (fun k=>galoisref01_limbs.f k (nat n)) (d32 n):=by
 have:=limbs_ev (nat n) hs
 rwa [bval_nat,Int.toNat_natCast]at this
theorem d8_push {N x:Nat} (hx:x<256) (h:N*256+x≠0):d8 (N*256+x)=(x:Int)::d8 N:=by
 unfold d8
 rw [dgs_pos _ _ h,show(N*256+x)%(254+2)=x by omega,show(N*256+x)/(254+2)=N by omega]
theorem rpack_byte {N x:Nat} (hx:x<256):(if(((d8 N).reverse.length:Int)>0)then(d8 N).reverse++[(x:Int)]else if(x:Int)>0 then(d8 N).reverse++[(x:Int)]else(d8 N).reverse)=(d8 (N*256+x)).reverse:=by
 by_cases h:N*256+x=0
 ·have hN:N=0:=by omega
  have hx0:x=0:=by omega
  subst hN hx0
  have:d8 0=[]:=dgs_zero _
  rw [show 0*256+0=0 from rfl,this]
  simp
 ·rw [d8_push hx h,List.reverse_cons]
  by_cases h1:((d8 N).reverse.length:Int)>0
  ·rw [if_pos h1]
  ·rw [if_neg h1,if_pos]
   have:N=0:=by
    rcases Nat.eq_zero_or_pos N with h2|h2
    ·exact h2
    ·exfalso
     have h3:(nat N).size≠0:=fun h4=>by have:=nat_size_zero.1 h4;omega
     rw [nat_size]at h3
     rw [List.length_reverse]at h1
     omega
   omega
theorem rpack_l1 {l:List Int} {V:Nat} (hd:Dig B32 l) (hl:l.length≤1099511627776) (hV:(nat V).size≤4398046511104) {i H D:Nat} (hi:i<l.length) (hD:rd l (i:Int)=D) (hle:H*4294967296+D≤V) {r:ByteArray}
  (next:Ev (fun k=>galoisref01_pack.l0 k l (d8 (H*4294967296+D)).reverse ((i:Int)-1)) r):∀(c N:Nat),c≤4→N=H*256^(4-c)+D/256^c→Ev (fun k=>galoisref01_pack.l1 k l (d8 N).reverse (i:Int) (8*(c:Int)-8)) r:=by
 have hD32:D<4294967296:=by
  have h:=(Dig_rd hd i hi).2
  rw [hD]at h
  exact Int.ofNat_lt.1 h
 intro c
 induction c with
 |zero=>
  intro N _ hN
  have hN:N=H*4294967296+D:=by simpa using hN
  rw [hN]
  have e1:wrap64 ((i:Int)-1)=(i:Int)-1:=w64 (by omega) (by omega)
  refine Ev.step (fun k=>?_) next
  simp only [galoisref01_pack.l1,e1]
  rw [if_neg (by decide)]
 |succ c ih=>
  intro N hc hN
  have hcase:c=0∨c=1∨c=2∨c=3:=by omega
  have hNV:N≤V:=by
   refine Nat.le_trans ?_ hle
   rw [hN]
   exact Nat.add_le_add (Nat.mul_le_mul_left H (Nat.pow_le_pow_right (show 0<256 by decide) (show 4-(c+1)≤4 from Nat.sub_le _ _))) (Nat.div_le_self _ _)
  have hb:∃x:Nat,x<256∧(shr .u64 (rd l (i:Int)) (8*((c+1:Nat):Int)-8))%256=(x:Int)∧N*256+x=H*256^(4-c)+D/256^c:=by
   refine⟨D/256^c%256,Nat.mod_lt _ (by decide),?_,?_⟩
   ·rw [show 8*((c+1:Nat):Int)-8=((8*c:Nat):Int)by omega,shr_eq _ _ (by omega),hD]
    rcases hcase with rfl|rfl|rfl|rfl<;>simp<;>omega
   ·rw [hN]
    rcases hcase with rfl|rfl|rfl|rfl<;>simp<;>omega
  obtain⟨x,x1,x2,x3⟩:=hb
  have hsz:(d8 N).reverse.length<140737488355328:=by
   have:=size_mono hNV
   rw [nat_size]at this
   rw [List.length_reverse]
   omega
  have e1:wrap64 (8*((c+1:Nat):Int)-8-8)=8*(c:Int)-8:=by rw [w64 (by omega) (by omega)];omega
  refine Ev.step (f:=fun k=>galoisref01_pack.l1 k l (d8 (N*256+x)).reverse (i:Int) (8*(c:Int)-8)) (fun k=>?_) (ih (N*256+x) (by omega) x3)
  rw [←rpack_byte x1]
  simp only [galoisref01_pack.l1,e1,x2]
  rw [if_pos (by omega),if_pos (by omega),if_pos (by omega),if_pos (by omega)]
  by_cases h1:((d8 N).reverse.length:Int)>0
  ·rw [if_pos h1,if_pos hsz,if_pos h1]
  ·rw [if_neg h1,if_neg h1]
   by_cases h2:(x:Int)>0
   ·rw [if_pos h2,if_pos hsz,if_pos h2]
   ·rw [if_neg h2,if_neg h2]
theorem rpack_l0 {l:List Int} {V:Nat} (hd:Dig B32 l) (hl:l.length≤1099511627776) (hV:(nat V).size≤4398046511104) (hv:vB B32 l=V):∀(J H:Nat),J≤l.length→vB B32 (l.drop J)=H→Ev (fun k=>galoisref01_pack.l0 k l (d8 H).reverse ((J:Int)-1)) (nat V):=by
 intro J
 induction J with
 |zero=>
  intro H _ hH
  rw [List.drop_zero,hv]at hH
  have e:H=V:=by omega
  subst e
  refine Ev.step (f:=fun _=>some (nat H)) (fun k=>?_) (Ev.now _)
  simp only [galoisref01_pack.l0]
  rw [if_neg (by decide)]
  rfl
 |succ i ih=>
  intro H hJ hH
  have hi:i<l.length:=by omega
  obtain⟨D,hD⟩:=Int.eq_ofNat_of_zero_le (Dig_rd hd i hi).1
  have hds:=drop_succ B32 l i hi
  rw [hH,hD]at hds
  have hds':vB B32 (l.drop i)=((H*4294967296+D:Nat):Int):=by
   rw [hds]
   show(D:Int)+4294967296*(H:Int)=_
   omega
  have hle:H*4294967296+D≤V:=by
   have h1:=vB_split B32 l i (by omega)
   have h2:=vB_nonneg (show(0:Int)≤B32 by decide) (Dig_take hd i)
   have h3:(1:Int)≤B32^i:=by have:(0:Int)<B32^i:=Int.pow_pos (by decide);omega
   have h4:=Int.mul_le_mul_of_nonneg_right h3 (show 0≤vB B32 (l.drop i)from vB_nonneg (by decide) (Dig_drop hd i))
   rw [Int.one_mul]at h4
   rw [hv]at h1
   rw [hds']at h1 h4
   generalize B32^i*((H*4294967296+D:Nat):Int)=X at*
   clear h3
   omega
  refine Ev.congr (f:=fun k=>galoisref01_pack.l0 k l (d8 H).reverse (i:Int)) (fun k=>by rw [show((i+1:Nat):Int)-1=(i:Int)by omega]) ?_
  refine Ev.step (f:=fun k=>galoisref01_pack.l1 k l (d8 H).reverse (i:Int) (8*((4:Nat):Int)-8)) (fun k=>?_) (rpack_l1 hd hl hV hi hD hle (ih _ (by omega) hds') 4 H (Nat.le_refl _) ?_)
  ·simp only [galoisref01_pack.l0]
   rw [if_pos (by omega)]
   rfl
  ·have hD32:D<4294967296:=by
    have h:=(Dig_rd hd i hi).2
    rw [hD]at h
    exact Int.ofNat_lt.1 h
   simp
   omega
theorem rpack_ev {l:List Int} (hd:Dig B32 l) (hl:l.length≤1099511627776):Ev (fun k=>galoisref01_pack.f k l) (nat (vB B32 l).toNat):=by
 have hv:=vB_nonneg (show(0:Int)≤B32 by decide) hd
 have hV:(nat (vB B32 l).toNat).size≤4398046511104:=by
  have h:(nat (vB B32 l).toNat).size≤4*l.length:=by
   apply nat_size_le.2
   have h1:=vB_lt (show(0:Int)<B32 by decide) hd
   rw [Nat.pow_mul]
   have h2:(((vB B32 l).toNat:Nat):Int)<((4294967296^l.length:Nat):Int):=by
    rw [Int.toNat_of_nonneg hv,Int.natCast_pow]
    exact h1
   exact Int.ofNat_lt.1 h2
  omega
 have e1:wrap64 ((l.length:Int)-1)=(l.length:Int)-1:=w64 (by omega) (by omega)
 have:=rpack_l0 hd hl hV (show vB B32 l=(((vB B32 l).toNat:Nat):Int)by omega) l.length 0 (Nat.le_refl _) (by rw [List.drop_of_length_le (Nat.le_refl _)];rfl)
 refine Ev.congr (fun k=>?_) this
 unfold galoisref01_pack.f
 rw [e1,show d8 0=[]from dgs_zero _]
 rfl
theorem and32 {x:Int} (h0:0≤x) (h1:x<18446744073709551616):Go.bits .and .u64 x 4294967295=x%B32:=and_low h0 h1
theorem rmul_add {x y o c:Int} (x0:0≤x) (x1:x<B32) (y0:0≤y) (y1:y<B32) (o0:0≤o) (o1:o<B32) (c0:0≤c) (c1:c<B32):
  0≤(x*y+o+c)/B32∧(x*y+o+c)/B32<B32∧IntKind.u64.wrap (IntKind.u64.wrap (o+IntKind.u64.wrap (x*y))+c)=x*y+o+c∧Go.bits .and .u64 (x*y+o+c) 4294967295=(x*y+o+c)%B32:=by
 have x1':x<4294967296:=x1
 have y1':y<4294967296:=y1
 have o1':o<4294967296:=o1
 have c1':c<4294967296:=c1
 have hp:=mul_range x0 (show x≤4294967295 by omega) y0 (show y≤4294967295 by omega)
 have h1:(4294967295:Int)*4294967295=18446744065119617025:=rfl
 rw [h1]at hp
 rw [and32 (x:=x*y+o+c) (by omega) (by omega)]
 show 0≤(x*y+o+c)/4294967296∧(x*y+o+c)/4294967296<4294967296∧IntKind.u64.wrap (IntKind.u64.wrap (o+IntKind.u64.wrap (x*y))+c)=x*y+o+c∧(x*y+o+c)%4294967296=(x*y+o+c)%4294967296
 generalize x*y=p at*
 clear x0 x1 x1' y0 y1 y1' o1 c1 h1
 rw [u64 (x:=p) (by omega) (by omega),u64 (x:=o+p) (by omega) (by omega),u64 (x:=o+p+c) (by omega) (by omega)]
 omega
def RMulOut (a b out:List Int) (i:Nat):Prop:=
 out.length=a.length+b.length∧Dig B32 out∧vB B32 out=vB B32 (a.take i)*vB B32 b∧∀j:Nat,i+b.length≤j→rd out (j:Int)=0
def RMulIn (a b out:List Int) (i j:Nat) (c:Int):Prop:=
 out.length=a.length+b.length∧Dig B32 out∧(0≤c∧c<B32)∧vB B32 out+B32^(i+j)*c=vB B32 (a.take i)*vB B32 b+B32^i*(rd a (i:Int)*vB B32 (b.take j))∧∀n:Nat,i+b.length≤n→rd out (n:Int)=0
theorem rmul_in {a b out:List Int} {i j:Nat} {c:Int} (ha:Dig B32 a) (hb:Dig B32 b) (hi:i<a.length) (hj:j<b.length) (h:RMulIn a b out i j c):
  RMulIn a b (out.set (i+j) ((rd a (i:Int)*rd b (j:Int)+rd out ((i+j:Nat):Int)+c)%B32)) i (j+1) ((rd a (i:Int)*rd b (j:Int)+rd out ((i+j:Nat):Int)+c)/B32):=by
 obtain⟨hl,hd,hc,hv,hz⟩:=h
 obtain⟨x0,x1⟩:=Dig_rd ha i hi
 obtain⟨y0,y1⟩:=Dig_rd hb j hj
 obtain⟨o0,o1⟩:=Dig_rd hd (i+j) (by omega)
 obtain⟨n0,n1, -⟩:=rmul_add x0 x1 y0 y1 o0 o1 hc.1 hc.2
 refine⟨by rw [List.length_set];exact hl,Dig_set hd _ (Int.emod_nonneg _ (by decide)) (Int.emod_lt_of_pos _ (by decide)),⟨n0,n1⟩,?_,fun n hn=>?_⟩
 ·rw [vB_set _ _ _ _ (by omega),take_succ,←Nat.add_assoc,Int.pow_succ]
  have e:=Int.emod_add_mul_ediv (rd a (i:Int)*rd b (j:Int)+rd out ((i+j:Nat):Int)+c) B32
  generalize(rd a (i:Int)*rd b (j:Int)+rd out ((i+j:Nat):Int)+c)/B32=q at*
  generalize(rd a (i:Int)*rd b (j:Int)+rd out ((i+j:Nat):Int)+c)%B32=r at*
  have er:r=rd a (i:Int)*rd b (j:Int)+rd out ((i+j:Nat):Int)+c-B32*q:=by omega
  rw [er]
  have ep:(B32:Int)^(i+j)=B32^i*B32^j:=Int.pow_add _ _ _
  rw [ep]at hv⊢
  clear ep
  generalize vB B32 out=V at*
  generalize vB B32 (List.take i a)*vB B32 b=W at*
  generalize vB B32 (List.take j b)=U at*
  generalize(B32:Int)^i=P at*
  generalize(B32:Int)^j=Q at*
  generalize rd a (i:Int)=x at*
  generalize rd b (j:Int)=y at*
  generalize rd out ((i+j:Nat):Int)=o at*
  have e1:P*Q*(x*y+o+c-B32*q-o)=P*Q*(x*y)+P*Q*c-P*Q*B32*q:=by
   rw [show x*y+o+c-B32*q-o=x*y+c-B32*q by omega,Int.mul_sub,Int.mul_add,Int.mul_assoc (P*Q) B32 q]
  have e2:P*(x*(U+Q*y))=P*(x*U)+P*Q*(x*y):=by
   rw [Int.mul_add x,Int.mul_add P,Int.mul_left_comm x Q y,Int.mul_assoc P Q]
  rw [e1,e2]
  omega
 ·rw [rd_set_ne _ _ _ _ (by omega)]
  exact hz n hn
theorem rMul_l1 (a b:List Int) (ha:Dig B32 a) (hb:Dig B32 b) (la:a.length≤1099511627776) (lb:b.length≤1099511627776) (i:Nat) (hi:i<a.length) (r:ByteArray)
  (next:∀out,RMulOut a b out (i+1)→Ev (fun k=>galoisref01_Mul.l0 k a b out ((i+1:Nat):Int)) r):∀(d j:Nat) (out:List Int) (c:Int),j+d=b.length→RMulIn a b out i j c→
  Ev (fun k=>galoisref01_Mul.l1 k a b out (i:Int) c (j:Int)) r:=by
 intro d
 induction d with
 |zero=>
  intro j out c hj h
  have hj:j=b.length:=by omega
  subst hj
  have hl:=h.1
  have c1:i+b.length<out.length:=by omega
  have c2:((i+b.length:Nat):Int)<(out.length:Int):=Int.ofNat_lt.2 c1
  have e1:wrap64 ((i:Int)+(b.length:Int))=((i+b.length:Nat):Int):=by rw [w64 (by omega) (by omega)];omega
  have e2:wrap64 ((i:Int)+1)=((i+1:Nat):Int):=by clear e1;rw [w64 (by omega) (by omega)];omega
  obtain⟨-,hd,hc,hv,hz⟩:=h
  refine Ev.step (f:=fun k=>galoisref01_Mul.l0 k a b (out.set (i+b.length) c) ((i+1:Nat):Int)) (fun k=>?_) (next _ ⟨by rw [List.length_set];exact hl,Dig_set hd _ hc.1 hc.2,?_,fun j hj=>?_⟩)
  ·simp only [galoisref01_Mul.l1,e1,e2]
   rw [if_neg (Int.lt_irrefl _),if_pos (Int.natCast_nonneg _),if_pos c2,Int.toNat_natCast]
  ·rw [vB_set _ _ _ _ c1,hz _ (Nat.le_refl _),Int.sub_zero,hv,take_succ,vB_all _ _ _ (Nat.le_refl _),Int.add_mul,Int.mul_assoc]
  ·rw [rd_set_ne _ _ _ _ (by clear hv e1 e2;omega)]
   exact hz j (by clear hv e1 e2;omega)
 |succ d ih=>
  intro j out c hj h
  have hj':j<b.length:=by omega
  have hn:=rmul_in ha hb hi hj' h
  have hl:=h.1
  have c1:i+j<out.length:=by omega
  have c2:((i+j:Nat):Int)<(out.length:Int):=Int.ofNat_lt.2 c1
  have c3:(j:Int)<(b.length:Int):=Int.ofNat_lt.2 hj'
  have c5:(i:Int)<(a.length:Int):=Int.ofNat_lt.2 hi
  have c4:j+1+d=b.length:=by omega
  have e1:wrap64 ((i:Int)+(j:Int))=((i+j:Nat):Int):=by rw [w64 (by omega) (by omega)];omega
  have e2:wrap64 ((j:Int)+1)=((j+1:Nat):Int):=by clear e1;rw [w64 (by omega) (by omega)];omega
  obtain⟨-,hd,hc, -, -⟩:=h
  obtain⟨x0,x1⟩:=Dig_rd ha i hi
  obtain⟨y0,y1⟩:=Dig_rd hb j hj'
  obtain⟨o0,o1⟩:=Dig_rd hd (i+j) c1
  obtain⟨-, -,m0,m1⟩:=rmul_add x0 x1 y0 y1 o0 o1 hc.1 hc.2
  refine Ev.step (fun k=>?_) (ih (j+1) _ _ c4 hn)
  simp only [galoisref01_Mul.l1,e1,e2]
  rw [if_pos c3,if_pos (Int.natCast_nonneg _),if_pos c2,if_pos (Int.natCast_nonneg _),if_pos c5,if_pos (Int.natCast_nonneg _),m0,m1,Int.toNat_natCast]
theorem rMul_l0 (a b:List Int) (ha:Dig B32 a) (hb:Dig B32 b) (la:a.length≤549755813888) (lb:b.length≤549755813888) (n:Nat) (hn:vB B32 a*vB B32 b=n):∀(d i:Nat) (out:List Int),i+d=a.length→RMulOut a b out i→
  Ev (fun k=>galoisref01_Mul.l0 k a b out (i:Int)) (nat n):=by
 intro d
 induction d with
 |zero=>
  intro i out hi h
  have hi:i=a.length:=by omega
  subst hi
  obtain⟨hl,hd,hv,hz⟩:=h
  rw [vB_all _ _ _ (Nat.le_refl _),hn]at hv
  have p:=rpack_ev hd (by omega)
  rw [hv,Int.toNat_natCast]at p
  refine Ev.step (f:=fun k=>(galoisref01_pack.f k out).bind fun t=>some t) (fun k=>?_) (Ev.bind p (Ev.now _))
  simp only [galoisref01_Mul.l0]
  rw [if_neg (Int.lt_irrefl _)]
 |succ d ih=>
  intro i out hi h
  have hi':i<a.length:=by omega
  have c1:(i:Int)<(a.length:Int):=Int.ofNat_lt.2 hi'
  obtain⟨hl,hd,hv,hz⟩:=h
  refine Ev.step (f:=fun k=>galoisref01_Mul.l1 k a b out (i:Int) 0 ((0:Nat):Int)) (fun k=>?_) (rMul_l1 a b ha hb (by omega) (by omega) i hi' _ (fun out' h'=>ih (i+1) out' (by omega) h') b.length 0 out 0 (Nat.zero_add _) ⟨hl,hd,⟨by decide,by decide⟩,?_,hz⟩)
  ·simp only [galoisref01_Mul.l0]
   rw [if_pos c1]
   rfl
  ·rw [hv]
   simp [vB]
theorem rMul_ev {m n:Nat} (hm:(nat m).size≤1099511627776) (hn:(nat n).size≤1099511627776):Ev (fun k=>galoisref01_Mul.f k (nat m) (nat n)) (nat (m*n)):=by
 have lm:=limbs_len m
 have ln:=limbs_len n
 refine Ev.bind (limbs_nat hm) (Ev.bind (limbs_nat hn) ?_)
 have e1:wrap64 (((d32 m).length:Int)+((d32 n).length:Int))=(((d32 m).length+(d32 n).length:Nat):Int):=by rw [w64 (by omega) (by omega)];omega
 refine Ev.congr (f:=fun k=>galoisref01_Mul.l0 k (d32 m) (d32 n) (List.replicate ((d32 m).length+(d32 n).length) 0) ((0:Nat):Int)) (fun k=>?_) (rMul_l0 (d32 m) (d32 n) (d32_dig m) (d32_dig n) (by omega) (by omega) (m*n) (by rw [d32_val,d32_val,Int.natCast_mul]) (d32 m).length 0 _ (Nat.zero_add _) ⟨by simp,Dig_replicate (by decide) _,?_,fun j _=>rd_replicate _ _⟩)
 ·rw [e1,if_pos (Int.natCast_nonneg _),Int.toNat_natCast,if_pos (by omega)]
  rfl
 ·rw [vB_replicate]
  simp [vB]
theorem empty_toList:(⟨#[]⟩:ByteArray).toList=([]:List UInt8):=toList_nil.2 rfl
def d10 (n:Nat):List Int:=dgs 8 n
def txt (D:List Int):List Int:=D.map (fun x=>48+x)
def dec (n:Nat):ByteArray:=if n=0 then⟨#[48]⟩else strOfNums (txt (d10 n)).reverse
def digit (s:ByteArray) (i:Nat):Prop:=48≤bt s (i:Int)∧bt s (i:Int)≤57
instance (s:ByteArray) (i:Nat):Decidable (digit s i):=by unfold digit;infer_instance
def digits (s:ByteArray):Prop:=∀i:Nat,i<s.size→digit s i
instance (s:ByteArray):Decidable (digits s):=by unfold digits;infer_instance
def bad0 (s:ByteArray):Prop:=s.size=0∨(1<s.size∧bt s 0=48)
instance (s:ByteArray):Decidable (bad0 s):=by unfold bad0;infer_instance
theorem rOf_ev {u:Nat} (hu:u<18446744073709551616):Ev (fun k=>galoisref01_Of.f k (u:Int)) (nat u):=by
 have a1:=and32 (x:=(u:Int)) (by omega) (by omega)
 have hd:Dig B32 [(u:Int)%B32,(u:Int)/4294967296]:=Dig_cons.2 ⟨⟨Int.emod_nonneg _ (by decide),Int.emod_lt_of_pos _ (by decide)⟩,Dig_cons.2 ⟨⟨by omega,by show _<(4294967296:Int);omega⟩,Dig_nil _⟩⟩
 have p:=rpack_ev hd (by simp)
 have hv:vB B32 [(u:Int)%B32,(u:Int)/4294967296]=u:=by
  show(u:Int)%4294967296+4294967296*((u:Int)/4294967296+4294967296*0)=u
  omega
 rw [hv,Int.toNat_natCast]at p
 refine Ev.congr (f:=fun k=>(galoisref01_pack.f k [(u:Int)%B32,(u:Int)/4294967296]).bind fun t=>some t) (fun k=>?_) (Ev.bind p (Ev.now _))
 unfold galoisref01_Of.f
 rw [a1]
theorem rtop_lt {x y:List Int} (hx:Dig B32 x) (hy:Dig B32 y) {i:Nat} (hi:i<x.length) (hi':i<y.length) (hd:vB B32 (x.drop (i+1))=vB B32 (y.drop (i+1))) (h:rd x (i:Int)<rd y (i:Int)):vB B32 x<vB B32 y:=by
 have hB:(0:Int)<B32:=by decide
 have hsx:=vB_split B32 x (i+1) (by omega)
 have hsy:=vB_split B32 y (i+1) (by omega)
 rw [take_succ]at hsx hsy
 have ax:=vB_lt hB (Dig_take hx i)
 rw [List.length_take,Nat.min_eq_left (by omega)]at ax
 have bb:=vB_nonneg (Int.le_of_lt hB) (Dig_take hy i)
 rw [hd]at hsx
 have hP:(0:Int)<B32^i:=Int.pow_pos hB
 rw [hsx,hsy]
 generalize vB B32 (x.take i)=X at*
 generalize vB B32 (y.take i)=Y at*
 generalize B32^(i+1)*vB B32 (y.drop (i+1))=Z at*
 generalize(B32:Int)^i=P at*
 generalize rd x (i:Int)=a at*
 generalize rd y (i:Int)=b at*
 have h1:=Int.mul_le_mul_of_nonneg_left (show a+1≤b by omega) (Int.le_of_lt hP)
 rw [Int.mul_add,Int.mul_one]at h1
 clear hsx hsy hd
 omega
theorem below_l0 (x y:List Int) (hx:Dig B32 x) (hy:Dig B32 y) (hl:x.length=y.length) (hs:x.length<9223372036854775808) {m n:Nat} (hm:vB B32 x=m) (hn:vB B32 y=n):∀i:Nat,i≤x.length→vB B32 (x.drop i)=vB B32 (y.drop i)→Ev (fun k=>galoisref01_below.l0 k x y ((i:Int)-1)) (decide (m<n)):=by
 intro i
 induction i with
 |zero=>
  intro _ hd
  rw [List.drop_zero,List.drop_zero,hm,hn]at hd
  have e:¬m<n:=by omega
  rw [decide_eq_false e]
  refine Ev.step (f:=fun _=>some false) (fun k=>?_) (Ev.now _)
  simp only [galoisref01_below.l0]
  rw [if_neg (by decide)]
 |succ i ih=>
  intro hi hd
  have e0:((i+1:Nat):Int)-1=(i:Int):=by omega
  have e1:wrap64 ((i:Int)-1)=(i:Int)-1:=w64 (by omega) (by omega)
  have c1:(i:Int)≥0:=by omega
  have c2:(i:Int)<(x.length:Int):=by omega
  have c3:(i:Int)<(y.length:Int):=by omega
  rw [e0]
  by_cases he:rd x (i:Int)=rd y (i:Int)
  ·refine Ev.step (f:=fun k=>galoisref01_below.l0 k x y ((i:Int)-1)) (fun k=>?_) (ih (by omega) ?_)
   ·simp only [galoisref01_below.l0,e1]
    rw [if_pos c1,if_pos c1,if_pos c2,if_pos c3,if_pos he]
   ·rw [drop_succ B32 x i (by omega),drop_succ B32 y i (by omega),hd,he]
  ·have hdec:decide (rd x (i:Int)<rd y (i:Int))=decide (m<n):=by
    by_cases hab:rd x (i:Int)<rd y (i:Int)
    ·have h1:=rtop_lt hx hy (by omega) (by omega) hd hab
     rw [decide_eq_true hab,decide_eq_true (by rw [hm,hn]at h1;omega)]
    ·have h1:=rtop_lt hy hx (by omega) (by omega) hd.symm (show rd y (i:Int)<rd x (i:Int)by omega)
     rw [decide_eq_false hab,decide_eq_false (by rw [hm,hn]at h1;omega)]
   refine Ev.step (f:=fun _=>some (decide (m<n))) (fun k=>?_) (Ev.now _)
   simp only [galoisref01_below.l0,e1]
   rw [if_pos c1,if_pos c1,if_pos c2,if_pos c3,if_neg he,hdec]
theorem below_ev {l:List Int} {n R:Nat} (hd:Dig B32 l) (hl:l.length<9223372036854775808) (hR:vB B32 l=R) (hn:(d32 n).length<9223372036854775808):Ev (fun k=>galoisref01_below.f k l (d32 n)) (decide (R<n)):=by
 have ht:=rtrimV_ev hl hd
 rw [hR,Int.toNat_natCast]at ht
 have hRl:(d32 R).length<9223372036854775808:=by
  have:(d32 R).length≤l.length:=dgs_len (by
   have h1:=vB_lt (show(0:Int)<B32 by decide) hd
   rw [hR]at h1
   have h2:((R:Nat):Int)<((4294967294+2:Nat):Int)^l.length:=h1
   rw [←Int.natCast_pow]at h2
   exact Int.ofNat_lt.1 h2)
  omega
 refine Ev.bind ht ?_
 by_cases h1:(d32 R).length=(d32 n).length
 ·have:=below_l0 (d32 R) (d32 n) (d32_dig R) (d32_dig n) h1 hRl (d32_val R) (d32_val n) (d32 R).length (Nat.le_refl _) (by
   rw [List.drop_of_length_le (Nat.le_refl _),List.drop_of_length_le (by omega)])
  refine Ev.congr (fun k=>?_) this
  rw [if_pos (by omega),w64 (by omega) (by omega)]
 ·have hdec:decide (((d32 R).length:Int)<((d32 n).length:Int))=decide (R<n):=by
   by_cases h2:(d32 R).length<(d32 n).length
   ·have h3:=trim_len (by decide) (d32_dig R) (d32_dig n) (d32_trim n) h2
    rw [d32_val,d32_val]at h3
    rw [decide_eq_true (by omega),decide_eq_true (by omega)]
   ·have h3:=trim_len (by decide) (d32_dig n) (d32_dig R) (d32_trim R) (by omega)
    rw [d32_val,d32_val]at h3
    rw [decide_eq_false (by omega),decide_eq_false (by omega)]
  refine Ev.congr (f:=fun _=>some (decide (R<n))) (fun k=>?_) (Ev.now _)
  rw [if_neg (by omega),hdec]
def RSm (u y z:List Int) (g:Int) (K i:Nat) (c:Int):Prop:=
 z.length=u.length∧Dig B32 z∧(0≤c∧c<B32)∧z.take K=u.take K∧z.drop (K+i)=u.drop (K+i)∧vB B32 z+B32^K*(g*vB B32 (y.take i))=vB B32 u+B32^(K+i)*c
theorem take_set_far {l:List Int} {K j:Nat} (h:K≤j) (x:Int):(l.set j x).take K=l.take K:=List.take_set_of_le h
theorem rsm_digit {z y g c:Int} (z0:0≤z) (z1:z<B32) (y0:0≤y) (y1:y<B32) (g0:0≤g) (g1:g<B32) (c0:0≤c) (c1:c<B32):
  IntKind.u64.wrap (IntKind.u64.wrap (y*g)+c)=y*g+c∧Go.bits .and .u64 (y*g+c) 4294967295=(y*g+c)%B32∧0≤(y*g+c)/B32∧(y*g+c)/B32<B32∧0≤(y*g+c)%B32∧(y*g+c)%B32<B32∧(z<(y*g+c)%B32→(y*g+c)/B32+1<B32):=by
 have z1':z<4294967296:=z1
 have y1':y<4294967296:=y1
 have g1':g<4294967296:=g1
 have c1':c<4294967296:=c1
 have hp:=mul_range y0 (show y≤4294967295 by omega) g0 (show g≤4294967295 by omega)
 have h1:(4294967295:Int)*4294967295=18446744065119617025:=rfl
 rw [h1]at hp
 rw [and32 (x:=y*g+c) (by omega) (by omega)]
 show IntKind.u64.wrap (IntKind.u64.wrap (y*g)+c)=y*g+c∧(y*g+c)%4294967296=(y*g+c)%4294967296∧0≤(y*g+c)/4294967296∧(y*g+c)/4294967296<4294967296∧0≤(y*g+c)%4294967296∧(y*g+c)%4294967296<4294967296∧(z<(y*g+c)%4294967296→(y*g+c)/4294967296+1<4294967296)
 generalize y*g=p at*
 clear y0 y1 y1' g0 g1 g1' z1 c1 h1
 rw [u64 (x:=p) (by omega) (by omega),u64 (x:=p+c) (by omega) (by omega)]
 omega
theorem rsm_step {u y z:List Int} {g c d e:Int} {K i:Nat} (hj:K+i<z.length) (h:RSm u y z g K i c) (d0:0≤d) (d1:d<B32) (he:0≤(rd y (i:Int)*g+c)/B32+e) (he1:(rd y (i:Int)*g+c)/B32+e<B32)
  (hd:d=rd z ((K+i:Nat):Int)-(rd y (i:Int)*g+c)%B32+B32*e):RSm u y (z.set (K+i) d) g K (i+1) ((rd y (i:Int)*g+c)/B32+e):=by
 obtain⟨hl,hdg,hc,ht,hdr,hv⟩:=h
 refine⟨by rw [List.length_set];exact hl,Dig_set hdg _ d0 d1,⟨he,he1⟩,by rw [take_set_far (by omega)];exact ht,?_,?_⟩
 ·rw [←Nat.add_assoc,drop_set,←List.drop_drop,hdr,List.drop_drop]
 ·rw [vB_set _ _ _ _ hj,take_succ,←Nat.add_assoc,Int.pow_succ,hd]
  have em:=Int.emod_add_mul_ediv (rd y (i:Int)*g+c) B32
  generalize(rd y (i:Int)*g+c)/B32=q at*
  generalize(rd y (i:Int)*g+c)%B32=r at*
  have er:rd z ((K+i:Nat):Int)-r+B32*e-rd z ((K+i:Nat):Int)=B32*(q+e)-rd y (i:Int)*g-c:=by
   rw [Int.mul_add]
   clear hv
   omega
  have ep:(B32:Int)^(K+i)=B32^K*B32^i:=Int.pow_add _ _ _
  rw [er,Int.mul_sub,Int.mul_sub,Int.mul_assoc (B32^(K+i)) B32]
  have e3:B32^K*(g*(vB B32 (y.take i)+B32^i*rd y (i:Int)))=B32^K*(g*vB B32 (y.take i))+B32^(K+i)*(rd y (i:Int)*g):=by
   rw [ep,Int.mul_add g,Int.mul_add (B32^K),Int.mul_left_comm g (B32^i),←Int.mul_assoc (B32^K) (B32^i),Int.mul_comm g (rd y _)]
  rw [e3]
  generalize B32^(K+i)*(B32*(q+e))=A1 at*
  generalize B32^(K+i)*(rd y (i:Int)*g)=A2 at*
  generalize B32^(K+i)*c=A3 at*
  generalize B32^K*(g*vB B32 (y.take i))=A4 at*
  clear ep er em
  omega
theorem rsm_end {u y z:List Int} {g c:Int} {K N:Nat} (hN:y.length=N) (hKN:K+N<u.length) (hu:Dig B32 u) (hy:Dig B32 y) (h:RSm u y z g K N c) (hg:g*vB B32 y≤vB B32 (u.drop K)) (hR:vB B32 (u.drop K)<vB B32 y*B32):
  0≤rd z ((K+N:Nat):Int)-c∧rd z ((K+N:Nat):Int)-c<B32∧(z.set (K+N) (rd z ((K+N:Nat):Int)-c)).length=u.length∧Dig B32 (z.set (K+N) (rd z ((K+N:Nat):Int)-c))∧
  vB B32 ((z.set (K+N) (rd z ((K+N:Nat):Int)-c)).drop K)=vB B32 (u.drop K)-g*vB B32 y∧vB B32 (z.set (K+N) (rd z ((K+N:Nat):Int)-c))+B32^K*(g*vB B32 y)=vB B32 u:=by
 have hB:(0:Int)<B32:=by decide
 obtain⟨hl,hd,hc,ht,hdr,hv⟩:=h
 rw [vB_all _ _ _ (by rw [hN];exact Nat.le_refl _)]at hv
 have hj:K+N<z.length:=by omega
 obtain⟨z0,z1⟩:=Dig_rd hd (K+N) hj
 have hy1:=vB_lt hB hy
 rw [hN]at hy1
 have s2:=vB_split B32 (u.drop K) (N+1) (by rw [List.length_drop];omega)
 rw [List.drop_drop]at s2
 have p1:=vB_nonneg (Int.le_of_lt hB) (Dig_take (Dig_drop hu K) (N+1))
 have p2:=vB_nonneg (Int.le_of_lt hB) (Dig_drop hu (K+(N+1)))
 have hzero:vB B32 (u.drop (K+(N+1)))=0:=by
  rcases Int.lt_or_le (vB B32 (u.drop (K+(N+1)))) 1 with h|h
  ·clear hv hy1 s2 hR hg;omega
  ·exfalso
   have h1:=Int.mul_le_mul_of_nonneg_left h (Int.le_of_lt (show(0:Int)<B32^(N+1)from Int.pow_pos hB))
   rw [Int.mul_one]at h1
   have h2:=Int.mul_lt_mul_of_pos_right hy1 hB
   have h3:(B32:Int)^(N+1)=B32^N*B32:=Int.pow_succ _ _
   rw [h3]at h1 s2
   generalize(B32:Int)^N*B32=P at*
   generalize P*vB B32 (u.drop (K+(N+1)))=A at*
   clear hv hy1 hg h3
   omega
 have s3:=vB_split B32 z (K+N) (by omega)
 have s4:vB B32 (z.drop (K+N))=rd z ((K+N:Nat):Int):=by
  have h1:=drop_succ B32 z (K+N) hj
  have h2:z.drop (K+N+1)=u.drop (K+(N+1)):=by rw [←List.drop_drop,hdr,List.drop_drop,Nat.add_assoc]
  rw [h2,hzero,Int.mul_zero,Int.add_zero]at h1
  exact h1
 have l0:=vB_nonneg (Int.le_of_lt hB) (Dig_take hd (K+N))
 have l1:=vB_lt hB (Dig_take hd (K+N))
 rw [List.length_take,Nat.min_eq_left (by clear hv hy1 s2 s3;omega)]at l1
 have s5:=vB_split B32 u K (by clear hv hy1 s2 s3 l1;omega)
 have l2:=vB_nonneg (Int.le_of_lt hB) (Dig_take hu K)
 have hge:c≤rd z ((K+N:Nat):Int):=by
  rcases Int.lt_or_le (rd z ((K+N:Nat):Int)) c with h|h
  ·exfalso
   have h1:=Int.mul_le_mul_of_nonneg_left (show rd z ((K+N:Nat):Int)+1≤c by clear hv hy1 s2 s3 l1 s5;omega) (Int.le_of_lt (show(0:Int)<B32^(K+N)from Int.pow_pos hB))
   rw [Int.mul_add,Int.mul_one]at h1
   have h2:=Int.mul_le_mul_of_nonneg_left hg (Int.le_of_lt (show(0:Int)<B32^K from Int.pow_pos hB))
   rw [s4]at s3
   generalize B32^(K+N)*rd z ((K+N:Nat):Int)=A1 at*
   generalize B32^(K+N)*c=A2 at*
   generalize(B32:Int)^(K+N)=A3 at*
   generalize B32^K*(g*vB B32 y)=A4 at*
   generalize B32^K*vB B32 (u.drop K)=A5 at*
   clear hy1 s2
   omega
  ·exact h
 have d0:0≤rd z ((K+N:Nat):Int)-c:=by clear hv hy1 s2 s3 l1 s5;omega
 have d1:rd z ((K+N:Nat):Int)-c<B32:=by clear hv hy1 s2 s3 l1 s5;omega
 have hval:vB B32 (z.set (K+N) (rd z ((K+N:Nat):Int)-c))+B32^K*(g*vB B32 y)=vB B32 u:=by
  rw [vB_set _ _ _ _ hj,show rd z ((K+N:Nat):Int)-c-rd z ((K+N:Nat):Int)= -c by clear hv hy1 s2 s3 l1 s5;omega,Int.mul_neg]
  generalize B32^(K+N)*c=A2 at*
  generalize B32^K*(g*vB B32 y)=A4 at*
  clear hy1 s2 s3 l1 s5
  omega
 refine⟨d0,d1,by rw [List.length_set];exact hl,Dig_set hd _ d0 d1,?_,hval⟩
 have s6:=vB_split B32 (z.set (K+N) (rd z ((K+N:Nat):Int)-c)) K (by rw [List.length_set];clear hv hy1 s2 s3 l1 s5 hval;omega)
 rw [take_set_far (by clear hv hy1 s2 s3 l1 s5 hval;omega),ht]at s6
 have hne:(B32:Int)^K≠0:=Int.ne_of_gt (Int.pow_pos hB)
 apply Int.eq_of_mul_eq_mul_left hne
 rw [Int.mul_sub]
 generalize B32^K*vB B32 ((z.set (K+N) (rd z ((K+N:Nat):Int)-c)).drop K)=A1 at*
 generalize B32^K*vB B32 (u.drop K)=A2 at*
 generalize B32^K*(g*vB B32 y)=A4 at*
 clear hv hy1 s2 s3 l1
 omega
theorem rdiv_l2 {u y q:List Int} {g:Int} {K N:Nat} (hN:y.length=N) (hKN:K+N<u.length) (lu:u.length≤1099511627776) (hu:Dig B32 u) (hy:Dig B32 y) (g0:0≤g) (g1:g<B32) (hg:g*vB B32 y≤vB B32 (u.drop K)) (hR:vB B32 (u.drop K)<vB B32 y*B32) {r:ByteArray×ByteArray}
  (next:∀z':List Int,z'.length=u.length→Dig B32 z'→vB B32 (z'.drop K)=vB B32 (u.drop K)-g*vB B32 y→vB B32 z'+B32^K*(g*vB B32 y)=vB B32 u→Ev (fun k=>galoisref01_DivMod.l1 k y (N:Int) z' q (K:Int)) r):
  ∀(d i:Nat) (z:List Int) (c:Int),i+d=N→RSm u y z g K i c→Ev (fun k=>galoisref01_DivMod.l2 k y (N:Int) z q (K:Int) g c (i:Int)) r:=by
 intro d
 induction d with
 |zero=>
  intro i z c hi h
  have hi:i=N:=by omega
  subst hi
  have hl:=h.1
  have c1:((K+i:Nat):Int)<(z.length:Int):=by omega
  obtain⟨d0,d1,r1,r2,r3,r4⟩:=rsm_end hN hKN hu hy h hg hR
  have d1':rd z ((K+i:Nat):Int)-c<4294967296:=d1
  have e1:wrap64 ((K:Int)+(i:Int))=((K+i:Nat):Int):=by clear r3 r4 hg hR;rw [w64 (by omega) (by omega)];omega
  have e2:IntKind.u64.wrap (rd z ((K+i:Nat):Int)-c)=rd z ((K+i:Nat):Int)-c:=by clear r3 r4 hg hR e1;exact u64 (by omega) (by omega)
  refine Ev.step (fun k=>?_) (next _ r1 r2 r3 r4)
  simp only [galoisref01_DivMod.l2,e1,e2]
  rw [if_neg (Int.lt_irrefl _),if_pos (Int.natCast_nonneg _),if_pos c1,Int.toNat_natCast]
 |succ d ih=>
  intro i z c hi h
  have hl:=h.1
  have hi':i<N:=by omega
  have hj:K+i<z.length:=by omega
  have c0:i+1+d=N:=by omega
  have c1:(i:Int)<(N:Int):=Int.ofNat_lt.2 hi'
  have c2:(i:Int)<(y.length:Int):=by rw [hN];exact c1
  have c3:((K+i:Nat):Int)<(z.length:Int):=Int.ofNat_lt.2 hj
  obtain⟨z0,z1⟩:=Dig_rd h.2.1 (K+i) hj
  obtain⟨y0,y1⟩:=Dig_rd hy i (by omega)
  have hc:=h.2.2.1
  obtain⟨p1,p2,p3,p4,p5,p6,p7⟩:=rsm_digit z0 z1 y0 y1 g0 g1 hc.1 hc.2
  have z1':rd z ((K+i:Nat):Int)<4294967296:=z1
  have p4':(rd y (i:Int)*g+c)/B32<4294967296:=p4
  have p6':(rd y (i:Int)*g+c)%B32<4294967296:=p6
  have e1:wrap64 ((K:Int)+(i:Int))=((K+i:Nat):Int):=by clear p1 p2 p3 p4 p4' p5 p6 p6' p7 hg hR;rw [w64 (by omega) (by omega)];omega
  have e2:wrap64 ((i:Int)+1)=((i+1:Nat):Int):=by clear p1 p2 p3 p4 p4' p5 p6 p6' p7 hg hR e1;rw [w64 (by omega) (by omega)];omega
  by_cases hb:rd z ((K+i:Nat):Int)<(rd y (i:Int)*g+c)%B32
  ·have p8:=p7 hb
   have hs:=rsm_step (d:=rd z ((K+i:Nat):Int)+4294967296-(rd y (i:Int)*g+c)%B32) (e:=1) hj h (by clear p1 p2 p3 p4 p4' p5 p7 hg hR e1 e2;omega) (by show _<(4294967296:Int);clear p1 p2 p3 p4 p4' p5 p7 hg hR e1 e2;omega) (by clear p1 p2 p4 p4' p5 p7 hg hR e1 e2 hb;omega) p8 (by show _=rd z ((K+i:Nat):Int)-(rd y (i:Int)*g+c)%B32+4294967296*1;clear p1 p2 p3 p4 p4' p5 p7 hg hR e1 e2;omega)
   have e3:IntKind.u64.wrap (rd z ((K+i:Nat):Int)+4294967296)=rd z ((K+i:Nat):Int)+4294967296:=by clear p1 p2 p3 p4 p4' p5 p7 hg hR e1 e2;exact u64 (by omega) (by omega)
   have e4:IntKind.u64.wrap (rd z ((K+i:Nat):Int)+4294967296-(rd y (i:Int)*g+c)%B32)=rd z ((K+i:Nat):Int)+4294967296-(rd y (i:Int)*g+c)%B32:=by clear p1 p2 p3 p4 p4' p7 hg hR e1 e2 e3;exact u64 (by omega) (by omega)
   have e5:IntKind.u64.wrap ((rd y (i:Int)*g+c)/4294967296+1)=(rd y (i:Int)*g+c)/B32+1:=by
    clear p1 p2 p7 hg hR e1 e2 e3 e4
    exact u64 (Int.add_nonneg p3 (by decide)) (Int.lt_trans p8 (by decide))
   have r1:rd (z.set (K+i) (rd z ((K+i:Nat):Int)+4294967296)) ((K+i:Nat):Int)=rd z ((K+i:Nat):Int)+4294967296:=rd_set_self _ _ _ hj
   refine Ev.step (fun k=>?_) (ih (i+1) _ _ c0 hs)
   simp only [galoisref01_DivMod.l2,e1,e2,p1,p2,e3,e5,Int.toNat_natCast,Option.bind_some]
   rw [if_pos c1,if_pos (Int.natCast_nonneg _),if_pos c2,if_pos (Int.natCast_nonneg _),if_pos c3,if_pos hb,r1,e4,List.set_set]
  ·have hs:=rsm_step (d:=rd z ((K+i:Nat):Int)-(rd y (i:Int)*g+c)%B32) (e:=0) hj h (by clear p1 p2 p3 p4 p4' p7 hg hR e1 e2;omega) (by show _<(4294967296:Int);clear p1 p2 p3 p4 p4' p7 hg hR e1 e2;omega) (by rw [Int.add_zero];exact p3) (by rw [Int.add_zero];exact p4) (by rw [Int.mul_zero,Int.add_zero])
   have e4:IntKind.u64.wrap (rd z ((K+i:Nat):Int)-(rd y (i:Int)*g+c)%B32)=rd z ((K+i:Nat):Int)-(rd y (i:Int)*g+c)%B32:=by clear p1 p2 p3 p4 p4' p7 hg hR e1 e2;exact u64 (by omega) (by omega)
   rw [Int.add_zero]at hs
   refine Ev.step (fun k=>?_) (ih (i+1) _ _ c0 hs)
   simp only [galoisref01_DivMod.l2,e1,e2,p1,p2,Int.toNat_natCast]
   rw [if_pos c1,if_pos (Int.natCast_nonneg _),if_pos c2,if_pos (Int.natCast_nonneg _),if_pos c3,if_neg hb,e4]
theorem d32_pos {n:Nat} (h:0<n):0<(d32 n).length:=by
 rcases Nat.eq_zero_or_pos (d32 n).length with h1|h1
 ·exfalso
  have:=d32_val n
  rw [List.eq_nil_of_length_eq_zero h1]at this
  simp [vB]at this
  omega
 ·exact h1
theorem mx_or (a b:Int):(mx a b=a∧b≤a)∨(mx a b=b∧a≤b):=by
 unfold mx
 split
 ·right;exact⟨rfl,by omega⟩
 ·left;exact⟨rfl,by omega⟩
theorem rguess {u:List Int} {n K N:Nat} {R T top:Int} (hn:0<n) (hN:(d32 n).length=N+1) (hKN:K+(N+1)<u.length) (hu:Dig B32 u) (hR:vB B32 (u.drop K)=R) (hge:(n:Int)≤R) (hlt:R<n*B32)
  (hT:T=rd u ((K+(N+1):Nat):Int)*4294967296+rd u ((K+N:Nat):Int)) (htop:top=rd (d32 n) (N:Int)):
  (0≤T∧T<18446744073709551616)∧(0≤top∧top<4294967296)∧1≤mx 1 (T/(top+1))∧mx 1 (T/(top+1))<B32∧mx 1 (T/(top+1))*n≤R:=by
 have hB:(0:Int)<B32:=by decide
 obtain⟨t0,t1⟩:=Dig_rd (d32_dig n) N (by omega)
 obtain⟨u0,u1⟩:=Dig_rd hu (K+(N+1)) hKN
 obtain⟨v0,v1⟩:=Dig_rd hu (K+N) (by omega)
 rw [←htop]at t0 t1
 have t1':top<4294967296:=t1
 have u1':rd u ((K+(N+1):Nat):Int)<4294967296:=u1
 have v1':rd u ((K+N:Nat):Int)<4294967296:=v1
 have T0:0≤T:=by omega
 have T1:T<18446744073709551616:=by omega
 have key:T/(top+1)*n≤R:=by
  have hg0:0≤T/(top+1):=Int.ediv_nonneg T0 (by omega)
  have hg1:T/(top+1)*(top+1)≤T:=Int.ediv_mul_le T (by omega)
  have s1:=vB_split B32 (u.drop K) N (by rw [List.length_drop];omega)
  rw [List.drop_drop,hR]at s1
  have p1:=vB_nonneg (Int.le_of_lt hB) (Dig_take (Dig_drop hu K) N)
  have s2:=drop_succ B32 u (K+N) (by omega)
  have s3:=drop_succ B32 u (K+(N+1)) hKN
  rw [show K+N+1=K+(N+1)by omega,s3]at s2
  have p2:=vB_nonneg (Int.le_of_lt hB) (Dig_drop hu (K+(N+1)+1))
  have hle:T≤vB B32 (u.drop (K+N)):=by
   rw [s2,hT]
   show _≤rd u ((K+N:Nat):Int)+4294967296*(rd u ((K+(N+1):Nat):Int)+4294967296*vB B32 (u.drop (K+(N+1)+1)))
   clear s1 s2 s3 hg1 hlt hge
   omega
  have hP:(0:Int)≤B32^N:=Int.le_of_lt (Int.pow_pos hB)
  have h1:=Int.mul_le_mul_of_nonneg_left hle hP
  have hn1:=vB_all B32 (d32 n) (N+1) (by omega)
  rw [take_succ,d32_val,←htop]at hn1
  have hn2:=vB_lt hB (Dig_take (d32_dig n) N)
  rw [List.length_take,Nat.min_eq_left (by omega)]at hn2
  have hn3:(n:Int)≤B32^N*(top+1):=by
   rw [Int.mul_add,Int.mul_one]
   generalize B32^N*top=A at*
   generalize(B32:Int)^N=P at*
   clear s1 s2 s3 hg1 hlt hge hle h1
   omega
  have h2:=Int.mul_le_mul_of_nonneg_left hn3 hg0
  have h3:=Int.mul_le_mul_of_nonneg_left hg1 hP
  have e:T/(top+1)*(B32^N*(top+1))=B32^N*(T/(top+1)*(top+1)):=Int.mul_left_comm _ _ _
  rw [e]at h2
  generalize B32^N*(T/(top+1)*(top+1))=A at*
  generalize B32^N*T=A2 at*
  generalize B32^N*vB B32 (u.drop (K+N))=A3 at*
  generalize T/(top+1)*(n:Int)=A4 at*
  clear s2 s3 hg1 hlt hge hle hn1 hn2 hn3 e
  omega
 have hall:1≤mx 1 (T/(top+1))∧mx 1 (T/(top+1))*n≤R:=by
  rcases mx_or 1 (T/(top+1))with⟨h,h'⟩| ⟨h,h'⟩
  ·rw [h,Int.one_mul]
   exact⟨Int.le_refl _,hge⟩
  ·rw [h]
   exact⟨h',key⟩
 refine⟨⟨T0,T1⟩,⟨t0,t1'⟩,hall.1,?_,hall.2⟩
 rcases Int.lt_or_le (mx 1 (T/(top+1))) B32 with h|h
 ·exact h
 ·exfalso
  have h1:=Int.mul_le_mul_of_nonneg_right h (show(0:Int)≤n by omega)
  rw [Int.mul_comm B32]at h1
  have:=hall.2
  clear hall key
  generalize mx 1 (T/(top+1))*(n:Int)=A at*
  generalize(n:Int)*B32=A2 at*
  omega
theorem rdiv_l1 {n N K Lu Lq:Nat} {V:Int} (hn:0<n) (hN:(d32 n).length=N+1) (hKN:K+(N+1)<Lu) (hKq:K<Lq) (lu:Lu≤1099511627776) {r:ByteArray×ByteArray}
  (next:∀u q:List Int,u.length=Lu→q.length=Lq→Dig B32 u→Dig B32 q→q.take K=List.replicate K 0→vB B32 u+n*vB B32 q=V→vB B32 (u.drop K)<n→Ev (fun k=>galoisref01_DivMod.l0 k (d32 n) ((N+1:Nat):Int) u q ((K:Int)-1)) r):
  ∀(R:Nat) (u q:List Int),u.length=Lu→q.length=Lq→Dig B32 u→Dig B32 q→q.take K=List.replicate K 0→vB B32 u+n*vB B32 q=V→vB B32 (u.drop K)=R→rd q (K:Int)*n+R<n*B32→Ev (fun k=>galoisref01_DivMod.l1 k (d32 n) ((N+1:Nat):Int) u q (K:Int)) r:=by
 intro R
 induction R using Nat.strongRecOn with
 |_ R ih=>
  intro u q hlu hlq hu hq hz hV hR hb
  have hbe:=below_ev (n:=n) (Dig_drop hu K) (by rw [List.length_drop];omega) hR (by omega)
  have c0:(K:Int)≤(u.length:Int):=by omega
  refine Ev.step (fun k=>galoisref01_DivMod.l1.eq_2 ..) ?_
  refine Ev.congr (fun k=>if_pos (Int.natCast_nonneg K)) (Ev.congr (fun k=>if_pos c0) ?_)
  refine Ev.bind hbe ?_
  have e0:wrap64 ((K:Int)-1)=(K:Int)-1:=by clear hV hb hR;exact w64 (by omega) (by omega)
  have c1:((K+(N+1):Nat):Int)<(u.length:Int):=by clear hV hb hR e0;omega
  have c2:((K+N:Nat):Int)<(u.length:Int):=by clear hV hb hR e0;omega
  have c3:(N:Int)<((d32 n).length:Int):=by clear hV hb hR e0;omega
  have c5:(K:Int)<(q.length:Int):=by clear hV hb hR e0;omega
  have cG:∀G:Int,rd q (K:Int)+G-rd q (K:Int)=G:=fun G=>by clear hV hb hR e0;omega
  by_cases hlt:R<n
  ·refine Ev.congr (fun k=>if_pos (decide_eq_true hlt)) ?_
   rw [e0]
   exact next u q hlu hlq hu hq hz hV (by rw [hR];exact Int.ofNat_lt.2 hlt)
  ·obtain⟨q0,q1⟩:=Dig_rd hq K (by omega)
   have hq0n:0≤rd q (K:Int)*n:=Int.mul_nonneg q0 (by omega)
   have hRB:(R:Int)<n*B32:=by
    generalize rd q (K:Int)*(n:Int)=A at*
    generalize(n:Int)*B32=A2 at*
    clear hV
    omega
   obtain⟨⟨T0,T1⟩,⟨p0,p1⟩,g1,gB,gR⟩:=rguess hn hN (by omega) hu hR (by omega) hRB rfl rfl
   obtain⟨T,hT⟩:∃T,T=rd u ((K+(N+1):Nat):Int)*4294967296+rd u ((K+N:Nat):Int):=⟨_,rfl⟩
   rw [←hT]at T0 T1 g1 gB gR
   obtain⟨top,htop⟩:∃top,top=rd (d32 n) (N:Int):=⟨_,rfl⟩
   rw [←htop]at p0 p1 g1 gB gR
   obtain⟨u0,u1⟩:=Dig_rd hu (K+(N+1)) (by omega)
   obtain⟨v0,v1⟩:=Dig_rd hu (K+N) (by omega)
   have u1':rd u ((K+(N+1):Nat):Int)<4294967296:=u1
   have q1':rd q (K:Int)<4294967296:=q1
   have e1:wrap64 ((K:Int)+((N+1:Nat):Int))=((K+(N+1):Nat):Int):=by clear hV hb hR hT htop e0;rw [w64 (by omega) (by omega)];omega
   have e2:wrap64 (((K+(N+1):Nat):Int)-1)=((K+N:Nat):Int):=by clear hV hb hR hT htop e0 e1;rw [w64 (by omega) (by omega)];omega
   have e3:wrap64 (((N+1:Nat):Int)-1)=(N:Int):=by clear hV hb hR hT htop e0 e1 e2;rw [w64 (by omega) (by omega)];omega
   have e4:IntKind.u64.wrap (top+1)=top+1:=by clear hV hb hR hT htop e0 e1 e2 e3;exact u64 (by omega) (by omega)
   have e5:IntKind.u64.wrap (rd u ((K+(N+1):Nat):Int)*4294967296)=rd u ((K+(N+1):Nat):Int)*4294967296:=by clear hV hb hR hT htop e0 e1 e2 e3 e4;exact u64 (by omega) (by omega)
   have e6:IntKind.u64.wrap T=T:=u64 T0 T1
   have d0:0≤T/(top+1):=Int.ediv_nonneg T0 (by clear hV hb hR hT htop e0 e1 e2 e3 e4 e5 e6;omega)
   have d1:T/(top+1)≤T:=Int.ediv_le_self _ T0
   have e7:IntKind.u64.wrap (Int.tdiv T (top+1))=T/(top+1):=by
    rw [Int.tdiv_eq_ediv_of_nonneg T0]
    exact u64 d0 (Int.lt_of_le_of_lt d1 T1)
   obtain⟨G,hG⟩:=Int.eq_ofNat_of_zero_le (show 0≤mx 1 (T/(top+1))from Int.le_trans (by decide) g1)
   rw [hG]at g1 gB gR
   have gB':(G:Int)<4294967296:=gB
   have gR':G*n≤R:=by
    apply Int.ofNat_le.1
    rw [Int.natCast_mul]
    exact gR
   have hGn:n≤G*n:=Nat.le_mul_of_pos_left _ (by clear hV hb hR hT htop e0 e1 e2 e3 e4 e5 e6 e7 hG gR gR';omega)
   have hnew:(rd q (K:Int)+G)*n+((R-G*n:Nat):Int)<n*B32:=by
    rw [Int.add_mul,Int.ofNat_sub gR',Int.natCast_mul]
    generalize rd q (K:Int)*(n:Int)=A at*
    generalize(G:Int)*(n:Int)=A3 at*
    generalize(n:Int)*B32=A2 at*
    clear hV e0 e1 e2 e3 e4 e5 e6 e7 hT htop hG
    omega
   have hdig:rd q (K:Int)+G<B32:=by
    rcases Int.lt_or_le (rd q (K:Int)+G) B32 with h|h
    ·exact h
    ·exfalso
     have h1:=Int.mul_le_mul_of_nonneg_right h (show(0:Int)≤n by omega)
     rw [Int.mul_comm B32]at h1
     generalize(rd q (K:Int)+G)*(n:Int)=A at*
     generalize(n:Int)*B32=A2 at*
     generalize R-G*n=A3 at*
     clear hV e0 e1 e2 e3 e4 e5 e6 e7 hT htop hG hb
     omega
   have hdig':rd q (K:Int)+G<4294967296:=hdig
   have e8:IntKind.u64.wrap (rd q (K:Int)+(G:Int))=rd q (K:Int)+G:=by clear hV hb hR hT htop e0 e1 e2 e3 e4 e5 e6 e7 hG;exact u64 (by omega) (by omega)
   have hyv:=d32_val n
   have k1:K+(N+1)<u.length:=by rw [hlu];exact hKN
   have k2:u.length≤1099511627776:=by rw [hlu];exact lu
   have hl2:=rdiv_l2 (u:=u) (y:=d32 n) (q:=q.set K (rd q (K:Int)+G)) (g:=G) (K:=K) (N:=N+1) hN k1 k2 hu (d32_dig n) (Int.natCast_nonneg G) gB (by rw [hyv,hR];exact gR) (by rw [hyv,hR];exact hRB) (r:=r) (by
    intro z hlz hdz hvz hvz2
    rw [hyv,hR]at hvz
    rw [hyv]at hvz2
    refine ih (R-G*n) (by clear hV hb hR hT htop e0 e1 e2 e3 e4 e5 e6 e7 e8 hG hvz hvz2 hnew;omega) z _ (hlz.trans hlu) (by rw [List.length_set];exact hlq) hdz (Dig_set hq K (Int.add_nonneg q0 (Int.natCast_nonneg G)) hdig) (by rw [take_set_far (Nat.le_refl K)];exact hz) ?_ ?_ ?_
    ·rw [vB_set _ _ _ _ (by rw [hlq];exact hKq),cG,Int.mul_add,Int.mul_left_comm (n:Int),Int.mul_comm (n:Int) (G:Int)]
     generalize B32^K*((G:Int)*(n:Int))=A at*
     generalize(n:Int)*vB B32 q=A2 at*
     clear hb hR hT htop e0 e1 e2 e3 e4 e5 e6 e7 e8 hG hnew
     omega
    ·rw [hvz,Int.ofNat_sub gR',Int.natCast_mul]
    ·rw [rd_set_self _ _ _ (by rw [hlq];exact hKq)]
     exact hnew) (N+1) 0 u 0 (Nat.zero_add _) ⟨rfl,hu,⟨by decide,by decide⟩,rfl,rfl,by simp [vB]⟩
   refine Ev.congr (fun k=>?_) hl2
   have c4:¬top+1=0:=Int.ne_of_gt (Int.lt_add_one_of_le p0)
   have c6:¬decide (R<n)=true:=by rw [decide_eq_true_eq];exact hlt
   rw [if_neg c6]
   simp only [e1,e2,e3,←htop,e4,e5,←hT,e6,e7,hG,e8,Int.toNat_natCast]
   rw [if_pos (Int.natCast_nonneg _),if_pos c1,if_pos (Int.natCast_nonneg _),if_pos c2,if_pos (Int.natCast_nonneg _),if_pos c3,if_neg c4,if_pos c5]
   rfl
theorem rdiv_l0 {n N m Lu Lq:Nat} (hn:0<n) (hN:(d32 n).length=N+1) (lu:Lu≤1099511627776) (lq:Lq≤1099511627776):∀(K:Nat) (u q:List Int),K≤Lq→(K=0∨K+(N+1)≤Lu)→u.length=Lu→q.length=Lq→Dig B32 u→Dig B32 q→q.take K=List.replicate K 0→vB B32 u+n*vB B32 q=m→vB B32 (u.drop K)<n→
  Ev (fun k=>galoisref01_DivMod.l0 k (d32 n) ((N+1:Nat):Int) u q ((K:Int)-1)) (nat (m/n),nat (m%n)):=by
 intro K
 induction K with
 |zero=>
  intro u q _ _ hlu hlq hu hq _ hV hR
  rw [List.drop_zero]at hR
  obtain⟨U,hU⟩:=Int.eq_ofNat_of_zero_le (vB_nonneg (show(0:Int)≤B32 by decide) hu)
  obtain⟨Q,hQ⟩:=Int.eq_ofNat_of_zero_le (vB_nonneg (show(0:Int)≤B32 by decide) hq)
  rw [hU]at hR hV
  rw [hQ]at hV
  have hm:m=U+n*Q:=by
   apply Int.ofNat_inj.1
   rw [Int.natCast_add,Int.natCast_mul]
   exact hV.symm
  have hUn:U<n:=Int.ofNat_lt.1 hR
  have pu:=rpack_ev hu (by omega)
  have pq:=rpack_ev hq (by omega)
  rw [hU,Int.toNat_natCast]at pu
  rw [hQ,Int.toNat_natCast]at pq
  have r1:m/n=Q:=by rw [hm,Nat.add_mul_div_left _ _ hn,Nat.div_eq_of_lt hUn,Nat.zero_add]
  have r2:m%n=U:=by rw [hm,Nat.add_mul_mod_self_left,Nat.mod_eq_of_lt hUn]
  rw [r1,r2]
  refine Ev.step (fun k=>galoisref01_DivMod.l0.eq_2 ..) ?_
  refine Ev.congr (fun k=>if_neg (by decide)) ?_
  exact Ev.bind pq (Ev.bind pu (Ev.now _))
 |succ K ih=>
  intro u q hK hK2 hlu hlq hu hq hz hV hR
  have hKN:K+(N+1)<Lu:=by omega
  have e0:((K+1:Nat):Int)-1=(K:Int):=by omega
  rw [e0]
  obtain⟨R,hR'⟩:=Int.eq_ofNat_of_zero_le (vB_nonneg (show(0:Int)≤B32 by decide) (Dig_drop hu K))
  have s:=drop_succ B32 u K (by omega)
  obtain⟨u0,u1⟩:=Dig_rd hu K (by omega)
  have hq0:rd q (K:Int)=0:=by
   rw [←rd_take q (K+1) K (by omega),hz,rd_replicate]
  have hz':q.take K=List.replicate K 0:=by
   have h:=congrArg (List.take K) hz
   rwa [List.take_take,Nat.min_eq_left (by omega),List.take_replicate,Nat.min_eq_left (by omega)]at h
  refine Ev.step (f:=fun k=>galoisref01_DivMod.l1 k (d32 n) ((N+1:Nat):Int) u q (K:Int)) (fun k=>(galoisref01_DivMod.l0.eq_2 ..).trans (if_pos (Int.natCast_nonneg K))) ?_
  refine rdiv_l1 (V:=m) hn hN hKN hK lu (fun u' q' h1 h2 h3 h4 h5 h6 h7=>ih u' q' (by omega) (Or.inr (by omega)) h1 h2 h3 h4 h5 h6 h7) R u q hlu hlq hu hq hz' hV hR' ?_
  rw [hq0,Int.zero_mul,←hR',s,Int.mul_comm (n:Int)]
  have h1:=Int.mul_le_mul_of_nonneg_left (show vB B32 (u.drop (K+1))+1≤n by omega) (show(0:Int)≤B32 by decide)
  rw [Int.mul_add,Int.mul_one]at h1
  generalize B32*vB B32 (u.drop (K+1))=A at*
  generalize B32*(n:Int)=A2 at*
  clear hV s hR hR'
  omega
theorem rDivMod_ev {m n:Nat} (hm:(nat m).size≤1099511627776) (hn:(nat n).size≤1099511627776):Ev (fun k=>galoisref01_DivMod.f k (nat m) (nat n)) (if n=0 then(⟨#[]⟩,⟨#[]⟩)else(nat (m/n),nat (m%n))):=by
 by_cases h0:n=0
 ·rw [if_pos h0]
  exact Ev.congr (fun k=>if_pos (nat_empty.2 h0)) (Ev.now _)
 ·rw [if_neg h0]
  refine Ev.congr (fun k=>if_neg (fun h=>h0 (nat_empty.1 h))) ?_
  refine Ev.bind (limbs_nat hm) (Ev.bind (limbs_nat hn) ?_)
  have lm:=limbs_len m
  have ln:=limbs_len n
  have hpos:=d32_pos (Nat.pos_of_ne_zero h0)
  obtain⟨N,hN⟩:∃N,(d32 n).length=N+1:=⟨(d32 n).length-1,by omega⟩
  have e1:mx 0 (wrap64 ((wrap64 (((d32 m).length:Int)-((d32 n).length:Int)))+1))=(((d32 m).length+1-(N+1):Nat):Int):=by
   rw [w64 (x:=((d32 m).length:Int)-((d32 n).length:Int)) (by omega) (by omega),w64 (by omega) (by omega)]
   rcases mx_or 0 (((d32 m).length:Int)-((d32 n).length:Int)+1)with⟨h,h'⟩| ⟨h,h'⟩<;>rw [h]<;>omega
  refine Ev.congr (fun k=>if_pos (show(d32 m).length<17592186044416 by omega)) ?_
  rw [e1]
  obtain⟨L,hL⟩:∃L,(d32 m).length+1-(N+1)=L:=⟨_,rfl⟩
  rw [hL]
  clear e1
  refine Ev.congr (fun k=>if_pos (Int.natCast_nonneg _)) (Ev.congr (fun k=>if_pos (show((L:Nat):Int).toNat≤35184372088832 by rw [Int.toNat_natCast];omega)) ?_)
  refine ev_some rfl ?_
  rw [Int.toNat_natCast,List.length_replicate,hN,w64 (by omega) (by omega)]
  refine rdiv_l0 (Lu:=(d32 m).length+1) (Lq:=L) (Nat.pos_of_ne_zero h0) hN (by omega) (by omega) L _ _ (Nat.le_refl _) (by omega) (by simp) (by simp) (Dig_append (d32_dig m) (Dig_cons.2 ⟨⟨by decide,by decide⟩,Dig_nil _⟩)) (Dig_replicate (by decide) L) (by simp) ?_ ?_
  ·rw [vB_append,vB_replicate,d32_val]
   simp [vB]
  ·have hx:vB B32 ((d32 m++[0]).drop L)=vB B32 ((d32 m).drop L):=by
    rcases Nat.lt_or_ge (d32 m).length L with h|h
    ·omega
    ·rw [List.drop_append_of_le_length h,vB_append]
     simp [vB]
   rw [hx]
   have t:=trim_le (by decide) (d32_dig n) (d32_trim n) hpos
   rw [d32_val]at t
   by_cases hl0:L=0
   ·rw [hl0,List.drop_zero,d32_val]
    have:=trim_len (by decide) (d32_dig m) (d32_dig n) (d32_trim n) (by omega)
    rwa [d32_val,d32_val]at this
   ·have h1:=vB_lt (show(0:Int)<B32 by decide) (Dig_drop (d32_dig m) L)
    rw [List.length_drop]at h1
    have e:(d32 m).length-L=(d32 n).length-1:=by omega
    rw [e]at h1
    exact Int.lt_of_lt_of_le h1 t
theorem rDivMod_ok {m n:Nat} (hm:(nat m).size≤1099511627776) (hn:(nat n).size≤1099511627776) (h0:n≠0):Ev (fun k=>galoisref01_DivMod.f k (nat m) (nat n)) (nat (m/n),nat (m%n)):=by
 have:=rDivMod_ev hm hn
 rwa [if_neg h0]at this
theorem rGcd_l0:∀(n m:Nat),(nat m).size≤1099511627776→(nat n).size≤1099511627776→Ev (fun k=>galoisref01_Gcd.l0 k (nat m) (nat n)) (nat (Nat.gcd m n)):=by
 intro n
 induction n using Nat.strongRecOn with
 |_ n ih=>
  intro m hm hn
  refine Ev.step (fun k=>galoisref01_Gcd.l0.eq_2 ..) ?_
  by_cases h:n=0
  ·subst h
   rw [Nat.gcd_zero_right]
   exact Ev.congr (fun k=>if_pos (nat_empty.2 rfl)) (Ev.now _)
  ·have hlt:=Nat.mod_lt m (Nat.pos_of_ne_zero h)
   have hs:=size_mono (Nat.le_of_lt hlt)
   have e:Nat.gcd m n=Nat.gcd n (m%n):=by rw [Nat.gcd_comm m n,Nat.gcd_rec n m,Nat.gcd_comm]
   rw [e]
   exact Ev.congr (fun k=>if_neg (fun h'=>h (nat_empty.1 h'))) (Ev.bind (rDivMod_ok hm hn h) (ih (m%n) hlt n hn (by omega)))
theorem rGcd_ev {m n:Nat} (hm:(nat m).size≤1099511627776) (hn:(nat n).size≤1099511627776):Ev (fun k=>galoisref01_Gcd.f k (nat m) (nat n)) (nat (Nat.gcd m n)):=rGcd_l0 n m hm hn
theorem rPow_l0:∀(e A X:Nat),e<9223372036854775808→(nat A).size+2*e*(nat X).size≤1000000000000→(nat X).size≤1000000000000→Ev (fun k=>galoisref01_Pow.l0 k (nat X) (e:Int) (nat A)) (nat (A*X^e)):=by
 intro e
 induction e using Nat.strongRecOn with
 |_ e ih=>
  intro A X he hl hx
  refine Ev.step (fun k=>galoisref01_Pow.l0.eq_2 ..) ?_
  by_cases h:e=0
  ·subst h
   rw [Nat.pow_zero,Nat.mul_one]
   exact Ev.congr (fun k=>if_neg (by decide)) (Ev.now _)
  ·have c1:(e:Int)>0:=by omega
   have e1:Int.tmod (e:Int) 2=((e%2:Nat):Int):=by rw [Int.tmod_eq_emod_of_nonneg (by omega)];omega
   have e2:wrap64 (Int.tdiv (e:Int) 2)=((e/2:Nat):Int):=by rw [Int.tdiv_eq_ediv_of_nonneg (by omega),w64 (by omega) (by omega)];omega
   have lXX:=size_mul (m:=X) (n:=X)
   have lAX:=size_mul (m:=A) (n:=X)
   have hX:(nat X).size≤e*(nat X).size:=Nat.le_mul_of_pos_left _ (Nat.pos_of_ne_zero h)
   have h2:2*e*(nat X).size=2*(e*(nat X).size):=Nat.mul_assoc _ _ _
   have hhalf:2*(e/2)*(nat (X*X)).size≤4*(e/2*(nat X).size):=by
    have:=Nat.mul_le_mul_left (2*(e/2)) lXX
    have e3:2*(e/2)*((nat X).size+(nat X).size)=4*(e/2*(nat X).size):=by
     rw [Nat.mul_add,Nat.mul_assoc]
     omega
    omega
   have hcut:2*(e/2*(nat X).size)+e%2*(nat X).size=e*(nat X).size:=by
    rw [←Nat.mul_assoc,←Nat.add_mul]
    congr 1
    omega
   rw [h2]at hl
   have sq:=rMul_ev (m:=X) (n:=X) (by omega) (by omega)
   refine Ev.congr (fun k=>if_pos c1) ?_
   rw [e1,e2]
   by_cases ho:e%2=1
   ·rw [ho,Nat.one_mul]at hcut
    have ax:=rMul_ev (m:=A) (n:=X) (by omega) (by omega)
    have hp:A*X^e=A*X*(X*X)^(e/2):=by
     have:X^e=X*(X*X)^(e/2):=by
      rw [←Nat.pow_two,←Nat.pow_mul,Nat.mul_comm X,←Nat.pow_succ]
      congr 1
      omega
     rw [this,Nat.mul_assoc]
    rw [hp]
    exact Ev.congr (fun k=>if_pos (by rw [ho];rfl)) (Ev.bind ax (Ev.bind sq (ih (e/2) (by omega) _ _ (by omega) (by omega) (by omega))))
   ·have ho':e%2=0:=by omega
    rw [ho',Nat.zero_mul,Nat.add_zero]at hcut
    have hp:A*X^e=A*(X*X)^(e/2):=by
     have:X^e=(X*X)^(e/2):=by
      rw [←Nat.pow_two,←Nat.pow_mul]
      congr 1
      omega
     rw [this]
    rw [hp]
    exact Ev.congr (fun k=>if_neg (by rw [ho'];decide)) (Ev.bind sq (ih (e/2) (by omega) _ _ (by omega) (by omega) (by omega)))
theorem nat_one_size:(nat 1).size=1:=Nat.le_antisymm (nat_size_le.2 (by decide)) (Nat.pos_of_ne_zero fun h=>absurd (nat_size_zero.1 h) (by decide))
theorem rPow_ev {m e:Nat} (hm:(nat m).size≤100000) (he:e≤100000):Ev (fun k=>galoisref01_Pow.f k (nat m) (e:Int)) (nat (m^e)):=by
 have h1:=rOf_ev (u:=1) (by decide)
 refine Ev.bind h1 ?_
 have h2:2*e*(nat m).size≤200000*100000:=Nat.mul_le_mul (by omega) (by omega)
 have h3:=nat_one_size
 have:=rPow_l0 e 1 m (by omega) (by omega) (by omega)
 rwa [Nat.one_mul]at this
def ng (x:Int):Bool:=decide (x<0)
def ab (x:Int):ByteArray:=nat x.natAbs
def sg (s:Bool) (n:Nat):Int:=if s then -(n:Int)else n
theorem sg_true (n:Nat):sg true n= -(n:Int):=rfl
theorem sg_false (n:Nat):sg false n=(n:Int):=rfl
theorem ng_sg (s:Bool) (n:Nat):ng (sg s n)=(s&&!decide (n=0)):=by
 cases s
 ·exact decide_eq_false (by rw [sg_false];omega)
 ·by_cases h:n=0
  ·subst h
   rfl
  ·rw [decide_eq_false h]
   exact decide_eq_true (by rw [sg_true];omega)
theorem ab_sg (s:Bool) (n:Nat):ab (sg s n)=nat n:=by
 unfold ab
 cases s
 ·rw [sg_false,Int.natAbs_natCast]
 ·rw [sg_true,Int.natAbs_neg,Int.natAbs_natCast]
theorem ng_nat (n:Nat):ng (n:Int)=false:=decide_eq_false (by omega)
theorem ab_nat (n:Nat):ab (n:Int)=nat n:=by unfold ab;rw [Int.natAbs_natCast]
theorem ng_pos {x:Int} (h:0≤x):ng x=false:=decide_eq_false (by omega)
theorem ng_neg {x:Int} (h:x<0):ng x=true:=decide_eq_true h
theorem isEmpty_nat (n:Nat):(nat n).toList.isEmpty=decide (n=0):=by
 by_cases h:n=0
 ·rw [decide_eq_true h,List.isEmpty_iff]
  exact nat_empty.2 h
 ·rw [decide_eq_false h,Bool.eq_false_iff]
  intro h'
  exact h (nat_empty.1 (List.isEmpty_iff.1 h'))
theorem ab_size_zero {x:Int}:(ab x).size=0↔x=0:=by unfold ab;rw [nat_size_zero];omega
theorem IMake_eq (s:Bool) (n:Nat):exact_IntMake.f s (nat n)=some (ng (sg s n),ab (sg s n)):=by
 unfold exact_IntMake.f
 rw [ng_sg,ab_sg,isEmpty_nat]
 cases s
 ·rw [if_neg Bool.false_ne_true,Bool.false_and]
 ·rw [if_pos rfl,Bool.true_and]
theorem abs_cases (x:Int):(x<0∧ng x=true∧(x.natAbs:Int)= -x)∨(0≤x∧ng x=false∧(x.natAbs:Int)=x):=by
 by_cases h:x<0
 ·exact Or.inl ⟨h,ng_neg h,by omega⟩
 ·exact Or.inr ⟨by omega,ng_pos (by omega),by omega⟩
theorem sg_mul (x y:Int):sg (ng x !=ng y) (x.natAbs*y.natAbs)=x*y:=by
 rcases abs_cases x with⟨h,h1,h2⟩| ⟨h,h1,h2⟩<;>rcases abs_cases y with⟨k,k1,k2⟩| ⟨k,k1,k2⟩<;>rw [h1,k1]
 ·show((x.natAbs*y.natAbs:Nat):Int)=_
  rw [Int.natCast_mul,h2,k2,Int.neg_mul_neg]
 ·show -((x.natAbs*y.natAbs:Nat):Int)=_
  rw [Int.natCast_mul,h2,k2,Int.neg_mul,Int.neg_neg]
 ·show -((x.natAbs*y.natAbs:Nat):Int)=_
  rw [Int.natCast_mul,h2,k2,Int.mul_neg,Int.neg_neg]
 ·show((x.natAbs*y.natAbs:Nat):Int)=_
  rw [Int.natCast_mul,h2,k2]
theorem IMul_ev {x y:Int} (hx:(ab x).size≤1099511627776) (hy:(ab y).size≤1099511627776):Ev (fun k=>exact_IntMul.f k (ng x) (ab x) (ng y) (ab y)) (ng (x*y),ab (x*y)):=by
 refine Ev.bind (NatMul_ev hx hy) (ev_some (IMake_eq _ _) ?_)
 rw [sg_mul]
 exact Ev.now _
theorem sg_neg (x:Int):sg (!ng x) x.natAbs= -x:=by
 rcases abs_cases x with⟨h,h1,h2⟩| ⟨h,h1,h2⟩
 ·rw [h1];show((x.natAbs:Nat):Int)=_;omega
 ·rw [h1];show -((x.natAbs:Nat):Int)=_;omega
theorem ab_neg (x:Int):ab (-x)=ab x:=by unfold ab;rw [Int.natAbs_neg]
theorem INeg_eq (x:Int):exact_IntNeg.f (ng x) (ab x)=some (ng (-x),ab (-x)):=by
 unfold exact_IntNeg.f
 rw [show exact_IntMake.f (!ng x) (ab x)=_ from IMake_eq _ _,sg_neg]
 rfl
def sgn (x:Int):Int:=if x<0 then -1 else if x=0 then 0 else 1
theorem ISign_eq (x:Int):exact_IntSign.f (ng x) (ab x)=some (sgn x):=by
 unfold exact_IntSign.f sgn
 by_cases h:x<0
 ·rw [ng_neg h,if_pos rfl,if_pos h]
 ·rw [ng_pos (by omega),if_neg Bool.false_ne_true,if_neg h]
  have:=ab_size_zero (x:=x)
  by_cases h0:x=0
  ·rw [if_pos h0,show(ab x).size=0 from this.2 h0]
   rfl
  ·rw [if_neg h0]
   have:0<(ab x).size:=Nat.pos_of_ne_zero fun h'=>h0 (this.1 h')
   congr 1
   unfold mn
   split<;>omega
def ick (s:Bool) (a:ByteArray):Int:=if chk a=1 then 1 else if s=true∧a.size=0 then 1 else chk a
theorem rValid_eq (s:ByteArray):galoisref01_Valid.f s=some (decide (s.size=0∨bt s 0≠0)):=by
 unfold galoisref01_Valid.f
 by_cases h:s.size=0
 ·rw [if_pos (toList_nil.2 h)]
  simp [h]
 ·rw [if_neg (fun h'=>h (toList_nil.1 h')),if_pos (by omega)]
  by_cases h2:bt s 0=0<;>simp [h,h2]
theorem chk_one {a:ByteArray}:chk a=1↔¬(a.size=0∨bt a 0≠0):=by
 unfold chk
 by_cases h:0<a.size∧bt a 0=0
 ·rw [if_pos h]
  refine⟨fun _ h'=>?_,fun _=>rfl⟩
  rcases h' with h'|h'
  ·omega
  ·exact h' h.2
 ·rw [if_neg h]
  refine⟨fun h'=>?_,fun h'=>absurd ⟨Nat.pos_of_ne_zero fun h2=>h' (Or.inl h2),?_⟩ h⟩
  ·split at h'<;>exact absurd h' (by decide)
  ·rcases Decidable.em (bt a 0=0)with h2|h2
   ·exact h2
   ·exact absurd (Or.inr h2) h'
theorem chk_rest {a:ByteArray} (h:chk a≠1):chk a=if(a.size:Int)>1024 then 4 else 0:=by
 have h1:¬(0<a.size∧bt a 0=0):=fun h'=>h (by unfold chk;rw [if_pos h'])
 unfold chk
 rw [if_neg h1]
 by_cases h2:1024<a.size
 ·rw [if_pos h2,if_pos (by omega)]
 ·rw [if_neg h2,if_neg (by omega)]
theorem rFits1_eq (a:ByteArray):galoisref01_Fits.f a=some (if(a.size:Int)>1024 then 4 else 0):=by
 unfold galoisref01_Fits.f
 by_cases h:(a.size:Int)>1024
 ·rw [if_pos h,if_pos h]
 ·rw [if_neg h,if_neg h]
theorem rFits_eq (s:Bool) (a:ByteArray):galoisref02_Fits.f s a=some (if(a.size:Int)>1024 then 4 else 0):=by
 unfold galoisref02_Fits.f
 rw [rFits1_eq]
 rfl
theorem rValid2_eq (s:Bool) (a:ByteArray):galoisref02_Valid.f s a=some (decide ((a.size=0∨bt a 0≠0)∧¬(s=true∧a.size=0))):=by
 unfold galoisref02_Valid.f
 rw [rValid_eq,Option.bind_some]
 by_cases h:a.size=0∨bt a 0≠0
 ·rw [if_pos (decide_eq_true h)]
  cases s
  ·rw [if_neg Bool.false_ne_true]
   congr 1
   exact(decide_eq_true ⟨h,fun h'=>Bool.false_ne_true h'.1⟩).symm
  ·rw [if_pos rfl]
   congr 1
   by_cases h2:a.size=0
   ·rw [decide_eq_false (fun h'=>h'.2 ⟨rfl,h2⟩)]
    exact bne_eq_false_iff_eq.2 (toList_nil.2 h2)
   ·have e:(a.size=0∨bt a 0≠0)∧¬(true=true∧a.size=0):=⟨h,fun h'=>h2 h'.2⟩
    rw [decide_eq_true e]
    exact bne_iff_ne.2 (fun h'=>h2 (toList_nil.1 h'))
 ·rw [if_neg (by rw [decide_eq_true_eq];exact h),decide_eq_false (fun h'=>h h'.1)]
theorem ick_zero {s:Bool} {a:ByteArray} (h:ick s a=0):∃x:Int,s=ng x∧a=ab x∧(ab x).size≤1024:=by
 unfold ick at h
 by_cases h1:chk a=1
 ·rw [if_pos h1]at h
  exact absurd h (by decide)
 ·rw [if_neg h1]at h
  by_cases h2:s=true∧a.size=0
  ·rw [if_pos h2]at h
   exact absurd h (by decide)
  ·rw [if_neg h2]at h
   obtain⟨n,rfl,hn⟩:=number h
   refine⟨sg s n,?_,(ab_sg s n).symm,by rw [ab_sg];exact hn⟩
   rw [ng_sg]
   cases s
   ·rfl
   ·rw [Bool.true_and,decide_eq_false (fun h3=>h2 ⟨rfl,by rw [h3,nat_zero];rfl⟩)]
    rfl
theorem ick_int {x:Int} (h:(ab x).size≤1024):ick (ng x) (ab x)=0:=by
 unfold ick
 have hc:chk (ab x)=0:=chk_nat h
 rw [hc,if_neg (by decide),if_neg]
 rintro⟨h1,h2⟩
 have:=ab_size_zero.1 h2
 rw [this]at h1
 exact absurd h1 (by decide)
theorem empty_toList':(⟨#[]⟩:ByteArray).toList=([]:List UInt8):=toList_nil.2 rfl
theorem iCheck_ev (s:Bool) (a:ByteArray):Ev (fun k=>integer_Check.f k s a) (ick s a):=by
 refine Ev.bind (Check_ev a) ?_
 by_cases h1:chk a=1
 ·have e:ick s a=chk a:=by unfold ick;rw [if_pos h1,h1]
  rw [e]
  exact Ev.congr (fun k=>if_pos h1) (Ev.now _)
 ·refine Ev.congr (fun k=>if_neg h1) (ev_some (a:=(false,(⟨#[]⟩:ByteArray))) rfl ?_)
  by_cases h2:a.size=0
  ·have h3:a.toList=([]:List UInt8):=toList_nil.2 h2
   cases s
   ·have e:ick false a=chk a:=by unfold ick;rw [if_neg h1,if_neg (fun h=>Bool.false_ne_true h.1)]
    rw [e]
    exact Ev.congr (fun k=>if_neg (by rw [h3,empty_toList'];decide)) (Ev.now _)
   ·have e:ick true a=1:=by unfold ick;rw [if_neg h1,if_pos ⟨rfl,h2⟩]
    rw [e]
    exact Ev.congr (fun k=>if_pos rfl) (Ev.congr (fun k=>if_pos h3) (Ev.now _))
  ·have h3:a.toList≠([]:List UInt8):=fun h=>h2 (toList_nil.1 h)
   have e:ick s a=chk a:=by unfold ick;rw [if_neg h1,if_neg (fun h=>h2 h.2)]
   rw [e]
   by_cases h4:(!(s==false)||(!(a.toList==(⟨#[]⟩:ByteArray).toList)))=true
   ·exact Ev.congr (fun k=>if_pos h4) (Ev.congr (fun k=>if_neg h3) (Ev.now _))
   ·exact Ev.congr (fun k=>if_neg h4) (Ev.now _)
theorem wrap01:wrap64 (0+1)=1:=by unfold wrap64;omega
theorem wrap11:wrap64 (1+1)=2:=by unfold wrap64;omega
end Go.Proofs.YtjllholdppjllaaGreatN
set_option maxRecDepth 100000
namespace Go.Proofs.YtjllholdppjllaaGreatV
open Go Go.RowKit YtjllholdppjllaaGreat YtjllholdppjllaaGreatE YtjllholdppjllaaGreatN YtjllholdppjllaaGreat.All YtjllholdppjllaaGreatW.PrintWords YtjllholdppjllaaGreatW.PrintLast YtjllholdppjllaaGreatW.PrintMore
def fr (q:Rat):TI×ByteArray:=((ng q.num,ab q.num),nat q.den)
theorem nat1:nat 1=⟨#[1]⟩:=by decide +kernel
theorem nat0:nat 0=⟨#[]⟩:=by decide +kernel
theorem ba_inj {a b:ByteArray}:a.toList=b.toList↔a=b:=by
 constructor
 ·intro h
  rw [ByteArray.toList_eq,ByteArray.toList_eq]at h
  cases a;cases b
  simp only [ByteArray.mk.injEq]
  exact Array.toList_inj.1 h
 ·intro h;rw [h]
theorem e_nat (m n:Nat):((nat m).toList==(nat n).toList)=decide (m=n):=by
 rw [Bool.eq_iff_iff,beq_iff_eq,decide_eq_true_eq,ba_inj,nat_inj]
theorem e_one (m:Nat):((nat m).toList==(⟨#[1]⟩:ByteArray).toList)=decide (m=1):=by rw [←nat1,e_nat]
theorem e_nil (m:Nat):((nat m).toList==(⟨#[]⟩:ByteArray).toList)=decide (m=0):=by rw [←nat0,e_nat]
theorem e_ab (x:Int):((ab x).toList==(⟨#[]⟩:ByteArray).toList)=decide (x=0):=by
 unfold ab;rw [e_nil,Bool.eq_iff_iff,decide_eq_true_eq,decide_eq_true_eq];omega
theorem e_ng (x y:Int):(!(ng x==ng y))=(ng x !=ng y):=rfl
theorem size_div_ (m n:Nat):(nat (m/n)).size≤(nat m).size:=size_mono (Nat.div_le_self m n)
theorem sg_div {n d:Int} {g:Nat} (h0:d≠0) (hg:g∣n.natAbs) (g0:g≠0):sg (ng n !=ng d) (n.natAbs/g)=d.sign*n/g:=by
 obtain⟨c,hc⟩:=hg
 have e:n.natAbs/g=c:=by rw [hc];exact Nat.mul_div_cancel_left _ (Nat.pos_of_ne_zero g0)
 rw [e]
 have g1:(g:Int)≠0:=by omega
 have key:∀z:Int,z=g*c→z/g=(c:Int):=fun z hz=>by rw [hz];exact Int.mul_ediv_cancel_left _ g1
 have keyn:∀z:Int,z= -(g*c:Int)→z/g= -(c:Int):=fun z hz=>by
  rw [hz,←Int.mul_neg];exact Int.mul_ediv_cancel_left _ g1
 have hcast:((n.natAbs:Nat):Int)=(g:Int)*(c:Int):=by rw [hc];exact Int.natCast_mul _ _
 rcases Int.lt_or_gt_of_ne h0 with hd|hd
 ·rw [ng_neg hd,Int.sign_eq_neg_one_of_neg hd]
  by_cases hn:n<0
  ·rw [ng_neg hn];exact(key _ (by omega)).symm
  ·rw [ng_pos (by omega)];exact(keyn _ (by omega)).symm
 ·rw [ng_pos (show 0≤d by omega),Int.sign_eq_one_of_pos hd]
  by_cases hn:n<0
  ·rw [ng_neg hn];exact(keyn _ (by omega)).symm
  ·rw [ng_pos (by omega)];exact(key _ (by omega)).symm
theorem gcd_ne {n d:Int} (h0:d≠0):Nat.gcd n.natAbs d.natAbs≠0:=by
 intro h
 have:=(Nat.gcd_eq_zero_iff.1 h).2
 omega
theorem fr_div {n d:Int} (h0:d≠0):((ng (sg (ng n !=ng d) (n.natAbs/Nat.gcd n.natAbs d.natAbs)),ab (sg (ng n !=ng d) (n.natAbs/Nat.gcd n.natAbs d.natAbs))),nat (d.natAbs/Nat.gcd n.natAbs d.natAbs))=fr (Rat.divInt n d):=by
 have e:Int.gcd d n=Nat.gcd n.natAbs d.natAbs:=Nat.gcd_comm _ _
 unfold fr
 rw [Rat.num_divInt,Rat.den_divInt,if_neg h0,e,sg_div h0 (Nat.gcd_dvd_left _ _) (gcd_ne h0)]
theorem fr_div1 {n d:Int} (h0:d≠0) (h:Nat.gcd n.natAbs d.natAbs=1):((ng (sg (ng n !=ng d) n.natAbs),ab (sg (ng n !=ng d) n.natAbs)),ab d)=fr (Rat.divInt n d):=by
 rw [show ab d=nat d.natAbs from rfl,←fr_div h0,h,Nat.div_one,Nat.div_one]
theorem Make_ev {n d:Int} (hn:(ab n).size≤1099511627776) (hd:(ab d).size≤1099511627776) (h0:d≠0):Ev (fun k=>FX107 k (ng n,ab n) (ng d,ab d)) (fr (Rat.divInt n d)):=by
 have h1:=NatGcd_ev (m:=n.natAbs) (n:=d.natAbs) hn hd
 have hg:=Nat.pos_of_ne_zero (gcd_ne (n:=n) h0)
 have sg_:(nat (Nat.gcd n.natAbs d.natAbs)).size≤1099511627776:=Nat.le_trans (size_mono (Nat.le_of_dvd (by omega) (Nat.gcd_dvd_right _ _))) hd
 have h2:=NatDivMod_ev (m:=n.natAbs) hn sg_ hg
 have h3:=NatDivMod_ev (m:=d.natAbs) hd sg_ hg
 have f1:=IMake_eq (ng n !=ng d) (n.natAbs/Nat.gcd n.natAbs d.natAbs)
 have f2:=IMake_eq (ng n !=ng d) n.natAbs
 have f3:=fr_div (n:=n) h0
 by_cases hc:Nat.gcd n.natAbs d.natAbs=1
 ·have f4:=fr_div1 h0 hc
  rw [←f4]
  rw [hc]at h1
  have h1':Ev (fun k=>exact_NatGcd.f k (ab n) (ab d)) (nat 1):=h1
  have f2':exact_IntMake.f (ng n !=ng d) (ab n)=_:=f2
  obtain⟨K_h1',h1'⟩:=h1'
  refine⟨K_h1',fun k hk=>?_⟩
  replace h1':=h1' k (by omega)
  dsimp only [fr]at h1'
  show FX107 _ _ _=_
  unfold FX107 B107
  simp only [fr,FX85,FX108,FX134,cnd_eq_if,bind_some_,if_true,if_false,ne_eq,not_true_eq_false,not_false_eq_true,Bool.not_true,Bool.not_false,Bool.false_eq_true,Int.reduceEq,reduceCtorEq,Bool.not_eq_true',bfalse,ite_not,eq_self,Bool.and_eq_true,Bool.or_eq_true,ite_and_,ite_or_,and_self,decide_true,decide_false,Bool.true_and,Bool.and_true,beq_self_eq_true,decide_eq_true_eq,gt_iff_lt,ge_iff_le,Int.neg_eq_zero,h1',e_one,e_ng,f2']
 ·rw [←f3]
  have h1':Ev (fun k=>exact_NatGcd.f k (ab n) (ab d)) (nat (Nat.gcd n.natAbs d.natAbs)):=h1
  have h2':Ev (fun k=>exact_NatDivMod.f k (ab n) (nat (Nat.gcd n.natAbs d.natAbs))) _:=h2
  have h3':Ev (fun k=>exact_NatDivMod.f k (ab d) (nat (Nat.gcd n.natAbs d.natAbs))) _:=h3
  obtain⟨K_h1',h1'⟩:=h1'
  obtain⟨K_h2',h2'⟩:=h2'
  obtain⟨K_h3',h3'⟩:=h3'
  refine⟨K_h1'+K_h2'+K_h3',fun k hk=>?_⟩
  replace h1':=h1' k (by omega)
  replace h2':=h2' k (by omega)
  replace h3':=h3' k (by omega)
  dsimp only [fr]at h1' h2' h3'
  show FX107 _ _ _=_
  unfold FX107 B107
  simp only [fr,FX85,FX108,FX134,cnd_eq_if,bind_some_,if_true,if_false,ne_eq,not_true_eq_false,not_false_eq_true,Bool.not_true,Bool.not_false,Bool.false_eq_true,Int.reduceEq,reduceCtorEq,Bool.not_eq_true',bfalse,ite_not,eq_self,Bool.and_eq_true,Bool.or_eq_true,ite_and_,ite_or_,and_self,decide_true,decide_false,Bool.true_and,Bool.and_true,beq_self_eq_true,decide_eq_true_eq,gt_iff_lt,ge_iff_le,Int.neg_eq_zero,h1',h2',h3',e_one,e_ng,f1,hc]
theorem MakeN_ev {n:Int} {d:Nat} (hn:(ab n).size≤1099511627776) (hd:(nat d).size≤1099511627776) (h0:d≠0):Ev (fun k=>FX107 k (ng n,ab n) (false,nat d)) (fr (mkRat n d)):=by
 have h:=Make_ev (d:=(d:Int)) hn (by rw [ab_nat];exact hd) (by omega)
 rwa [ng_nat,ab_nat,Rat.divInt_ofNat]at h
def Sm (n:Nat) (q:Rat):Prop:=(ab q.num).size≤n∧(nat q.den).size≤n
theorem sz_add {x y:Int} {n:Nat} (hx:(ab x).size≤n) (hy:(ab y).size≤n):(ab (x+y)).size≤n+1:=by
 unfold ab at*
 rw [nat_size_le]at*
 have:=Int.natAbs_add_le x y
 rw [Nat.pow_succ]
 omega
theorem sz_neg {x:Int}:(ab (-x)).size=(ab x).size:=by unfold ab;rw [Int.natAbs_neg]
theorem sz_nmul {x y:Nat} {m n:Nat} (hx:(nat x).size≤m) (hy:(nat y).size≤n):(nat (x*y)).size≤m+n:=by
 rw [nat_size_le]at*
 rw [Nat.pow_add]
 exact Nat.mul_lt_mul'' hx hy
theorem sz_mul {x y:Int} {m n:Nat} (hx:(ab x).size≤m) (hy:(ab y).size≤n):(ab (x*y)).size≤m+n:=by
 unfold ab at*
 rw [Int.natAbs_mul]
 exact sz_nmul hx hy
section
variable {a b:Rat}
theorem fr_int (n:Int):fr (n:Rat)=((ng n,ab n),nat 1):=rfl
theorem mul_one_ (h:a.den=1) (h2:b.den=1):((ng (a.num*b.num),ab (a.num*b.num)),(⟨#[1]⟩:ByteArray))=fr (a*b):=by
 have e:a*b=((a.num*b.num:Int):Rat):=by
  rw [Rat.mul_def',h,h2]
  have h3:=Rat.mkRat_self ((a.num*b.num:Int):Rat)
  have h4:mkRat (a.num*b.num) 1=((a.num*b.num:Int):Rat):=h3
  rw [←h4]
 rw [e,fr_int,nat1]
end
section
variable {a b:Rat}
theorem Sm.neg {n:Nat} (h:Sm n a):Sm n (-a):=⟨by rw [Rat.neg_num,sz_neg];exact h.1,h.2⟩
theorem Neg_ev (a:Rat):Ev (fun k=>FX81 k (fr a)) (fr (-a)):=by
 have f1:=INeg_eq a.num
 have e:fr (-a)=((ng (-a.num),ab (-a.num)),nat a.den):=rfl
 rw [e]
 refine⟨0,fun k hk=>?_⟩
 show FX81 _ _=_
 unfold FX81 B81
 simp only [fr,FX126,cnd_eq_if,bind_some_,if_true,if_false,ne_eq,not_true_eq_false,not_false_eq_true,Bool.not_true,Bool.not_false,Bool.false_eq_true,Int.reduceEq,reduceCtorEq,Bool.not_eq_true',bfalse,ite_not,eq_self,Bool.and_eq_true,Bool.or_eq_true,ite_and_,ite_or_,and_self,decide_true,decide_false,Bool.true_and,Bool.and_true,beq_self_eq_true,decide_eq_true_eq,gt_iff_lt,ge_iff_le,Int.neg_eq_zero,f1]
theorem Mul_ev (ha:Sm 10000 a) (hb:Sm 10000 b):Ev (fun k=>FX74 k (fr a) (fr b)) (fr (a*b)):=by
 have h1:=IMul_ev (Nat.le_trans ha.1 (by decide)) (Nat.le_trans hb.1 (by decide))
 have h2:=NatMul_ev (m:=a.den) (n:=b.den) (Nat.le_trans ha.2 (by decide)) (Nat.le_trans hb.2 (by decide))
 have h3:=MakeN_ev (n:=a.num*b.num) (d:=a.den*b.den) (Nat.le_trans (sz_mul ha.1 hb.1) (by decide)) (Nat.le_trans (sz_nmul ha.2 hb.2) (by decide)) (Nat.mul_ne_zero a.den_nz b.den_nz)
 rw [←Rat.mul_def']at h3
 by_cases h1d:a.den=1
 ·by_cases h2d:b.den=1
  ·rw [←mul_one_ h1d h2d]
   obtain⟨K_h1,h1⟩:=h1
   refine⟨K_h1,fun k hk=>?_⟩
   replace h1:=h1 k (by omega)
   dsimp only [fr]at h1
   show FX74 _ _ _=_
   unfold FX74 B74
   simp only [fr,FX93,B93,FX109,FX124,cnd_eq_if,bind_some_,if_true,if_false,ne_eq,not_true_eq_false,not_false_eq_true,Bool.not_true,Bool.not_false,Bool.false_eq_true,Int.reduceEq,reduceCtorEq,Bool.not_eq_true',bfalse,ite_not,eq_self,Bool.and_eq_true,Bool.or_eq_true,ite_and_,ite_or_,and_self,decide_true,decide_false,Bool.true_and,Bool.and_true,beq_self_eq_true,decide_eq_true_eq,gt_iff_lt,ge_iff_le,Int.neg_eq_zero,h1,e_one,h1d,h2d]
  ·obtain⟨K_h1,h1⟩:=h1
   obtain⟨K_h2,h2⟩:=h2
   obtain⟨K_h3,h3⟩:=h3
   refine⟨K_h1+K_h2+K_h3,fun k hk=>?_⟩
   replace h1:=h1 k (by omega)
   replace h2:=h2 k (by omega)
   replace h3:=h3 k (by omega)
   dsimp only [fr]at h1 h2 h3
   show FX74 _ _ _=_
   unfold FX74 B74
   simp only [fr,FX93,B93,FX109,FX124,cnd_eq_if,bind_some_,if_true,if_false,ne_eq,not_true_eq_false,not_false_eq_true,Bool.not_true,Bool.not_false,Bool.false_eq_true,Int.reduceEq,reduceCtorEq,Bool.not_eq_true',bfalse,ite_not,eq_self,Bool.and_eq_true,Bool.or_eq_true,ite_and_,ite_or_,and_self,decide_true,decide_false,Bool.true_and,Bool.and_true,beq_self_eq_true,decide_eq_true_eq,gt_iff_lt,ge_iff_le,Int.neg_eq_zero,h1,h2,h3,e_one,h2d,ite_self]
 ·obtain⟨K_h1,h1⟩:=h1
  obtain⟨K_h2,h2⟩:=h2
  obtain⟨K_h3,h3⟩:=h3
  refine⟨K_h1+K_h2+K_h3,fun k hk=>?_⟩
  replace h1:=h1 k (by omega)
  replace h2:=h2 k (by omega)
  replace h3:=h3 k (by omega)
  dsimp only [fr]at h1 h2 h3
  show FX74 _ _ _=_
  unfold FX74 B74
  simp only [fr,FX93,B93,FX109,FX124,cnd_eq_if,bind_some_,if_true,if_false,ne_eq,not_true_eq_false,not_false_eq_true,Bool.not_true,Bool.not_false,Bool.false_eq_true,Int.reduceEq,reduceCtorEq,Bool.not_eq_true',bfalse,ite_not,eq_self,Bool.and_eq_true,Bool.or_eq_true,ite_and_,ite_or_,and_self,decide_true,decide_false,Bool.true_and,Bool.and_true,beq_self_eq_true,decide_eq_true_eq,gt_iff_lt,ge_iff_le,Int.neg_eq_zero,h1,h2,h3,e_one,h1d]
theorem fr_inv (h:a≠0):fr a⁻¹=((ng a.num,nat a.den),ab a.num):=by
 have hn:a.num≠0:=fun e=>h (Rat.num_eq_zero.1 e)
 unfold fr
 rw [Rat.num_inv,Rat.den_inv,if_neg hn]
 have hd:=a.den_pos
 rcases Int.lt_or_gt_of_ne hn with g|g
 ·rw [Int.sign_eq_neg_one_of_neg g,ng_neg g,ng_neg (by omega)]
  have:ab (-1*(a.den:Int))=nat a.den:=by unfold ab;congr 1;omega
  rw [this];rfl
 ·rw [Int.sign_eq_one_of_pos g,ng_pos (show 0≤a.num by omega),ng_pos (by omega)]
  have:ab (1*(a.den:Int))=nat a.den:=by unfold ab;congr 1;omega
  rw [this];rfl
theorem Sm.inv {n:Nat} (ha:Sm n a) (h:a≠0):Sm n a⁻¹:=by
 have e:=fr_inv h
 unfold fr at e
 rw [Prod.mk.injEq,Prod.mk.injEq]at e
 exact⟨by rw [e.1.2];exact ha.2,by rw [e.2];exact ha.1⟩
theorem Sign_ev (a:Rat):Ev (fun k=>FX79 k (fr a)) (sgn a.num):=by
 have f1:=ISign_eq a.num
 refine⟨0,fun k hk=>?_⟩
 show FX79 _ _=_
 unfold FX79 B79
 simp only [fr,FX125,cnd_eq_if,bind_some_,if_true,if_false,ne_eq,not_true_eq_false,not_false_eq_true,Bool.not_true,Bool.not_false,Bool.false_eq_true,Int.reduceEq,reduceCtorEq,Bool.not_eq_true',bfalse,ite_not,eq_self,Bool.and_eq_true,Bool.or_eq_true,ite_and_,ite_or_,and_self,decide_true,decide_false,Bool.true_and,Bool.and_true,beq_self_eq_true,decide_eq_true_eq,gt_iff_lt,ge_iff_le,Int.neg_eq_zero,f1]
def big (q:Rat):Bool:=decide (1024<(ab q.num).size∨1024<(nat q.den).size)
theorem Large_ev (a:Rat):Ev (fun k=>FX148 k (fr a)) (big a):=by
 refine⟨0,fun k _=>?_⟩
 show FX148 _ _=_
 unfold FX148 B148 big fr
 by_cases h1:1024<(ab a.num).size
 ·simp only [gt_iff_lt,show(1024:Int)<((ab a.num).size:Int)from by omega,if_true,h1,true_or,decide_true]
 ·simp only [gt_iff_lt,show¬(1024:Int)<((ab a.num).size:Int)from by omega,if_false,h1,false_or]
  by_cases h2:1024<(nat a.den).size
  ·simp only [h2,show(1024:Int)<((nat a.den).size:Int)from by omega]
  ·simp only [h2,show¬(1024:Int)<((nat a.den).size:Int)from by omega]
def rbnd (q:Rat):TI×ByteArray×Int:=if big q=true then((false,⟨#[]⟩),⟨#[]⟩,4)else((ng q.num,ab q.num),nat q.den,0)
theorem rfit_ev (a:Rat):Ev (fun k=>FX113 k (fr a)) (rbnd a):=by
 have h1:=Large_ev a
 unfold rbnd
 by_cases h:big a=true
 ·rw [h]at h1
  rw [if_pos h]
  obtain⟨K_h1,h1⟩:=h1
  refine⟨K_h1,fun k hk=>?_⟩
  replace h1:=h1 k (by omega)
  dsimp only [fr]at h1
  show FX113 _ _=_
  unfold FX113 B113
  simp only [fr,cnd_eq_if,bind_some_,if_true,if_false,ne_eq,not_true_eq_false,not_false_eq_true,Bool.not_true,Bool.not_false,Bool.false_eq_true,Int.reduceEq,reduceCtorEq,Bool.not_eq_true',bfalse,ite_not,eq_self,Bool.and_eq_true,Bool.or_eq_true,ite_and_,ite_or_,and_self,decide_true,decide_false,Bool.true_and,Bool.and_true,beq_self_eq_true,decide_eq_true_eq,gt_iff_lt,ge_iff_le,Int.neg_eq_zero,h1]
 ·rw [Bool.not_eq_true]at h
  rw [h]at h1
  rw [if_neg (by rw [h];exact Bool.false_ne_true)]
  obtain⟨K_h1,h1⟩:=h1
  refine⟨K_h1,fun k hk=>?_⟩
  replace h1:=h1 k (by omega)
  dsimp only [fr]at h1
  show FX113 _ _=_
  unfold FX113 B113
  simp only [fr,cnd_eq_if,bind_some_,if_true,if_false,ne_eq,not_true_eq_false,not_false_eq_true,Bool.not_true,Bool.not_false,Bool.false_eq_true,Int.reduceEq,reduceCtorEq,Bool.not_eq_true',bfalse,ite_not,eq_self,Bool.and_eq_true,Bool.or_eq_true,ite_and_,ite_or_,and_self,decide_true,decide_false,Bool.true_and,Bool.and_true,beq_self_eq_true,decide_eq_true_eq,gt_iff_lt,ge_iff_le,Int.neg_eq_zero,h1]
end
abbrev FV:=TI×ByteArray
def rck (x:FV):Int:=if ick x.1.1 x.1.2=1∨chk x.2=1∨x.2.size=0 then 1 else if ick x.1.1 x.1.2≠0∨chk x.2≠0 then 4 else
 if Nat.gcd (bval x.1.2).toNat (bval x.2).toNat=1 then 0 else 1
theorem chk_cases (a:ByteArray):chk a=0∨chk a=1∨chk a=4:=by
 unfold chk
 split
 ·exact Or.inr (Or.inl rfl)
 ·split
  ·exact Or.inr (Or.inr rfl)
  ·exact Or.inl rfl
theorem ick_cases (s:Bool) (a:ByteArray):ick s a=0∨ick s a=1∨ick s a=4:=by
 unfold ick
 split
 ·exact Or.inr (Or.inl rfl)
 ·split
  ·exact Or.inr (Or.inl rfl)
  ·exact chk_cases a
theorem bval_n (n:Nat):(bval (nat n)).toNat=n:=by rw [Go.Proofs.YtjllholdppjllaaGreatN.bval_nat];exact Int.toNat_natCast n
theorem rck_fr {a:Rat} (h:Sm 1024 a):rck (fr a)=0:=by
 unfold rck fr
 have h1:=ick_int h.1
 have h2:=chk_nat h.2
 simp only
 rw [if_neg,if_neg,if_pos]
 ·have:=a.reduced
  show Nat.gcd (bval (nat a.num.natAbs)).toNat (bval (nat a.den)).toNat=1
  rw [bval_n,bval_n];exact this
 ·rw [h1,h2];simp
 ·rw [h1,h2]
  have h3:(nat a.den).size≠0:=fun e=>a.den_nz (nat_size_zero.1 e)
  simp [h3]
theorem rck_zero {x:FV} (h:rck x=0):∃a:Rat,x=fr a∧Sm 1024 a:=by
 unfold rck at h
 split at h
 ·cases h
 ·rename_i c1
  split at h
  ·cases h
  ·rename_i c2
   split at h
   ·rename_i c3
    rw [not_or,Decidable.not_not,Decidable.not_not]at c2
    obtain⟨z,e1,e2,e3⟩:=ick_zero c2.1
    obtain⟨f1,f2⟩:=chk_zero c2.2
    have hd:(bval x.2).toNat≠0:=fun e=>c1 (Or.inr (Or.inr (by rw [f1,e];exact nat_size_zero.2 rfl)))
    have hr:Nat.gcd z.natAbs (bval x.2).toNat=1:=by
     have:(bval x.1.2).toNat=z.natAbs:=by rw [e2];exact bval_n _
     rw [←this];exact c3
    refine⟨⟨z,(bval x.2).toNat,hd,hr⟩,?_,e3,by rw [←f1];exact f2⟩
    show x=((ng z,ab z),nat (bval x.2).toNat)
    rw [←f1,←e1,←e2]
   ·cases h
theorem rck_cases (x:FV):((ick x.1.1 x.1.2=1∨chk x.2=1∨x.2.size=0)∧rck x=1)∨
  (¬(ick x.1.1 x.1.2=1∨chk x.2=1∨x.2.size=0)∧(ick x.1.1 x.1.2=4∨ick x.1.1 x.1.2=0∧chk x.2=4)∧rck x=4)∨
  (∃(z:Int) (d:Nat),x=((ng z,ab z),nat d)∧d≠0∧(ab z).size≤1024∧(nat d).size≤1024∧rck x=if Nat.gcd z.natAbs d=1 then 0 else 1):=by
 by_cases c1:ick x.1.1 x.1.2=1∨chk x.2=1∨x.2.size=0
 ·exact Or.inl ⟨c1,if_pos c1⟩
 ·by_cases c2:ick x.1.1 x.1.2≠0∨chk x.2≠0
  ·refine Or.inr (Or.inl ⟨c1,?_,by unfold rck;rw [if_neg c1,if_pos c2]⟩)
   rw [not_or,not_or]at c1
   rcases ick_cases x.1.1 x.1.2 with h|h|h
   ·rcases chk_cases x.2 with g|g|g
    ·rw [h,g]at c2;simp at c2
    ·exact absurd g c1.2.1
    ·exact Or.inr ⟨h,g⟩
   ·exact absurd h c1.1
   ·exact Or.inl h
  ·have c2':=c2
   rw [not_or,Decidable.not_not,Decidable.not_not]at c2'
   obtain⟨z,e1,e2,e3⟩:=ick_zero c2'.1
   obtain⟨f1,f2⟩:=chk_zero c2'.2
   have hd:(bval x.2).toNat≠0:=fun e=>c1 (Or.inr (Or.inr (by rw [f1,e];exact nat_size_zero.2 rfl)))
   have hb:(bval x.1.2).toNat=z.natAbs:=by rw [e2];exact bval_n _
   refine Or.inr (Or.inr ⟨z,(bval x.2).toNat,by rw [←f1,←e1,←e2],hd,e3,by rw [←f1];exact f2,?_⟩)
   unfold rck;rw [if_neg c1,if_neg c2,hb]
theorem e_size (d:ByteArray):(d.toList==(⟨#[]⟩:ByteArray).toList)=decide (d.size=0):=by
 rw [Bool.eq_iff_iff,beq_iff_eq,decide_eq_true_eq,empty_toList,toList_nil]
theorem rCk_ev (x:FV):Ev (fun k=>FX34 k x) (rck x):=by
 have h1:=iCheck_ev x.1.1 x.1.2
 have h2:=Go.Proofs.YtjllholdppjllaaGreatN.Check_ev x.2
 rcases rck_cases x with⟨c,e⟩| ⟨c,c2,e⟩| ⟨z,d,rfl,hd,hz,hs,e⟩
 ·rw [e]
  by_cases c1:ick x.1.1 x.1.2=1
  ·obtain⟨K_h1,h1⟩:=h1
   obtain⟨K_h2,h2⟩:=h2
   refine⟨K_h1+K_h2,fun k hk=>?_⟩
   replace h1:=h1 k (by omega)
   replace h2:=h2 k (by omega)
   dsimp only [fr]at h1 h2
   show FX34 _ _=_
   unfold FX34 B34
   simp only [fr,FX83,FX84,FX85,cnd_eq_if,bind_some_,if_true,if_false,ne_eq,not_true_eq_false,not_false_eq_true,Bool.not_true,Bool.not_false,Bool.false_eq_true,Int.reduceEq,reduceCtorEq,Bool.not_eq_true',bfalse,ite_not,eq_self,Bool.and_eq_true,Bool.or_eq_true,ite_and_,ite_or_,and_self,decide_true,decide_false,Bool.true_and,Bool.and_true,beq_self_eq_true,decide_eq_true_eq,gt_iff_lt,ge_iff_le,Int.neg_eq_zero,h1,h2,c1]
  ·by_cases c2:chk x.2=1
   ·obtain⟨K_h1,h1⟩:=h1
    obtain⟨K_h2,h2⟩:=h2
    refine⟨K_h1+K_h2,fun k hk=>?_⟩
    replace h1:=h1 k (by omega)
    replace h2:=h2 k (by omega)
    dsimp only [fr]at h1 h2
    show FX34 _ _=_
    unfold FX34 B34
    simp only [fr,FX83,FX84,FX85,cnd_eq_if,bind_some_,if_true,if_false,ne_eq,not_true_eq_false,not_false_eq_true,Bool.not_true,Bool.not_false,Bool.false_eq_true,Int.reduceEq,reduceCtorEq,Bool.not_eq_true',bfalse,ite_not,eq_self,Bool.and_eq_true,Bool.or_eq_true,ite_and_,ite_or_,and_self,decide_true,decide_false,Bool.true_and,Bool.and_true,beq_self_eq_true,decide_eq_true_eq,gt_iff_lt,ge_iff_le,Int.neg_eq_zero,h1,h2,c1,c2,ite_self]
   ·have c3:x.2.size=0:=by rcases c with c|c|c;exact absurd c c1;exact absurd c c2;exact c
    obtain⟨K_h1,h1⟩:=h1
    obtain⟨K_h2,h2⟩:=h2
    refine⟨K_h1+K_h2,fun k hk=>?_⟩
    replace h1:=h1 k (by omega)
    replace h2:=h2 k (by omega)
    dsimp only [fr]at h1 h2
    show FX34 _ _=_
    unfold FX34 B34
    simp only [fr,FX83,FX84,FX85,cnd_eq_if,bind_some_,if_true,if_false,ne_eq,not_true_eq_false,not_false_eq_true,Bool.not_true,Bool.not_false,Bool.false_eq_true,Int.reduceEq,reduceCtorEq,Bool.not_eq_true',bfalse,ite_not,eq_self,Bool.and_eq_true,Bool.or_eq_true,ite_and_,ite_or_,and_self,decide_true,decide_false,Bool.true_and,Bool.and_true,beq_self_eq_true,decide_eq_true_eq,gt_iff_lt,ge_iff_le,Int.neg_eq_zero,h1,h2,c1,c2,c3,e_size]
 ·rw [not_or,not_or]at c
  rw [e]
  rcases c2 with c2| ⟨c2,c3⟩
  ·have c1:=c.2.1
   have c4:=c.2.2
   obtain⟨K_h1,h1⟩:=h1
   obtain⟨K_h2,h2⟩:=h2
   refine⟨K_h1+K_h2,fun k hk=>?_⟩
   replace h1:=h1 k (by omega)
   replace h2:=h2 k (by omega)
   dsimp only [fr]at h1 h2
   show FX34 _ _=_
   unfold FX34 B34
   simp only [fr,FX83,FX84,FX85,cnd_eq_if,bind_some_,if_true,if_false,ne_eq,not_true_eq_false,not_false_eq_true,Bool.not_true,Bool.not_false,Bool.false_eq_true,Int.reduceEq,reduceCtorEq,Bool.not_eq_true',bfalse,ite_not,eq_self,Bool.and_eq_true,Bool.or_eq_true,ite_and_,ite_or_,and_self,decide_true,decide_false,Bool.true_and,Bool.and_true,beq_self_eq_true,decide_eq_true_eq,gt_iff_lt,ge_iff_le,Int.neg_eq_zero,h1,h2,c1,c2,c4,e_size]
  ·have c4:=c.2.2
   obtain⟨K_h1,h1⟩:=h1
   obtain⟨K_h2,h2⟩:=h2
   refine⟨K_h1+K_h2,fun k hk=>?_⟩
   replace h1:=h1 k (by omega)
   replace h2:=h2 k (by omega)
   dsimp only [fr]at h1 h2
   show FX34 _ _=_
   unfold FX34 B34
   simp only [fr,FX83,FX84,FX85,cnd_eq_if,bind_some_,if_true,if_false,ne_eq,not_true_eq_false,not_false_eq_true,Bool.not_true,Bool.not_false,Bool.false_eq_true,Int.reduceEq,reduceCtorEq,Bool.not_eq_true',bfalse,ite_not,eq_self,Bool.and_eq_true,Bool.or_eq_true,ite_and_,ite_or_,and_self,decide_true,decide_false,Bool.true_and,Bool.and_true,beq_self_eq_true,decide_eq_true_eq,gt_iff_lt,ge_iff_le,Int.neg_eq_zero,h1,h2,c2,c3,c4,e_size]
 ·rw [e]
  have h3:=NatGcd_ev (m:=z.natAbs) (n:=d) (Nat.le_trans hz (by decide)) (Nat.le_trans hs (by decide))
  have h3':Ev (fun k=>exact_NatGcd.f k (ab z) (nat d)) _:=h3
  dsimp only at h1 h2
  rw [ick_int hz]at h1
  rw [chk_nat hs]at h2
  by_cases c:d=1
  ·subst c
   have e1:Nat.gcd z.natAbs 1=1:=Nat.gcd_one_right _
   obtain⟨K_h1,h1⟩:=h1
   obtain⟨K_h2,h2⟩:=h2
   refine⟨K_h1+K_h2,fun k hk=>?_⟩
   replace h1:=h1 k (by omega)
   replace h2:=h2 k (by omega)
   dsimp only [fr]at h1 h2
   show FX34 _ _=_
   unfold FX34 B34
   simp only [fr,FX83,FX84,FX85,cnd_eq_if,bind_some_,if_true,if_false,ne_eq,not_true_eq_false,not_false_eq_true,Bool.not_true,Bool.not_false,Bool.false_eq_true,Int.reduceEq,reduceCtorEq,Bool.not_eq_true',bfalse,ite_not,eq_self,Bool.and_eq_true,Bool.or_eq_true,ite_and_,ite_or_,and_self,decide_true,decide_false,Bool.true_and,Bool.and_true,beq_self_eq_true,decide_eq_true_eq,gt_iff_lt,ge_iff_le,Int.neg_eq_zero,h1,h2,e_one,e_nil,e1]
  ·by_cases c5:Nat.gcd z.natAbs d=1
   ·obtain⟨K_h1,h1⟩:=h1
    obtain⟨K_h2,h2⟩:=h2
    obtain⟨K_h3',h3'⟩:=h3'
    refine⟨K_h1+K_h2+K_h3',fun k hk=>?_⟩
    replace h1:=h1 k (by omega)
    replace h2:=h2 k (by omega)
    replace h3':=h3' k (by omega)
    dsimp only [fr]at h1 h2 h3'
    show FX34 _ _=_
    unfold FX34 B34
    simp only [fr,FX83,FX84,FX85,cnd_eq_if,bind_some_,if_true,if_false,ne_eq,not_true_eq_false,not_false_eq_true,Bool.not_true,Bool.not_false,Bool.false_eq_true,Int.reduceEq,reduceCtorEq,Bool.not_eq_true',bfalse,ite_not,eq_self,Bool.and_eq_true,Bool.or_eq_true,ite_and_,ite_or_,and_self,decide_true,decide_false,Bool.true_and,Bool.and_true,beq_self_eq_true,decide_eq_true_eq,gt_iff_lt,ge_iff_le,Int.neg_eq_zero,h1,h2,h3',e_one,e_nil,hd,c,c5]
   ·obtain⟨K_h1,h1⟩:=h1
    obtain⟨K_h2,h2⟩:=h2
    obtain⟨K_h3',h3'⟩:=h3'
    refine⟨K_h1+K_h2+K_h3',fun k hk=>?_⟩
    replace h1:=h1 k (by omega)
    replace h2:=h2 k (by omega)
    replace h3':=h3' k (by omega)
    dsimp only [fr]at h1 h2 h3'
    show FX34 _ _=_
    unfold FX34 B34
    simp only [fr,FX83,FX84,FX85,cnd_eq_if,bind_some_,if_true,if_false,ne_eq,not_true_eq_false,not_false_eq_true,Bool.not_true,Bool.not_false,Bool.false_eq_true,Int.reduceEq,reduceCtorEq,Bool.not_eq_true',bfalse,ite_not,eq_self,Bool.and_eq_true,Bool.or_eq_true,ite_and_,ite_or_,and_self,decide_true,decide_false,Bool.true_and,Bool.and_true,beq_self_eq_true,decide_eq_true_eq,gt_iff_lt,ge_iff_le,Int.neg_eq_zero,h1,h2,h3',e_one,e_nil,hd,c,c5]
theorem RCk_ev (x:FV):Ev (fun k=>FX16 k x) (rck x):=by
 have f1:=rValid2_eq x.1.1 x.1.2
 have f2:=rValid_eq x.2
 have f3:=rFits_eq x.1.1 x.1.2
 have f4:=rFits1_eq x.2
 have k1:decide ((x.1.2.size=0∨bt x.1.2 0≠0)∧¬(x.1.1=true∧x.1.2.size=0))=!decide (ick x.1.1 x.1.2=1):=by
  rw [Bool.eq_iff_iff,decide_eq_true_eq,Bool.not_eq_true',decide_eq_false_iff_not]
  unfold ick
  by_cases g:chk x.1.2=1
  ·rw [if_pos g]
   have:=chk_one.1 g
   exact⟨fun q=>absurd q.1 this,fun q=>absurd rfl q⟩
  ·rw [if_neg g]
   have g2:x.1.2.size=0∨bt x.1.2 0≠0:=Decidable.not_not.1 fun q=>g (chk_one.2 q)
   by_cases g3:x.1.1=true∧x.1.2.size=0
   ·rw [if_pos g3];exact⟨fun q=>absurd g3 q.2,fun q=>absurd rfl q⟩
   ·rw [if_neg g3];exact⟨fun _=>g,fun _=>⟨g2,g3⟩⟩
 have k2:decide (x.2.size=0∨bt x.2 0≠0)=!decide (chk x.2=1):=by
  rw [Bool.eq_iff_iff,decide_eq_true_eq,Bool.not_eq_true',decide_eq_false_iff_not]
  constructor
  ·intro q r;exact chk_one.1 r q
  ·intro q;exact Decidable.not_not.1 fun r=>q (chk_one.2 r)
 rw [k1]at f1
 rw [k2]at f2
 rcases rck_cases x with⟨c,e⟩| ⟨c,c2,e⟩| ⟨z,d,rfl,hd,hz,hs,e⟩
 ·rw [e]
  have f5:FX63=FX63:=rfl
  by_cases c1:ick x.1.1 x.1.2=1
  ·refine⟨0,fun k hk=>?_⟩
   show FX16 _ _=_
   unfold FX16 B16
   simp only [fr,FX61,FX62,FX64,cnd_eq_if,bind_some_,if_true,if_false,ne_eq,not_true_eq_false,not_false_eq_true,Bool.not_true,Bool.not_false,Bool.false_eq_true,Int.reduceEq,reduceCtorEq,Bool.not_eq_true',bfalse,ite_not,eq_self,Bool.and_eq_true,Bool.or_eq_true,ite_and_,ite_or_,and_self,decide_true,decide_false,Bool.true_and,Bool.and_true,beq_self_eq_true,decide_eq_true_eq,gt_iff_lt,ge_iff_le,Int.neg_eq_zero,f1,c1]
  ·by_cases c2:chk x.2=1
   ·refine⟨0,fun k hk=>?_⟩
    show FX16 _ _=_
    unfold FX16 B16
    simp only [fr,FX61,FX62,FX64,cnd_eq_if,bind_some_,if_true,if_false,ne_eq,not_true_eq_false,not_false_eq_true,Bool.not_true,Bool.not_false,Bool.false_eq_true,Int.reduceEq,reduceCtorEq,Bool.not_eq_true',bfalse,ite_not,eq_self,Bool.and_eq_true,Bool.or_eq_true,ite_and_,ite_or_,and_self,decide_true,decide_false,Bool.true_and,Bool.and_true,beq_self_eq_true,decide_eq_true_eq,gt_iff_lt,ge_iff_le,Int.neg_eq_zero,f1,f2,c1,c2]
   ·have c3:x.2.size=0:=by rcases c with c|c|c;exact absurd c c1;exact absurd c c2;exact c
    refine⟨0,fun k hk=>?_⟩
    show FX16 _ _=_
    unfold FX16 B16
    simp only [fr,FX61,FX62,FX64,cnd_eq_if,bind_some_,if_true,if_false,ne_eq,not_true_eq_false,not_false_eq_true,Bool.not_true,Bool.not_false,Bool.false_eq_true,Int.reduceEq,reduceCtorEq,Bool.not_eq_true',bfalse,ite_not,eq_self,Bool.and_eq_true,Bool.or_eq_true,ite_and_,ite_or_,and_self,decide_true,decide_false,Bool.true_and,Bool.and_true,beq_self_eq_true,decide_eq_true_eq,gt_iff_lt,ge_iff_le,Int.neg_eq_zero,f1,f2,c1,c2,c3,e_size]
 ·rw [e]
  rw [not_or,not_or]at c
  have c1:=c.1
  have c3:=c.2.1
  have c4:=c.2.2
  have hf:Ev (fun k=>FX63 k x) 4:=by
   by_cases g:(x.1.2.size:Int)>1024
   ·rw [if_pos g]at f3
    refine⟨0,fun k hk=>?_⟩
    show FX63 _ _=_
    unfold FX63 B63
    simp only [fr,FX65,FX117,cnd_eq_if,bind_some_,if_true,if_false,ne_eq,not_true_eq_false,not_false_eq_true,Bool.not_true,Bool.not_false,Bool.false_eq_true,Int.reduceEq,reduceCtorEq,Bool.not_eq_true',bfalse,ite_not,eq_self,Bool.and_eq_true,Bool.or_eq_true,ite_and_,ite_or_,and_self,decide_true,decide_false,Bool.true_and,Bool.and_true,beq_self_eq_true,decide_eq_true_eq,gt_iff_lt,ge_iff_le,Int.neg_eq_zero,f3]
   ·rw [if_neg g]at f3
    have g2:(x.2.size:Int)>1024:=by
     rcases c2 with c2| ⟨c2,c5⟩
     ·exfalso
      unfold ick at c2 c1
      split at c2
      ·cases c2
      ·split at c2
       ·cases c2
       ·rename_i q1 q2
        rw [chk_rest q1,if_neg g]at c2;cases c2
     ·rw [chk_rest c3]at c5
      split at c5
      ·assumption
      ·cases c5
    rw [if_pos g2]at f4
    refine⟨0,fun k hk=>?_⟩
    show FX63 _ _=_
    unfold FX63 B63
    simp only [fr,FX65,FX117,cnd_eq_if,bind_some_,if_true,if_false,ne_eq,not_true_eq_false,not_false_eq_true,Bool.not_true,Bool.not_false,Bool.false_eq_true,Int.reduceEq,reduceCtorEq,Bool.not_eq_true',bfalse,ite_not,eq_self,Bool.and_eq_true,Bool.or_eq_true,ite_and_,ite_or_,and_self,decide_true,decide_false,Bool.true_and,Bool.and_true,beq_self_eq_true,decide_eq_true_eq,gt_iff_lt,ge_iff_le,Int.neg_eq_zero,f3,f4]
  obtain⟨K_hf,hf⟩:=hf
  refine⟨K_hf,fun k hk=>?_⟩
  replace hf:=hf k (by omega)
  dsimp only [fr]at hf
  show FX16 _ _=_
  unfold FX16 B16
  simp only [fr,FX61,FX62,FX64,cnd_eq_if,bind_some_,if_true,if_false,ne_eq,not_true_eq_false,not_false_eq_true,Bool.not_true,Bool.not_false,Bool.false_eq_true,Int.reduceEq,reduceCtorEq,Bool.not_eq_true',bfalse,ite_not,eq_self,Bool.and_eq_true,Bool.or_eq_true,ite_and_,ite_or_,and_self,decide_true,decide_false,Bool.true_and,Bool.and_true,beq_self_eq_true,decide_eq_true_eq,gt_iff_lt,ge_iff_le,Int.neg_eq_zero,hf,f1,f2,c1,c3,c4,e_size]
 ·rw [e]
  have h3:=rGcd_ev (m:=z.natAbs) (n:=d) (Nat.le_trans hz (by decide)) (Nat.le_trans hs (by decide))
  have h3':Ev (fun k=>galoisref01_Gcd.f k (ab z) (nat d)) _:=h3
  dsimp only at f1 f2 f3 f4
  rw [ick_int hz]at f1
  rw [chk_nat hs]at f2
  have g1:¬((ab z).size:Int)>1024:=by omega
  have g2:¬((nat d).size:Int)>1024:=by omega
  rw [if_neg g1]at f3
  rw [if_neg g2]at f4
  have hf:Ev (fun k=>FX63 k ((ng z,ab z),nat d)) 0:=by
   refine⟨0,fun k hk=>?_⟩
   show FX63 _ _=_
   unfold FX63 B63
   simp only [fr,FX65,FX117,cnd_eq_if,bind_some_,if_true,if_false,ne_eq,not_true_eq_false,not_false_eq_true,Bool.not_true,Bool.not_false,Bool.false_eq_true,Int.reduceEq,reduceCtorEq,Bool.not_eq_true',bfalse,ite_not,eq_self,Bool.and_eq_true,Bool.or_eq_true,ite_and_,ite_or_,and_self,decide_true,decide_false,Bool.true_and,Bool.and_true,beq_self_eq_true,decide_eq_true_eq,gt_iff_lt,ge_iff_le,Int.neg_eq_zero,f3,f4]
  by_cases c5:Nat.gcd z.natAbs d=1
  ·obtain⟨K_hf,hf⟩:=hf
   obtain⟨K_h3',h3'⟩:=h3'
   refine⟨K_hf+K_h3',fun k hk=>?_⟩
   replace hf:=hf k (by omega)
   replace h3':=h3' k (by omega)
   dsimp only [fr]at hf h3'
   show FX16 _ _=_
   unfold FX16 B16
   simp only [fr,FX61,FX62,FX64,cnd_eq_if,bind_some_,if_true,if_false,ne_eq,not_true_eq_false,not_false_eq_true,Bool.not_true,Bool.not_false,Bool.false_eq_true,Int.reduceEq,reduceCtorEq,Bool.not_eq_true',bfalse,ite_not,eq_self,Bool.and_eq_true,Bool.or_eq_true,ite_and_,ite_or_,and_self,decide_true,decide_false,Bool.true_and,Bool.and_true,beq_self_eq_true,decide_eq_true_eq,gt_iff_lt,ge_iff_le,Int.neg_eq_zero,hf,h3',f1,f2,e_one,e_nil,hd,c5]
  ·obtain⟨K_hf,hf⟩:=hf
   obtain⟨K_h3',h3'⟩:=h3'
   refine⟨K_hf+K_h3',fun k hk=>?_⟩
   replace hf:=hf k (by omega)
   replace h3':=h3' k (by omega)
   dsimp only [fr]at hf h3'
   show FX16 _ _=_
   unfold FX16 B16
   simp only [fr,FX61,FX62,FX64,cnd_eq_if,bind_some_,if_true,if_false,ne_eq,not_true_eq_false,not_false_eq_true,Bool.not_true,Bool.not_false,Bool.false_eq_true,Int.reduceEq,reduceCtorEq,Bool.not_eq_true',bfalse,ite_not,eq_self,Bool.and_eq_true,Bool.or_eq_true,ite_and_,ite_or_,and_self,decide_true,decide_false,Bool.true_and,Bool.and_true,beq_self_eq_true,decide_eq_true_eq,gt_iff_lt,ge_iff_le,Int.neg_eq_zero,hf,h3',f1,f2,e_one,e_nil,hd,c5]
def rerr (e:Int):TI×ByteArray×Int:=((false,⟨#[]⟩),⟨#[]⟩,e)
theorem rdOf_0 (z x:FV) (l:List FV):rdOf z (x::l) 0=x:=rfl
theorem rdOf_1 (z x y:FV) (l:List FV):rdOf z (x::y::l) 1=y:=rfl
theorem len1 (x:FV):(([x]:List FV).length:Int)=1:=rfl
theorem len2 (x y:FV):(([x,y]:List FV).length:Int)=2:=rfl
section
variable {x y:FV}
theorem withMul_go {z:R73} {r:R55Mul} (h:rck x=0) (h2:rck y=0) (ho:Ev (fun k=>FX73 k [x,y]) z)
  (hr:if z.2.2=0 then Ev (fun k=>FX113 k (z.1,z.2.1)) r else r=rerr z.2.2):Ev (fun k=>FX55Mul k [x,y]) r:=by
 obtain⟨K1,h1⟩:=rCk_ev x
 obtain⟨K2,h3⟩:=rCk_ev y
 obtain⟨K3,h5⟩:=ho
 have hf:∃K4,∀k,K4≤k→(if z.2.2≠0 then some ((false,(⟨#[]⟩:ByteArray)),(⟨#[]⟩:ByteArray),z.2.2)else((FX113 k (z.1,z.2.1)).bind fun r3=>some (r3.1,r3.2.1,r3.2.2)))=some r:=by
  by_cases hz:z.2.2=0
  ·rw [if_pos hz]at hr
   obtain⟨K4,h4⟩:=hr
   refine⟨K4,fun k hk=>?_⟩
   have g:=h4 k hk
   dsimp only at g
   rw [if_neg (fun q=>q hz),g,bind_some_]
  ·rw [if_neg hz]at hr
   exact⟨0,fun k _=>by rw [if_pos hz,hr];rfl⟩
 obtain⟨K4,h4⟩:=hf
 refine⟨K1+K2+K3+K4+3,fun k hk=>?_⟩
 obtain⟨m,rfl⟩:∃m,k=m+3:=⟨k-3,by omega⟩
 have g1:=h1 (m+2) (by omega)
 have g2:=h3 (m+1) (by omega)
 have g3:=h5 m (by omega)
 have g4:=h4 m (by omega)
 dsimp only at g1 g2 g3
 rw [h]at g1
 rw [h2]at g2
 show GX55Mull0 (m+2+1) [x,y] [x,y] (([x,y]:List FV).length:Int) 0 _=_
 rw [GX55Mull0];unfold B55Mull0
 simp only [rdOf_0,len2,wrap01,Int.reduceLT,Int.reduceLE,Int.le_refl,bind_some_,if_true,ne_eq,g1,not_true_eq_false,if_false]
 show GX55Mull0 (m+1+1) [x,y] [x,y] 2 1 _=_
 rw [GX55Mull0];unfold B55Mull0
 simp only [rdOf_1,len2,wrap11,Int.reduceLT,Int.reduceLE,Int.le_refl,bind_some_,if_true,ne_eq,g2,not_true_eq_false,if_false]
 show GX55Mull0 (m+1) [x,y] [x,y] 2 2 _=_
 rw [GX55Mull0];unfold B55Mull0
 rw [if_neg (by decide),g3,bind_some_]
 exact g4
end
theorem rMul_ev {a b:Rat} (ha:Sm 1024 a) (hb:Sm 1024 b):Ev (fun k=>FX26 k (fr a) (fr b)) (rbnd (a*b)):=by
 have s1:Sm 10000 a:=⟨Nat.le_trans ha.1 (by decide),Nat.le_trans ha.2 (by decide)⟩
 have s2:Sm 10000 b:=⟨Nat.le_trans hb.1 (by decide),Nat.le_trans hb.2 (by decide)⟩
 have h1:=Mul_ev s1 s2
 have ho:Ev (fun k=>FX73 k [fr a,fr b]) ((fr (a*b)).1,(fr (a*b)).2,0):=by
  obtain⟨K_h1,h1⟩:=h1
  refine⟨K_h1,fun k hk=>?_⟩
  replace h1:=h1 k (by omega)
  dsimp only [fr]at h1
  show FX73 _ _=_
  unfold FX73 B73
  simp only [fr,cnd_eq_if,bind_some_,if_true,if_false,ne_eq,not_true_eq_false,not_false_eq_true,Bool.not_true,Bool.not_false,Bool.false_eq_true,Int.reduceEq,reduceCtorEq,Bool.not_eq_true',bfalse,ite_not,eq_self,Bool.and_eq_true,Bool.or_eq_true,ite_and_,ite_or_,and_self,decide_true,decide_false,Bool.true_and,Bool.and_true,beq_self_eq_true,decide_eq_true_eq,gt_iff_lt,ge_iff_le,Int.neg_eq_zero,h1,rdOf_0,rdOf_1,len2,Int.reduceLT,Int.reduceLE,Int.le_refl]
 have h2:=withMul_go (rck_fr ha) (rck_fr hb) ho (r:=rbnd (a*b)) (by rw [if_pos rfl];exact rfit_ev _)
 obtain⟨K_h2,h2⟩:=h2
 refine⟨K_h2,fun k hk=>?_⟩
 replace h2:=h2 k (by omega)
 dsimp only [fr]at h2
 show FX26 _ _ _=_
 unfold FX26 B26
 simp only [fr,cnd_eq_if,bind_some_,if_true,if_false,ne_eq,not_true_eq_false,not_false_eq_true,Bool.not_true,Bool.not_false,Bool.false_eq_true,Int.reduceEq,reduceCtorEq,Bool.not_eq_true',bfalse,ite_not,eq_self,Bool.and_eq_true,Bool.or_eq_true,ite_and_,ite_or_,and_self,decide_true,decide_false,Bool.true_and,Bool.and_true,beq_self_eq_true,decide_eq_true_eq,gt_iff_lt,ge_iff_le,Int.neg_eq_zero,h2]
section
variable {x:FV} {e:Int}
theorem withPow_go {z:R56} {r:TI×ByteArray×Int} (h:rck x=0) (ho:Ev (fun k=>FX56 k [x] e) z)
  (hr:if z.2.2.1=0 then Ev (fun k=>FX113 k (z.1,z.2.1)) r else r=rerr z.2.2.1):Ev (fun k=>FX55Pow k [x] e) (r.1,r.2.1,r.2.2,z.2.2.2):=by
 obtain⟨K1,h1⟩:=rCk_ev x
 obtain⟨K3,h5⟩:=ho
 have hf:∃K4,∀k,K4≤k→(if z.2.2.1≠0 then some ((false,(⟨#[]⟩:ByteArray)),(⟨#[]⟩:ByteArray),z.2.2.1,z.2.2.2)else((FX113 k (z.1,z.2.1)).bind fun r3=>some (r3.1,r3.2.1,r3.2.2,z.2.2.2)))=some (r.1,r.2.1,r.2.2,z.2.2.2):=by
  by_cases hz:z.2.2.1=0
  ·rw [if_pos hz]at hr
   obtain⟨K4,h4⟩:=hr
   refine⟨K4,fun k hk=>?_⟩
   have g:=h4 k hk
   dsimp only at g
   rw [if_neg (fun q=>q hz),g,bind_some_]
  ·rw [if_neg hz]at hr
   exact⟨0,fun k _=>by rw [if_pos hz,hr];rfl⟩
 obtain⟨K4,h4⟩:=hf
 refine⟨K1+K3+K4+3,fun k hk=>?_⟩
 obtain⟨m,rfl⟩:∃m,k=m+3:=⟨k-3,by omega⟩
 have g1:=h1 (m+2) (by omega)
 have g3:=h5 (m+1) (by omega)
 have g4:=h4 (m+1) (by omega)
 dsimp only at g1 g3
 rw [h]at g1
 show GX55Powl0 (m+2+1) [x] [x] (([x]:List FV).length:Int) 0 e _=_
 rw [GX55Powl0];unfold B55Powl0
 simp only [rdOf_0,len1,wrap01,Int.reduceLT,Int.reduceLE,Int.le_refl,bind_some_,if_true,ne_eq,g1,not_true_eq_false,if_false]
 show GX55Powl0 (m+1+1) [x] [x] 1 1 e _=_
 rw [GX55Powl0];unfold B55Powl0
 rw [if_neg (by decide),g3,bind_some_]
 exact g4
end
def wide (n:Nat) (e:Nat):Bool:=decide (n≠0∧8192≤(bl n-1)*e)
theorem Wide_ev {n e:Nat} (hn:(nat n).size≤1024) (he:e≤4096):Ev (fun k=>FX59 k (nat n) (e:Int)) (wide n e):=by
 have f1:=NatBits_eq (n:=n) (Nat.le_trans hn (by decide))
 by_cases h0:n=0
 ·have f2:wide n e=false:=by unfold wide;rw [decide_eq_false_iff_not];exact fun q=>q.1 h0
  rw [f2]
  refine⟨0,fun k hk=>?_⟩
  show FX59 _ _ _=_
  unfold FX59 B59
  simp only [fr,FX114,cnd_eq_if,bind_some_,if_true,if_false,ne_eq,not_true_eq_false,not_false_eq_true,Bool.not_true,Bool.not_false,Bool.false_eq_true,Int.reduceEq,reduceCtorEq,Bool.not_eq_true',bfalse,ite_not,eq_self,Bool.and_eq_true,Bool.or_eq_true,ite_and_,ite_or_,and_self,decide_true,decide_false,Bool.true_and,Bool.and_true,beq_self_eq_true,decide_eq_true_eq,gt_iff_lt,ge_iff_le,Int.neg_eq_zero,e_nil,h0]
 ·have hb:=bl_size (n:=n)
  obtain⟨g1,g2⟩:=bl_le h0
  have hle:(bl n-1)*e≤8191*4096:=Nat.mul_le_mul (by omega) he
  have e1:wrap64 ((bl n:Int)-1)=((bl n-1:Nat):Int):=by rw [w64 (by omega) (by omega)];omega
  have e2:wrap64 (((bl n-1:Nat):Int)*(e:Int))=(((bl n-1)*e:Nat):Int):=by
   rw [←Int.natCast_mul]
   generalize(bl n-1)*e=A at*
   exact w64 (by omega) (by omega)
  have f2:wide n e=decide ((8192:Int)≤(((bl n-1)*e:Nat):Int)):=by
   unfold wide
   rw [Bool.eq_iff_iff,decide_eq_true_eq,decide_eq_true_eq]
   generalize(bl n-1)*e=A at*
   exact⟨fun q=>by omega,fun q=>⟨h0,by omega⟩⟩
  rw [f2]
  refine⟨0,fun k hk=>?_⟩
  show FX59 _ _ _=_
  unfold FX59 B59
  simp only [fr,FX114,cnd_eq_if,bind_some_,if_true,if_false,ne_eq,not_true_eq_false,not_false_eq_true,Bool.not_true,Bool.not_false,Bool.false_eq_true,Int.reduceEq,reduceCtorEq,Bool.not_eq_true',bfalse,ite_not,eq_self,Bool.and_eq_true,Bool.or_eq_true,ite_and_,ite_or_,and_self,decide_true,decide_false,Bool.true_and,Bool.and_true,beq_self_eq_true,decide_eq_true_eq,gt_iff_lt,ge_iff_le,Int.neg_eq_zero,e_nil,h0,f1,e1,e2]
theorem wide_big {n e:Nat} (h:wide n e=true):1024<(nat (n^e)).size:=by
 unfold wide at h
 rw [decide_eq_true_eq]at h
 obtain⟨g1,g2⟩:=bl_le h.1
 rcases Nat.lt_or_ge 1024 (nat (n^e)).size with h'|h'
 ·exact h'
 ·exfalso
  have h2:=Nat.pow_le_pow_left g2 e
  rw [←Nat.pow_mul]at h2
  have h3:=size_two h' h2
  clear h2
  omega
theorem pow_par (n:Nat):∀e:Nat,(e%2=0→(-(n:Int))^e=((n^e:Nat):Int))∧(e%2=1→(-(n:Int))^e= -((n^e:Nat):Int))
 |0=>⟨fun _=>by simp,fun h=>by omega⟩
 |e+1=>by
  obtain⟨i1,i2⟩:=pow_par n e
  have e1:((n^(e+1):Nat):Int)=((n^e:Nat):Int)*(n:Int):=by rw [Nat.pow_succ,Int.natCast_mul]
  constructor
  ·intro h
   rw [Int.pow_succ,i2 (by omega),e1,Int.neg_mul_neg]
  ·intro h
   rw [Int.pow_succ,i1 (by omega),e1,Int.mul_neg]
theorem sg_pow {x:Int} (h:x<0) (e:Nat):sg (decide (Int.tmod (e:Int) 2=1)) (x.natAbs^e)=x^e:=by
 obtain⟨i1,i2⟩:=pow_par x.natAbs e
 have hx: -((x.natAbs:Nat):Int)=x:=by omega
 rw [hx]at i1 i2
 have ht:Int.tmod (e:Int) 2=((e%2:Nat):Int):=by rw [Int.tmod_eq_emod_of_nonneg (by omega)];omega
 unfold sg
 by_cases hp:e%2=1
 ·rw [ht,hp,i2 hp];rfl
 ·rw [ht,show e%2=0 by omega,i1 (by omega)];rfl
theorem sg_pow0 {x:Int} (h:0≤x) (e:Nat):sg false (x.natAbs^e)=x^e:=by
 have hx:x=((x.natAbs:Nat):Int):=by omega
 show((x.natAbs^e:Nat):Int)=x^e
 rw [Int.natCast_pow,←hx]
theorem IPow_ev {x:Int} {e:Nat} (hx:(ab x).size≤1024) (he:e≤4096):Ev (fun k=>FX115 k (ng x,ab x) (e:Int)) (ng (x^e),ab (x^e)):=by
 have h:=NatPow_ev (m:=x.natAbs) (e:=e) (Nat.le_trans hx (by decide)) (by omega)
 have h':Ev (fun k=>exact_NatPow.f k (ab x) (e:Int)) _:=h
 by_cases hs:x<0
 ·have hi:=IMake_eq (decide (Int.tmod (e:Int) 2=1)) (x.natAbs^e)
  rw [sg_pow hs]at hi
  have s1:=ng_neg hs
  obtain⟨K_h',h'⟩:=h'
  refine⟨K_h',fun k hk=>?_⟩
  replace h':=h' k (by omega)
  dsimp only [fr]at h'
  show FX115 _ _ _=_
  unfold FX115 B115
  simp only [fr,FX108,FX116,cnd_eq_if,bind_some_,if_true,if_false,ne_eq,not_true_eq_false,not_false_eq_true,Bool.not_true,Bool.not_false,Bool.false_eq_true,Int.reduceEq,reduceCtorEq,Bool.not_eq_true',bfalse,ite_not,eq_self,Bool.and_eq_true,Bool.or_eq_true,ite_and_,ite_or_,and_self,decide_true,decide_false,Bool.true_and,Bool.and_true,beq_self_eq_true,decide_eq_true_eq,gt_iff_lt,ge_iff_le,Int.neg_eq_zero,h',s1,hi]
 ·have hi:=IMake_eq false (x.natAbs^e)
  rw [sg_pow0 (by omega)]at hi
  have s1:=ng_pos (show 0≤x by omega)
  obtain⟨K_h',h'⟩:=h'
  refine⟨K_h',fun k hk=>?_⟩
  replace h':=h' k (by omega)
  dsimp only [fr]at h'
  show FX115 _ _ _=_
  unfold FX115 B115
  simp only [fr,FX108,FX116,cnd_eq_if,bind_some_,if_true,if_false,ne_eq,not_true_eq_false,not_false_eq_true,Bool.not_true,Bool.not_false,Bool.false_eq_true,Int.reduceEq,reduceCtorEq,Bool.not_eq_true',bfalse,ite_not,eq_self,Bool.and_eq_true,Bool.or_eq_true,ite_and_,ite_or_,and_self,decide_true,decide_false,Bool.true_and,Bool.and_true,beq_self_eq_true,decide_eq_true_eq,gt_iff_lt,ge_iff_le,Int.neg_eq_zero,h',s1,hi]
theorem Pow_ev {a:Rat} {e:Nat} (ha:Sm 1024 a) (he:e≤4096):Ev (fun k=>FX60 k (fr a) (e:Int)) (fr (a^e)):=by
 have h1:=IPow_ev (e:=e) ha.1 he
 have h2:=NatPow_ev (m:=a.den) (e:=e) (Nat.le_trans ha.2 (by decide)) (by omega)
 have e1:fr (a^e)=((ng (a.num^e),ab (a.num^e)),nat (a.den^e)):=by unfold fr;rw [Rat.num_pow,Rat.den_pow]
 rw [e1]
 obtain⟨K_h1,h1⟩:=h1
 obtain⟨K_h2,h2⟩:=h2
 refine⟨K_h1+K_h2,fun k hk=>?_⟩
 replace h1:=h1 k (by omega)
 replace h2:=h2 k (by omega)
 dsimp only [fr]at h1 h2
 show FX60 _ _ _=_
 unfold FX60 B60
 simp only [fr,FX116,cnd_eq_if,bind_some_,if_true,if_false,ne_eq,not_true_eq_false,not_false_eq_true,Bool.not_true,Bool.not_false,Bool.false_eq_true,Int.reduceEq,reduceCtorEq,Bool.not_eq_true',bfalse,ite_not,eq_self,Bool.and_eq_true,Bool.or_eq_true,ite_and_,ite_or_,and_self,decide_true,decide_false,Bool.true_and,Bool.and_true,beq_self_eq_true,decide_eq_true_eq,gt_iff_lt,ge_iff_le,Int.neg_eq_zero,h1,h2]
theorem ab_pow (x:Int) (e:Nat):ab (x^e)=nat (x.natAbs^e):=by unfold ab;rw [Int.natAbs_pow]
theorem rbnd_big {q:Rat} (h:big q=true):rbnd q=rerr 4:=if_pos h
theorem rPow_ev {a:Rat} {e:Nat} (ha:Sm 1024 a) (he:e≤4096):Ev (fun k=>FX15 k (fr a) (e:Int)) (rbnd (a^e)):=by
 have h1:=Wide_ev (n:=a.num.natAbs) (e:=e) ha.1 he
 have h1':Ev (fun k=>FX59 k (ab a.num) (e:Int)) _:=h1
 have h2:=Wide_ev (n:=a.den) (e:=e) ha.2 he
 have h3:=Pow_ev (e:=e) ha he
 have c1:¬(e:Int)< -4096:=by omega
 have c2:¬4096<(e:Int):=by omega
 have c3:¬(e:Int)<0:=by omega
 have key:∀{z:R56},Ev (fun k=>FX56 k [fr a] (e:Int)) z→(if z.2.2.1=0 then Ev (fun k=>FX113 k (z.1,z.2.1)) (rbnd (a^e))else rbnd (a^e)=rerr z.2.2.1)→Ev (fun k=>FX15 k (fr a) (e:Int)) (rbnd (a^e)):=by
  intro z hz hr
  have h5:=withPow_go (rck_fr ha) hz hr
  obtain⟨K_h5,h5⟩:=h5
  refine⟨K_h5,fun k hk=>?_⟩
  replace h5:=h5 k (by omega)
  dsimp only [fr]at h5
  show FX15 _ _ _=_
  unfold FX15 B15
  simp only [fr,cnd_eq_if,bind_some_,if_true,if_false,ne_eq,not_true_eq_false,not_false_eq_true,Bool.not_true,Bool.not_false,Bool.false_eq_true,Int.reduceEq,reduceCtorEq,Bool.not_eq_true',bfalse,ite_not,eq_self,Bool.and_eq_true,Bool.or_eq_true,ite_and_,ite_or_,and_self,decide_true,decide_false,Bool.true_and,Bool.and_true,beq_self_eq_true,decide_eq_true_eq,gt_iff_lt,ge_iff_le,Int.neg_eq_zero,h5]
 by_cases w1:wide a.num.natAbs e=true
 ·rw [w1]at h1'
  have hb:rbnd (a^e)=rerr 4:=rbnd_big (by unfold big;rw [decide_eq_true_eq,Rat.num_pow,ab_pow];exact Or.inl (wide_big w1))
  have ho:Ev (fun k=>FX56 k [fr a] (e:Int)) ((fr a).1,(fr a).2,4,(e:Int)):=by
   obtain⟨K_h1',h1'⟩:=h1'
   refine⟨K_h1',fun k hk=>?_⟩
   replace h1':=h1' k (by omega)
   dsimp only [fr]at h1'
   show FX56 _ _ _=_
   unfold FX56 B56
   simp only [fr,FX57,B57,FX58,B58,cnd_eq_if,bind_some_,if_true,if_false,ne_eq,not_true_eq_false,not_false_eq_true,Bool.not_true,Bool.not_false,Bool.false_eq_true,Int.reduceEq,reduceCtorEq,Bool.not_eq_true',bfalse,ite_not,eq_self,Bool.and_eq_true,Bool.or_eq_true,ite_and_,ite_or_,and_self,decide_true,decide_false,Bool.true_and,Bool.and_true,beq_self_eq_true,decide_eq_true_eq,gt_iff_lt,ge_iff_le,Int.neg_eq_zero,h1',rdOf_0,len1,Int.reduceLT,Int.reduceLE,Int.le_refl,Int.reduceNeg,c1,c2,c3]
  exact key ho (by show(if(4:Int)=0 then _ else _);rw [if_neg (by decide)];exact hb)
 ·rw [Bool.not_eq_true]at w1
  rw [w1]at h1'
  by_cases w2:wide a.den e=true
  ·rw [w2]at h2
   have hb:rbnd (a^e)=rerr 4:=rbnd_big (by unfold big;rw [decide_eq_true_eq,Rat.den_pow];exact Or.inr (wide_big w2))
   have ho:Ev (fun k=>FX56 k [fr a] (e:Int)) ((fr a).1,(fr a).2,4,(e:Int)):=by
    obtain⟨K_h1',h1'⟩:=h1'
    obtain⟨K_h2,h2⟩:=h2
    refine⟨K_h1'+K_h2,fun k hk=>?_⟩
    replace h1':=h1' k (by omega)
    replace h2:=h2 k (by omega)
    dsimp only [fr]at h1' h2
    show FX56 _ _ _=_
    unfold FX56 B56
    simp only [fr,FX57,B57,FX58,B58,cnd_eq_if,bind_some_,if_true,if_false,ne_eq,not_true_eq_false,not_false_eq_true,Bool.not_true,Bool.not_false,Bool.false_eq_true,Int.reduceEq,reduceCtorEq,Bool.not_eq_true',bfalse,ite_not,eq_self,Bool.and_eq_true,Bool.or_eq_true,ite_and_,ite_or_,and_self,decide_true,decide_false,Bool.true_and,Bool.and_true,beq_self_eq_true,decide_eq_true_eq,gt_iff_lt,ge_iff_le,Int.neg_eq_zero,h1',h2,rdOf_0,len1,Int.reduceLT,Int.reduceLE,Int.le_refl,Int.reduceNeg,c1,c2,c3]
   exact key ho (by show(if(4:Int)=0 then _ else _);rw [if_neg (by decide)];exact hb)
  ·rw [Bool.not_eq_true]at w2
   rw [w2]at h2
   have ho:Ev (fun k=>FX56 k [fr a] (e:Int)) ((fr (a^e)).1,(fr (a^e)).2,0,(e:Int)):=by
    obtain⟨K_h1',h1'⟩:=h1'
    obtain⟨K_h2,h2⟩:=h2
    obtain⟨K_h3,h3⟩:=h3
    refine⟨K_h1'+K_h2+K_h3,fun k hk=>?_⟩
    replace h1':=h1' k (by omega)
    replace h2:=h2 k (by omega)
    replace h3:=h3 k (by omega)
    dsimp only [fr]at h1' h2 h3
    show FX56 _ _ _=_
    unfold FX56 B56
    simp only [fr,FX57,B57,FX58,B58,cnd_eq_if,bind_some_,if_true,if_false,ne_eq,not_true_eq_false,not_false_eq_true,Bool.not_true,Bool.not_false,Bool.false_eq_true,Int.reduceEq,reduceCtorEq,Bool.not_eq_true',bfalse,ite_not,eq_self,Bool.and_eq_true,Bool.or_eq_true,ite_and_,ite_or_,and_self,decide_true,decide_false,Bool.true_and,Bool.and_true,beq_self_eq_true,decide_eq_true_eq,gt_iff_lt,ge_iff_le,Int.neg_eq_zero,h1',h2,h3,rdOf_0,len1,Int.reduceLT,Int.reduceLE,Int.le_refl,Int.reduceNeg,c1,c2,c3]
   exact key ho (by rw [if_pos rfl];exact rfit_ev _)
theorem neg_e {e:Nat} (he:e≤4096):wrap64 (0- -(e:Int))=(e:Int):=by rw [Int.zero_sub,Int.neg_neg];exact w64 (by omega) (by omega)
theorem z_num {a:Rat} (h:a≠0):((ab a.num).toList==(⟨#[]⟩:ByteArray).toList)=false:=by
 rw [e_ab,decide_eq_false_iff_not]
 exact fun e=>h (Rat.num_eq_zero.1 e)
theorem rPow_neg {a:Rat} {e:Nat} (ha:Sm 1024 a) (h0:a≠0) (he:e≤4096) (h1e:1≤e):Ev (fun k=>FX15 k (fr a) (-(e:Int))) (rbnd (a⁻¹^e)):=by
 have hi:=ha.inv h0
 have e0:=fr_inv h0
 have h1:=Wide_ev (n:=a.den) (e:=e) ha.2 he
 have h2:=Wide_ev (n:=a.num.natAbs) (e:=e) ha.1 he
 have h2':Ev (fun k=>FX59 k (ab a.num) (e:Int)) _:=h2
 have h3:=Pow_ev (e:=e) hi he
 rw [e0]at h3
 have c1:¬ -(e:Int)< -4096:=by omega
 have c2:¬4096< -(e:Int):=by omega
 have c3: -(e:Int)<0:=by omega
 have c4:=neg_e he
 have c5:=z_num h0
 have f:fr a⁻¹=((ng a⁻¹.num,ab a⁻¹.num),nat a⁻¹.den):=rfl
 rw [f,Prod.mk.injEq,Prod.mk.injEq]at e0
 have key:∀{z:R56},Ev (fun k=>FX56 k [fr a] (-(e:Int))) z→(if z.2.2.1=0 then Ev (fun k=>FX113 k (z.1,z.2.1)) (rbnd (a⁻¹^e))else rbnd (a⁻¹^e)=rerr z.2.2.1)→Ev (fun k=>FX15 k (fr a) (-(e:Int))) (rbnd (a⁻¹^e)):=by
  intro z hz hr
  have h5:=withPow_go (rck_fr ha) hz hr
  obtain⟨K_h5,h5⟩:=h5
  refine⟨K_h5,fun k hk=>?_⟩
  replace h5:=h5 k (by omega)
  dsimp only [fr]at h5
  show FX15 _ _ _=_
  unfold FX15 B15
  simp only [fr,cnd_eq_if,bind_some_,if_true,if_false,ne_eq,not_true_eq_false,not_false_eq_true,Bool.not_true,Bool.not_false,Bool.false_eq_true,Int.reduceEq,reduceCtorEq,Bool.not_eq_true',bfalse,ite_not,eq_self,Bool.and_eq_true,Bool.or_eq_true,ite_and_,ite_or_,and_self,decide_true,decide_false,Bool.true_and,Bool.and_true,beq_self_eq_true,decide_eq_true_eq,gt_iff_lt,ge_iff_le,Int.neg_eq_zero,h5]
 by_cases w1:wide a.den e=true
 ·rw [w1]at h1
  have hb:rbnd (a⁻¹^e)=rerr 4:=rbnd_big (by
   unfold big;rw [decide_eq_true_eq,Rat.num_pow,ab_pow,show nat (a⁻¹.num.natAbs^e)=nat (a.den^e)from by
    have:=nat_inj.1 (show nat a⁻¹.num.natAbs=nat a.den from e0.1.2)
    rw [this]]
   exact Or.inl (wide_big w1))
  have ho:Ev (fun k=>FX56 k [fr a] (-(e:Int))) ((ng a.num,nat a.den),ab a.num,4,(e:Int)):=by
   obtain⟨K_h1,h1⟩:=h1
   refine⟨K_h1,fun k hk=>?_⟩
   replace h1:=h1 k (by omega)
   dsimp only [fr]at h1
   show FX56 _ _ _=_
   unfold FX56 B56
   simp only [fr,FX57,B57,FX58,B58,cnd_eq_if,bind_some_,if_true,if_false,ne_eq,not_true_eq_false,not_false_eq_true,Bool.not_true,Bool.not_false,Bool.false_eq_true,Int.reduceEq,reduceCtorEq,Bool.not_eq_true',bfalse,ite_not,eq_self,Bool.and_eq_true,Bool.or_eq_true,ite_and_,ite_or_,and_self,decide_true,decide_false,Bool.true_and,Bool.and_true,beq_self_eq_true,decide_eq_true_eq,gt_iff_lt,ge_iff_le,Int.neg_eq_zero,h1,rdOf_0,len1,Int.reduceLT,Int.reduceLE,Int.le_refl,Int.reduceNeg,c1,c2,c3,c4,c5]
  exact key ho (by show(if(4:Int)=0 then _ else _);rw [if_neg (by decide)];exact hb)
 ·rw [Bool.not_eq_true]at w1
  rw [w1]at h1
  by_cases w2:wide a.num.natAbs e=true
  ·rw [w2]at h2'
   have hb:rbnd (a⁻¹^e)=rerr 4:=rbnd_big (by
    unfold big;rw [decide_eq_true_eq,Rat.den_pow,nat_inj.1 (show nat a⁻¹.den=nat a.num.natAbs from e0.2)]
    exact Or.inr (wide_big w2))
   have ho:Ev (fun k=>FX56 k [fr a] (-(e:Int))) ((ng a.num,nat a.den),ab a.num,4,(e:Int)):=by
    obtain⟨K_h1,h1⟩:=h1
    obtain⟨K_h2',h2'⟩:=h2'
    refine⟨K_h1+K_h2',fun k hk=>?_⟩
    replace h1:=h1 k (by omega)
    replace h2':=h2' k (by omega)
    dsimp only [fr]at h1 h2'
    show FX56 _ _ _=_
    unfold FX56 B56
    simp only [fr,FX57,B57,FX58,B58,cnd_eq_if,bind_some_,if_true,if_false,ne_eq,not_true_eq_false,not_false_eq_true,Bool.not_true,Bool.not_false,Bool.false_eq_true,Int.reduceEq,reduceCtorEq,Bool.not_eq_true',bfalse,ite_not,eq_self,Bool.and_eq_true,Bool.or_eq_true,ite_and_,ite_or_,and_self,decide_true,decide_false,Bool.true_and,Bool.and_true,beq_self_eq_true,decide_eq_true_eq,gt_iff_lt,ge_iff_le,Int.neg_eq_zero,h1,h2',rdOf_0,len1,Int.reduceLT,Int.reduceLE,Int.le_refl,Int.reduceNeg,c1,c2,c3,c4,c5]
   exact key ho (by show(if(4:Int)=0 then _ else _);rw [if_neg (by decide)];exact hb)
  ·rw [Bool.not_eq_true]at w2
   rw [w2]at h2'
   have ho:Ev (fun k=>FX56 k [fr a] (-(e:Int))) ((fr (a⁻¹^e)).1,(fr (a⁻¹^e)).2,0,(e:Int)):=by
    obtain⟨K_h1,h1⟩:=h1
    obtain⟨K_h2',h2'⟩:=h2'
    obtain⟨K_h3,h3⟩:=h3
    refine⟨K_h1+K_h2'+K_h3,fun k hk=>?_⟩
    replace h1:=h1 k (by omega)
    replace h2':=h2' k (by omega)
    replace h3:=h3 k (by omega)
    dsimp only [fr]at h1 h2' h3
    show FX56 _ _ _=_
    unfold FX56 B56
    simp only [fr,FX57,B57,FX58,B58,cnd_eq_if,bind_some_,if_true,if_false,ne_eq,not_true_eq_false,not_false_eq_true,Bool.not_true,Bool.not_false,Bool.false_eq_true,Int.reduceEq,reduceCtorEq,Bool.not_eq_true',bfalse,ite_not,eq_self,Bool.and_eq_true,Bool.or_eq_true,ite_and_,ite_or_,and_self,decide_true,decide_false,Bool.true_and,Bool.and_true,beq_self_eq_true,decide_eq_true_eq,gt_iff_lt,ge_iff_le,Int.neg_eq_zero,h1,h2',h3,rdOf_0,len1,Int.reduceLT,Int.reduceLE,Int.le_refl,Int.reduceNeg,c1,c2,c3,c4,c5]
   exact key ho (by rw [if_pos rfl];exact rfit_ev _)
theorem Sm.mono {m n:Nat} {a:Rat} (h:Sm m a) (hmn:m≤n):Sm n a:=⟨Nat.le_trans h.1 hmn,Nat.le_trans h.2 hmn⟩
theorem Sm.mk_ {n:Int} {d s:Nat} (hn:(ab n).size≤s) (hd:(nat d).size≤s) (h0:d≠0):Sm s (mkRat n d):=by
 have hg:Nat.gcd d n.natAbs≠0:=fun e=>h0 (Nat.gcd_eq_zero_iff.1 e).1
 constructor
 ·rw [Rat.num_mkRat,if_neg h0]
  obtain⟨c,hc⟩:=Nat.gcd_dvd_right d n.natAbs
  have hi:∃z:Int,n=(Nat.gcd d n.natAbs:Int)*z:=by
   have:(Nat.gcd d n.natAbs:Int)∣n:=Int.dvd_natAbs.1 (Int.natCast_dvd_natCast.2 (Nat.gcd_dvd_right d n.natAbs))
   exact this
  obtain⟨z,hz⟩:=hi
  have e:n/(Nat.gcd d n.natAbs:Int)=z:=by
   conv=>lhs;lhs;rw [hz]
   exact Int.mul_ediv_cancel_left _ (by omega)
  rw [e]
  refine Nat.le_trans (size_mono ?_) hn
  have:n.natAbs=Nat.gcd d n.natAbs*z.natAbs:=by
   conv=>lhs;rw [hz]
   rw [Int.natAbs_mul,Int.natAbs_natCast]
  rw [this]
  exact Nat.le_mul_of_pos_left _ (Nat.pos_of_ne_zero hg)
 ·rw [Rat.den_mkRat,if_neg h0]
  exact Nat.le_trans (size_div_ _ _) hd
section
variable {a b:Rat} {m n:Nat}
theorem Sm.add (ha:Sm m a) (hb:Sm n b):Sm (m+n+1) (a+b):=by
 rw [Rat.add_def']
 refine Sm.mk_ (sz_add (sz_mul ha.1 (n:=n) (by rw [ab_nat];exact hb.2)) (Nat.le_trans (sz_mul hb.1 (n:=m) (by rw [ab_nat];exact ha.2)) (by omega))) (Nat.le_trans (sz_nmul ha.2 hb.2) (by omega)) (Nat.mul_ne_zero a.den_nz b.den_nz)
theorem Sm.sub (ha:Sm m a) (hb:Sm n b):Sm (m+n+1) (a-b):=by rw [Rat.sub_eq_add_neg];exact ha.add hb.neg
theorem Sm.mul (ha:Sm m a) (hb:Sm n b):Sm (m+n) (a*b):=by
 rw [Rat.mul_def']
 exact Sm.mk_ (sz_mul ha.1 hb.1) (sz_nmul ha.2 hb.2) (Nat.mul_ne_zero a.den_nz b.den_nz)
def okv (q:Rat):TI×ByteArray×Int:=((ng q.num,ab q.num),nat q.den,0)
theorem rbnd_ok {q:Rat} (h:Sm 1024 q):rbnd q=okv q:=by
 have:big q=false:=by
  unfold big
  rw [decide_eq_false_iff_not,not_or]
  exact⟨Nat.not_lt.2 h.1,Nat.not_lt.2 h.2⟩
 unfold rbnd
 rw [this,if_neg Bool.false_ne_true];rfl
theorem mulOk (ha:Sm m a) (hb:Sm n b) (h:m+n≤1024):Ev (fun k=>FX26 k (fr a) (fr b)) (okv (a*b)):=by
 rw [←rbnd_ok ((ha.mul hb).mono h)];exact rMul_ev (ha.mono (by omega)) (hb.mono (by omega))
end
def lng (x y:FV) (n:Nat):Bool:=decide (n<x.1.2.size∨n<x.2.size∨n<y.1.2.size∨n<y.2.size)
theorem lng_ev (x y:FV) (n:Nat):Ev (fun k=>FX11 k x y (n:Int)) (lng x y n):=by
 refine⟨0,fun k _=>?_⟩
 show FX11 _ _ _ _=_
 unfold FX11 B11 lng
 have c:∀s:Nat,((s:Int)>(n:Int))=(n<s):=fun s=>propext ⟨fun h=>by omega,fun h=>by omega⟩
 simp only [c]
 by_cases h1:n<x.1.2.size
 ·simp only [h1,if_true,true_or,decide_true]
 ·by_cases h2:n<x.2.size
  ·simp only [h1,h2,if_true,if_false,true_or,or_true,false_or,decide_true]
  ·by_cases h3:n<y.1.2.size
   ·simp only [h1,h2,h3,if_true,if_false,true_or,or_true,false_or,decide_true]
   ·simp only [h1,h2,h3,if_false,false_or]
def rck2 (x y:FV):Int:=if rck x≠0 then rck x else rck y
theorem exp_ev (x y:FV):Ev (fun k=>FX35 k x y) (rck2 x y):=by
 have h1:=RCk_ev x
 have h2:=RCk_ev y
 unfold rck2
 by_cases h:rck x=0
 ·rw [if_neg (fun q=>q h)]
  obtain⟨K_h1,h1⟩:=h1
  obtain⟨K_h2,h2⟩:=h2
  refine⟨K_h1+K_h2,fun k hk=>?_⟩
  replace h1:=h1 k (by omega)
  replace h2:=h2 k (by omega)
  dsimp only [fr]at h1 h2
  show FX35 _ _ _=_
  unfold FX35 B35
  simp only [fr,cnd_eq_if,bind_some_,if_true,if_false,ne_eq,not_true_eq_false,not_false_eq_true,Bool.not_true,Bool.not_false,Bool.false_eq_true,Int.reduceEq,reduceCtorEq,Bool.not_eq_true',bfalse,ite_not,eq_self,Bool.and_eq_true,Bool.or_eq_true,ite_and_,ite_or_,and_self,decide_true,decide_false,Bool.true_and,Bool.and_true,beq_self_eq_true,decide_eq_true_eq,gt_iff_lt,ge_iff_le,Int.neg_eq_zero,h1,h2,h]
 ·rw [if_pos h]
  obtain⟨K_h1,h1⟩:=h1
  obtain⟨K_h2,h2⟩:=h2
  refine⟨K_h1+K_h2,fun k hk=>?_⟩
  replace h1:=h1 k (by omega)
  replace h2:=h2 k (by omega)
  dsimp only [fr]at h1 h2
  show FX35 _ _ _=_
  unfold FX35 B35
  simp only [fr,cnd_eq_if,bind_some_,if_true,if_false,ne_eq,not_true_eq_false,not_false_eq_true,Bool.not_true,Bool.not_false,Bool.false_eq_true,Int.reduceEq,reduceCtorEq,Bool.not_eq_true',bfalse,ite_not,eq_self,Bool.and_eq_true,Bool.or_eq_true,ite_and_,ite_or_,and_self,decide_true,decide_false,Bool.true_and,Bool.and_true,beq_self_eq_true,decide_eq_true_eq,gt_iff_lt,ge_iff_le,Int.neg_eq_zero,h1,h2,h]
def fine (x y z:FV):Bool:=!lng x y 30&&!lng z z 30&&decide (rck x=0)&&decide (rck y=0)&&decide (rck z=0)
theorem fine_ev (x y z:FV):Ev (fun k=>FX24 k x y z) (fine x y z):=by
 have h1:=lng_ev x y 30
 have h2:=lng_ev z z 30
 have h1':Ev (fun k=>FX11 k x y 30) (lng x y 30):=h1
 have h2':Ev (fun k=>FX11 k z z 30) (lng z z 30):=h2
 have h3:=exp_ev x y
 have h4:=RCk_ev z
 unfold fine
 cases e1:lng x y 30 with
 |true=>
  rw [e1]at h1'
  obtain⟨K_h1',h1'⟩:=h1'
  refine⟨K_h1',fun k hk=>?_⟩
  replace h1':=h1' k (by omega)
  dsimp only [fr]at h1'
  show FX24 _ _ _ _=_
  unfold FX24 B24
  simp only [fr,cnd_eq_if,bind_some_,if_true,if_false,ne_eq,not_true_eq_false,not_false_eq_true,Bool.not_true,Bool.not_false,Bool.false_eq_true,Int.reduceEq,reduceCtorEq,Bool.not_eq_true',bfalse,ite_not,eq_self,Bool.and_eq_true,Bool.or_eq_true,ite_and_,ite_or_,and_self,decide_true,decide_false,Bool.true_and,Bool.and_true,beq_self_eq_true,decide_eq_true_eq,gt_iff_lt,ge_iff_le,Int.neg_eq_zero,h1',Bool.false_and]
 |false=>
  rw [e1]at h1'
  cases e2:lng z z 30 with
  |true=>
   rw [e2]at h2'
   obtain⟨K_h1',h1'⟩:=h1'
   obtain⟨K_h2',h2'⟩:=h2'
   refine⟨K_h1'+K_h2',fun k hk=>?_⟩
   replace h1':=h1' k (by omega)
   replace h2':=h2' k (by omega)
   dsimp only [fr]at h1' h2'
   show FX24 _ _ _ _=_
   unfold FX24 B24
   simp only [fr,cnd_eq_if,bind_some_,if_true,if_false,ne_eq,not_true_eq_false,not_false_eq_true,Bool.not_true,Bool.not_false,Bool.false_eq_true,Int.reduceEq,reduceCtorEq,Bool.not_eq_true',bfalse,ite_not,eq_self,Bool.and_eq_true,Bool.or_eq_true,ite_and_,ite_or_,and_self,decide_true,decide_false,Bool.true_and,Bool.and_true,beq_self_eq_true,decide_eq_true_eq,gt_iff_lt,ge_iff_le,Int.neg_eq_zero,h1',h2',Bool.and_false,Bool.false_and]
  |false=>
   rw [e2]at h2'
   by_cases g1:rck x=0
   ·have e3:rck2 x y=rck y:=if_neg (fun q=>q g1)
    rw [e3]at h3
    by_cases g2:rck y=0
    ·rw [g2]at h3
     obtain⟨K_h1',h1'⟩:=h1'
     obtain⟨K_h2',h2'⟩:=h2'
     obtain⟨K_h3,h3⟩:=h3
     obtain⟨K_h4,h4⟩:=h4
     refine⟨K_h1'+K_h2'+K_h3+K_h4,fun k hk=>?_⟩
     replace h1':=h1' k (by omega)
     replace h2':=h2' k (by omega)
     replace h3:=h3 k (by omega)
     replace h4:=h4 k (by omega)
     dsimp only [fr]at h1' h2' h3 h4
     show FX24 _ _ _ _=_
     unfold FX24 B24
     simp only [fr,cnd_eq_if,bind_some_,if_true,if_false,ne_eq,not_true_eq_false,not_false_eq_true,Bool.not_true,Bool.not_false,Bool.false_eq_true,Int.reduceEq,reduceCtorEq,Bool.not_eq_true',bfalse,ite_not,eq_self,Bool.and_eq_true,Bool.or_eq_true,ite_and_,ite_or_,and_self,decide_true,decide_false,Bool.true_and,Bool.and_true,beq_self_eq_true,decide_eq_true_eq,gt_iff_lt,ge_iff_le,Int.neg_eq_zero,h1',h2',h3,h4,g1,g2]
    ·obtain⟨K_h1',h1'⟩:=h1'
     obtain⟨K_h2',h2'⟩:=h2'
     obtain⟨K_h3,h3⟩:=h3
     obtain⟨K_h4,h4⟩:=h4
     refine⟨K_h1'+K_h2'+K_h3+K_h4,fun k hk=>?_⟩
     replace h1':=h1' k (by omega)
     replace h2':=h2' k (by omega)
     replace h3:=h3 k (by omega)
     replace h4:=h4 k (by omega)
     dsimp only [fr]at h1' h2' h3 h4
     show FX24 _ _ _ _=_
     unfold FX24 B24
     simp only [fr,cnd_eq_if,bind_some_,if_true,if_false,ne_eq,not_true_eq_false,not_false_eq_true,Bool.not_true,Bool.not_false,Bool.false_eq_true,Int.reduceEq,reduceCtorEq,Bool.not_eq_true',bfalse,ite_not,eq_self,Bool.and_eq_true,Bool.or_eq_true,ite_and_,ite_or_,and_self,decide_true,decide_false,Bool.true_and,Bool.and_true,beq_self_eq_true,decide_eq_true_eq,gt_iff_lt,ge_iff_le,Int.neg_eq_zero,h1',h2',h3,h4,g1,g2,Bool.and_false,Bool.false_and]
   ·have e3:rck2 x y=rck x:=if_pos g1
    rw [e3]at h3
    obtain⟨K_h1',h1'⟩:=h1'
    obtain⟨K_h2',h2'⟩:=h2'
    obtain⟨K_h3,h3⟩:=h3
    obtain⟨K_h4,h4⟩:=h4
    refine⟨K_h1'+K_h2'+K_h3+K_h4,fun k hk=>?_⟩
    replace h1':=h1' k (by omega)
    replace h2':=h2' k (by omega)
    replace h3:=h3 k (by omega)
    replace h4:=h4 k (by omega)
    dsimp only [fr]at h1' h2' h3 h4
    show FX24 _ _ _ _=_
    unfold FX24 B24
    simp only [fr,cnd_eq_if,bind_some_,if_true,if_false,ne_eq,not_true_eq_false,not_false_eq_true,Bool.not_true,Bool.not_false,Bool.false_eq_true,Int.reduceEq,reduceCtorEq,Bool.not_eq_true',bfalse,ite_not,eq_self,Bool.and_eq_true,Bool.or_eq_true,ite_and_,ite_or_,and_self,decide_true,decide_false,Bool.true_and,Bool.and_true,beq_self_eq_true,decide_eq_true_eq,gt_iff_lt,ge_iff_le,Int.neg_eq_zero,h1',h2',h3,h4,g1,Bool.and_false,Bool.false_and]
theorem fine_true {x y z:FV} (h:fine x y z=true):∃a b c:Rat,x=fr a∧y=fr b∧z=fr c∧Sm 30 a∧Sm 30 b∧Sm 30 c:=by
 unfold fine lng at h
 simp only [Bool.and_eq_true,Bool.not_eq_true',decide_eq_false_iff_not,decide_eq_true_eq,not_or]at h
 obtain⟨⟨⟨⟨l1,l2⟩,r1⟩,r2⟩,r3⟩:=h
 obtain⟨a,rfl,ha⟩:=rck_zero r1
 obtain⟨b,rfl,hb⟩:=rck_zero r2
 obtain⟨c,rfl,hc⟩:=rck_zero r3
 exact⟨a,b,c,rfl,rfl,rfl,⟨Nat.not_lt.1 l1.1,Nat.not_lt.1 l1.2.1⟩,⟨Nat.not_lt.1 l1.2.2.1,Nat.not_lt.1 l1.2.2.2⟩,⟨Nat.not_lt.1 l2.1,Nat.not_lt.1 l2.2.1⟩⟩
theorem withNeg_ok {x:FV} {q:Rat} (h:rck x=0) (ho:Ev (fun k=>FX80 k [x]) ((fr q).1,(fr q).2,0)):Ev (fun k=>FX55Neg k [x]) (rbnd q):=by
 obtain⟨K1,h1⟩:=rCk_ev x
 obtain⟨K3,h5⟩:=ho
 obtain⟨K4,h4⟩:=rfit_ev q
 refine⟨K1+K3+K4+3,fun k hk=>?_⟩
 obtain⟨m,rfl⟩:∃m,k=m+3:=⟨k-3,by omega⟩
 have g1:=h1 (m+2) (by omega)
 have g3:=h5 (m+1) (by omega)
 have g4:FX113 (m+1) ((fr q).1,(fr q).2)=some (rbnd q):=h4 (m+1) (by omega)
 dsimp only at g1 g3
 rw [h]at g1
 show GX55Negl0 (m+2+1) [x] [x] (([x]:List FV).length:Int) 0 _=_
 rw [GX55Negl0];unfold B55Negl0
 simp only [rdOf_0,len1,wrap01,Int.reduceLT,Int.reduceLE,Int.le_refl,bind_some_,if_true,ne_eq,g1,not_true_eq_false,if_false]
 show GX55Negl0 (m+1+1) [x] [x] 1 1 _=_
 rw [GX55Negl0];unfold B55Negl0
 rw [if_neg (by decide),g3,bind_some_]
 simp only [ne_eq,not_true_eq_false,if_false,g4,bind_some_]
theorem rNeg_ev {a:Rat} (ha:Sm 1024 a):Ev (fun k=>FX32 k (fr a)) (okv (-a)):=by
 have h1:=Neg_ev a
 have ho:Ev (fun k=>FX80 k [fr a]) ((fr (-a)).1,(fr (-a)).2,0):=by
  obtain⟨K_h1,h1⟩:=h1
  refine⟨K_h1,fun k hk=>?_⟩
  replace h1:=h1 k (by omega)
  dsimp only [fr]at h1
  show FX80 _ _=_
  unfold FX80 B80
  simp only [fr,cnd_eq_if,bind_some_,if_true,if_false,ne_eq,not_true_eq_false,not_false_eq_true,Bool.not_true,Bool.not_false,Bool.false_eq_true,Int.reduceEq,reduceCtorEq,Bool.not_eq_true',bfalse,ite_not,eq_self,Bool.and_eq_true,Bool.or_eq_true,ite_and_,ite_or_,and_self,decide_true,decide_false,Bool.true_and,Bool.and_true,beq_self_eq_true,decide_eq_true_eq,gt_iff_lt,ge_iff_le,Int.neg_eq_zero,h1,rdOf_0,len1,Int.reduceLT,Int.reduceLE,Int.le_refl]
 have h2:=withNeg_ok (rck_fr ha) ho
 rw [rbnd_ok ha.neg]at h2
 obtain⟨K_h2,h2⟩:=h2
 refine⟨K_h2,fun k hk=>?_⟩
 replace h2:=h2 k (by omega)
 dsimp only [fr]at h2
 show FX32 _ _=_
 unfold FX32 B32
 simp only [fr,cnd_eq_if,bind_some_,if_true,if_false,ne_eq,not_true_eq_false,not_false_eq_true,Bool.not_true,Bool.not_false,Bool.false_eq_true,Int.reduceEq,reduceCtorEq,Bool.not_eq_true',bfalse,ite_not,eq_self,Bool.and_eq_true,Bool.or_eq_true,ite_and_,ite_or_,and_self,decide_true,decide_false,Bool.true_and,Bool.and_true,beq_self_eq_true,decide_eq_true_eq,gt_iff_lt,ge_iff_le,Int.neg_eq_zero,h2,okv]
theorem rSign_ev {a:Rat} (ha:Sm 1024 a):Ev (fun k=>FX31 k (fr a)) (sgn a.num,0):=by
 have h1:=rCk_ev (fr a)
 have h2:=Sign_ev a
 rw [rck_fr ha]at h1
 obtain⟨K_h1,h1⟩:=h1
 obtain⟨K_h2,h2⟩:=h2
 refine⟨K_h1+K_h2,fun k hk=>?_⟩
 replace h1:=h1 k (by omega)
 replace h2:=h2 k (by omega)
 dsimp only [fr]at h1 h2
 show FX31 _ _=_
 unfold FX31 B31
 simp only [fr,cnd_eq_if,bind_some_,if_true,if_false,ne_eq,not_true_eq_false,not_false_eq_true,Bool.not_true,Bool.not_false,Bool.false_eq_true,Int.reduceEq,reduceCtorEq,Bool.not_eq_true',bfalse,ite_not,eq_self,Bool.and_eq_true,Bool.or_eq_true,ite_and_,ite_or_,and_self,decide_true,decide_false,Bool.true_and,Bool.and_true,beq_self_eq_true,decide_eq_true_eq,gt_iff_lt,ge_iff_le,Int.neg_eq_zero,h1,h2]
section
variable {a b:Rat}
theorem num_ne (h:a≠0):a.num≠0:=fun e=>h (Rat.num_eq_zero.1 e)
end
def isq (x:Int) (r:Nat):Bool×ByteArray×Bool:=if x<0 then(false,⟨#[]⟩,false)else if r*r=x.natAbs then(false,nat r,true)else(false,⟨#[]⟩,false)
theorem root_size {x:Int} {r:Nat} (hx:(ab x).size≤1024) (h:r^2≤x.natAbs):(nat r).size≤1024:=by
 refine Nat.le_trans (size_mono (Nat.le_trans ?_ h)) hx
 rw [Nat.pow_succ,Nat.pow_one]
 rcases Nat.eq_zero_or_pos r with h0|h0
 ·omega
 ·exact Nat.le_mul_of_pos_left r h0
theorem isq_step {x:Int} {r:Nat} (hs:¬x<0):(if(nat (r*r)).toList=(ab x).toList then some (false,nat r,true)else some (false,(⟨#[]⟩:ByteArray),false))=some (isq x r):=by
 unfold isq
 rw [if_neg hs]
 by_cases h:r*r=x.natAbs
 ·rw [if_pos h,if_pos (by unfold ab;rw [h])]
 ·rw [if_neg h,if_neg (show¬(nat (r*r)).toList=(ab x).toList from fun h2=>h (nat_inj.1 (show nat (r*r)=nat x.natAbs from toList_ext.1 h2)))]
theorem ISqrt_ev {x:Int} (hx:(ab x).size≤1024):∃r,r^2≤x.natAbs∧x.natAbs<(r+1)^2∧Ev (fun k=>exact_IntSqrt.f k (ng x) (ab x)) (isq x r):=by
 obtain⟨s,r1,r2,r3⟩:=NatRoot_ev (n:=x.natAbs) (K:=2) (by decide) (by decide) (Nat.le_trans hx (by decide))
 have hz:=root_size hx r1
 refine⟨s,r1,r2,?_⟩
 by_cases hs:x<0
 ·rw [show isq x s=(false,⟨#[]⟩,false)from if_pos hs]
  exact Ev.congr (fun k=>if_pos (ng_neg hs)) (Ev.now _)
 ·refine Ev.congr (fun k=>if_neg (by rw [ng_pos (by omega)];exact Bool.false_ne_true)) (Ev.bind r3 (Ev.bind (NatMul_ev (Nat.le_trans hz (by decide)) (Nat.le_trans hz (by decide))) (Ev.congr (fun k=>isq_step hs) (Ev.now _))))
theorem ISqrtD_ev {d:Nat} (hx:(nat d).size≤1024):∃r,r^2≤d∧d<(r+1)^2∧Ev (fun k=>exact_IntSqrt.f k false (nat d)) (isq (d:Int) r):=by
 have h:=ISqrt_ev (x:=(d:Int)) (by rw [ab_nat];exact hx)
 rwa [ng_nat,ab_nat,Int.natAbs_natCast]at h
theorem Sqrt_ok {a:Rat} {p q:Nat} (h1:Ev (fun k=>exact_IntSqrt.f k (ng a.num) (ab a.num)) (false,nat p,true)) (h2:Ev (fun k=>exact_IntSqrt.f k false (nat a.den)) (false,nat q,true)):
  Ev (fun k=>FX54 k (fr a)) ((false,nat p),nat q,true):=by
 obtain⟨K_h1,h1⟩:=h1
 obtain⟨K_h2,h2⟩:=h2
 refine⟨K_h1+K_h2,fun k hk=>?_⟩
 replace h1:=h1 k (by omega)
 replace h2:=h2 k (by omega)
 dsimp only [fr]at h1 h2
 show FX54 _ _=_
 unfold FX54 B54
 simp only [fr,FX111,cnd_eq_if,bind_some_,if_true,if_false,ne_eq,not_true_eq_false,not_false_eq_true,Bool.not_true,Bool.not_false,Bool.false_eq_true,Int.reduceEq,reduceCtorEq,Bool.not_eq_true',bfalse,ite_not,eq_self,Bool.and_eq_true,Bool.or_eq_true,ite_and_,ite_or_,and_self,decide_true,decide_false,Bool.true_and,Bool.and_true,beq_self_eq_true,decide_eq_true_eq,gt_iff_lt,ge_iff_le,Int.neg_eq_zero,h1,h2]
theorem rIsSquare_ok {a:Rat} {z:FV} (ha:Sm 1024 a) (h:Ev (fun k=>FX54 k (fr a)) (z.1,z.2,true)):Ev (fun k=>FX14 k (fr a)) (z.1,z.2,true,0):=by
 have h1:=rCk_ev (fr a)
 rw [rck_fr ha]at h1
 obtain⟨K_h1,h1⟩:=h1
 obtain⟨K_h,h⟩:=h
 refine⟨K_h1+K_h,fun k hk=>?_⟩
 replace h1:=h1 k (by omega)
 replace h:=h k (by omega)
 dsimp only [fr]at h1 h
 show FX14 _ _=_
 unfold FX14 B14
 simp only [fr,cnd_eq_if,bind_some_,if_true,if_false,ne_eq,not_true_eq_false,not_false_eq_true,Bool.not_true,Bool.not_false,Bool.false_eq_true,Int.reduceEq,reduceCtorEq,Bool.not_eq_true',bfalse,ite_not,eq_self,Bool.and_eq_true,Bool.or_eq_true,ite_and_,ite_or_,and_self,decide_true,decide_false,Bool.true_and,Bool.and_true,beq_self_eq_true,decide_eq_true_eq,gt_iff_lt,ge_iff_le,Int.neg_eq_zero,h1,h]
theorem sq_root {n r:Nat} (h1:r^2≤n^2) (h2:n^2<(r+1)^2):r=n:=root_unique h1 h2 (Nat.le_refl _) (Nat.pow_lt_pow_left (Nat.lt_succ_self n) (by decide))
theorem rIsSquare_sq {a:Rat} (ha:Sm 500 a) (h0:a≠0):∃c:Rat,(c=a∨c= -a)∧sgn c.num=1∧Sm 500 c∧Ev (fun k=>FX14 k (fr (a*a))) ((ng c.num,ab c.num),nat c.den,true,0):=by
 have e:a*a=a^2:=by rw [Rat.pow_succ,Rat.pow_one]
 have s2:Sm 1024 (a*a):=(ha.mul ha).mono (by decide)
 have hn:=num_ne h0
 rw [e]at s2⊢
 obtain⟨r,r1,r2,r3⟩:=ISqrt_ev s2.1
 obtain⟨s,s1,s2_,s3⟩:=ISqrtD_ev s2.2
 rw [show(a^2).num=a.num^2 from rfl,Int.natAbs_pow]at r1 r2
 rw [show(a^2).den=a.den^2 from rfl]at s1 s2_
 obtain rfl:=sq_root r1 r2
 obtain rfl:=sq_root s1 s2_
 have i1:isq (a^2).num a.num.natAbs=(false,nat a.num.natAbs,true):=by
  have g:¬a.num^2<0:=by
   have:=Int.natAbs_mul_self (a:=a.num)
   rw [show a.num^2=a.num*a.num by rw [Int.pow_succ,Int.pow_one]]
   omega
  show isq (a.num^2) _=_
  unfold isq
  rw [if_neg g,if_pos (by rw [Int.natAbs_pow,Nat.pow_succ,Nat.pow_one])]
 have i2:isq ((a^2).den:Int) a.den=(false,nat a.den,true):=by
  show isq ((a.den^2:Nat):Int) _=_
  unfold isq
  rw [if_neg (by omega),if_pos (by rw [Int.natAbs_natCast,Nat.pow_succ,Nat.pow_one])]
 rw [i1]at r3
 rw [i2]at s3
 have h:=rIsSquare_ok (z:=((false,nat a.num.natAbs),nat a.den)) s2 (Sqrt_ok r3 s3)
 rcases Int.lt_or_gt_of_ne hn with g|g
 ·refine⟨-a,Or.inr rfl,?_,ha.neg,?_⟩
  ·unfold sgn;rw [Rat.neg_num,if_neg (by omega),if_neg (by omega)]
  ·rw [Rat.neg_num,ng_pos (by omega),ab_neg];exact h
 ·refine⟨a,Or.inl rfl,?_,ha,?_⟩
  ·unfold sgn;rw [if_neg (by omega),if_neg (by omega)]
  ·rw [ng_pos (by omega)];exact h
theorem Sm.pow {a:Rat} {n:Nat} (h:Sm n a):∀e:Nat,Sm (n*e+1) (a^e)
 |0=>by rw [Rat.pow_zero];exact(show Sm 1 1 from⟨by decide +kernel,by decide +kernel⟩).mono (by omega)
 |e+1=>by
  rw [Rat.pow_succ]
  refine(Sm.mul (Sm.pow h e) h).mono ?_
  rw [Nat.mul_succ];omega
theorem pow_zero_ {a:Rat}:∀{e:Nat},a^e=0→a=0
 |0,h=>by rw [Rat.pow_zero]at h;exact absurd h (by decide)
 |e+1,h=>by
  rw [Rat.pow_succ]at h
  rcases Rat.mul_eq_zero.1 h with g|g
  ·exact pow_zero_ g
  ·exact g
theorem inv_pow_ (a:Rat):∀e:Nat,a⁻¹^e=(a^e)⁻¹
 |0=>by rw [Rat.pow_zero,Rat.pow_zero];decide +kernel
 |e+1=>by rw [Rat.pow_succ,Rat.pow_succ,inv_pow_ a e,Rat.inv_mul_rev,Rat.mul_comm]
theorem Sm.zpow {a:Rat} {n:Nat} (h:Sm n a) (h0:a≠0) (j:Int):Sm (n*j.natAbs+1) (a^j):=by
 rcases Int.lt_or_le j 0 with g|g
 ·obtain⟨e,rfl⟩:∃e:Nat,j= -(e:Int):=⟨j.natAbs,by omega⟩
  rw [Rat.zpow_neg,Rat.zpow_natCast,Int.natAbs_neg,Int.natAbs_natCast]
  exact(h.pow e).inv (fun hz=>h0 (pow_zero_ hz))
 ·obtain⟨e,rfl⟩:∃e:Nat,j=(e:Int):=⟨j.natAbs,by omega⟩
  rw [Rat.zpow_natCast,Int.natAbs_natCast]
  exact h.pow e
theorem rPowZ {a:Rat} {j:Int} (ha:Sm 30 a) (h0:a≠0) (h1: -18≤j) (h2:j≤18):Ev (fun k=>FX15 k (fr a) j) (okv (a^j)):=by
 have hs:Sm 1024 (a^j):=(ha.zpow h0 j).mono (by omega)
 rw [←rbnd_ok hs]
 rcases Int.lt_or_le j 0 with g|g
 ·obtain⟨e,rfl⟩:∃e:Nat,j= -(e:Int):=⟨j.natAbs,by omega⟩
  rw [Rat.zpow_neg,Rat.zpow_natCast,←inv_pow_]
  exact rPow_neg (ha.mono (by decide)) h0 (by omega) (by omega)
 ·obtain⟨e,rfl⟩:∃e:Nat,j=(e:Int):=⟨j.natAbs,by omega⟩
  rw [Rat.zpow_natCast]
  exact rPow_ev (ha.mono (by decide)) (by omega)
theorem tm10 (x:Int): -9≤Int.tmod x 10∧Int.tmod x 10≤9:=by
 have h:=Int.natAbs_tmod x 10
 have h2:x.natAbs%(10:Int).natAbs<10:=Nat.mod_lt _ (by decide)
 omega
theorem powers_ev (x:FV) (m n:Int) (hm:wrap64 m=m) (hn:wrap64 n=n):Ev (fun k=>FX5 k x m n) true:=by
 have aw:=awake_ev
 have hf:=fine_ev x x x
 cases hc:fine x x x with
 |false=>
  rw [hc]at hf
  obtain⟨K_aw,aw⟩:=aw
  obtain⟨K_hf,hf⟩:=hf
  refine⟨K_aw+K_hf,fun k hk=>?_⟩
  replace aw:=aw k (by omega)
  replace hf:=hf k (by omega)
  dsimp only [fr]at aw hf
  show FX5 _ _ _ _=_
  unfold FX5 B5
  simp only [fr,cnd_eq_if,bind_some_,if_true,if_false,ne_eq,not_true_eq_false,not_false_eq_true,Bool.not_true,Bool.not_false,Bool.false_eq_true,Int.reduceEq,reduceCtorEq,Bool.not_eq_true',bfalse,ite_not,eq_self,Bool.and_eq_true,Bool.or_eq_true,ite_and_,ite_or_,and_self,decide_true,decide_false,Bool.true_and,Bool.and_true,beq_self_eq_true,decide_eq_true_eq,gt_iff_lt,ge_iff_le,Int.neg_eq_zero,aw,hf]
 |true=>
  rw [hc]at hf
  obtain⟨a,b,c,rfl,_,_,sa,_,_⟩:=fine_true hc
  by_cases h0:a=0
  ·have f0:(a.num=0)=True:=eq_true (by rw [h0];rfl)
   obtain⟨K_aw,aw⟩:=aw
   obtain⟨K_hf,hf⟩:=hf
   refine⟨K_aw+K_hf,fun k hk=>?_⟩
   replace aw:=aw k (by omega)
   replace hf:=hf k (by omega)
   dsimp only [fr]at aw hf
   show FX5 _ _ _ _=_
   unfold FX5 B5
   simp only [fr,cnd_eq_if,bind_some_,if_true,if_false,ne_eq,not_true_eq_false,not_false_eq_true,Bool.not_true,Bool.not_false,Bool.false_eq_true,Int.reduceEq,reduceCtorEq,Bool.not_eq_true',bfalse,ite_not,eq_self,Bool.and_eq_true,Bool.or_eq_true,ite_and_,ite_or_,and_self,decide_true,decide_false,Bool.true_and,Bool.and_true,beq_self_eq_true,decide_eq_true_eq,gt_iff_lt,ge_iff_le,Int.neg_eq_zero,aw,hf,e_ab,f0]
  ·have f0:=num_ne h0
   have t1:=tm10 m
   have t2:=tm10 n
   have w1:wrap64 (Int.tmod m 10+Int.tmod n 10)=Int.tmod m 10+Int.tmod n 10:=w64 (by omega) (by omega)
   have h1:=rPowZ (j:=Int.tmod m 10) sa h0 (by omega) (by omega)
   have h2:=rPowZ (j:=Int.tmod n 10) sa h0 (by omega) (by omega)
   have h3:=rPowZ (j:=Int.tmod m 10+Int.tmod n 10) sa h0 (by omega) (by omega)
   rw [Rat.zpow_add h0]at h3
   have h4:=mulOk (sa.zpow h0 (Int.tmod m 10)) (sa.zpow h0 (Int.tmod n 10)) (by omega)
   have h5:=mulOk sa sa (by decide)
   obtain⟨c,ce,cs,c5,h6⟩:=rIsSquare_sq (sa.mono (n:=500) (by decide)) h0
   have h7:=rSign_ev (c5.mono (n:=1024) (by decide))
   rw [cs]at h7
   have h8:=rNeg_ev (sa.mono (n:=1024) (by decide))
   rcases ce with rfl|rfl
   ·obtain⟨K_aw,aw⟩:=aw
    obtain⟨K_hf,hf⟩:=hf
    obtain⟨K_h1,h1⟩:=h1
    obtain⟨K_h2,h2⟩:=h2
    obtain⟨K_h3,h3⟩:=h3
    obtain⟨K_h4,h4⟩:=h4
    obtain⟨K_h5,h5⟩:=h5
    obtain⟨K_h6,h6⟩:=h6
    obtain⟨K_h7,h7⟩:=h7
    obtain⟨K_h8,h8⟩:=h8
    refine⟨K_aw+K_hf+K_h1+K_h2+K_h3+K_h4+K_h5+K_h6+K_h7+K_h8,fun k hk=>?_⟩
    replace aw:=aw k (by omega)
    replace hf:=hf k (by omega)
    replace h1:=h1 k (by omega)
    replace h2:=h2 k (by omega)
    replace h3:=h3 k (by omega)
    replace h4:=h4 k (by omega)
    replace h5:=h5 k (by omega)
    replace h6:=h6 k (by omega)
    replace h7:=h7 k (by omega)
    replace h8:=h8 k (by omega)
    dsimp only [fr]at aw hf h1 h2 h3 h4 h5 h6 h7 h8
    show FX5 _ _ _ _=_
    unfold FX5 B5
    simp only [fr,cnd_eq_if,bind_some_,if_true,if_false,ne_eq,not_true_eq_false,not_false_eq_true,Bool.not_true,Bool.not_false,Bool.false_eq_true,Int.reduceEq,reduceCtorEq,Bool.not_eq_true',bfalse,ite_not,eq_self,Bool.and_eq_true,Bool.or_eq_true,ite_and_,ite_or_,and_self,decide_true,decide_false,Bool.true_and,Bool.and_true,beq_self_eq_true,decide_eq_true_eq,gt_iff_lt,ge_iff_le,Int.neg_eq_zero,aw,hf,h1,h2,h3,h4,h5,h6,h7,h8,okv,e_ab,f0,hm,hn,w1]
   ·obtain⟨K_aw,aw⟩:=aw
    obtain⟨K_hf,hf⟩:=hf
    obtain⟨K_h1,h1⟩:=h1
    obtain⟨K_h2,h2⟩:=h2
    obtain⟨K_h3,h3⟩:=h3
    obtain⟨K_h4,h4⟩:=h4
    obtain⟨K_h5,h5⟩:=h5
    obtain⟨K_h6,h6⟩:=h6
    obtain⟨K_h7,h7⟩:=h7
    obtain⟨K_h8,h8⟩:=h8
    refine⟨K_aw+K_hf+K_h1+K_h2+K_h3+K_h4+K_h5+K_h6+K_h7+K_h8,fun k hk=>?_⟩
    replace aw:=aw k (by omega)
    replace hf:=hf k (by omega)
    replace h1:=h1 k (by omega)
    replace h2:=h2 k (by omega)
    replace h3:=h3 k (by omega)
    replace h4:=h4 k (by omega)
    replace h5:=h5 k (by omega)
    replace h6:=h6 k (by omega)
    replace h7:=h7 k (by omega)
    replace h8:=h8 k (by omega)
    dsimp only [fr]at aw hf h1 h2 h3 h4 h5 h6 h7 h8
    show FX5 _ _ _ _=_
    unfold FX5 B5
    simp only [fr,cnd_eq_if,bind_some_,if_true,if_false,ne_eq,not_true_eq_false,not_false_eq_true,Bool.not_true,Bool.not_false,Bool.false_eq_true,Int.reduceEq,reduceCtorEq,Bool.not_eq_true',bfalse,ite_not,eq_self,Bool.and_eq_true,Bool.or_eq_true,ite_and_,ite_or_,and_self,decide_true,decide_false,Bool.true_and,Bool.and_true,beq_self_eq_true,decide_eq_true_eq,gt_iff_lt,ge_iff_le,Int.neg_eq_zero,aw,hf,h1,h2,h3,h4,h5,h6,h7,h8,okv,e_ab,f0,hm,hn,w1,ite_self]
theorem w8 {p:Int} (hp:(Lit.int .i8 p).wf=true):wrap64 p=p:=by
 simp only [Lit.wf,Bool.and_eq_true,decide_eq_true_eq]at hp
 have e1:IntKind.min .i8= -128:=by decide
 have e2:IntKind.max .i8=127:=by decide
 exact w64 (by omega) (by omega)
theorem law5_ev (a0:Bool) (a1 a2:ByteArray) (p q:Int) (hp:(Lit.int .i8 p).wf=true) (hq:(Lit.int .i8 q).wf=true):Ev (fun k=>FX5 k ((a0,a1),a2) p q) true:=powers_ev _ _ _ (w8 hp) (w8 hq)
end Go.Proofs.YtjllholdppjllaaGreatV
namespace Go.Proofs.YtjllholdppjllaaGreatJ
open Go Go.ChangeShapes Go.WideShapes Go.ChangeAt
variable {H:Type} {enc:TypeId×Value→H} {P:Program} {w:World} {base:Nat} {spare:Nat→Bool} {held:Bool}
structure RatTy (P:Program) (t:TypeId) (g0 g1 f0 f1:Field):Prop where
 s:P.underlying t=some (.struct #[g0,g1])
 i:P.underlying g0.type=some (.struct #[f0,f1])
 c:P.cellsOf t=3
 c0:P.cellsOf g0.type=2
 c1:P.cellsOf g1.type=1
 k0:P.cellsOf f0.type=1
 k1:P.cellsOf f1.type=1
 o0:g0.offset=0
 o1:g1.offset=2
 p0:f0.offset=0
 p1:f1.offset=1
variable {t:TypeId} {g0 g1 f0 f1:Field}
theorem open_rat {r:Reach} {b0:Nat} {v:Value} {d:DataW H} {p:List MemPlace} (R:RatTy P t g0 g1 f0 f1)
  (hv:Value.okWide P w r b0 t v) (h:DataW.Trod enc P w base spare held t v d p):
  ∃(v0 v1 v2:Value) (y0 y1 y2:DataW H×List MemPlace) (n m:Nat),v= .agg #[v0,v1,v2]∧d= .agg [.agg [y0.1,y1.1],y2.1]∧p=(y0.2++y1.2)++y2.2∧
   DataW.trod enc P w base spare held n f0.type [v0]=some y0∧DataW.trod enc P w base spare held n f1.type [v1]=some y1∧DataW.trod enc P w base spare held m g1.type [v2]=some y2:=by
 obtain⟨cs,rfl,hsz⟩:=okWide_struct R.s hv
 obtain⟨c0,c1,c2,rfl⟩:=Go.Joins.array3 (hsz.trans R.c)
 obtain⟨fuel,hf⟩:=h
 obtain⟨z0,z1,m,hx,_,h0,h1⟩:=trod_struct2 R.s hf
 rw [R.o0,R.c0]at h0
 rw [R.o1,R.c1]at h1
 obtain⟨y0,y1,n,hz,_,q0,q1⟩:=trod_struct2 R.i h0
 rw [R.p0,R.k0]at q0
 rw [R.p1,R.k1]at q1
 simp only [Prod.mk.injEq]at hx
 refine⟨c0,c1,c2,y0,y1,z1,n,m,rfl,?_,?_,by simpa [Value.cells]using q0,by simpa [Value.cells]using q1,by simpa [Value.cells]using h1⟩
 ·rw [hx.1,hz]
 ·rw [hx.2,hz]
theorem shut_rat {v0 v1 v2:Value} {y0 y1 y2:DataW H×List MemPlace} (R:RatTy P t g0 g1 f0 f1)
  (t0:∃n,DataW.trod enc P w base spare held n f0.type [v0]=some y0) (t1:∃n,DataW.trod enc P w base spare held n f1.type [v1]=some y1) (t2:∃n,DataW.trod enc P w base spare held n g1.type [v2]=some y2):
  DataW.Trod enc P w base spare held t (.agg #[v0,v1,v2]) (.agg [.agg [y0.1,y1.1],y2.1]) ((y0.2++y1.2)++y2.2):=by
 obtain⟨n0,t0⟩:=t0
 obtain⟨n1,t1⟩:=t1
 obtain⟨n2,t2⟩:=t2
 have ti:=trod_struct2_mk (enc:=enc) (w:=w) (base:=base) (spare:=spare) (held:=held) (n:=n0+n1+n2) (cs:=[v0,v1]) R.i (by simp [R.c0])
  (by rw [R.p0,R.k0];simpa using DataW.trod_le (show n0≤n0+n1+n2 by omega) t0) (by rw [R.p1,R.k1];simpa using DataW.trod_le (show n1≤n0+n1+n2 by omega) t1)
 have ts:=trod_struct2_mk (enc:=enc) (w:=w) (base:=base) (spare:=spare) (held:=held) (n:=n0+n1+n2+1) (cs:=[v0,v1,v2]) R.s (by simp [R.c])
  (by rw [R.o0,R.c0];simpa using ti) (by rw [R.o1,R.c1];simpa using DataW.trod_le (show n2≤n0+n1+n2+1 by omega) t2)
 exact⟨_,by simpa [Value.cells]using ts⟩
end Go.Proofs.YtjllholdppjllaaGreatJ
namespace Go.Proofs.YtjllholdppjllaaGreat.Pure
open Go Go.RowKit Go.Proofs.YtjllholdppjllaaGreat.All Go.Proofs.YtjllholdppjllaaGreatN Go.Proofs.YtjllholdppjllaaGreatW.PrintWords Go.Proofs.YtjllholdppjllaaGreatW.PrintLast
theorem RationalPowers (a0:Bool) (a1 a2:ByteArray) (p:Int) (hp:(Lit.int .i8 p).wf=true) (q:Int) (hq:(Lit.int .i8 q).wf=true) (w:World):
    Calls Tryz.prog 5 #[.agg #[.bool a0, .string a1, .string a2], .int .i8 p, .int .i8 q] w fun e w'=>e= .returned (.bool true)∧Below w.heap.size w w':=
  Go.Proofs.YtjllholdppjllaaGreatV.calls5 a0 a1 a2 p q (Go.Proofs.YtjllholdppjllaaGreatV.law5_ev a0 a1 a2 p q hp hq).rounds w
end Go.Proofs.YtjllholdppjllaaGreat.Pure
