/- Part of the proof of the statement RationalRounds: lemmas on the model's steps, Lean functions that say what the program's functions compute, and proofs that the calls do just that. No hypothesis is added. -/
import Derived.Test.YtjllholdppjllaaGreatKRationalRounds4
set_option linter.all false
namespace Go.Proofs.YtjllholdppjllaaGreatN
open Go.RowKit Go.Proofs.YtjllholdppjllaaGreat.All Go.Proofs.YtjllholdppjllaaGreatW.PrintWords Go.Proofs.YtjllholdppjllaaGreatW.PrintLast Go.Proofs.YtjllholdppjllaaGreatW.PrintMore
theorem add_out {x y out:List Int} {i:Nat} {c:Int} (hx:Dig B64 x) (hy:Dig B64 y) (hi:i<x.length) (h:AddOut x y out i c):
  AddOut x y (out.set i ((rd x (i:Int)+rd y (i:Int)+c)%B64)) (i+1) ((rd x (i:Int)+rd y (i:Int)+c)/B64):=by
 obtain⟨hl,hd,hc,hv,hz⟩:=h
 obtain⟨x0,x1⟩:=Dig_rd hx i hi
 obtain⟨y0,y1⟩:=Dig_rd0 (by decide) hy i
 refine⟨by rw [List.length_set];exact hl,Dig_set hd _ (Int.emod_nonneg _ (by decide)) (Int.emod_lt_of_pos _ (by decide)),add_range x0 x1 y0 y1 hc.1 hc.2,?_,fun n hn=>?_⟩
 ·rw [vB_set _ _ _ _ (by clear hv;omega),hz _ (Nat.le_refl _),Int.sub_zero,take_succ,take_succ,Int.pow_succ]
  have e:=Int.emod_add_mul_ediv (rd x (i:Int)+rd y (i:Int)+c) B64
  generalize(rd x (i:Int)+rd y (i:Int)+c)/B64=q at*
  generalize(rd x (i:Int)+rd y (i:Int)+c)%B64=r at*
  have er:r=rd x (i:Int)+rd y (i:Int)+c-B64*q:=by clear hv;omega
  rw [er,Int.mul_sub,Int.mul_add,Int.mul_add,Int.mul_assoc (B64^i) B64 q]
  generalize(B64:Int)^i=P at*
  omega
 ·rw [rd_set_ne _ _ _ _ (by clear hv;omega)]
  exact hz n (by clear hv;omega)
theorem NatAdd_l0 (x y:List Int) (hx:Dig B64 x) (hy:Dig B64 y) (lx:x.length≤1099511627775) (hyx:y.length≤x.length) (n:Nat) (hn:vB B64 x+vB B64 y=n):∀(d i:Nat) (out:List Int) (c:Int),i+d=x.length→AddOut x y out i c→
  Ev (fun k=>exact_NatAdd.l0 k x y out c (x.length:Int) (i:Int)) (nat n):=by
 intro d
 induction d with
 |zero=>
  intro i out c hi h
  have hi:i=x.length:=by omega
  subst hi
  have hl:=h.1
  have c1:(x.length:Int)<(out.length:Int):=by omega
  have c2:x.length<out.length:=by omega
  have c3:out.length≤1099511627776:=by omega
  obtain⟨-,hd,hc,hv,hz⟩:=h
  have hd':Dig B64 (out.set x.length c):=Dig_set hd _ hc.1 (by have:=hc.2;exact Int.lt_of_le_of_lt this (by decide))
  have hv':vB B64 (out.set x.length c)=n:=by
   rw [vB_set _ _ _ _ c2,hz _ (Nat.le_refl _),Int.sub_zero,hv,vB_all _ _ _ (Nat.le_refl _),vB_all _ _ _ hyx,hn]
  have:=pack_ev hd' (by rw [List.length_set];exact c3)
  rw [hv',Int.toNat_natCast]at this
  refine Ev.step (f:=fun k=>(exact_pack.f k (out.set x.length c)).bind fun t=>some t) (fun k=>?_) (Ev.bind this (Ev.now _))
  simp only [exact_NatAdd.l0]
  rw [if_neg (Int.lt_irrefl _),if_pos (Int.natCast_nonneg _),if_pos c1,Int.toNat_natCast]
 |succ d ih=>
  intro i out c hi h
  have hi':i<x.length:=by omega
  have c0:i+1+d=x.length:=by omega
  have c1:(i:Int)<(x.length:Int):=Int.ofNat_lt.2 hi'
  have hl:=h.1
  have c2:(i:Int)<(out.length:Int):=by omega
  have c3:¬(i:Int)<(y.length:Int)→rd y (i:Int)=0:=fun h=>rd_far y i (by omega)
  have e1:wrap64 ((i:Int)+1)=((i+1:Nat):Int):=by clear c3;rw [w64 (by omega) (by omega)];omega
  have hn':=add_out hx hy hi' h
  obtain⟨-,hd,hc, -, -⟩:=h
  obtain⟨x0,x1⟩:=Dig_rd hx i hi'
  obtain⟨y0,y1⟩:=Dig_rd0 (by decide) hy i
  have ea:=add64_eq x0 y0 hc.1 hc.2
  refine Ev.step (f:=fun k=>exact_NatAdd.l0 k x y (out.set i ((rd x (i:Int)+rd y (i:Int)+c)%B64)) ((rd x (i:Int)+rd y (i:Int)+c)/B64) (x.length:Int) ((i+1:Nat):Int)) (fun k=>?_) (ih (i+1) _ _ c0 hn')
  simp only [exact_NatAdd.l0,e1]
  rw [if_pos c1]
  by_cases hy':(i:Int)<(y.length:Int)
  ·rw [if_pos hy',if_pos (Int.natCast_nonneg _),if_pos c1,ea,Option.bind_some,if_pos c2,Int.toNat_natCast]
  ·rw [c3 hy']at ea
   rw [if_neg hy',if_pos (Int.natCast_nonneg _),if_pos c1,ea,Option.bind_some,if_pos c2,Int.toNat_natCast,c3 hy']
theorem NatAdd_j0 {m n:Nat} (hm:(d64 m).length≤1099511627775) (h:(d64 n).length≤(d64 m).length):Ev (fun k=>exact_NatAdd.j0 k (d64 m) (d64 n)) (nat (m+n)):=by
 have e1:wrap64 (((d64 m).length:Int)+1)=(((d64 m).length+1:Nat):Int):=by rw [w64 (by omega) (by omega)];omega
 refine Ev.step (f:=fun k=>exact_NatAdd.l0 k (d64 m) (d64 n) (List.replicate ((d64 m).length+1) 0) 0 ((d64 m).length:Int) ((0:Nat):Int)) (fun k=>?_) (NatAdd_l0 (d64 m) (d64 n) (d64_dig m) (d64_dig n) hm h (m+n) (by rw [d64_val,d64_val,Int.natCast_add]) (d64 m).length 0 _ _ (Nat.zero_add _) ⟨by simp,Dig_replicate (by decide) _,⟨by decide,by decide⟩,?_,fun j _=>rd_replicate _ _⟩)
 ·simp only [exact_NatAdd.j0,e1]
  rw [if_pos (Int.natCast_nonneg _),Int.toNat_natCast,if_pos (by omega)]
  rfl
 ·rw [vB_replicate]
  simp [vB]
theorem NatAdd_ev {m n:Nat} (hm:(nat m).size≤1099511627776) (hn:(nat n).size≤1099511627776):Ev (fun k=>exact_NatAdd.f k (nat m) (nat n)) (nat (m+n)):=by
 have lm:=words_len m
 have ln:=words_len n
 refine Ev.bind (f:=fun k t318=>(exact_words.f k (nat n)).bind fun t321=>(if(t318.length:Int)<(t321.length:Int)then(exact_NatAdd.j0 k t321 t318)else(exact_NatAdd.j0 k t318 t321))) (words_nat hm) (Ev.bind (words_nat hn) ?_)
 by_cases h:((d64 m).length:Int)<((d64 n).length:Int)
 ·refine Ev.congr (f:=fun k=>exact_NatAdd.j0 k (d64 n) (d64 m)) (fun k=>if_pos h) ?_
  rw [Nat.add_comm m n]
  exact NatAdd_j0 (by omega) (by omega)
 ·refine Ev.congr (f:=fun k=>exact_NatAdd.j0 k (d64 m) (d64 n)) (fun k=>if_neg h) ?_
  exact NatAdd_j0 (by omega) (by omega)
def SubOut (x y z:List Int) (i:Nat) (c:Int):Prop:=
 z.length=x.length∧Dig B64 z∧(0≤c∧c≤1)∧vB B64 z+vB B64 (y.take i)=vB B64 x+B64^i*c
theorem sub_out {x y z:List Int} {i:Nat} {c d e:Int} (hi:i<x.length) (h:SubOut x y z i c) (d0:0≤d) (d1:d<B64) (e0:0≤e) (e1:e≤1) (he:d=rd z (i:Int)-rd y (i:Int)-c+B64*e):
  SubOut x y (z.set i d) (i+1) e:=by
 obtain⟨hl,hd,hc,hv⟩:=h
 refine⟨by rw [List.length_set];exact hl,Dig_set hd _ d0 d1,⟨e0,e1⟩,?_⟩
 rw [vB_set _ _ _ _ (by clear hv;omega),take_succ,Int.pow_succ,he]
 have:rd z (i:Int)-rd y (i:Int)-c+B64*e-rd z (i:Int)=B64*e-rd y (i:Int)-c:=by clear hv;omega
 rw [this,Int.mul_sub,Int.mul_sub,Int.mul_assoc (B64^i) B64 e]
 generalize(B64:Int)^i=P at*
 omega
theorem NatSub_l0 (x y:List Int) (hx:Dig B64 x) (hy:Dig B64 y) (lx:x.length≤1099511627775) (hyx:y.length≤x.length) (n:Nat) (hn:vB B64 x=vB B64 y+n):∀(d i:Nat) (z:List Int) (c:Int),i+d=x.length→SubOut x y z i c→
  Ev (fun k=>exact_NatSub.l0 k z y c (x.length:Int) (i:Int)) (nat n):=by
 intro d
 induction d with
 |zero=>
  intro i z c hi h
  have hi:i=x.length:=by omega
  subst hi
  have hl:=h.1
  have c3:z.length≤1099511627776:=by omega
  obtain⟨-,hd,hc,hv⟩:=h
  have hv':vB B64 z=n:=by
   have h1:=vB_lt (by decide) hd
   rw [vB_all _ _ _ hyx,hn]at hv
   rw [hl]at h1
   have h2:c=0∨c=1:=by clear h1 hv;omega
   rcases h2 with rfl|rfl
   ·rw [Int.mul_zero]at hv
    clear h1
    omega
   ·rw [Int.mul_one]at hv
    generalize(B64:Int)^x.length=P at*
    omega
  have:=pack_ev hd c3
  rw [hv',Int.toNat_natCast]at this
  refine Ev.step (f:=fun k=>(exact_pack.f k z).bind fun t=>some t) (fun k=>?_) (Ev.bind this (Ev.now _))
  simp only [exact_NatSub.l0]
  rw [if_neg (Int.lt_irrefl _)]
 |succ d ih=>
  intro i z c hi h
  have hi':i<x.length:=by omega
  have c0:i+1+d=x.length:=by omega
  have hl:=h.1
  have c1:(i:Int)<(x.length:Int):=Int.ofNat_lt.2 hi'
  have c2:(i:Int)<(z.length:Int):=by omega
  have c3:¬(i:Int)<(y.length:Int)→rd y (i:Int)=0:=fun h=>rd_far y i (by omega)
  have e1:wrap64 ((i:Int)+1)=((i+1:Nat):Int):=by clear c3;rw [w64 (by omega) (by omega)];omega
  have h':=h
  obtain⟨-,hd,hc, -⟩:=h
  obtain⟨x0,x1⟩:=Dig_rd hd i (by rw [hl];exact hi')
  obtain⟨y0,y1⟩:=Dig_rd0 (by decide) hy i
  obtain⟨d,e,ea,d0,d1,b0,b1,he⟩:=sub64_eq x0 x1 y0 y1 hc.1 hc.2
  refine Ev.step (f:=fun k=>exact_NatSub.l0 k (z.set i d) y e (x.length:Int) ((i+1:Nat):Int)) (fun k=>?_) (ih (i+1) _ _ c0 (sub_out hi' h' d0 d1 b0 b1 he))
  simp only [exact_NatSub.l0,e1]
  rw [if_pos c1]
  by_cases hy':(i:Int)<(y.length:Int)
  ·rw [if_pos hy',if_pos (Int.natCast_nonneg _),if_pos c2,ea,Option.bind_some,Int.toNat_natCast]
  ·rw [c3 hy']at ea
   rw [if_neg hy',if_pos (Int.natCast_nonneg _),if_pos c2,ea,Option.bind_some,Int.toNat_natCast]
theorem d64_len_mono {m n:Nat} (h:m≤n):(d64 m).length≤(d64 n).length:=dgs_len (Nat.lt_of_le_of_lt h (dgs_lt 18446744073709551614 n))
theorem NatSub_ev {m n:Nat} (hm:(nat m).size≤1099511627776) (h:n≤m):Ev (fun k=>exact_NatSub.f k (nat m) (nat n)) (nat (m-n)):=by
 have lm:=words_len m
 have hn:(nat n).size≤1099511627776:=Nat.le_trans (size_mono h) hm
 refine Ev.bind (f:=fun k t367=>(exact_words.f k (nat n)).bind fun t370=>exact_NatSub.l0 k t367 t370 0 (t367.length:Int) 0) (words_nat hm) (Ev.bind (words_nat hn) ?_)
 exact NatSub_l0 (d64 m) (d64 n) (d64_dig m) (d64_dig n) (by omega) (d64_len_mono h) (m-n) (by rw [d64_val,d64_val];omega) (d64 m).length 0 _ _ (Nat.zero_add _) ⟨rfl,d64_dig m,⟨by decide,by decide⟩,by simp [vB]⟩
theorem NatMul_ev {m n:Nat} (hm:(nat m).size≤1099511627776) (hn:(nat n).size≤1099511627776):Ev (fun k=>exact_NatMul.f k (nat m) (nat n)) (nat (m*n)):=by
 have lm:=words_len m
 have ln:=words_len n
 have hl:(d64 (m*n)).length≤1099511627776:=by
  have h1:=words_len (m*n)
  have h2:=size_mul (m:=m) (n:=n)
  omega
 refine Ev.bind (f:=fun k t422=>(exact_words.f k (nat n)).bind fun t425=>((exact_mulWords.f k t422 t425).bind fun t428=>((exact_pack.f k t428).bind fun t431=>(some t431)))) (words_nat hm) (Ev.bind (f:=fun k t425=>((exact_mulWords.f k (d64 m) t425).bind fun t428=>((exact_pack.f k t428).bind fun t431=>(some t431)))) (words_nat hn) (Ev.bind (f:=fun k t428=>((exact_pack.f k t428).bind fun t431=>(some t431))) (mulWords_d64 (by omega) (by omega)) ?_))
 have:=pack_ev (d64_dig (m*n)) hl
 rw [d64_val,Int.toNat_natCast]at this
 exact Ev.bind this (Ev.now _)
def cmpN (m n:Nat):Int:=if m<n then -1 else if m=n then 0 else 1
def bv (l:List UInt8):Int:=vB 256 (l.map fun b=>(b.toNat:Int)).reverse
theorem bv_cons (a:UInt8) (l:List UInt8):bv (a::l)=bv l+256^l.length*(a.toNat:Int):=by
 unfold bv
 rw [List.map_cons,List.reverse_cons,vB_append]
 simp [vB]
theorem bv_range (l:List UInt8):0≤bv l∧bv l<256^l.length:=by
 have hd:Dig 256 (l.map fun b=>(b.toNat:Int)).reverse:=by
  apply Dig_reverse
  intro x hx
  obtain⟨b,_,rfl⟩:=List.mem_map.1 hx
  have:=b.toNat_lt
  omega
 refine⟨vB_nonneg (by decide) hd,?_⟩
 have:=vB_lt (by decide) hd
 rw [List.length_reverse,List.length_map]at this
 exact this
theorem less_val:∀(x y:List UInt8),x.length=y.length→(Op.bytesLess x y=true↔bv x<bv y)
 | [],[],_=>by simp [Op.bytesLess]
 | [],_::_,h=>by simp at h
 |_::_,[],h=>by simp at h
 |a::x,b::y,h=>by
  have h':x.length=y.length:=by simpa using h
  have ih:=less_val x y h'
  obtain⟨a0,a1⟩:=bv_range x
  obtain⟨b0,b1⟩:=bv_range y
  rw [bv_cons,bv_cons,h']at*
  have hP:(0:Int)<256^y.length:=Int.pow_pos (by decide)
  generalize(256:Int)^y.length=P at*
  simp only [Op.bytesLess,Bool.or_eq_true,Bool.and_eq_true,decide_eq_true_eq,beq_iff_eq,ih]
  have hlt:a<b↔a.toNat<b.toNat:=UInt8.lt_iff_toNat_lt
  have heq:a=b↔a.toNat=b.toNat:=UInt8.toNat_inj.symm
  rw [hlt,heq]
  rcases Nat.lt_trichotomy a.toNat b.toNat with hc|hc|hc
  ·have:P*((a.toNat:Int)+1)≤P*(b.toNat:Int):=Int.mul_le_mul_of_nonneg_left (by omega) (by omega)
   rw [Int.mul_add,Int.mul_one]at this
   constructor
   ·intro _;omega
   ·intro _;exact Or.inl hc
  ·rw [hc]
   constructor
   ·rintro(h| ⟨_,h⟩)
    ·omega
    ·omega
   ·intro h;exact Or.inr ⟨rfl,by omega⟩
  ·have:P*((b.toNat:Int)+1)≤P*(a.toNat:Int):=Int.mul_le_mul_of_nonneg_left (by omega) (by omega)
   rw [Int.mul_add,Int.mul_one]at this
   constructor
   ·rintro(h| ⟨h,_⟩)<;>omega
   ·intro h;omega
theorem bv_bval (s:ByteArray):bv s.toList=bval s:=by
 unfold bv bval bytesOf
 rw [ByteArray.toList_eq]
theorem toList_len (s:ByteArray):s.toList.length=s.size:=by
 rw [ByteArray.toList_eq,data_length]
theorem less_nat {m n:Nat} (h:(nat m).size=(nat n).size):Op.bytesLess (nat m).toList (nat n).toList=decide (m<n):=by
 have:=less_val (nat m).toList (nat n).toList (by rw [toList_len,toList_len,h])
 rw [bv_bval,bv_bval,bval_nat,bval_nat,Int.ofNat_lt]at this
 rw [Bool.eq_iff_iff,this,decide_eq_true_iff]
theorem size_lt {m n:Nat} (h:(nat m).size<(nat n).size):m<n:=by
 rcases Nat.lt_or_ge m n with h1|h1
 ·exact h1
 ·have:=size_mono h1
  omega
theorem NatCmp_ev (m n:Nat):Ev (fun k=>exact_NatCmp.f k (nat m) (nat n)) (cmpN m n):=by
 have hj:∀b:Bool,b=decide (m<n)→Ev (fun k=>exact_NatCmp.j0 k (nat m) (nat n) b) (cmpN m n):=by
  rintro b rfl
  refine Ev.step (f:=fun _=>some (cmpN m n)) (fun k=>?_) (Ev.now _)
  simp only [exact_NatCmp.j0,toList_ext,nat_inj,decide_eq_true_eq,cmpN]
  split
  ·rfl
  ·split<;>rfl
 by_cases h1:(nat m).size<(nat n).size
 ·refine Ev.congr (f:=fun k=>exact_NatCmp.j0 k (nat m) (nat n) true) (fun k=>?_) (hj _ (by simp [size_lt h1]))
  unfold exact_NatCmp.f
  rw [if_pos (by omega)]
 ·by_cases h2:(nat m).size=(nat n).size
  ·refine Ev.congr (f:=fun k=>exact_NatCmp.j0 k (nat m) (nat n) (Op.bytesLess (nat m).toList (nat n).toList)) (fun k=>?_) (hj _ (less_nat h2))
   unfold exact_NatCmp.f
   rw [if_neg (by omega),if_pos (by omega)]
  ·refine Ev.congr (f:=fun k=>exact_NatCmp.j0 k (nat m) (nat n) false) (fun k=>?_) (hj _ (by
    have:n<m:=size_lt (by omega)
    simp;omega))
   unfold exact_NatCmp.f
   rw [if_neg (by omega),if_neg (by omega)]
def chk (s:ByteArray):Int:=if 0<s.size∧bt s 0=0 then 1 else if 1024<s.size then 4 else 0
theorem Check_ev (s:ByteArray):Ev (fun k=>natural_Check.f k s) (chk s):=by
 have hj:∀b:Bool,(b=true↔0<s.size∧bt s 0=0)→Ev (fun k=>natural_Check.j0 k s b) (chk s):=by
  intro b hb
  refine Ev.step (f:=fun _=>some (chk s)) (fun k=>?_) (Ev.now _)
  unfold chk
  simp only [natural_Check.j0]
  by_cases h:b=true
  ·rw [if_pos h,if_pos (hb.1 h)]
  ·rw [if_neg h,if_neg (fun h'=>h (hb.2 h'))]
   by_cases h3:1024<s.size
   ·rw [if_pos (by omega),if_pos h3]
   ·rw [if_neg (by omega),if_neg h3]
 by_cases h:0<s.size
 ·refine Ev.congr (f:=fun k=>natural_Check.j0 k s (bt s 0==0)) (fun k=>?_) (hj _ (by simp [h]))
  unfold natural_Check.f
  rw [if_pos (by omega),if_pos (by omega)]
 ·refine Ev.congr (f:=fun k=>natural_Check.j0 k s false) (fun k=>?_) (hj _ (by simp [h]))
  unfold natural_Check.f
  rw [if_neg (by omega)]
theorem chk_nat {n:Nat} (h:(nat n).size≤1024):chk (nat n)=0:=by
 unfold chk
 rw [if_neg,if_neg (by omega)]
 rintro⟨h1,h2⟩
 rcases nat_wf n with h3|h3
 ·omega
 ·exact h3 h2
theorem chk_zero {s:ByteArray} (h:chk s=0):s=nat (bval s).toNat∧s.size≤1024:=by
 unfold chk at h
 by_cases h1:0<s.size∧bt s 0=0
 ·rw [if_pos h1]at h;omega
 ·rw [if_neg h1]at h
  refine⟨wf_nat ?_,?_⟩
  ·rcases Nat.eq_zero_or_pos s.size with h2|h2
   ·exact Or.inl h2
   ·exact Or.inr (fun h3=>h1 ⟨h2,h3⟩)
  ·rcases Nat.lt_or_ge 1024 s.size with h2|h2
   ·rw [if_pos h2]at h;omega
   ·exact h2
def bnd (n:Nat):ByteArray×Int:=if 1024<(nat n).size then(⟨#[]⟩,4)else(nat n,0)
theorem ev_some {α β:Type} {o:Option α} {f:Nat→α→Option β} {a:α} {r:β} (h:o=some a) (k:Ev (fun n=>f n a) r):Ev (fun n=>o.bind (f n)) r:=by subst h;exact k
theorem number {s:ByteArray} (h:chk s=0):∃n,s=nat n∧(nat n).size≤1024:=by
 obtain⟨h1,h2⟩:=chk_zero h
 exact⟨_,h1,by rw [←h1];exact h2⟩
theorem shl_eq (x:Int) (s:Nat) (hs:s≤64):shl .u64 x (s:Int)=(x*2^s)%18446744073709551616:=by
 unfold shl
 rw [Int.toNat_natCast,u64_mod,show min s IntKind.u64.bits=s from Nat.min_eq_left hs]
theorem shr_eq (x:Int) (s:Nat) (hs:s≤64):shr .u64 x (s:Int)=x/2^s:=by
 unfold shr
 rw [Int.toNat_natCast,show min s IntKind.u64.bits=s from Nat.min_eq_left hs]
theorem norm_word {y:Int} (y0:0<y) (y1:y<B64):∃s:Nat,s≤63∧bits_LeadingZeros64.f y=some (s:Int)∧9223372036854775808≤y*2^s∧y*2^s<18446744073709551616:=by
 have y1':y<18446744073709551616:=y1
 obtain⟨n,rfl⟩:=Int.eq_ofNat_of_zero_le (Int.le_of_lt y0)
 have hn:n<2^64:=by omega
 obtain⟨h1,h2,h3⟩:=Lib.bitLenAux_bounds 64 n hn (by omega)
 have h4:Lib.bitLen n≤64:=Lib.bitLen_le n 64 (by decide) hn
 have e:Lib.bitLenAux 64 n=Lib.bitLen n:=rfl
 rw [e]at h1 h2 h3
 generalize hL:Lib.bitLen n=L at*
 refine⟨64-L,by omega,?_,?_,?_⟩
 ·unfold bits_LeadingZeros64.f bits_Len64.f
  rw [if_pos (by omega),Option.bind_some,Int.toNat_natCast,hL,w64 (by omega) (by omega)]
  congr 1
  omega
 ·have h5:2^(L-1)*2^(64-L)=2^63:=by rw [←Nat.pow_add];congr 1;omega
  have h6:=Nat.mul_le_mul_right (2^(64-L)) h2
  rw [h5]at h6
  have e1:(n:Int)*2^(64-L)=((n*2^(64-L):Nat):Int):=by rw [Int.natCast_mul,Int.natCast_pow];rfl
  rw [e1]
  generalize n*2^(64-L)=M at*
  omega
 ·have h5:2^L*2^(64-L)=2^64:=by rw [←Nat.pow_add];congr 1;omega
  have h6:=Nat.mul_lt_mul_of_pos_right h3 (Nat.two_pow_pos (64-L))
  rw [h5]at h6
  have e1:(n:Int)*2^(64-L)=((n*2^(64-L):Nat):Int):=by rw [Int.natCast_mul,Int.natCast_pow];rfl
  rw [e1]
  generalize n*2^(64-L)=M at*
  omega
def Half (y1 U Q q r:Int):Prop:=Q≤q∧q*y1+r=U∧0≤r∧r<4294967296∧q≤4294967297
theorem half_le {y1 y0 U u q r:Int} (hy:0<y1*4294967296+y0) (he:q*y1+r=U) (h:q*y0≤4294967296*r+u):q≤(U*4294967296+u)/(y1*4294967296+y0):=by
 apply Int.le_ediv_of_mul_le hy
 have:q*(y1*4294967296+y0)=q*y1*4294967296+q*y0:=by rw [Int.mul_add,Int.mul_assoc]
 omega
theorem half_gt {y1 y0 U u q r:Int} (hy:0<y1*4294967296+y0) (he:q*y1+r=U) (h:4294967296*r+u<q*y0):(U*4294967296+u)/(y1*4294967296+y0)≤q-1:=by
 have:(U*4294967296+u)/(y1*4294967296+y0)<q:=by
  apply Int.ediv_lt_of_lt_mul hy
  have:q*(y1*4294967296+y0)=q*y1*4294967296+q*y0:=by rw [Int.mul_add,Int.mul_assoc]
  omega
 omega
theorem half_lt {y1 y0 U u:Int} (hy:0<y1*4294967296+y0) (hU:U<y1*4294967296+y0) (u1:u<4294967296):(U*4294967296+u)/(y1*4294967296+y0)<4294967296:=by
 apply Int.ediv_lt_of_lt_mul hy
 omega
theorem half_start {y1 y0 U u:Int} (h1:2147483648≤y1) (h2:y1<4294967296) (h3:0≤y0) (h4:y0<4294967296) (U0:0≤U) (hU:U<y1*4294967296+y0) (u0:0≤u) (u1:u<4294967296):
  Half y1 U ((U*4294967296+u)/(y1*4294967296+y0)) (U/y1) (U%y1)∧0≤U/y1:=by
 have hy:0<y1*4294967296+y0:=by omega
 have hQ0:0≤(U*4294967296+u)/(y1*4294967296+y0):=Int.ediv_nonneg (by omega) (by omega)
 have hq0:0≤U/y1:=Int.ediv_nonneg U0 (by omega)
 have e:=Int.emod_add_mul_ediv U y1
 have hr:=Int.emod_lt_of_pos U (show 0<y1 by omega)
 have hr0:=Int.emod_nonneg U (show y1≠0 by omega)
 refine⟨⟨?_,by rw [Int.mul_comm];omega,hr0,by omega,?_⟩,hq0⟩
 ·apply Int.le_ediv_of_mul_le (by omega)
  have h5:=Int.ediv_mul_le (U*4294967296+u) (show y1*4294967296+y0≠0 by omega)
  generalize(U*4294967296+u)/(y1*4294967296+y0)=Q at*
  rw [Int.mul_add,←Int.mul_assoc]at h5
  have h6:=Int.mul_nonneg hQ0 h3
  omega
 ·have:U/y1<4294967298:=by
   apply Int.ediv_lt_of_lt_mul (by omega)
   omega
  omega
theorem half_step {y1 y0 U u q r:Int} (h1:2147483648≤y1) (h2:y1<4294967296) (h3:0≤y0) (h4:y0<4294967296) (hU:U<y1*4294967296+y0) (u0:0≤u) (u1:u<4294967296)
  (h:Half y1 U ((U*4294967296+u)/(y1*4294967296+y0)) q r) (ht:4294967296≤q∨4294967296*r+u<q*y0):
  (4294967296≤r+y1→q-1=(U*4294967296+u)/(y1*4294967296+y0))∧(r+y1<4294967296→Half y1 U ((U*4294967296+u)/(y1*4294967296+y0)) (q-1) (r+y1)):=by
 obtain⟨a1,a2,a3,a4,a5⟩:=h
 have hy:0<y1*4294967296+y0:=by omega
 have b1:(U*4294967296+u)/(y1*4294967296+y0)≤q-1:=by
  rcases ht with ht|ht
  ·have:=half_lt hy hU u1
   omega
  ·exact half_gt hy a2 ht
 have b2:(q-1)*y1+(r+y1)=U:=by rw [Int.sub_mul,Int.one_mul];omega
 refine⟨fun h5=>?_,fun h5=>⟨b1,b2,by omega,h5,by omega⟩⟩
 have h6:(q-1)*y0≤4294967296*4294967295:=by
  refine Int.le_trans (Int.mul_le_mul_of_nonneg_right (show q-1≤4294967296 by omega) h3) ?_
  omega
 have b3:=half_le (u:=u) hy b2 (by omega)
 omega
theorem half_done {y1 y0 U u q r:Int} (hy:0<y1*4294967296+y0) (h:Half y1 U ((U*4294967296+u)/(y1*4294967296+y0)) q r) (ht:¬4294967296*r+u<q*y0):q=(U*4294967296+u)/(y1*4294967296+y0):=by
 obtain⟨a1,a2,a3,a4,a5⟩:=h
 have:=half_le (u:=u) hy a2 (by omega)
 omega
theorem half_test {q y0 r u:Int} (q0:0≤q) (q1:q<4294967296) (h3:0≤y0) (h4:y0<4294967296) (r0:0≤r) (r1:r<4294967296) (u0:0≤u) (u1:u<4294967296):
  IntKind.u64.wrap (q*y0)=q*y0∧IntKind.u64.wrap (IntKind.u64.wrap (4294967296*r)+u)=4294967296*r+u:=by
 have h:=mul_range q0 (show q≤4294967295 by omega) h3 (show y0≤4294967295 by omega)
 rw [u64 (x:=4294967296*r) (by omega) (by omega)]
 exact⟨u64 h.1 (by omega),u64 (by omega) (by omega)⟩
theorem div_l1 {y s y1 y0:Int} (h1:2147483648≤y1) (h2:y1<4294967296) (h3:0≤y0) (h4:y0<4294967296) (s0:0≤s) {U u Q1:Int} (U0:0≤U) (hU:U<y1*4294967296+y0) (u0:0≤u) (u1:u<4294967296):∀(d:Nat) (q r:Int),q=(U*4294967296+u)/(y1*4294967296+y0)+d→Half y1 U ((U*4294967296+u)/(y1*4294967296+y0)) q r→
  Ev (fun k=>bits_Div64.l1 k y s y1 y0 u Q1 r U q) (IntKind.u64.wrap ((IntKind.u64.wrap (Q1*4294967296))+((U*4294967296+u)/(y1*4294967296+y0))),shr .u64 (IntKind.u64.wrap ((IntKind.u64.wrap ((IntKind.u64.wrap (U*4294967296))+u))-(IntKind.u64.wrap (((U*4294967296+u)/(y1*4294967296+y0))*y)))) s):=by
 have hy:0<y1*4294967296+y0:=by omega
 have hQ0:0≤(U*4294967296+u)/(y1*4294967296+y0):=Int.ediv_nonneg (by omega) (by omega)
 intro d
 induction d with
 |zero=>
  intro q r hq h
  have hq:q=(U*4294967296+u)/(y1*4294967296+y0):=by omega
  have hq1:=half_lt hy hU u1
  rw [←hq]at hq1
  have ht:¬4294967296*r+u<q*y0:=by
   intro ht
   have:=half_gt (u:=u) hy h.2.1 ht
   omega
  obtain⟨e1,e2⟩:=half_test (show 0≤q by omega) hq1 h3 h4 h.2.2.1 h.2.2.2.1 u0 u1
  have c1:¬q≥4294967296:=by omega
  rw [←hq]
  refine Ev.step (f:=fun k=>bits_Div64.j4 k y s y1 y0 u Q1 r U q false) (fun k=>?_) (Ev.step (f:=fun _=>some _) (fun k=>?_) (Ev.now _))
  ·simp only [bits_Div64.l1]
   rw [if_neg c1,e1,e2,decide_eq_false ht]
  ·simp only [bits_Div64.j4]
   rw [if_neg Bool.false_ne_true,if_pos s0]
 |succ d ih=>
  intro q r hq h
  have ht:4294967296≤q∨4294967296*r+u<q*y0:=by
   by_cases ht:4294967296*r+u<q*y0
   ·exact Or.inr ht
   ·have:=half_done hy h ht
    omega
  obtain⟨g1,g2⟩:=half_step h1 h2 h3 h4 hU u0 u1 h ht
  have r0:=h.2.2.1
  have r1:=h.2.2.2.1
  have q1:=h.2.2.2.2
  have w1:IntKind.u64.wrap (q-1)=q-1:=u64 (by omega) (by omega)
  have w2:IntKind.u64.wrap (r+y1)=r+y1:=u64 (by omega) (by omega)
  refine Ev.step (f:=fun k=>bits_Div64.j4 k y s y1 y0 u Q1 r U q true) (fun k=>?_) ?_
  ·simp only [bits_Div64.l1]
   by_cases c1:q≥4294967296
   ·rw [if_pos c1]
   ·rw [if_neg c1]
    have ht':4294967296*r+u<q*y0:=by
     rcases ht with ht|ht
     ·exact absurd ht c1
     ·exact ht
    obtain⟨e1,e2⟩:=half_test (show 0≤q by omega) (by omega) h3 h4 r0 r1 u0 u1
    rw [e1,e2,decide_eq_true ht']
  ·by_cases c2:r+y1≥4294967296
   ·refine Ev.step (f:=fun _=>some _) (fun k=>?_) (Ev.now _)
    simp only [bits_Div64.j4]
    rw [if_pos trivial,w1,w2,if_pos c2,if_pos s0,g1 c2]
   ·refine Ev.step (f:=fun k=>bits_Div64.l1 k y s y1 y0 u Q1 (r+y1) U (q-1)) (fun k=>?_) (ih (q-1) (r+y1) (by omega) (g2 (by omega)))
    simp only [bits_Div64.j4]
    rw [if_pos trivial,w1,w2,if_neg c2]
theorem div_l0 {y s y1 y0:Int} (h1:2147483648≤y1) (h2:y1<4294967296) (h3:0≤y0) (h4:y0<4294967296) {U u v:Int} (U0:0≤U) (hU:U<y1*4294967296+y0) (u0:0≤u) (u1:u<4294967296) {R:Int×Int}
  (next:Ev (fun k=>bits_Div64.j2 k y s y1 y0 U u v ((U*4294967296+u)/(y1*4294967296+y0))) R):∀(d:Nat) (q r:Int),q=(U*4294967296+u)/(y1*4294967296+y0)+d→Half y1 U ((U*4294967296+u)/(y1*4294967296+y0)) q r→
  Ev (fun k=>bits_Div64.l0 k y s y1 y0 U u v q r) R:=by
 have hy:0<y1*4294967296+y0:=by omega
 have hQ0:0≤(U*4294967296+u)/(y1*4294967296+y0):=Int.ediv_nonneg (by omega) (by omega)
 intro d
 induction d with
 |zero=>
  intro q r hq h
  have hq:q=(U*4294967296+u)/(y1*4294967296+y0):=by omega
  have hq1:=half_lt hy hU u1
  rw [←hq]at hq1
  have ht:¬4294967296*r+u<q*y0:=by
   intro ht
   have:=half_gt (u:=u) hy h.2.1 ht
   omega
  obtain⟨e1,e2⟩:=half_test (show 0≤q by omega) hq1 h3 h4 h.2.2.1 h.2.2.2.1 u0 u1
  have c1:¬q≥4294967296:=by omega
  rw [←hq]at next
  refine Ev.step (f:=fun k=>bits_Div64.j1 k y s y1 y0 U u v q r false) (fun k=>?_) (Ev.step (f:=fun k=>bits_Div64.j2 k y s y1 y0 U u v q) (fun k=>?_) next)
  ·simp only [bits_Div64.l0]
   rw [if_neg c1,e1,e2,decide_eq_false ht]
  ·simp only [bits_Div64.j1]
   rw [if_neg Bool.false_ne_true]
 |succ d ih=>
  intro q r hq h
  have ht:4294967296≤q∨4294967296*r+u<q*y0:=by
   by_cases ht:4294967296*r+u<q*y0
   ·exact Or.inr ht
   ·have:=half_done hy h ht
    omega
  obtain⟨g1,g2⟩:=half_step h1 h2 h3 h4 hU u0 u1 h ht
  have r0:=h.2.2.1
  have r1:=h.2.2.2.1
  have q1:=h.2.2.2.2
  have w1:IntKind.u64.wrap (q-1)=q-1:=u64 (by omega) (by omega)
  have w2:IntKind.u64.wrap (r+y1)=r+y1:=u64 (by omega) (by omega)
  refine Ev.step (f:=fun k=>bits_Div64.j1 k y s y1 y0 U u v q r true) (fun k=>?_) ?_
  ·simp only [bits_Div64.l0]
   by_cases c1:q≥4294967296
   ·rw [if_pos c1]
   ·rw [if_neg c1]
    have ht':4294967296*r+u<q*y0:=by
     rcases ht with ht|ht
     ·exact absurd ht c1
     ·exact ht
    obtain⟨e1,e2⟩:=half_test (show 0≤q by omega) (by omega) h3 h4 r0 r1 u0 u1
    rw [e1,e2,decide_eq_true ht']
  ·by_cases c2:r+y1≥4294967296
   ·rw [←g1 c2]at next
    refine Ev.step (f:=fun k=>bits_Div64.j2 k y s y1 y0 U u v (q-1)) (fun k=>?_) next
    simp only [bits_Div64.j1]
    rw [if_pos trivial,w1,w2,if_pos c2]
   ·refine Ev.step (f:=fun k=>bits_Div64.l0 k y s y1 y0 U u v (q-1) (r+y1)) (fun k=>?_) (ih (q-1) (r+y1) (by omega) (g2 (by omega)))
    simp only [bits_Div64.j1]
    rw [if_pos trivial,w1,w2,if_neg c2]
theorem div64_ev {h l y:Int} (h0:0≤h) (hy:h<y) (y1:y<B64) (l0:0≤l) (l1:l<B64):Ev (fun k=>bits_Div64.f k h l y) ((h*B64+l)/y,(h*B64+l)%y):=by
 have y1':y<18446744073709551616:=y1
 have l1':l<18446744073709551616:=l1
 show Ev (fun k=>bits_Div64.f k h l y) ((h*18446744073709551616+l)/y,(h*18446744073709551616+l)%y)
 have yp:0<y:=by omega
 by_cases hz:h=0
 ·subst hz
  have hq:l/y<18446744073709551616:=Int.ediv_lt_of_lt_mul yp (by
   have:=Int.mul_le_mul_of_nonneg_left (show 1≤y by omega) (show(0:Int)≤18446744073709551616 by decide)
   omega)
  refine Ev.congr (f:=fun _=>some (l/y,l%y)) (fun k=>?_) (by rw [Int.zero_mul,Int.zero_add];exact Ev.now _)
  unfold bits_Div64.f
  rw [if_neg (by omega),if_neg (by omega),if_pos rfl,Int.tdiv_eq_ediv_of_nonneg l0,Int.tmod_eq_emod_of_nonneg l0,u64 (Int.ediv_nonneg l0 (by omega)) hq]
 ·obtain⟨s,s1,hs,n0,n1⟩:=norm_word yp y1
  have hPR:(2:Int)^s*2^(64-s)=18446744073709551616:=by
   rw [←Int.pow_add]
   have:s+(64-s)=64:=by omega
   rw [this]
   rfl
  have hP:(0:Int)<2^s:=Int.pow_pos (by decide)
  have hR:(0:Int)<2^(64-s):=Int.pow_pos (by decide)
  have e1:IntKind.u64.wrap (s:Int)=(s:Int):=u64 (by omega) (by omega)
  have e2:IntKind.u64.wrap (64-(s:Int))=((64-s:Nat):Int):=by rw [u64 (by omega) (by omega)];omega
  have d1:shl .u64 y (s:Int)=y*2^s:=by rw [shl_eq _ _ (by omega),Int.emod_eq_of_lt (by omega) n1]
  have h2:0≤h*2^s:=Int.mul_nonneg h0 (Int.le_of_lt hP)
  have h3:h*2^s+2^s≤y*2^s:=by
   have:=Int.mul_le_mul_of_nonneg_right (show h+1≤y by omega) (Int.le_of_lt hP)
   rwa [Int.add_mul,Int.one_mul]at this
  have hl0:0≤l/2^(64-s):=Int.ediv_nonneg l0 (Int.le_of_lt hR)
  have hl1:l/2^(64-s)<2^s:=Int.ediv_lt_of_lt_mul hR (by rw [hPR];exact l1')
  have d2:Go.bits .or .u64 (shl .u64 h (s:Int)) (shr .u64 l ((64-s:Nat):Int))=h*2^s+l/2^(64-s):=by
   rw [shl_eq _ _ (by omega),shr_eq _ _ (by omega),Int.emod_eq_of_lt h2 (by omega)]
   exact bits_join .u64 64 (by decide) wraps_u64 s (h*2^s) (l/2^(64-s)) h2 (Int.mul_emod_left _ _) (by show _<(18446744073709551616:Int);omega) hl0 hl1 (by show _<(18446744073709551616:Int);omega)
  have d3:shl .u64 l (s:Int)=(l*2^s)%18446744073709551616:=shl_eq _ _ (by omega)
  have hm:l*2^s=l/2^(64-s)*18446744073709551616+(l*2^s)%18446744073709551616:=by
   have g:=Int.emod_add_mul_ediv l (2^(64-s))
   have g0:=Int.emod_nonneg l (show(2:Int)^(64-s)≠0 by omega)
   have g1:=Int.emod_lt_of_pos l hR
   have g2:l*2^s=l%2^(64-s)*2^s+18446744073709551616*(l/2^(64-s)):=by
    conv=>lhs;rw [←g]
    rw [Int.add_mul,Int.mul_right_comm,Int.mul_comm (2^(64-s)) (2^s),hPR]
   have g3:0≤l%2^(64-s)*2^s:=Int.mul_nonneg g0 (Int.le_of_lt hP)
   have g4:l%2^(64-s)*2^s<18446744073709551616:=by
    have:=Int.mul_lt_mul_of_pos_right g1 hP
    rwa [Int.mul_comm (2^(64-s)) (2^s),hPR]at this
   omega
  obtain⟨U,hU⟩:∃U,U=h*2^s+l/2^(64-s):=⟨_,rfl⟩
  obtain⟨L,hL⟩:∃L,L=(l*2^s)%18446744073709551616:=⟨_,rfl⟩
  obtain⟨Y,hY⟩:∃Y,Y=y*2^s:=⟨_,rfl⟩
  have L0:0≤L:=by rw [hL];exact Int.emod_nonneg _ (by decide)
  have L1:L<18446744073709551616:=by rw [hL];exact Int.emod_lt_of_pos _ (by decide)
  have U0:0≤U:=by omega
  have U1:U<Y:=by omega
  have key:(h*18446744073709551616+l)*2^s=U*18446744073709551616+L:=by
   rw [Int.add_mul,Int.mul_right_comm,hU,hL]
   rw [hm]at*
   omega
  rw [←hU]at d2
  rw [←hL]at d3
  rw [←hY]at d1
  rw [←hY]at n0 n1
  have hPle:(2:Int)^s≤2^s:=Int.le_refl _
  clear hm h3 hl0 hl1 h2 hPR hR
  have hYd:=Int.emod_add_mul_ediv Y 4294967296
  have a1:2147483648≤Y/4294967296:=by omega
  have a2:Y/4294967296<4294967296:=by omega
  have a3:0≤Y%4294967296:=by omega
  have a4:Y%4294967296<4294967296:=by omega
  have aY:Y/4294967296*4294967296+Y%4294967296=Y:=by omega
  have b1:0≤L/4294967296:=by omega
  have b2:L/4294967296<4294967296:=by omega
  have b3:0≤L%4294967296:=by omega
  have b4:L%4294967296<4294967296:=by omega
  have c1:=and_low (x:=Y) (by omega) n1
  have c2:=and_low (x:=L) L0 L1
  obtain⟨f1,f2⟩:=half_start a1 a2 a3 a4 U0 (by rw [aY];exact U1) b1 b2
  have q1:U/(Y/4294967296)<18446744073709551616:=by have:=f1.2.2.2.2;omega
  have w1:IntKind.u64.wrap (Int.tdiv U (Y/4294967296))=U/(Y/4294967296):=by rw [Int.tdiv_eq_ediv_of_nonneg U0,u64 f2 q1]
  have m1:=mul_range f2 (show U/(Y/4294967296)≤4294967297 from f1.2.2.2.2) (show 0≤Y/4294967296 by omega) (show Y/4294967296≤4294967295 by omega)
  have r1:U-U/(Y/4294967296)*(Y/4294967296)=U%(Y/4294967296):=by have:=f1.2.1;omega
  have w2:IntKind.u64.wrap (U/(Y/4294967296)*(Y/4294967296))=U/(Y/4294967296)*(Y/4294967296):=u64 m1.1 (by omega)
  have w3:IntKind.u64.wrap (U%(Y/4294967296))=U%(Y/4294967296):=u64 f1.2.2.1 (by have:=f1.2.2.2.1;omega)
  refine Ev.congr (f:=fun k=>bits_Div64.l0 k Y (s:Int) (Y/4294967296) (Y%4294967296) U (L/4294967296) (L%4294967296) (U/(Y/4294967296)) (U%(Y/4294967296))) (fun k=>?_) ?_
  ·unfold bits_Div64.f
   rw [if_neg (by omega),if_neg (by omega),if_neg hz,hs,Option.bind_some,e1,if_pos (by omega),e2,if_pos (by omega),d1,d2,d3,c1,c2,if_neg (by omega),w1,w2,r1,w3]
  ·obtain⟨d,hd⟩:∃d:Nat,U/(Y/4294967296)=(U*4294967296+L/4294967296)/(Y/4294967296*4294967296+Y%4294967296)+d:=⟨(U/(Y/4294967296)-(U*4294967296+L/4294967296)/(Y/4294967296*4294967296+Y%4294967296)).toNat,by have:=f1.1;omega⟩
   refine div_l0 a1 a2 a3 a4 U0 (by rw [aY];exact U1) b1 b2 ?_ d _ _ hd f1
   clear d hd f1 f2 q1 w1 m1 r1 w2 w3
   rw [aY]
   obtain⟨Q,hQ⟩:∃Q,Q=(U*4294967296+L/4294967296)/Y:=⟨_,rfl⟩
   obtain⟨V,hV⟩:∃V,V=(U*4294967296+L/4294967296)%Y:=⟨_,rfl⟩
   have gQ:=Int.emod_add_mul_ediv (U*4294967296+L/4294967296) Y
   have V0:0≤V:=by rw [hV];exact Int.emod_nonneg _ (by omega)
   have V1:V<Y:=by rw [hV];exact Int.emod_lt_of_pos _ (by omega)
   have Q0:0≤Q:=by rw [hQ];exact Int.ediv_nonneg (by omega) (by omega)
   have Q1:Q<4294967296:=by
    have:=half_lt (y1:=Y/4294967296) (y0:=Y%4294967296) (U:=U) (u:=L/4294967296) (by omega) (by omega) b2
    rwa [aY,←hQ]at this
   rw [←hQ,←hV]at gQ
   rw [←hQ]
   have w4:IntKind.u64.wrap (IntKind.u64.wrap (IntKind.u64.wrap (U*4294967296)+L/4294967296)-IntKind.u64.wrap (Q*Y))=V:=by
    rw [Int.mul_comm Y Q]at gQ
    generalize Q*Y=QY at*
    rw [u64_mod,u64_mod,u64_mod,u64_mod]
    omega
   obtain⟨f1,f2⟩:=half_start a1 a2 a3 a4 V0 (by rw [aY];exact V1) b3 b4
   have q1:V/(Y/4294967296)<18446744073709551616:=by have:=f1.2.2.2.2;omega
   have w1:IntKind.u64.wrap (Int.tdiv V (Y/4294967296))=V/(Y/4294967296):=by rw [Int.tdiv_eq_ediv_of_nonneg V0,u64 f2 q1]
   have m1:=mul_range f2 (show V/(Y/4294967296)≤4294967297 from f1.2.2.2.2) (show 0≤Y/4294967296 by omega) (show Y/4294967296≤4294967295 by omega)
   have r1:V-V/(Y/4294967296)*(Y/4294967296)=V%(Y/4294967296):=by have:=f1.2.1;omega
   have w2:IntKind.u64.wrap (V/(Y/4294967296)*(Y/4294967296))=V/(Y/4294967296)*(Y/4294967296):=u64 m1.1 (by omega)
   have w3:IntKind.u64.wrap (V%(Y/4294967296))=V%(Y/4294967296):=u64 f1.2.2.1 (by have:=f1.2.2.2.1;omega)
   refine Ev.step (f:=fun k=>bits_Div64.l1 k Y (s:Int) (Y/4294967296) (Y%4294967296) (L%4294967296) Q (V%(Y/4294967296)) V (V/(Y/4294967296))) (fun k=>?_) ?_
   ·simp only [bits_Div64.j2]
    rw [if_neg (by omega),w4,w1,w2,r1,w3]
   ·obtain⟨d,hd⟩:∃d:Nat,V/(Y/4294967296)=(V*4294967296+L%4294967296)/(Y/4294967296*4294967296+Y%4294967296)+d:=⟨(V/(Y/4294967296)-(V*4294967296+L%4294967296)/(Y/4294967296*4294967296+Y%4294967296)).toNat,by have:=f1.1;omega⟩
    have fin:=div_l1 (y:=Y) (s:=(s:Int)) a1 a2 a3 a4 (by omega) V0 (by rw [aY];exact V1) b3 b4 (Q1:=Q) d _ _ hd f1
    rw [aY]at fin
    clear d hd f1 f2 q1 w1 m1 r1 w2 w3 w4
    obtain⟨q,hq⟩:∃q,q=(V*4294967296+L%4294967296)/Y:=⟨_,rfl⟩
    obtain⟨v,hv⟩:∃v,v=(V*4294967296+L%4294967296)%Y:=⟨_,rfl⟩
    have gq:=Int.emod_add_mul_ediv (V*4294967296+L%4294967296) Y
    have v0:0≤v:=by rw [hv];exact Int.emod_nonneg _ (by omega)
    have v1:v<Y:=by rw [hv];exact Int.emod_lt_of_pos _ (by omega)
    have q0:0≤q:=by rw [hq];exact Int.ediv_nonneg (by omega) (by omega)
    have q1:q<4294967296:=by
     have:=half_lt (y1:=Y/4294967296) (y0:=Y%4294967296) (U:=V) (u:=L%4294967296) (by omega) (by omega) b4
     rwa [aY,←hq]at this
    rw [←hq,←hv]at gq
    rw [←hq]at fin
    have w5:IntKind.u64.wrap (IntKind.u64.wrap (IntKind.u64.wrap (V*4294967296)+L%4294967296)-IntKind.u64.wrap (q*Y))=v:=by
     rw [Int.mul_comm Y q]at gq
     generalize q*Y=QY at*
     rw [u64_mod,u64_mod,u64_mod,u64_mod]
     omega
    have w6:IntKind.u64.wrap (IntKind.u64.wrap (Q*4294967296)+q)=Q*4294967296+q:=by
     rw [u64 (x:=Q*4294967296) (by omega) (by omega),u64 (by omega) (by omega)]
    rw [w5,w6,shr_eq _ _ (by omega)]at fin
    have hN:(h*18446744073709551616+l)*2^s=(Q*4294967296+q)*Y+v:=by
     rw [key,Int.add_mul,Int.mul_right_comm Q]
     rw [Int.mul_comm Y Q]at gQ
     rw [Int.mul_comm Y q]at gq
     generalize Q*Y=QY at*
     generalize q*Y=qY at*
     omega
    rw [hY,←Int.mul_assoc]at hN
    have hv':v=(h*18446744073709551616+l-(Q*4294967296+q)*y)*2^s:=by rw [Int.sub_mul];omega
    have hv2:v/2^s=h*18446744073709551616+l-(Q*4294967296+q)*y:=by rw [hv',Int.mul_ediv_cancel _ (by omega)]
    have hv3:0≤v/2^s:=Int.ediv_nonneg v0 (by omega)
    have hv4:v/2^s<y:=Int.ediv_lt_of_lt_mul hP (by rw [←hY];exact v1)
    have e:(h*18446744073709551616+l)/y=Q*4294967296+q∧(h*18446744073709551616+l)%y=v/2^s:=by
     have:h*18446744073709551616+l=v/2^s+y*(Q*4294967296+q):=by rw [hv2,Int.mul_comm y];omega
     constructor
     ·rw [this,Int.add_mul_ediv_left _ _ (by omega),Int.ediv_eq_zero_of_lt hv3 hv4,Int.zero_add]
     ·rw [this,Int.add_mul_emod_self_left,Int.emod_eq_of_lt hv3 hv4]
    rw [e.1,e.2]
    exact fin
theorem top_lt {x y:List Int} (hx:Dig B64 x) (hy:Dig B64 y) {i:Nat} (hi:i<x.length) (hi':i<y.length) (hd:vB B64 (x.drop (i+1))=vB B64 (y.drop (i+1))) (h:rd x (i:Int)<rd y (i:Int)):vB B64 x<vB B64 y:=by
 have hB:(0:Int)<B64:=by decide
 have hsx:=vB_split B64 x (i+1) (by omega)
 have hsy:=vB_split B64 y (i+1) (by omega)
 rw [take_succ]at hsx hsy
 have ax:=vB_lt hB (Dig_take hx i)
 rw [List.length_take,Nat.min_eq_left (by omega)]at ax
 have bb:=vB_nonneg (Int.le_of_lt hB) (Dig_take hy i)
 rw [hd]at hsx
 have hP:(0:Int)<B64^i:=Int.pow_pos hB
 rw [hsx,hsy]
 generalize vB B64 (x.take i)=X at*
 generalize vB B64 (y.take i)=Y at*
 generalize B64^(i+1)*vB B64 (y.drop (i+1))=Z at*
 generalize(B64:Int)^i=P at*
 generalize rd x (i:Int)=a at*
 generalize rd y (i:Int)=b at*
 have h1:=Int.mul_le_mul_of_nonneg_left (show a+1≤b by omega) (Int.le_of_lt hP)
 rw [Int.mul_add,Int.mul_one]at h1
 clear hsx hsy hd
 omega
theorem cmp_l0 (x y:List Int) (hx:Dig B64 x) (hy:Dig B64 y) (hl:x.length=y.length) (hs:x.length<9223372036854775808) {m n:Nat} (hm:vB B64 x=m) (hn:vB B64 y=n):∀i:Nat,i≤x.length→vB B64 (x.drop i)=vB B64 (y.drop i)→Ev (fun k=>exact_compareWords.l0 k x y ((i:Int)-1)) (cmpN m n):=by
 have hB:(0:Int)<B64:=by decide
 intro i
 induction i with
 |zero=>
  intro _ hd
  rw [List.drop_zero,List.drop_zero,hm,hn]at hd
  have e:m=n:=by omega
  subst e
  refine Ev.step (f:=fun _=>some 0) (fun k=>?_) (by
   have:cmpN m m=0:=by simp [cmpN]
   rw [this]
   exact Ev.now _)
  simp only [exact_compareWords.l0]
  rw [if_neg (by decide)]
 |succ i ih=>
  intro hi hd
  have e0:((i+1:Nat):Int)-1=(i:Int):=by omega
  have e1:wrap64 ((i:Int)-1)=(i:Int)-1:=w64 (by omega) (by omega)
  have c1:(i:Int)≥0:=by omega
  have c2:(i:Int)<(x.length:Int):=by omega
  have c3:(i:Int)<(y.length:Int):=by omega
  rw [e0]
  by_cases he:rd x (i:Int)=rd y (i:Int)
  ·refine Ev.step (f:=fun k=>exact_compareWords.l0 k x y ((i:Int)-1)) (fun k=>?_) (ih (by omega) ?_)
   ·simp only [exact_compareWords.l0,e1]
    rw [if_pos c1,if_pos c1,if_pos c2,if_pos c3,if_pos he]
   ·rw [List.drop_eq_getElem_cons (show i<x.length by omega),List.drop_eq_getElem_cons (show i<y.length by omega),vB_cons,vB_cons,hd,←rd_get x i (by omega),←rd_get y i (by omega),he]
  ·by_cases hab:rd x (i:Int)<rd y (i:Int)
   ·have h1:=top_lt hx hy (by omega) (by omega) hd hab
    have h2:m<n:=by rw [hm,hn]at h1;omega
    refine Ev.step (f:=fun _=>some (-1)) (fun k=>?_) (by
     have:cmpN m n= -1:=by unfold cmpN;rw [if_pos h2]
     rw [this]
     exact Ev.now _)
    simp only [exact_compareWords.l0,e1]
    rw [if_pos c1,if_pos c1,if_pos c2,if_pos c3,if_neg he,if_pos hab]
   ·have h1:=top_lt hy hx (by omega) (by omega) hd.symm (show rd y (i:Int)<rd x (i:Int)by omega)
    have h2:n<m:=by rw [hm,hn]at h1;omega
    refine Ev.step (f:=fun _=>some 1) (fun k=>?_) (by
     have:cmpN m n=1:=by unfold cmpN;rw [if_neg (by omega),if_neg (by omega)]
     rw [this]
     exact Ev.now _)
    simp only [exact_compareWords.l0,e1]
    rw [if_pos c1,if_pos c1,if_pos c2,if_pos c3,if_neg he,if_neg hab]
theorem compareWords_ev {m n:Nat} (hm:(d64 m).length≤1099511627776) (hn:(d64 n).length≤1099511627776):Ev (fun k=>exact_compareWords.f k (d64 m) (d64 n)) (cmpN m n):=by
 by_cases h1:(d64 m).length=(d64 n).length
 ·have:=cmp_l0 (d64 m) (d64 n) (d64_dig m) (d64_dig n) h1 (by omega) (d64_val m) (d64_val n) (d64 m).length (Nat.le_refl _) (by
   rw [List.drop_of_length_le (Nat.le_refl _),List.drop_of_length_le (by omega)])
  refine Ev.congr (fun k=>?_) this
  unfold exact_compareWords.f
  rw [if_pos (by omega),w64 (by omega) (by omega)]
 ·by_cases h2:(d64 m).length<(d64 n).length
  ·have h3:=trim_len (by decide) (d64_dig m) (d64_dig n) (d64_trim n) h2
   rw [d64_val,d64_val]at h3
   refine Ev.congr (f:=fun _=>some (-1)) (fun k=>?_) (by
    have:cmpN m n= -1:=by unfold cmpN;rw [if_pos (by omega)]
    rw [this]
    exact Ev.now _)
   unfold exact_compareWords.f
   rw [if_neg (by omega),if_pos (by omega)]
  ·have h3:=trim_len (by decide) (d64_dig n) (d64_dig m) (d64_trim m) (by omega)
   rw [d64_val,d64_val]at h3
   refine Ev.congr (f:=fun _=>some 1) (fun k=>?_) (by
    have:cmpN m n=1:=by unfold cmpN;rw [if_neg (by omega),if_neg (by omega)]
    rw [this]
    exact Ev.now _)
   unfold exact_compareWords.f
   rw [if_neg (by omega),if_neg (by omega)]
theorem word_shift {x:Int} (x0:0≤x) (x1:x<B64) (s:Nat) (hs:s≤63):x*2^s=(x*2^s)%B64+B64*(x/2^(64-s))∧0≤x/2^(64-s)∧x/2^(64-s)<2^s∧((x*2^s)%B64)%2^s=0:=by
 have hP:(0:Int)<2^s:=Int.pow_pos (by decide)
 have hR:(0:Int)<2^(64-s):=Int.pow_pos (by decide)
 have hPR:(2:Int)^(64-s)*2^s=B64:=by
  rw [←Int.pow_add]
  have:64-s+s=64:=by omega
  rw [this]
  rfl
 have g:=Int.emod_add_mul_ediv x (2^(64-s))
 have g0:=Int.emod_nonneg x (show(2:Int)^(64-s)≠0 by omega)
 have g1:=Int.emod_lt_of_pos x hR
 have g2:x*2^s=x%2^(64-s)*2^s+B64*(x/2^(64-s)):=by
  conv=>lhs;rw [←g]
  rw [Int.add_mul,Int.mul_right_comm,hPR]
 have g3:0≤x%2^(64-s)*2^s:=Int.mul_nonneg g0 (Int.le_of_lt hP)
 have g4:x%2^(64-s)*2^s<B64:=by
  have:=Int.mul_lt_mul_of_pos_right g1 hP
  rwa [hPR]at this
 have g5:(x*2^s)%B64=x%2^(64-s)*2^s:=by
  rw [g2,Int.add_mul_emod_self_left,Int.emod_eq_of_lt g3 g4]
 refine⟨by rw [g5];exact g2,Int.ediv_nonneg x0 (Int.le_of_lt hR),Int.ediv_lt_of_lt_mul hR (by rw [Int.mul_comm,hPR];exact x1),by rw [g5];exact Int.mul_emod_left _ _⟩
theorem bits_or_comm {x y:Int} (x0:0≤x) (x1:x<2^64) (y0:0≤y) (y1:y<2^64):Go.bits .or .u64 x y=Go.bits .or .u64 y x:=by
 obtain⟨a,rfl⟩:=Int.eq_ofNat_of_zero_le x0
 obtain⟨b,rfl⟩:=Int.eq_ofNat_of_zero_le y0
 have ha:a<2^64:=by omega
 have hb:b<2^64:=by omega
 rw [(bits_nat .u64 64 (by decide) wraps_u64 a b ha hb).2,(bits_nat .u64 64 (by decide) wraps_u64 b a hb ha).2,Nat.or_comm]
theorem bits_join2 (s:Nat) (hs:s≤64) {x y:Int} (x0:0≤x) (x1:x<2^s) (y0:0≤y) (y1:y<B64) (hy:y%2^s=0) (hxy:x+y<B64):Go.bits .or .u64 x y=x+y:=by
 have y1':y<2^64:=by simpa using y1
 have x2:x<2^64:=Int.lt_of_le_of_lt (by omega) hxy
 have:=bits_join .u64 64 (by decide) wraps_u64 s y x y0 hy y1' x0 x1 x2
 rw [Int.add_comm x y,←this]
 exact bits_or_comm x0 x2 y0 y1'
def ShiftOut (w out:List Int) (s i:Nat):Prop:=
 out.length=w.length+1∧Dig B64 out∧vB B64 out=vB B64 (w.take i)*2^s∧(rd out (i:Int)<2^s)∧∀j:Nat,i<j→rd out (j:Int)=0
theorem shift_out {w out:List Int} {s i:Nat} (hs:s≤63) (hw:Dig B64 w) (hi:i<w.length) (h:ShiftOut w out s i):
  ShiftOut w ((out.set i (rd out (i:Int)+(rd w (i:Int)*2^s)%B64)).set (i+1) (rd w (i:Int)/2^(64-s))) s (i+1)∧0≤rd out (i:Int)+(rd w (i:Int)*2^s)%B64∧rd out (i:Int)+(rd w (i:Int)*2^s)%B64<B64:=by
 obtain⟨hl,hd,hv,hr,hz⟩:=h
 obtain⟨x0,x1⟩:=Dig_rd hw i hi
 obtain⟨o0,o1⟩:=Dig_rd hd i (by omega)
 obtain⟨a1,a2,a3,a4⟩:=word_shift x0 x1 s hs
 have hP:(0:Int)<2^s:=Int.pow_pos (by decide)
 have m0:=Int.emod_nonneg (rd w (i:Int)*2^s) (show(B64:Int)≠0 by decide)
 have m1:=Int.emod_lt_of_pos (rd w (i:Int)*2^s) (show(0:Int)<B64 by decide)
 have hsum:rd out (i:Int)+(rd w (i:Int)*2^s)%B64<B64:=by
  obtain⟨c,hc⟩:∃c,c*2^s=B64:=⟨2^(64-s),by
   rw [←Int.pow_add]
   have:64-s+s=64:=by omega
   rw [this]
   rfl⟩
  have h1:=Int.emod_add_mul_ediv ((rd w (i:Int)*2^s)%B64) (2^s)
  rw [a4,Int.zero_add]at h1
  generalize((rd w (i:Int)*2^s)%B64)/2^s=e at*
  generalize(rd w (i:Int)*2^s)%B64=M at*
  rw [←h1,←hc]at m1
  have h2:e<c:=Int.lt_of_mul_lt_mul_right (by rwa [Int.mul_comm (2^s) e]at m1) (Int.le_of_lt hP)
  have h3:=Int.mul_le_mul_of_nonneg_right (show e+1≤c by omega) (Int.le_of_lt hP)
  rw [Int.add_mul,Int.one_mul,hc,Int.mul_comm e]at h3
  omega
 have hsum0:0≤rd out (i:Int)+(rd w (i:Int)*2^s)%B64:=by omega
 have hlt:rd w (i:Int)/2^(64-s)<B64:=by
  have:(2:Int)^s≤2^63:=pow_le_pow (by decide) hs
  have e:(2:Int)^63<B64:=by decide
  exact Int.lt_trans a3 (Int.lt_of_le_of_lt this e)
 refine⟨⟨by rw [List.length_set,List.length_set];exact hl,Dig_set (Dig_set hd _ hsum0 hsum) _ a2 hlt,?_,?_,fun j hj=>?_⟩,hsum0,hsum⟩
 ·have c1:i<out.length:=by omega
  have c2:i+1<(out.set i (rd out (i:Int)+(rd w (i:Int)*2^s)%B64)).length:=by rw [List.length_set];omega
  rw [vB_set _ _ _ _ c2,rd_set_ne _ _ _ _ (by omega),hz (i+1) (by omega),vB_set _ _ _ _ c1,hv,take_succ,Int.pow_succ,Int.sub_zero,Int.add_mul]
  have e1:rd out (i:Int)+rd w (i:Int)*2^s%B64-rd out (i:Int)=rd w (i:Int)*2^s%B64:=by omega
  rw [e1,Int.mul_assoc (B64^i) B64,Int.mul_assoc (B64^i) (rd w (i:Int)),a1,Int.mul_add,Int.add_assoc]
  congr 2
  rw [←a1]
 ·rw [rd_set_self _ _ _ (by rw [List.length_set];omega)]
  exact a3
 ·rw [rd_set_ne _ _ _ _ (by omega),rd_set_ne _ _ _ _ (by omega)]
  exact hz j (by omega)
theorem shiftUp_l0 (w:List Int) (hw:Dig B64 w) (lw:w.length≤1099511627776) (s:Nat) (hs:s≤63):∀(d i:Nat) (out:List Int),i+d=w.length→ShiftOut w out s i→
  ∃r,r.length=w.length+1∧Dig B64 r∧vB B64 r=vB B64 w*2^s∧Ev (fun k=>exact_shiftUp.l0 k (s:Int) out w (w.length:Int) (i:Int)) r:=by
 intro d
 induction d with
 |zero=>
  intro i out hi h
  obtain⟨hl,hd,hv,hr,hz⟩:=h
  have hi:i=w.length:=by omega
  subst hi
  refine⟨out,hl,hd,by rw [hv,vB_all _ _ _ (Nat.le_refl _)],Ev.step (f:=fun _=>some out) (fun k=>?_) (Ev.now _)⟩
  simp only [exact_shiftUp.l0]
  rw [if_neg (Int.lt_irrefl _)]
 |succ d ih=>
  intro i out hi h
  have hi':i<w.length:=by omega
  obtain⟨hn,n0,n1⟩:=shift_out hs hw hi' h
  have hl:=h.1
  have hr:=h.2.2.2.1
  obtain⟨o0,o1⟩:=Dig_rd h.2.1 i (by omega)
  have hz:=h.2.2.2.2 (i+1) (by omega)
  obtain⟨x0,x1⟩:=Dig_rd hw i hi'
  obtain⟨a1,a2,a3,a4⟩:=word_shift x0 x1 s hs
  have m0:=Int.emod_nonneg (rd w (i:Int)*2^s) (show(B64:Int)≠0 by decide)
  have m1:=Int.emod_lt_of_pos (rd w (i:Int)*2^s) (show(0:Int)<B64 by decide)
  have c1:(i:Int)<(w.length:Int):=Int.ofNat_lt.2 hi'
  have c2:(i:Int)<(out.length:Int):=by omega
  have c3:((i+1:Nat):Int)<(out.length:Int):=by omega
  have c4:i+1+d=w.length:=by omega
  obtain⟨r,r1,r2,r3,r4⟩:=ih (i+1) _ c4 hn
  refine⟨r,r1,r2,r3,Ev.step (f:=fun k=>exact_shiftUp.l0 k (s:Int) ((out.set i (rd out (i:Int)+(rd w (i:Int)*2^s)%B64)).set (i+1) (rd w (i:Int)/2^(64-s))) w (w.length:Int) ((i+1:Nat):Int)) (fun k=>?_) r4⟩
  have c5:¬(s:Int)>0→s=0:=by omega
  have g1:Go.bits .or .u64 (rd out (i:Int)) (shl .u64 (rd w (i:Int)) (s:Int))=rd out (i:Int)+(rd w (i:Int)*2^s)%B64:=by
   rw [shl_eq _ _ (by omega)]
   have:=bits_join2 s (by omega) o0 hr m0 m1 a4 n1
   exact this
  have g2:shr .u64 (rd w (i:Int)) ((64-s:Nat):Int)=rd w (i:Int)/2^(64-s):=shr_eq _ _ (by omega)
  have e1:wrap64 ((i:Int)+1)=((i+1:Nat):Int):=by clear a1 g1 g2;rw [w64 (by omega) (by omega)];omega
  have e2:wrap64 (64-(s:Int))=((64-s:Nat):Int):=by clear a1 g1 g2 e1;rw [w64 (by omega) (by omega)];omega
  simp only [exact_shiftUp.l0,e1,e2,g1,g2,Int.toNat_natCast,Option.bind_some]
  rw [if_pos c1,if_pos (Int.natCast_nonneg _),if_pos c1,if_pos c2,if_pos (Int.natCast_nonneg _)]
  by_cases hs0:(s:Int)>0
  ·rw [if_pos hs0,if_pos (Int.natCast_nonneg _),if_pos (Int.natCast_nonneg _),if_pos c3]
  ·rw [if_neg hs0]
   have hs1:=c5 hs0
   subst hs1
   have hq:rd w (i:Int)/2^(64-0)=0:=Int.ediv_eq_zero_of_lt x0 x1
   rw [hq]
   have:=set_eq (out.set i (rd out (i:Int)+(rd w (i:Int)*2^0)%B64)) (i+1) (by rw [List.length_set];clear a1 g1 g2 e1 e2;omega)
   rw [rd_set_ne _ _ _ _ (by clear a1 g1 g2 e1 e2;omega),hz]at this
   rw [this]
theorem shiftUp_ev (w:List Int) (hw:Dig B64 w) (lw:w.length≤1099511627776) (s:Nat) (hs:s≤63):∃r,r.length=w.length+1∧Dig B64 r∧vB B64 r=vB B64 w*2^s∧Ev (fun k=>exact_shiftUp.f k w (s:Int)) r:=by
 obtain⟨r,r1,r2,r3,r4⟩:=shiftUp_l0 w hw lw s hs w.length 0 (List.replicate (w.length+1) 0) (Nat.zero_add _) ⟨by simp,Dig_replicate (by decide) _,by rw [vB_replicate];simp [vB],by rw [rd_replicate];exact Int.pow_pos (by decide),fun j _=>rd_replicate _ _⟩
 refine⟨r,r1,r2,r3,Ev.congr (fun k=>?_) r4⟩
 unfold exact_shiftUp.f
 have e1:wrap64 ((w.length:Int)+1)=((w.length+1:Nat):Int):=by rw [w64 (by omega) (by omega)];omega
 rw [e1,if_pos (Int.natCast_nonneg _),Int.toNat_natCast,if_pos (by omega)]
 rfl
def SubMul (u v z:List Int) (q:Int) (i:Nat) (b c:Int):Prop:=
 z.length=u.length∧Dig B64 z∧(0≤b∧b≤1)∧(0≤c∧c<B64)∧vB B64 z+q*vB B64 (v.take i)=vB B64 u+B64^i*(b+c)
theorem sub_mul {u v z:List Int} {q b c d e:Int} {i:Nat} (hz:i<z.length) (q0:0≤q) (q1:q<B64) (hv:Dig B64 v) (hi:i<v.length) (h:SubMul u v z q i b c) (d0:0≤d) (d1:d<B64) (e0:0≤e) (e1:e≤1)
  (he:d=rd z (i:Int)-(q*rd v (i:Int)+0+c)%B64-b+B64*e):SubMul u v (z.set i d) q (i+1) e ((q*rd v (i:Int)+0+c)/B64):=by
 obtain⟨hl,hd,hb,hc,hs⟩:=h
 obtain⟨y0,y1⟩:=Dig_rd hv i hi
 obtain⟨-, -,n0,n1⟩:=mul_add q0 q1 y0 y1 (Int.le_refl 0) (by decide) hc.1 hc.2
 refine⟨by rw [List.length_set];exact hl,Dig_set hd _ d0 d1,⟨e0,e1⟩,⟨n0,n1⟩,?_⟩
 rw [vB_set _ _ _ _ hz,take_succ,Int.pow_succ,he]
 have g:=Int.emod_add_mul_ediv (q*rd v (i:Int)+0+c) B64
 generalize(q*rd v (i:Int)+0+c)/B64=C at*
 generalize(q*rd v (i:Int)+0+c)%B64=l at*
 have er:l=q*rd v (i:Int)+c-B64*C:=by clear hs;omega
 have e2:rd z (i:Int)-l-b+B64*e-rd z (i:Int)=B64*e+B64*C-q*rd v (i:Int)-c-b:=by clear hs;omega
 rw [e2]
 generalize rd v (i:Int)=y at*
 generalize vB B64 (List.take i v)=T at*
 generalize(B64:Int)^i=P at*
 rw [Int.mul_add q,Int.mul_left_comm q P y,Int.mul_sub,Int.mul_sub,Int.mul_sub,Int.mul_add,Int.mul_assoc P B64,Int.mul_add B64,Int.mul_add P]
 rw [Int.mul_add]at hs
 generalize q*y=qy at*
 generalize P*qy=A at*
 generalize P*(B64*e)=A1 at*
 generalize P*(B64*C)=A2 at*
 generalize P*c=A3 at*
 generalize P*b=A4 at*
 omega
def AddBack (u v z:List Int) (i:Nat) (c:Int):Prop:=
 z.length=u.length∧Dig B64 z∧(0≤c∧c≤1)∧vB B64 z+B64^i*c=vB B64 u+vB B64 (v.take i)
theorem add_back {u v z:List Int} {i:Nat} {c:Int} (hz:i<z.length) (hv:Dig B64 v) (hi:i<v.length) (h:AddBack u v z i c):
  AddBack u v (z.set i ((rd z (i:Int)+rd v (i:Int)+c)%B64)) (i+1) ((rd z (i:Int)+rd v (i:Int)+c)/B64):=by
 obtain⟨hl,hd,hc,hs⟩:=h
 obtain⟨x0,x1⟩:=Dig_rd hd i hz
 obtain⟨y0,y1⟩:=Dig_rd hv i hi
 refine⟨by rw [List.length_set];exact hl,Dig_set hd _ (Int.emod_nonneg _ (by decide)) (Int.emod_lt_of_pos _ (by decide)),add_range x0 x1 y0 y1 hc.1 hc.2,?_⟩
 rw [vB_set _ _ _ _ hz,take_succ,Int.pow_succ]
 have e:=Int.emod_add_mul_ediv (rd z (i:Int)+rd v (i:Int)+c) B64
 generalize(rd z (i:Int)+rd v (i:Int)+c)/B64=q at*
 generalize(rd z (i:Int)+rd v (i:Int)+c)%B64=r at*
 have er:r-rd z (i:Int)=rd v (i:Int)+c-B64*q:=by clear hs;omega
 rw [er,Int.mul_sub,Int.mul_add,Int.mul_assoc (B64^i) B64 q]
 generalize(B64:Int)^i=P at*
 omega
theorem back_last {u v z:List Int} {n:Nat} {c U q:Int} (hn:v.length=n) (hl:u.length=n+1) (h:AddBack u v z n c) (hu:vB B64 u=U-q*vB B64 v+B64^(n+1)) (h0:0≤U-(q-1)*vB B64 v) (h1:U-(q-1)*vB B64 v<B64^(n+1)):
  vB B64 (z.set n (IntKind.u64.wrap (rd z (n:Int)+c)))=U-(q-1)*vB B64 v∧Dig B64 (z.set n (IntKind.u64.wrap (rd z (n:Int)+c))):=by
 obtain⟨hlz,hd,hc,hs⟩:=h
 have hz:n<z.length:=by omega
 obtain⟨x0,x1⟩:=Dig_rd hd n hz
 have hdd:Dig B64 (z.set n (IntKind.u64.wrap (rd z (n:Int)+c))):=Dig_set hd _ (by rw [u64_mod];exact Int.emod_nonneg _ (by decide)) (by rw [u64_mod];exact Int.emod_lt_of_pos _ (by decide))
 refine⟨?_,hdd⟩
 have b0:=vB_nonneg (by decide) hdd
 have b1:=vB_lt (by decide) hdd
 rw [List.length_set,hlz,hl]at b1
 rw [vB_set _ _ _ _ hz]at b0 b1⊢
 rw [vB_all _ _ _ (by rw [hn];exact Nat.le_refl _)]at hs
 rw [u64_mod]at b0 b1⊢
 rw [Int.sub_mul,Int.one_mul]at h0 h1⊢
 have e:=Int.emod_add_mul_ediv (rd z (n:Int)+c) 18446744073709551616
 have x1':rd z (n:Int)<18446744073709551616:=x1
 have he:(rd z (n:Int)+c)/18446744073709551616=0∨(rd z (n:Int)+c)/18446744073709551616=1:=by clear hs hu h0 h1 b0 b1;omega
 have hBB:(B64:Int)^(n+1)=B64^n*18446744073709551616:=Int.pow_succ _ _
 rw [hBB]at hu h1 b1
 clear hBB hdd hd
 generalize(rd z (n:Int)+c)/18446744073709551616=E at*
 generalize(rd z (n:Int)+c)%18446744073709551616=r at*
 have er:r-rd z (n:Int)=c-18446744073709551616*E:=by clear hs hu h0 h1 b0 b1;omega
 rw [er,Int.mul_sub]at b0 b1⊢
 clear er e
 generalize(B64:Int)^n=P at*
 generalize q*vB B64 v=qV at*
 generalize P*c=Pc at*
 rcases he with rfl|rfl
 ·simp only [Int.mul_zero,Int.sub_zero]at b0 b1⊢
  omega
 ·simp only [Int.mul_one]at b0 b1⊢
  omega
theorem step_l2 {u v:List Int} {n:Nat} {q U:Int} (hn:v.length=n) (ln:n≤1099511627776) (hv:Dig B64 v) (hl:u.length=n+1) (hu:vB B64 u=U-q*vB B64 v+B64^(n+1)) (h0:0≤U-(q-1)*vB B64 v) (h1:U-(q-1)*vB B64 v<B64^(n+1)) (q0:1≤q) (q1:q<B64):
  ∀(d i:Nat) (z:List Int) (c:Int),i+d=n→AddBack u v z i c→∃r,r.length=n+1∧Dig B64 r∧vB B64 r=U-(q-1)*vB B64 v∧Ev (fun k=>exact_step.l2 k z v (n:Int) q c (n:Int) (i:Int)) (q-1,r):=by
 intro d
 induction d with
 |zero=>
  intro i z c hi h
  have hi:i=n:=by omega
  subst hi
  obtain⟨g1,g2⟩:=back_last hn hl h hu h0 h1
  have hlz:=h.1
  have c1:(i:Int)<(z.length:Int):=by omega
  have q1':q<18446744073709551616:=q1
  have w1:IntKind.u64.wrap (q-1)=q-1:=by clear hu h0 h1 g1;exact u64 (by omega) (by omega)
  refine⟨_,by rw [List.length_set,hlz,hl],g2,g1,Ev.step (f:=fun _=>some _) (fun k=>?_) (Ev.now _)⟩
  simp only [exact_step.l2,w1]
  rw [if_neg (Int.lt_irrefl _),if_pos (Int.natCast_nonneg _),if_pos c1,Int.toNat_natCast]
 |succ d ih=>
  intro i z c hi h
  have hi':i<n:=by omega
  have hlz:=h.1
  have hiz:i<z.length:=by omega
  have c0:i+1+d=n:=by omega
  have c1:(i:Int)<(n:Int):=by omega
  have c2:(i:Int)<(z.length:Int):=by omega
  have c3:(i:Int)<(v.length:Int):=by omega
  obtain⟨x0,x1⟩:=Dig_rd h.2.1 i hiz
  obtain⟨y0,y1⟩:=Dig_rd hv i (by omega)
  have ea:=add64_eq x0 y0 h.2.2.1.1 h.2.2.1.2
  have e1:wrap64 ((i:Int)+1)=((i+1:Nat):Int):=by clear hu h0 h1;rw [w64 (by omega) (by omega)];omega
  obtain⟨r,r1,r2,r3,r4⟩:=ih (i+1) _ _ c0 (add_back hiz hv (by rw [hn];exact hi') h)
  refine⟨r,r1,r2,r3,Ev.step (fun k=>?_) r4⟩
  simp only [exact_step.l2,e1]
  rw [if_pos c1,if_pos (Int.natCast_nonneg _),if_pos c2,if_pos c3,ea,Option.bind_some,Int.toNat_natCast]
theorem sub_last {u v z:List Int} {n:Nat} {q b c d e:Int} (hn:v.length=n) (hl:u.length=n+1) (h:SubMul u v z q n b c) (d0:0≤d) (d1:d<B64) (e0:0≤e) (e1:e≤1) (he:d=rd z (n:Int)-c-b+B64*e):
  (z.set n d).length=n+1∧Dig B64 (z.set n d)∧vB B64 (z.set n d)=vB B64 u-q*vB B64 v+B64^(n+1)*e:=by
 obtain⟨hlz,hd,hb,hc,hs⟩:=h
 refine⟨by rw [List.length_set,hlz,hl],Dig_set hd _ d0 d1,?_⟩
 rw [vB_set _ _ _ _ (by omega),Int.pow_succ,he]
 rw [vB_all _ _ _ (by rw [hn];exact Nat.le_refl _)]at hs
 have e2:rd z (n:Int)-c-b+B64*e-rd z (n:Int)=B64*e-c-b:=by clear hs;omega
 rw [e2,Int.mul_sub,Int.mul_sub,Int.mul_assoc (B64^n) B64]
 rw [Int.mul_add]at hs
 generalize(B64:Int)^n=P at*
 generalize P*(B64*e)=A1 at*
 generalize P*c=A3 at*
 generalize P*b=A4 at*
 omega
theorem step_l1 {u v:List Int} {n:Nat} {q:Int} (hn:v.length=n) (ln:n≤1099511627776) (hu:Dig B64 u) (hv:Dig B64 v) (hl:u.length=n+1) (hV:0<vB B64 v) (q0:0≤q) (q1:q<B64)
  (hq:vB B64 u/vB B64 v≤q) (hq':q≤vB B64 u/vB B64 v+1):∀(d i:Nat) (z:List Int) (b c:Int),i+d=n→SubMul u v z q i b c→
  ∃r,r.length=n+1∧Dig B64 r∧vB B64 r=vB B64 u%vB B64 v∧Ev (fun k=>exact_step.l1 k z v (n:Int) q b c (n:Int) (i:Int)) (vB B64 u/vB B64 v,r):=by
 have hB:(0:Int)<B64:=by decide
 have hU0:=vB_nonneg (Int.le_of_lt hB) hu
 have hU1:=vB_lt hB hu
 have hV1:=vB_lt hB hv
 rw [hl]at hU1
 rw [hn]at hV1
 have hdm:=Int.emod_add_mul_ediv (vB B64 u) (vB B64 v)
 have hm0:=Int.emod_nonneg (vB B64 u) (show vB B64 v≠0 by omega)
 have hm1:=Int.emod_lt_of_pos (vB B64 u) hV
 have hp:=pow_le_pow hB (show n≤n+1 by omega)
 intro d
 induction d with
 |zero=>
  intro i z b c hi h
  have hi:i=n:=by omega
  subst hi
  have hlz:=h.1
  have c1:(i:Int)<(z.length:Int):=by clear hU1 hV1 hp;omega
  obtain⟨x0,x1⟩:=Dig_rd h.2.1 i (by clear hU1 hV1 hp;omega)
  obtain⟨d,e,ea,d0,d1,b0,b1,he⟩:=sub64_eq x0 x1 h.2.2.2.1.1 h.2.2.2.1.2 h.2.2.1.1 h.2.2.1.2
  obtain⟨g1,g2,g3⟩:=sub_last hn hl h d0 d1 b0 b1 he
  have hcase:e=0∨e=1:=by clear hU1 hV1 hp g3;omega
  rcases hcase with rfl|rfl
  ·rw [Int.mul_zero,Int.add_zero]at g3
   have g4:=vB_nonneg (Int.le_of_lt hB) g2
   rw [g3]at g4
   have hqe:q=vB B64 u/vB B64 v:=by
    have:q≤vB B64 u/vB B64 v:=Int.le_ediv_of_mul_le hV (by clear hU1 hV1 hp;omega)
    clear hU1 hV1 hp;omega
   refine⟨z.set i d,g1,g2,?_,Ev.step (f:=fun _=>some _) (fun k=>?_) (Ev.now _)⟩
   ·rw [g3,hqe]
    rw [Int.mul_comm]at hdm
    generalize vB B64 u/vB B64 v*vB B64 v=A at*
    clear hU1 hV1 hp;omega
   ·simp only [exact_step.l1]
    rw [if_neg (Int.lt_irrefl _),if_pos (Int.natCast_nonneg _),if_pos c1,ea,Option.bind_some,Option.bind_some,if_pos rfl,Int.toNat_natCast,←hqe]
  ·rw [Int.mul_one]at g3
   have g4:=vB_lt hB g2
   rw [g1,g3]at g4
   have hqe:vB B64 u/vB B64 v=q-1:=by
    have:vB B64 u/vB B64 v<q:=Int.ediv_lt_of_lt_mul hV (by
     generalize(B64:Int)^(i+1)=P at*
     omega)
    clear hU1 hV1 hp g4 g3;omega
   have hre:vB B64 u-(q-1)*vB B64 v=vB B64 u%vB B64 v:=by
    rw [hqe,Int.mul_comm]at hdm
    generalize(q-1)*vB B64 v=A at*
    clear hU1 hV1 hp g4 g3;omega
   have hq00:0≤vB B64 u/vB B64 v:=Int.ediv_nonneg hU0 (Int.le_of_lt hV)
   have hq01:1≤q:=by clear hU1 hV1 hp g4 g3;omega
   obtain⟨r,r1,r2,r3,r4⟩:=step_l2 (u:=z.set i d) (U:=vB B64 u) hn ln hv g1 g3 (by rw [hre];exact hm0) (by rw [hre];exact Int.lt_trans hm1 (Int.lt_of_lt_of_le hV1 hp)) hq01 q1 i 0 (z.set i d) 0 (Nat.zero_add _) ⟨rfl,g2,⟨by decide,by decide⟩,by simp [vB]⟩
   refine⟨r,r1,r2,by rw [r3,hre],?_⟩
   rw [hqe]
   refine Ev.step (f:=fun k=>exact_step.l2 k (z.set i d) v (i:Int) q 0 (i:Int) ((0:Nat):Int)) (fun k=>?_) r4
   simp only [exact_step.l1]
   rw [if_neg (Int.lt_irrefl _),if_pos (Int.natCast_nonneg _),if_pos c1,ea,Option.bind_some,Option.bind_some,if_neg (show¬(1:Int)=0 by decide),Int.toNat_natCast]
   rfl
 |succ d ih=>
  intro i z b c hi h
  have hlz:=h.1
  have hi':i<n:=by clear hU1 hV1 hp;omega
  have hiz:i<z.length:=by clear hU1 hV1 hp;omega
  have c0:i+1+d=n:=by clear hU1 hV1 hp;omega
  have c1:(i:Int)<(n:Int):=Int.ofNat_lt.2 hi'
  have c2:(i:Int)<(z.length:Int):=Int.ofNat_lt.2 hiz
  have c3:(i:Int)<(v.length:Int):=by rw [hn];exact c1
  have hiv:i<v.length:=by rw [hn];exact hi'
  obtain⟨x0,x1⟩:=Dig_rd h.2.1 i hiz
  obtain⟨y0,y1⟩:=Dig_rd hv i hiv
  have hc:=h.2.2.2.1
  have hb:=h.2.2.1
  obtain⟨m0,m1,n0,n1⟩:=mul_add q0 q1 y0 y1 (Int.le_refl 0) hB hc.1 hc.2
  have a1:=mul64_eq q0 q1 y0 y1
  have a2:=add64_eq (Int.emod_nonneg (q*rd v (i:Int)) (show(B64:Int)≠0 by decide)) hc.1 (Int.le_refl 0) (by decide)
  have l0:=Int.emod_nonneg (q*rd v (i:Int)+0+c) (show(B64:Int)≠0 by decide)
  have l1:=Int.emod_lt_of_pos (q*rd v (i:Int)+0+c) (show(0:Int)<B64 by decide)
  obtain⟨d,e,ea,d0,d1,b0,b1,he⟩:=sub64_eq x0 x1 l0 l1 hb.1 hb.2
  have e1:wrap64 ((i:Int)+1)=((i+1:Nat):Int):=by clear hU1 hV1 hp a1 a2 m0 m1 ea he hdm;rw [w64 (by omega) (by omega)];omega
  have e2:(q*rd v (i:Int)%B64+c+0)%B64=(q*rd v (i:Int)+0+c)%B64∧IntKind.u64.wrap (q*rd v (i:Int)/B64+(q*rd v (i:Int)%B64+c+0)/B64)=(q*rd v (i:Int)+0+c)/B64:=by
   clear hU1 hV1 hp a1 a2 ea he hdm m0 m1
   have hc2:c<18446744073709551616:=hc.2
   have n0':0≤(q*rd v (i:Int)+0+c)/18446744073709551616:=n0
   have n1':(q*rd v (i:Int)+0+c)/18446744073709551616<18446744073709551616:=n1
   have hc1:=hc.1
   show(q*rd v (i:Int)%18446744073709551616+c+0)%18446744073709551616=(q*rd v (i:Int)+0+c)%18446744073709551616∧IntKind.u64.wrap (q*rd v (i:Int)/18446744073709551616+(q*rd v (i:Int)%18446744073709551616+c+0)/18446744073709551616)=(q*rd v (i:Int)+0+c)/18446744073709551616
   generalize q*rd v (i:Int)=p at*
   have e3:p/18446744073709551616+(p%18446744073709551616+c+0)/18446744073709551616=(p+0+c)/18446744073709551616:=by omega
   rw [e3,u64 n0' n1']
   exact⟨by omega,rfl⟩
  obtain⟨r,r1,r2,r3,r4⟩:=ih (i+1) _ _ _ c0 (sub_mul hiz q0 q1 hv hiv h d0 d1 b0 b1 he)
  refine⟨r,r1,r2,r3,Ev.step (fun k=>?_) r4⟩
  simp only [exact_step.l1,e1]
  rw [if_pos c1,if_pos (Int.natCast_nonneg _),if_pos c3,a1,Option.bind_some,a2,Option.bind_some,if_pos c2,e2.1,ea,Option.bind_some,e2.2,Int.toNat_natCast]
theorem split2 {v:List Int} {n:Nat} (hv:Dig B64 v) (hn:v.length=n+2):∃l,0≤l∧l<B64^n∧vB B64 v=l+B64^n*(rd v (n:Int)+B64*rd v ((n+1:Nat):Int)):=by
 refine⟨vB B64 (v.take n),vB_nonneg (by decide) (Dig_take hv _),?_,?_⟩
 ·have:=vB_lt (by decide) (Dig_take hv n)
  rwa [List.length_take,Nat.min_eq_left (by omega)]at this
 ·have h:=vB_all B64 v (n+1+1) (by omega)
  rw [←h,take_succ,take_succ,Int.pow_succ,Int.mul_add,Int.mul_assoc,Int.add_assoc]
theorem split3 {u:List Int} {n:Nat} (hu:Dig B64 u) (hn:u.length=n+3):∃l,0≤l∧l<B64^n∧vB B64 u=l+B64^n*(rd u (n:Int)+B64*(rd u ((n+1:Nat):Int)+B64*rd u ((n+2:Nat):Int))):=by
 refine⟨vB B64 (u.take n),vB_nonneg (by decide) (Dig_take hu _),?_,?_⟩
 ·have:=vB_lt (by decide) (Dig_take hu n)
  rwa [List.length_take,Nat.min_eq_left (by omega)]at this
 ·have h:=vB_all B64 u (n+1+1+1) (by omega)
  have p1:(B64:Int)^(n+1)=B64^n*B64:=Int.pow_succ _ _
  have p2:(B64:Int)^(n+1+1)=B64^n*B64*B64:=by rw [Int.pow_succ,p1]
  rw [←h,take_succ,take_succ,take_succ,p2,p1,Int.mul_add B64,Int.mul_add (B64^n),Int.mul_add (B64^n),Int.mul_assoc (B64^n) B64 (rd u _),Int.mul_assoc (B64^n*B64) B64,Int.mul_assoc (B64^n) B64 (B64*_)]
  generalize B64^n*rd u (n:Int)=a
  generalize B64^n*(B64*rd u ((n+1:Nat):Int))=b
  generalize B64^n*(B64*(B64*rd u ((n+2:Nat):Int)))=c
  omega
section
theorem guess_le {P lv lu W X q U V:Int} (hP:0<P) (lv0:0≤lv) (lv1:lv<P) (lu0:0≤lu) (hV:V=lv+P*W) (hU:U=lu+P*X) (hW:B64≤W) (q0:0≤q) (q1:q<B64) (h:q*W≤X):q≤U/V+1:=by
 have hV0:0<V:=by
  have:0<P*W:=Int.mul_pos hP (Int.lt_of_lt_of_le (by decide) hW)
  omega
 have h1:q*V<U+V:=by
  have e1:q*V=q*lv+P*(q*W):=by rw [hV,Int.mul_add,Int.mul_left_comm]
  have e2:P*(q*W)≤P*X:=Int.mul_le_mul_of_nonneg_left h (Int.le_of_lt hP)
  have e3:q*lv≤q*P:=Int.mul_le_mul_of_nonneg_left (Int.le_of_lt lv1) q0
  have e4:q*P<B64*P:=Int.mul_lt_mul_of_pos_right q1 hP
  have e5:P*B64≤P*W:=Int.mul_le_mul_of_nonneg_left hW (Int.le_of_lt hP)
  rw [Int.mul_comm B64 P]at e4
  omega
 have h2:(q-1)*V≤U:=by rw [Int.sub_mul,Int.one_mul];omega
 have:=Int.le_ediv_of_mul_le hV0 h2
 omega
theorem guess_gt {P lv lu W X q U V:Int} (hP:0<P) (lv0:0≤lv) (lu1:lu<P) (hV:V=lv+P*W) (hU:U=lu+P*X) (hV0:0<V) (q0:0≤q) (h:X<q*W):U/V≤q-1:=by
 have:U/V<q:=by
  apply Int.ediv_lt_of_lt_mul hV0
  have e1:q*V=q*lv+P*(q*W):=by rw [hV,Int.mul_add,Int.mul_left_comm]
  have e2:P*(X+1)≤P*(q*W):=Int.mul_le_mul_of_nonneg_left (by omega) (Int.le_of_lt hP)
  rw [Int.mul_add,Int.mul_one]at e2
  have e3:0≤q*lv:=Int.mul_nonneg q0 lv0
  omega
 omega
end
theorem l0_pass {u v:List Int} {n:Nat} {q r o:Int} (hn:v.length=n+2) (hl:u.length=n+3) (ew:wrap64 (((n+2:Nat):Int)-2)=((n:Nat):Int)) (q0:0≤q) (q1:q<B64) (w0:0≤rd v (n:Int)) (w1:rd v (n:Int)<B64) (t0:0≤rd u (n:Int)) (t1:rd u (n:Int)<B64)
  (h:o=1∨o=0∧q*rd v (n:Int)≤B64*r+rd u (n:Int)) (k:Nat):exact_step.l0 (k+1) u v ((n+2:Nat):Int) q r o=exact_step.j2 k u v ((n+2:Nat):Int) q:=by
 rcases h with rfl| ⟨rfl,h⟩
 ·simp only [exact_step.l0]
  rw [if_neg (show¬(1:Int)=0 by decide)]
 ·have c1:(n:Int)<(v.length:Int):=by clear h ew;omega
  have c2:(n:Int)<(u.length:Int):=by clear h ew;omega
  have t1':rd u (n:Int)<18446744073709551616:=t1
  have h':q*rd v (n:Int)≤18446744073709551616*r+rd u (n:Int):=h
  have e:=Int.emod_add_mul_ediv (q*rd v (n:Int)) 18446744073709551616
  have m0:=Int.emod_nonneg (q*rd v (n:Int)) (show(18446744073709551616:Int)≠0 by decide)
  have g:q*rd v (n:Int)/18446744073709551616<r∨q*rd v (n:Int)/18446744073709551616=r∧q*rd v (n:Int)%18446744073709551616≤rd u (n:Int):=by clear h ew;omega
  have a1:=mul64_eq q0 q1 w0 w1
  simp only [exact_step.l0,ew]
  rw [if_pos trivial,if_pos (Int.natCast_nonneg _),if_pos c1,a1,Option.bind_some]
  rcases g with g| ⟨g1,g2⟩
  ·rw [if_pos g]
  ·rw [if_neg (show¬q*rd v (n:Int)/18446744073709551616<r by clear h ew;omega),if_pos g1,if_pos c2,if_pos g2]
theorem l0_fail {u v:List Int} {n:Nat} {q r:Int} (hn:v.length=n+2) (hl:u.length=n+3) (ew:wrap64 (((n+2:Nat):Int)-2)=((n:Nat):Int)) (ew1:wrap64 (((n+2:Nat):Int)-1)=((n+1:Nat):Int)) (q0:1≤q) (q1:q<B64) (r0:0≤r) (w0:0≤rd v (n:Int)) (w1:rd v (n:Int)<B64) (t0:0≤rd u (n:Int)) (t1:rd u (n:Int)<B64) (y0:0≤rd v ((n+1:Nat):Int))
  (h:¬q*rd v (n:Int)≤B64*r+rd u (n:Int)) (k:Nat):exact_step.l0 (k+1) u v ((n+2:Nat):Int) q r 0=exact_step.l0 k u v ((n+2:Nat):Int) (q-1) ((r+rd v ((n+1:Nat):Int)+0)%B64) ((r+rd v ((n+1:Nat):Int)+0)/B64):=by
 have c1:(n:Int)<(v.length:Int):=by clear h ew ew1;omega
 have c2:(n:Int)<(u.length:Int):=by clear h ew ew1;omega
 have c3:((n+1:Nat):Int)<(v.length:Int):=by clear h ew ew1;omega
 have t1':rd u (n:Int)<18446744073709551616:=t1
 have q1':q<18446744073709551616:=q1
 have h':¬q*rd v (n:Int)≤18446744073709551616*r+rd u (n:Int):=h
 have e:=Int.emod_add_mul_ediv (q*rd v (n:Int)) 18446744073709551616
 have m0:=Int.emod_lt_of_pos (q*rd v (n:Int)) (show(0:Int)<18446744073709551616 by decide)
 have g1:¬q*rd v (n:Int)/18446744073709551616<r:=by clear h ew ew1;omega
 have g2:q*rd v (n:Int)/18446744073709551616=r→¬q*rd v (n:Int)%18446744073709551616≤rd u (n:Int):=by clear h ew ew1;omega
 have a1:=mul64_eq (show 0≤q by omega) q1 w0 w1
 have a2:=add64_eq r0 y0 (Int.le_refl 0) (by decide)
 have wq:IntKind.u64.wrap (q-1)=q-1:=by clear h h' ew ew1 g1 g2 e;exact u64 (by omega) (by omega)
 conv=>lhs;simp only [exact_step.l0,ew,ew1,wq]
 rw [if_pos trivial,if_pos (Int.natCast_nonneg _),if_pos c1,a1,Option.bind_some,if_neg g1]
 by_cases g3:q*rd v (n:Int)/18446744073709551616=r
 ·rw [if_pos g3,if_pos c2,if_neg (g2 g3),if_pos (Int.natCast_nonneg _),if_pos c3,a2,Option.bind_some]
 ·rw [if_neg g3,if_pos (Int.natCast_nonneg _),if_pos c3,a2,Option.bind_some]
theorem step_l0 {u v:List Int} {n:Nat} (hn:v.length=n+2) (ln:n≤1099511627000) (hu:Dig B64 u) (hv:Dig B64 v) (hl:u.length=n+3) (ht:rd v ((n+1:Nat):Int)≠0):
  ∀(d:Nat) (q r o:Int),q=vB B64 u/vB B64 v+d→0≤q→q<B64→0≤r→r<B64→(o=0∨o=1)→q*rd v ((n+1:Nat):Int)+(r+B64*o)=rd u ((n+1:Nat):Int)+B64*rd u ((n+2:Nat):Int)→
  ∃z,z.length=n+3∧Dig B64 z∧vB B64 z=vB B64 u%vB B64 v∧Ev (fun k=>exact_step.l0 k u v ((n+2:Nat):Int) q r o) (vB B64 u/vB B64 v,z):=by
 have hB:(0:Int)<B64:=by decide
 obtain⟨lv,lv0,lv1,eV⟩:=split2 hv hn
 obtain⟨lu,lu0,lu1,eU⟩:=split3 hu hl
 have hP:(0:Int)<B64^n:=Int.pow_pos hB
 obtain⟨y0,y1⟩:=Dig_rd hv (n+1) (by clear lv1 lu1 eV eU;omega)
 obtain⟨w0,w1⟩:=Dig_rd hv n (by clear lv1 lu1 eV eU;omega)
 obtain⟨t0,t1⟩:=Dig_rd hu n (by clear lv1 lu1 eV eU;omega)
 have hW:B64≤rd v (n:Int)+B64*rd v ((n+1:Nat):Int):=by
  have:B64*1≤B64*rd v ((n+1:Nat):Int):=Int.mul_le_mul_of_nonneg_left (by clear lv1 lu1 eV eU;omega) (Int.le_of_lt hB)
  rw [Int.mul_one]at this
  clear lv1 lu1 eV eU;omega
 have hV0:0<vB B64 v:=by
  have:0<B64^n*(rd v (n:Int)+B64*rd v ((n+1:Nat):Int)):=Int.mul_pos hP (Int.lt_of_lt_of_le hB hW)
  generalize B64^n*(rd v (n:Int)+B64*rd v ((n+1:Nat):Int))=A at*
  clear lv1 lu1 eU;omega
 have hQ0:0≤vB B64 u/vB B64 v:=Int.ediv_nonneg (vB_nonneg (Int.le_of_lt hB) hu) (Int.le_of_lt hV0)
 have ew:wrap64 (((n+2:Nat):Int)-2)=((n:Nat):Int):=by clear lv1 lu1 eV eU;rw [w64 (by omega) (by omega)];omega
 have ew1:wrap64 (((n+2:Nat):Int)-1)=((n+1:Nat):Int):=by clear lv1 lu1 eV eU ew;rw [w64 (by omega) (by omega)];omega
 have done:∀q:Int,vB B64 u/vB B64 v≤q→0≤q→q<B64→q*(rd v (n:Int)+B64*rd v ((n+1:Nat):Int))≤rd u (n:Int)+B64*(rd u ((n+1:Nat):Int)+B64*rd u ((n+2:Nat):Int))→
   ∃z,z.length=n+3∧Dig B64 z∧vB B64 z=vB B64 u%vB B64 v∧Ev (fun k=>exact_step.j2 k u v ((n+2:Nat):Int) q) (vB B64 u/vB B64 v,z):=by
  intro q g1 q0 q1 g2
  have g3:=guess_le hP lv0 lv1 lu0 eV eU hW q0 q1 g2
  obtain⟨z,z1,z2,z3,z4⟩:=step_l1 hn (by clear lv1 lu1 eV eU ew ew1;omega) hu hv hl hV0 q0 q1 g1 g3 (n+2) 0 u 0 0 (Nat.zero_add _) ⟨rfl,hu,⟨by decide,by decide⟩,⟨by decide,hB⟩,by simp [vB]⟩
  exact⟨z,z1,z2,z3,Ev.step (f:=fun k=>exact_step.l1 k u v ((n+2:Nat):Int) q 0 0 ((n+2:Nat):Int) ((0:Nat):Int)) (fun k=>rfl) z4⟩
 have test:∀q r:Int,q*rd v ((n+1:Nat):Int)+r=rd u ((n+1:Nat):Int)+B64*rd u ((n+2:Nat):Int)→(q*rd v (n:Int)≤B64*r+rd u (n:Int)↔q*(rd v (n:Int)+B64*rd v ((n+1:Nat):Int))≤rd u (n:Int)+B64*(rd u ((n+1:Nat):Int)+B64*rd u ((n+2:Nat):Int))):=by
  intro q r he
  rw [←he,Int.mul_add q,Int.mul_left_comm q B64,Int.mul_add B64]
  generalize q*rd v ((n+1:Nat):Int)=a
  generalize q*rd v (n:Int)=b
  clear lv1 lu1 eV eU ew ew1
  omega
 intro d
 induction d with
 |zero=>
  intro q r o hq q0 q1 r0 r1 ho he
  have hq:vB B64 u/vB B64 v=q:=by omega
  have hle:q*rd v (n:Int)≤B64*(r+B64*o)+rd u (n:Int):=by
   rw [test q (r+B64*o) he]
   rcases Int.lt_or_le (rd u (n:Int)+B64*(rd u ((n+1:Nat):Int)+B64*rd u ((n+2:Nat):Int))) (q*(rd v (n:Int)+B64*rd v ((n+1:Nat):Int)))with h|h
   ·have:=guess_gt hP lv0 lu1 eV eU hV0 q0 h
    omega
   ·exact h
  obtain⟨z,z1,z2,z3,z4⟩:=done q (by omega) q0 q1 ((test q _ he).1 hle)
  refine⟨z,z1,z2,z3,Ev.step (fun k=>l0_pass hn hl ew q0 q1 w0 w1 t0 t1 ?_ k) z4⟩
  rcases ho with rfl|rfl
  ·right
   rw [Int.mul_zero,Int.add_zero]at hle
   exact⟨rfl,hle⟩
  ·exact Or.inl rfl
 |succ d ih=>
  intro q r o hq q0 q1 r0 r1 ho he
  by_cases hp:o=1∨o=0∧q*rd v (n:Int)≤B64*r+rd u (n:Int)
  ·have hle:q*rd v (n:Int)≤B64*(r+B64*o)+rd u (n:Int):=by
    rcases hp with rfl| ⟨rfl,h⟩
    ·have q1':q<18446744073709551616:=q1
     have w1':rd v (n:Int)<18446744073709551616:=w1
     have h1:=mul_range q0 (show q≤18446744073709551615 by omega) w0 (show rd v (n:Int)≤18446744073709551615 by omega)
     have h2:(18446744073709551615:Int)*18446744073709551615=340282366920938463426481119284349108225:=rfl
     have h3:(B64:Int)*(B64*1)=340282366920938463463374607431768211456:=rfl
     rw [h2]at h1
     rw [Int.mul_add,h3]
     have h4:0≤B64*r:=Int.mul_nonneg (by decide) r0
     clear lv1 lu1 eV eU ew ew1
     omega
    ·rw [Int.mul_zero,Int.add_zero]
     exact h
   obtain⟨z,z1,z2,z3,z4⟩:=done q (by omega) q0 q1 ((test q _ he).1 hle)
   exact⟨z,z1,z2,z3,Ev.step (fun k=>l0_pass hn hl ew q0 q1 w0 w1 t0 t1 hp k) z4⟩
  ·have ho:o=0:=by
    rcases ho with h|h
    ·exact h
    ·exact absurd (Or.inl h) hp
   subst ho
   have hp':¬q*rd v (n:Int)≤B64*r+rd u (n:Int):=fun h=>hp (Or.inr ⟨rfl,h⟩)
   have hov:=add_range r0 r1 y0 y1 (Int.le_refl 0) (by decide)
   have he2:=Int.emod_add_mul_ediv (r+rd v ((n+1:Nat):Int)+0) B64
   obtain⟨z,z1,z2,z3,z4⟩:=ih (q-1) ((r+rd v ((n+1:Nat):Int)+0)%B64) ((r+rd v ((n+1:Nat):Int)+0)/B64) (by omega) (by omega) (by omega) (Int.emod_nonneg _ (by decide)) (Int.emod_lt_of_pos _ hB) (by omega) (by
    rw [he2,Int.sub_mul,Int.one_mul]
    rw [Int.mul_zero]at he
    clear lv1 lu1 eV eU ew ew1 hp hp' hov he2
    omega)
   exact⟨z,z1,z2,z3,Ev.step (fun k=>l0_fail hn hl ew ew1 (by omega) q1 r0 w0 w1 t0 t1 y0 hp' k) z4⟩
theorem step_ev {u v:List Int} {n:Nat} (hn:v.length=n+2) (ln:n≤1099511627000) (hu:Dig B64 u) (hv:Dig B64 v) (hl:u.length=n+3) (ht:rd v ((n+1:Nat):Int)≠0) (hlt:vB B64 u<vB B64 v*B64):
  ∃z,z.length=n+3∧Dig B64 z∧vB B64 z=vB B64 u%vB B64 v∧Ev (fun k=>exact_step.f k u v) (vB B64 u/vB B64 v,z):=by
 have hB:(0:Int)<B64:=by decide
 obtain⟨lv,lv0,lv1,eV⟩:=split2 hv hn
 obtain⟨lu,lu0,lu1,eU⟩:=split3 hu hl
 have hP:(0:Int)<B64^n:=Int.pow_pos hB
 obtain⟨y0,y1⟩:=Dig_rd hv (n+1) (by clear lv1 lu1 eV eU;omega)
 obtain⟨w0,w1⟩:=Dig_rd hv n (by clear lv1 lu1 eV eU;omega)
 obtain⟨t0,t1⟩:=Dig_rd hu n (by clear lv1 lu1 eV eU;omega)
 obtain⟨p0,p1⟩:=Dig_rd hu (n+1) (by clear lv1 lu1 eV eU;omega)
 obtain⟨x0,x1⟩:=Dig_rd hu (n+2) (by clear lv1 lu1 eV eU;omega)
 have y2:1≤rd v ((n+1:Nat):Int):=by clear lv1 lu1 eV eU;omega
 have hW:B64≤rd v (n:Int)+B64*rd v ((n+1:Nat):Int):=by
  have:B64*1≤B64*rd v ((n+1:Nat):Int):=Int.mul_le_mul_of_nonneg_left y2 (Int.le_of_lt hB)
  rw [Int.mul_one]at this
  clear lv1 lu1 eV eU;omega
 have hV0:0<vB B64 v:=by
  have:0<B64^n*(rd v (n:Int)+B64*rd v ((n+1:Nat):Int)):=Int.mul_pos hP (Int.lt_of_lt_of_le hB hW)
  generalize B64^n*(rd v (n:Int)+B64*rd v ((n+1:Nat):Int))=A at*
  clear lv1 lu1 eU;omega
 have hQ0:0≤vB B64 u/vB B64 v:=Int.ediv_nonneg (vB_nonneg (Int.le_of_lt hB) hu) (Int.le_of_lt hV0)
 have hQ1:vB B64 u/vB B64 v<B64:=Int.ediv_lt_of_lt_mul hV0 (by rw [Int.mul_comm];exact hlt)
 have hX:(vB B64 u/vB B64 v)*rd v ((n+1:Nat):Int)≤rd u ((n+1:Nat):Int)+B64*rd u ((n+2:Nat):Int):=by
  have h1:=Int.ediv_mul_le (vB B64 u) (show vB B64 v≠0 by clear lv1 lu1 eV eU;omega)
  generalize vB B64 u/vB B64 v=Q at*
  rw [eV,eU]at h1
  have e1:Q*(lv+B64^n*(rd v (n:Int)+B64*rd v ((n+1:Nat):Int)))=Q*lv+Q*(B64^n*rd v (n:Int))+B64^n*(B64*(Q*rd v ((n+1:Nat):Int))):=by
   rw [Int.mul_add Q,Int.mul_add (B64^n),Int.mul_add Q,Int.mul_left_comm Q (B64^n) (B64*_),Int.mul_left_comm Q B64,Int.add_assoc]
  rw [e1]at h1
  have h2:0≤Q*lv:=Int.mul_nonneg hQ0 lv0
  have h3:0≤Q*(B64^n*rd v (n:Int)):=Int.mul_nonneg hQ0 (Int.mul_nonneg (Int.le_of_lt hP) w0)
  rcases Int.lt_or_le (rd u ((n+1:Nat):Int)+B64*rd u ((n+2:Nat):Int)) (Q*rd v ((n+1:Nat):Int))with h|h
  ·exfalso
   have h4:B64*(rd u ((n+1:Nat):Int)+B64*rd u ((n+2:Nat):Int)+1)≤B64*(Q*rd v ((n+1:Nat):Int)):=Int.mul_le_mul_of_nonneg_left (by clear lv1 lu1 eV eU h1 e1;omega) (Int.le_of_lt hB)
   have h5:=Int.mul_le_mul_of_nonneg_left h4 (Int.le_of_lt hP)
   have h6:B64^n*(rd u (n:Int)+1)≤B64^n*B64:=Int.mul_le_mul_of_nonneg_left (by clear lv1 lu1 eV eU h1 e1 h5;omega) (Int.le_of_lt hP)
   rw [Int.mul_add B64,Int.mul_one,Int.mul_add (B64^n)]at h5
   rw [Int.mul_add (B64^n) (rd u (n:Int)),Int.mul_one]at h6
   rw [Int.mul_add (B64^n) (rd u (n:Int))]at h1
   generalize B64^n*(B64*(rd u ((n+1:Nat):Int)+B64*rd u ((n+2:Nat):Int)))=A at*
   generalize B64^n*(B64*(Q*rd v ((n+1:Nat):Int)))=A1 at*
   generalize B64^n*rd u (n:Int)=A2 at*
   generalize B64^n*B64=A3 at*
   generalize(B64:Int)^n=P at*
   clear eV eU e1 hV0 hQ1
   omega
  ·exact h
 have ew1:wrap64 (((n+2:Nat):Int)-1)=((n+1:Nat):Int):=by clear lv1 lu1 eV eU;rw [w64 (by omega) (by omega)];omega
 have c1:((n+2:Nat):Int)<(u.length:Int):=by clear lv1 lu1 eV eU ew1;omega
 have c2:((n+1:Nat):Int)<(v.length:Int):=by clear lv1 lu1 eV eU ew1;omega
 have c3:((n+1:Nat):Int)<(u.length:Int):=by clear lv1 lu1 eV eU ew1;omega
 have ev:(v.length:Int)=((n+2:Nat):Int):=by clear lv1 lu1 eV eU ew1;omega
 by_cases hc:rd u ((n+2:Nat):Int)≥rd v ((n+1:Nat):Int)
 ·
  have heq:rd u ((n+2:Nat):Int)=rd v ((n+1:Nat):Int):=by
   rcases Int.lt_or_le (rd v ((n+1:Nat):Int)) (rd u ((n+2:Nat):Int))with h|h
   ·exfalso
    have g1:B64*(rd v ((n+1:Nat):Int)+1)≤B64*rd u ((n+2:Nat):Int):=Int.mul_le_mul_of_nonneg_left (by clear lv1 lu1 eV eU;omega) (Int.le_of_lt hB)
    rw [Int.mul_add,Int.mul_one]at g1
    have g2:rd v (n:Int)+B64*rd v ((n+1:Nat):Int)+1≤rd u ((n+1:Nat):Int)+B64*rd u ((n+2:Nat):Int):=by clear lv1 lu1 eV eU;omega
    have g3:B64*(rd v (n:Int)+B64*rd v ((n+1:Nat):Int)+1)≤B64*(rd u ((n+1:Nat):Int)+B64*rd u ((n+2:Nat):Int)):=Int.mul_le_mul_of_nonneg_left g2 (Int.le_of_lt hB)
    have g4:=Int.mul_le_mul_of_nonneg_left g3 (Int.le_of_lt hP)
    rw [eV,eU,Int.add_mul,Int.mul_add (B64^n) (rd u (n:Int))]at hlt
    have g5:0≤B64^n*rd u (n:Int):=Int.mul_nonneg (Int.le_of_lt hP) t0
    have g6:lv*B64<B64^n*B64:=Int.mul_lt_mul_of_pos_right lv1 hB
    rw [Int.mul_add B64,Int.mul_one,Int.mul_add (B64^n)]at g4
    have e2:B64^n*(rd v (n:Int)+B64*rd v ((n+1:Nat):Int))*B64=B64^n*(B64*(rd v (n:Int)+B64*rd v ((n+1:Nat):Int))):=by rw [Int.mul_assoc,Int.mul_comm _ B64]
    rw [e2]at hlt
    generalize B64^n*(B64*(rd u ((n+1:Nat):Int)+B64*rd u ((n+2:Nat):Int)))=A at*
    generalize B64^n*(B64*(rd v (n:Int)+B64*rd v ((n+1:Nat):Int)))=A1 at*
    generalize B64^n*rd u (n:Int)=A2 at*
    generalize B64^n*B64=A3 at*
    generalize lv*B64=A4 at*
    clear eV eU e2 hV0 hQ1 hX lv1 lu1
    omega
   ·clear lv1 lu1 eV eU;omega
  have a2:=add64_eq p0 y0 (Int.le_refl 0) (by decide)
  have hov:=add_range p0 p1 y0 y1 (Int.le_refl 0) (by decide)
  have he2:=Int.emod_add_mul_ediv (rd u ((n+1:Nat):Int)+rd v ((n+1:Nat):Int)+0) B64
  have hd:(18446744073709551615:Int)=vB B64 u/vB B64 v+((18446744073709551615-vB B64 u/vB B64 v).toNat:Nat):=by
   have:vB B64 u/vB B64 v<18446744073709551616:=hQ1
   clear lv1 lu1 eV eU;omega
  obtain⟨z,z1,z2,z3,z4⟩:=step_l0 hn ln hu hv hl ht _ 18446744073709551615 _ _ hd (by decide) (by decide) (Int.emod_nonneg _ (by decide)) (Int.emod_lt_of_pos _ hB) (show(rd u ((n+1:Nat):Int)+rd v ((n+1:Nat):Int)+0)/B64=0∨(rd u ((n+1:Nat):Int)+rd v ((n+1:Nat):Int)+0)/B64=1 by clear lv1 lu1 eV eU;omega) (by
   rw [he2,heq]
   show 18446744073709551615*rd v ((n+1:Nat):Int)+(rd u ((n+1:Nat):Int)+rd v ((n+1:Nat):Int)+0)=rd u ((n+1:Nat):Int)+18446744073709551616*rd v ((n+1:Nat):Int)
   clear lv1 lu1 eV eU;omega)
  refine⟨z,z1,z2,z3,Ev.congr (fun k=>?_) (Ev.step (f:=_) (fun k=>rfl) z4:Ev (fun k=>exact_step.j0 k u v ((n+2:Nat):Int) 18446744073709551615 ((rd u ((n+1:Nat):Int)+rd v ((n+1:Nat):Int)+0)%B64) ((rd u ((n+1:Nat):Int)+rd v ((n+1:Nat):Int)+0)/B64)) _)⟩
  unfold exact_step.f
  rw [ev,ew1,if_pos (Int.natCast_nonneg _),if_pos c1,if_pos (Int.natCast_nonneg _),if_pos (by rw [←ev];exact c2),if_pos hc,if_pos c3,a2,Option.bind_some]
 ·have hq:=div64_ev x0 (show rd u ((n+2:Nat):Int)<rd v ((n+1:Nat):Int)by clear lv1 lu1 eV eU;omega) y1 p0 p1
  have hyp:0<rd v ((n+1:Nat):Int):=by clear lv1 lu1 eV eU;omega
  have g:=Int.emod_add_mul_ediv (rd u ((n+2:Nat):Int)*B64+rd u ((n+1:Nat):Int)) (rd v ((n+1:Nat):Int))
  have r0:=Int.emod_nonneg (rd u ((n+2:Nat):Int)*B64+rd u ((n+1:Nat):Int)) (show rd v ((n+1:Nat):Int)≠0 from ht)
  have r1:=Int.emod_lt_of_pos (rd u ((n+2:Nat):Int)*B64+rd u ((n+1:Nat):Int)) hyp
  have q0:0≤(rd u ((n+2:Nat):Int)*B64+rd u ((n+1:Nat):Int))/rd v ((n+1:Nat):Int):=Int.ediv_nonneg (Int.add_nonneg (Int.mul_nonneg x0 (Int.le_of_lt hB)) p0) (Int.le_of_lt hyp)
  have q1:(rd u ((n+2:Nat):Int)*B64+rd u ((n+1:Nat):Int))/rd v ((n+1:Nat):Int)<B64:=Int.ediv_lt_of_lt_mul hyp (by
   have h1:=Int.mul_le_mul_of_nonneg_right (show rd u ((n+2:Nat):Int)+1≤rd v ((n+1:Nat):Int)by clear lv1 lu1 eV eU;omega) (Int.le_of_lt hB)
   rw [Int.add_mul,Int.one_mul,Int.mul_comm (rd v _)]at h1
   clear lv1 lu1 eV eU;omega)
  have hQq:vB B64 u/vB B64 v≤(rd u ((n+2:Nat):Int)*B64+rd u ((n+1:Nat):Int))/rd v ((n+1:Nat):Int):=Int.le_ediv_of_mul_le hyp (by rw [Int.mul_comm (rd u _) B64,Int.add_comm];exact hX)
  obtain⟨z,z1,z2,z3,z4⟩:=step_l0 hn ln hu hv hl ht ((rd u ((n+2:Nat):Int)*B64+rd u ((n+1:Nat):Int))/rd v ((n+1:Nat):Int)-vB B64 u/vB B64 v).toNat ((rd u ((n+2:Nat):Int)*B64+rd u ((n+1:Nat):Int))/rd v ((n+1:Nat):Int)) ((rd u ((n+2:Nat):Int)*B64+rd u ((n+1:Nat):Int))%rd v ((n+1:Nat):Int)) 0 (by clear lv1 lu1 eV eU;omega) q0 q1 r0 (Int.lt_trans r1 y1) (Or.inl rfl) (by
   rw [Int.mul_zero,Int.add_zero,Int.mul_comm]
   rw [Int.mul_comm (rd u _) B64]at g⊢
   clear lv1 lu1 eV eU;omega)
  refine⟨z,z1,z2,z3,Ev.congr (f:=fun k=>(bits_Div64.f k (rd u ((n+2:Nat):Int)) (rd u ((n+1:Nat):Int)) (rd v ((n+1:Nat):Int))).bind fun bt=>exact_step.j0 k u v ((n+2:Nat):Int) bt.1 bt.2 0) (fun k=>?_) (Ev.bind hq (Ev.step (f:=_) (fun k=>rfl) z4))⟩
  unfold exact_step.f
  rw [ev,ew1,if_pos (Int.natCast_nonneg _),if_pos c1,if_pos (Int.natCast_nonneg _),if_pos (by rw [←ev];exact c2),if_neg hc,if_pos c3]
theorem drop_succ (B:Int) (l:List Int) (i:Nat) (h:i<l.length):vB B (l.drop i)=rd l (i:Int)+B*vB B (l.drop (i+1)):=by
 rw [List.drop_eq_getElem_cons h,vB_cons,rd_get l i h]
theorem drop_set (l:List Int) (i:Nat) (x:Int):(l.set i x).drop (i+1)=l.drop (i+1):=by
 apply List.ext_getElem?
 intro j
 rw [List.getElem?_drop,List.getElem?_drop,List.getElem?_set_ne (by omega)]
theorem vB_far (B:Int) {l:List Int} {n:Nat} (h:l.length≤n):vB B (l.drop n)=0:=by rw [List.drop_of_length_le h];rfl
theorem divide_l0 {a b:List Int} {y:Int} (ha:Dig B64 a) (la:a.length≤1099511627776) (hb:b.length=1) (hy:rd b 0=y) (y0:0<y) (y1:y<B64) {m n:Nat} (hm:vB B64 a=m) (hn:y=n):∀(i:Nat) (q:List Int) (r:Int),i≤a.length→q.length=a.length→Dig B64 q→0≤r→r<y→vB B64 (a.drop i)=y*vB B64 (q.drop i)+r→
  Ev (fun k=>exact_divide.l0 k a b q r ((i:Int)-1)) (d64 (m/n),d64 (m%n)):=by
 intro i
 induction i with
 |zero=>
  intro q r _ hl hd r0 r1 hv
  rw [List.drop_zero,List.drop_zero,hm,hn]at hv
  have hq0:=vB_nonneg (by decide) hd
  have e1:(vB B64 q).toNat=m/n:=by
   have:(vB B64 q)=((m/n:Nat):Int):=by
    rw [Int.natCast_ediv,hv,Int.add_comm,Int.add_mul_ediv_left _ _ (by omega),Int.ediv_eq_zero_of_lt r0 (by omega),Int.zero_add]
   rw [this,Int.toNat_natCast]
  have e2:(vB B64 [r]).toNat=m%n:=by
   have:(vB B64 [r])=((m%n:Nat):Int):=by
    rw [Int.natCast_emod,hv,Int.add_comm,Int.add_mul_emod_self_left,Int.emod_eq_of_lt r0 (by omega)]
    simp [vB]
   rw [this,Int.toNat_natCast]
  have t1:=trim_ev hd (by omega)
  have t2:=trim_ev (l:=[r]) (Dig_cons.2 ⟨⟨r0,Int.lt_trans r1 y1⟩,Dig_nil _⟩) (by simp)
  rw [e1]at t1
  rw [e2]at t2
  refine Ev.step (f:=fun k=>(exact_trim.f k q).bind fun t173=>((exact_trim.f k [r]).bind fun t179=>some (t173,t179))) (fun k=>?_) (Ev.bind t1 (Ev.bind (f:=fun _ t179=>some (d64 (m/n),t179)) t2 (Ev.now _)))
  simp only [exact_divide.l0]
  rw [if_neg (by decide)]
 |succ i ih=>
  intro q r hi hl hd r0 r1 hv
  have hi':i<a.length:=by omega
  obtain⟨x0,x1⟩:=Dig_rd ha i hi'
  have hdv:=div64_ev r0 r1 y1 x0 x1
  have g:=Int.emod_add_mul_ediv (r*B64+rd a (i:Int)) y
  have g0:=Int.emod_nonneg (r*B64+rd a (i:Int)) (show y≠0 by omega)
  have g1:=Int.emod_lt_of_pos (r*B64+rd a (i:Int)) y0
  have d0:0≤(r*B64+rd a (i:Int))/y:=Int.ediv_nonneg (Int.add_nonneg (Int.mul_nonneg r0 (by decide)) x0) (by omega)
  have d1:(r*B64+rd a (i:Int))/y<B64:=Int.ediv_lt_of_lt_mul y0 (by
   have h1:=Int.mul_le_mul_of_nonneg_right (show r+1≤y by omega) (show(0:Int)≤B64 by decide)
   rw [Int.add_mul,Int.one_mul,Int.mul_comm y]at h1
   omega)
  have e0:((i+1:Nat):Int)-1=(i:Int):=by omega
  have e1:wrap64 ((i:Int)-1)=(i:Int)-1:=w64 (by omega) (by omega)
  have c1:(i:Int)≥0:=by omega
  have c2:(i:Int)<(a.length:Int):=by omega
  have c3:(0:Int)<(b.length:Int):=by omega
  have c4:(i:Int)<(q.length:Int):=by omega
  rw [e0]
  refine Ev.step (f:=fun k=>(bits_Div64.f k r (rd a (i:Int)) y).bind fun bt170=>exact_divide.l0 k a b (q.set i bt170.1) bt170.2 ((i:Int)-1)) (fun k=>?_) (Ev.bind hdv (ih _ _ (by omega) (by rw [List.length_set];exact hl) (Dig_set hd _ d0 d1) g0 g1 ?_))
  ·simp only [exact_divide.l0,e1]
   rw [if_pos c1,if_pos c1,if_pos c2,if_pos c3,hy]
   simp only [if_pos c4,Int.toNat_natCast]
  ·show vB B64 (a.drop i)=y*vB B64 ((q.set i ((r*B64+rd a (i:Int))/y)).drop i)+(r*B64+rd a (i:Int))%y
   rw [drop_succ B64 a i hi',drop_succ B64 (q.set i ((r*B64+rd a (i:Int))/y)) i (by rw [List.length_set];omega),rd_set_self _ _ _ (by omega),drop_set,hv]
   rw [Int.mul_add B64,Int.mul_add y,Int.mul_left_comm y B64]
   rw [Int.mul_comm r B64]at*
   generalize y*((B64*r+rd a (i:Int))/y)=A at*
   generalize(B64*r+rd a (i:Int))%y=A2 at*
   generalize B64*(y*vB B64 (q.drop (i+1)))=A3 at*
   generalize B64*r=A4 at*
   clear hdv hv
   omega
def Down (u z:List Int) (s i:Nat):Prop:=
 z.length=u.length∧Dig B64 z∧(∀j:Nat,i≤j→rd z (j:Int)=rd u (j:Int))∧2^s*vB B64 (z.take i)=vB B64 (u.take i)+B64^i*(rd u (i:Int)%2^s)
theorem word_down {x y:Int} (x0:0≤x) (x1:x<B64) (y0:0≤y) (y1:y<B64) (s:Nat) (hs:s≤63):2^s*(x/2^s+(y*2^(64-s))%B64)=x-x%2^s+B64*(y%2^s)∧(y*2^(64-s))%B64%2^(64-s)=0∧x/2^s<2^(64-s)∧0≤x/2^s∧x/2^s+(y*2^(64-s))%B64<B64:=by
 have hP:(0:Int)<2^s:=Int.pow_pos (by decide)
 have hR:(0:Int)<2^(64-s):=Int.pow_pos (by decide)
 have hPR:(2:Int)^s*2^(64-s)=B64:=by
  rw [←Int.pow_add]
  have:s+(64-s)=64:=by omega
  rw [this]
  rfl
 have g:=Int.emod_add_mul_ediv y (2^s)
 have g0:=Int.emod_nonneg y (show(2:Int)^s≠0 by omega)
 have g1:=Int.emod_lt_of_pos y hP
 have g2:y*2^(64-s)=y%2^s*2^(64-s)+B64*(y/2^s):=by
  conv=>lhs;rw [←g]
  rw [Int.add_mul,Int.mul_right_comm,hPR]
 have g3:0≤y%2^s*2^(64-s):=Int.mul_nonneg g0 (Int.le_of_lt hR)
 have g4:y%2^s*2^(64-s)+2^(64-s)≤B64:=by
  have:=Int.mul_le_mul_of_nonneg_right (show y%2^s+1≤2^s by omega) (Int.le_of_lt hR)
  rwa [hPR,Int.add_mul,Int.one_mul]at this
 have g5:(y*2^(64-s))%B64=y%2^s*2^(64-s):=by
  rw [g2,Int.add_mul_emod_self_left,Int.emod_eq_of_lt g3 (by omega)]
 have k1:=Int.emod_add_mul_ediv x (2^s)
 have k2:x/2^s<2^(64-s):=Int.ediv_lt_of_lt_mul hP (by rw [Int.mul_comm,hPR];exact x1)
 refine⟨?_,by rw [g5];exact Int.mul_emod_left _ _,k2,Int.ediv_nonneg x0 (Int.le_of_lt hP),by rw [g5];omega⟩
 rw [g5,Int.mul_add,Int.mul_left_comm (2^s) (y%2^s),hPR,Int.mul_comm (y%2^s)]
 omega
theorem down_step {u z:List Int} {s i:Nat} (hs:s≤63) (hu:Dig B64 u) (hi:i+1<u.length) (h:Down u z s i):Down u (z.set i (rd u (i:Int)/2^s+(rd u ((i+1:Nat):Int)*2^(64-s))%B64)) s (i+1):=by
 obtain⟨hl,hd,hr,hv⟩:=h
 obtain⟨x0,x1⟩:=Dig_rd hu i (by omega)
 obtain⟨y0,y1⟩:=Dig_rd hu (i+1) hi
 obtain⟨a1,a2,a3,a4,a5⟩:=word_down x0 x1 y0 y1 s hs
 have a6:=Int.emod_nonneg (rd u ((i+1:Nat):Int)*2^(64-s)) (show(B64:Int)≠0 by decide)
 refine⟨by rw [List.length_set];exact hl,Dig_set hd _ (Int.add_nonneg a4 a6) a5,fun j hj=>?_,?_⟩
 ·rw [rd_set_ne _ _ _ _ (by omega)]
  exact hr j (by omega)
 ·rw [take_succ,take_succ,rd_set_self _ _ _ (by omega),List.take_set_of_le (Nat.le_refl _),Int.mul_add,hv,Int.mul_left_comm (2^s),a1,Int.pow_succ,Int.mul_assoc (B64^i) B64,Int.mul_add (B64^i),Int.mul_sub]
  generalize B64^i*(rd u (i:Int)%2^s)=A
  generalize B64^i*rd u (i:Int)=A1
  generalize B64^i*(B64*(rd u ((i+1:Nat):Int)%2^s))=A2
  omega
theorem divide_l2 {u q:List Int} {s N Q R:Nat} (hs:s≤63) (hu:Dig B64 u) (hN:N+1≤u.length) (lu:u.length≤1099511627780) (hq:Dig B64 q) (lq:q.length≤1099511627780) (hQ:vB B64 q=Q) (hR:vB B64 (u.take N)+B64^N*(rd u (N:Int)%2^s)=2^s*R):
  ∀(d i:Nat) (z:List Int),i+d=N→Down u z s i→Ev (fun k=>exact_divide.l2 k (s:Int) z (N:Int) q (N:Int) (i:Int)) (d64 Q,d64 R):=by
 intro d
 induction d with
 |zero=>
  intro i z hi h
  have hi:i=N:=by omega
  subst hi
  have hl:=h.1
  have c1:(i:Int)≤(z.length:Int):=by omega
  have lz:z.length<9223372036854775808:=by omega
  have lz2:(z.take i).length<9223372036854775808:=by rw [List.length_take];omega
  have lq2:q.length<9223372036854775808:=by omega
  obtain⟨-,hd, -,hv⟩:=h
  rw [hR]at hv
  have hv':vB B64 (z.take i)=R:=Int.eq_of_mul_eq_mul_left (show(2:Int)^s≠0 from Int.ne_of_gt (Int.pow_pos (by decide))) hv
  have t1:=trim_ev hq lq2
  have t2:=trim_ev (Dig_take hd i) lz2
  rw [hQ,Int.toNat_natCast]at t1
  rw [hv',Int.toNat_natCast]at t2
  refine Ev.step (f:=fun k=>(exact_trim.f k q).bind fun t208=>(exact_trim.f k (z.take i)).bind fun t214=>some (t208,t214)) (fun k=>?_) (Ev.bind t1 (Ev.bind (f:=fun _ t214=>some (d64 Q,t214)) t2 (Ev.now _)))
  simp only [exact_divide.l2]
  rw [if_neg (Int.lt_irrefl _)]
  simp only [if_pos c1,if_pos (Int.natCast_nonneg i),Int.toNat_natCast]
 |succ d ih=>
  intro i z hi h
  have hi':i<N:=by omega
  have c0:i+1+d=N:=by omega
  have hl:=h.1
  have c1:(i:Int)<(N:Int):=by omega
  have c2:(i:Int)<(z.length:Int):=by omega
  have c3:((i+1:Nat):Int)<(z.length:Int):=by omega
  have c4:i<z.length:=by omega
  have c5:i+1<u.length:=by omega
  have hn:=down_step hs hu c5 h
  have e1:wrap64 ((i:Int)+1)=((i+1:Nat):Int):=by clear hR;rw [w64 (by omega) (by omega)];omega
  have e2:wrap64 (64-(s:Int))=((64-s:Nat):Int):=by clear hR e1;rw [w64 (by omega) (by omega)];omega
  have g0:=h.2.2.1 i (Nat.le_refl _)
  have g1:=h.2.2.1 (i+1) (by clear hR e1 e2;omega)
  obtain⟨x0,x1⟩:=Dig_rd hu i (by clear hR e1 e2;omega)
  obtain⟨y0,y1⟩:=Dig_rd hu (i+1) c5
  obtain⟨a1,a2,a3,a4,a5⟩:=word_down x0 x1 y0 y1 s hs
  have a6:=Int.emod_nonneg (rd u ((i+1:Nat):Int)*2^(64-s)) (show(B64:Int)≠0 by decide)
  have a7:=Int.emod_lt_of_pos (rd u ((i+1:Nat):Int)*2^(64-s)) (show(0:Int)<B64 by decide)
  have sh1:shr .u64 (rd z (i:Int)) (s:Int)=rd u (i:Int)/2^s:=by rw [g0];exact shr_eq _ _ (by clear hR e1 e2 a1;omega)
  have sh2:shl .u64 (rd u ((i+1:Nat):Int)) ((64-s:Nat):Int)=(rd u ((i+1:Nat):Int)*2^(64-s))%B64:=shl_eq _ _ (by clear hR e1 e2 a1;omega)
  have hor:=bits_join2 (64-s) (by clear hR e1 e2 a1;omega) a4 a3 a6 a7 a2 a5
  have r1:rd (z.set i (rd u (i:Int)/2^s)) (i:Int)=rd u (i:Int)/2^s:=rd_set_self _ _ _ c4
  have r2:rd (z.set i (rd u (i:Int)/2^s)) ((i+1:Nat):Int)=rd u ((i+1:Nat):Int):=by rw [rd_set_ne _ _ _ _ (by clear hR e1 e2 a1;omega)];exact g1
  refine Ev.step (fun k=>?_) (ih (i+1) _ c0 hn)
  simp only [exact_divide.l2,e1,e2,sh1,Int.toNat_natCast,Option.bind_some]
  rw [if_pos c1,if_pos (Int.natCast_nonneg _),if_pos c2,if_pos (Int.natCast_nonneg _)]
  by_cases hs0:(s:Int)>0
  ·rw [if_pos hs0,if_pos c3,if_pos (Int.natCast_nonneg _),if_pos (Int.natCast_nonneg _),r1,r2,sh2,hor,List.set_set]
  ·rw [if_neg hs0]
   have hs1:s=0:=by clear hR e1 e2 a1;omega
   subst hs1
   have:(rd u ((i+1:Nat):Int)*2^(64-0))%B64=0:=Int.mul_emod_left _ _
   rw [this,Int.add_zero]
def Long (M V:Int) (L Lq:Nat) (u q:List Int) (J:Nat):Prop:=
 u.length=L∧Dig B64 u∧q.length=Lq∧Dig B64 q∧vB B64 (u.drop J)<V∧M=vB B64 u+V*(B64^J*vB B64 (q.drop J))
theorem long_step {M:Int} {L Lq N j:Nat} {u v q:List Int} (hv:Dig B64 v) (hN:v.length=N+2) (ln:N≤1099511627000) (ht:rd v ((N+1:Nat):Int)≠0) (hj:j+(N+2)+1≤L) (hjq:j<Lq) (h:Long M (vB B64 v) L Lq u q (j+1)):
  ∃d u',Long M (vB B64 v) L Lq u' (q.set j d) j∧Ev (fun k=>exact_stepAt.f k u v (j:Int) ((j+(N+2)+1:Nat):Int)) (d,u'):=by
 have hB:(0:Int)<B64:=by decide
 obtain⟨hl,hd,hlq,hdq,hlt,hM⟩:=h
 have hV1:=vB_lt hB hv
 rw [hN]at hV1
 have hVn:=vB_nonneg (Int.le_of_lt hB) hv
 obtain⟨w,hw⟩:∃w,w=(u.take (j+(N+2)+1)).drop j:=⟨_,rfl⟩
 have hwl:w.length=N+3:=by rw [hw,List.length_drop,List.length_take];omega
 have hwd:Dig B64 w:=by rw [hw];exact Dig_drop (Dig_take hd _) _
 have hwt:w=(u.drop j).take (N+3):=by rw [hw,List.drop_take];congr 1;omega
 have hdl:(u.drop j).length=L-j:=by rw [List.length_drop,hl]
 have s1:=vB_split B64 (u.drop j) (N+3) (by omega)
 rw [←hwt,List.drop_drop]at s1
 have s2:=vB_split B64 (u.drop (j+1)) (N+2) (by rw [List.length_drop];omega)
 rw [List.drop_drop,show j+1+(N+2)=j+(N+3)by omega]at s2
 have p1:=vB_nonneg (Int.le_of_lt hB) (Dig_take (Dig_drop hd (j+1)) (N+2))
 have p2:=vB_nonneg (Int.le_of_lt hB) (Dig_drop hd (j+(N+3)))
 have hz:vB B64 (u.drop (j+(N+3)))=0:=by
  rcases Int.lt_or_le (vB B64 (u.drop (j+(N+3)))) 1 with h|h
  ·clear hV1 s1 s2 hM hlt;omega
  ·exfalso
   have:=Int.mul_le_mul_of_nonneg_left h (Int.le_of_lt (show(0:Int)<B64^(N+2)from Int.pow_pos hB))
   rw [Int.mul_one]at this
   generalize(B64:Int)^(N+2)=P at*
   generalize P*vB B64 (u.drop (j+(N+3)))=A at*
   clear hM s1
   omega
 rw [hz,Int.mul_zero,Int.add_zero]at s1
 have s3:=drop_succ B64 u j (by omega)
 obtain⟨x0,x1⟩:=Dig_rd hd j (by omega)
 have hwlt:vB B64 w<vB B64 v*B64:=by
  rw [←s1,s3]
  have h1:=Int.mul_le_mul_of_nonneg_left (show vB B64 (u.drop (j+1))+1≤vB B64 v by clear hV1 s1 s2 hM s3;omega) (Int.le_of_lt hB)
  rw [Int.mul_add,Int.mul_one,Int.mul_comm B64 (vB B64 v)]at h1
  clear hV1 s1 s2 hM s3
  omega
 obtain⟨z,z1,z2,z3,z4⟩:=step_ev hN ln hwd hv hwl ht hwlt
 have hV0:0<vB B64 v:=by
  rcases Int.lt_or_le 0 (vB B64 v)with h|h
  ·exact h
  ·exfalso
   have:vB B64 v=0:=by clear hV1 s1 s2 hM s3 hwlt;omega
   rw [this,Int.zero_mul]at hwlt
   have:=vB_nonneg (Int.le_of_lt hB) hwd
   clear hV1 s1 s2 hM s3;omega
 have q0:0≤vB B64 w/vB B64 v:=Int.ediv_nonneg (vB_nonneg (Int.le_of_lt hB) hwd) (Int.le_of_lt hV0)
 have q1:vB B64 w/vB B64 v<B64:=Int.ediv_lt_of_lt_mul hV0 (by rw [Int.mul_comm];exact hwlt)
 have hdm:=Int.emod_add_mul_ediv (vB B64 w) (vB B64 v)
 have m1:=Int.emod_lt_of_pos (vB B64 w) hV0
 have htj:(u.take j).length=j:=by rw [List.length_take];omega
 have hdrop:(u.take j++z++u.drop (j+(N+2)+1)).drop j=z++u.drop (j+(N+3)):=by
  rw [List.append_assoc,List.drop_append_of_le_length (by omega),List.drop_of_length_le (by omega),List.nil_append]
  rfl
 have hvz:vB B64 (z++u.drop (j+(N+3)))=vB B64 z:=by rw [vB_append,hz,Int.mul_zero,Int.add_zero]
 refine⟨vB B64 w/vB B64 v,u.take j++z++u.drop (j+(N+2)+1),⟨?_,Dig_append (Dig_append (Dig_take hd _) z2) (Dig_drop hd _),by rw [List.length_set];exact hlq,Dig_set hdq _ q0 q1,?_,?_⟩,?_⟩
 ·rw [List.length_append,List.length_append,htj,z1,List.length_drop]
  clear hV1 s1 s2 hM s3 hwlt hdm;omega
 ·rw [hdrop,hvz,z3]
  exact m1
 ·have t1:=vB_split B64 u j (by clear hV1 s1 s2 hM s3 hwlt hdm;omega)
  have t2:vB B64 (u.take j++z++u.drop (j+(N+2)+1))=vB B64 (u.take j)+B64^j*vB B64 z:=by
   rw [List.append_assoc,vB_append,htj]
   congr 2
  rw [t2,z3,drop_succ B64 (q.set j (vB B64 w/vB B64 v)) j (by rw [List.length_set,hlq];exact hjq),rd_set_self _ _ _ (by rw [hlq];exact hjq),drop_set,hM,t1,s1,Int.pow_succ]
  generalize vB B64 (u.take j)=A
  generalize vB B64 (q.drop (j+1))=C
  generalize vB B64 w/vB B64 v=D at*
  generalize vB B64 w%vB B64 v=E at*
  rw [←hdm]
  generalize vB B64 v=V
  generalize(B64:Int)^j=P
  rw [Int.mul_add P E,Int.mul_add P D,Int.mul_add V (P*D),Int.mul_left_comm P V D,Int.mul_assoc P B64 C,Int.add_assoc,Int.add_assoc,Int.add_assoc]
 ·refine Ev.congr (f:=fun k=>(exact_step.f k w v).bind fun bt=>some (bt.1,u.take j++bt.2++u.drop (j+(N+2)+1))) (fun k=>?_) (Ev.bind z4 (Ev.now _))
  unfold exact_stepAt.f
  rw [Int.toNat_natCast,Int.toNat_natCast,←hw]
theorem divide_l1 {M:Int} {L Lq N s Q R:Nat} {v:List Int} (hv:Dig B64 v) (hN:v.length=N+2) (ln:N≤1099511627000) (ht:rd v ((N+1:Nat):Int)≠0) (hs:s≤63) (hL:L≤1099511627780) (hLq:Lq+(N+2)=L) (hLq1:1≤Lq)
  (hQ:M/vB B64 v=Q) (hR:M%vB B64 v=2^s*R):∀(J:Nat) (u q:List Int),J≤Lq→Long M (vB B64 v) L Lq u q J→Ev (fun k=>exact_divide.l1 k (s:Int) v u ((N+2:Nat):Int) q ((J:Int)-1)) (d64 Q,d64 R):=by
 have hB:(0:Int)<B64:=by decide
 have hV1:=vB_lt hB hv
 rw [hN]at hV1
 intro J
 induction J with
 |zero=>
  intro u q hJ h
  obtain⟨hl,hd,hlq,hdq,hlt,hM⟩:=h
  rw [List.drop_zero]at hlt hM
  rw [Int.pow_zero,Int.one_mul]at hM
  have hu0:=vB_nonneg (Int.le_of_lt hB) hd
  have hV0:vB B64 v≠0:=by clear hV1;omega
  have eQ:vB B64 q=Q:=by
   rw [←hQ,hM,Int.add_mul_ediv_left _ _ hV0,Int.ediv_eq_zero_of_lt hu0 hlt,Int.zero_add]
  have eR:vB B64 u=2^s*R:=by
   rw [←hR,hM,Int.add_mul_emod_self_left,Int.emod_eq_of_lt hu0 hlt]
  have hNl:N+2+1≤u.length:=by clear hV1 hlt hM;omega
  have s1:=vB_split B64 u (N+2) (by clear hV1 hlt hM;omega)
  have p1:=vB_nonneg (Int.le_of_lt hB) (Dig_take hd (N+2))
  have p2:=vB_nonneg (Int.le_of_lt hB) (Dig_drop hd (N+2))
  have hz:vB B64 (u.drop (N+2))=0:=by
   rcases Int.lt_or_le (vB B64 (u.drop (N+2))) 1 with h|h
   ·clear hV1 s1 hM hlt;omega
   ·exfalso
    have:=Int.mul_le_mul_of_nonneg_left h (Int.le_of_lt (show(0:Int)<B64^(N+2)from Int.pow_pos hB))
    rw [Int.mul_one]at this
    generalize(B64:Int)^(N+2)=P at*
    generalize P*vB B64 (u.drop (N+2))=A at*
    clear hM eR
    omega
  have hz2:rd u ((N+2:Nat):Int)=0:=by
   have s3:=drop_succ B64 u (N+2) (by clear hV1 hlt hM s1;omega)
   obtain⟨x0,x1⟩:=Dig_rd hd (N+2) (by clear hV1 hlt hM s1;omega)
   have p3:=Int.mul_nonneg (Int.le_of_lt hB) (vB_nonneg (Int.le_of_lt hB) (Dig_drop hd (N+2+1)))
   rw [hz]at s3
   clear hV1 hlt hM s1;omega
  rw [hz,Int.mul_zero,Int.add_zero]at s1
  have c1:¬(((0:Nat):Int)-1≥0):=by decide
  refine Ev.step (f:=fun k=>exact_divide.l2 k (s:Int) u ((N+2:Nat):Int) q ((N+2:Nat):Int) ((0:Nat):Int)) (fun k=>?_) (divide_l2 hs hd hNl (by clear hV1 hlt hM s1;omega) hdq (by clear hV1 hlt hM s1;omega) eQ (by rw [hz2,←s1,Int.zero_emod,Int.mul_zero,Int.add_zero];exact eR) (N+2) 0 u (Nat.zero_add _) ⟨rfl,hd,fun _ _=>rfl,?_⟩)
  ·simp only [exact_divide.l1]
   rw [if_neg c1]
   rfl
  ·have h0:rd u ((0:Nat):Int)%2^s=0:=by
    have s3:=drop_succ B64 u 0 (by clear hV1 hlt hM s1;omega)
    rw [List.drop_zero,eR]at s3
    obtain⟨c,hc⟩:∃c,c*2^s=B64:=⟨2^(64-s),by
     rw [←Int.pow_add]
     have:64-s+s=64:=by clear hV1 hlt hM s1;omega
     rw [this]
     rfl⟩
    have:rd u ((0:Nat):Int)=2^s*(R-c*vB B64 (u.drop 1)):=by
     rw [show 0+1=1 from rfl]at s3
     generalize vB B64 (u.drop 1)=X at*
     rw [←hc]at s3
     rw [Int.mul_sub,←Int.mul_assoc,Int.mul_comm (2^s) c]
     clear hV1 hlt hM s1;omega
    rw [this]
    exact Int.mul_emod_right _ _
   rw [h0]
   simp [vB]
 |succ j ih=>
  intro u q hJ h
  have hj:j+(N+2)+1≤L:=by clear hV1;omega
  have e0:((j+1:Nat):Int)-1=(j:Int):=by clear hV1;omega
  have hl:=h.1
  have hlq:=h.2.2.1
  have c1:(j:Int)≥0:=by clear hV1;omega
  have c2:(j:Int)≤((j+(N+2)+1:Nat):Int):=by clear hV1;omega
  have c3:((j+(N+2)+1:Nat):Int)≤(u.length:Int):=by clear hV1;omega
  have c4:(j:Int)<(q.length:Int):=by clear hV1;omega
  have e1:wrap64 ((j:Int)+((N+2:Nat):Int))=((j+(N+2):Nat):Int):=by clear hV1;rw [w64 (by omega) (by omega)];omega
  have e2:wrap64 (((j+(N+2):Nat):Int)+1)=((j+(N+2)+1:Nat):Int):=by clear hV1 e1;rw [w64 (by omega) (by omega)];omega
  have e3:wrap64 ((j:Int)-1)=(j:Int)-1:=by clear hV1 e1 e2;exact w64 (by omega) (by omega)
  obtain⟨d,u',h',hev⟩:=long_step hv hN ln ht hj (by clear hV1 e1 e2 e3;omega) h
  rw [e0]
  refine Ev.step (f:=fun k=>(exact_stepAt.f k u v (j:Int) ((j+(N+2)+1:Nat):Int)).bind fun bt200=>exact_divide.l1 k (s:Int) v bt200.2 ((N+2:Nat):Int) (q.set j bt200.1) ((j:Int)-1)) (fun k=>?_) (Ev.bind hev (ih u' _ (by clear hV1 e1 e2 e3;omega) h'))
  simp only [exact_divide.l1,e1,e2,e3]
  rw [if_pos c1,if_pos c1,if_pos c2,if_pos c3]
  simp only [if_pos c4,Int.toNat_natCast]
theorem divide_ev {m n:Nat} (hm:(d64 m).length≤1099511627000) (hn:(d64 n).length≤1099511627000) (n0:0<n):Ev (fun k=>exact_divide.f k (d64 m) (d64 n)) (d64 (m/n),d64 (m%n)):=by
 have hB:(0:Int)<B64:=by decide
 refine Ev.bind (compareWords_ev (by omega) (by omega)) ?_
 by_cases hlt:m<n
 ·refine Ev.congr (fun k=>if_pos (show cmpN m n<0 by unfold cmpN;rw [if_pos hlt];decide)) ?_
  rw [Nat.div_eq_of_lt hlt,Nat.mod_eq_of_lt hlt,d64_zero]
  exact Ev.now _
 refine Ev.congr (fun k=>if_neg (show¬cmpN m n<0 by unfold cmpN;rw [if_neg hlt];split<;>decide)) ?_
 have hpos:0<(d64 n).length:=by
  rcases Nat.eq_zero_or_pos (d64 n).length with h|h
  ·exfalso
   have:=d64_val n
   rw [List.eq_nil_of_length_eq_zero h]at this
   simp [vB]at this
   omega
  ·exact h
 have hle:(d64 n).length≤(d64 m).length:=d64_len_mono (by omega)
 by_cases h1:(d64 n).length=1
 ·refine Ev.congr (fun k=>if_pos (show((d64 n).length:Int)=1 by omega)) ?_
  have hy:vB B64 (d64 n)=rd (d64 n) 0:=by
   have:=drop_succ B64 (d64 n) 0 (by omega)
   rw [List.drop_zero,vB_far _ (by omega),Int.mul_zero,Int.add_zero]at this
   exact this
  rw [d64_val]at hy
  obtain⟨y0,y1⟩:=Dig_rd (d64_dig n) 0 (by omega)
  have y0':0<rd (d64 n) 0:=by omega
  have e1:wrap64 (((d64 m).length:Int)-1)=((d64 m).length:Int)-1:=w64 (by omega) (by omega)
  refine Ev.congr (f:=fun k=>exact_divide.l0 k (d64 m) (d64 n) (List.replicate (d64 m).length 0) 0 (((d64 m).length:Int)-1)) (fun k=>?_) (divide_l0 (d64_dig m) (by omega) h1 rfl y0' y1 (d64_val m) hy.symm (d64 m).length _ 0 (Nat.le_refl _) (by simp) (Dig_replicate hB _) (Int.le_refl 0) y0' (by rw [vB_far _ (Nat.le_refl _),vB_far _ (by simp)];simp))
  rw [if_pos (Int.natCast_nonneg _),Int.toNat_natCast,if_pos (by omega),e1]
 ·refine Ev.congr (fun k=>if_neg (show¬((d64 n).length:Int)=1 by omega)) ?_
  obtain⟨N,hN⟩:∃N,(d64 n).length=N+2:=⟨(d64 n).length-2,by omega⟩
  have e1:wrap64 (((d64 n).length:Int)-1)=((N+1:Nat):Int):=by rw [w64 (by omega) (by omega)];omega
  have htop:=d64_trim n hpos
  rw [hN,show N+2-1=N+1 by omega]at htop
  obtain⟨t0,t1⟩:=Dig_rd (d64_dig n) (N+1) (by omega)
  obtain⟨s,hs,hlz,n1,n2⟩:=norm_word (show 0<rd (d64 n) ((N+1:Nat):Int)by omega) t1
  obtain⟨b,b1,b2,b3,b4⟩:=shiftUp_ev (d64 n) (d64_dig n) (by omega) s hs
  obtain⟨a,a1,a2,a3,a4⟩:=shiftUp_ev (d64 m) (d64_dig m) (by omega) s hs
  rw [d64_val]at a3 b3
  have hb:vB B64 b=((n*2^s:Nat):Int):=by rw [b3,Int.natCast_mul,Int.natCast_pow];rfl
  have tb:=trim_ev b2 (by omega)
  rw [hb,Int.toNat_natCast]at tb
  have hlen:(d64 (n*2^s)).length=N+2:=by
   have g1:(d64 n).length≤(d64 (n*2^s)).length:=d64_len_mono (Nat.le_mul_of_pos_right n (Nat.two_pow_pos s))
   have g2:(d64 (n*2^s)).length≤N+2:=by
    apply dgs_len
    have h2:vB B64 (d64 n)*2^s<B64^(N+2):=by
     have h3:=vB_all B64 (d64 n) (N+1+1) (by omega)
     have hp:(B64:Int)^(N+2)=B64^(N+1)*B64:=Int.pow_succ _ _
     rw [←h3,take_succ,Int.add_mul,hp,Int.mul_assoc]
     have h4:=vB_lt hB (Dig_take (d64_dig n) (N+1))
     rw [List.length_take,Nat.min_eq_left (by omega)]at h4
     have hP:(0:Int)<2^s:=Int.pow_pos (by decide)
     obtain⟨c,hc⟩:∃c,c*2^s=B64:=⟨2^(64-s),by
      rw [←Int.pow_add]
      have:64-s+s=64:=by omega
      rw [this]
      rfl⟩
     have h5:rd (d64 n) ((N+1:Nat):Int)*2^s+2^s≤B64:=by
      have n2':rd (d64 n) ((N+1:Nat):Int)*2^s<B64:=n2
      rw [←hc]at n2'⊢
      have h6:rd (d64 n) ((N+1:Nat):Int)<c:=Int.lt_of_mul_lt_mul_right n2' (Int.le_of_lt hP)
      have h7:=Int.mul_le_mul_of_nonneg_right (show rd (d64 n) ((N+1:Nat):Int)+1≤c by omega) (Int.le_of_lt hP)
      rwa [Int.add_mul,Int.one_mul]at h7
     have h8:=Int.mul_lt_mul_of_pos_right h4 hP
     have h9:=Int.mul_le_mul_of_nonneg_left h5 (Int.le_of_lt (show(0:Int)<B64^(N+1)from Int.pow_pos hB))
     rw [Int.mul_add]at h9
     generalize vB B64 ((d64 n).take (N+1))*2^s=A at*
     generalize(B64:Int)^(N+1)*(rd (d64 n) ((N+1:Nat):Int)*2^s)=A1 at*
     generalize(B64:Int)^(N+1)*2^s=A2 at*
     generalize(B64:Int)^(N+1)*B64=A3 at*
     clear h4 h3
     omega
    rw [d64_val]at h2
    have h3:((n*2^s:Nat):Int)<((18446744073709551614+2:Nat):Int)^(N+2):=by rw [Int.natCast_mul,Int.natCast_pow];exact h2
    exact_mod_cast h3
   omega
  have hvt:=d64_trim (n*2^s) (by omega)
  rw [hlen,show N+2-1=N+1 by omega]at hvt
  have e2:wrap64 (((d64 m).length:Int)-((d64 (n*2^s)).length:Int))=(((d64 m).length-(N+2)+1:Nat):Int)-1:=by rw [w64 (by omega) (by omega)];omega
  have e3:wrap64 ((((d64 m).length-(N+2)+1:Nat):Int)-1+1)=(((d64 m).length-(N+2)+1:Nat):Int):=by rw [w64 (by omega) (by omega)];omega
  have hV:vB B64 (d64 (n*2^s))=(n:Int)*2^s:=by rw [d64_val,Int.natCast_mul,Int.natCast_pow];rfl
  have hP:(0:Int)<2^s:=Int.pow_pos (by decide)
  have dQ:(m:Int)*2^s/vB B64 (d64 (n*2^s))=((m/n:Nat):Int):=by rw [hV,Int.mul_ediv_mul_of_pos_left _ _ hP];rfl
  have dR:(m:Int)*2^s%vB B64 (d64 (n*2^s))=2^s*((m%n:Nat):Int):=by rw [hV,Int.mul_comm (m:Int),Int.mul_comm (n:Int),Int.mul_emod_mul_of_pos _ _ hP];rfl
  have start:Long ((m:Int)*2^s) (vB B64 (d64 (n*2^s))) ((d64 m).length+1) ((d64 m).length-(N+2)+1) a (List.replicate ((d64 m).length-(N+2)+1) 0) ((d64 m).length-(N+2)+1):=by
   refine⟨a1,a2,by simp,Dig_replicate hB _,?_,?_⟩
   ·
    have h1:=vB_split B64 a ((d64 m).length-(N+2)+1) (by omega)
    have h2:=vB_nonneg (Int.le_of_lt hB) (Dig_take a2 ((d64 m).length-(N+2)+1))
    have h3:=vB_lt hB (d64_dig m)
    have h4:=trim_le hB (d64_dig n) (d64_trim n) hpos
    rw [d64_val]at h3 h4
    rw [hN,show N+2-1=N+1 by omega]at h4
    rw [a3]at h1
    have h5:(B64:Int)^(d64 m).length=B64^((d64 m).length-(N+2)+1)*B64^(N+1):=by rw [←Int.pow_add];congr 1;omega
    rw [h5]at h3
    have h6:=Int.mul_lt_mul_of_pos_right h3 hP
    rw [Int.mul_assoc]at h6
    have h7:=Int.mul_le_mul_of_nonneg_right h4 (Int.le_of_lt hP)
    rw [hV]
    have hC:(0:Int)<B64^((d64 m).length-(N+2)+1):=Int.pow_pos hB
    have h8:B64^((d64 m).length-(N+2)+1)*vB B64 (a.drop ((d64 m).length-(N+2)+1))<B64^((d64 m).length-(N+2)+1)*(B64^(N+1)*2^s):=by
     generalize B64^((d64 m).length-(N+2)+1)*vB B64 (a.drop ((d64 m).length-(N+2)+1))=A at*
     generalize B64^((d64 m).length-(N+2)+1)*(B64^(N+1)*2^s)=A1 at*
     generalize(m:Int)*2^s=A2 at*
     clear h5 h7 hC h4 h3
     omega
    exact Int.lt_of_lt_of_le (Int.lt_of_mul_lt_mul_left h8 (Int.le_of_lt hC)) h7
   ·rw [a3,vB_far _ (by simp),Int.mul_zero,Int.mul_zero,Int.add_zero]
  have key:=divide_l1 (d64_dig (n*2^s)) hlen (by omega) hvt hs (by omega) (by omega) (by omega) dQ dR _ _ _ (Nat.le_refl _) start
  refine Ev.congr (f:=fun k=>(exact_shiftUp.f k (d64 n) (s:Int)).bind fun t184=>((exact_trim.f k t184).bind fun t187=>((exact_shiftUp.f k (d64 m) (s:Int)).bind fun t190=>(if 0≤(wrap64 ((wrap64 (((d64 m).length:Int)-(t187.length:Int)))+1))then(if(wrap64 ((wrap64 (((d64 m).length:Int)-(t187.length:Int)))+1):Int).toNat≤35184372088832 then(exact_divide.l1 k (s:Int) t187 t190 (t187.length:Int) (List.replicate (wrap64 ((wrap64 (((d64 m).length:Int)-(t187.length:Int)))+1):Int).toNat 0) (wrap64 (((d64 m).length:Int)-(t187.length:Int))))else(none))else(none))))) (fun k=>?_) (Ev.bind b4 (Ev.bind tb (Ev.bind a4 ?_)))
  ·rw [e1,if_pos (Int.natCast_nonneg _),if_pos (by omega),hlz,Option.bind_some]
  ·refine Ev.congr (fun k=>?_) key
   rw [e2,e3,if_pos (Int.natCast_nonneg _),Int.toNat_natCast,if_pos (by omega)]
   rw [show((d64 (n*2^s)).length:Int)=((N+2:Nat):Int)by omega]
theorem NatDivMod_ev {m n:Nat} (hm:(nat m).size≤1099511627776) (hn:(nat n).size≤1099511627776) (n0:0<n):Ev (fun k=>exact_NatDivMod.f k (nat m) (nat n)) (nat (m/n),nat (m%n)):=by
 have lm:=words_len m
 have ln:=words_len n
 have h1:(d64 (m/n)).length≤(d64 m).length:=d64_len_mono (Nat.div_le_self _ _)
 have h2:(d64 (m%n)).length≤(d64 n).length:=d64_len_mono (Nat.le_of_lt (Nat.mod_lt _ n0))
 have p1:=pack_ev (d64_dig (m/n)) (by omega)
 have p2:=pack_ev (d64_dig (m%n)) (by omega)
 rw [d64_val,Int.toNat_natCast]at p1 p2
 exact Ev.bind (words_nat hm) (Ev.bind (words_nat hn) (Ev.bind (divide_ev (by omega) (by omega) n0) (Ev.bind p1 (Ev.bind p2 (Ev.now _)))))
theorem Gcd_l0:∀(n m:Nat),(d64 m).length≤1099511627000→(d64 n).length≤1099511627000→Ev (fun k=>exact_NatGcd.l0 k (d64 m) (d64 n)) (nat (Nat.gcd m n)):=by
 intro n
 induction n using Nat.strongRecOn with
 |_ n ih=>
  intro m hm hn
  by_cases h:n=0
  ·subst h
   have p:=pack_ev (d64_dig m) (by omega)
   rw [d64_val,Int.toNat_natCast]at p
   rw [Nat.gcd_zero_right]
   refine Ev.step (f:=fun k=>(exact_pack.f k (d64 m)).bind fun t=>some t) (fun k=>?_) (Ev.bind p (Ev.now _))
   simp only [exact_NatGcd.l0]
   rw [d64_zero,if_neg (by decide)]
  ·have hpos:0<(d64 n).length:=by
    rcases Nat.eq_zero_or_pos (d64 n).length with h1|h1
    ·exfalso
     have:=d64_val n
     rw [List.eq_nil_of_length_eq_zero h1]at this
     simp [vB]at this
     omega
    ·exact h1
   have hlt:=Nat.mod_lt m (Nat.pos_of_ne_zero h)
   have hl:(d64 (m%n)).length≤(d64 n).length:=d64_len_mono (Nat.le_of_lt hlt)
   have e:Nat.gcd m n=Nat.gcd n (m%n):=by rw [Nat.gcd_comm m n,Nat.gcd_rec n m,Nat.gcd_comm]
   rw [e]
   refine Ev.step (f:=fun k=>(exact_divide.f k (d64 m) (d64 n)).bind fun bt264=>exact_NatGcd.l0 k (d64 n) bt264.2) (fun k=>?_) (Ev.bind (divide_ev hm hn (Nat.pos_of_ne_zero h)) (ih (m%n) hlt n hn (by omega)))
   simp only [exact_NatGcd.l0]
   rw [if_pos (by omega)]
theorem NatGcd_ev {m n:Nat} (hm:(nat m).size≤1099511627776) (hn:(nat n).size≤1099511627776):Ev (fun k=>exact_NatGcd.f k (nat m) (nat n)) (nat (Nat.gcd m n)):=by
 have lm:=words_len m
 have ln:=words_len n
 exact Ev.bind (words_nat hm) (Ev.bind (words_nat hn) (Gcd_l0 n m (by omega) (by omega)))
theorem nat_empty {n:Nat}:(nat n).toList=([]:List UInt8)↔n=0:=by rw [toList_nil,nat_size_zero]
theorem len_mul (m n:Nat):(d64 (m*n)).length≤(d64 m).length+(d64 n).length:=by
 apply dgs_len
 have h1:=dgs_lt 18446744073709551614 m
 have h2:=dgs_lt 18446744073709551614 n
 rw [Nat.pow_add]
 exact Nat.lt_of_le_of_lt (Nat.mul_le_mul_right _ (Nat.le_of_lt h1)) (Nat.mul_lt_mul_of_pos_left h2 (Nat.lt_of_le_of_lt (Nat.zero_le _) h1))
theorem d64_one:d64 1=[1]:=by
 unfold d64
 rw [dgs_pos _ _ (by decide),show 1/(18446744073709551614+2)=0 from rfl,dgs_zero]
 rfl
theorem wraps_i64 (n:Int) (h0:0≤n) (h1:n<2^63):IntKind.i64.wrap n=n:=by rw [IntKind.wrap_i64];omega
theorem odd_bit (e:Nat) (h:e<9223372036854775808):Go.bits .and .i64 (e:Int) 1=((e%2:Nat):Int):=by
 have:=bits_mask .i64 63 (by decide) wraps_i64 1 (by decide) (e:Int) (by omega) (by omega)
 have e1:(2:Int)^1-1=1:=rfl
 rw [e1]at this
 rw [this]
 omega
theorem NatPow_l0:∀(e A X:Nat),e<9223372036854775808→(d64 A).length+2*e*(d64 X).length≤1000000000000→(d64 X).length≤1000000000000→Ev (fun k=>exact_NatPow.l0 k (e:Int) (d64 A) (d64 X)) (nat (A*X^e)):=by
 intro e
 induction e using Nat.strongRecOn with
 |_ e ih=>
  intro A X he hl hx
  by_cases h:e=0
  ·subst h
   have p:=pack_ev (d64_dig A) (by omega)
   rw [d64_val,Int.toNat_natCast]at p
   rw [Nat.pow_zero,Nat.mul_one]
   refine Ev.step (f:=fun k=>(exact_pack.f k (d64 A)).bind fun t=>some t) (fun k=>?_) (Ev.bind p (Ev.now _))
   simp only [exact_NatPow.l0]
   rw [if_neg (by decide)]
  ·have c1:(e:Int)>0:=by omega
   have hb:=odd_bit e he
   have e2:(e:Int)/2=((e/2:Nat):Int):=by omega
   have lXX:=len_mul X X
   have lAX:=len_mul A X
   have hX:(d64 X).length≤e*(d64 X).length:=Nat.le_mul_of_pos_left _ (Nat.pos_of_ne_zero h)
   have h2:2*e*(d64 X).length=2*(e*(d64 X).length):=Nat.mul_assoc _ _ _
   have hhalf:2*(e/2)*(d64 (X*X)).length≤4*(e/2*(d64 X).length):=by
    have:=Nat.mul_le_mul_left (2*(e/2)) lXX
    have e3:2*(e/2)*((d64 X).length+(d64 X).length)=4*(e/2*(d64 X).length):=by
     rw [Nat.mul_add,Nat.mul_assoc]
     omega
    omega
   have hcut:2*(e/2*(d64 X).length)+e%2*(d64 X).length=e*(d64 X).length:=by
    rw [←Nat.mul_assoc,←Nat.add_mul]
    congr 1
    omega
   rw [h2]at hl
   have sq:=mulWords_d64 (m:=X) (n:=X) (by omega) (by omega)
   by_cases ho:e%2=1
   ·rw [ho,Nat.one_mul]at hcut
    have ax:=mulWords_d64 (m:=A) (n:=X) (by omega) (by omega)
    have hp:A*X^e=A*X*(X*X)^(e/2):=by
     have:X^e=X*(X*X)^(e/2):=by
      rw [←Nat.pow_two,←Nat.pow_mul,Nat.mul_comm X,←Nat.pow_succ]
      congr 1
      omega
     rw [this,Nat.mul_assoc]
    rw [hp]
    refine Ev.step (f:=fun k=>(exact_mulWords.f k (d64 A) (d64 X)).bind fun t301=>((exact_mulWords.f k (d64 X) (d64 X)).bind fun t304=>exact_NatPow.l0 k ((e/2:Nat):Int) t301 t304)) (fun k=>?_) (Ev.bind ax (Ev.bind sq (ih (e/2) (by omega) _ _ (by omega) (by omega) (by omega))))
    simp only [exact_NatPow.l0,hb,e2]
    rw [if_pos c1,if_pos (by rw [ho];rfl)]
   ·have ho':e%2=0:=by omega
    rw [ho',Nat.zero_mul,Nat.add_zero]at hcut
    have hp:A*X^e=A*(X*X)^(e/2):=by
     have:X^e=(X*X)^(e/2):=by
      rw [←Nat.pow_two,←Nat.pow_mul]
      congr 1
      omega
     rw [this]
    rw [hp]
    refine Ev.step (f:=fun k=>(exact_mulWords.f k (d64 X) (d64 X)).bind fun t307=>exact_NatPow.l0 k ((e/2:Nat):Int) (d64 A) t307) (fun k=>?_) (Ev.bind sq (ih (e/2) (by omega) _ _ (by omega) (by omega) (by omega)))
    simp only [exact_NatPow.l0,hb,e2]
    rw [if_pos c1,if_neg (by rw [ho'];decide)]
theorem NatPow_ev {m e:Nat} (hm:(nat m).size≤100000) (he:e≤100000):Ev (fun k=>exact_NatPow.f k (nat m) (e:Int)) (nat (m^e)):=by
 have lm:=words_len m
 refine Ev.bind (words_nat (by omega)) ?_
 have h1:2*e*(d64 m).length≤200000*100000:=Nat.mul_le_mul (by omega) (by omega)
 have:=NatPow_l0 e 1 m (by omega) (by rw [d64_one];show 1+_≤_;omega) (by omega)
 rw [d64_one,Nat.one_mul]at this
 exact this
def bl (n:Nat):Nat:=if n=0 then 0 else n.log2+1
theorem bl_lt (n:Nat):n<2^bl n:=by
 unfold bl
 split
 ·subst_vars;decide
 ·exact Nat.lt_log2_self
theorem bl_le {n:Nat} (h:n≠0):1≤bl n∧2^(bl n-1)≤n:=by
 unfold bl
 rw [if_neg h]
 exact⟨by omega,by simpa using Nat.log2_self_le h⟩
theorem bl_unique {n b:Nat} (h:n≠0) (hb:1≤b) (h1:2^(b-1)≤n) (h2:n<2^b):bl n=b:=by
 obtain⟨g1,g2⟩:=bl_le h
 have g3:=bl_lt n
 have k1:b-1<bl n:=(Nat.pow_lt_pow_iff_right (by decide:1<2)).1 (Nat.lt_of_le_of_lt h1 g3)
 have k2:bl n-1<b:=(Nat.pow_lt_pow_iff_right (by decide:1<2)).1 (Nat.lt_of_le_of_lt g2 h2)
 omega
theorem bl_size {n:Nat}:bl n≤8*(nat n).size:=by
 by_cases h:n=0
 ·subst h;simp [bl]
 ·have h1:=nat_lt_size n
  obtain⟨g1,g2⟩:=bl_le h
  have e:256^(nat n).size=2^(8*(nat n).size):=by rw [Nat.pow_mul]
  rw [e]at h1
  have k2:bl n-1<8*(nat n).size:=(Nat.pow_lt_pow_iff_right (by decide:1<2)).1 (Nat.lt_of_le_of_lt g2 h1)
  omega
theorem NatBits_eq {n:Nat} (hn:(nat n).size≤1099511627776):exact_NatBits.f (nat n)=some (bl n:Int):=by
 unfold exact_NatBits.f
 by_cases h:n=0
 ·rw [if_pos (nat_empty.2 h),h]
  rfl
 ·have hp:0<(nat n).size:=Nat.pos_of_ne_zero fun h0=>h (nat_size_zero.1 h0)
  have hl:=nat_size n
  rw [if_neg (fun h0=>h (nat_empty.1 h0)),if_pos (by omega)]
  have ht:bt (nat n) 0=rd (d8 n) (((nat n).size-1:Nat):Int):=by
   have:=rd_reverse (d8 n) 0 (by omega)
   rw [bt_rd,nat_bytes]
   rw [show(d8 n).length-1-0=(nat n).size-1 by omega]at this
   exact this
  have hne:bt (nat n) 0≠0:=by
   rcases nat_wf n with h1|h1
   ·omega
   ·exact h1
  obtain⟨b0,b1⟩:=bt_range (nat n) 0
  obtain⟨t,ht2⟩:=Int.eq_ofNat_of_zero_le b0
  rw [ht2]at ht hne b1⊢
  have hv:=vB_all 256 (d8 n) ((nat n).size-1+1) (by omega)
  rw [take_succ,d8_val,←ht]at hv
  have lo0:=vB_nonneg (show(0:Int)≤256 by decide) (Dig_take (d8_dig n) ((nat n).size-1))
  have lo1:=vB_lt (show(0:Int)<256 by decide) (Dig_take (d8_dig n) ((nat n).size-1))
  rw [List.length_take,Nat.min_eq_left (by omega)]at lo1
  obtain⟨l,hlo⟩:=Int.eq_ofNat_of_zero_le lo0
  rw [hlo]at hv lo1
  have hv':l+256^((nat n).size-1)*t=n:=by
   apply Int.ofNat_inj.1
   rw [Int.natCast_add,Int.natCast_mul,Int.natCast_pow]
   exact hv
  have lo1':l<256^((nat n).size-1):=by
   apply Int.ofNat_lt.1
   rw [Int.natCast_pow]
   exact lo1
  obtain⟨h1,h2,h3⟩:=Lib.bitLenAux_bounds 64 t (by omega) (by omega)
  have h4:Lib.bitLen t≤8:=Lib.bitLen_le t 8 (by decide) (by omega)
  have eb:Lib.bitLenAux 64 t=Lib.bitLen t:=rfl
  rw [eb]at h1 h2 h3
  generalize hL:Lib.bitLen t=L at*
  have hb:bl n=8*((nat n).size-1)+L:=by
   have e8:256^((nat n).size-1)=2^(8*((nat n).size-1)):=by rw [Nat.pow_mul]
   rw [e8]at hv' lo1'
   apply bl_unique h (by omega)
   ·rw [show 8*((nat n).size-1)+L-1=8*((nat n).size-1)+(L-1)by omega,Nat.pow_add]
    have:=Nat.mul_le_mul_left (2^(8*((nat n).size-1))) h2
    omega
   ·rw [Nat.pow_add]
    have:=Nat.mul_le_mul_left (2^(8*((nat n).size-1))) (show t+1≤2^L by omega)
    rw [Nat.mul_add,Nat.mul_one]at this
    omega
  unfold bits_Len8.f
  rw [if_pos (by omega),Option.bind_some,Int.toNat_natCast,hL,hb]
  clear hv' lo1' hv lo1 h2 h3 hb
  rw [w64 (x:=((nat n).size:Int)-1) (by omega) (by omega),w64 (x:=8*(((nat n).size:Int)-1)) (by omega) (by omega),w64 (by omega) (by omega)]
  congr 1
  omega
theorem str_nat {l:List Int} {n:Nat} (hd:Dig 256 l) (ht:0<l.length→rd l 0≠0) (hv:vB 256 l.reverse=n):strOfNums l=nat n:=by
 have:l.reverse=d8 n:=by
  refine d8_unique (Dig_reverse hd) (fun hp=>?_) hv
  rw [List.length_reverse]at hp⊢
  have:=rd_reverse l (l.length-1) (by omega)
  rw [show l.length-1-(l.length-1)=0 by omega]at this
  rw [this]
  exact ht hp
 unfold nat
 rw [←this,List.reverse_reverse]
theorem NatTwo_eq {b:Nat} (hb:b≤1099511627776):exact_NatTwo.f (b:Int)=some (nat (2^b)):=by
 have hr:b%8<8:=Nat.mod_lt _ (by decide)
 have e1:Int.tdiv (b:Int) 8=((b/8:Nat):Int):=by rw [Int.tdiv_eq_ediv_of_nonneg (by omega)];omega
 have e2:Int.tmod (b:Int) 8=((b%8:Nat):Int):=by rw [Int.tmod_eq_emod_of_nonneg (by omega)];omega
 have e3:wrap64 ((b/8:Nat):Int)=((b/8:Nat):Int):=w64 (by omega) (by omega)
 have e4:wrap64 (((b/8:Nat):Int)+1)=((b/8+1:Nat):Int):=by rw [w64 (by omega) (by omega)];omega
 have e5:shl .u8 1 ((b%8:Nat):Int)=((2^(b%8):Nat):Int):=by
  have:b%8=0∨b%8=1∨b%8=2∨b%8=3∨b%8=4∨b%8=5∨b%8=6∨b%8=7:=by omega
  rcases this with h|h|h|h|h|h|h|h<;>rw [h]<;>decide
 have hx:1≤2^(b%8)∧2^(b%8)<256:=by
  have:b%8=0∨b%8=1∨b%8=2∨b%8=3∨b%8=4∨b%8=5∨b%8=6∨b%8=7:=by omega
  rcases this with h|h|h|h|h|h|h|h<;>rw [h]<;>decide
 unfold exact_NatTwo.f
 rw [e1,e2,e3,e4,if_pos (Int.natCast_nonneg _),Int.toNat_natCast,if_pos (by omega),Option.bind_some,if_pos (Int.natCast_nonneg _),if_pos (by rw [List.length_replicate];omega),e5]
 congr 1
 have hs:(List.replicate (b/8+1) (0:Int)).set (0:Int).toNat ((2^(b%8):Nat):Int)=((2^(b%8):Nat):Int)::List.replicate (b/8) 0:=by
  rw [List.replicate_succ]
  rfl
 rw [hs]
 apply str_nat
 ·exact Dig_cons.2 ⟨⟨by omega,by omega⟩,Dig_replicate (by decide) _⟩
 ·intro _
  show((2^(b%8):Nat):Int)≠0
  omega
 ·rw [List.reverse_cons,List.reverse_replicate,vB_append,vB_replicate,List.length_replicate]
  have:(2:Nat)^b=256^(b/8)*2^(b%8):=by
   have e8:(256:Nat)^(b/8)=2^(8*(b/8)):=by rw [Nat.pow_mul]
   rw [e8,←Nat.pow_add,Nat.div_add_mod]
  rw [this,Int.natCast_mul,Int.natCast_pow]
  simp [vB]
theorem NatRoot_l0 {n K:Nat} (hK:1≤K) (hK1:K≤4096) (hn:(nat n).size≤4096):∀(c low:Nat),c≤bl n+1→low^K≤n→n<(low+2^c)^K→∃r,r^K≤n∧n<(r+1)^K∧Ev (fun k=>exact_NatRoot.l0 k (nat n) (K:Int) (nat low) ((c:Int)-1)) (nat r):=by
 intro c
 induction c with
 |zero=>
  intro low _ h1 h2
  refine⟨low,h1,h2,Ev.step (f:=fun _=>some (nat low)) (fun k=>?_) (Ev.now _)⟩
  simp only [exact_NatRoot.l0]
  rw [if_neg (by decide)]
 |succ c ih=>
  intro low hc h1 h2
  have e0:((c+1:Nat):Int)-1=(c:Int):=by omega
  have hbl:=bl_size (n:=n)
  have e1:wrap64 ((c:Int)-1)=(c:Int)-1:=w64 (by omega) (by omega)
  have hlow:low≤n:=Nat.le_trans (Nat.le_self_pow (by omega) low) h1
  have hs1:=size_mono hlow
  have hs2:(nat (2^c)).size≤(nat n).size+1:=by
   apply nat_size_le.2
   have g:(256:Nat)^((nat n).size+1)=2^(8*((nat n).size+1)):=by rw [Nat.pow_mul]
   rw [g]
   exact Nat.pow_lt_pow_right (by decide) (by omega)
  have hs3:=size_add (m:=low) (n:=2^c)
  have t1:=NatTwo_eq (b:=c) (by omega)
  have t2:=NatAdd_ev (m:=low) (n:=2^c) (by omega) (by omega)
  have t3:=NatPow_ev (m:=low+2^c) (e:=K) (by omega) (by omega)
  have t4:=NatCmp_ev ((low+2^c)^K) n
  rw [e0]
  have hadd:low+2^(c+1)=low+2^c+2^c:=by rw [Nat.pow_succ];omega
  by_cases hle:(low+2^c)^K≤n
  ·rw [hadd]at h2
   obtain⟨r,r1,r2,r3⟩:=ih (low+2^c) (by omega) hle h2
   have hcmp:cmpN ((low+2^c)^K) n≤0:=by
    unfold cmpN
    split
    ·decide
    ·rw [if_pos (by omega)];decide
   refine⟨r,r1,r2,Ev.step (f:=fun k=>(exact_NatAdd.f k (nat low) (nat (2^c))).bind fun t344=>((exact_NatPow.f k t344 (K:Int)).bind fun t345=>((exact_NatCmp.f k t345 (nat n)).bind fun t346=>(if t346≤0 then(exact_NatRoot.l0 k (nat n) (K:Int) t344 ((c:Int)-1))else(exact_NatRoot.l0 k (nat n) (K:Int) (nat low) ((c:Int)-1)))))) (fun k=>?_) (Ev.bind t2 (Ev.bind t3 (Ev.bind t4 (Ev.congr (fun k=>if_pos hcmp) r3))))⟩
   simp only [exact_NatRoot.l0,e1]
   rw [if_pos (by omega),t1,Option.bind_some]
  ·obtain⟨r,r1,r2,r3⟩:=ih low (by omega) h1 (by omega)
   have hcmp:¬cmpN ((low+2^c)^K) n≤0:=by
    unfold cmpN
    rw [if_neg (by omega),if_neg (by omega)]
    decide
   refine⟨r,r1,r2,Ev.step (f:=fun k=>(exact_NatAdd.f k (nat low) (nat (2^c))).bind fun t344=>((exact_NatPow.f k t344 (K:Int)).bind fun t345=>((exact_NatCmp.f k t345 (nat n)).bind fun t346=>(if t346≤0 then(exact_NatRoot.l0 k (nat n) (K:Int) t344 ((c:Int)-1))else(exact_NatRoot.l0 k (nat n) (K:Int) (nat low) ((c:Int)-1)))))) (fun k=>?_) (Ev.bind t2 (Ev.bind t3 (Ev.bind t4 (Ev.congr (fun k=>if_neg hcmp) r3))))⟩
   simp only [exact_NatRoot.l0,e1]
   rw [if_pos (by omega),t1,Option.bind_some]
theorem NatRoot_ev {n K:Nat} (hK:1≤K) (hK1:K≤4096) (hn:(nat n).size≤4096):∃r,r^K≤n∧n<(r+1)^K∧Ev (fun k=>exact_NatRoot.f k (nat n) (K:Int)) (nat r):=by
 have hbl:=bl_size (n:=n)
 have hb0:(bl n+K-1)/K≤bl n:=by
  rcases Nat.eq_zero_or_pos (bl n)with h|h
  ·rw [h,Nat.zero_add,Nat.div_eq_of_lt (by omega)]
   exact Nat.le_refl _
  ·apply Nat.div_le_of_le_mul
   have:bl n+K≤K*bl n+1:=by
    obtain⟨j,rfl⟩:∃j,K=j+1:=⟨K-1,by omega⟩
    rw [Nat.add_mul,Nat.one_mul]
    have:=Nat.le_mul_of_pos_right j h
    omega
   omega
 have hbK:bl n≤(bl n+K-1)/K*K:=by
  have h1:=Nat.div_add_mod (bl n+K-1) K
  have h2:=Nat.mod_lt (bl n+K-1) (show K>0 by omega)
  rw [Nat.mul_comm]at h1
  omega
 generalize hB:(bl n+K-1)/K=B at*
 have h2:n<(0+2^(B+1))^K:=by
  rw [Nat.zero_add,←Nat.pow_mul]
  refine Nat.lt_of_lt_of_le (bl_lt n) (Nat.pow_le_pow_right (by decide) ?_)
  rw [Nat.add_mul]
  omega
 obtain⟨r,r1,r2,r3⟩:=NatRoot_l0 hK hK1 hn (B+1) 0 (by omega) (by rw [Nat.zero_pow (by omega)];exact Nat.zero_le _) h2
 refine⟨r,r1,r2,Ev.congr (fun k=>?_) r3⟩
 unfold exact_NatRoot.f
 clear h2 r1 r2 r3
 have c0:(nat n).size≤1099511627776:=by omega
 have c1:¬(K:Int)=0:=by omega
 have c2:(B:Int)=((B+1:Nat):Int)-1:=by omega
 have e1:wrap64 ((bl n:Int)+(K:Int))=((bl n+K:Nat):Int):=by rw [w64 (by omega) (by omega)];omega
 have e2:wrap64 (((bl n+K:Nat):Int)-1)=((bl n+K-1:Nat):Int):=by clear e1;rw [w64 (by omega) (by omega)];omega
 have e3:wrap64 (Int.tdiv ((bl n+K-1:Nat):Int) (K:Int))=(B:Int):=by
  clear e1 e2
  rw [Int.tdiv_eq_ediv_of_nonneg (by omega),←Int.natCast_ediv,hB,w64 (by omega) (by omega)]
 rw [NatBits_eq c0,Option.bind_some,if_neg c1,e1,e2,e3,nat_zero,c2]
theorem root_unique {n K r s:Nat} (hr:r^K≤n) (hr':n<(r+1)^K) (hs:s^K≤n) (hs':n<(s+1)^K):r=s:=by
 rcases Nat.lt_trichotomy r s with h|h|h
 ·have:=Nat.pow_le_pow_left (show r+1≤s by omega) K
  omega
 ·exact h
 ·have:=Nat.pow_le_pow_left (show s+1≤r by omega) K
  omega
theorem size_two {m a s:Nat} (h:(nat m).size≤s) (h2:2^a≤m):a<8*s:=by
 have h1:=nat_size_le.1 h
 have e8:(256:Nat)^s=2^(8*s):=by rw [Nat.pow_mul]
 rw [e8]at h1
 exact(Nat.pow_lt_pow_iff_right (by decide:1<2)).1 (Nat.lt_of_le_of_lt h2 h1)
abbrev B32:Int:=4294967296
def d32 (n:Nat):List Int:=dgs 4294967294 n
theorem d32_dig (n:Nat):Dig B32 (d32 n):=(dgs_spec 4294967294 n).1
theorem d32_trim (n:Nat):Trim (d32 n):=(dgs_spec 4294967294 n).2.1
theorem d32_val (n:Nat):vB B32 (d32 n)=n:=(dgs_spec 4294967294 n).2.2
theorem d32_unique {l:List Int} {n:Nat} (hl:Dig B32 l) (ht:Trim l) (hv:vB B32 l=n):l=d32 n:=dgs_unique hl ht hv
theorem d32_zero:d32 0=[]:=dgs_zero _
theorem d32_len_mono {m n:Nat} (h:m≤n):(d32 m).length≤(d32 n).length:=dgs_len (Nat.lt_of_le_of_lt h (dgs_lt 4294967294 n))
theorem limbs_len (n:Nat):(d32 n).length≤((nat n).size+3)/4:=by
 apply dgs_len
 have h1:=nat_lt_size n
 have h2:256^(nat n).size≤256^(4*(((nat n).size+3)/4)):=Nat.pow_le_pow_right (by decide) (by omega)
 rw [Nat.pow_mul]at h2
 exact Nat.lt_of_lt_of_le h1 h2
theorem rtrim_ev:∀(n:Nat) (l:List Int),l.length=n→n<9223372036854775808→Dig B32 l→Ev (fun k=>galoisref01_trim.f k l) (d32 (vB B32 l).toNat):=by
 intro n
 induction n with
 |zero=>
  intro l hl _ hd
  rw [List.eq_nil_of_length_eq_zero hl]
  refine Ev.step (f:=fun _=>some []) (fun k=>?_) (by
   show Ev (fun _=>some []) (d32 0)
   rw [d32_zero]
   exact Ev.now _)
  simp [galoisref01_trim.f,galoisref01_trim.l0]
 |succ n ih=>
  intro l hl hn hd
  have hv:=vB_nonneg (by decide) hd
  have e1:wrap64 ((l.length:Int)-1)=(n:Int):=by rw [w64 (by omega) (by omega)];omega
  have hvs:=take_succ B32 l n
  rw [vB_all _ _ _ (by omega)]at hvs
  by_cases hz:rd l (n:Int)=0
  ·rw [hz,Int.mul_zero,Int.add_zero]at hvs
   rw [hvs]
   refine Ev.step (f:=fun k=>galoisref01_trim.f k (l.take n)) (fun k=>?_) (ih _ (by rw [List.length_take];omega) (by omega) (Dig_take hd _))
   simp only [galoisref01_trim.f,galoisref01_trim.l0,e1]
   rw [if_pos (by omega),if_pos (by omega),if_pos (by omega),if_pos hz,if_pos (by omega),Int.toNat_natCast]
  ·have:l=d32 (vB B32 l).toNat:=d32_unique hd (fun _=>by rw [hl,Nat.add_sub_cancel];exact hz) (by omega)
   rw [←this]
   refine Ev.step (f:=fun _=>some l) (fun k=>?_) (Ev.now _)
   simp only [galoisref01_trim.f,galoisref01_trim.l0,e1]
   rw [if_pos (by omega),if_pos (by omega),if_pos (by omega),if_neg hz]
theorem trimV_eq:∀(k:Nat) (l:List Int),galoisref01_trimV.l0 k l=galoisref01_trim.l0 k l:=by
 intro k
 induction k with
 |zero=>intro l;rfl
 |succ k ih=>intro l;simp only [galoisref01_trimV.l0,galoisref01_trim.l0,ih]
theorem rtrimV_ev {l:List Int} (hn:l.length<9223372036854775808) (hd:Dig B32 l):Ev (fun k=>galoisref01_trimV.f k l) (d32 (vB B32 l).toNat):=
 Ev.congr (fun k=>trimV_eq k l) (rtrim_ev _ l rfl hn hd)
def win (s:ByteArray) (a b:Nat):Int:=vB 256 (((bytesOf s).take b).drop a).reverse
theorem win_self (s:ByteArray) (a:Nat):win s a a=0:=by
 unfold win
 rw [List.drop_of_length_le (by rw [List.length_take];omega)]
 rfl
theorem win_succ (s:ByteArray) (a b:Nat) (hab:a≤b) (hb:b<s.size):win s a (b+1)=win s a b*256+bt s (b:Int):=by
 unfold win
 rw [List.take_succ_eq_append_getElem (by rw [bytesOf_length];exact hb),List.drop_append_of_le_length (by rw [List.length_take,bytesOf_length];omega),List.reverse_append,List.reverse_singleton,List.singleton_append,vB_cons,bt_rd,rd_get _ b (by rw [bytesOf_length];exact hb)]
 omega
theorem win_range (s:ByteArray) (a b:Nat) (hab:a≤b) (hb:b≤s.size):0≤win s a b∧win s a b<256^(b-a):=by
 have hd:Dig 256 (((bytesOf s).take b).drop a).reverse:=Dig_reverse (Dig_drop (Dig_take (bytesOf_dig s) _) _)
 refine⟨vB_nonneg (by decide) hd,?_⟩
 have:=vB_lt (by decide) hd
 rw [List.length_reverse,List.length_drop,List.length_take,bytesOf_length,Nat.min_eq_left hb]at this
 exact this
theorem win_join (s:ByteArray) (a b c:Nat) (hab:a≤b) (hbc:b≤c) (hc:c≤s.size):win s a c=win s b c+256^(c-b)*win s a b:=by
 obtain⟨d,rfl⟩:∃d,c=b+d:=⟨c-b,by omega⟩
 induction d with
 |zero=>
  rw [Nat.add_zero,win_self,Nat.sub_self,Int.pow_zero,Int.one_mul,Int.zero_add]
 |succ d ih=>
  rw [←Nat.add_assoc,win_succ s a _ (by omega) (by omega),win_succ s b _ (by omega) (by omega),ih (by omega) (by omega)]
  rw [show b+d+1-b=(b+d-b)+1 by omega,Int.pow_succ,Int.mul_right_comm]
  generalize 256^(b+d-b)*win s a b=X
  omega
theorem win_all (s:ByteArray):win s 0 s.size=bval s:=by
 unfold win bval
 rw [List.drop_zero,List.take_of_length_le (by rw [bytesOf_length];exact Nat.le_refl _)]
theorem limbs_l1 (s:ByteArray) (hs:s.size≤1099511627776) (out:List Int) (lo:Nat) (hlo:out.length≤1099511627776) (e:Nat) (he:e≤s.size) (hle:lo≤e) (h4:e≤lo+4) (r:List Int)
  (next:Ev (fun k=>galoisref01_limbs.l0 k s (out++[win s lo e]) ((e:Int)-4)) r):∀(d i:Nat),i+d=e→lo≤i→Ev (fun k=>galoisref01_limbs.l1 k s out (e:Int) (win s lo i) (i:Int)) r:=by
 intro d
 induction d with
 |zero=>
  intro i hi hl
  have hi:i=e:=by omega
  subst hi
  have e1:wrap64 ((i:Int)-4)=(i:Int)-4:=w64 (by omega) (by omega)
  refine Ev.step (fun k=>?_) next
  simp only [galoisref01_limbs.l1,e1]
  rw [if_neg (Int.lt_irrefl _),if_pos (by omega)]
 |succ d ih=>
  intro i hi hl
  have c1:(i:Int)<(e:Int):=by omega
  have c2:(i:Int)<(s.size:Int):=by omega
  have e1:wrap64 ((i:Int)+1)=((i+1:Nat):Int):=by rw [w64 (by omega) (by omega)];omega
  obtain⟨w0,w1⟩:=win_range s lo i hl (by omega)
  have w2:win s lo i<16777216:=by
   refine Int.lt_of_lt_of_le w1 ?_
   exact pow_le_pow (B:=256) (by decide) (show i-lo≤3 by omega)
  obtain⟨b0,b1⟩:=bt_range s (i:Int)
  have e2:IntKind.u64.wrap (IntKind.u64.wrap (win s lo i*256)+IntKind.u64.wrap (bt s (i:Int)))=win s lo (i+1):=by
   rw [win_succ s lo i hl (by omega),u64 (x:=win s lo i*256) (by omega) (by omega),u64 (x:=bt s (i:Int)) (by omega) (by omega),u64 (by omega) (by omega)]
  refine Ev.step (f:=fun k=>galoisref01_limbs.l1 k s out (e:Int) (win s lo (i+1)) ((i+1:Nat):Int)) (fun k=>?_) (ih (i+1) (by omega) (by omega))
  simp only [galoisref01_limbs.l1,e1,e2]
  rw [if_pos c1,if_pos (Int.natCast_nonneg _),if_pos c2]
theorem limbs_end (s:ByteArray) (out:List Int) (hd:Dig B32 out) (hl:out.length≤1099511627776) (hv:vB B32 out=bval s) (x:Int) (hx:¬x>0):Ev (fun k=>galoisref01_limbs.l0 k s out x) (d32 (bval s).toNat):=by
 have h:=rtrim_ev out.length out rfl (by omega) hd
 rw [hv]at h
 refine Ev.step (f:=fun k=>(galoisref01_trim.f k out).bind fun t=>some t) (fun k=>?_) (Ev.bind h (Ev.now _))
 simp only [galoisref01_limbs.l0]
 rw [if_neg hx]
theorem limbs_l0 (s:ByteArray) (hs:s.size≤1099511627776):∀(e:Nat) (out:List Int),e≤s.size→4*out.length=s.size-e→Dig B32 out→vB B32 out=win s e s.size→Ev (fun k=>galoisref01_limbs.l0 k s out (e:Int)) (d32 (bval s).toNat):=by
 intro e
 induction e using Nat.strongRecOn with
 |_ e ih=>
  intro out he hl hd hv
  by_cases h0:e=0
  ·subst h0
   exact limbs_end s out hd (by omega) (by rw [hv,win_all]) _ (by omega)
  ·have hmx:mx 0 (wrap64 ((e:Int)-4))=((e-4:Nat):Int):=by
    rw [w64 (by omega) (by omega)]
    unfold mx
    split<;>omega
   have hw:=win_range s (e-4) e (by omega) he
   have hw1:win s (e-4) e<B32:=by
    refine Int.lt_of_lt_of_le hw.2 ?_
    exact pow_le_pow (B:=256) (by decide) (show e-(e-4)≤4 by omega)
   have hd':Dig B32 (out++[win s (e-4) e]):=Dig_append hd (Dig_cons.2 ⟨⟨hw.1,hw1⟩,Dig_nil _⟩)
   have hpow:(B32:Int)^out.length=256^(s.size-e):=by
    rw [←hl,Int.pow_mul]
    rfl
   have hv':vB B32 (out++[win s (e-4) e])=win s (e-4) s.size:=by
    rw [vB_append,hpow,hv,win_join s (e-4) e s.size (by omega) he (Nat.le_refl _)]
    simp [vB]
   refine Ev.step (f:=fun k=>galoisref01_limbs.l1 k s out (e:Int) (win s (e-4) (e-4)) ((e-4:Nat):Int)) (fun k=>?_) (limbs_l1 s hs out (e-4) (by omega) e he (by omega) (by omega) _ ?_ (e-(e-4)) (e-4) (by omega) (Nat.le_refl _))
   ·simp only [galoisref01_limbs.l0,hmx]
    rw [if_pos (by omega),win_self]
   ·by_cases h4:e≤4
    ·refine limbs_end s _ hd' (by rw [List.length_append];simp;omega) ?_ _ (by omega)
     rw [hv',show e-4=0 by omega,win_all]
    ·have:=ih (e-4) (by omega) (out++[win s (e-4) e]) (by omega) (by rw [List.length_append];simp;omega) hd' hv'
     rwa [show((e-4:Nat):Int)=(e:Int)-4 by omega]at this
theorem limbs_ev (s:ByteArray) (hs:s.size≤1099511627776):Ev (fun k=>galoisref01_limbs.f k s) (d32 (bval s).toNat):=
 limbs_l0 s hs s.size [] (Nat.le_refl _) (by simp) (Dig_nil _) (by rw [win_self];rfl)
theorem limbs_nat {n:Nat} (hs:(nat n).size≤1099511627776):Ev (fun k=>galoisref01_limbs.f k (nat n)) (d32 n):=by
 have:=limbs_ev (nat n) hs
 rwa [bval_nat,Int.toNat_natCast]at this
theorem d8_push {N x:Nat} (hx:x<256) (h:N*256+x≠0):d8 (N*256+x)=(x:Int)::d8 N:=by
 unfold d8
 rw [dgs_pos _ _ h,show(N*256+x)%(254+2)=x by omega,show(N*256+x)/(254+2)=N by omega]
theorem rpack_byte {N x:Nat} (hx:x<256):(if(((d8 N).reverse.length:Int)>0)then(d8 N).reverse++[(x:Int)]else if(x:Int)>0 then(d8 N).reverse++[(x:Int)]else(d8 N).reverse)=(d8 (N*256+x)).reverse:=by
 by_cases h:N*256+x=0
 ·have hN:N=0:=by omega
  have hx0:x=0:=by omega
  subst hN hx0
  have:d8 0=[]:=dgs_zero _
  rw [show 0*256+0=0 from rfl,this]
  simp
 ·rw [d8_push hx h,List.reverse_cons]
  by_cases h1:((d8 N).reverse.length:Int)>0
  ·rw [if_pos h1]
  ·rw [if_neg h1,if_pos]
   have:N=0:=by
    rcases Nat.eq_zero_or_pos N with h2|h2
    ·exact h2
    ·exfalso
     have h3:(nat N).size≠0:=fun h4=>by have:=nat_size_zero.1 h4;omega
     rw [nat_size]at h3
     rw [List.length_reverse]at h1
     omega
   omega
theorem rpack_l1 {l:List Int} {V:Nat} (hd:Dig B32 l) (hl:l.length≤1099511627776) (hV:(nat V).size≤4398046511104) {i H D:Nat} (hi:i<l.length) (hD:rd l (i:Int)=D) (hle:H*4294967296+D≤V) {r:ByteArray}
  (next:Ev (fun k=>galoisref01_pack.l0 k l (d8 (H*4294967296+D)).reverse ((i:Int)-1)) r):∀(c N:Nat),c≤4→N=H*256^(4-c)+D/256^c→Ev (fun k=>galoisref01_pack.l1 k l (d8 N).reverse (i:Int) (8*(c:Int)-8)) r:=by
 have hD32:D<4294967296:=by
  have h:=(Dig_rd hd i hi).2
  rw [hD]at h
  exact Int.ofNat_lt.1 h
 intro c
 induction c with
 |zero=>
  intro N _ hN
  have hN:N=H*4294967296+D:=by simpa using hN
  rw [hN]
  have e1:wrap64 ((i:Int)-1)=(i:Int)-1:=w64 (by omega) (by omega)
  refine Ev.step (fun k=>?_) next
  simp only [galoisref01_pack.l1,e1]
  rw [if_neg (by decide)]
 |succ c ih=>
  intro N hc hN
  have hcase:c=0∨c=1∨c=2∨c=3:=by omega
  have hNV:N≤V:=by
   refine Nat.le_trans ?_ hle
   rw [hN]
   exact Nat.add_le_add (Nat.mul_le_mul_left H (Nat.pow_le_pow_right (show 0<256 by decide) (show 4-(c+1)≤4 from Nat.sub_le _ _))) (Nat.div_le_self _ _)
  have hb:∃x:Nat,x<256∧(shr .u64 (rd l (i:Int)) (8*((c+1:Nat):Int)-8))%256=(x:Int)∧N*256+x=H*256^(4-c)+D/256^c:=by
   refine⟨D/256^c%256,Nat.mod_lt _ (by decide),?_,?_⟩
   ·rw [show 8*((c+1:Nat):Int)-8=((8*c:Nat):Int)by omega,shr_eq _ _ (by omega),hD]
    rcases hcase with rfl|rfl|rfl|rfl<;>simp<;>omega
   ·rw [hN]
    rcases hcase with rfl|rfl|rfl|rfl<;>simp<;>omega
  obtain⟨x,x1,x2,x3⟩:=hb
  have hsz:(d8 N).reverse.length<140737488355328:=by
   have:=size_mono hNV
   rw [nat_size]at this
   rw [List.length_reverse]
   omega
  have e1:wrap64 (8*((c+1:Nat):Int)-8-8)=8*(c:Int)-8:=by rw [w64 (by omega) (by omega)];omega
  refine Ev.step (f:=fun k=>galoisref01_pack.l1 k l (d8 (N*256+x)).reverse (i:Int) (8*(c:Int)-8)) (fun k=>?_) (ih (N*256+x) (by omega) x3)
  rw [←rpack_byte x1]
  simp only [galoisref01_pack.l1,e1,x2]
  rw [if_pos (by omega),if_pos (by omega),if_pos (by omega),if_pos (by omega)]
  by_cases h1:((d8 N).reverse.length:Int)>0
  ·rw [if_pos h1,if_pos hsz,if_pos h1]
  ·rw [if_neg h1,if_neg h1]
   by_cases h2:(x:Int)>0
   ·rw [if_pos h2,if_pos hsz,if_pos h2]
   ·rw [if_neg h2,if_neg h2]
theorem rpack_l0 {l:List Int} {V:Nat} (hd:Dig B32 l) (hl:l.length≤1099511627776) (hV:(nat V).size≤4398046511104) (hv:vB B32 l=V):∀(J H:Nat),J≤l.length→vB B32 (l.drop J)=H→Ev (fun k=>galoisref01_pack.l0 k l (d8 H).reverse ((J:Int)-1)) (nat V):=by
 intro J
 induction J with
 |zero=>
  intro H _ hH
  rw [List.drop_zero,hv]at hH
  have e:H=V:=by omega
  subst e
  refine Ev.step (f:=fun _=>some (nat H)) (fun k=>?_) (Ev.now _)
  simp only [galoisref01_pack.l0]
  rw [if_neg (by decide)]
  rfl
 |succ i ih=>
  intro H hJ hH
  have hi:i<l.length:=by omega
  obtain⟨D,hD⟩:=Int.eq_ofNat_of_zero_le (Dig_rd hd i hi).1
  have hds:=drop_succ B32 l i hi
  rw [hH,hD]at hds
  have hds':vB B32 (l.drop i)=((H*4294967296+D:Nat):Int):=by
   rw [hds]
   show(D:Int)+4294967296*(H:Int)=_
   omega
  have hle:H*4294967296+D≤V:=by
   have h1:=vB_split B32 l i (by omega)
   have h2:=vB_nonneg (show(0:Int)≤B32 by decide) (Dig_take hd i)
   have h3:(1:Int)≤B32^i:=by have:(0:Int)<B32^i:=Int.pow_pos (by decide);omega
   have h4:=Int.mul_le_mul_of_nonneg_right h3 (show 0≤vB B32 (l.drop i)from vB_nonneg (by decide) (Dig_drop hd i))
   rw [Int.one_mul]at h4
   rw [hv]at h1
   rw [hds']at h1 h4
   generalize B32^i*((H*4294967296+D:Nat):Int)=X at*
   clear h3
   omega
  refine Ev.congr (f:=fun k=>galoisref01_pack.l0 k l (d8 H).reverse (i:Int)) (fun k=>by rw [show((i+1:Nat):Int)-1=(i:Int)by omega]) ?_
  refine Ev.step (f:=fun k=>galoisref01_pack.l1 k l (d8 H).reverse (i:Int) (8*((4:Nat):Int)-8)) (fun k=>?_) (rpack_l1 hd hl hV hi hD hle (ih _ (by omega) hds') 4 H (Nat.le_refl _) ?_)
  ·simp only [galoisref01_pack.l0]
   rw [if_pos (by omega)]
   rfl
  ·have hD32:D<4294967296:=by
    have h:=(Dig_rd hd i hi).2
    rw [hD]at h
    exact Int.ofNat_lt.1 h
   simp
   omega
theorem rpack_ev {l:List Int} (hd:Dig B32 l) (hl:l.length≤1099511627776):Ev (fun k=>galoisref01_pack.f k l) (nat (vB B32 l).toNat):=by
 have hv:=vB_nonneg (show(0:Int)≤B32 by decide) hd
 have hV:(nat (vB B32 l).toNat).size≤4398046511104:=by
  have h:(nat (vB B32 l).toNat).size≤4*l.length:=by
   apply nat_size_le.2
   have h1:=vB_lt (show(0:Int)<B32 by decide) hd
   rw [Nat.pow_mul]
   have h2:(((vB B32 l).toNat:Nat):Int)<((4294967296^l.length:Nat):Int):=by
    rw [Int.toNat_of_nonneg hv,Int.natCast_pow]
    exact h1
   exact Int.ofNat_lt.1 h2
  omega
 have e1:wrap64 ((l.length:Int)-1)=(l.length:Int)-1:=w64 (by omega) (by omega)
 have:=rpack_l0 hd hl hV (show vB B32 l=(((vB B32 l).toNat:Nat):Int)by omega) l.length 0 (Nat.le_refl _) (by rw [List.drop_of_length_le (Nat.le_refl _)];rfl)
 refine Ev.congr (fun k=>?_) this
 unfold galoisref01_pack.f
 rw [e1,show d8 0=[]from dgs_zero _]
 rfl
theorem and32 {x:Int} (h0:0≤x) (h1:x<18446744073709551616):Go.bits .and .u64 x 4294967295=x%B32:=and_low h0 h1
theorem rCompare_ev (m n:Nat):Ev (fun k=>galoisref01_Compare.f k (nat m) (nat n)) (cmpN m n):=by
 have hj:∀b:Bool,b=decide (m<n)→Ev (fun k=>galoisref01_Compare.j0 k (nat m) (nat n) b) (cmpN m n):=by
  rintro b rfl
  refine Ev.step (f:=fun _=>some (cmpN m n)) (fun k=>?_) (Ev.now _)
  simp only [galoisref01_Compare.j0,toList_ext,nat_inj,decide_eq_true_eq,cmpN]
  split
  ·rfl
  ·split<;>rfl
 by_cases h1:(nat m).size<(nat n).size
 ·refine Ev.congr (f:=fun k=>galoisref01_Compare.j0 k (nat m) (nat n) true) (fun k=>?_) (hj _ (by simp [size_lt h1]))
  unfold galoisref01_Compare.f
  rw [if_pos (by omega)]
 ·by_cases h2:(nat m).size=(nat n).size
  ·refine Ev.congr (f:=fun k=>galoisref01_Compare.j0 k (nat m) (nat n) (Op.bytesLess (nat m).toList (nat n).toList)) (fun k=>?_) (hj _ (less_nat h2))
   unfold galoisref01_Compare.f
   rw [if_neg (by omega),if_pos (by omega)]
  ·refine Ev.congr (f:=fun k=>galoisref01_Compare.j0 k (nat m) (nat n) false) (fun k=>?_) (hj _ (by
    have:n<m:=size_lt (by omega)
    simp;omega))
   unfold galoisref01_Compare.f
   rw [if_neg (by omega),if_neg (by omega)]
def RAdd (x y out:List Int) (i:Nat) (c:Int):Prop:=
 out.length=i∧Dig B32 out∧(0≤c∧c≤1)∧vB B32 out+B32^i*c=vB B32 (x.take i)+vB B32 (y.take i)
theorem radd_step {x y out:List Int} {i:Nat} {c:Int} (hx:Dig B32 x) (hy:Dig B32 y) (h:RAdd x y out i c):
  RAdd x y (out++[(c+rd x (i:Int)+rd y (i:Int))%B32]) (i+1) ((c+rd x (i:Int)+rd y (i:Int))/B32):=by
 obtain⟨hl,hd,hc,hv⟩:=h
 obtain⟨x0,x1⟩:=Dig_rd0 (by decide) hx i
 obtain⟨y0,y1⟩:=Dig_rd0 (by decide) hy i
 have x1':rd x (i:Int)<4294967296:=x1
 have y1':rd y (i:Int)<4294967296:=y1
 refine⟨by rw [List.length_append,hl];rfl,Dig_append hd (Dig_cons.2 ⟨⟨Int.emod_nonneg _ (by decide),Int.emod_lt_of_pos _ (by decide)⟩,Dig_nil _⟩),?_,?_⟩
 ·show 0≤(c+rd x (i:Int)+rd y (i:Int))/4294967296∧(c+rd x (i:Int)+rd y (i:Int))/4294967296≤1
  clear hv
  omega
 ·rw [vB_append,hl,take_succ,take_succ,Int.pow_succ]
  have e:=Int.emod_add_mul_ediv (c+rd x (i:Int)+rd y (i:Int)) B32
  generalize(c+rd x (i:Int)+rd y (i:Int))/B32=q at*
  generalize(c+rd x (i:Int)+rd y (i:Int))%B32=r at*
  have er:r=c+rd x (i:Int)+rd y (i:Int)-B32*q:=by clear hv;omega
  have e2:vB B32 [r]=r:=by simp [vB]
  rw [e2,er,Int.mul_sub,Int.mul_add,Int.mul_add,Int.mul_assoc (B32^i) B32 q]
  generalize(B32:Int)^i=P at*
  omega
theorem radd_round {x y out:List Int} {i:Nat} {c:Int} {r:ByteArray} (hx:Dig B32 x) (hy:Dig B32 y) (li:i≤1099511627776) (h:RAdd x y out i c) (ht:i<x.length∨i<y.length∨c>0)
  (next:Ev (fun k=>galoisref01_Add.l0 k x y (out++[(c+rd x (i:Int)+rd y (i:Int))%B32]) ((c+rd x (i:Int)+rd y (i:Int))/B32) ((i+1:Nat):Int)) r):Ev (fun k=>galoisref01_Add.l0 k x y out c (i:Int)) r:=by
 have hl:=h.1
 have hc:=h.2.2.1
 have c4:out.length<17592186044416:=by omega
 obtain⟨x0,x1⟩:=Dig_rd0 (by decide) hx i
 obtain⟨y0,y1⟩:=Dig_rd0 (by decide) hy i
 have x1':rd x (i:Int)<4294967296:=x1
 have y1':rd y (i:Int)<4294967296:=y1
 have fx:¬(i:Int)<(x.length:Int)→rd x (i:Int)=0:=fun h=>rd_far x i (by omega)
 have fy:¬(i:Int)<(y.length:Int)→rd y (i:Int)=0:=fun h=>rd_far y i (by omega)
 have e1:wrap64 ((i:Int)+1)=((i+1:Nat):Int):=by rw [w64 (by omega) (by omega)];omega
 have e2:IntKind.u64.wrap (c+rd x (i:Int))=c+rd x (i:Int):=by clear e1;exact u64 (by omega) (by omega)
 have e3:IntKind.u64.wrap (c+rd x (i:Int)+rd y (i:Int))=c+rd x (i:Int)+rd y (i:Int):=by clear e1 e2;exact u64 (by omega) (by omega)
 have e4:IntKind.u64.wrap (c+rd y (i:Int))=c+rd y (i:Int):=by clear e1 e2 e3;exact u64 (by omega) (by omega)
 have a3:=and32 (x:=c+rd x (i:Int)+rd y (i:Int)) (by clear e1 e2 e3 e4;omega) (by clear e1 e2 e3 e4;omega)
 refine Ev.step (f:=fun k=>galoisref01_Add.j1 k x y out c (i:Int) true) (fun k=>?_) (Ev.step (fun k=>?_) next)
 ·simp only [galoisref01_Add.l0]
  by_cases hx':(i:Int)<(x.length:Int)
  ·rw [if_pos hx']
  ·rw [if_neg hx']
   by_cases hy':(i:Int)<(y.length:Int)
   ·rw [if_pos hy']
   ·rw [if_neg hy',decide_eq_true (show c>0 by clear e1 e2 e3 e4 a3;omega)]
 ·simp only [galoisref01_Add.j1,e1]
  rw [if_pos trivial]
  by_cases hx':(i:Int)<(x.length:Int)
  ·rw [if_pos hx',if_pos (Int.natCast_nonneg _)]
   by_cases hy':(i:Int)<(y.length:Int)
   ·rw [if_pos hy',if_pos c4,e2,e3,a3]
   ·have z:=fy hy'
    rw [z,Int.add_zero]at a3
    rw [if_neg hy',if_pos c4,e2,a3,z,Int.add_zero]
  ·have z:=fx hx'
   rw [if_neg hx']
   by_cases hy':(i:Int)<(y.length:Int)
   ·rw [z,Int.add_zero]at a3
    rw [if_pos hy',if_pos (Int.natCast_nonneg _),if_pos c4,e4,a3,z,Int.add_zero]
   ·have z2:=fy hy'
    rw [z,z2,Int.add_zero,Int.add_zero]at a3
    rw [if_neg hy',if_pos c4,a3,z,z2,Int.add_zero,Int.add_zero]
theorem radd_stop {x y out:List Int} {i n:Nat} (lx:x.length≤i) (ly:y.length≤i) (li:i≤1099511627776) (hn:vB B32 x+vB B32 y=n) (h:RAdd x y out i 0):Ev (fun k=>galoisref01_Add.l0 k x y out 0 (i:Int)) (nat n):=by
 obtain⟨hl,hd, -,hv⟩:=h
 rw [Int.mul_zero,Int.add_zero,vB_all _ _ _ lx,vB_all _ _ _ ly,hn]at hv
 have p:=rpack_ev hd (by omega)
 rw [hv,Int.toNat_natCast]at p
 refine Ev.step (f:=fun k=>galoisref01_Add.j1 k x y out 0 (i:Int) false) (fun k=>?_) (Ev.step (f:=fun k=>(galoisref01_pack.f k out).bind fun t=>some t) (fun k=>?_) (Ev.bind p (Ev.now _)))
 ·simp only [galoisref01_Add.l0]
  rw [if_neg (by omega),if_neg (by omega),decide_eq_false (by decide)]
 ·simp only [galoisref01_Add.j1]
  rw [if_neg Bool.false_ne_true]
theorem rAdd_l0 {x y:List Int} (hx:Dig B32 x) (hy:Dig B32 y) (M:Nat) (lx:x.length≤M) (ly:y.length≤M) (hM:M=x.length∨M=y.length) (lM:M≤1099511627775) (n:Nat) (hn:vB B32 x+vB B32 y=n):∀(d i:Nat) (out:List Int) (c:Int),i+d=M→RAdd x y out i c→
  Ev (fun k=>galoisref01_Add.l0 k x y out c (i:Int)) (nat n):=by
 intro d
 induction d with
 |zero=>
  intro i out c hi h
  have hi:i=M:=by omega
  subst hi
  have hc:=h.2.2.1
  have hcase:c=0∨c=1:=by omega
  rcases hcase with rfl|rfl
  ·exact radd_stop lx ly (by omega) hn h
  ·have hs:=radd_step hx hy h
   have zx:=rd_far x i lx
   have zy:=rd_far y i ly
   rw [zx,zy]at hs
   refine radd_round hx hy (by omega) h (Or.inr (Or.inr (by decide))) ?_
   rw [zx,zy]
   exact radd_stop (by omega) (by omega) (by omega) hn hs
 |succ d ih=>
  intro i out c hi h
  exact radd_round hx hy (by omega) h (by omega) (ih (i+1) _ _ (by omega) (radd_step hx hy h))
theorem rAdd_ev {m n:Nat} (hm:(nat m).size≤1099511627776) (hn:(nat n).size≤1099511627776):Ev (fun k=>galoisref01_Add.f k (nat m) (nat n)) (nat (m+n)):=by
 have lm:=limbs_len m
 have ln:=limbs_len n
 exact Ev.bind (limbs_nat hm) (Ev.bind (limbs_nat hn) (rAdd_l0 (d32_dig m) (d32_dig n) (max (d32 m).length (d32 n).length) (Nat.le_max_left _ _) (Nat.le_max_right _ _) (by omega) (by omega) (m+n) (by rw [d32_val,d32_val,Int.natCast_add]) (max (d32 m).length (d32 n).length) 0 [] 0 (Nat.zero_add _) ⟨rfl,Dig_nil _,⟨by decide,by decide⟩,by simp [vB]⟩))
def RSub (x y z:List Int) (i:Nat) (c:Int):Prop:=
 z.length=x.length∧Dig B32 z∧(0≤c∧c≤1)∧vB B32 z+vB B32 (y.take i)=vB B32 x+B32^i*c
theorem rsub_step {x y z:List Int} {i:Nat} {c d e:Int} (hi:i<x.length) (h:RSub x y z i c) (d0:0≤d) (d1:d<B32) (e0:0≤e) (e1:e≤1) (he:d=rd z (i:Int)-rd y (i:Int)-c+B32*e):
  RSub x y (z.set i d) (i+1) e:=by
 obtain⟨hl,hd,hc,hv⟩:=h
 refine⟨by rw [List.length_set];exact hl,Dig_set hd _ d0 d1,⟨e0,e1⟩,?_⟩
 rw [vB_set _ _ _ _ (by clear hv;omega),take_succ,Int.pow_succ,he]
 have:rd z (i:Int)-rd y (i:Int)-c+B32*e-rd z (i:Int)=B32*e-rd y (i:Int)-c:=by clear hv;omega
 rw [this,Int.mul_sub,Int.mul_sub,Int.mul_assoc (B32^i) B32 e]
 generalize(B32:Int)^i=P at*
 omega
theorem rSub_l0 (x y:List Int) (hx:Dig B32 x) (hy:Dig B32 y) (lx:x.length≤1099511627775) (hyx:y.length≤x.length) (n:Nat) (hn:vB B32 x=vB B32 y+n):∀(d i:Nat) (z:List Int) (c:Int),i+d=x.length→RSub x y z i c→
  Ev (fun k=>galoisref01_Sub.l0 k z y c (i:Int)) (nat n):=by
 intro d
 induction d with
 |zero=>
  intro i z c hi h
  have hi:i=x.length:=by omega
  subst hi
  have hl:=h.1
  have c3:z.length≤1099511627776:=by omega
  have c5:¬(x.length:Int)<(z.length:Int):=by omega
  obtain⟨-,hd,hc,hv⟩:=h
  have hv':vB B32 z=n:=by
   have h1:=vB_lt (show(0:Int)<B32 by decide) hd
   rw [vB_all _ _ _ hyx,hn]at hv
   rw [hl]at h1
   have h2:c=0∨c=1:=by clear h1 hv;omega
   rcases h2 with rfl|rfl
   ·rw [Int.mul_zero]at hv
    clear h1
    omega
   ·rw [Int.mul_one]at hv
    generalize(B32:Int)^x.length=P at*
    omega
  have p:=rpack_ev hd c3
  rw [hv',Int.toNat_natCast]at p
  refine Ev.step (f:=fun k=>(galoisref01_pack.f k z).bind fun t=>some t) (fun k=>?_) (Ev.bind p (Ev.now _))
  simp only [galoisref01_Sub.l0]
  rw [if_neg c5]
 |succ d ih=>
  intro i z c hi h
  have hi':i<x.length:=by omega
  have c0:i+1+d=x.length:=by omega
  have hl:=h.1
  have c2:(i:Int)<(z.length:Int):=by omega
  have c4:i<z.length:=by omega
  have c3:¬(i:Int)<(y.length:Int)→rd y (i:Int)=0:=fun h=>rd_far y i (by omega)
  have h':=h
  obtain⟨-,hd,hc, -⟩:=h
  obtain⟨x0,x1⟩:=Dig_rd hd i c4
  obtain⟨y0,y1⟩:=Dig_rd0 (by decide) hy i
  have x1':rd z (i:Int)<4294967296:=x1
  have y1':rd y (i:Int)<4294967296:=y1
  have e1:wrap64 ((i:Int)+1)=((i+1:Nat):Int):=by clear c3;rw [w64 (by omega) (by omega)];omega
  have e2:IntKind.u64.wrap (c+rd y (i:Int))=c+rd y (i:Int):=by clear e1;exact u64 (by omega) (by omega)
  have e3:IntKind.u64.wrap (rd z (i:Int)+4294967296)=rd z (i:Int)+4294967296:=by clear e1 e2;exact u64 (by omega) (by omega)
  by_cases hb:rd z (i:Int)<c+rd y (i:Int)
  ·have e4:IntKind.u64.wrap (rd z (i:Int)+4294967296-(c+rd y (i:Int)))=rd z (i:Int)+4294967296-(c+rd y (i:Int)):=by clear e1 e2 e3;exact u64 (by omega) (by omega)
   have hs:=rsub_step (d:=rd z (i:Int)+4294967296-(c+rd y (i:Int))) (e:=1) hi' h' (by clear e1 e2 e3 e4;omega) (by show _<(4294967296:Int);clear e1 e2 e3 e4;omega) (by decide) (by decide) (by show _=rd z (i:Int)-rd y (i:Int)-c+4294967296*1;clear e1 e2 e3 e4;omega)
   have r1:rd (z.set i (rd z (i:Int)+4294967296)) (i:Int)=rd z (i:Int)+4294967296:=rd_set_self _ _ _ c4
   refine Ev.step (f:=fun k=>galoisref01_Sub.l0 k (z.set i (rd z (i:Int)+4294967296-(c+rd y (i:Int)))) y 1 ((i+1:Nat):Int)) (fun k=>?_) (ih (i+1) _ _ c0 hs)
   simp only [galoisref01_Sub.l0,e1,Int.toNat_natCast,Option.bind_some]
   rw [if_pos c2]
   by_cases hy':(i:Int)<(y.length:Int)
   ·rw [if_pos hy',if_pos (Int.natCast_nonneg _),e2,if_pos hb,e3,r1,e4,List.set_set]
   ·have z:=c3 hy'
    rw [z,Int.add_zero]at hb e4⊢
    rw [if_neg hy',if_pos (Int.natCast_nonneg _),if_pos hb,e3,r1,e4,List.set_set]
  ·have e4:IntKind.u64.wrap (rd z (i:Int)-(c+rd y (i:Int)))=rd z (i:Int)-(c+rd y (i:Int)):=by clear e1 e2 e3;exact u64 (by omega) (by omega)
   have hs:=rsub_step (d:=rd z (i:Int)-(c+rd y (i:Int))) (e:=0) hi' h' (by clear e1 e2 e3 e4;omega) (by show _<(4294967296:Int);clear e1 e2 e3 e4;omega) (by decide) (by decide) (by clear e1 e2 e3 e4;omega)
   refine Ev.step (f:=fun k=>galoisref01_Sub.l0 k (z.set i (rd z (i:Int)-(c+rd y (i:Int)))) y 0 ((i+1:Nat):Int)) (fun k=>?_) (ih (i+1) _ _ c0 hs)
   simp only [galoisref01_Sub.l0,e1,Int.toNat_natCast,Option.bind_some]
   rw [if_pos c2]
   by_cases hy':(i:Int)<(y.length:Int)
   ·rw [if_pos hy',if_pos (Int.natCast_nonneg _),e2,if_neg hb,e4]
   ·have z:=c3 hy'
    rw [z,Int.add_zero]at hb e4⊢
    rw [if_neg hy',if_pos (Int.natCast_nonneg _),if_neg hb,e4]
theorem rSub_ev {m n:Nat} (hm:(nat m).size≤1099511627776):Ev (fun k=>galoisref01_Sub.f k (nat m) (nat n)) (if m<n then⟨#[]⟩else nat (m-n)):=by
 refine Ev.bind (rCompare_ev m n) ?_
 by_cases hlt:m<n
 ·rw [if_pos hlt]
  exact Ev.congr (fun k=>if_pos (show cmpN m n<0 by unfold cmpN;rw [if_pos hlt];decide)) (Ev.now _)
 ·rw [if_neg hlt]
  refine Ev.congr (fun k=>if_neg (show¬cmpN m n<0 by unfold cmpN;rw [if_neg hlt];split<;>decide)) ?_
  have lm:=limbs_len m
  have hn:(nat n).size≤1099511627776:=Nat.le_trans (size_mono (Nat.le_of_not_lt hlt)) hm
  exact Ev.bind (limbs_nat hm) (Ev.bind (limbs_nat hn) (rSub_l0 (d32 m) (d32 n) (d32_dig m) (d32_dig n) (by omega) (d32_len_mono (by omega)) (m-n) (by rw [d32_val,d32_val];omega) (d32 m).length 0 _ _ (Nat.zero_add _) ⟨rfl,d32_dig m,⟨by decide,by decide⟩,by simp [vB]⟩))
theorem rmul_add {x y o c:Int} (x0:0≤x) (x1:x<B32) (y0:0≤y) (y1:y<B32) (o0:0≤o) (o1:o<B32) (c0:0≤c) (c1:c<B32):
  0≤(x*y+o+c)/B32∧(x*y+o+c)/B32<B32∧IntKind.u64.wrap (IntKind.u64.wrap (o+IntKind.u64.wrap (x*y))+c)=x*y+o+c∧Go.bits .and .u64 (x*y+o+c) 4294967295=(x*y+o+c)%B32:=by
 have x1':x<4294967296:=x1
 have y1':y<4294967296:=y1
 have o1':o<4294967296:=o1
 have c1':c<4294967296:=c1
 have hp:=mul_range x0 (show x≤4294967295 by omega) y0 (show y≤4294967295 by omega)
 have h1:(4294967295:Int)*4294967295=18446744065119617025:=rfl
 rw [h1]at hp
 rw [and32 (x:=x*y+o+c) (by omega) (by omega)]
 show 0≤(x*y+o+c)/4294967296∧(x*y+o+c)/4294967296<4294967296∧IntKind.u64.wrap (IntKind.u64.wrap (o+IntKind.u64.wrap (x*y))+c)=x*y+o+c∧(x*y+o+c)%4294967296=(x*y+o+c)%4294967296
 generalize x*y=p at*
 clear x0 x1 x1' y0 y1 y1' o1 c1 h1
 rw [u64 (x:=p) (by omega) (by omega),u64 (x:=o+p) (by omega) (by omega),u64 (x:=o+p+c) (by omega) (by omega)]
 omega
def RMulOut (a b out:List Int) (i:Nat):Prop:=
 out.length=a.length+b.length∧Dig B32 out∧vB B32 out=vB B32 (a.take i)*vB B32 b∧∀j:Nat,i+b.length≤j→rd out (j:Int)=0
def RMulIn (a b out:List Int) (i j:Nat) (c:Int):Prop:=
 out.length=a.length+b.length∧Dig B32 out∧(0≤c∧c<B32)∧vB B32 out+B32^(i+j)*c=vB B32 (a.take i)*vB B32 b+B32^i*(rd a (i:Int)*vB B32 (b.take j))∧∀n:Nat,i+b.length≤n→rd out (n:Int)=0
theorem rmul_in {a b out:List Int} {i j:Nat} {c:Int} (ha:Dig B32 a) (hb:Dig B32 b) (hi:i<a.length) (hj:j<b.length) (h:RMulIn a b out i j c):
  RMulIn a b (out.set (i+j) ((rd a (i:Int)*rd b (j:Int)+rd out ((i+j:Nat):Int)+c)%B32)) i (j+1) ((rd a (i:Int)*rd b (j:Int)+rd out ((i+j:Nat):Int)+c)/B32):=by
 obtain⟨hl,hd,hc,hv,hz⟩:=h
 obtain⟨x0,x1⟩:=Dig_rd ha i hi
 obtain⟨y0,y1⟩:=Dig_rd hb j hj
 obtain⟨o0,o1⟩:=Dig_rd hd (i+j) (by omega)
 obtain⟨n0,n1, -⟩:=rmul_add x0 x1 y0 y1 o0 o1 hc.1 hc.2
 refine⟨by rw [List.length_set];exact hl,Dig_set hd _ (Int.emod_nonneg _ (by decide)) (Int.emod_lt_of_pos _ (by decide)),⟨n0,n1⟩,?_,fun n hn=>?_⟩
 ·rw [vB_set _ _ _ _ (by omega),take_succ,←Nat.add_assoc,Int.pow_succ]
  have e:=Int.emod_add_mul_ediv (rd a (i:Int)*rd b (j:Int)+rd out ((i+j:Nat):Int)+c) B32
  generalize(rd a (i:Int)*rd b (j:Int)+rd out ((i+j:Nat):Int)+c)/B32=q at*
  generalize(rd a (i:Int)*rd b (j:Int)+rd out ((i+j:Nat):Int)+c)%B32=r at*
  have er:r=rd a (i:Int)*rd b (j:Int)+rd out ((i+j:Nat):Int)+c-B32*q:=by omega
  rw [er]
  have ep:(B32:Int)^(i+j)=B32^i*B32^j:=Int.pow_add _ _ _
  rw [ep]at hv⊢
  clear ep
  generalize vB B32 out=V at*
  generalize vB B32 (List.take i a)*vB B32 b=W at*
  generalize vB B32 (List.take j b)=U at*
  generalize(B32:Int)^i=P at*
  generalize(B32:Int)^j=Q at*
  generalize rd a (i:Int)=x at*
  generalize rd b (j:Int)=y at*
  generalize rd out ((i+j:Nat):Int)=o at*
  have e1:P*Q*(x*y+o+c-B32*q-o)=P*Q*(x*y)+P*Q*c-P*Q*B32*q:=by
   rw [show x*y+o+c-B32*q-o=x*y+c-B32*q by omega,Int.mul_sub,Int.mul_add,Int.mul_assoc (P*Q) B32 q]
  have e2:P*(x*(U+Q*y))=P*(x*U)+P*Q*(x*y):=by
   rw [Int.mul_add x,Int.mul_add P,Int.mul_left_comm x Q y,Int.mul_assoc P Q]
  rw [e1,e2]
  omega
 ·rw [rd_set_ne _ _ _ _ (by omega)]
  exact hz n hn
theorem rMul_l1 (a b:List Int) (ha:Dig B32 a) (hb:Dig B32 b) (la:a.length≤1099511627776) (lb:b.length≤1099511627776) (i:Nat) (hi:i<a.length) (r:ByteArray)
  (next:∀out,RMulOut a b out (i+1)→Ev (fun k=>galoisref01_Mul.l0 k a b out ((i+1:Nat):Int)) r):∀(d j:Nat) (out:List Int) (c:Int),j+d=b.length→RMulIn a b out i j c→
  Ev (fun k=>galoisref01_Mul.l1 k a b out (i:Int) c (j:Int)) r:=by
 intro d
 induction d with
 |zero=>
  intro j out c hj h
  have hj:j=b.length:=by omega
  subst hj
  have hl:=h.1
  have c1:i+b.length<out.length:=by omega
  have c2:((i+b.length:Nat):Int)<(out.length:Int):=Int.ofNat_lt.2 c1
  have e1:wrap64 ((i:Int)+(b.length:Int))=((i+b.length:Nat):Int):=by rw [w64 (by omega) (by omega)];omega
  have e2:wrap64 ((i:Int)+1)=((i+1:Nat):Int):=by clear e1;rw [w64 (by omega) (by omega)];omega
  obtain⟨-,hd,hc,hv,hz⟩:=h
  refine Ev.step (f:=fun k=>galoisref01_Mul.l0 k a b (out.set (i+b.length) c) ((i+1:Nat):Int)) (fun k=>?_) (next _ ⟨by rw [List.length_set];exact hl,Dig_set hd _ hc.1 hc.2,?_,fun j hj=>?_⟩)
  ·simp only [galoisref01_Mul.l1,e1,e2]
   rw [if_neg (Int.lt_irrefl _),if_pos (Int.natCast_nonneg _),if_pos c2,Int.toNat_natCast]
  ·rw [vB_set _ _ _ _ c1,hz _ (Nat.le_refl _),Int.sub_zero,hv,take_succ,vB_all _ _ _ (Nat.le_refl _),Int.add_mul,Int.mul_assoc]
  ·rw [rd_set_ne _ _ _ _ (by clear hv e1 e2;omega)]
   exact hz j (by clear hv e1 e2;omega)
 |succ d ih=>
  intro j out c hj h
  have hj':j<b.length:=by omega
  have hn:=rmul_in ha hb hi hj' h
  have hl:=h.1
  have c1:i+j<out.length:=by omega
  have c2:((i+j:Nat):Int)<(out.length:Int):=Int.ofNat_lt.2 c1
  have c3:(j:Int)<(b.length:Int):=Int.ofNat_lt.2 hj'
  have c5:(i:Int)<(a.length:Int):=Int.ofNat_lt.2 hi
  have c4:j+1+d=b.length:=by omega
  have e1:wrap64 ((i:Int)+(j:Int))=((i+j:Nat):Int):=by rw [w64 (by omega) (by omega)];omega
  have e2:wrap64 ((j:Int)+1)=((j+1:Nat):Int):=by clear e1;rw [w64 (by omega) (by omega)];omega
  obtain⟨-,hd,hc, -, -⟩:=h
  obtain⟨x0,x1⟩:=Dig_rd ha i hi
  obtain⟨y0,y1⟩:=Dig_rd hb j hj'
  obtain⟨o0,o1⟩:=Dig_rd hd (i+j) c1
  obtain⟨-, -,m0,m1⟩:=rmul_add x0 x1 y0 y1 o0 o1 hc.1 hc.2
  refine Ev.step (fun k=>?_) (ih (j+1) _ _ c4 hn)
  simp only [galoisref01_Mul.l1,e1,e2]
  rw [if_pos c3,if_pos (Int.natCast_nonneg _),if_pos c2,if_pos (Int.natCast_nonneg _),if_pos c5,if_pos (Int.natCast_nonneg _),m0,m1,Int.toNat_natCast]
theorem rMul_l0 (a b:List Int) (ha:Dig B32 a) (hb:Dig B32 b) (la:a.length≤549755813888) (lb:b.length≤549755813888) (n:Nat) (hn:vB B32 a*vB B32 b=n):∀(d i:Nat) (out:List Int),i+d=a.length→RMulOut a b out i→
  Ev (fun k=>galoisref01_Mul.l0 k a b out (i:Int)) (nat n):=by
 intro d
 induction d with
 |zero=>
  intro i out hi h
  have hi:i=a.length:=by omega
  subst hi
  obtain⟨hl,hd,hv,hz⟩:=h
  rw [vB_all _ _ _ (Nat.le_refl _),hn]at hv
  have p:=rpack_ev hd (by omega)
  rw [hv,Int.toNat_natCast]at p
  refine Ev.step (f:=fun k=>(galoisref01_pack.f k out).bind fun t=>some t) (fun k=>?_) (Ev.bind p (Ev.now _))
  simp only [galoisref01_Mul.l0]
  rw [if_neg (Int.lt_irrefl _)]
 |succ d ih=>
  intro i out hi h
  have hi':i<a.length:=by omega
  have c1:(i:Int)<(a.length:Int):=Int.ofNat_lt.2 hi'
  obtain⟨hl,hd,hv,hz⟩:=h
  refine Ev.step (f:=fun k=>galoisref01_Mul.l1 k a b out (i:Int) 0 ((0:Nat):Int)) (fun k=>?_) (rMul_l1 a b ha hb (by omega) (by omega) i hi' _ (fun out' h'=>ih (i+1) out' (by omega) h') b.length 0 out 0 (Nat.zero_add _) ⟨hl,hd,⟨by decide,by decide⟩,?_,hz⟩)
  ·simp only [galoisref01_Mul.l0]
   rw [if_pos c1]
   rfl
  ·rw [hv]
   simp [vB]
theorem rMul_ev {m n:Nat} (hm:(nat m).size≤1099511627776) (hn:(nat n).size≤1099511627776):Ev (fun k=>galoisref01_Mul.f k (nat m) (nat n)) (nat (m*n)):=by
 have lm:=limbs_len m
 have ln:=limbs_len n
 refine Ev.bind (limbs_nat hm) (Ev.bind (limbs_nat hn) ?_)
 have e1:wrap64 (((d32 m).length:Int)+((d32 n).length:Int))=(((d32 m).length+(d32 n).length:Nat):Int):=by rw [w64 (by omega) (by omega)];omega
 refine Ev.congr (f:=fun k=>galoisref01_Mul.l0 k (d32 m) (d32 n) (List.replicate ((d32 m).length+(d32 n).length) 0) ((0:Nat):Int)) (fun k=>?_) (rMul_l0 (d32 m) (d32 n) (d32_dig m) (d32_dig n) (by omega) (by omega) (m*n) (by rw [d32_val,d32_val,Int.natCast_mul]) (d32 m).length 0 _ (Nat.zero_add _) ⟨by simp,Dig_replicate (by decide) _,?_,fun j _=>rd_replicate _ _⟩)
 ·rw [e1,if_pos (Int.natCast_nonneg _),Int.toNat_natCast,if_pos (by omega)]
  rfl
 ·rw [vB_replicate]
  simp [vB]
theorem empty_toList:(⟨#[]⟩:ByteArray).toList=([]:List UInt8):=toList_nil.2 rfl
def d10 (n:Nat):List Int:=dgs 8 n
def txt (D:List Int):List Int:=D.map (fun x=>48+x)
def dec (n:Nat):ByteArray:=if n=0 then⟨#[48]⟩else strOfNums (txt (d10 n)).reverse
def digit (s:ByteArray) (i:Nat):Prop:=48≤bt s (i:Int)∧bt s (i:Int)≤57
instance (s:ByteArray) (i:Nat):Decidable (digit s i):=by unfold digit;infer_instance
def digits (s:ByteArray):Prop:=∀i:Nat,i<s.size→digit s i
instance (s:ByteArray):Decidable (digits s):=by unfold digits;infer_instance
def bad0 (s:ByteArray):Prop:=s.size=0∨(1<s.size∧bt s 0=48)
instance (s:ByteArray):Decidable (bad0 s):=by unfold bad0;infer_instance
theorem rOf_ev {u:Nat} (hu:u<18446744073709551616):Ev (fun k=>galoisref01_Of.f k (u:Int)) (nat u):=by
 have a1:=and32 (x:=(u:Int)) (by omega) (by omega)
 have hd:Dig B32 [(u:Int)%B32,(u:Int)/4294967296]:=Dig_cons.2 ⟨⟨Int.emod_nonneg _ (by decide),Int.emod_lt_of_pos _ (by decide)⟩,Dig_cons.2 ⟨⟨by omega,by show _<(4294967296:Int);omega⟩,Dig_nil _⟩⟩
 have p:=rpack_ev hd (by simp)
 have hv:vB B32 [(u:Int)%B32,(u:Int)/4294967296]=u:=by
  show(u:Int)%4294967296+4294967296*((u:Int)/4294967296+4294967296*0)=u
  omega
 rw [hv,Int.toNat_natCast]at p
 refine Ev.congr (f:=fun k=>(galoisref01_pack.f k [(u:Int)%B32,(u:Int)/4294967296]).bind fun t=>some t) (fun k=>?_) (Ev.bind p (Ev.now _))
 unfold galoisref01_Of.f
 rw [a1]
theorem rtop_lt {x y:List Int} (hx:Dig B32 x) (hy:Dig B32 y) {i:Nat} (hi:i<x.length) (hi':i<y.length) (hd:vB B32 (x.drop (i+1))=vB B32 (y.drop (i+1))) (h:rd x (i:Int)<rd y (i:Int)):vB B32 x<vB B32 y:=by
 have hB:(0:Int)<B32:=by decide
 have hsx:=vB_split B32 x (i+1) (by omega)
 have hsy:=vB_split B32 y (i+1) (by omega)
 rw [take_succ]at hsx hsy
 have ax:=vB_lt hB (Dig_take hx i)
 rw [List.length_take,Nat.min_eq_left (by omega)]at ax
 have bb:=vB_nonneg (Int.le_of_lt hB) (Dig_take hy i)
 rw [hd]at hsx
 have hP:(0:Int)<B32^i:=Int.pow_pos hB
 rw [hsx,hsy]
 generalize vB B32 (x.take i)=X at*
 generalize vB B32 (y.take i)=Y at*
 generalize B32^(i+1)*vB B32 (y.drop (i+1))=Z at*
 generalize(B32:Int)^i=P at*
 generalize rd x (i:Int)=a at*
 generalize rd y (i:Int)=b at*
 have h1:=Int.mul_le_mul_of_nonneg_left (show a+1≤b by omega) (Int.le_of_lt hP)
 rw [Int.mul_add,Int.mul_one]at h1
 clear hsx hsy hd
 omega
theorem below_l0 (x y:List Int) (hx:Dig B32 x) (hy:Dig B32 y) (hl:x.length=y.length) (hs:x.length<9223372036854775808) {m n:Nat} (hm:vB B32 x=m) (hn:vB B32 y=n):∀i:Nat,i≤x.length→vB B32 (x.drop i)=vB B32 (y.drop i)→Ev (fun k=>galoisref01_below.l0 k x y ((i:Int)-1)) (decide (m<n)):=by
 intro i
 induction i with
 |zero=>
  intro _ hd
  rw [List.drop_zero,List.drop_zero,hm,hn]at hd
  have e:¬m<n:=by omega
  rw [decide_eq_false e]
  refine Ev.step (f:=fun _=>some false) (fun k=>?_) (Ev.now _)
  simp only [galoisref01_below.l0]
  rw [if_neg (by decide)]
 |succ i ih=>
  intro hi hd
  have e0:((i+1:Nat):Int)-1=(i:Int):=by omega
  have e1:wrap64 ((i:Int)-1)=(i:Int)-1:=w64 (by omega) (by omega)
  have c1:(i:Int)≥0:=by omega
  have c2:(i:Int)<(x.length:Int):=by omega
  have c3:(i:Int)<(y.length:Int):=by omega
  rw [e0]
  by_cases he:rd x (i:Int)=rd y (i:Int)
  ·refine Ev.step (f:=fun k=>galoisref01_below.l0 k x y ((i:Int)-1)) (fun k=>?_) (ih (by omega) ?_)
   ·simp only [galoisref01_below.l0,e1]
    rw [if_pos c1,if_pos c1,if_pos c2,if_pos c3,if_pos he]
   ·rw [drop_succ B32 x i (by omega),drop_succ B32 y i (by omega),hd,he]
  ·have hdec:decide (rd x (i:Int)<rd y (i:Int))=decide (m<n):=by
    by_cases hab:rd x (i:Int)<rd y (i:Int)
    ·have h1:=rtop_lt hx hy (by omega) (by omega) hd hab
     rw [decide_eq_true hab,decide_eq_true (by rw [hm,hn]at h1;omega)]
    ·have h1:=rtop_lt hy hx (by omega) (by omega) hd.symm (show rd y (i:Int)<rd x (i:Int)by omega)
     rw [decide_eq_false hab,decide_eq_false (by rw [hm,hn]at h1;omega)]
   refine Ev.step (f:=fun _=>some (decide (m<n))) (fun k=>?_) (Ev.now _)
   simp only [galoisref01_below.l0,e1]
   rw [if_pos c1,if_pos c1,if_pos c2,if_pos c3,if_neg he,hdec]
theorem below_ev {l:List Int} {n R:Nat} (hd:Dig B32 l) (hl:l.length<9223372036854775808) (hR:vB B32 l=R) (hn:(d32 n).length<9223372036854775808):Ev (fun k=>galoisref01_below.f k l (d32 n)) (decide (R<n)):=by
 have ht:=rtrimV_ev hl hd
 rw [hR,Int.toNat_natCast]at ht
 have hRl:(d32 R).length<9223372036854775808:=by
  have:(d32 R).length≤l.length:=dgs_len (by
   have h1:=vB_lt (show(0:Int)<B32 by decide) hd
   rw [hR]at h1
   have h2:((R:Nat):Int)<((4294967294+2:Nat):Int)^l.length:=h1
   rw [←Int.natCast_pow]at h2
   exact Int.ofNat_lt.1 h2)
  omega
 refine Ev.bind ht ?_
 by_cases h1:(d32 R).length=(d32 n).length
 ·have:=below_l0 (d32 R) (d32 n) (d32_dig R) (d32_dig n) h1 hRl (d32_val R) (d32_val n) (d32 R).length (Nat.le_refl _) (by
   rw [List.drop_of_length_le (Nat.le_refl _),List.drop_of_length_le (by omega)])
  refine Ev.congr (fun k=>?_) this
  rw [if_pos (by omega),w64 (by omega) (by omega)]
 ·have hdec:decide (((d32 R).length:Int)<((d32 n).length:Int))=decide (R<n):=by
   by_cases h2:(d32 R).length<(d32 n).length
   ·have h3:=trim_len (by decide) (d32_dig R) (d32_dig n) (d32_trim n) h2
    rw [d32_val,d32_val]at h3
    rw [decide_eq_true (by omega),decide_eq_true (by omega)]
   ·have h3:=trim_len (by decide) (d32_dig n) (d32_dig R) (d32_trim R) (by omega)
    rw [d32_val,d32_val]at h3
    rw [decide_eq_false (by omega),decide_eq_false (by omega)]
  refine Ev.congr (f:=fun _=>some (decide (R<n))) (fun k=>?_) (Ev.now _)
  rw [if_neg (by omega),hdec]
def RSm (u y z:List Int) (g:Int) (K i:Nat) (c:Int):Prop:=
 z.length=u.length∧Dig B32 z∧(0≤c∧c<B32)∧z.take K=u.take K∧z.drop (K+i)=u.drop (K+i)∧vB B32 z+B32^K*(g*vB B32 (y.take i))=vB B32 u+B32^(K+i)*c
theorem take_set_far {l:List Int} {K j:Nat} (h:K≤j) (x:Int):(l.set j x).take K=l.take K:=List.take_set_of_le h
theorem rsm_digit {z y g c:Int} (z0:0≤z) (z1:z<B32) (y0:0≤y) (y1:y<B32) (g0:0≤g) (g1:g<B32) (c0:0≤c) (c1:c<B32):
  IntKind.u64.wrap (IntKind.u64.wrap (y*g)+c)=y*g+c∧Go.bits .and .u64 (y*g+c) 4294967295=(y*g+c)%B32∧0≤(y*g+c)/B32∧(y*g+c)/B32<B32∧0≤(y*g+c)%B32∧(y*g+c)%B32<B32∧(z<(y*g+c)%B32→(y*g+c)/B32+1<B32):=by
 have z1':z<4294967296:=z1
 have y1':y<4294967296:=y1
 have g1':g<4294967296:=g1
 have c1':c<4294967296:=c1
 have hp:=mul_range y0 (show y≤4294967295 by omega) g0 (show g≤4294967295 by omega)
 have h1:(4294967295:Int)*4294967295=18446744065119617025:=rfl
 rw [h1]at hp
 rw [and32 (x:=y*g+c) (by omega) (by omega)]
 show IntKind.u64.wrap (IntKind.u64.wrap (y*g)+c)=y*g+c∧(y*g+c)%4294967296=(y*g+c)%4294967296∧0≤(y*g+c)/4294967296∧(y*g+c)/4294967296<4294967296∧0≤(y*g+c)%4294967296∧(y*g+c)%4294967296<4294967296∧(z<(y*g+c)%4294967296→(y*g+c)/4294967296+1<4294967296)
 generalize y*g=p at*
 clear y0 y1 y1' g0 g1 g1' z1 c1 h1
 rw [u64 (x:=p) (by omega) (by omega),u64 (x:=p+c) (by omega) (by omega)]
 omega
theorem rsm_step {u y z:List Int} {g c d e:Int} {K i:Nat} (hj:K+i<z.length) (h:RSm u y z g K i c) (d0:0≤d) (d1:d<B32) (he:0≤(rd y (i:Int)*g+c)/B32+e) (he1:(rd y (i:Int)*g+c)/B32+e<B32)
  (hd:d=rd z ((K+i:Nat):Int)-(rd y (i:Int)*g+c)%B32+B32*e):RSm u y (z.set (K+i) d) g K (i+1) ((rd y (i:Int)*g+c)/B32+e):=by
 obtain⟨hl,hdg,hc,ht,hdr,hv⟩:=h
 refine⟨by rw [List.length_set];exact hl,Dig_set hdg _ d0 d1,⟨he,he1⟩,by rw [take_set_far (by omega)];exact ht,?_,?_⟩
 ·rw [←Nat.add_assoc,drop_set,←List.drop_drop,hdr,List.drop_drop]
 ·rw [vB_set _ _ _ _ hj,take_succ,←Nat.add_assoc,Int.pow_succ,hd]
  have em:=Int.emod_add_mul_ediv (rd y (i:Int)*g+c) B32
  generalize(rd y (i:Int)*g+c)/B32=q at*
  generalize(rd y (i:Int)*g+c)%B32=r at*
  have er:rd z ((K+i:Nat):Int)-r+B32*e-rd z ((K+i:Nat):Int)=B32*(q+e)-rd y (i:Int)*g-c:=by
   rw [Int.mul_add]
   clear hv
   omega
  have ep:(B32:Int)^(K+i)=B32^K*B32^i:=Int.pow_add _ _ _
  rw [er,Int.mul_sub,Int.mul_sub,Int.mul_assoc (B32^(K+i)) B32]
  have e3:B32^K*(g*(vB B32 (y.take i)+B32^i*rd y (i:Int)))=B32^K*(g*vB B32 (y.take i))+B32^(K+i)*(rd y (i:Int)*g):=by
   rw [ep,Int.mul_add g,Int.mul_add (B32^K),Int.mul_left_comm g (B32^i),←Int.mul_assoc (B32^K) (B32^i),Int.mul_comm g (rd y _)]
  rw [e3]
  generalize B32^(K+i)*(B32*(q+e))=A1 at*
  generalize B32^(K+i)*(rd y (i:Int)*g)=A2 at*
  generalize B32^(K+i)*c=A3 at*
  generalize B32^K*(g*vB B32 (y.take i))=A4 at*
  clear ep er em
  omega
theorem rsm_end {u y z:List Int} {g c:Int} {K N:Nat} (hN:y.length=N) (hKN:K+N<u.length) (hu:Dig B32 u) (hy:Dig B32 y) (h:RSm u y z g K N c) (hg:g*vB B32 y≤vB B32 (u.drop K)) (hR:vB B32 (u.drop K)<vB B32 y*B32):
  0≤rd z ((K+N:Nat):Int)-c∧rd z ((K+N:Nat):Int)-c<B32∧(z.set (K+N) (rd z ((K+N:Nat):Int)-c)).length=u.length∧Dig B32 (z.set (K+N) (rd z ((K+N:Nat):Int)-c))∧
  vB B32 ((z.set (K+N) (rd z ((K+N:Nat):Int)-c)).drop K)=vB B32 (u.drop K)-g*vB B32 y∧vB B32 (z.set (K+N) (rd z ((K+N:Nat):Int)-c))+B32^K*(g*vB B32 y)=vB B32 u:=by
 have hB:(0:Int)<B32:=by decide
 obtain⟨hl,hd,hc,ht,hdr,hv⟩:=h
 rw [vB_all _ _ _ (by rw [hN];exact Nat.le_refl _)]at hv
 have hj:K+N<z.length:=by omega
 obtain⟨z0,z1⟩:=Dig_rd hd (K+N) hj
 have hy1:=vB_lt hB hy
 rw [hN]at hy1
 have s2:=vB_split B32 (u.drop K) (N+1) (by rw [List.length_drop];omega)
 rw [List.drop_drop]at s2
 have p1:=vB_nonneg (Int.le_of_lt hB) (Dig_take (Dig_drop hu K) (N+1))
 have p2:=vB_nonneg (Int.le_of_lt hB) (Dig_drop hu (K+(N+1)))
 have hzero:vB B32 (u.drop (K+(N+1)))=0:=by
  rcases Int.lt_or_le (vB B32 (u.drop (K+(N+1)))) 1 with h|h
  ·clear hv hy1 s2 hR hg;omega
  ·exfalso
   have h1:=Int.mul_le_mul_of_nonneg_left h (Int.le_of_lt (show(0:Int)<B32^(N+1)from Int.pow_pos hB))
   rw [Int.mul_one]at h1
   have h2:=Int.mul_lt_mul_of_pos_right hy1 hB
   have h3:(B32:Int)^(N+1)=B32^N*B32:=Int.pow_succ _ _
   rw [h3]at h1 s2
   generalize(B32:Int)^N*B32=P at*
   generalize P*vB B32 (u.drop (K+(N+1)))=A at*
   clear hv hy1 hg h3
   omega
 have s3:=vB_split B32 z (K+N) (by omega)
 have s4:vB B32 (z.drop (K+N))=rd z ((K+N:Nat):Int):=by
  have h1:=drop_succ B32 z (K+N) hj
  have h2:z.drop (K+N+1)=u.drop (K+(N+1)):=by rw [←List.drop_drop,hdr,List.drop_drop,Nat.add_assoc]
  rw [h2,hzero,Int.mul_zero,Int.add_zero]at h1
  exact h1
 have l0:=vB_nonneg (Int.le_of_lt hB) (Dig_take hd (K+N))
 have l1:=vB_lt hB (Dig_take hd (K+N))
 rw [List.length_take,Nat.min_eq_left (by clear hv hy1 s2 s3;omega)]at l1
 have s5:=vB_split B32 u K (by clear hv hy1 s2 s3 l1;omega)
 have l2:=vB_nonneg (Int.le_of_lt hB) (Dig_take hu K)
 have hge:c≤rd z ((K+N:Nat):Int):=by
  rcases Int.lt_or_le (rd z ((K+N:Nat):Int)) c with h|h
  ·exfalso
   have h1:=Int.mul_le_mul_of_nonneg_left (show rd z ((K+N:Nat):Int)+1≤c by clear hv hy1 s2 s3 l1 s5;omega) (Int.le_of_lt (show(0:Int)<B32^(K+N)from Int.pow_pos hB))
   rw [Int.mul_add,Int.mul_one]at h1
   have h2:=Int.mul_le_mul_of_nonneg_left hg (Int.le_of_lt (show(0:Int)<B32^K from Int.pow_pos hB))
   rw [s4]at s3
   generalize B32^(K+N)*rd z ((K+N:Nat):Int)=A1 at*
   generalize B32^(K+N)*c=A2 at*
   generalize(B32:Int)^(K+N)=A3 at*
   generalize B32^K*(g*vB B32 y)=A4 at*
   generalize B32^K*vB B32 (u.drop K)=A5 at*
   clear hy1 s2
   omega
  ·exact h
 have d0:0≤rd z ((K+N:Nat):Int)-c:=by clear hv hy1 s2 s3 l1 s5;omega
 have d1:rd z ((K+N:Nat):Int)-c<B32:=by clear hv hy1 s2 s3 l1 s5;omega
 have hval:vB B32 (z.set (K+N) (rd z ((K+N:Nat):Int)-c))+B32^K*(g*vB B32 y)=vB B32 u:=by
  rw [vB_set _ _ _ _ hj,show rd z ((K+N:Nat):Int)-c-rd z ((K+N:Nat):Int)= -c by clear hv hy1 s2 s3 l1 s5;omega,Int.mul_neg]
  generalize B32^(K+N)*c=A2 at*
  generalize B32^K*(g*vB B32 y)=A4 at*
  clear hy1 s2 s3 l1 s5
  omega
 refine⟨d0,d1,by rw [List.length_set];exact hl,Dig_set hd _ d0 d1,?_,hval⟩
 have s6:=vB_split B32 (z.set (K+N) (rd z ((K+N:Nat):Int)-c)) K (by rw [List.length_set];clear hv hy1 s2 s3 l1 s5 hval;omega)
 rw [take_set_far (by clear hv hy1 s2 s3 l1 s5 hval;omega),ht]at s6
 have hne:(B32:Int)^K≠0:=Int.ne_of_gt (Int.pow_pos hB)
 apply Int.eq_of_mul_eq_mul_left hne
 rw [Int.mul_sub]
 generalize B32^K*vB B32 ((z.set (K+N) (rd z ((K+N:Nat):Int)-c)).drop K)=A1 at*
 generalize B32^K*vB B32 (u.drop K)=A2 at*
 generalize B32^K*(g*vB B32 y)=A4 at*
 clear hv hy1 s2 s3 l1
 omega
theorem rdiv_l2 {u y q:List Int} {g:Int} {K N:Nat} (hN:y.length=N) (hKN:K+N<u.length) (lu:u.length≤1099511627776) (hu:Dig B32 u) (hy:Dig B32 y) (g0:0≤g) (g1:g<B32) (hg:g*vB B32 y≤vB B32 (u.drop K)) (hR:vB B32 (u.drop K)<vB B32 y*B32) {r:ByteArray×ByteArray}
  (next:∀z':List Int,z'.length=u.length→Dig B32 z'→vB B32 (z'.drop K)=vB B32 (u.drop K)-g*vB B32 y→vB B32 z'+B32^K*(g*vB B32 y)=vB B32 u→Ev (fun k=>galoisref01_DivMod.l1 k y (N:Int) z' q (K:Int)) r):
  ∀(d i:Nat) (z:List Int) (c:Int),i+d=N→RSm u y z g K i c→Ev (fun k=>galoisref01_DivMod.l2 k y (N:Int) z q (K:Int) g c (i:Int)) r:=by
 intro d
 induction d with
 |zero=>
  intro i z c hi h
  have hi:i=N:=by omega
  subst hi
  have hl:=h.1
  have c1:((K+i:Nat):Int)<(z.length:Int):=by omega
  obtain⟨d0,d1,r1,r2,r3,r4⟩:=rsm_end hN hKN hu hy h hg hR
  have d1':rd z ((K+i:Nat):Int)-c<4294967296:=d1
  have e1:wrap64 ((K:Int)+(i:Int))=((K+i:Nat):Int):=by clear r3 r4 hg hR;rw [w64 (by omega) (by omega)];omega
  have e2:IntKind.u64.wrap (rd z ((K+i:Nat):Int)-c)=rd z ((K+i:Nat):Int)-c:=by clear r3 r4 hg hR e1;exact u64 (by omega) (by omega)
  refine Ev.step (fun k=>?_) (next _ r1 r2 r3 r4)
  simp only [galoisref01_DivMod.l2,e1,e2]
  rw [if_neg (Int.lt_irrefl _),if_pos (Int.natCast_nonneg _),if_pos c1,Int.toNat_natCast]
 |succ d ih=>
  intro i z c hi h
  have hl:=h.1
  have hi':i<N:=by omega
  have hj:K+i<z.length:=by omega
  have c0:i+1+d=N:=by omega
  have c1:(i:Int)<(N:Int):=Int.ofNat_lt.2 hi'
  have c2:(i:Int)<(y.length:Int):=by rw [hN];exact c1
  have c3:((K+i:Nat):Int)<(z.length:Int):=Int.ofNat_lt.2 hj
  obtain⟨z0,z1⟩:=Dig_rd h.2.1 (K+i) hj
  obtain⟨y0,y1⟩:=Dig_rd hy i (by omega)
  have hc:=h.2.2.1
  obtain⟨p1,p2,p3,p4,p5,p6,p7⟩:=rsm_digit z0 z1 y0 y1 g0 g1 hc.1 hc.2
  have z1':rd z ((K+i:Nat):Int)<4294967296:=z1
  have p4':(rd y (i:Int)*g+c)/B32<4294967296:=p4
  have p6':(rd y (i:Int)*g+c)%B32<4294967296:=p6
  have e1:wrap64 ((K:Int)+(i:Int))=((K+i:Nat):Int):=by clear p1 p2 p3 p4 p4' p5 p6 p6' p7 hg hR;rw [w64 (by omega) (by omega)];omega
  have e2:wrap64 ((i:Int)+1)=((i+1:Nat):Int):=by clear p1 p2 p3 p4 p4' p5 p6 p6' p7 hg hR e1;rw [w64 (by omega) (by omega)];omega
  by_cases hb:rd z ((K+i:Nat):Int)<(rd y (i:Int)*g+c)%B32
  ·have p8:=p7 hb
   have hs:=rsm_step (d:=rd z ((K+i:Nat):Int)+4294967296-(rd y (i:Int)*g+c)%B32) (e:=1) hj h (by clear p1 p2 p3 p4 p4' p5 p7 hg hR e1 e2;omega) (by show _<(4294967296:Int);clear p1 p2 p3 p4 p4' p5 p7 hg hR e1 e2;omega) (by clear p1 p2 p4 p4' p5 p7 hg hR e1 e2 hb;omega) p8 (by show _=rd z ((K+i:Nat):Int)-(rd y (i:Int)*g+c)%B32+4294967296*1;clear p1 p2 p3 p4 p4' p5 p7 hg hR e1 e2;omega)
   have e3:IntKind.u64.wrap (rd z ((K+i:Nat):Int)+4294967296)=rd z ((K+i:Nat):Int)+4294967296:=by clear p1 p2 p3 p4 p4' p5 p7 hg hR e1 e2;exact u64 (by omega) (by omega)
   have e4:IntKind.u64.wrap (rd z ((K+i:Nat):Int)+4294967296-(rd y (i:Int)*g+c)%B32)=rd z ((K+i:Nat):Int)+4294967296-(rd y (i:Int)*g+c)%B32:=by clear p1 p2 p3 p4 p4' p7 hg hR e1 e2 e3;exact u64 (by omega) (by omega)
   have e5:IntKind.u64.wrap ((rd y (i:Int)*g+c)/4294967296+1)=(rd y (i:Int)*g+c)/B32+1:=by
    clear p1 p2 p7 hg hR e1 e2 e3 e4
    exact u64 (Int.add_nonneg p3 (by decide)) (Int.lt_trans p8 (by decide))
   have r1:rd (z.set (K+i) (rd z ((K+i:Nat):Int)+4294967296)) ((K+i:Nat):Int)=rd z ((K+i:Nat):Int)+4294967296:=rd_set_self _ _ _ hj
   refine Ev.step (fun k=>?_) (ih (i+1) _ _ c0 hs)
   simp only [galoisref01_DivMod.l2,e1,e2,p1,p2,e3,e5,Int.toNat_natCast,Option.bind_some]
   rw [if_pos c1,if_pos (Int.natCast_nonneg _),if_pos c2,if_pos (Int.natCast_nonneg _),if_pos c3,if_pos hb,r1,e4,List.set_set]
  ·have hs:=rsm_step (d:=rd z ((K+i:Nat):Int)-(rd y (i:Int)*g+c)%B32) (e:=0) hj h (by clear p1 p2 p3 p4 p4' p7 hg hR e1 e2;omega) (by show _<(4294967296:Int);clear p1 p2 p3 p4 p4' p7 hg hR e1 e2;omega) (by rw [Int.add_zero];exact p3) (by rw [Int.add_zero];exact p4) (by rw [Int.mul_zero,Int.add_zero])
   have e4:IntKind.u64.wrap (rd z ((K+i:Nat):Int)-(rd y (i:Int)*g+c)%B32)=rd z ((K+i:Nat):Int)-(rd y (i:Int)*g+c)%B32:=by clear p1 p2 p3 p4 p4' p7 hg hR e1 e2;exact u64 (by omega) (by omega)
   rw [Int.add_zero]at hs
   refine Ev.step (fun k=>?_) (ih (i+1) _ _ c0 hs)
   simp only [galoisref01_DivMod.l2,e1,e2,p1,p2,Int.toNat_natCast]
   rw [if_pos c1,if_pos (Int.natCast_nonneg _),if_pos c2,if_pos (Int.natCast_nonneg _),if_pos c3,if_neg hb,e4]
theorem d32_pos {n:Nat} (h:0<n):0<(d32 n).length:=by
 rcases Nat.eq_zero_or_pos (d32 n).length with h1|h1
 ·exfalso
  have:=d32_val n
  rw [List.eq_nil_of_length_eq_zero h1]at this
  simp [vB]at this
  omega
 ·exact h1
theorem mx_or (a b:Int):(mx a b=a∧b≤a)∨(mx a b=b∧a≤b):=by
 unfold mx
 split
 ·right;exact⟨rfl,by omega⟩
 ·left;exact⟨rfl,by omega⟩
theorem rguess {u:List Int} {n K N:Nat} {R T top:Int} (hn:0<n) (hN:(d32 n).length=N+1) (hKN:K+(N+1)<u.length) (hu:Dig B32 u) (hR:vB B32 (u.drop K)=R) (hge:(n:Int)≤R) (hlt:R<n*B32)
  (hT:T=rd u ((K+(N+1):Nat):Int)*4294967296+rd u ((K+N:Nat):Int)) (htop:top=rd (d32 n) (N:Int)):
  (0≤T∧T<18446744073709551616)∧(0≤top∧top<4294967296)∧1≤mx 1 (T/(top+1))∧mx 1 (T/(top+1))<B32∧mx 1 (T/(top+1))*n≤R:=by
 have hB:(0:Int)<B32:=by decide
 obtain⟨t0,t1⟩:=Dig_rd (d32_dig n) N (by omega)
 obtain⟨u0,u1⟩:=Dig_rd hu (K+(N+1)) hKN
 obtain⟨v0,v1⟩:=Dig_rd hu (K+N) (by omega)
 rw [←htop]at t0 t1
 have t1':top<4294967296:=t1
 have u1':rd u ((K+(N+1):Nat):Int)<4294967296:=u1
 have v1':rd u ((K+N:Nat):Int)<4294967296:=v1
 have T0:0≤T:=by omega
 have T1:T<18446744073709551616:=by omega
 have key:T/(top+1)*n≤R:=by
  have hg0:0≤T/(top+1):=Int.ediv_nonneg T0 (by omega)
  have hg1:T/(top+1)*(top+1)≤T:=Int.ediv_mul_le T (by omega)
  have s1:=vB_split B32 (u.drop K) N (by rw [List.length_drop];omega)
  rw [List.drop_drop,hR]at s1
  have p1:=vB_nonneg (Int.le_of_lt hB) (Dig_take (Dig_drop hu K) N)
  have s2:=drop_succ B32 u (K+N) (by omega)
  have s3:=drop_succ B32 u (K+(N+1)) hKN
  rw [show K+N+1=K+(N+1)by omega,s3]at s2
  have p2:=vB_nonneg (Int.le_of_lt hB) (Dig_drop hu (K+(N+1)+1))
  have hle:T≤vB B32 (u.drop (K+N)):=by
   rw [s2,hT]
   show _≤rd u ((K+N:Nat):Int)+4294967296*(rd u ((K+(N+1):Nat):Int)+4294967296*vB B32 (u.drop (K+(N+1)+1)))
   clear s1 s2 s3 hg1 hlt hge
   omega
  have hP:(0:Int)≤B32^N:=Int.le_of_lt (Int.pow_pos hB)
  have h1:=Int.mul_le_mul_of_nonneg_left hle hP
  have hn1:=vB_all B32 (d32 n) (N+1) (by omega)
  rw [take_succ,d32_val,←htop]at hn1
  have hn2:=vB_lt hB (Dig_take (d32_dig n) N)
  rw [List.length_take,Nat.min_eq_left (by omega)]at hn2
  have hn3:(n:Int)≤B32^N*(top+1):=by
   rw [Int.mul_add,Int.mul_one]
   generalize B32^N*top=A at*
   generalize(B32:Int)^N=P at*
   clear s1 s2 s3 hg1 hlt hge hle h1
   omega
  have h2:=Int.mul_le_mul_of_nonneg_left hn3 hg0
  have h3:=Int.mul_le_mul_of_nonneg_left hg1 hP
  have e:T/(top+1)*(B32^N*(top+1))=B32^N*(T/(top+1)*(top+1)):=Int.mul_left_comm _ _ _
  rw [e]at h2
  generalize B32^N*(T/(top+1)*(top+1))=A at*
  generalize B32^N*T=A2 at*
  generalize B32^N*vB B32 (u.drop (K+N))=A3 at*
  generalize T/(top+1)*(n:Int)=A4 at*
  clear s2 s3 hg1 hlt hge hle hn1 hn2 hn3 e
  omega
 have hall:1≤mx 1 (T/(top+1))∧mx 1 (T/(top+1))*n≤R:=by
  rcases mx_or 1 (T/(top+1))with⟨h,h'⟩| ⟨h,h'⟩
  ·rw [h,Int.one_mul]
   exact⟨Int.le_refl _,hge⟩
  ·rw [h]
   exact⟨h',key⟩
 refine⟨⟨T0,T1⟩,⟨t0,t1'⟩,hall.1,?_,hall.2⟩
 rcases Int.lt_or_le (mx 1 (T/(top+1))) B32 with h|h
 ·exact h
 ·exfalso
  have h1:=Int.mul_le_mul_of_nonneg_right h (show(0:Int)≤n by omega)
  rw [Int.mul_comm B32]at h1
  have:=hall.2
  clear hall key
  generalize mx 1 (T/(top+1))*(n:Int)=A at*
  generalize(n:Int)*B32=A2 at*
  omega
theorem rdiv_l1 {n N K Lu Lq:Nat} {V:Int} (hn:0<n) (hN:(d32 n).length=N+1) (hKN:K+(N+1)<Lu) (hKq:K<Lq) (lu:Lu≤1099511627776) {r:ByteArray×ByteArray}
  (next:∀u q:List Int,u.length=Lu→q.length=Lq→Dig B32 u→Dig B32 q→q.take K=List.replicate K 0→vB B32 u+n*vB B32 q=V→vB B32 (u.drop K)<n→Ev (fun k=>galoisref01_DivMod.l0 k (d32 n) ((N+1:Nat):Int) u q ((K:Int)-1)) r):
  ∀(R:Nat) (u q:List Int),u.length=Lu→q.length=Lq→Dig B32 u→Dig B32 q→q.take K=List.replicate K 0→vB B32 u+n*vB B32 q=V→vB B32 (u.drop K)=R→rd q (K:Int)*n+R<n*B32→Ev (fun k=>galoisref01_DivMod.l1 k (d32 n) ((N+1:Nat):Int) u q (K:Int)) r:=by
 intro R
 induction R using Nat.strongRecOn with
 |_ R ih=>
  intro u q hlu hlq hu hq hz hV hR hb
  have hbe:=below_ev (n:=n) (Dig_drop hu K) (by rw [List.length_drop];omega) hR (by omega)
  have c0:(K:Int)≤(u.length:Int):=by omega
  refine Ev.step (fun k=>galoisref01_DivMod.l1.eq_2 ..) ?_
  refine Ev.congr (fun k=>if_pos (Int.natCast_nonneg K)) (Ev.congr (fun k=>if_pos c0) ?_)
  refine Ev.bind hbe ?_
  have e0:wrap64 ((K:Int)-1)=(K:Int)-1:=by clear hV hb hR;exact w64 (by omega) (by omega)
  have c1:((K+(N+1):Nat):Int)<(u.length:Int):=by clear hV hb hR e0;omega
  have c2:((K+N:Nat):Int)<(u.length:Int):=by clear hV hb hR e0;omega
  have c3:(N:Int)<((d32 n).length:Int):=by clear hV hb hR e0;omega
  have c5:(K:Int)<(q.length:Int):=by clear hV hb hR e0;omega
  have cG:∀G:Int,rd q (K:Int)+G-rd q (K:Int)=G:=fun G=>by clear hV hb hR e0;omega
  by_cases hlt:R<n
  ·refine Ev.congr (fun k=>if_pos (decide_eq_true hlt)) ?_
   rw [e0]
   exact next u q hlu hlq hu hq hz hV (by rw [hR];exact Int.ofNat_lt.2 hlt)
  ·obtain⟨q0,q1⟩:=Dig_rd hq K (by omega)
   have hq0n:0≤rd q (K:Int)*n:=Int.mul_nonneg q0 (by omega)
   have hRB:(R:Int)<n*B32:=by
    generalize rd q (K:Int)*(n:Int)=A at*
    generalize(n:Int)*B32=A2 at*
    clear hV
    omega
   obtain⟨⟨T0,T1⟩,⟨p0,p1⟩,g1,gB,gR⟩:=rguess hn hN (by omega) hu hR (by omega) hRB rfl rfl
   obtain⟨T,hT⟩:∃T,T=rd u ((K+(N+1):Nat):Int)*4294967296+rd u ((K+N:Nat):Int):=⟨_,rfl⟩
   rw [←hT]at T0 T1 g1 gB gR
   obtain⟨top,htop⟩:∃top,top=rd (d32 n) (N:Int):=⟨_,rfl⟩
   rw [←htop]at p0 p1 g1 gB gR
   obtain⟨u0,u1⟩:=Dig_rd hu (K+(N+1)) (by omega)
   obtain⟨v0,v1⟩:=Dig_rd hu (K+N) (by omega)
   have u1':rd u ((K+(N+1):Nat):Int)<4294967296:=u1
   have q1':rd q (K:Int)<4294967296:=q1
   have e1:wrap64 ((K:Int)+((N+1:Nat):Int))=((K+(N+1):Nat):Int):=by clear hV hb hR hT htop e0;rw [w64 (by omega) (by omega)];omega
   have e2:wrap64 (((K+(N+1):Nat):Int)-1)=((K+N:Nat):Int):=by clear hV hb hR hT htop e0 e1;rw [w64 (by omega) (by omega)];omega
   have e3:wrap64 (((N+1:Nat):Int)-1)=(N:Int):=by clear hV hb hR hT htop e0 e1 e2;rw [w64 (by omega) (by omega)];omega
   have e4:IntKind.u64.wrap (top+1)=top+1:=by clear hV hb hR hT htop e0 e1 e2 e3;exact u64 (by omega) (by omega)
   have e5:IntKind.u64.wrap (rd u ((K+(N+1):Nat):Int)*4294967296)=rd u ((K+(N+1):Nat):Int)*4294967296:=by clear hV hb hR hT htop e0 e1 e2 e3 e4;exact u64 (by omega) (by omega)
   have e6:IntKind.u64.wrap T=T:=u64 T0 T1
   have d0:0≤T/(top+1):=Int.ediv_nonneg T0 (by clear hV hb hR hT htop e0 e1 e2 e3 e4 e5 e6;omega)
   have d1:T/(top+1)≤T:=Int.ediv_le_self _ T0
   have e7:IntKind.u64.wrap (Int.tdiv T (top+1))=T/(top+1):=by
    rw [Int.tdiv_eq_ediv_of_nonneg T0]
    exact u64 d0 (Int.lt_of_le_of_lt d1 T1)
   obtain⟨G,hG⟩:=Int.eq_ofNat_of_zero_le (show 0≤mx 1 (T/(top+1))from Int.le_trans (by decide) g1)
   rw [hG]at g1 gB gR
   have gB':(G:Int)<4294967296:=gB
   have gR':G*n≤R:=by
    apply Int.ofNat_le.1
    rw [Int.natCast_mul]
    exact gR
   have hGn:n≤G*n:=Nat.le_mul_of_pos_left _ (by clear hV hb hR hT htop e0 e1 e2 e3 e4 e5 e6 e7 hG gR gR';omega)
   have hnew:(rd q (K:Int)+G)*n+((R-G*n:Nat):Int)<n*B32:=by
    rw [Int.add_mul,Int.ofNat_sub gR',Int.natCast_mul]
    generalize rd q (K:Int)*(n:Int)=A at*
    generalize(G:Int)*(n:Int)=A3 at*
    generalize(n:Int)*B32=A2 at*
    clear hV e0 e1 e2 e3 e4 e5 e6 e7 hT htop hG
    omega
   have hdig:rd q (K:Int)+G<B32:=by
    rcases Int.lt_or_le (rd q (K:Int)+G) B32 with h|h
    ·exact h
    ·exfalso
     have h1:=Int.mul_le_mul_of_nonneg_right h (show(0:Int)≤n by omega)
     rw [Int.mul_comm B32]at h1
     generalize(rd q (K:Int)+G)*(n:Int)=A at*
     generalize(n:Int)*B32=A2 at*
     generalize R-G*n=A3 at*
     clear hV e0 e1 e2 e3 e4 e5 e6 e7 hT htop hG hb
     omega
   have hdig':rd q (K:Int)+G<4294967296:=hdig
   have e8:IntKind.u64.wrap (rd q (K:Int)+(G:Int))=rd q (K:Int)+G:=by clear hV hb hR hT htop e0 e1 e2 e3 e4 e5 e6 e7 hG;exact u64 (by omega) (by omega)
   have hyv:=d32_val n
   have k1:K+(N+1)<u.length:=by rw [hlu];exact hKN
   have k2:u.length≤1099511627776:=by rw [hlu];exact lu
   have hl2:=rdiv_l2 (u:=u) (y:=d32 n) (q:=q.set K (rd q (K:Int)+G)) (g:=G) (K:=K) (N:=N+1) hN k1 k2 hu (d32_dig n) (Int.natCast_nonneg G) gB (by rw [hyv,hR];exact gR) (by rw [hyv,hR];exact hRB) (r:=r) (by
    intro z hlz hdz hvz hvz2
    rw [hyv,hR]at hvz
    rw [hyv]at hvz2
    refine ih (R-G*n) (by clear hV hb hR hT htop e0 e1 e2 e3 e4 e5 e6 e7 e8 hG hvz hvz2 hnew;omega) z _ (hlz.trans hlu) (by rw [List.length_set];exact hlq) hdz (Dig_set hq K (Int.add_nonneg q0 (Int.natCast_nonneg G)) hdig) (by rw [take_set_far (Nat.le_refl K)];exact hz) ?_ ?_ ?_
    ·rw [vB_set _ _ _ _ (by rw [hlq];exact hKq),cG,Int.mul_add,Int.mul_left_comm (n:Int),Int.mul_comm (n:Int) (G:Int)]
     generalize B32^K*((G:Int)*(n:Int))=A at*
     generalize(n:Int)*vB B32 q=A2 at*
     clear hb hR hT htop e0 e1 e2 e3 e4 e5 e6 e7 e8 hG hnew
     omega
    ·rw [hvz,Int.ofNat_sub gR',Int.natCast_mul]
    ·rw [rd_set_self _ _ _ (by rw [hlq];exact hKq)]
     exact hnew) (N+1) 0 u 0 (Nat.zero_add _) ⟨rfl,hu,⟨by decide,by decide⟩,rfl,rfl,by simp [vB]⟩
   refine Ev.congr (fun k=>?_) hl2
   have c4:¬top+1=0:=Int.ne_of_gt (Int.lt_add_one_of_le p0)
   have c6:¬decide (R<n)=true:=by rw [decide_eq_true_eq];exact hlt
   rw [if_neg c6]
   simp only [e1,e2,e3,←htop,e4,e5,←hT,e6,e7,hG,e8,Int.toNat_natCast]
   rw [if_pos (Int.natCast_nonneg _),if_pos c1,if_pos (Int.natCast_nonneg _),if_pos c2,if_pos (Int.natCast_nonneg _),if_pos c3,if_neg c4,if_pos c5]
   rfl
theorem rdiv_l0 {n N m Lu Lq:Nat} (hn:0<n) (hN:(d32 n).length=N+1) (lu:Lu≤1099511627776) (lq:Lq≤1099511627776):∀(K:Nat) (u q:List Int),K≤Lq→(K=0∨K+(N+1)≤Lu)→u.length=Lu→q.length=Lq→Dig B32 u→Dig B32 q→q.take K=List.replicate K 0→vB B32 u+n*vB B32 q=m→vB B32 (u.drop K)<n→
  Ev (fun k=>galoisref01_DivMod.l0 k (d32 n) ((N+1:Nat):Int) u q ((K:Int)-1)) (nat (m/n),nat (m%n)):=by
 intro K
 induction K with
 |zero=>
  intro u q _ _ hlu hlq hu hq _ hV hR
  rw [List.drop_zero]at hR
  obtain⟨U,hU⟩:=Int.eq_ofNat_of_zero_le (vB_nonneg (show(0:Int)≤B32 by decide) hu)
  obtain⟨Q,hQ⟩:=Int.eq_ofNat_of_zero_le (vB_nonneg (show(0:Int)≤B32 by decide) hq)
  rw [hU]at hR hV
  rw [hQ]at hV
  have hm:m=U+n*Q:=by
   apply Int.ofNat_inj.1
   rw [Int.natCast_add,Int.natCast_mul]
   exact hV.symm
  have hUn:U<n:=Int.ofNat_lt.1 hR
  have pu:=rpack_ev hu (by omega)
  have pq:=rpack_ev hq (by omega)
  rw [hU,Int.toNat_natCast]at pu
  rw [hQ,Int.toNat_natCast]at pq
  have r1:m/n=Q:=by rw [hm,Nat.add_mul_div_left _ _ hn,Nat.div_eq_of_lt hUn,Nat.zero_add]
  have r2:m%n=U:=by rw [hm,Nat.add_mul_mod_self_left,Nat.mod_eq_of_lt hUn]
  rw [r1,r2]
  refine Ev.step (fun k=>galoisref01_DivMod.l0.eq_2 ..) ?_
  refine Ev.congr (fun k=>if_neg (by decide)) ?_
  exact Ev.bind pq (Ev.bind pu (Ev.now _))
 |succ K ih=>
  intro u q hK hK2 hlu hlq hu hq hz hV hR
  have hKN:K+(N+1)<Lu:=by omega
  have e0:((K+1:Nat):Int)-1=(K:Int):=by omega
  rw [e0]
  obtain⟨R,hR'⟩:=Int.eq_ofNat_of_zero_le (vB_nonneg (show(0:Int)≤B32 by decide) (Dig_drop hu K))
  have s:=drop_succ B32 u K (by omega)
  obtain⟨u0,u1⟩:=Dig_rd hu K (by omega)
  have hq0:rd q (K:Int)=0:=by
   rw [←rd_take q (K+1) K (by omega),hz,rd_replicate]
  have hz':q.take K=List.replicate K 0:=by
   have h:=congrArg (List.take K) hz
   rwa [List.take_take,Nat.min_eq_left (by omega),List.take_replicate,Nat.min_eq_left (by omega)]at h
  refine Ev.step (f:=fun k=>galoisref01_DivMod.l1 k (d32 n) ((N+1:Nat):Int) u q (K:Int)) (fun k=>(galoisref01_DivMod.l0.eq_2 ..).trans (if_pos (Int.natCast_nonneg K))) ?_
  refine rdiv_l1 (V:=m) hn hN hKN hK lu (fun u' q' h1 h2 h3 h4 h5 h6 h7=>ih u' q' (by omega) (Or.inr (by omega)) h1 h2 h3 h4 h5 h6 h7) R u q hlu hlq hu hq hz' hV hR' ?_
  rw [hq0,Int.zero_mul,←hR',s,Int.mul_comm (n:Int)]
  have h1:=Int.mul_le_mul_of_nonneg_left (show vB B32 (u.drop (K+1))+1≤n by omega) (show(0:Int)≤B32 by decide)
  rw [Int.mul_add,Int.mul_one]at h1
  generalize B32*vB B32 (u.drop (K+1))=A at*
  generalize B32*(n:Int)=A2 at*
  clear hV s hR hR'
  omega
theorem rDivMod_ev {m n:Nat} (hm:(nat m).size≤1099511627776) (hn:(nat n).size≤1099511627776):Ev (fun k=>galoisref01_DivMod.f k (nat m) (nat n)) (if n=0 then(⟨#[]⟩,⟨#[]⟩)else(nat (m/n),nat (m%n))):=by
 by_cases h0:n=0
 ·rw [if_pos h0]
  exact Ev.congr (fun k=>if_pos (nat_empty.2 h0)) (Ev.now _)
 ·rw [if_neg h0]
  refine Ev.congr (fun k=>if_neg (fun h=>h0 (nat_empty.1 h))) ?_
  refine Ev.bind (limbs_nat hm) (Ev.bind (limbs_nat hn) ?_)
  have lm:=limbs_len m
  have ln:=limbs_len n
  have hpos:=d32_pos (Nat.pos_of_ne_zero h0)
  obtain⟨N,hN⟩:∃N,(d32 n).length=N+1:=⟨(d32 n).length-1,by omega⟩
  have e1:mx 0 (wrap64 ((wrap64 (((d32 m).length:Int)-((d32 n).length:Int)))+1))=(((d32 m).length+1-(N+1):Nat):Int):=by
   rw [w64 (x:=((d32 m).length:Int)-((d32 n).length:Int)) (by omega) (by omega),w64 (by omega) (by omega)]
   rcases mx_or 0 (((d32 m).length:Int)-((d32 n).length:Int)+1)with⟨h,h'⟩| ⟨h,h'⟩<;>rw [h]<;>omega
  refine Ev.congr (fun k=>if_pos (show(d32 m).length<17592186044416 by omega)) ?_
  rw [e1]
  obtain⟨L,hL⟩:∃L,(d32 m).length+1-(N+1)=L:=⟨_,rfl⟩
  rw [hL]
  clear e1
  refine Ev.congr (fun k=>if_pos (Int.natCast_nonneg _)) (Ev.congr (fun k=>if_pos (show((L:Nat):Int).toNat≤35184372088832 by rw [Int.toNat_natCast];omega)) ?_)
  refine ev_some rfl ?_
  rw [Int.toNat_natCast,List.length_replicate,hN,w64 (by omega) (by omega)]
  refine rdiv_l0 (Lu:=(d32 m).length+1) (Lq:=L) (Nat.pos_of_ne_zero h0) hN (by omega) (by omega) L _ _ (Nat.le_refl _) (by omega) (by simp) (by simp) (Dig_append (d32_dig m) (Dig_cons.2 ⟨⟨by decide,by decide⟩,Dig_nil _⟩)) (Dig_replicate (by decide) L) (by simp) ?_ ?_
  ·rw [vB_append,vB_replicate,d32_val]
   simp [vB]
  ·have hx:vB B32 ((d32 m++[0]).drop L)=vB B32 ((d32 m).drop L):=by
    rcases Nat.lt_or_ge (d32 m).length L with h|h
    ·omega
    ·rw [List.drop_append_of_le_length h,vB_append]
     simp [vB]
   rw [hx]
   have t:=trim_le (by decide) (d32_dig n) (d32_trim n) hpos
   rw [d32_val]at t
   by_cases hl0:L=0
   ·rw [hl0,List.drop_zero,d32_val]
    have:=trim_len (by decide) (d32_dig m) (d32_dig n) (d32_trim n) (by omega)
    rwa [d32_val,d32_val]at this
   ·have h1:=vB_lt (show(0:Int)<B32 by decide) (Dig_drop (d32_dig m) L)
    rw [List.length_drop]at h1
    have e:(d32 m).length-L=(d32 n).length-1:=by omega
    rw [e]at h1
    exact Int.lt_of_lt_of_le h1 t
theorem rDivMod_ok {m n:Nat} (hm:(nat m).size≤1099511627776) (hn:(nat n).size≤1099511627776) (h0:n≠0):Ev (fun k=>galoisref01_DivMod.f k (nat m) (nat n)) (nat (m/n),nat (m%n)):=by
 have:=rDivMod_ev hm hn
 rwa [if_neg h0]at this
theorem rGcd_l0:∀(n m:Nat),(nat m).size≤1099511627776→(nat n).size≤1099511627776→Ev (fun k=>galoisref01_Gcd.l0 k (nat m) (nat n)) (nat (Nat.gcd m n)):=by
 intro n
 induction n using Nat.strongRecOn with
 |_ n ih=>
  intro m hm hn
  refine Ev.step (fun k=>galoisref01_Gcd.l0.eq_2 ..) ?_
  by_cases h:n=0
  ·subst h
   rw [Nat.gcd_zero_right]
   exact Ev.congr (fun k=>if_pos (nat_empty.2 rfl)) (Ev.now _)
  ·have hlt:=Nat.mod_lt m (Nat.pos_of_ne_zero h)
   have hs:=size_mono (Nat.le_of_lt hlt)
   have e:Nat.gcd m n=Nat.gcd n (m%n):=by rw [Nat.gcd_comm m n,Nat.gcd_rec n m,Nat.gcd_comm]
   rw [e]
   exact Ev.congr (fun k=>if_neg (fun h'=>h (nat_empty.1 h'))) (Ev.bind (rDivMod_ok hm hn h) (ih (m%n) hlt n hn (by omega)))
theorem rGcd_ev {m n:Nat} (hm:(nat m).size≤1099511627776) (hn:(nat n).size≤1099511627776):Ev (fun k=>galoisref01_Gcd.f k (nat m) (nat n)) (nat (Nat.gcd m n)):=rGcd_l0 n m hm hn
theorem bl_half {x:Nat} (h:x≠0):bl x=bl (x/2)+1:=by
 by_cases h1:x=1
 ·subst h1;rfl
 ·have h2:x/2≠0:=by omega
  obtain⟨g1,g2⟩:=bl_le h2
  have g3:=bl_lt (x/2)
  apply bl_unique h (by omega)
  ·rw [Nat.add_sub_cancel,show bl (x/2)=bl (x/2)-1+1 by omega,Nat.pow_succ]
   omega
  ·rw [Nat.pow_succ]
   omega
theorem top_byte {n:Nat} (h:n≠0):∃t:Nat,bt (nat n) 0=t∧0<t∧t<256∧bl n=8*((nat n).size-1)+bl t:=by
 have hp:0<(nat n).size:=Nat.pos_of_ne_zero fun h0=>h (nat_size_zero.1 h0)
 have hl:=nat_size n
 have ht:bt (nat n) 0=rd (d8 n) (((nat n).size-1:Nat):Int):=by
  have:=rd_reverse (d8 n) 0 (by omega)
  rw [bt_rd,nat_bytes]
  rw [show(d8 n).length-1-0=(nat n).size-1 by omega]at this
  exact this
 have hne:bt (nat n) 0≠0:=by
  rcases nat_wf n with h1|h1
  ·omega
  ·exact h1
 obtain⟨b0,b1⟩:=bt_range (nat n) 0
 obtain⟨t,ht2⟩:=Int.eq_ofNat_of_zero_le b0
 rw [ht2]at ht hne b1
 have hv:=vB_all 256 (d8 n) ((nat n).size-1+1) (by omega)
 rw [take_succ,d8_val,←ht]at hv
 have lo0:=vB_nonneg (show(0:Int)≤256 by decide) (Dig_take (d8_dig n) ((nat n).size-1))
 have lo1:=vB_lt (show(0:Int)<256 by decide) (Dig_take (d8_dig n) ((nat n).size-1))
 rw [List.length_take,Nat.min_eq_left (by omega)]at lo1
 obtain⟨l,hlo⟩:=Int.eq_ofNat_of_zero_le lo0
 rw [hlo]at hv lo1
 have hv':l+256^((nat n).size-1)*t=n:=by
  apply Int.ofNat_inj.1
  rw [Int.natCast_add,Int.natCast_mul,Int.natCast_pow]
  exact hv
 have lo1':l<256^((nat n).size-1):=by
  apply Int.ofNat_lt.1
  rw [Int.natCast_pow]
  exact lo1
 have htp:t≠0:=fun h0=>hne (by rw [h0];rfl)
 obtain⟨g1,g2⟩:=bl_le htp
 have g3:=bl_lt t
 refine⟨t,ht2,by omega,by omega,?_⟩
 have e8:256^((nat n).size-1)=2^(8*((nat n).size-1)):=by rw [Nat.pow_mul]
 rw [e8]at hv' lo1'
 apply bl_unique h (by omega)
 ·rw [show 8*((nat n).size-1)+bl t-1=8*((nat n).size-1)+(bl t-1)by omega,Nat.pow_add]
  have:=Nat.mul_le_mul_left (2^(8*((nat n).size-1))) g2
  omega
 ·rw [Nat.pow_add]
  have:=Nat.mul_le_mul_left (2^(8*((nat n).size-1))) (show t+1≤2^bl t by omega)
  rw [Nat.mul_add,Nat.mul_one]at this
  omega
theorem rBits_l0:∀(x b:Nat),x<256→b+x≤9223372036854775000→Ev (fun k=>galoisref01_Bits.l0 k (b:Int) (x:Int)) (((b+bl x:Nat):Int)):=by
 intro x
 induction x using Nat.strongRecOn with
 |_ x ih=>
  intro b hx hb
  refine Ev.step (fun k=>galoisref01_Bits.l0.eq_2 ..) ?_
  by_cases h:x=0
  ·subst h
   exact Ev.congr (fun k=>if_neg (by decide)) (Ev.now _)
  ·have h2:=ih (x/2) (by omega) (b+1) (by omega) (by omega)
   have e1:wrap64 ((b:Int)+1)=((b+1:Nat):Int):=by rw [w64 (by omega) (by omega)];omega
   have e2:Int.tdiv (x:Int) 2%256=((x/2:Nat):Int):=by rw [Int.tdiv_eq_ediv_of_nonneg (by omega)];omega
   refine Ev.congr (fun k=>if_pos (show(x:Int)>0 by omega)) ?_
   rw [e1,e2,bl_half h,show b+(bl (x/2)+1)=b+1+bl (x/2)by omega]
   exact h2
theorem rBits_ev {n:Nat} (hn:(nat n).size≤1099511627776):Ev (fun k=>galoisref01_Bits.f k (nat n)) (bl n:Int):=by
 by_cases h:n=0
 ·subst h
  exact Ev.congr (fun k=>if_pos (nat_empty.2 rfl)) (Ev.now _)
 ·have hp:0<(nat n).size:=Nat.pos_of_ne_zero fun h0=>h (nat_size_zero.1 h0)
  obtain⟨t,h1,h2,h3,h4⟩:=top_byte h
  refine Ev.congr (fun k=>if_neg (fun h0=>h (nat_empty.1 h0))) (Ev.congr (fun k=>if_pos (show 0<((nat n).size:Int)by omega)) ?_)
  rw [h1,w64 (x:=((nat n).size:Int)-1) (by omega) (by omega),w64 (by omega) (by omega),show 8*(((nat n).size:Int)-1)=((8*((nat n).size-1):Nat):Int)by omega,h4]
  exact rBits_l0 t _ h3 (by omega)
theorem rTwoTo_eq {b:Nat} (hb:b≤1099511627776):galoisref01_TwoTo.f (b:Int)=some (nat (2^b)):=NatTwo_eq hb
theorem rFromInt_ev {u:Nat} (hu:u<9223372036854775808):Ev (fun k=>galoisref01_FromInt.f k (u:Int)) (nat u):=by
 have h:=rOf_ev (u:=u) (by omega)
 refine Ev.congr (f:=fun k=>(galoisref01_Of.f k (u:Int)).bind fun t=>some t) (fun k=>?_) (Ev.bind h (Ev.now _))
 unfold galoisref01_FromInt.f
 rw [u64 (by omega) (by omega)]
theorem rPow_l0:∀(e A X:Nat),e<9223372036854775808→(nat A).size+2*e*(nat X).size≤1000000000000→(nat X).size≤1000000000000→Ev (fun k=>galoisref01_Pow.l0 k (nat X) (e:Int) (nat A)) (nat (A*X^e)):=by
 intro e
 induction e using Nat.strongRecOn with
 |_ e ih=>
  intro A X he hl hx
  refine Ev.step (fun k=>galoisref01_Pow.l0.eq_2 ..) ?_
  by_cases h:e=0
  ·subst h
   rw [Nat.pow_zero,Nat.mul_one]
   exact Ev.congr (fun k=>if_neg (by decide)) (Ev.now _)
  ·have c1:(e:Int)>0:=by omega
   have e1:Int.tmod (e:Int) 2=((e%2:Nat):Int):=by rw [Int.tmod_eq_emod_of_nonneg (by omega)];omega
   have e2:wrap64 (Int.tdiv (e:Int) 2)=((e/2:Nat):Int):=by rw [Int.tdiv_eq_ediv_of_nonneg (by omega),w64 (by omega) (by omega)];omega
   have lXX:=size_mul (m:=X) (n:=X)
   have lAX:=size_mul (m:=A) (n:=X)
   have hX:(nat X).size≤e*(nat X).size:=Nat.le_mul_of_pos_left _ (Nat.pos_of_ne_zero h)
   have h2:2*e*(nat X).size=2*(e*(nat X).size):=Nat.mul_assoc _ _ _
   have hhalf:2*(e/2)*(nat (X*X)).size≤4*(e/2*(nat X).size):=by
    have:=Nat.mul_le_mul_left (2*(e/2)) lXX
    have e3:2*(e/2)*((nat X).size+(nat X).size)=4*(e/2*(nat X).size):=by
     rw [Nat.mul_add,Nat.mul_assoc]
     omega
    omega
   have hcut:2*(e/2*(nat X).size)+e%2*(nat X).size=e*(nat X).size:=by
    rw [←Nat.mul_assoc,←Nat.add_mul]
    congr 1
    omega
   rw [h2]at hl
   have sq:=rMul_ev (m:=X) (n:=X) (by omega) (by omega)
   refine Ev.congr (fun k=>if_pos c1) ?_
   rw [e1,e2]
   by_cases ho:e%2=1
   ·rw [ho,Nat.one_mul]at hcut
    have ax:=rMul_ev (m:=A) (n:=X) (by omega) (by omega)
    have hp:A*X^e=A*X*(X*X)^(e/2):=by
     have:X^e=X*(X*X)^(e/2):=by
      rw [←Nat.pow_two,←Nat.pow_mul,Nat.mul_comm X,←Nat.pow_succ]
      congr 1
      omega
     rw [this,Nat.mul_assoc]
    rw [hp]
    exact Ev.congr (fun k=>if_pos (by rw [ho];rfl)) (Ev.bind ax (Ev.bind sq (ih (e/2) (by omega) _ _ (by omega) (by omega) (by omega))))
   ·have ho':e%2=0:=by omega
    rw [ho',Nat.zero_mul,Nat.add_zero]at hcut
    have hp:A*X^e=A*(X*X)^(e/2):=by
     have:X^e=(X*X)^(e/2):=by
      rw [←Nat.pow_two,←Nat.pow_mul]
      congr 1
      omega
     rw [this]
    rw [hp]
    exact Ev.congr (fun k=>if_neg (by rw [ho'];decide)) (Ev.bind sq (ih (e/2) (by omega) _ _ (by omega) (by omega) (by omega)))
theorem nat_one_size:(nat 1).size=1:=Nat.le_antisymm (nat_size_le.2 (by decide)) (Nat.pos_of_ne_zero fun h=>absurd (nat_size_zero.1 h) (by decide))
theorem rPow_ev {m e:Nat} (hm:(nat m).size≤100000) (he:e≤100000):Ev (fun k=>galoisref01_Pow.f k (nat m) (e:Int)) (nat (m^e)):=by
 have h1:=rOf_ev (u:=1) (by decide)
 refine Ev.bind h1 ?_
 have h2:2*e*(nat m).size≤200000*100000:=Nat.mul_le_mul (by omega) (by omega)
 have h3:=nat_one_size
 have:=rPow_l0 e 1 m (by omega) (by omega) (by omega)
 rwa [Nat.one_mul]at this
theorem nat_is_one {a:Nat}:(nat a).toList=([1]:List UInt8)↔a=1:=by
 have h1:(nat 1).toList=([1]:List UInt8):=by
  have h2:d8 1=[1]:=by
   unfold d8
   rw [dgs_pos _ _ (by decide),show 1/(254+2)=0 from rfl,dgs_zero]
   rfl
  unfold nat
  rw [h2,ByteArray.toList_eq]
  rfl
 constructor
 ·intro h
  rw [←h1]at h
  exact nat_inj.1 (toList_ext.1 h)
 ·rintro rfl
  exact h1
def powR (m e:Nat):ByteArray×Bool:=if(nat (m^e)).size≤1024 then(nat (m^e),true)else(⟨#[]⟩,false)
theorem rPowWithin_l0 {m e:Nat} (hm:(nat m).size≤1024) (he:e≤1000000):∀d i:Nat,i+d=e→(nat (m^i)).size≤1024→Ev (fun k=>galoisref01_PowWithin.l0 k (nat m) (e:Int) 1024 (nat (m^i)) (i:Int)) (powR m e):=by
 intro d
 induction d with
 |zero=>
  intro i hi hs
  have hi:i=e:=by omega
  subst hi
  refine Ev.step (fun k=>galoisref01_PowWithin.l0.eq_2 ..) (Ev.congr (fun k=>if_neg (Int.lt_irrefl _)) (Ev.step (fun k=>galoisref01_PowWithin.j1.eq_2 ..) (Ev.congr (fun k=>if_neg (by decide)) ?_)))
  unfold powR
  rw [if_pos hs,decide_eq_true (show((nat (m^i)).size:Int)≤1024 by omega)]
  exact Ev.now _
 |succ d ih=>
  intro i hi hs
  refine Ev.step (fun k=>galoisref01_PowWithin.l0.eq_2 ..) (Ev.congr (fun k=>if_pos (show(i:Int)<(e:Int)by omega)) (Ev.step (fun k=>galoisref01_PowWithin.j1.eq_2 ..) ?_))
  by_cases h1:m=1
  ·have hf:((nat m).toList !=([1]:List UInt8))=false:=by rw [nat_is_one.2 h1];rfl
   rw [hf]
   refine Ev.congr (fun k=>if_neg (by decide)) ?_
   subst h1
   unfold powR
   rw [Nat.one_pow,Nat.one_pow,nat_one_size,if_pos (by decide),decide_eq_true (by decide)]
   exact Ev.now _
  ·have hf:((nat m).toList !=([1]:List UInt8))=true:=by
    rw [bne_iff_ne]
    exact fun h=>h1 (nat_is_one.1 h)
   rw [hf]
   refine Ev.congr (fun k=>if_pos rfl) (Ev.bind (rMul_ev (by omega) (by omega)) ?_)
   rw [←Nat.pow_succ]
   have e1:wrap64 ((i:Int)+1)=((i+1:Nat):Int):=by rw [w64 (by omega) (by omega)];omega
   by_cases hb:((nat (m^(i+1))).size:Int)>1024
   ·refine Ev.congr (fun k=>if_pos hb) ?_
    have hm0:0<m:=by
     rcases Nat.eq_zero_or_pos m with h|h
     ·exfalso
      subst h
      rw [Nat.zero_pow (by omega),nat_size_zero.2 rfl]at hb
      exact absurd hb (by decide)
     ·exact h
    have hle:=size_mono (Nat.pow_le_pow_right hm0 (show i+1≤e by omega))
    unfold powR
    rw [if_neg (by omega)]
    exact Ev.now _
   ·refine Ev.congr (fun k=>if_neg hb) ?_
    by_cases h0:m^(i+1)=0
    ·refine Ev.congr (fun k=>if_pos (nat_empty.2 h0)) ?_
     have hm0:m=0:=by
      rcases Nat.eq_zero_or_pos m with h|h
      ·exact h
      ·exact absurd h0 (Nat.ne_of_gt (Nat.pow_pos h))
     unfold powR
     rw [hm0,Nat.zero_pow (by omega),if_pos (by rw [nat_size_zero.2 rfl];decide),nat_zero]
     exact Ev.now _
    ·refine Ev.congr (fun k=>if_neg (fun h=>h0 (nat_empty.1 h))) ?_
     rw [e1]
     exact ih (i+1) (by omega) (by omega)
theorem rPowWithin_ev {m e:Nat} (hm:(nat m).size≤1024) (he:e≤1000000):Ev (fun k=>galoisref01_PowWithin.f k (nat m) (e:Int) 1024) (powR m e):=by
 have h1:=rOf_ev (u:=1) (by decide)
 refine Ev.bind h1 ?_
 have:=rPowWithin_l0 hm he e 0 (by omega) (by rw [Nat.pow_zero,nat_one_size];decide)
 rwa [Nat.pow_zero]at this
theorem sq_add (r d:Nat):2*(r*(r+d))≤(r+d)*(r+d)+r*r∧2*((r+d)*r)≤r*r+(r+d)*(r+d):=by
 have e1:(r+d)*(r+d)=r*r+2*(r*d)+d*d:=by
  rw [Nat.add_mul,Nat.mul_add,Nat.mul_add,Nat.mul_comm d r]
  omega
 have e2:r*(r+d)=r*r+r*d:=Nat.mul_add ..
 rw [Nat.mul_comm (r+d) r,e1,e2]
 omega
theorem two_mul_le (r x:Nat):2*(r*x)≤x*x+r*r:=by
 rcases Nat.le_total r x with h|h
 ·obtain⟨d,rfl⟩:∃d,x=r+d:=⟨x-r,by omega⟩
  exact(sq_add r d).1
 ·obtain⟨d,rfl⟩:∃d,r=x+d:=⟨r-x,by omega⟩
  exact(sq_add x d).2
theorem mean (r x:Nat):∀j:Nat,(j+1)*(r*x^j)≤j*x^(j+1)+r^(j+1):=by
 intro j
 induction j with
 |zero=>simp
 |succ j ih=>
  have h1:=Nat.mul_le_mul_right r ih
  have h2:=Nat.mul_le_mul_left ((j+1)*x^j) (two_mul_le r x)
  have a1:(j+1)*(r*x^j)*r=(j+1)*x^j*(r*r):=by ac_rfl
  have a2:(j*x^(j+1)+r^(j+1))*r=j*(r*x^(j+1))+r^(j+1+1):=by rw [Nat.add_mul,Nat.pow_succ r (j+1)];ac_rfl
  have a3:(j+1)*x^j*(2*(r*x))=2*((j+1)*(r*x^(j+1))):=by rw [Nat.pow_succ];ac_rfl
  have a4:(j+1)*x^j*(x*x+r*r)=(j+1)*x^(j+1+1)+(j+1)*x^j*(r*r):=by rw [Nat.mul_add,Nat.pow_succ x (j+1),Nat.pow_succ x j];ac_rfl
  rw [a1,a2]at h1
  rw [a3,a4]at h2
  have a5:(j+1+1)*(r*x^(j+1))=(j+1)*(r*x^(j+1))+r*x^(j+1):=Nat.succ_mul _ _
  have a6:(j+1)*(r*x^(j+1))=j*(r*x^(j+1))+r*x^(j+1):=Nat.succ_mul _ _
  rw [a5]
  generalize(j+1)*x^j*(r*r)=A at*
  generalize(j+1)*x^(j+1+1)=A2 at*
  generalize(j+1)*(r*x^(j+1))=A3 at*
  generalize j*(r*x^(j+1))=A4 at*
  generalize r*x^(j+1)=A5 at*
  generalize r^(j+1+1)=A6 at*
  clear ih a1 a2 a3 a4 a5
  omega
theorem newton_gt {n x j y:Nat} (hx:0<x) (hy:y=(j*x+n/x^j)/(j+1)):n<(y+1)^(j+1):=by
 have hp:0<x^j:=Nat.pow_pos hx
 have h1:n<x^j*(n/x^j+1):=Nat.lt_mul_div_succ n hp
 have h2:j*x+n/x^j<(j+1)*(y+1):=by rw [hy];exact Nat.lt_mul_div_succ _ (by omega)
 have h3:=mean (y+1) x j
 have h4:=Nat.mul_le_mul_left (x^j) (show j*x+(n/x^j+1)≤(j+1)*(y+1)by omega)
 rw [Nat.mul_add]at h4
 have a1:x^j*(j*x)=j*x^(j+1):=by rw [Nat.pow_succ];ac_rfl
 have a2:x^j*((j+1)*(y+1))=(j+1)*((y+1)*x^j):=by ac_rfl
 rw [a1,a2]at h4
 generalize x^j*(n/x^j+1)=A at*
 generalize(j+1)*((y+1)*x^j)=A2 at*
 generalize j*x^(j+1)=A3 at*
 generalize(y+1)^(j+1)=A4 at*
 clear h2 a1 a2 hy
 omega
theorem newton_stop {n x j:Nat} (hx:0<x) (h:x≤(j*x+n/x^j)/(j+1)):x^(j+1)≤n:=by
 have hp:0<x^j:=Nat.pow_pos hx
 have h1:=(Nat.le_div_iff_mul_le (show 0<j+1 by omega)).1 h
 have h2:x*(j+1)=j*x+x:=by rw [Nat.mul_add,Nat.mul_one,Nat.mul_comm]
 have h3:x≤n/x^j:=by omega
 have h4:=(Nat.le_div_iff_mul_le hp).1 h3
 rwa [Nat.mul_comm,←Nat.pow_succ]at h4
theorem rRoot_l0 {n j S:Nat} (hj:j+1≤4096) (hn:(nat n).size≤4096) (hn0:0<n) (hS:S≤5000):∀x:Nat,0<x→(nat x).size≤S→n<(x+1)^(j+1)→∃r,r^(j+1)≤n∧n<(r+1)^(j+1)∧Ev (fun k=>galoisref01_Root.l0 k (nat n) ((j+1:Nat):Int) (nat x)) (nat r):=by
 intro x
 induction x using Nat.strongRecOn with
 |_ x ih=>
  intro hx hxs hxn
  have e1:wrap64 (((j+1:Nat):Int)-1)=(j:Int):=by rw [w64 (by omega) (by omega)];omega
  have hp:0<x^j:=Nat.pow_pos hx
  obtain⟨y,hy⟩:∃y,y=(j*x+n/x^j)/(j+1):=⟨_,rfl⟩
  have hps:(nat (x^j)).size≤1099511627776:=by
   have h0:(nat (x^j)).size≤S*j+1:=by
    apply nat_size_le.2
    have h2:x^j≤(256^S)^j:=Nat.pow_le_pow_left (Nat.le_of_lt (nat_size_le.1 hxs)) j
    rw [←Nat.pow_mul]at h2
    exact Nat.lt_of_le_of_lt h2 (Nat.pow_lt_pow_right (by decide) (Nat.lt_succ_self _))
   have h3:S*j≤5000*4096:=Nat.mul_le_mul hS (by omega)
   omega
  have js:(nat j).size≤2:=nat_size_le.2 (show j<256^2 by omega)
  have js1:(nat (j+1)).size≤2:=nat_size_le.2 (show j+1<256^2 by omega)
  have s1:=size_mul (m:=j) (n:=x)
  have s2:=size_mono (Nat.div_le_self n (x^j))
  have s3:=size_add (m:=j*x) (n:=n/x^j)
  have t1:=rPow_ev (m:=x) (e:=j) (by omega) (by omega)
  have t2:=rDivMod_ok (m:=n) (n:=x^j) (by omega) hps (Nat.ne_of_gt hp)
  have t3:=rFromInt_ev (u:=j) (by omega)
  have t4:=rMul_ev (m:=j) (n:=x) (by omega) (by omega)
  have t5:=rAdd_ev (m:=j*x) (n:=n/x^j) (by omega) (by omega)
  have t6:=rFromInt_ev (u:=j+1) (by omega)
  have t7:=rDivMod_ok (m:=j*x+n/x^j) (n:=j+1) (by omega) (by omega) (by omega)
  rw [←hy]at t7
  have t8:=rCompare_ev y x
  by_cases hlt:y<x
  ·have hc:¬cmpN y x≥0:=by unfold cmpN;rw [if_pos hlt];decide
   have hyn:=newton_gt hx hy
   have hy0:0<y:=by
    rcases Nat.eq_zero_or_pos y with h|h
    ·rw [h,Nat.zero_add,Nat.one_pow]at hyn
     omega
    ·exact h
   have hys:=size_mono (Nat.le_of_lt hlt)
   obtain⟨r,r1,r2,r3⟩:=ih y hlt hy0 (by omega) hyn
   refine⟨r,r1,r2,Ev.step (fun k=>galoisref01_Root.l0.eq_2 ..) ?_⟩
   rw [e1]
   exact Ev.bind t1 (Ev.bind t2 (Ev.bind t3 (Ev.bind t4 (Ev.bind t5 (Ev.bind t6 (Ev.bind t7 (Ev.bind t8 (Ev.congr (fun k=>if_neg hc) r3))))))))
  ·have hc:cmpN y x≥0:=by
    unfold cmpN
    rw [if_neg hlt]
    split<;>decide
   refine⟨x,newton_stop hx (by rw [←hy];omega),hxn,Ev.step (fun k=>galoisref01_Root.l0.eq_2 ..) ?_⟩
   rw [e1]
   exact Ev.bind t1 (Ev.bind t2 (Ev.bind t3 (Ev.bind t4 (Ev.bind t5 (Ev.bind t6 (Ev.bind t7 (Ev.bind t8 (Ev.congr (fun k=>if_pos hc) (Ev.now _)))))))))
theorem rRoot_ev {n K:Nat} (hK:1≤K) (hK1:K≤4096) (hn:(nat n).size≤4096):∃r,r^K≤n∧n<(r+1)^K∧Ev (fun k=>galoisref01_Root.f k (nat n) (K:Int)) (nat r):=by
 by_cases h0:n=0
 ·subst h0
  refine⟨0,by rw [Nat.zero_pow (by omega)];exact Nat.le_refl _,by rw [Nat.zero_add,Nat.one_pow];decide,?_⟩
  rw [nat_zero]
  exact Ev.congr (fun k=>if_pos empty_toList) (Ev.now _)
 ·have hbl:=bl_size (n:=n)
  have hb0:(bl n+K-1)/K≤bl n:=by
   obtain⟨g1,g2⟩:=bl_le h0
   apply Nat.div_le_of_le_mul
   have:bl n+K≤K*bl n+1:=by
    obtain⟨j,rfl⟩:∃j,K=j+1:=⟨K-1,by omega⟩
    rw [Nat.add_mul,Nat.one_mul]
    have:=Nat.le_mul_of_pos_right j g1
    omega
   omega
  have hbK:bl n≤(bl n+K-1)/K*K:=by
   have h1:=Nat.div_add_mod (bl n+K-1) K
   have h2:=Nat.mod_lt (bl n+K-1) (show K>0 by omega)
   rw [Nat.mul_comm]at h1
   omega
  generalize hB:(bl n+K-1)/K=B at*
  obtain⟨j,rfl⟩:∃j,K=j+1:=⟨K-1,by omega⟩
  have h2:n<(2^B+1)^(j+1):=by
   refine Nat.lt_of_lt_of_le (bl_lt n) (Nat.le_trans ?_ (Nat.pow_le_pow_left (Nat.le_succ _) _))
   rw [←Nat.pow_mul]
   exact Nat.pow_le_pow_right (by decide) hbK
  have hxs:(nat (2^B)).size≤(nat n).size+1:=by
   apply nat_size_le.2
   have:(256:Nat)^((nat n).size+1)=2^(8*((nat n).size+1)):=by rw [Nat.pow_mul]
   rw [this]
   exact Nat.pow_lt_pow_right (by decide) (by omega)
  obtain⟨r,r1,r2,r3⟩:=rRoot_l0 hK1 hn (Nat.pos_of_ne_zero h0) (show(nat n).size+1≤5000 by omega) (2^B) (Nat.pow_pos (by decide)) hxs h2
  refine⟨r,r1,r2,?_⟩
  clear h2 r1 r2 hxs
  have e1:wrap64 ((bl n:Int)+((j+1:Nat):Int))=((bl n+(j+1):Nat):Int):=by clear hB hbK;rw [w64 (by omega) (by omega)];omega
  have e2:wrap64 (((bl n+(j+1):Nat):Int)-1)=((bl n+(j+1)-1:Nat):Int):=by clear e1 hB hbK;rw [w64 (by omega) (by omega)];omega
  have e3:wrap64 (Int.tdiv ((bl n+(j+1)-1:Nat):Int) ((j+1:Nat):Int))=(B:Int):=by
   clear e1 e2 hbK
   rw [Int.tdiv_eq_ediv_of_nonneg (by omega),←Int.natCast_ediv,hB,w64 (by omega) (by omega)]
  refine Ev.congr (fun k=>if_neg (fun h=>h0 (nat_empty.1 h))) (Ev.bind (rBits_ev (by omega)) (Ev.congr (fun k=>if_neg (show¬((j+1:Nat):Int)=0 by omega)) ?_))
  rw [e1,e2,e3]
  exact ev_some (rTwoTo_eq (by omega)) r3
theorem rSqrt_ev {n:Nat} (hn:(nat n).size≤4096):∃r,r^2≤n∧n<(r+1)^2∧Ev (fun k=>galoisref01_Sqrt.f k (nat n)) (nat r):=by
 obtain⟨r,r1,r2,r3⟩:=rRoot_ev (K:=2) (by decide) (by decide) hn
 exact⟨r,r1,r2,Ev.bind r3 (Ev.now _)⟩
def ng (x:Int):Bool:=decide (x<0)
def ab (x:Int):ByteArray:=nat x.natAbs
def sg (s:Bool) (n:Nat):Int:=if s then -(n:Int)else n
theorem sg_true (n:Nat):sg true n= -(n:Int):=rfl
theorem sg_false (n:Nat):sg false n=(n:Int):=rfl
theorem ng_sg (s:Bool) (n:Nat):ng (sg s n)=(s&&!decide (n=0)):=by
 cases s
 ·exact decide_eq_false (by rw [sg_false];omega)
 ·by_cases h:n=0
  ·subst h
   rfl
  ·rw [decide_eq_false h]
   exact decide_eq_true (by rw [sg_true];omega)
theorem ab_sg (s:Bool) (n:Nat):ab (sg s n)=nat n:=by
 unfold ab
 cases s
 ·rw [sg_false,Int.natAbs_natCast]
 ·rw [sg_true,Int.natAbs_neg,Int.natAbs_natCast]
theorem ng_nat (n:Nat):ng (n:Int)=false:=decide_eq_false (by omega)
theorem ab_nat (n:Nat):ab (n:Int)=nat n:=by unfold ab;rw [Int.natAbs_natCast]
theorem ng_pos {x:Int} (h:0≤x):ng x=false:=decide_eq_false (by omega)
theorem ng_neg {x:Int} (h:x<0):ng x=true:=decide_eq_true h
theorem isEmpty_nat (n:Nat):(nat n).toList.isEmpty=decide (n=0):=by
 by_cases h:n=0
 ·rw [decide_eq_true h,List.isEmpty_iff]
  exact nat_empty.2 h
 ·rw [decide_eq_false h,Bool.eq_false_iff]
  intro h'
  exact h (nat_empty.1 (List.isEmpty_iff.1 h'))
theorem ab_size_zero {x:Int}:(ab x).size=0↔x=0:=by unfold ab;rw [nat_size_zero];omega
theorem int_inj {x y:Int} (h:ng x=ng y) (h2:ab x=ab y):x=y:=by
 have h3:=nat_inj.1 h2
 unfold ng at h
 rw [decide_eq_decide]at h
 omega
theorem IMake_eq (s:Bool) (n:Nat):exact_IntMake.f s (nat n)=some (ng (sg s n),ab (sg s n)):=by
 unfold exact_IntMake.f
 rw [ng_sg,ab_sg,isEmpty_nat]
 cases s
 ·rw [if_neg Bool.false_ne_true,Bool.false_and]
 ·rw [if_pos rfl,Bool.true_and]
theorem abs_cases (x:Int):(x<0∧ng x=true∧(x.natAbs:Int)= -x)∨(0≤x∧ng x=false∧(x.natAbs:Int)=x):=by
 by_cases h:x<0
 ·exact Or.inl ⟨h,ng_neg h,by omega⟩
 ·exact Or.inr ⟨by omega,ng_pos (by omega),by omega⟩
theorem sg_self (x:Int):sg (ng x) x.natAbs=x:=by
 rcases abs_cases x with⟨h,h1,h2⟩| ⟨h,h1,h2⟩
 ·rw [h1,sg_true,h2];omega
 ·rw [h1,sg_false,h2]
theorem sg_mul (x y:Int):sg (ng x !=ng y) (x.natAbs*y.natAbs)=x*y:=by
 rcases abs_cases x with⟨h,h1,h2⟩| ⟨h,h1,h2⟩<;>rcases abs_cases y with⟨k,k1,k2⟩| ⟨k,k1,k2⟩<;>rw [h1,k1]
 ·show((x.natAbs*y.natAbs:Nat):Int)=_
  rw [Int.natCast_mul,h2,k2,Int.neg_mul_neg]
 ·show -((x.natAbs*y.natAbs:Nat):Int)=_
  rw [Int.natCast_mul,h2,k2,Int.neg_mul,Int.neg_neg]
 ·show -((x.natAbs*y.natAbs:Nat):Int)=_
  rw [Int.natCast_mul,h2,k2,Int.mul_neg,Int.neg_neg]
 ·show((x.natAbs*y.natAbs:Nat):Int)=_
  rw [Int.natCast_mul,h2,k2]
theorem IMul_ev {x y:Int} (hx:(ab x).size≤1099511627776) (hy:(ab y).size≤1099511627776):Ev (fun k=>exact_IntMul.f k (ng x) (ab x) (ng y) (ab y)) (ng (x*y),ab (x*y)):=by
 refine Ev.bind (NatMul_ev hx hy) (ev_some (IMake_eq _ _) ?_)
 rw [sg_mul]
 exact Ev.now _
theorem IAdd_ev {x y:Int} (hx:(ab x).size≤1099511627776) (hy:(ab y).size≤1099511627776):Ev (fun k=>exact_IntAdd.f k (ng x) (ab x) (ng y) (ab y)) (ng (x+y),ab (x+y)):=by
 by_cases hs:(ng x==ng y)=true
 ·refine Ev.congr (fun k=>if_pos hs) (Ev.bind (NatAdd_ev hx hy) (ev_some (IMake_eq _ _) ?_))
  have e:sg (ng x) (x.natAbs+y.natAbs)=x+y:=by
   rcases abs_cases x with⟨h,h1,h2⟩| ⟨h,h1,h2⟩<;>rcases abs_cases y with⟨k,k1,k2⟩| ⟨k,k1,k2⟩<;>rw [h1,k1]at hs<;>first| (exact absurd hs (by decide))| (rw [h1];simp only [sg_true,sg_false];omega)
  rw [e]
  exact Ev.now _
 ·refine Ev.congr (fun k=>if_neg hs) (Ev.bind (NatCmp_ev x.natAbs y.natAbs) ?_)
  have hc:cmpN x.natAbs y.natAbs<0↔x.natAbs<y.natAbs:=by
   unfold cmpN
   by_cases h:x.natAbs<y.natAbs
   ·rw [if_pos h];exact⟨fun _=>h,fun _=>by decide⟩
   ·rw [if_neg h]
    by_cases h2:x.natAbs=y.natAbs
    ·rw [if_pos h2];exact⟨fun h'=>absurd h' (by decide),fun h'=>absurd h' h⟩
    ·rw [if_neg h2];exact⟨fun h'=>absurd h' (by decide),fun h'=>absurd h' h⟩
  by_cases hlt:x.natAbs<y.natAbs
  ·refine Ev.congr (fun k=>if_pos (hc.2 hlt)) (Ev.bind (NatSub_ev hy (Nat.le_of_lt hlt)) (ev_some (IMake_eq _ _) ?_))
   have e:sg (ng y) (y.natAbs-x.natAbs)=x+y:=by
    rcases abs_cases x with⟨h,h1,h2⟩| ⟨h,h1,h2⟩<;>rcases abs_cases y with⟨k,k1,k2⟩| ⟨k,k1,k2⟩<;>rw [h1,k1]at hs<;>first| (exact absurd rfl hs)| (rw [k1];simp only [sg_true,sg_false];omega)
   rw [e]
   exact Ev.now _
  ·refine Ev.congr (fun k=>if_neg (fun h=>hlt (hc.1 h))) (Ev.bind (NatSub_ev hx (Nat.le_of_not_lt hlt)) (ev_some (IMake_eq _ _) ?_))
   have e:sg (ng x) (x.natAbs-y.natAbs)=x+y:=by
    rcases abs_cases x with⟨h,h1,h2⟩| ⟨h,h1,h2⟩<;>rcases abs_cases y with⟨k,k1,k2⟩| ⟨k,k1,k2⟩<;>rw [h1,k1]at hs<;>first| (exact absurd rfl hs)| (rw [h1];simp only [sg_true,sg_false];omega)
   rw [e]
   exact Ev.now _
theorem sg_neg (x:Int):sg (!ng x) x.natAbs= -x:=by
 rcases abs_cases x with⟨h,h1,h2⟩| ⟨h,h1,h2⟩
 ·rw [h1];show((x.natAbs:Nat):Int)=_;omega
 ·rw [h1];show -((x.natAbs:Nat):Int)=_;omega
theorem INeg_eq (x:Int):exact_IntNeg.f (ng x) (ab x)=some (ng (-x),ab (-x)):=by
 unfold exact_IntNeg.f
 rw [show exact_IntMake.f (!ng x) (ab x)=_ from IMake_eq _ _,sg_neg]
 rfl
theorem quo_rem {x y:Int} (hy:y≠0):(x<0∧x.natAbs%y.natAbs≠0→sg (ng x !=ng y) (x.natAbs/y.natAbs+1)=x/y∧((y.natAbs-x.natAbs%y.natAbs:Nat):Int)=x%y)∧(¬(x<0∧x.natAbs%y.natAbs≠0)→sg (ng x !=ng y) (x.natAbs/y.natAbs)=x/y∧((x.natAbs%y.natAbs:Nat):Int)=x%y):=by
 have hn:0<y.natAbs:=by omega
 have hd:=Nat.div_add_mod x.natAbs y.natAbs
 have hr:=Nat.mod_lt x.natAbs hn
 have key:∀q r:Int,r+y*q=x→0≤r→r<y.natAbs→q=x/y∧r=x%y:=by
  intro q r h1 h2 h3
  have e1:=Int.emod_nonneg x hy
  have e2:=Int.emod_lt_of_pos x (b:=(y.natAbs:Int)) (by omega)
  have e3:x%(y.natAbs:Int)=x%y:=by
   rcases abs_cases y with⟨k,k1,k2⟩| ⟨k,k1,k2⟩
   ·rw [k2,Int.emod_neg]
   ·rw [k2]
  rw [e3]at e2
  have e4:=Int.emod_add_mul_ediv x y
  have e5:y*(q-x/y)=x%y-r:=by rw [Int.mul_sub];omega
  have e6:q-x/y=0:=by
   rcases Int.lt_trichotomy (q-x/y) 0 with h|h|h
   ·rcases abs_cases y with⟨k,k1,k2⟩| ⟨k,k1,k2⟩
    ·have: -y*1≤ -y* -(q-x/y):=Int.mul_le_mul_of_nonneg_left (by omega) (by omega)
     rw [Int.neg_mul_neg,Int.mul_one]at this
     omega
    ·have:y*1≤y* -(q-x/y):=Int.mul_le_mul_of_nonneg_left (by omega) (by omega)
     rw [Int.mul_neg,Int.mul_one]at this
     omega
   ·exact h
   ·rcases abs_cases y with⟨k,k1,k2⟩| ⟨k,k1,k2⟩
    ·have: -y*1≤ -y*(q-x/y):=Int.mul_le_mul_of_nonneg_left (by omega) (by omega)
     rw [Int.neg_mul,Int.neg_mul,Int.mul_one]at this
     omega
    ·have:y*1≤y*(q-x/y):=Int.mul_le_mul_of_nonneg_left (by omega) (by omega)
     rw [Int.mul_one]at this
     omega
  rw [e6,Int.mul_zero]at e5
  exact⟨by omega,by omega⟩
 have hd':((y.natAbs:Nat):Int)*((x.natAbs/y.natAbs:Nat):Int)+((x.natAbs%y.natAbs:Nat):Int)=(x.natAbs:Int):=by rw [←Int.natCast_mul,←Int.natCast_add,hd]
 generalize x.natAbs/y.natAbs=Q at*
 generalize x.natAbs%y.natAbs=R at*
 refine⟨fun⟨h0,h3⟩=>key _ _ ?_ (by omega) (by omega),fun h0=>key _ _ ?_ (by omega) (by omega)⟩
 ·rcases abs_cases x with⟨h,h1,h2⟩| ⟨h,h1,h2⟩<;>rcases abs_cases y with⟨k,k1,k2⟩| ⟨k,k1,k2⟩
  ·rw [h1,k1]
   show _+y*((Q+1:Nat):Int)=x
   rw [k2,Int.neg_mul]at hd'
   rw [Int.natCast_add,Int.mul_add,Int.natCast_one,Int.mul_one]
   omega
  ·rw [h1,k1]
   show _+y* -((Q+1:Nat):Int)=x
   rw [k2]at hd'
   rw [Int.natCast_add,Int.mul_neg,Int.mul_add,Int.natCast_one,Int.mul_one]
   omega
  ·omega
  ·omega
 ·rcases abs_cases x with⟨h,h1,h2⟩| ⟨h,h1,h2⟩<;>rcases abs_cases y with⟨k,k1,k2⟩| ⟨k,k1,k2⟩<;>rw [h1,k1]
  ·have hR:R=0:=by omega
   show _+y*(Q:Int)=x
   rw [k2,Int.neg_mul]at hd'
   omega
  ·have hR:R=0:=by omega
   show _+y* -(Q:Int)=x
   rw [k2]at hd'
   rw [Int.mul_neg]
   omega
  ·show _+y* -(Q:Int)=x
   rw [k2,Int.neg_mul]at hd'
   rw [Int.mul_neg]
   omega
  ·show _+y*(Q:Int)=x
   rw [k2]at hd'
   omega
theorem size_div {m n:Nat}:(nat (m/n)).size≤(nat m).size:=size_mono (Nat.div_le_self m n)
theorem NatOf_ev {u:Nat} (hu:u<18446744073709551616):Ev (fun k=>exact_NatOf.f k (u:Int)) (nat u):=by
 have p:=pack_ev (l:=[(u:Int)]) (Dig_cons.2 ⟨⟨by omega,by show _<(18446744073709551616:Int);omega⟩,Dig_nil _⟩) (by simp)
 have hv:vB B64 [(u:Int)]=u:=by show(u:Int)+18446744073709551616*0=u;omega
 rw [hv,Int.toNat_natCast]at p
 exact Ev.bind p (Ev.now _)
theorem IDivMod_ev {x y:Int} (hx:(ab x).size≤1099511627775) (hy:(ab y).size≤1099511627776) (h0:y≠0):Ev (fun k=>exact_IntDivMod.f k (ng x) (ab x) (ng y) (ab y)) (ng (x/y),ab (x/y),ng (x%y),ab (x%y)):=by
 have hn:0<y.natAbs:=by omega
 obtain⟨d1,d2⟩:=quo_rem (x:=x) h0
 have hrem:ng (x%y)=false:=ng_pos (Int.emod_nonneg x h0)
 rw [hrem]
 refine Ev.bind (NatDivMod_ev (by exact Nat.le_trans hx (by decide)) hy hn) ?_
 by_cases hs:x<0∧x.natAbs%y.natAbs≠0
 ·obtain⟨e1,e2⟩:=d1 hs
  refine Ev.congr (fun k=>if_pos (ng_neg hs.1)) (Ev.step (fun k=>exact_IntDivMod.j0.eq_2 ..) (Ev.congr (fun k=>if_pos (by rw [isEmpty_nat,decide_eq_false hs.2];rfl)) ?_))
  have hq:(nat (x.natAbs/y.natAbs)).size≤1099511627776:=Nat.le_trans size_div (Nat.le_trans hx (by decide))
  refine Ev.bind (NatOf_ev (u:=1) (by decide)) (Ev.bind (NatAdd_ev hq (by rw [nat_one_size];decide)) (Ev.bind (NatSub_ev hy (Nat.le_of_lt (Nat.mod_lt _ hn))) (ev_some (IMake_eq _ _) ?_)))
  rw [e1,←e2,ab_nat]
  exact Ev.now _
 ·obtain⟨e1,e2⟩:=d2 hs
  have next:Ev (fun k=>exact_IntDivMod.j0 k (nat (x.natAbs/y.natAbs)) (nat (x.natAbs%y.natAbs)) false (ng x) (ab x) (ng y) (ab y)) (ng (x/y),ab (x/y),false,ab (x%y)):=by
   refine Ev.step (fun k=>exact_IntDivMod.j0.eq_2 ..) (Ev.congr (fun k=>if_neg Bool.false_ne_true) (ev_some (IMake_eq _ _) ?_))
   rw [e1,←e2,ab_nat]
   exact Ev.now _
  by_cases hx0:x<0
  ·have hz:x.natAbs%y.natAbs=0:=by
    rcases Decidable.em (x.natAbs%y.natAbs=0)with h|h
    ·exact h
    ·exact absurd ⟨hx0,h⟩ hs
   refine Ev.congr (fun k=>if_pos (ng_neg hx0)) ?_
   rw [isEmpty_nat,decide_eq_true hz]
   exact next
  ·exact Ev.congr (fun k=>if_neg (by rw [ng_pos (by omega)];exact Bool.false_ne_true)) next
def cmpI (x y:Int):Int:=if x<y then -1 else if x=y then 0 else 1
theorem cmpI_pos {x y:Int} (hx:0≤x) (hy:0≤y):cmpN x.natAbs y.natAbs=cmpI x y:=by
 unfold cmpN cmpI
 have e1:x.natAbs<y.natAbs↔x<y:=by omega
 have e2:x.natAbs=y.natAbs↔x=y:=by omega
 simp only [e1,e2]
theorem cmpI_neg {x y:Int} (hx:x<0) (hy:y<0):cmpN y.natAbs x.natAbs=cmpI x y:=by
 unfold cmpN cmpI
 have e1:y.natAbs<x.natAbs↔x<y:=by omega
 have e2:y.natAbs=x.natAbs↔x=y:=by omega
 simp only [e1,e2]
theorem ICmp_ev (x y:Int):Ev (fun k=>exact_IntCmp.f k (ng x) (ab x) (ng y) (ab y)) (cmpI x y):=by
 rcases abs_cases x with⟨h,h1,h2⟩| ⟨h,h1,h2⟩<;>rcases abs_cases y with⟨k,k1,k2⟩| ⟨k,k1,k2⟩<;>rw [h1,k1]
 ·refine Ev.congr (fun k=>if_neg (by decide)) (Ev.congr (fun k=>if_pos rfl) (Ev.bind (NatCmp_ev y.natAbs x.natAbs) ?_))
  rw [cmpI_neg h k]
  exact Ev.now _
 ·rw [show cmpI x y= -1 from if_pos (by omega)]
  exact Ev.congr (fun k=>if_pos rfl) (Ev.congr (fun k=>if_pos rfl) (Ev.now _))
 ·rw [show cmpI x y=1 from(if_neg (by omega)).trans (if_neg (by omega))]
  exact Ev.congr (fun k=>if_pos rfl) (Ev.congr (fun k=>if_neg Bool.false_ne_true) (Ev.now _))
 ·refine Ev.congr (fun k=>if_neg (by decide)) (Ev.congr (fun k=>if_neg Bool.false_ne_true) (Ev.bind (NatCmp_ev x.natAbs y.natAbs) ?_))
  rw [cmpI_pos h k]
  exact Ev.now _
def ick (s:Bool) (a:ByteArray):Int:=if chk a=1 then 1 else if s=true∧a.size=0 then 1 else chk a
theorem rValid_eq (s:ByteArray):galoisref01_Valid.f s=some (decide (s.size=0∨bt s 0≠0)):=by
 unfold galoisref01_Valid.f
 by_cases h:s.size=0
 ·rw [if_pos (toList_nil.2 h)]
  simp [h]
 ·rw [if_neg (fun h'=>h (toList_nil.1 h')),if_pos (by omega)]
  by_cases h2:bt s 0=0<;>simp [h,h2]
theorem chk_one {a:ByteArray}:chk a=1↔¬(a.size=0∨bt a 0≠0):=by
 unfold chk
 by_cases h:0<a.size∧bt a 0=0
 ·rw [if_pos h]
  refine⟨fun _ h'=>?_,fun _=>rfl⟩
  rcases h' with h'|h'
  ·omega
  ·exact h' h.2
 ·rw [if_neg h]
  refine⟨fun h'=>?_,fun h'=>absurd ⟨Nat.pos_of_ne_zero fun h2=>h' (Or.inl h2),?_⟩ h⟩
  ·split at h'<;>exact absurd h' (by decide)
  ·rcases Decidable.em (bt a 0=0)with h2|h2
   ·exact h2
   ·exact absurd (Or.inr h2) h'
theorem chk_rest {a:ByteArray} (h:chk a≠1):chk a=if(a.size:Int)>1024 then 4 else 0:=by
 have h1:¬(0<a.size∧bt a 0=0):=fun h'=>h (by unfold chk;rw [if_pos h'])
 unfold chk
 rw [if_neg h1]
 by_cases h2:1024<a.size
 ·rw [if_pos h2,if_pos (by omega)]
 ·rw [if_neg h2,if_neg (by omega)]
theorem rFits1_eq (a:ByteArray):galoisref01_Fits.f a=some (if(a.size:Int)>1024 then 4 else 0):=by
 unfold galoisref01_Fits.f
 by_cases h:(a.size:Int)>1024
 ·rw [if_pos h,if_pos h]
 ·rw [if_neg h,if_neg h]
theorem rFits_eq (s:Bool) (a:ByteArray):galoisref02_Fits.f s a=some (if(a.size:Int)>1024 then 4 else 0):=by
 unfold galoisref02_Fits.f
 rw [rFits1_eq]
 rfl
theorem rValid2_eq (s:Bool) (a:ByteArray):galoisref02_Valid.f s a=some (decide ((a.size=0∨bt a 0≠0)∧¬(s=true∧a.size=0))):=by
 unfold galoisref02_Valid.f
 rw [rValid_eq,Option.bind_some]
 by_cases h:a.size=0∨bt a 0≠0
 ·rw [if_pos (decide_eq_true h)]
  cases s
  ·rw [if_neg Bool.false_ne_true]
   congr 1
   exact(decide_eq_true ⟨h,fun h'=>Bool.false_ne_true h'.1⟩).symm
  ·rw [if_pos rfl]
   congr 1
   by_cases h2:a.size=0
   ·rw [decide_eq_false (fun h'=>h'.2 ⟨rfl,h2⟩)]
    exact bne_eq_false_iff_eq.2 (toList_nil.2 h2)
   ·have e:(a.size=0∨bt a 0≠0)∧¬(true=true∧a.size=0):=⟨h,fun h'=>h2 h'.2⟩
    rw [decide_eq_true e]
    exact bne_iff_ne.2 (fun h'=>h2 (toList_nil.1 h'))
 ·rw [if_neg (by rw [decide_eq_true_eq];exact h),decide_eq_false (fun h'=>h h'.1)]
theorem RMake_eq (s:Bool) (n:Nat):galoisref02_Make.f s (nat n)=some (ng (sg s n),ab (sg s n)):=IMake_eq s n
theorem RMul_ev {x y:Int} (hx:(ab x).size≤1099511627776) (hy:(ab y).size≤1099511627776):Ev (fun k=>galoisref02_Mul.f k (ng x) (ab x) (ng y) (ab y)) (ng (x*y),ab (x*y)):=by
 refine Ev.bind (rMul_ev hx hy) (ev_some (RMake_eq _ _) ?_)
 rw [sg_mul]
 exact Ev.now _
theorem RAdd_ev {x y:Int} (hx:(ab x).size≤1099511627776) (hy:(ab y).size≤1099511627776):Ev (fun k=>galoisref02_Add.f k (ng x) (ab x) (ng y) (ab y)) (ng (x+y),ab (x+y)):=by
 by_cases hs:(ng x==ng y)=true
 ·refine Ev.congr (fun k=>if_pos hs) (Ev.bind (rAdd_ev hx hy) (ev_some (RMake_eq _ _) ?_))
  have e:sg (ng x) (x.natAbs+y.natAbs)=x+y:=by
   rcases abs_cases x with⟨h,h1,h2⟩| ⟨h,h1,h2⟩<;>rcases abs_cases y with⟨k,k1,k2⟩| ⟨k,k1,k2⟩<;>rw [h1,k1]at hs<;>first| (exact absurd hs (by decide))| (rw [h1];simp only [sg_true,sg_false];omega)
  rw [e]
  exact Ev.now _
 ·refine Ev.congr (fun k=>if_neg hs) (Ev.bind (rCompare_ev x.natAbs y.natAbs) ?_)
  have hc:cmpN x.natAbs y.natAbs≥0↔y.natAbs≤x.natAbs:=by
   unfold cmpN
   by_cases h:x.natAbs<y.natAbs
   ·rw [if_pos h];exact⟨fun h'=>absurd h' (by decide),fun h'=>by omega⟩
   ·rw [if_neg h]
    by_cases h2:x.natAbs=y.natAbs
    ·rw [if_pos h2];exact⟨fun _=>by omega,fun _=>by decide⟩
    ·rw [if_neg h2];exact⟨fun _=>by omega,fun _=>by decide⟩
  by_cases hlt:y.natAbs≤x.natAbs
  ·have h3:=rSub_ev (m:=x.natAbs) (n:=y.natAbs) hx
   rw [if_neg (by omega)]at h3
   refine Ev.congr (fun k=>if_pos (hc.2 hlt)) (Ev.bind h3 (ev_some (RMake_eq _ _) ?_))
   have e:sg (ng x) (x.natAbs-y.natAbs)=x+y:=by
    rcases abs_cases x with⟨h,h1,h2⟩| ⟨h,h1,h2⟩<;>rcases abs_cases y with⟨k,k1,k2⟩| ⟨k,k1,k2⟩<;>rw [h1,k1]at hs<;>first| (exact absurd rfl hs)| (rw [h1];simp only [sg_true,sg_false];omega)
   rw [e]
   exact Ev.now _
  ·have h3:=rSub_ev (m:=y.natAbs) (n:=x.natAbs) hy
   rw [if_neg (by omega)]at h3
   refine Ev.congr (fun k=>if_neg (fun h=>hlt (hc.1 h))) (Ev.bind h3 (ev_some (RMake_eq _ _) ?_))
   have e:sg (ng y) (y.natAbs-x.natAbs)=x+y:=by
    rcases abs_cases x with⟨h,h1,h2⟩| ⟨h,h1,h2⟩<;>rcases abs_cases y with⟨k,k1,k2⟩| ⟨k,k1,k2⟩<;>rw [h1,k1]at hs<;>first| (exact absurd rfl hs)| (rw [k1];simp only [sg_true,sg_false];omega)
   rw [e]
   exact Ev.now _
theorem RDivMod_ev {x y:Int} (hx:(ab x).size≤1099511627775) (hy:(ab y).size≤1099511627776) (h0:y≠0):Ev (fun k=>galoisref02_DivMod.f k (ng x) (ab x) (ng y) (ab y)) (ng (x/y),ab (x/y),ng (x%y),ab (x%y)):=by
 have hn:0<y.natAbs:=by omega
 obtain⟨d1,d2⟩:=quo_rem (x:=x) h0
 have hrem:ng (x%y)=false:=ng_pos (Int.emod_nonneg x h0)
 rw [hrem]
 refine Ev.bind (rDivMod_ok (by exact Nat.le_trans hx (by decide)) hy (by omega)) ?_
 by_cases hs:x<0∧x.natAbs%y.natAbs≠0
 ·obtain⟨e1,e2⟩:=d1 hs
  refine Ev.congr (fun k=>if_pos (ng_neg hs.1)) (Ev.step (fun k=>galoisref02_DivMod.j0.eq_2 ..) (Ev.congr (fun k=>if_pos (by rw [isEmpty_nat,decide_eq_false hs.2];rfl)) ?_))
  have hq:(nat (x.natAbs/y.natAbs)).size≤1099511627776:=Nat.le_trans size_div (Nat.le_trans hx (by decide))
  have h3:=rSub_ev (m:=y.natAbs) (n:=x.natAbs%y.natAbs) hy
  rw [if_neg (by have:=Nat.mod_lt x.natAbs hn;omega)]at h3
  refine Ev.bind (rOf_ev (u:=1) (by decide)) (Ev.bind (rAdd_ev hq (by rw [nat_one_size];decide)) (Ev.bind h3 (ev_some (RMake_eq _ _) ?_)))
  rw [e1,←e2,ab_nat]
  exact Ev.now _
 ·obtain⟨e1,e2⟩:=d2 hs
  have next:Ev (fun k=>galoisref02_DivMod.j0 k (nat (x.natAbs/y.natAbs)) (nat (x.natAbs%y.natAbs)) false (ng x) (ab x) (ng y) (ab y)) (ng (x/y),ab (x/y),false,ab (x%y)):=by
   refine Ev.step (fun k=>galoisref02_DivMod.j0.eq_2 ..) (Ev.congr (fun k=>if_neg Bool.false_ne_true) (ev_some (RMake_eq _ _) ?_))
   rw [e1,←e2,ab_nat]
   exact Ev.now _
  by_cases hx0:x<0
  ·have hz:x.natAbs%y.natAbs=0:=by
    rcases Decidable.em (x.natAbs%y.natAbs=0)with h|h
    ·exact h
    ·exact absurd ⟨hx0,h⟩ hs
   refine Ev.congr (fun k=>if_pos (ng_neg hx0)) ?_
   rw [isEmpty_nat,decide_eq_true hz]
   exact next
  ·exact Ev.congr (fun k=>if_neg (by rw [ng_pos (by omega)];exact Bool.false_ne_true)) next
theorem ick_zero {s:Bool} {a:ByteArray} (h:ick s a=0):∃x:Int,s=ng x∧a=ab x∧(ab x).size≤1024:=by
 unfold ick at h
 by_cases h1:chk a=1
 ·rw [if_pos h1]at h
  exact absurd h (by decide)
 ·rw [if_neg h1]at h
  by_cases h2:s=true∧a.size=0
  ·rw [if_pos h2]at h
   exact absurd h (by decide)
  ·rw [if_neg h2]at h
   obtain⟨n,rfl,hn⟩:=number h
   refine⟨sg s n,?_,(ab_sg s n).symm,by rw [ab_sg];exact hn⟩
   rw [ng_sg]
   cases s
   ·rfl
   ·rw [Bool.true_and,decide_eq_false (fun h3=>h2 ⟨rfl,by rw [h3,nat_zero];rfl⟩)]
    rfl
theorem ick_int {x:Int} (h:(ab x).size≤1024):ick (ng x) (ab x)=0:=by
 unfold ick
 have hc:chk (ab x)=0:=chk_nat h
 rw [hc,if_neg (by decide),if_neg]
 rintro⟨h1,h2⟩
 have:=ab_size_zero.1 h2
 rw [this]at h1
 exact absurd h1 (by decide)
theorem empty_toList':(⟨#[]⟩:ByteArray).toList=([]:List UInt8):=toList_nil.2 rfl
theorem iCheck_ev (s:Bool) (a:ByteArray):Ev (fun k=>integer_Check.f k s a) (ick s a):=by
 refine Ev.bind (Check_ev a) ?_
 by_cases h1:chk a=1
 ·have e:ick s a=chk a:=by unfold ick;rw [if_pos h1,h1]
  rw [e]
  exact Ev.congr (fun k=>if_pos h1) (Ev.now _)
 ·refine Ev.congr (fun k=>if_neg h1) (ev_some (a:=(false,(⟨#[]⟩:ByteArray))) rfl ?_)
  by_cases h2:a.size=0
  ·have h3:a.toList=([]:List UInt8):=toList_nil.2 h2
   cases s
   ·have e:ick false a=chk a:=by unfold ick;rw [if_neg h1,if_neg (fun h=>Bool.false_ne_true h.1)]
    rw [e]
    exact Ev.congr (fun k=>if_neg (by rw [h3,empty_toList'];decide)) (Ev.now _)
   ·have e:ick true a=1:=by unfold ick;rw [if_neg h1,if_pos ⟨rfl,h2⟩]
    rw [e]
    exact Ev.congr (fun k=>if_pos rfl) (Ev.congr (fun k=>if_pos h3) (Ev.now _))
  ·have h3:a.toList≠([]:List UInt8):=fun h=>h2 (toList_nil.1 h)
   have e:ick s a=chk a:=by unfold ick;rw [if_neg h1,if_neg (fun h=>h2 h.2)]
   rw [e]
   by_cases h4:(!(s==false)||(!(a.toList==(⟨#[]⟩:ByteArray).toList)))=true
   ·exact Ev.congr (fun k=>if_pos h4) (Ev.congr (fun k=>if_neg h3) (Ev.now _))
   ·exact Ev.congr (fun k=>if_neg h4) (Ev.now _)
theorem wrap01:wrap64 (0+1)=1:=by unfold wrap64;omega
theorem wrap11:wrap64 (1+1)=2:=by unfold wrap64;omega
end Go.Proofs.YtjllholdppjllaaGreatN
set_option maxRecDepth 100000
namespace Go.Proofs.YtjllholdppjllaaGreatV
open Go Go.RowKit YtjllholdppjllaaGreat YtjllholdppjllaaGreatE YtjllholdppjllaaGreatN YtjllholdppjllaaGreat.All YtjllholdppjllaaGreatW.PrintWords YtjllholdppjllaaGreatW.PrintLast YtjllholdppjllaaGreatW.PrintMore
abbrev Ya:= @cnd_eq_if
abbrev Yb:= @bind_some_
abbrev Yc:= @if_true
abbrev Yd:= @if_false
abbrev Ye:= @ne_eq
abbrev Yf:= @not_true_eq_false
abbrev Yg:= @not_false_eq_true
abbrev Yh:= @Bool.not_true
abbrev Yi:= @Bool.not_false
abbrev Yj:= @Bool.false_eq_true
abbrev Yk:= @Bool.not_eq_true'
abbrev Yl:= @bfalse
abbrev Ym:= @ite_not
abbrev Yn:= @eq_self
abbrev Yo:= @Bool.and_eq_true
abbrev Yp:= @Bool.or_eq_true
abbrev Yq:= @ite_and_
abbrev Yr:= @ite_or_
abbrev Ys:= @and_self
abbrev Yt:= @decide_true
abbrev Yu:= @decide_false
abbrev Yv:= @Bool.true_and
abbrev Yw:= @Bool.and_true
abbrev Yx:= @beq_self_eq_true
abbrev Yy:= @decide_eq_true_eq
abbrev Yz:= @gt_iff_lt
abbrev YA:= @ge_iff_le
abbrev YB:= @Int.neg_eq_zero
theorem evC {α:Type _} {f:Nat→Option α} {a:α} {Q:Nat→Prop}:Ev f a→(∃K,∀k,K≤k→Q k)→∃K,∀k,K≤k→f k=some a∧Q k:=fun⟨K,h⟩ ⟨L,g⟩=>⟨K+L,fun k hk=>⟨h k (by omega),g k (by omega)⟩⟩
theorem evE {α:Type _} {f:Nat→Option α} {a:α} {Q:Nat→Prop}:(∃K,∀k,K≤k→Q k)→(∀k,Q k→f k=some a)→Ev f a:=fun⟨K,h⟩ g=>⟨K,fun k hk=>g k (h k hk)⟩
def fr (q:Rat):TI×ByteArray:=((ng q.num,ab q.num),nat q.den)
theorem nat1:nat 1=⟨#[1]⟩:=by decide +kernel
theorem nat0:nat 0=⟨#[]⟩:=by decide +kernel
theorem ba_inj {a b:ByteArray}:a.toList=b.toList↔a=b:=by
 constructor
 ·intro h
  rw [ByteArray.toList_eq,ByteArray.toList_eq]at h
  cases a;cases b
  simp only [ByteArray.mk.injEq]
  exact Array.toList_inj.1 h
 ·intro h;rw [h]
theorem e_nat (m n:Nat):((nat m).toList==(nat n).toList)=decide (m=n):=by
 rw [Bool.eq_iff_iff,beq_iff_eq,decide_eq_true_eq,ba_inj,nat_inj]
theorem e_one (m:Nat):((nat m).toList==(⟨#[1]⟩:ByteArray).toList)=decide (m=1):=by rw [←nat1,e_nat]
theorem e_nil (m:Nat):((nat m).toList==(⟨#[]⟩:ByteArray).toList)=decide (m=0):=by rw [←nat0,e_nat]
theorem e_ab (x:Int):((ab x).toList==(⟨#[]⟩:ByteArray).toList)=decide (x=0):=by
 unfold ab;rw [e_nil,Bool.eq_iff_iff,decide_eq_true_eq,decide_eq_true_eq];omega
theorem e_ng (x y:Int):(!(ng x==ng y))=(ng x !=ng y):=rfl
theorem size_div_ (m n:Nat):(nat (m/n)).size≤(nat m).size:=size_mono (Nat.div_le_self m n)
theorem sg_div {n d:Int} {g:Nat} (h0:d≠0) (hg:g∣n.natAbs) (g0:g≠0):sg (ng n !=ng d) (n.natAbs/g)=d.sign*n/g:=by
 obtain⟨c,hc⟩:=hg
 have e:n.natAbs/g=c:=by rw [hc];exact Nat.mul_div_cancel_left _ (Nat.pos_of_ne_zero g0)
 rw [e]
 have g1:(g:Int)≠0:=by omega
 have key:∀z:Int,z=g*c→z/g=(c:Int):=fun z hz=>by rw [hz];exact Int.mul_ediv_cancel_left _ g1
 have keyn:∀z:Int,z= -(g*c:Int)→z/g= -(c:Int):=fun z hz=>by
  rw [hz,←Int.mul_neg];exact Int.mul_ediv_cancel_left _ g1
 have hcast:((n.natAbs:Nat):Int)=(g:Int)*(c:Int):=by rw [hc];exact Int.natCast_mul _ _
 rcases Int.lt_or_gt_of_ne h0 with hd|hd
 ·rw [ng_neg hd,Int.sign_eq_neg_one_of_neg hd]
  by_cases hn:n<0
  ·rw [ng_neg hn];exact(key _ (by omega)).symm
  ·rw [ng_pos (by omega)];exact(keyn _ (by omega)).symm
 ·rw [ng_pos (show 0≤d by omega),Int.sign_eq_one_of_pos hd]
  by_cases hn:n<0
  ·rw [ng_neg hn];exact(keyn _ (by omega)).symm
  ·rw [ng_pos (by omega)];exact(key _ (by omega)).symm
theorem gcd_ne {n d:Int} (h0:d≠0):Nat.gcd n.natAbs d.natAbs≠0:=by
 intro h
 have:=(Nat.gcd_eq_zero_iff.1 h).2
 omega
theorem fr_div {n d:Int} (h0:d≠0):((ng (sg (ng n !=ng d) (n.natAbs/Nat.gcd n.natAbs d.natAbs)),ab (sg (ng n !=ng d) (n.natAbs/Nat.gcd n.natAbs d.natAbs))),nat (d.natAbs/Nat.gcd n.natAbs d.natAbs))=fr (Rat.divInt n d):=by
 have e:Int.gcd d n=Nat.gcd n.natAbs d.natAbs:=Nat.gcd_comm _ _
 unfold fr
 rw [Rat.num_divInt,Rat.den_divInt,if_neg h0,e,sg_div h0 (Nat.gcd_dvd_left _ _) (gcd_ne h0)]
theorem fr_div1 {n d:Int} (h0:d≠0) (h:Nat.gcd n.natAbs d.natAbs=1):((ng (sg (ng n !=ng d) n.natAbs),ab (sg (ng n !=ng d) n.natAbs)),ab d)=fr (Rat.divInt n d):=by
 rw [show ab d=nat d.natAbs from rfl,←fr_div h0,h,Nat.div_one,Nat.div_one]
theorem Make_ev {n d:Int} (hn:(ab n).size≤1099511627776) (hd:(ab d).size≤1099511627776) (h0:d≠0):Ev (fun k=>FX107 k (ng n,ab n) (ng d,ab d)) (fr (Rat.divInt n d)):=by
 have h1:=NatGcd_ev (m:=n.natAbs) (n:=d.natAbs) hn hd
 have hg:=Nat.pos_of_ne_zero (gcd_ne (n:=n) h0)
 have sg_:(nat (Nat.gcd n.natAbs d.natAbs)).size≤1099511627776:=Nat.le_trans (size_mono (Nat.le_of_dvd (by omega) (Nat.gcd_dvd_right _ _))) hd
 have h2:=NatDivMod_ev (m:=n.natAbs) hn sg_ hg
 have h3:=NatDivMod_ev (m:=d.natAbs) hd sg_ hg
 have f1:=IMake_eq (ng n !=ng d) (n.natAbs/Nat.gcd n.natAbs d.natAbs)
 have f2:=IMake_eq (ng n !=ng d) n.natAbs
 have f3:=fr_div (n:=n) h0
 by_cases hc:Nat.gcd n.natAbs d.natAbs=1
 ·have f4:=fr_div1 h0 hc
  rw [←f4]
  rw [hc]at h1
  have h1':Ev (fun k=>exact_NatGcd.f k (ab n) (ab d)) (nat 1):=h1
  have f2':exact_IntMake.f (ng n !=ng d) (ab n)=_:=f2
  refine evE h1' ?_
  rintro k h1'
  try dsimp only [fr]at h1'
  show FX107 _ _ _=_
  unfold FX107 B107
  simp only [fr,FX85,FX108,FX134,Ya,Yb,Yc,Yd,Ye,Yf,Yg,Yh,Yi,Yj,Int.reduceEq,reduceCtorEq,Yk,Yl,Ym,Yn,Yo,Yp,Yq,Yr,Ys,Yt,Yu,Yv,Yw,Yx,Yy,Yz,YA,YB,h1',e_one,e_ng,f2']
 ·rw [←f3]
  have h1':Ev (fun k=>exact_NatGcd.f k (ab n) (ab d)) (nat (Nat.gcd n.natAbs d.natAbs)):=h1
  have h2':Ev (fun k=>exact_NatDivMod.f k (ab n) (nat (Nat.gcd n.natAbs d.natAbs))) _:=h2
  have h3':Ev (fun k=>exact_NatDivMod.f k (ab d) (nat (Nat.gcd n.natAbs d.natAbs))) _:=h3
  refine evE (evC h1' (evC h2' h3')) ?_
  rintro k ⟨h1',h2',h3'⟩
  try dsimp only [fr]at h1' h2' h3'
  show FX107 _ _ _=_
  unfold FX107 B107
  simp only [fr,FX85,FX108,FX134,Ya,Yb,Yc,Yd,Ye,Yf,Yg,Yh,Yi,Yj,Int.reduceEq,reduceCtorEq,Yk,Yl,Ym,Yn,Yo,Yp,Yq,Yr,Ys,Yt,Yu,Yv,Yw,Yx,Yy,Yz,YA,YB,h1',h2',h3',e_one,e_ng,f1,hc]
theorem MakeN_ev {n:Int} {d:Nat} (hn:(ab n).size≤1099511627776) (hd:(nat d).size≤1099511627776) (h0:d≠0):Ev (fun k=>FX107 k (ng n,ab n) (false,nat d)) (fr (mkRat n d)):=by
 have h:=Make_ev (d:=(d:Int)) hn (by rw [ab_nat];exact hd) (by omega)
 rwa [ng_nat,ab_nat,Rat.divInt_ofNat]at h
def Sm (n:Nat) (q:Rat):Prop:=(ab q.num).size≤n∧(nat q.den).size≤n
theorem sz_add {x y:Int} {n:Nat} (hx:(ab x).size≤n) (hy:(ab y).size≤n):(ab (x+y)).size≤n+1:=by
 unfold ab at*
 rw [nat_size_le]at*
 have:=Int.natAbs_add_le x y
 rw [Nat.pow_succ]
 omega
theorem sz_neg {x:Int}:(ab (-x)).size=(ab x).size:=by unfold ab;rw [Int.natAbs_neg]
theorem sz_nmul {x y:Nat} {m n:Nat} (hx:(nat x).size≤m) (hy:(nat y).size≤n):(nat (x*y)).size≤m+n:=by
 rw [nat_size_le]at*
 rw [Nat.pow_add]
 exact Nat.mul_lt_mul'' hx hy
theorem sz_mul {x y:Int} {m n:Nat} (hx:(ab x).size≤m) (hy:(ab y).size≤n):(ab (x*y)).size≤m+n:=by
 unfold ab at*
 rw [Int.natAbs_mul]
 exact sz_nmul hx hy
theorem sg_muln (x:Int) (d:Nat):sg (ng x) (x.natAbs*d)=x*d:=by
 have h:=sg_self x
 unfold sg at*
 cases hs:ng x with
 |true=>rw [hs]at h;simp only [if_true]at h⊢;rw [Int.natCast_mul,←Int.neg_mul,h]
 |false=>rw [hs]at h;simp only [Bool.false_eq_true,if_false]at h⊢;rw [Int.natCast_mul,h]
section
variable {a b:Rat}
theorem add_same (h:a.den=b.den):mkRat (a.num+b.num) a.den=a+b:=by
 rw [Rat.add_def',←h,←Int.add_mul,Rat.mkRat_mul_right a.den_nz]
theorem fr_int (n:Int):fr (n:Rat)=((ng n,ab n),nat 1):=rfl
theorem add_one (h:a.den=1) (h2:b.den=1):((ng (a.num+b.num),ab (a.num+b.num)),(⟨#[1]⟩:ByteArray))=fr (a+b):=by
 have e:a+b=((a.num+b.num:Int):Rat):=by
  rw [Rat.add_def',h,h2]
  have h3:=Rat.mkRat_self ((a.num+b.num:Int):Rat)
  have h4:mkRat (a.num+b.num) 1=((a.num+b.num:Int):Rat):=h3
  rw [←h4]
  simp only [Int.natCast_one,Int.mul_one,Nat.mul_one]
 rw [e,fr_int,nat1]
theorem mul_one_ (h:a.den=1) (h2:b.den=1):((ng (a.num*b.num),ab (a.num*b.num)),(⟨#[1]⟩:ByteArray))=fr (a*b):=by
 have e:a*b=((a.num*b.num:Int):Rat):=by
  rw [Rat.mul_def',h,h2]
  have h3:=Rat.mkRat_self ((a.num*b.num:Int):Rat)
  have h4:mkRat (a.num*b.num) 1=((a.num*b.num:Int):Rat):=h3
  rw [←h4]
 rw [e,fr_int,nat1]
theorem Add_ev (ha:Sm 10000 a) (hb:Sm 10000 b):Ev (fun k=>FX52 k (fr a) (fr b)) (fr (a+b)):=by
 have h1:=IAdd_ev (Nat.le_trans ha.1 (by decide)) (Nat.le_trans hb.1 (by decide))
 by_cases hd:a.den=b.den
 ·by_cases h1d:a.den=1
  ·have h2d:b.den=1:=by omega
   rw [←add_one h1d h2d]
   refine evE h1 ?_
   rintro k h1
   try dsimp only [fr]at h1
   show FX52 _ _ _=_
   unfold FX52 B52
   simp only [fr,FX93,B93,FX106,FX108,FX109,Ya,Yb,Yc,Yd,Ye,Yf,Yg,Yh,Yi,Yj,Int.reduceEq,reduceCtorEq,Yk,Yl,Ym,Yn,Yo,Yp,Yq,Yr,Ys,Yt,Yu,Yv,Yw,Yx,Yy,Yz,YA,YB,h1,e_nat,e_one,h1d,h2d]
  ·have h2:=MakeN_ev (n:=a.num+b.num) (d:=a.den) (Nat.le_trans (sz_add ha.1 hb.1) (by decide)) (Nat.le_trans ha.2 (by decide)) a.den_nz
   rw [add_same hd]at h2
   rw [show(fun k=>FX52 k (fr a) (fr b))=fun k=>FX52 k (fr a) ((ng b.num,ab b.num),nat a.den)from by rw [hd];rfl]
   refine evE (evC h1 h2) ?_
   rintro k ⟨h1,h2⟩
   try dsimp only [fr]at h1 h2
   show FX52 _ _ _=_
   unfold FX52 B52
   simp only [fr,FX93,B93,FX106,FX108,FX109,Ya,Yb,Yc,Yd,Ye,Yf,Yg,Yh,Yi,Yj,Int.reduceEq,reduceCtorEq,Yk,Yl,Ym,Yn,Yo,Yp,Yq,Yr,Ys,Yt,Yu,Yv,Yw,Yx,Yy,Yz,YA,YB,h1,h2,e_nat,e_one,h1d]
 ·have h3:=NatMul_ev (m:=a.num.natAbs) (n:=b.den) (Nat.le_trans ha.1 (by decide)) (Nat.le_trans hb.2 (by decide))
  have h4:=NatMul_ev (m:=b.num.natAbs) (n:=a.den) (Nat.le_trans hb.1 (by decide)) (Nat.le_trans ha.2 (by decide))
  have h5:=NatMul_ev (m:=a.den) (n:=b.den) (Nat.le_trans ha.2 (by decide)) (Nat.le_trans hb.2 (by decide))
  have f1:=IMake_eq (ng a.num) (a.num.natAbs*b.den)
  have f2:=IMake_eq (ng b.num) (b.num.natAbs*a.den)
  rw [sg_muln]at f1 f2
  have s1:(ab (a.num*b.den)).size≤20000:=Nat.le_trans (sz_mul ha.1 (n:=10000) (by rw [ab_nat];exact hb.2)) (by decide)
  have s2:(ab (b.num*a.den)).size≤20000:=Nat.le_trans (sz_mul hb.1 (n:=10000) (by rw [ab_nat];exact ha.2)) (by decide)
  have h6:=IAdd_ev (Nat.le_trans s1 (by decide)) (Nat.le_trans s2 (by decide))
  have h7:=MakeN_ev (n:=a.num*b.den+b.num*a.den) (d:=a.den*b.den) (Nat.le_trans (sz_add s1 s2) (by decide)) (Nat.le_trans (sz_nmul ha.2 hb.2) (by decide)) (Nat.mul_ne_zero a.den_nz b.den_nz)
  rw [←Rat.add_def']at h7
  have h3':Ev (fun k=>exact_NatMul.f k (ab a.num) (nat b.den)) _:=h3
  have h4':Ev (fun k=>exact_NatMul.f k (ab b.num) (nat a.den)) _:=h4
  refine evE (evC h3' (evC h4' (evC h5 (evC h6 h7)))) ?_
  rintro k ⟨h3',h4',h5,h6,h7⟩
  try dsimp only [fr]at h3' h4' h5 h6 h7
  show FX52 _ _ _=_
  unfold FX52 B52
  simp only [fr,FX93,B93,FX106,FX108,FX109,Ya,Yb,Yc,Yd,Ye,Yf,Yg,Yh,Yi,Yj,Int.reduceEq,reduceCtorEq,Yk,Yl,Ym,Yn,Yo,Yp,Yq,Yr,Ys,Yt,Yu,Yv,Yw,Yx,Yy,Yz,YA,YB,h3',h4',h5,h6,h7,e_nat,e_one,hd,f1,f2]
end
section
variable {a b:Rat}
theorem Sm.neg {n:Nat} (h:Sm n a):Sm n (-a):=⟨by rw [Rat.neg_num,sz_neg];exact h.1,h.2⟩
theorem Neg_ev (a:Rat):Ev (fun k=>FX81 k (fr a)) (fr (-a)):=by
 have f1:=INeg_eq a.num
 have e:fr (-a)=((ng (-a.num),ab (-a.num)),nat a.den):=rfl
 rw [e]
 refine⟨0,fun k _=>?_⟩
 show FX81 _ _=_
 unfold FX81 B81
 simp only [fr,FX126,Ya,Yb,Yc,Yd,Ye,Yf,Yg,Yh,Yi,Yj,Int.reduceEq,reduceCtorEq,Yk,Yl,Ym,Yn,Yo,Yp,Yq,Yr,Ys,Yt,Yu,Yv,Yw,Yx,Yy,Yz,YA,YB,f1]
theorem Sub_ev (ha:Sm 10000 a) (hb:Sm 10000 b):Ev (fun k=>FX76 k (fr a) (fr b)) (fr (a-b)):=by
 have h1:=Neg_ev b
 have h2:=Add_ev ha hb.neg
 rw [←Rat.sub_eq_add_neg]at h2
 refine evE (evC h1 h2) ?_
 rintro k ⟨h1,h2⟩
 try dsimp only [fr]at h1 h2
 show FX76 _ _ _=_
 unfold FX76 B76
 simp only [fr,Ya,Yb,Yc,Yd,Ye,Yf,Yg,Yh,Yi,Yj,Int.reduceEq,reduceCtorEq,Yk,Yl,Ym,Yn,Yo,Yp,Yq,Yr,Ys,Yt,Yu,Yv,Yw,Yx,Yy,Yz,YA,YB,h1,h2]
theorem Mul_ev (ha:Sm 10000 a) (hb:Sm 10000 b):Ev (fun k=>FX74 k (fr a) (fr b)) (fr (a*b)):=by
 have h1:=IMul_ev (Nat.le_trans ha.1 (by decide)) (Nat.le_trans hb.1 (by decide))
 have h2:=NatMul_ev (m:=a.den) (n:=b.den) (Nat.le_trans ha.2 (by decide)) (Nat.le_trans hb.2 (by decide))
 have h3:=MakeN_ev (n:=a.num*b.num) (d:=a.den*b.den) (Nat.le_trans (sz_mul ha.1 hb.1) (by decide)) (Nat.le_trans (sz_nmul ha.2 hb.2) (by decide)) (Nat.mul_ne_zero a.den_nz b.den_nz)
 rw [←Rat.mul_def']at h3
 by_cases h1d:a.den=1
 ·by_cases h2d:b.den=1
  ·rw [←mul_one_ h1d h2d]
   refine evE h1 ?_
   rintro k h1
   try dsimp only [fr]at h1
   show FX74 _ _ _=_
   unfold FX74 B74
   simp only [fr,FX93,B93,FX109,FX124,Ya,Yb,Yc,Yd,Ye,Yf,Yg,Yh,Yi,Yj,Int.reduceEq,reduceCtorEq,Yk,Yl,Ym,Yn,Yo,Yp,Yq,Yr,Ys,Yt,Yu,Yv,Yw,Yx,Yy,Yz,YA,YB,h1,e_one,h1d,h2d]
  ·refine evE (evC h1 (evC h2 h3)) ?_
   rintro k ⟨h1,h2,h3⟩
   try dsimp only [fr]at h1 h2 h3
   show FX74 _ _ _=_
   unfold FX74 B74
   simp only [fr,FX93,B93,FX109,FX124,Ya,Yb,Yc,Yd,Ye,Yf,Yg,Yh,Yi,Yj,Int.reduceEq,reduceCtorEq,Yk,Yl,Ym,Yn,Yo,Yp,Yq,Yr,Ys,Yt,Yu,Yv,Yw,Yx,Yy,Yz,YA,YB,h1,h2,h3,e_one,h2d,ite_self]
 ·refine evE (evC h1 (evC h2 h3)) ?_
  rintro k ⟨h1,h2,h3⟩
  try dsimp only [fr]at h1 h2 h3
  show FX74 _ _ _=_
  unfold FX74 B74
  simp only [fr,FX93,B93,FX109,FX124,Ya,Yb,Yc,Yd,Ye,Yf,Yg,Yh,Yi,Yj,Int.reduceEq,reduceCtorEq,Yk,Yl,Ym,Yn,Yo,Yp,Yq,Yr,Ys,Yt,Yu,Yv,Yw,Yx,Yy,Yz,YA,YB,h1,h2,h3,e_one,h1d]
theorem fr_inv (h:a≠0):fr a⁻¹=((ng a.num,nat a.den),ab a.num):=by
 have hn:a.num≠0:=fun e=>h (Rat.num_eq_zero.1 e)
 unfold fr
 rw [Rat.num_inv,Rat.den_inv,if_neg hn]
 have hd:=a.den_pos
 rcases Int.lt_or_gt_of_ne hn with g|g
 ·rw [Int.sign_eq_neg_one_of_neg g,ng_neg g,ng_neg (by omega)]
  have:ab (-1*(a.den:Int))=nat a.den:=by unfold ab;congr 1;omega
  rw [this];rfl
 ·rw [Int.sign_eq_one_of_pos g,ng_pos (show 0≤a.num by omega),ng_pos (by omega)]
  have:ab (1*(a.den:Int))=nat a.den:=by unfold ab;congr 1;omega
  rw [this];rfl
theorem Sm.inv {n:Nat} (ha:Sm n a) (h:a≠0):Sm n a⁻¹:=by
 have e:=fr_inv h
 unfold fr at e
 rw [Prod.mk.injEq,Prod.mk.injEq]at e
 exact⟨by rw [e.1.2];exact ha.2,by rw [e.2];exact ha.1⟩
theorem Floor_ev (ha:Sm 10000 a):Ev (fun k=>FX51 k (fr a)) (ng a.floor,ab a.floor):=by
 have h1:=IDivMod_ev (x:=a.num) (y:=(a.den:Int)) (Nat.le_trans ha.1 (by decide)) (by rw [ab_nat];exact Nat.le_trans ha.2 (by decide)) (by have:=a.den_nz;omega)
 rw [ng_nat,ab_nat,←Rat.floor_def]at h1
 refine evE h1 ?_
 rintro k h1
 try dsimp only [fr]at h1
 show FX51 _ _=_
 unfold FX51 B51
 simp only [fr,FX105,Ya,Yb,Yc,Yd,Ye,Yf,Yg,Yh,Yi,Yj,Int.reduceEq,reduceCtorEq,Yk,Yl,Ym,Yn,Yo,Yp,Yq,Yr,Ys,Yt,Yu,Yv,Yw,Yx,Yy,Yz,YA,YB,h1]
def cmpQ (a b:Rat):Int:=cmpI (a.num*b.den) (b.num*a.den)
theorem cmp_same (h:a.den=b.den):cmpI a.num b.num=cmpQ a b:=by
 unfold cmpQ cmpI
 rw [h]
 have hp:(0:Int)<b.den:=by have:=b.den_pos;omega
 have e1:a.num*(b.den:Int)<b.num*b.den↔a.num<b.num:=Int.mul_lt_mul_right hp
 have e2:a.num*(b.den:Int)=b.num*b.den↔a.num=b.num:=Int.mul_eq_mul_right_iff (by omega)
 simp only [e1,e2]
theorem Cmp_ev (ha:Sm 10000 a) (hb:Sm 10000 b):Ev (fun k=>FX82 k (fr a) (fr b)) (cmpQ a b):=by
 by_cases hd:a.den=b.den
 ·have h1:=ICmp_ev a.num b.num
  rw [←cmp_same hd]
  refine evE h1 ?_
  rintro k h1
  try dsimp only [fr]at h1
  show FX82 _ _ _=_
  unfold FX82 B82
  simp only [fr,FX108,FX109,FX127,Ya,Yb,Yc,Yd,Ye,Yf,Yg,Yh,Yi,Yj,Int.reduceEq,reduceCtorEq,Yk,Yl,Ym,Yn,Yo,Yp,Yq,Yr,Ys,Yt,Yu,Yv,Yw,Yx,Yy,Yz,YA,YB,h1,e_nat,hd]
 ·have h3:=NatMul_ev (m:=a.num.natAbs) (n:=b.den) (Nat.le_trans ha.1 (by decide)) (Nat.le_trans hb.2 (by decide))
  have h4:=NatMul_ev (m:=b.num.natAbs) (n:=a.den) (Nat.le_trans hb.1 (by decide)) (Nat.le_trans ha.2 (by decide))
  have f1:=IMake_eq (ng a.num) (a.num.natAbs*b.den)
  have f2:=IMake_eq (ng b.num) (b.num.natAbs*a.den)
  rw [sg_muln]at f1 f2
  have h5:=ICmp_ev (a.num*b.den) (b.num*a.den)
  have h3':Ev (fun k=>exact_NatMul.f k (ab a.num) (nat b.den)) _:=h3
  have h4':Ev (fun k=>exact_NatMul.f k (ab b.num) (nat a.den)) _:=h4
  unfold cmpQ
  refine evE (evC h3' (evC h4' h5)) ?_
  rintro k ⟨h3',h4',h5⟩
  try dsimp only [fr]at h3' h4' h5
  show FX82 _ _ _=_
  unfold FX82 B82
  simp only [fr,FX108,FX109,FX127,Ya,Yb,Yc,Yd,Ye,Yf,Yg,Yh,Yi,Yj,Int.reduceEq,reduceCtorEq,Yk,Yl,Ym,Yn,Yo,Yp,Yq,Yr,Ys,Yt,Yu,Yv,Yw,Yx,Yy,Yz,YA,YB,h3',h4',h5,e_nat,hd,f1,f2]
def big (q:Rat):Bool:=decide (1024<(ab q.num).size∨1024<(nat q.den).size)
theorem Large_ev (a:Rat):Ev (fun k=>FX148 k (fr a)) (big a):=by
 refine⟨0,fun k _=>?_⟩
 show FX148 _ _=_
 unfold FX148 B148 big fr
 by_cases h1:1024<(ab a.num).size
 ·simp only [gt_iff_lt,show(1024:Int)<((ab a.num).size:Int)from by omega,if_true,h1,true_or,decide_true]
 ·simp only [gt_iff_lt,show¬(1024:Int)<((ab a.num).size:Int)from by omega,if_false,h1,false_or]
  by_cases h2:1024<(nat a.den).size
  ·simp only [h2,show(1024:Int)<((nat a.den).size:Int)from by omega]
  ·simp only [h2,show¬(1024:Int)<((nat a.den).size:Int)from by omega]
def rbnd (q:Rat):TI×ByteArray×Int:=if big q=true then((false,⟨#[]⟩),⟨#[]⟩,4)else((ng q.num,ab q.num),nat q.den,0)
theorem rfit_ev (a:Rat):Ev (fun k=>FX113 k (fr a)) (rbnd a):=by
 have h1:=Large_ev a
 unfold rbnd
 by_cases h:big a=true
 ·rw [h]at h1
  rw [if_pos h]
  refine evE h1 ?_
  rintro k h1
  try dsimp only [fr]at h1
  show FX113 _ _=_
  unfold FX113 B113
  simp only [fr,Ya,Yb,Yc,Yd,Ye,Yf,Yg,Yh,Yi,Yj,Int.reduceEq,reduceCtorEq,Yk,Yl,Ym,Yn,Yo,Yp,Yq,Yr,Ys,Yt,Yu,Yv,Yw,Yx,Yy,Yz,YA,YB,h1]
 ·rw [Bool.not_eq_true]at h
  rw [h]at h1
  rw [if_neg (by rw [h];exact Bool.false_ne_true)]
  refine evE h1 ?_
  rintro k h1
  try dsimp only [fr]at h1
  show FX113 _ _=_
  unfold FX113 B113
  simp only [fr,Ya,Yb,Yc,Yd,Ye,Yf,Yg,Yh,Yi,Yj,Int.reduceEq,reduceCtorEq,Yk,Yl,Ym,Yn,Yo,Yp,Yq,Yr,Ys,Yt,Yu,Yv,Yw,Yx,Yy,Yz,YA,YB,h1]
end
abbrev FV:=TI×ByteArray
def rck (x:FV):Int:=if ick x.1.1 x.1.2=1∨chk x.2=1∨x.2.size=0 then 1 else if ick x.1.1 x.1.2≠0∨chk x.2≠0 then 4 else
 if Nat.gcd (bval x.1.2).toNat (bval x.2).toNat=1 then 0 else 1
theorem chk_cases (a:ByteArray):chk a=0∨chk a=1∨chk a=4:=by
 unfold chk
 split
 ·exact Or.inr (Or.inl rfl)
 ·split
  ·exact Or.inr (Or.inr rfl)
  ·exact Or.inl rfl
theorem ick_cases (s:Bool) (a:ByteArray):ick s a=0∨ick s a=1∨ick s a=4:=by
 unfold ick
 split
 ·exact Or.inr (Or.inl rfl)
 ·split
  ·exact Or.inr (Or.inl rfl)
  ·exact chk_cases a
theorem bval_n (n:Nat):(bval (nat n)).toNat=n:=by rw [Go.Proofs.YtjllholdppjllaaGreatN.bval_nat];exact Int.toNat_natCast n
theorem rck_fr {a:Rat} (h:Sm 1024 a):rck (fr a)=0:=by
 unfold rck fr
 have h1:=ick_int h.1
 have h2:=chk_nat h.2
 simp only
 rw [if_neg,if_neg,if_pos]
 ·have:=a.reduced
  show Nat.gcd (bval (nat a.num.natAbs)).toNat (bval (nat a.den)).toNat=1
  rw [bval_n,bval_n];exact this
 ·rw [h1,h2];simp
 ·rw [h1,h2]
  have h3:(nat a.den).size≠0:=fun e=>a.den_nz (nat_size_zero.1 e)
  simp [h3]
theorem rck_zero {x:FV} (h:rck x=0):∃a:Rat,x=fr a∧Sm 1024 a:=by
 unfold rck at h
 split at h
 ·cases h
 ·rename_i c1
  split at h
  ·cases h
  ·rename_i c2
   split at h
   ·rename_i c3
    rw [not_or,Decidable.not_not,Decidable.not_not]at c2
    obtain⟨z,e1,e2,e3⟩:=ick_zero c2.1
    obtain⟨f1,f2⟩:=chk_zero c2.2
    have hd:(bval x.2).toNat≠0:=fun e=>c1 (Or.inr (Or.inr (by rw [f1,e];exact nat_size_zero.2 rfl)))
    have hr:Nat.gcd z.natAbs (bval x.2).toNat=1:=by
     have:(bval x.1.2).toNat=z.natAbs:=by rw [e2];exact bval_n _
     rw [←this];exact c3
    refine⟨⟨z,(bval x.2).toNat,hd,hr⟩,?_,e3,by rw [←f1];exact f2⟩
    show x=((ng z,ab z),nat (bval x.2).toNat)
    rw [←f1,←e1,←e2]
   ·cases h
theorem rck_cases (x:FV):((ick x.1.1 x.1.2=1∨chk x.2=1∨x.2.size=0)∧rck x=1)∨
  (¬(ick x.1.1 x.1.2=1∨chk x.2=1∨x.2.size=0)∧(ick x.1.1 x.1.2=4∨ick x.1.1 x.1.2=0∧chk x.2=4)∧rck x=4)∨
  (∃(z:Int) (d:Nat),x=((ng z,ab z),nat d)∧d≠0∧(ab z).size≤1024∧(nat d).size≤1024∧rck x=if Nat.gcd z.natAbs d=1 then 0 else 1):=by
 by_cases c1:ick x.1.1 x.1.2=1∨chk x.2=1∨x.2.size=0
 ·exact Or.inl ⟨c1,if_pos c1⟩
 ·by_cases c2:ick x.1.1 x.1.2≠0∨chk x.2≠0
  ·refine Or.inr (Or.inl ⟨c1,?_,by unfold rck;rw [if_neg c1,if_pos c2]⟩)
   rw [not_or,not_or]at c1
   rcases ick_cases x.1.1 x.1.2 with h|h|h
   ·rcases chk_cases x.2 with g|g|g
    ·rw [h,g]at c2;simp at c2
    ·exact absurd g c1.2.1
    ·exact Or.inr ⟨h,g⟩
   ·exact absurd h c1.1
   ·exact Or.inl h
  ·have c2':=c2
   rw [not_or,Decidable.not_not,Decidable.not_not]at c2'
   obtain⟨z,e1,e2,e3⟩:=ick_zero c2'.1
   obtain⟨f1,f2⟩:=chk_zero c2'.2
   have hd:(bval x.2).toNat≠0:=fun e=>c1 (Or.inr (Or.inr (by rw [f1,e];exact nat_size_zero.2 rfl)))
   have hb:(bval x.1.2).toNat=z.natAbs:=by rw [e2];exact bval_n _
   refine Or.inr (Or.inr ⟨z,(bval x.2).toNat,by rw [←f1,←e1,←e2],hd,e3,by rw [←f1];exact f2,?_⟩)
   unfold rck;rw [if_neg c1,if_neg c2,hb]
theorem e_size (d:ByteArray):(d.toList==(⟨#[]⟩:ByteArray).toList)=decide (d.size=0):=by
 rw [Bool.eq_iff_iff,beq_iff_eq,decide_eq_true_eq,empty_toList,toList_nil]
theorem rCk_ev (x:FV):Ev (fun k=>FX34 k x) (rck x):=by
 have h1:=iCheck_ev x.1.1 x.1.2
 have h2:=Go.Proofs.YtjllholdppjllaaGreatN.Check_ev x.2
 rcases rck_cases x with⟨c,e⟩| ⟨c,c2,e⟩| ⟨z,d,rfl,hd,hz,hs,e⟩
 ·rw [e]
  by_cases c1:ick x.1.1 x.1.2=1
  ·refine evE (evC h1 h2) ?_
   rintro k ⟨h1,h2⟩
   try dsimp only [fr]at h1 h2
   show FX34 _ _=_
   unfold FX34 B34
   simp only [fr,FX83,FX84,FX85,Ya,Yb,Yc,Yd,Ye,Yf,Yg,Yh,Yi,Yj,Int.reduceEq,reduceCtorEq,Yk,Yl,Ym,Yn,Yo,Yp,Yq,Yr,Ys,Yt,Yu,Yv,Yw,Yx,Yy,Yz,YA,YB,h1,h2,c1]
  ·by_cases c2:chk x.2=1
   ·refine evE (evC h1 h2) ?_
    rintro k ⟨h1,h2⟩
    try dsimp only [fr]at h1 h2
    show FX34 _ _=_
    unfold FX34 B34
    simp only [fr,FX83,FX84,FX85,Ya,Yb,Yc,Yd,Ye,Yf,Yg,Yh,Yi,Yj,Int.reduceEq,reduceCtorEq,Yk,Yl,Ym,Yn,Yo,Yp,Yq,Yr,Ys,Yt,Yu,Yv,Yw,Yx,Yy,Yz,YA,YB,h1,h2,c1,c2,ite_self]
   ·have c3:x.2.size=0:=by rcases c with c|c|c;exact absurd c c1;exact absurd c c2;exact c
    refine evE (evC h1 h2) ?_
    rintro k ⟨h1,h2⟩
    try dsimp only [fr]at h1 h2
    show FX34 _ _=_
    unfold FX34 B34
    simp only [fr,FX83,FX84,FX85,Ya,Yb,Yc,Yd,Ye,Yf,Yg,Yh,Yi,Yj,Int.reduceEq,reduceCtorEq,Yk,Yl,Ym,Yn,Yo,Yp,Yq,Yr,Ys,Yt,Yu,Yv,Yw,Yx,Yy,Yz,YA,YB,h1,h2,c1,c2,c3,e_size]
 ·rw [not_or,not_or]at c
  rw [e]
  rcases c2 with c2| ⟨c2,c3⟩
  ·have c1:=c.2.1
   have c4:=c.2.2
   refine evE (evC h1 h2) ?_
   rintro k ⟨h1,h2⟩
   try dsimp only [fr]at h1 h2
   show FX34 _ _=_
   unfold FX34 B34
   simp only [fr,FX83,FX84,FX85,Ya,Yb,Yc,Yd,Ye,Yf,Yg,Yh,Yi,Yj,Int.reduceEq,reduceCtorEq,Yk,Yl,Ym,Yn,Yo,Yp,Yq,Yr,Ys,Yt,Yu,Yv,Yw,Yx,Yy,Yz,YA,YB,h1,h2,c1,c2,c4,e_size]
  ·have c4:=c.2.2
   refine evE (evC h1 h2) ?_
   rintro k ⟨h1,h2⟩
   try dsimp only [fr]at h1 h2
   show FX34 _ _=_
   unfold FX34 B34
   simp only [fr,FX83,FX84,FX85,Ya,Yb,Yc,Yd,Ye,Yf,Yg,Yh,Yi,Yj,Int.reduceEq,reduceCtorEq,Yk,Yl,Ym,Yn,Yo,Yp,Yq,Yr,Ys,Yt,Yu,Yv,Yw,Yx,Yy,Yz,YA,YB,h1,h2,c2,c3,c4,e_size]
 ·rw [e]
  have h3:=NatGcd_ev (m:=z.natAbs) (n:=d) (Nat.le_trans hz (by decide)) (Nat.le_trans hs (by decide))
  have h3':Ev (fun k=>exact_NatGcd.f k (ab z) (nat d)) _:=h3
  dsimp only at h1 h2
  rw [ick_int hz]at h1
  rw [chk_nat hs]at h2
  by_cases c:d=1
  ·subst c
   have e1:Nat.gcd z.natAbs 1=1:=Nat.gcd_one_right _
   refine evE (evC h1 h2) ?_
   rintro k ⟨h1,h2⟩
   try dsimp only [fr]at h1 h2
   show FX34 _ _=_
   unfold FX34 B34
   simp only [fr,FX83,FX84,FX85,Ya,Yb,Yc,Yd,Ye,Yf,Yg,Yh,Yi,Yj,Int.reduceEq,reduceCtorEq,Yk,Yl,Ym,Yn,Yo,Yp,Yq,Yr,Ys,Yt,Yu,Yv,Yw,Yx,Yy,Yz,YA,YB,h1,h2,e_one,e_nil,e1]
  ·by_cases c5:Nat.gcd z.natAbs d=1
   ·refine evE (evC h1 (evC h2 h3')) ?_
    rintro k ⟨h1,h2,h3'⟩
    try dsimp only [fr]at h1 h2 h3'
    show FX34 _ _=_
    unfold FX34 B34
    simp only [fr,FX83,FX84,FX85,Ya,Yb,Yc,Yd,Ye,Yf,Yg,Yh,Yi,Yj,Int.reduceEq,reduceCtorEq,Yk,Yl,Ym,Yn,Yo,Yp,Yq,Yr,Ys,Yt,Yu,Yv,Yw,Yx,Yy,Yz,YA,YB,h1,h2,h3',e_one,e_nil,hd,c,c5]
   ·refine evE (evC h1 (evC h2 h3')) ?_
    rintro k ⟨h1,h2,h3'⟩
    try dsimp only [fr]at h1 h2 h3'
    show FX34 _ _=_
    unfold FX34 B34
    simp only [fr,FX83,FX84,FX85,Ya,Yb,Yc,Yd,Ye,Yf,Yg,Yh,Yi,Yj,Int.reduceEq,reduceCtorEq,Yk,Yl,Ym,Yn,Yo,Yp,Yq,Yr,Ys,Yt,Yu,Yv,Yw,Yx,Yy,Yz,YA,YB,h1,h2,h3',e_one,e_nil,hd,c,c5]
theorem RCk_ev (x:FV):Ev (fun k=>FX16 k x) (rck x):=by
 have f1:=rValid2_eq x.1.1 x.1.2
 have f2:=rValid_eq x.2
 have f3:=rFits_eq x.1.1 x.1.2
 have f4:=rFits1_eq x.2
 have k1:decide ((x.1.2.size=0∨bt x.1.2 0≠0)∧¬(x.1.1=true∧x.1.2.size=0))=!decide (ick x.1.1 x.1.2=1):=by
  rw [Bool.eq_iff_iff,decide_eq_true_eq,Bool.not_eq_true',decide_eq_false_iff_not]
  unfold ick
  by_cases g:chk x.1.2=1
  ·rw [if_pos g]
   have:=chk_one.1 g
   exact⟨fun q=>absurd q.1 this,fun q=>absurd rfl q⟩
  ·rw [if_neg g]
   have g2:x.1.2.size=0∨bt x.1.2 0≠0:=Decidable.not_not.1 fun q=>g (chk_one.2 q)
   by_cases g3:x.1.1=true∧x.1.2.size=0
   ·rw [if_pos g3];exact⟨fun q=>absurd g3 q.2,fun q=>absurd rfl q⟩
   ·rw [if_neg g3];exact⟨fun _=>g,fun _=>⟨g2,g3⟩⟩
 have k2:decide (x.2.size=0∨bt x.2 0≠0)=!decide (chk x.2=1):=by
  rw [Bool.eq_iff_iff,decide_eq_true_eq,Bool.not_eq_true',decide_eq_false_iff_not]
  constructor
  ·intro q r;exact chk_one.1 r q
  ·intro q;exact Decidable.not_not.1 fun r=>q (chk_one.2 r)
 rw [k1]at f1
 rw [k2]at f2
 rcases rck_cases x with⟨c,e⟩| ⟨c,c2,e⟩| ⟨z,d,rfl,hd,hz,hs,e⟩
 ·rw [e]
  have f5:FX63=FX63:=rfl
  by_cases c1:ick x.1.1 x.1.2=1
  ·refine⟨0,fun k _=>?_⟩
   show FX16 _ _=_
   unfold FX16 B16
   simp only [fr,FX61,FX62,FX64,Ya,Yb,Yc,Yd,Ye,Yf,Yg,Yh,Yi,Yj,Int.reduceEq,reduceCtorEq,Yk,Yl,Ym,Yn,Yo,Yp,Yq,Yr,Ys,Yt,Yu,Yv,Yw,Yx,Yy,Yz,YA,YB,f1,c1]
  ·by_cases c2:chk x.2=1
   ·refine⟨0,fun k _=>?_⟩
    show FX16 _ _=_
    unfold FX16 B16
    simp only [fr,FX61,FX62,FX64,Ya,Yb,Yc,Yd,Ye,Yf,Yg,Yh,Yi,Yj,Int.reduceEq,reduceCtorEq,Yk,Yl,Ym,Yn,Yo,Yp,Yq,Yr,Ys,Yt,Yu,Yv,Yw,Yx,Yy,Yz,YA,YB,f1,f2,c1,c2]
   ·have c3:x.2.size=0:=by rcases c with c|c|c;exact absurd c c1;exact absurd c c2;exact c
    refine⟨0,fun k _=>?_⟩
    show FX16 _ _=_
    unfold FX16 B16
    simp only [fr,FX61,FX62,FX64,Ya,Yb,Yc,Yd,Ye,Yf,Yg,Yh,Yi,Yj,Int.reduceEq,reduceCtorEq,Yk,Yl,Ym,Yn,Yo,Yp,Yq,Yr,Ys,Yt,Yu,Yv,Yw,Yx,Yy,Yz,YA,YB,f1,f2,c1,c2,c3,e_size]
 ·rw [e]
  rw [not_or,not_or]at c
  have c1:=c.1
  have c3:=c.2.1
  have c4:=c.2.2
  have hf:Ev (fun k=>FX63 k x) 4:=by
   by_cases g:(x.1.2.size:Int)>1024
   ·rw [if_pos g]at f3
    refine⟨0,fun k _=>?_⟩
    show FX63 _ _=_
    unfold FX63 B63
    simp only [fr,FX65,FX117,Ya,Yb,Yc,Yd,Ye,Yf,Yg,Yh,Yi,Yj,Int.reduceEq,reduceCtorEq,Yk,Yl,Ym,Yn,Yo,Yp,Yq,Yr,Ys,Yt,Yu,Yv,Yw,Yx,Yy,Yz,YA,YB,f3]
   ·rw [if_neg g]at f3
    have g2:(x.2.size:Int)>1024:=by
     rcases c2 with c2| ⟨c2,c5⟩
     ·exfalso
      unfold ick at c2 c1
      split at c2
      ·cases c2
      ·split at c2
       ·cases c2
       ·rename_i q1 q2
        rw [chk_rest q1,if_neg g]at c2;cases c2
     ·rw [chk_rest c3]at c5
      split at c5
      ·assumption
      ·cases c5
    rw [if_pos g2]at f4
    refine⟨0,fun k _=>?_⟩
    show FX63 _ _=_
    unfold FX63 B63
    simp only [fr,FX65,FX117,Ya,Yb,Yc,Yd,Ye,Yf,Yg,Yh,Yi,Yj,Int.reduceEq,reduceCtorEq,Yk,Yl,Ym,Yn,Yo,Yp,Yq,Yr,Ys,Yt,Yu,Yv,Yw,Yx,Yy,Yz,YA,YB,f3,f4]
  refine evE hf ?_
  rintro k hf
  try dsimp only [fr]at hf
  show FX16 _ _=_
  unfold FX16 B16
  simp only [fr,FX61,FX62,FX64,Ya,Yb,Yc,Yd,Ye,Yf,Yg,Yh,Yi,Yj,Int.reduceEq,reduceCtorEq,Yk,Yl,Ym,Yn,Yo,Yp,Yq,Yr,Ys,Yt,Yu,Yv,Yw,Yx,Yy,Yz,YA,YB,hf,f1,f2,c1,c3,c4,e_size]
 ·rw [e]
  have h3:=rGcd_ev (m:=z.natAbs) (n:=d) (Nat.le_trans hz (by decide)) (Nat.le_trans hs (by decide))
  have h3':Ev (fun k=>galoisref01_Gcd.f k (ab z) (nat d)) _:=h3
  dsimp only at f1 f2 f3 f4
  rw [ick_int hz]at f1
  rw [chk_nat hs]at f2
  have g1:¬((ab z).size:Int)>1024:=by omega
  have g2:¬((nat d).size:Int)>1024:=by omega
  rw [if_neg g1]at f3
  rw [if_neg g2]at f4
  have hf:Ev (fun k=>FX63 k ((ng z,ab z),nat d)) 0:=by
   refine⟨0,fun k _=>?_⟩
   show FX63 _ _=_
   unfold FX63 B63
   simp only [fr,FX65,FX117,Ya,Yb,Yc,Yd,Ye,Yf,Yg,Yh,Yi,Yj,Int.reduceEq,reduceCtorEq,Yk,Yl,Ym,Yn,Yo,Yp,Yq,Yr,Ys,Yt,Yu,Yv,Yw,Yx,Yy,Yz,YA,YB,f3,f4]
  by_cases c5:Nat.gcd z.natAbs d=1
  ·refine evE (evC hf h3') ?_
   rintro k ⟨hf,h3'⟩
   try dsimp only [fr]at hf h3'
   show FX16 _ _=_
   unfold FX16 B16
   simp only [fr,FX61,FX62,FX64,Ya,Yb,Yc,Yd,Ye,Yf,Yg,Yh,Yi,Yj,Int.reduceEq,reduceCtorEq,Yk,Yl,Ym,Yn,Yo,Yp,Yq,Yr,Ys,Yt,Yu,Yv,Yw,Yx,Yy,Yz,YA,YB,hf,h3',f1,f2,e_one,e_nil,hd,c5]
  ·refine evE (evC hf h3') ?_
   rintro k ⟨hf,h3'⟩
   try dsimp only [fr]at hf h3'
   show FX16 _ _=_
   unfold FX16 B16
   simp only [fr,FX61,FX62,FX64,Ya,Yb,Yc,Yd,Ye,Yf,Yg,Yh,Yi,Yj,Int.reduceEq,reduceCtorEq,Yk,Yl,Ym,Yn,Yo,Yp,Yq,Yr,Ys,Yt,Yu,Yv,Yw,Yx,Yy,Yz,YA,YB,hf,h3',f1,f2,e_one,e_nil,hd,c5]
def rerr (e:Int):TI×ByteArray×Int:=((false,⟨#[]⟩),⟨#[]⟩,e)
theorem rdOf_0 (z x:FV) (l:List FV):rdOf z (x::l) 0=x:=rfl
theorem rdOf_1 (z x y:FV) (l:List FV):rdOf z (x::y::l) 1=y:=rfl
theorem len1 (x:FV):(([x]:List FV).length:Int)=1:=rfl
theorem len2 (x y:FV):(([x,y]:List FV).length:Int)=2:=rfl
section
variable {x y:FV}
end
end Go.Proofs.YtjllholdppjllaaGreatV
