/- Part of the proof of the statement RationalMakes: lemmas on the model's steps, Lean functions that say what the program's functions compute, and proofs that the calls do just that. No hypothesis is added. -/
import Derived.Test.YtjllholdppjllaaKRationalMakes4
set_option linter.all false
namespace Go.Proofs.YtjllholdppjllaaN
open Go.RowKit Go.Proofs.Ytjllholdppjllaa.All Go.Proofs.YtjllholdppjllaaW.PrintWords Go.Proofs.YtjllholdppjllaaW.PrintLast Go.Proofs.YtjllholdppjllaaW.PrintMore
theorem ng_sg (s:Bool) (n:Nat):ng (sg s n)=(s&&!decide (n=0)):=by
 cases s
 ·exact decide_eq_false (by rw [sg_false];omega)
 ·by_cases h:n=0
  ·subst h
   rfl
  ·rw [decide_eq_false h]
   exact decide_eq_true (by rw [sg_true];omega)
theorem ab_sg (s:Bool) (n:Nat):ab (sg s n)=nat n:=by
 unfold ab
 cases s
 ·rw [sg_false,Int.natAbs_natCast]
 ·rw [sg_true,Int.natAbs_neg,Int.natAbs_natCast]
theorem ab_nat (n:Nat):ab (n:Int)=nat n:=by unfold ab;rw [Int.natAbs_natCast]
theorem ng_pos {x:Int} (h:0≤x):ng x=false:=decide_eq_false (by omega)
theorem ng_neg {x:Int} (h:x<0):ng x=true:=decide_eq_true h
theorem isEmpty_nat (n:Nat):(nat n).toList.isEmpty=decide (n=0):=by
 by_cases h:n=0
 ·rw [decide_eq_true h,List.isEmpty_iff]
  exact nat_empty.2 h
 ·rw [decide_eq_false h,Bool.eq_false_iff]
  intro h'
  exact h (nat_empty.1 (List.isEmpty_iff.1 h'))
theorem ab_size_zero {x:Int}:(ab x).size=0↔x=0:=by unfold ab;rw [nat_size_zero];omega
theorem IMake_eq (s:Bool) (n:Nat):exact_IntMake.f s (nat n)=some (ng (sg s n),ab (sg s n)):=by
 unfold exact_IntMake.f
 rw [ng_sg,ab_sg,isEmpty_nat]
 cases s
 ·rw [if_neg Bool.false_ne_true,Bool.false_and]
 ·rw [if_pos rfl,Bool.true_and]
theorem NatOf_ev {u:Nat} (hu:u<18446744073709551616):Ev (fun k=>exact_NatOf.f k (u:Int)) (nat u):=by
 have p:=pack_ev (l:=[(u:Int)]) (Dig_cons.2 ⟨⟨by omega,by show _<(18446744073709551616:Int);omega⟩,Dig_nil _⟩) (by simp)
 have hv:vB B64 [(u:Int)]=u:=by show(u:Int)+18446744073709551616*0=u;omega
 rw [hv,Int.toNat_natCast]at p
 exact Ev.bind p (Ev.now _)
def ick (s:Bool) (a:ByteArray):Int:=if chk a=1 then 1 else if s=true∧a.size=0 then 1 else chk a
theorem rValid_eq (s:ByteArray):galoisref01_Valid.f s=some (decide (s.size=0∨bt s 0≠0)):=by
 unfold galoisref01_Valid.f
 by_cases h:s.size=0
 ·rw [if_pos (toList_nil.2 h)]
  simp [h]
 ·rw [if_neg (fun h'=>h (toList_nil.1 h')),if_pos (by omega)]
  by_cases h2:bt s 0=0<;>simp [h,h2]
theorem chk_one {a:ByteArray}:chk a=1↔¬(a.size=0∨bt a 0≠0):=by
 unfold chk
 by_cases h:0<a.size∧bt a 0=0
 ·rw [if_pos h]
  refine⟨fun _ h'=>?_,fun _=>rfl⟩
  rcases h' with h'|h'
  ·omega
  ·exact h' h.2
 ·rw [if_neg h]
  refine⟨fun h'=>?_,fun h'=>absurd ⟨Nat.pos_of_ne_zero fun h2=>h' (Or.inl h2),?_⟩ h⟩
  ·split at h'<;>exact absurd h' (by decide)
  ·rcases Decidable.em (bt a 0=0)with h2|h2
   ·exact h2
   ·exact absurd (Or.inr h2) h'
theorem chk_rest {a:ByteArray} (h:chk a≠1):chk a=if(a.size:Int)>1024 then 4 else 0:=by
 have h1:¬(0<a.size∧bt a 0=0):=fun h'=>h (by unfold chk;rw [if_pos h'])
 unfold chk
 rw [if_neg h1]
 by_cases h2:1024<a.size
 ·rw [if_pos h2,if_pos (by omega)]
 ·rw [if_neg h2,if_neg (by omega)]
theorem rFits1_eq (a:ByteArray):galoisref01_Fits.f a=some (if(a.size:Int)>1024 then 4 else 0):=by
 unfold galoisref01_Fits.f
 by_cases h:(a.size:Int)>1024
 ·rw [if_pos h,if_pos h]
 ·rw [if_neg h,if_neg h]
theorem rFits_eq (s:Bool) (a:ByteArray):galoisref02_Fits.f s a=some (if(a.size:Int)>1024 then 4 else 0):=by
 unfold galoisref02_Fits.f
 rw [rFits1_eq]
 rfl
theorem rValid2_eq (s:Bool) (a:ByteArray):galoisref02_Valid.f s a=some (decide ((a.size=0∨bt a 0≠0)∧¬(s=true∧a.size=0))):=by
 unfold galoisref02_Valid.f
 rw [rValid_eq,Option.bind_some]
 by_cases h:a.size=0∨bt a 0≠0
 ·rw [if_pos (decide_eq_true h)]
  cases s
  ·rw [if_neg Bool.false_ne_true]
   congr 1
   exact(decide_eq_true ⟨h,fun h'=>Bool.false_ne_true h'.1⟩).symm
  ·rw [if_pos rfl]
   congr 1
   by_cases h2:a.size=0
   ·rw [decide_eq_false (fun h'=>h'.2 ⟨rfl,h2⟩)]
    exact bne_eq_false_iff_eq.2 (toList_nil.2 h2)
   ·have e:(a.size=0∨bt a 0≠0)∧¬(true=true∧a.size=0):=⟨h,fun h'=>h2 h'.2⟩
    rw [decide_eq_true e]
    exact bne_iff_ne.2 (fun h'=>h2 (toList_nil.1 h'))
 ·rw [if_neg (by rw [decide_eq_true_eq];exact h),decide_eq_false (fun h'=>h h'.1)]
theorem rCheck_eq (s:Bool) (a:ByteArray):galoisref02_Check.f s a=some (ick s a):=by
 unfold galoisref02_Check.f ick
 rw [rValid2_eq,Option.bind_some]
 by_cases h1:chk a=1
 ·rw [if_pos h1,if_neg (by rw [decide_eq_true_eq];exact fun h'=>chk_one.1 h1 h'.1)]
 ·have hv:a.size=0∨bt a 0≠0:=by
   rcases Decidable.em (a.size=0∨bt a 0≠0)with h|h
   ·exact h
   ·exact absurd (chk_one.2 h) h1
  rw [if_neg h1]
  by_cases h2:s=true∧a.size=0
  ·rw [if_pos h2,if_neg (by rw [decide_eq_true_eq];exact fun h'=>h'.2 h2)]
  ·rw [if_neg h2,if_pos (decide_eq_true ⟨hv,h2⟩),rFits_eq,chk_rest h1]
   rfl
theorem RMake_eq (s:Bool) (n:Nat):galoisref02_Make.f s (nat n)=some (ng (sg s n),ab (sg s n)):=IMake_eq s n
theorem ick_zero {s:Bool} {a:ByteArray} (h:ick s a=0):∃x:Int,s=ng x∧a=ab x∧(ab x).size≤1024:=by
 unfold ick at h
 by_cases h1:chk a=1
 ·rw [if_pos h1]at h
  exact absurd h (by decide)
 ·rw [if_neg h1]at h
  by_cases h2:s=true∧a.size=0
  ·rw [if_pos h2]at h
   exact absurd h (by decide)
  ·rw [if_neg h2]at h
   obtain⟨n,rfl,hn⟩:=number h
   refine⟨sg s n,?_,(ab_sg s n).symm,by rw [ab_sg];exact hn⟩
   rw [ng_sg]
   cases s
   ·rfl
   ·rw [Bool.true_and,decide_eq_false (fun h3=>h2 ⟨rfl,by rw [h3,nat_zero];rfl⟩)]
    rfl
theorem ick_int {x:Int} (h:(ab x).size≤1024):ick (ng x) (ab x)=0:=by
 unfold ick
 have hc:chk (ab x)=0:=chk_nat h
 rw [hc,if_neg (by decide),if_neg]
 rintro⟨h1,h2⟩
 have:=ab_size_zero.1 h2
 rw [this]at h1
 exact absurd h1 (by decide)
theorem empty_toList':(⟨#[]⟩:ByteArray).toList=([]:List UInt8):=toList_nil.2 rfl
theorem iCheck_ev (s:Bool) (a:ByteArray):Ev (fun k=>integer_Check.f k s a) (ick s a):=by
 refine Ev.bind (Check_ev a) ?_
 by_cases h1:chk a=1
 ·have e:ick s a=chk a:=by unfold ick;rw [if_pos h1,h1]
  rw [e]
  exact Ev.congr (fun k=>if_pos h1) (Ev.now _)
 ·refine Ev.congr (fun k=>if_neg h1) (ev_some (a:=(false,(⟨#[]⟩:ByteArray))) rfl ?_)
  by_cases h2:a.size=0
  ·have h3:a.toList=([]:List UInt8):=toList_nil.2 h2
   cases s
   ·have e:ick false a=chk a:=by unfold ick;rw [if_neg h1,if_neg (fun h=>Bool.false_ne_true h.1)]
    rw [e]
    exact Ev.congr (fun k=>if_neg (by rw [h3,empty_toList'];decide)) (Ev.now _)
   ·have e:ick true a=1:=by unfold ick;rw [if_neg h1,if_pos ⟨rfl,h2⟩]
    rw [e]
    exact Ev.congr (fun k=>if_pos rfl) (Ev.congr (fun k=>if_pos h3) (Ev.now _))
  ·have h3:a.toList≠([]:List UInt8):=fun h=>h2 (toList_nil.1 h)
   have e:ick s a=chk a:=by unfold ick;rw [if_neg h1,if_neg (fun h=>h2 h.2)]
   rw [e]
   by_cases h4:(!(s==false)||(!(a.toList==(⟨#[]⟩:ByteArray).toList)))=true
   ·exact Ev.congr (fun k=>if_pos h4) (Ev.congr (fun k=>if_neg h3) (Ev.now _))
   ·exact Ev.congr (fun k=>if_neg h4) (Ev.now _)
theorem wrap01:wrap64 (0+1)=1:=by unfold wrap64;omega
theorem wrap11:wrap64 (1+1)=2:=by unfold wrap64;omega
theorem FromInt_ev {x:Int} (h1: -9223372036854775808≤x) (h2:x<9223372036854775808):Ev (fun k=>galoisref02_FromInt.f k x) (ng x,ab x):=by
 by_cases h:x<0
 ·rw [ng_neg h]
  have e:IntKind.u64.wrap (IntKind.u64.wrap (wrap64 (-(wrap64 (x+1))))+1)=((x.natAbs:Nat):Int):=by
   rw [show wrap64 (x+1)=x+1 from w64 (by omega) (by omega),show wrap64 (-(x+1))= -(x+1)from w64 (by omega) (by omega),IntKind.wrap_u64,IntKind.wrap_u64]
   omega
  have:=rOf_ev (u:=x.natAbs) (by omega)
  rw [←e]at this
  exact Ev.congr (fun k=>if_pos h) (Ev.bind this (Ev.now _))
 ·rw [ng_pos (by omega)]
  have e:IntKind.u64.wrap x=((x.natAbs:Nat):Int):=by
   rw [IntKind.wrap_u64]
   omega
  have:=rOf_ev (u:=x.natAbs) (by omega)
  rw [←e]at this
  exact Ev.congr (fun k=>if_neg h) (Ev.bind this (Ev.now _))
end Go.Proofs.YtjllholdppjllaaN
set_option maxRecDepth 100000
namespace Go.Proofs.YtjllholdppjllaaV
open Go Go.RowKit Ytjllholdppjllaa YtjllholdppjllaaE YtjllholdppjllaaN Ytjllholdppjllaa.All YtjllholdppjllaaW.PrintWords YtjllholdppjllaaW.PrintLast YtjllholdppjllaaW.PrintMore
abbrev Ya:= @cnd_eq_if
abbrev Yb:= @bind_some_
abbrev Yc:= @if_true
abbrev Yd:= @if_false
abbrev Ye:= @ne_eq
abbrev Yf:= @not_true_eq_false
abbrev Yg:= @not_false_eq_true
abbrev Yh:= @Bool.not_true
abbrev Yi:= @Bool.not_false
abbrev Yj:= @Bool.false_eq_true
abbrev Yk:= @Bool.not_eq_true'
abbrev Yl:= @bfalse
abbrev Ym:= @ite_not
abbrev Yn:= @eq_self
abbrev Yo:= @Bool.and_eq_true
abbrev Yp:= @Bool.or_eq_true
abbrev Yq:= @ite_and_
abbrev Yr:= @ite_or_
abbrev Ys:= @and_self
abbrev Yt:= @decide_true
abbrev Yu:= @decide_false
abbrev Yv:= @Bool.true_and
abbrev Yw:= @Bool.and_true
abbrev Yx:= @beq_self_eq_true
abbrev Yy:= @decide_eq_true_eq
abbrev Yz:= @gt_iff_lt
abbrev YA:= @ge_iff_le
abbrev YB:= @Int.neg_eq_zero
theorem evC {α:Type _} {f:Nat→Option α} {a:α} {Q:Nat→Prop}:Ev f a→(∃K,∀k,K≤k→Q k)→∃K,∀k,K≤k→f k=some a∧Q k:=fun⟨K,h⟩ ⟨L,g⟩=>⟨K+L,fun k hk=>⟨h k (by omega),g k (by omega)⟩⟩
theorem evE {α:Type _} {f:Nat→Option α} {a:α} {Q:Nat→Prop}:(∃K,∀k,K≤k→Q k)→(∀k,Q k→f k=some a)→Ev f a:=fun⟨K,h⟩ g=>⟨K,fun k hk=>g k (h k hk)⟩
def fr (q:Rat):TI×ByteArray:=((ng q.num,ab q.num),nat q.den)
theorem nat1:nat 1=⟨#[1]⟩:=by decide +kernel
theorem nat0:nat 0=⟨#[]⟩:=by decide +kernel
theorem ba_inj {a b:ByteArray}:a.toList=b.toList↔a=b:=by
 constructor
 ·intro h
  rw [ByteArray.toList_eq,ByteArray.toList_eq]at h
  cases a;cases b
  simp only [ByteArray.mk.injEq]
  exact Array.toList_inj.1 h
 ·intro h;rw [h]
theorem e_nat (m n:Nat):((nat m).toList==(nat n).toList)=decide (m=n):=by
 rw [Bool.eq_iff_iff,beq_iff_eq,decide_eq_true_eq,ba_inj,nat_inj]
theorem e_one (m:Nat):((nat m).toList==(⟨#[1]⟩:ByteArray).toList)=decide (m=1):=by rw [←nat1,e_nat]
theorem e_nil (m:Nat):((nat m).toList==(⟨#[]⟩:ByteArray).toList)=decide (m=0):=by rw [←nat0,e_nat]
theorem e_ab (x:Int):((ab x).toList==(⟨#[]⟩:ByteArray).toList)=decide (x=0):=by
 unfold ab;rw [e_nil,Bool.eq_iff_iff,decide_eq_true_eq,decide_eq_true_eq];omega
theorem e_ng (x y:Int):(!(ng x==ng y))=(ng x !=ng y):=rfl
theorem size_div_ (m n:Nat):(nat (m/n)).size≤(nat m).size:=size_mono (Nat.div_le_self m n)
theorem sg_div {n d:Int} {g:Nat} (h0:d≠0) (hg:g∣n.natAbs) (g0:g≠0):sg (ng n !=ng d) (n.natAbs/g)=d.sign*n/g:=by
 obtain⟨c,hc⟩:=hg
 have e:n.natAbs/g=c:=by rw [hc];exact Nat.mul_div_cancel_left _ (Nat.pos_of_ne_zero g0)
 rw [e]
 have g1:(g:Int)≠0:=by omega
 have key:∀z:Int,z=g*c→z/g=(c:Int):=fun z hz=>by rw [hz];exact Int.mul_ediv_cancel_left _ g1
 have keyn:∀z:Int,z= -(g*c:Int)→z/g= -(c:Int):=fun z hz=>by
  rw [hz,←Int.mul_neg];exact Int.mul_ediv_cancel_left _ g1
 have hcast:((n.natAbs:Nat):Int)=(g:Int)*(c:Int):=by rw [hc];exact Int.natCast_mul _ _
 rcases Int.lt_or_gt_of_ne h0 with hd|hd
 ·rw [ng_neg hd,Int.sign_eq_neg_one_of_neg hd]
  by_cases hn:n<0
  ·rw [ng_neg hn];exact(key _ (by omega)).symm
  ·rw [ng_pos (by omega)];exact(keyn _ (by omega)).symm
 ·rw [ng_pos (show 0≤d by omega),Int.sign_eq_one_of_pos hd]
  by_cases hn:n<0
  ·rw [ng_neg hn];exact(keyn _ (by omega)).symm
  ·rw [ng_pos (by omega)];exact(key _ (by omega)).symm
theorem gcd_ne {n d:Int} (h0:d≠0):Nat.gcd n.natAbs d.natAbs≠0:=by
 intro h
 have:=(Nat.gcd_eq_zero_iff.1 h).2
 omega
theorem fr_div {n d:Int} (h0:d≠0):((ng (sg (ng n !=ng d) (n.natAbs/Nat.gcd n.natAbs d.natAbs)),ab (sg (ng n !=ng d) (n.natAbs/Nat.gcd n.natAbs d.natAbs))),nat (d.natAbs/Nat.gcd n.natAbs d.natAbs))=fr (Rat.divInt n d):=by
 have e:Int.gcd d n=Nat.gcd n.natAbs d.natAbs:=Nat.gcd_comm _ _
 unfold fr
 rw [Rat.num_divInt,Rat.den_divInt,if_neg h0,e,sg_div h0 (Nat.gcd_dvd_left _ _) (gcd_ne h0)]
theorem fr_div1 {n d:Int} (h0:d≠0) (h:Nat.gcd n.natAbs d.natAbs=1):((ng (sg (ng n !=ng d) n.natAbs),ab (sg (ng n !=ng d) n.natAbs)),ab d)=fr (Rat.divInt n d):=by
 rw [show ab d=nat d.natAbs from rfl,←fr_div h0,h,Nat.div_one,Nat.div_one]
theorem Make_ev {n d:Int} (hn:(ab n).size≤1099511627776) (hd:(ab d).size≤1099511627776) (h0:d≠0):Ev (fun k=>FX23 k (ng n,ab n) (ng d,ab d)) (fr (Rat.divInt n d)):=by
 have h1:=NatGcd_ev (m:=n.natAbs) (n:=d.natAbs) hn hd
 have hg:=Nat.pos_of_ne_zero (gcd_ne (n:=n) h0)
 have sg_:(nat (Nat.gcd n.natAbs d.natAbs)).size≤1099511627776:=Nat.le_trans (size_mono (Nat.le_of_dvd (by omega) (Nat.gcd_dvd_right _ _))) hd
 have h2:=NatDivMod_ev (m:=n.natAbs) hn sg_ hg
 have h3:=NatDivMod_ev (m:=d.natAbs) hd sg_ hg
 have f1:=IMake_eq (ng n !=ng d) (n.natAbs/Nat.gcd n.natAbs d.natAbs)
 have f2:=IMake_eq (ng n !=ng d) n.natAbs
 have f3:=fr_div (n:=n) h0
 by_cases hc:Nat.gcd n.natAbs d.natAbs=1
 ·have f4:=fr_div1 h0 hc
  rw [←f4]
  rw [hc]at h1
  have h1':Ev (fun k=>exact_NatGcd.f k (ab n) (ab d)) (nat 1):=h1
  have f2':exact_IntMake.f (ng n !=ng d) (ab n)=_:=f2
  refine evE h1' ?_
  rintro k h1'
  try dsimp only [fr]at h1'
  show FX23 _ _ _=_
  unfold FX23 B23
  simp only [fr,FX52,FX53,FX54,Ya,Yb,Yc,Yd,Ye,Yf,Yg,Yh,Yi,Yj,Int.reduceEq,reduceCtorEq,Yk,Yl,Ym,Yn,Yo,Yp,Yq,Yr,Ys,Yt,Yu,Yv,Yw,Yx,Yy,Yz,YA,YB,h1',e_one,e_ng,f2']
 ·rw [←f3]
  have h1':Ev (fun k=>exact_NatGcd.f k (ab n) (ab d)) (nat (Nat.gcd n.natAbs d.natAbs)):=h1
  have h2':Ev (fun k=>exact_NatDivMod.f k (ab n) (nat (Nat.gcd n.natAbs d.natAbs))) _:=h2
  have h3':Ev (fun k=>exact_NatDivMod.f k (ab d) (nat (Nat.gcd n.natAbs d.natAbs))) _:=h3
  refine evE (evC h1' (evC h2' h3')) ?_
  rintro k ⟨h1',h2',h3'⟩
  try dsimp only [fr]at h1' h2' h3'
  show FX23 _ _ _=_
  unfold FX23 B23
  simp only [fr,FX52,FX53,FX54,Ya,Yb,Yc,Yd,Ye,Yf,Yg,Yh,Yi,Yj,Int.reduceEq,reduceCtorEq,Yk,Yl,Ym,Yn,Yo,Yp,Yq,Yr,Ys,Yt,Yu,Yv,Yw,Yx,Yy,Yz,YA,YB,h1',h2',h3',e_one,e_ng,f1,hc]
def Sm (n:Nat) (q:Rat):Prop:=(ab q.num).size≤n∧(nat q.den).size≤n
theorem sz_add {x y:Int} {n:Nat} (hx:(ab x).size≤n) (hy:(ab y).size≤n):(ab (x+y)).size≤n+1:=by
 unfold ab at*
 rw [nat_size_le]at*
 have:=Int.natAbs_add_le x y
 rw [Nat.pow_succ]
 omega
theorem sz_neg {x:Int}:(ab (-x)).size=(ab x).size:=by unfold ab;rw [Int.natAbs_neg]
theorem sz_nmul {x y:Nat} {m n:Nat} (hx:(nat x).size≤m) (hy:(nat y).size≤n):(nat (x*y)).size≤m+n:=by
 rw [nat_size_le]at*
 rw [Nat.pow_add]
 exact Nat.mul_lt_mul'' hx hy
theorem sz_mul {x y:Int} {m n:Nat} (hx:(ab x).size≤m) (hy:(ab y).size≤n):(ab (x*y)).size≤m+n:=by
 unfold ab at*
 rw [Int.natAbs_mul]
 exact sz_nmul hx hy
section
variable {a b:Rat}
theorem Sm.neg {n:Nat} (h:Sm n a):Sm n (-a):=⟨by rw [Rat.neg_num,sz_neg];exact h.1,h.2⟩
def big (q:Rat):Bool:=decide (1024<(ab q.num).size∨1024<(nat q.den).size)
theorem Large_ev (a:Rat):Ev (fun k=>FX51 k (fr a)) (big a):=by
 refine⟨0,fun k _=>?_⟩
 show FX51 _ _=_
 unfold FX51 B51 big fr
 by_cases h1:1024<(ab a.num).size
 ·simp only [gt_iff_lt,show(1024:Int)<((ab a.num).size:Int)from by omega,if_true,h1,true_or,decide_true]
 ·simp only [gt_iff_lt,show¬(1024:Int)<((ab a.num).size:Int)from by omega,if_false,h1,false_or]
  by_cases h2:1024<(nat a.den).size
  ·simp only [h2,show(1024:Int)<((nat a.den).size:Int)from by omega]
  ·simp only [h2,show¬(1024:Int)<((nat a.den).size:Int)from by omega]
def rbnd (q:Rat):TI×ByteArray×Int:=if big q=true then((false,⟨#[]⟩),⟨#[]⟩,4)else((ng q.num,ab q.num),nat q.den,0)
theorem rfit_ev (a:Rat):Ev (fun k=>FX22 k (fr a)) (rbnd a):=by
 have h1:=Large_ev a
 unfold rbnd
 by_cases h:big a=true
 ·rw [h]at h1
  rw [if_pos h]
  refine evE h1 ?_
  rintro k h1
  try dsimp only [fr]at h1
  show FX22 _ _=_
  unfold FX22 B22
  simp only [fr,Ya,Yb,Yc,Yd,Ye,Yf,Yg,Yh,Yi,Yj,Int.reduceEq,reduceCtorEq,Yk,Yl,Ym,Yn,Yo,Yp,Yq,Yr,Ys,Yt,Yu,Yv,Yw,Yx,Yy,Yz,YA,YB,h1]
 ·rw [Bool.not_eq_true]at h
  rw [h]at h1
  rw [if_neg (by rw [h];exact Bool.false_ne_true)]
  refine evE h1 ?_
  rintro k h1
  try dsimp only [fr]at h1
  show FX22 _ _=_
  unfold FX22 B22
  simp only [fr,Ya,Yb,Yc,Yd,Ye,Yf,Yg,Yh,Yi,Yj,Int.reduceEq,reduceCtorEq,Yk,Yl,Ym,Yn,Yo,Yp,Yq,Yr,Ys,Yt,Yu,Yv,Yw,Yx,Yy,Yz,YA,YB,h1]
end
abbrev FV:=TI×ByteArray
def rerr (e:Int):TI×ByteArray×Int:=((false,⟨#[]⟩),⟨#[]⟩,e)
theorem len1 (x:FV):(([x]:List FV).length:Int)=1:=rfl
theorem len2 (x y:FV):(([x,y]:List FV).length:Int)=2:=rfl
theorem Sm.mono {m n:Nat} {a:Rat} (h:Sm m a) (hmn:m≤n):Sm n a:=⟨Nat.le_trans h.1 hmn,Nat.le_trans h.2 hmn⟩
theorem Sm.mk_ {n:Int} {d s:Nat} (hn:(ab n).size≤s) (hd:(nat d).size≤s) (h0:d≠0):Sm s (mkRat n d):=by
 have hg:Nat.gcd d n.natAbs≠0:=fun e=>h0 (Nat.gcd_eq_zero_iff.1 e).1
 constructor
 ·rw [Rat.num_mkRat,if_neg h0]
  obtain⟨c,hc⟩:=Nat.gcd_dvd_right d n.natAbs
  have hi:∃z:Int,n=(Nat.gcd d n.natAbs:Int)*z:=by
   have:(Nat.gcd d n.natAbs:Int)∣n:=Int.dvd_natAbs.1 (Int.natCast_dvd_natCast.2 (Nat.gcd_dvd_right d n.natAbs))
   exact this
  obtain⟨z,hz⟩:=hi
  have e:n/(Nat.gcd d n.natAbs:Int)=z:=by
   conv=>lhs;lhs;rw [hz]
   exact Int.mul_ediv_cancel_left _ (by omega)
  rw [e]
  refine Nat.le_trans (size_mono ?_) hn
  have:n.natAbs=Nat.gcd d n.natAbs*z.natAbs:=by
   conv=>lhs;rw [hz]
   rw [Int.natAbs_mul,Int.natAbs_natCast]
  rw [this]
  exact Nat.le_mul_of_pos_left _ (Nat.pos_of_ne_zero hg)
 ·rw [Rat.den_mkRat,if_neg h0]
  exact Nat.le_trans (size_div_ _ _) hd
section
variable {a b:Rat} {m n:Nat}
theorem Sm.add (ha:Sm m a) (hb:Sm n b):Sm (m+n+1) (a+b):=by
 rw [Rat.add_def']
 refine Sm.mk_ (sz_add (sz_mul ha.1 (n:=n) (by rw [ab_nat];exact hb.2)) (Nat.le_trans (sz_mul hb.1 (n:=m) (by rw [ab_nat];exact ha.2)) (by omega))) (Nat.le_trans (sz_nmul ha.2 hb.2) (by omega)) (Nat.mul_ne_zero a.den_nz b.den_nz)
theorem Sm.sub (ha:Sm m a) (hb:Sm n b):Sm (m+n+1) (a-b):=by rw [Rat.sub_eq_add_neg];exact ha.add hb.neg
theorem Sm.mul (ha:Sm m a) (hb:Sm n b):Sm (m+n) (a*b):=by
 rw [Rat.mul_def']
 exact Sm.mk_ (sz_mul ha.1 hb.1) (sz_nmul ha.2 hb.2) (Nat.mul_ne_zero a.den_nz b.den_nz)
def okv (q:Rat):TI×ByteArray×Int:=((ng q.num,ab q.num),nat q.den,0)
end
theorem rWhole_ev {x:Int} (hx:(ab x).size≤1024):Ev (fun k=>FX7 k (ng x,ab x)) (okv (x:Rat)):=by
 have h1:=iCheck_ev (ng x) (ab x)
 rw [ick_int hx]at h1
 have e:okv (x:Rat)=((ng x,ab x),⟨#[1]⟩,0):=by rw [←nat1];rfl
 rw [e]
 refine evE h1 ?_
 rintro k h1
 try dsimp only [fr]at h1
 show FX7 _ _=_
 unfold FX7 B7
 simp only [fr,FX21,FX24,B24,Ya,Yb,Yc,Yd,Ye,Yf,Yg,Yh,Yi,Yj,Int.reduceEq,reduceCtorEq,Yk,Yl,Ym,Yn,Yo,Yp,Yq,Yr,Ys,Yt,Yu,Yv,Yw,Yx,Yy,Yz,YA,YB,h1]
theorem refMake_ev {n d:Int} (hn:(ab n).size≤1099511627776) (hd:(ab d).size≤1099511627776) (h0:d≠0):Ev (fun k=>FX12 k (ng n,ab n) (ng d,ab d)) (fr (Rat.divInt n d)):=by
 have h1:=Go.Proofs.YtjllholdppjllaaN.rGcd_ev (m:=n.natAbs) (n:=d.natAbs) hn hd
 have hg:=Nat.pos_of_ne_zero (gcd_ne (n:=n) h0)
 have sg_:(nat (Nat.gcd n.natAbs d.natAbs)).size≤1099511627776:=Nat.le_trans (size_mono (Nat.le_of_dvd (by omega) (Nat.gcd_dvd_right _ _))) hd
 have h2:=Go.Proofs.YtjllholdppjllaaN.rDivMod_ev (m:=n.natAbs) hn sg_
 have h3:=Go.Proofs.YtjllholdppjllaaN.rDivMod_ev (m:=d.natAbs) hd sg_
 rw [if_neg (Nat.ne_of_gt hg)]at h2 h3
 have f1:=RMake_eq (ng n !=ng d) (n.natAbs/Nat.gcd n.natAbs d.natAbs)
 have f3:=fr_div (n:=n) h0
 rw [←f3]
 have h1':Ev (fun k=>galoisref01_Gcd.f k (ab n) (ab d)) _:=h1
 have h2':Ev (fun k=>galoisref01_DivMod.f k (ab n) (nat (Nat.gcd n.natAbs d.natAbs))) _:=h2
 have h3':Ev (fun k=>galoisref01_DivMod.f k (ab d) (nat (Nat.gcd n.natAbs d.natAbs))) _:=h3
 refine evE (evC h1' (evC h2' h3')) ?_
 rintro k ⟨h1',h2',h3'⟩
 try dsimp only [fr]at h1' h2' h3'
 show FX12 _ _ _=_
 unfold FX12 B12
 simp only [fr,FX29,FX30,FX31,Ya,Yb,Yc,Yd,Ye,Yf,Yg,Yh,Yi,Yj,Int.reduceEq,reduceCtorEq,Yk,Yl,Ym,Yn,Yo,Yp,Yq,Yr,Ys,Yt,Yu,Yv,Yw,Yx,Yy,Yz,YA,YB,h1',h2',h3',e_ab,e_ng,f1,h0]
section
variable {a b:Rat}
def bigE (q:Rat):Int:=if big q=true then 4 else 0
theorem refFits_ev (q:Rat):Ev (fun k=>FX25 k (fr q)) (bigE q):=by
 have f1:=rFits_eq (ng q.num) (ab q.num)
 have f2:=rFits1_eq (nat q.den)
 unfold bigE big
 by_cases h1:1024<(ab q.num).size
 ·have h1':((ab q.num).size:Int)>1024:=by omega
  rw [if_pos h1']at f1
  rw [if_pos (decide_eq_true (Or.inl h1))]
  refine⟨0,fun k _=>?_⟩
  show FX25 _ _=_
  unfold FX25 B25
  simp only [fr,FX28,FX55,Ya,Yb,Yc,Yd,Ye,Yf,Yg,Yh,Yi,Yj,Int.reduceEq,reduceCtorEq,Yk,Yl,Ym,Yn,Yo,Yp,Yq,Yr,Ys,Yt,Yu,Yv,Yw,Yx,Yy,Yz,YA,YB,f1,f2]
 ·have h1':¬((ab q.num).size:Int)>1024:=by omega
  rw [if_neg h1']at f1
  by_cases h2:1024<(nat q.den).size
  ·have h2':((nat q.den).size:Int)>1024:=by omega
   rw [if_pos h2']at f2
   rw [if_pos (decide_eq_true (Or.inr h2))]
   refine⟨0,fun k _=>?_⟩
   show FX25 _ _=_
   unfold FX25 B25
   simp only [fr,FX28,FX55,Ya,Yb,Yc,Yd,Ye,Yf,Yg,Yh,Yi,Yj,Int.reduceEq,reduceCtorEq,Yk,Yl,Ym,Yn,Yo,Yp,Yq,Yr,Ys,Yt,Yu,Yv,Yw,Yx,Yy,Yz,YA,YB,f1,f2]
  ·have h2':¬((nat q.den).size:Int)>1024:=by omega
   rw [if_neg h2']at f2
   rw [if_neg (show¬decide _=true from fun h=>(of_decide_eq_true h).elim h1 h2)]
   refine⟨0,fun k _=>?_⟩
   show FX25 _ _=_
   unfold FX25 B25
   simp only [fr,FX28,FX55,Ya,Yb,Yc,Yd,Ye,Yf,Yg,Yh,Yi,Yj,Int.reduceEq,reduceCtorEq,Yk,Yl,Ym,Yn,Yo,Yp,Yq,Yr,Ys,Yt,Yu,Yv,Yw,Yx,Yy,Yz,YA,YB,f1,f2]
theorem right_err {e:Int} {w:FV} (h:e≠0):Ev (fun k=>FX8 k ((false,⟨#[]⟩),⟨#[]⟩) e e w) true:=by
 refine⟨0,fun k _=>?_⟩
 show FX8 _ _ _ _ _=_
 unfold FX8 B8
 simp only [fr,Ya,Yb,Yc,Yd,Ye,Yf,Yg,Yh,Yi,Yj,Int.reduceEq,reduceCtorEq,Yk,Yl,Ym,Yn,Yo,Yp,Yq,Yr,Ys,Yt,Yu,Yv,Yw,Yx,Yy,Yz,YA,YB,h]
theorem right_ok {q:Rat} (h:big q=false):Ev (fun k=>FX8 k ((ng q.num,ab q.num),nat q.den) 0 0 (fr q)) true:=by
 have h1:=refFits_ev q
 unfold bigE at h1
 rw [h,if_neg Bool.false_ne_true]at h1
 refine evE h1 ?_
 rintro k h1
 try dsimp only [fr]at h1
 show FX8 _ _ _ _ _=_
 unfold FX8 B8
 simp only [fr,Ya,Yb,Yc,Yd,Ye,Yf,Yg,Yh,Yi,Yj,Int.reduceEq,reduceCtorEq,Yk,Yl,Ym,Yn,Yo,Yp,Yq,Yr,Ys,Yt,Yu,Yv,Yw,Yx,Yy,Yz,YA,YB,h1]
theorem right_big {q:Rat} (h:big q=true):Ev (fun k=>FX8 k ((false,⟨#[]⟩),⟨#[]⟩) 4 0 (fr q)) true:=by
 have h1:=refFits_ev q
 unfold bigE at h1
 rw [h,if_pos rfl]at h1
 refine evE h1 ?_
 rintro k h1
 try dsimp only [fr]at h1
 show FX8 _ _ _ _ _=_
 unfold FX8 B8
 simp only [fr,Ya,Yb,Yc,Yd,Ye,Yf,Yg,Yh,Yi,Yj,Int.reduceEq,reduceCtorEq,Yk,Yl,Ym,Yn,Yo,Yp,Yq,Yr,Ys,Yt,Yu,Yv,Yw,Yx,Yy,Yz,YA,YB,h1]
theorem right_bnd (q:Rat):Ev (fun k=>FX8 k ((rbnd q).1,(rbnd q).2.1) (rbnd q).2.2 0 (fr q)) true:=by
 unfold rbnd
 by_cases h:big q=true
 ·rw [if_pos h];exact right_big h
 ·rw [if_neg h];exact right_ok (Bool.eq_false_iff.2 h)
end
theorem big_sm {q:Rat} (h:Sm 1024 q):big q=false:=decide_eq_false (by have:=h.1;have:=h.2;omega)
abbrev IV:=Bool×ByteArray
theorem size8 {x:Int} (h1: -9223372036854775808≤x) (h2:x<9223372036854775808):(ab x).size≤8:=by
 unfold ab
 rw [nat_size_le]
 omega
theorem Sm.quo {n d:Int} {s:Nat} (hn:(ab n).size≤s) (hd:(ab d).size≤s) (h0:d≠0):Sm s (Rat.divInt n d):=by
 have e:=fr_div (n:=n) h0
 unfold fr at e
 rw [Prod.mk.injEq,Prod.mk.injEq,ab_sg]at e
 exact⟨by rw [←e.1.2];exact Nat.le_trans (size_div_ _ _) hn,by rw [←e.2];exact Nat.le_trans (size_div_ _ _) hd⟩
theorem IOf_ev {x:Int} (h1: -9223372036854775808≤x) (h2:x<9223372036854775808):Ev (fun k=>exact_IntOf.f k x) (ng x,ab x):=by
 by_cases h:x<0
 ·rw [ng_neg h]
  have e:IntKind.u64.wrap (-(IntKind.u64.wrap x))=((x.natAbs:Nat):Int):=by
   rw [IntKind.wrap_u64,IntKind.wrap_u64]
   omega
  have:=NatOf_ev (u:=x.natAbs) (by omega)
  rw [←e]at this
  exact Ev.congr (fun k=>if_pos h) (Ev.bind this (Ev.now _))
 ·rw [ng_pos (by omega)]
  have e:IntKind.u64.wrap x=((x.natAbs:Nat):Int):=by
   rw [IntKind.wrap_u64]
   omega
  have:=NatOf_ev (u:=x.natAbs) (by omega)
  rw [←e]at this
  exact Ev.congr (fun k=>if_neg h) (Ev.bind this (Ev.now _))
section
variable {p q:Int} (p1: -9223372036854775808≤p) (p2:p<9223372036854775808) (q1: -9223372036854775808≤q) (q2:q<9223372036854775808)
include p1 p2 q1 q2
theorem exOf_ev (h0:q≠0):Ev (fun k=>FX20 k p q) (fr (Rat.divInt p q)):=by
 have h1:=IOf_ev p1 p2
 have h2:=IOf_ev q1 q2
 have h3:=Make_ev (Nat.le_trans (size8 p1 p2) (by decide)) (Nat.le_trans (size8 q1 q2) (by decide)) h0
 refine evE (evC h1 (evC h2 h3)) ?_
 rintro k ⟨h1,h2,h3⟩
 try dsimp only [fr]at h1 h2 h3
 show FX20 _ _ _=_
 unfold FX20 B20
 simp only [fr,FX48,Ya,Yb,Yc,Yd,Ye,Yf,Yg,Yh,Yi,Yj,Int.reduceEq,reduceCtorEq,Yk,Yl,Ym,Yn,Yo,Yp,Yq,Yr,Ys,Yt,Yu,Yv,Yw,Yx,Yy,Yz,YA,YB,h1,h2,h3]
theorem rOf_ok (h0:q≠0):Ev (fun k=>FX5 k p q) (okv (Rat.divInt p q)):=by
 have h1:=exOf_ev p1 p2 q1 q2 h0
 unfold okv
 refine evE h1 ?_
 rintro k h1
 try dsimp only [fr]at h1
 show FX5 _ _ _=_
 unfold FX5 B5
 simp only [fr,Ya,Yb,Yc,Yd,Ye,Yf,Yg,Yh,Yi,Yj,Int.reduceEq,reduceCtorEq,Yk,Yl,Ym,Yn,Yo,Yp,Yq,Yr,Ys,Yt,Yu,Yv,Yw,Yx,Yy,Yz,YA,YB,h1,h0]
theorem refOf_ok (h0:q≠0):Ev (fun k=>FX26 k p q) (fr (Rat.divInt p q)):=by
 have h1:=FromInt_ev p1 p2
 have h2:=FromInt_ev q1 q2
 have h3:=refMake_ev (Nat.le_trans (size8 p1 p2) (by decide)) (Nat.le_trans (size8 q1 q2) (by decide)) h0
 refine evE (evC h1 (evC h2 h3)) ?_
 rintro k ⟨h1,h2,h3⟩
 try dsimp only [fr]at h1 h2 h3
 show FX26 _ _ _=_
 unfold FX26 B26
 simp only [fr,FX19,Ya,Yb,Yc,Yd,Ye,Yf,Yg,Yh,Yi,Yj,Int.reduceEq,reduceCtorEq,Yk,Yl,Ym,Yn,Yo,Yp,Yq,Yr,Ys,Yt,Yu,Yv,Yw,Yx,Yy,Yz,YA,YB,h1,h2,h3]
theorem lawOf_ok (h0:q≠0):Ev (fun k=>FX9 k p q) (fr (Rat.divInt p q)):=by
 have h1:=refOf_ok p1 p2 q1 q2 h0
 refine evE h1 ?_
 rintro k h1
 try dsimp only [fr]at h1
 show FX9 _ _ _=_
 unfold FX9 B9
 simp only [fr,Ya,Yb,Yc,Yd,Ye,Yf,Yg,Yh,Yi,Yj,Int.reduceEq,reduceCtorEq,Yk,Yl,Ym,Yn,Yo,Yp,Yq,Yr,Ys,Yt,Yu,Yv,Yw,Yx,Yy,Yz,YA,YB,h1]
theorem right_of (h0:q≠0):Ev (fun k=>FX8 k ((ng (Rat.divInt p q).num,ab (Rat.divInt p q).num),nat (Rat.divInt p q).den) 0 0 (fr (Rat.divInt p q))) true:=
 right_ok (big_sm (Sm.quo (Nat.le_trans (size8 p1 p2) (by decide)) (Nat.le_trans (size8 q1 q2) (by decide)) h0))
end
theorem rOf_zero {p:Int}:Ev (fun k=>FX5 k p 0) (rerr 6):=by
 refine⟨0,fun k _=>?_⟩
 show FX5 _ _ _=_
 unfold FX5 B5
 simp only [fr,Ya,Yb,Yc,Yd,Ye,Yf,Yg,Yh,Yi,Yj,Int.reduceEq,reduceCtorEq,Yk,Yl,Ym,Yn,Yo,Yp,Yq,Yr,Ys,Yt,Yu,Yv,Yw,Yx,Yy,Yz,YA,YB,rerr]
theorem refMake_zero {n:Int}:Ev (fun k=>FX12 k (ng n,ab n) (ng 0,ab 0)) ((false,⟨#[]⟩),⟨#[1]⟩):=by
 have f0:((0:Int)=0)=True:=eq_true rfl
 refine⟨0,fun k _=>?_⟩
 show FX12 _ _ _=_
 unfold FX12 B12
 simp only [fr,FX29,FX30,FX31,Ya,Yb,Yc,Yd,Ye,Yf,Yg,Yh,Yi,Yj,Int.reduceEq,reduceCtorEq,Yk,Yl,Ym,Yn,Yo,Yp,Yq,Yr,Ys,Yt,Yu,Yv,Yw,Yx,Yy,Yz,YA,YB,e_ab,f0]
theorem lawOf_zero {p:Int} (p1: -9223372036854775808≤p) (p2:p<9223372036854775808):Ev (fun k=>FX9 k p 0) ((false,⟨#[]⟩),⟨#[1]⟩):=by
 have h1:=FromInt_ev p1 p2
 have h2:=FromInt_ev (x:=0) (by decide) (by decide)
 have h3:=refMake_zero (n:=p)
 have h4:Ev (fun k=>FX26 k p 0) ((false,⟨#[]⟩),⟨#[1]⟩):=by
  refine evE (evC h1 (evC h2 h3)) ?_
  rintro k ⟨h1,h2,h3⟩
  try dsimp only [fr]at h1 h2 h3
  show FX26 _ _ _=_
  unfold FX26 B26
  simp only [fr,FX19,Ya,Yb,Yc,Yd,Ye,Yf,Yg,Yh,Yi,Yj,Int.reduceEq,reduceCtorEq,Yk,Yl,Ym,Yn,Yo,Yp,Yq,Yr,Ys,Yt,Yu,Yv,Yw,Yx,Yy,Yz,YA,YB,h1,h2,h3]
 refine evE h4 ?_
 rintro k h4
 try dsimp only [fr]at h4
 show FX9 _ _ _=_
 unfold FX9 B9
 simp only [fr,Ya,Yb,Yc,Yd,Ye,Yf,Yg,Yh,Yi,Yj,Int.reduceEq,reduceCtorEq,Yk,Yl,Ym,Yn,Yo,Yp,Yq,Yr,Ys,Yt,Yu,Yv,Yw,Yx,Yy,Yz,YA,YB,h4]
theorem rdI_0 (z x:IV) (l:List IV):rdOf z (x::l) 0=x:=rfl
theorem rdI_1 (z x y:IV) (l:List IV):rdOf z (x::y::l) 1=y:=rfl
theorem lenI2 (x y:IV):(([x,y]:List IV).length:Int)=2:=rfl
theorem rMake_go {x y:IV} {r:R6} (h:∃K,∀k,K≤k→(GX6l0 (k+1) 2 0 x y ((false,⟨#[]⟩),⟨#[]⟩) [x,y])=some r):Ev (fun k=>FX6 k x y) r:=by
 obtain⟨K,h⟩:=h
 refine⟨K+1,fun k hk=>?_⟩
 obtain⟨m,rfl⟩:∃m,k=m+1:=⟨k-1,by omega⟩
 exact h m (by omega)
theorem ck_ev (s:Bool) (a:ByteArray):Ev (fun k=>FX21 k (s,a)) (ick s a):=iCheck_ev s a
theorem rMake_err1 {x y:IV} (h:ick x.1 x.2≠0):Ev (fun k=>FX6 k x y) (rerr (ick x.1 x.2)):=by
 obtain⟨K,h1⟩:=ck_ev x.1 x.2
 refine rMake_go ⟨K,fun k hk=>?_⟩
 have g1:=h1 k hk
 dsimp only at g1
 rw [GX6l0];unfold B6l0
 simp only [rdI_0,lenI2,Int.reduceLT,Int.reduceLE,Int.le_refl,bind_some_,if_true,ne_eq,g1,h,not_false_eq_true,rerr]
theorem rMake_next {x y:IV} {r:R6} (h:ick x.1 x.2=0) (hn:Ev (fun k=>GX6l0 k 2 1 x y ((false,⟨#[]⟩),⟨#[]⟩) [x,y]) r):Ev (fun k=>FX6 k x y) r:=by
 obtain⟨K,h1⟩:=ck_ev x.1 x.2
 obtain⟨L,hn⟩:=hn
 refine rMake_go ⟨K+L,fun k hk=>?_⟩
 have g1:=h1 k (by omega)
 have g2:=hn k (by omega)
 dsimp only at g1 g2
 rw [h]at g1
 rw [GX6l0];unfold B6l0
 simp only [rdI_0,lenI2,wrap01,Int.reduceLT,Int.reduceLE,Int.le_refl,bind_some_,if_true,ne_eq,g1,not_true_eq_false,if_false]
 exact g2
theorem rMake_err2 {x y:IV} (h:ick x.1 x.2=0) (h2:ick y.1 y.2≠0):Ev (fun k=>FX6 k x y) (rerr (ick y.1 y.2)):=by
 refine rMake_next h ?_
 obtain⟨K,h1⟩:=ck_ev y.1 y.2
 refine⟨K+1,fun k hk=>?_⟩
 obtain⟨m,rfl⟩:∃m,k=m+1:=⟨k-1,by omega⟩
 have g1:=h1 m (by omega)
 dsimp only at g1
 show GX6l0 (m+1) _ _ _ _ _ _=_
 rw [GX6l0];unfold B6l0
 simp only [rdI_1,lenI2,Int.reduceLT,Int.reduceLE,Int.le_refl,bind_some_,if_true,ne_eq,g1,h2,not_false_eq_true,rerr]
theorem rMake_last {x y:IV} {r:R6} (h:ick x.1 x.2=0) (h2:ick y.1 y.2=0) (hn:∃K,∀k,K≤k→(cnd ((y.1==false)&&(y.2.toList==(⟨#[]⟩:ByteArray).toList)) (some ((false,(⟨#[]⟩:ByteArray)),(⟨#[]⟩:ByteArray),(6:Int))) ((FX23 k x y).bind fun r2=>((FX22 k (r2.1,r2.2)).bind fun r3=>(some (r3.1,r3.2.1,r3.2.2)))))=some r):Ev (fun k=>FX6 k x y) r:=by
 refine rMake_next h ?_
 obtain⟨K,h1⟩:=ck_ev y.1 y.2
 obtain⟨L,hn⟩:=hn
 refine⟨K+L+2,fun k hk=>?_⟩
 obtain⟨m,rfl⟩:∃m,k=m+2:=⟨k-2,by omega⟩
 have g1:=h1 (m+1) (by omega)
 dsimp only at g1
 rw [h2]at g1
 show GX6l0 (m+1+1) _ _ _ _ _ _=_
 rw [GX6l0];unfold B6l0
 simp only [rdI_1,lenI2,wrap11,Int.reduceLT,Int.reduceLE,Int.le_refl,bind_some_,if_true,ne_eq,g1,not_true_eq_false,if_false]
 show GX6l0 (m+1) _ _ _ _ _ _=_
 rw [GX6l0];unfold B6l0
 rw [if_neg (by decide)]
 exact hn m (by omega)
section
variable {u v:Int} (su:(ab u).size≤1024) (sv:(ab v).size≤1024)
include su sv
theorem rMake_zero (h0:v=0):Ev (fun k=>FX6 k (ng u,ab u) (ng v,ab v)) (rerr 6):=by
 refine rMake_last (ick_int su) (ick_int sv) ⟨0,fun k _=>?_⟩
 subst h0
 have e1:(ng 0==false&&((ab 0).toList==(⟨#[]⟩:ByteArray).toList))=true:=by decide +kernel
 rw [e1];rfl
theorem rMake_ok (h0:v≠0):Ev (fun k=>FX6 k (ng u,ab u) (ng v,ab v)) (rbnd (Rat.divInt u v)):=by
 obtain⟨K,h1⟩:=Make_ev (Nat.le_trans su (by decide)) (Nat.le_trans sv (by decide)) h0
 obtain⟨L,h2⟩:=rfit_ev (Rat.divInt u v)
 refine rMake_last (ick_int su) (ick_int sv) ⟨K+L,fun k hk=>?_⟩
 have g1:=h1 k (by omega)
 have g2:=h2 k (by omega)
 dsimp only at g1 g2
 have e1:(ng v==false&&((ab v).toList==(⟨#[]⟩:ByteArray).toList))=false:=by rw [e_ab,decide_eq_false h0,Bool.and_false]
 rw [e1,g1]
 show((FX22 k (fr (Rat.divInt u v))).bind _)=_
 rw [g2];rfl
end
theorem rWhole_err {x:IV} (h:ick x.1 x.2≠0):Ev (fun k=>FX7 k x) (rerr (ick x.1 x.2)):=by
 have h1:=ck_ev x.1 x.2
 refine evE h1 ?_
 rintro k h1
 try dsimp only [fr]at h1
 show FX7 _ _=_
 unfold FX7 B7
 simp only [fr,FX21,FX24,B24,Ya,Yb,Yc,Yd,Ye,Yf,Yg,Yh,Yi,Yj,Int.reduceEq,reduceCtorEq,Yk,Yl,Ym,Yn,Yo,Yp,Yq,Yr,Ys,Yt,Yu,Yv,Yw,Yx,Yy,Yz,YA,YB,h1,h,rerr]
theorem refCk_eq (x:IV):galoisref02_Check.f x.1 x.2=some (ick x.1 x.2):=rCheck_eq x.1 x.2
theorem of_cases {p q:Int} (p1: -9223372036854775808≤p) (p2:p<9223372036854775808) (q1: -9223372036854775808≤q) (q2:q<9223372036854775808):
  ∃(x:FV) (e e0:Int) (w:FV),((q=0∧e0=6)∨(q≠0∧e0=0))∧Ev (fun k=>FX5 k p q) (x.1,x.2,e)∧Ev (fun k=>FX9 k p q) (w.1,w.2)∧Ev (fun k=>FX8 k x e e0 w) true:=by
 by_cases h:q=0
 ·subst h
  exact⟨((false,⟨#[]⟩),⟨#[]⟩),6,6,((false,⟨#[]⟩),⟨#[1]⟩),Or.inl ⟨rfl,rfl⟩,rOf_zero,lawOf_zero p1 p2,right_err (by decide)⟩
 ·exact⟨fr (Rat.divInt p q),0,0,fr (Rat.divInt p q),Or.inr ⟨h,rfl⟩,rOf_ok p1 p2 q1 q2 h,lawOf_ok p1 p2 q1 q2 h,right_of p1 p2 q1 q2 h⟩
theorem whole_cases (x:IV):∃(y:FV) (e:Int),Ev (fun k=>FX7 k x) (y.1,y.2,e)∧Ev (fun k=>FX8 k y e (ick x.1 x.2) (x,⟨#[1]⟩)) true:=by
 by_cases h:ick x.1 x.2=0
 ·obtain⟨u,e1,e2,su⟩:=ick_zero h
  have hx:x=(ng u,ab u):=Prod.ext e1 e2
  subst hx
  have h2:=right_ok (q:=(u:Rat)) (big_sm ⟨su,show(nat 1).size≤1024 by decide +kernel⟩)
  have h1:=rWhole_ev su
  refine⟨fr (u:Rat),0,h1,?_⟩
  rw [h,←nat1]
  exact h2
 ·exact⟨((false,⟨#[]⟩),⟨#[]⟩),_,rWhole_err h,right_err h⟩
theorem make_cases (x y:IV):(∃e:Int,e≠0∧Ev (fun k=>FX6 k x y) (rerr e)∧((ick x.1 x.2=e)∨(ick x.1 x.2=0∧ick y.1 y.2=e)∨(ick x.1 x.2=0∧ick y.1 y.2=0∧e=6∧(y.2.toList==(⟨#[]⟩:ByteArray).toList)=true)))∨
  (∃q:Rat,ick x.1 x.2=0∧ick y.1 y.2=0∧(y.2.toList==(⟨#[]⟩:ByteArray).toList)=false∧Ev (fun k=>FX6 k x y) (rbnd q)∧Ev (fun k=>FX12 k x y) (fr q)):=by
 by_cases hx:ick x.1 x.2=0
 ·by_cases hy:ick y.1 y.2=0
  ·obtain⟨u,e1,e2,su⟩:=ick_zero hx
   obtain⟨v,e3,e4,sv⟩:=ick_zero hy
   have ex:x=(ng u,ab u):=Prod.ext e1 e2
   have ey:y=(ng v,ab v):=Prod.ext e3 e4
   subst ex;subst ey
   by_cases h0:v=0
   ·exact Or.inl ⟨6,by decide,rMake_zero su sv h0,Or.inr (Or.inr ⟨hx,hy,rfl,by rw [e_ab,h0];rfl⟩)⟩
   ·exact Or.inr ⟨_,hx,hy,by rw [e_ab,decide_eq_false h0],rMake_ok su sv h0,refMake_ev (Nat.le_trans su (by decide)) (Nat.le_trans sv (by decide)) h0⟩
  ·exact Or.inl ⟨_,hy,rMake_err2 hx hy,Or.inr (Or.inl ⟨hx,rfl⟩)⟩
 ·exact Or.inl ⟨_,hx,rMake_err1 hx,Or.inl rfl⟩
theorem makes_ev {p q:Int} (p1: -9223372036854775808≤p) (p2:p<9223372036854775808) (q1: -9223372036854775808≤q) (q2:q<9223372036854775808) (x y:IV):Ev (fun k=>FX3 k (p,q) x y) true:=by
 have aw:=awake_ev
 by_cases c1:300<(x.2.size:Int)
 ·refine evE aw ?_
  rintro k aw
  try dsimp only [fr]at aw
  show FX3 _ _ _ _=_
  unfold FX3 B3
  simp only [fr,FX10,FX11,B11,Ya,Yb,Yc,Yd,Ye,Yf,Yg,Yh,Yi,Yj,Int.reduceEq,reduceCtorEq,Yk,Yl,Ym,Yn,Yo,Yp,Yq,Yr,Ys,Yt,Yu,Yv,Yw,Yx,Yy,Yz,YA,YB,aw,c1]
 ·by_cases c2:300<(y.2.size:Int)
  ·refine evE aw ?_
   rintro k aw
   try dsimp only [fr]at aw
   show FX3 _ _ _ _=_
   unfold FX3 B3
   simp only [fr,FX10,FX11,B11,Ya,Yb,Yc,Yd,Ye,Yf,Yg,Yh,Yi,Yj,Int.reduceEq,reduceCtorEq,Yk,Yl,Ym,Yn,Yo,Yp,Yq,Yr,Ys,Yt,Yu,Yv,Yw,Yx,Yy,Yz,YA,YB,aw,c1,c2]
  ·obtain⟨a,ea,e0,w,hq,h1,h2,g1⟩:=of_cases p1 p2 q1 q2
   obtain⟨c,ec,h3,g2⟩:=whole_cases x
   have f1:=refCk_eq x
   have f2:=refCk_eq y
   rcases make_cases x y with⟨e,he,h4,⟨hx⟩| ⟨hx,hy⟩| ⟨hx,hy,h6,hz⟩⟩| ⟨r,hx,hy,hz,h4,h5⟩
   ·have g3:=right_err (w:=a) he
    rw [hx]at f1 g2
    rcases hq with⟨rfl,rfl⟩| ⟨hq,rfl⟩
    ·refine evE (evC aw (evC h1 (evC h2 (evC h3 (evC h4 (evC g1 (evC g2 g3))))))) ?_
     rintro k ⟨aw,h1,h2,h3,h4,g1,g2,g3⟩
     try dsimp only [fr]at aw h1 h2 h3 h4 g1 g2 g3
     show FX3 _ _ _ _=_
     unfold FX3 B3
     simp only [fr,FX10,FX11,B11,Ya,Yb,Yc,Yd,Ye,Yf,Yg,Yh,Yi,Yj,Int.reduceEq,reduceCtorEq,Yk,Yl,Ym,Yn,Yo,Yp,Yq,Yr,Ys,Yt,Yu,Yv,Yw,Yx,Yy,Yz,YA,YB,aw,h1,h2,h3,h4,g1,g2,g3,c1,c2,f1,f2,he,rerr]
    ·refine evE (evC aw (evC h1 (evC h2 (evC h3 (evC h4 (evC g1 (evC g2 g3))))))) ?_
     rintro k ⟨aw,h1,h2,h3,h4,g1,g2,g3⟩
     try dsimp only [fr]at aw h1 h2 h3 h4 g1 g2 g3
     show FX3 _ _ _ _=_
     unfold FX3 B3
     simp only [fr,FX10,FX11,B11,Ya,Yb,Yc,Yd,Ye,Yf,Yg,Yh,Yi,Yj,Int.reduceEq,reduceCtorEq,Yk,Yl,Ym,Yn,Yo,Yp,Yq,Yr,Ys,Yt,Yu,Yv,Yw,Yx,Yy,Yz,YA,YB,aw,h1,h2,h3,h4,g1,g2,g3,c1,c2,f1,f2,hq,he,rerr]
   ·have g3:=right_err (w:=a) he
    rw [hx]at f1 g2
    rw [hy]at f2
    rcases hq with⟨rfl,rfl⟩| ⟨hq,rfl⟩
    ·refine evE (evC aw (evC h1 (evC h2 (evC h3 (evC h4 (evC g1 (evC g2 g3))))))) ?_
     rintro k ⟨aw,h1,h2,h3,h4,g1,g2,g3⟩
     try dsimp only [fr]at aw h1 h2 h3 h4 g1 g2 g3
     show FX3 _ _ _ _=_
     unfold FX3 B3
     simp only [fr,FX10,FX11,B11,Ya,Yb,Yc,Yd,Ye,Yf,Yg,Yh,Yi,Yj,Int.reduceEq,reduceCtorEq,Yk,Yl,Ym,Yn,Yo,Yp,Yq,Yr,Ys,Yt,Yu,Yv,Yw,Yx,Yy,Yz,YA,YB,aw,h1,h2,h3,h4,g1,g2,g3,c1,c2,f1,f2,he,rerr]
    ·refine evE (evC aw (evC h1 (evC h2 (evC h3 (evC h4 (evC g1 (evC g2 g3))))))) ?_
     rintro k ⟨aw,h1,h2,h3,h4,g1,g2,g3⟩
     try dsimp only [fr]at aw h1 h2 h3 h4 g1 g2 g3
     show FX3 _ _ _ _=_
     unfold FX3 B3
     simp only [fr,FX10,FX11,B11,Ya,Yb,Yc,Yd,Ye,Yf,Yg,Yh,Yi,Yj,Int.reduceEq,reduceCtorEq,Yk,Yl,Ym,Yn,Yo,Yp,Yq,Yr,Ys,Yt,Yu,Yv,Yw,Yx,Yy,Yz,YA,YB,aw,h1,h2,h3,h4,g1,g2,g3,c1,c2,f1,f2,hq,he,rerr]
   ·have g3:=right_err (w:=a) he
    rw [hx]at f1 g2
    rw [hy]at f2
    rw [h6]at h4 g3
    rcases hq with⟨rfl,rfl⟩| ⟨hq,rfl⟩
    ·refine evE (evC aw (evC h1 (evC h2 (evC h3 (evC h4 (evC g1 (evC g2 g3))))))) ?_
     rintro k ⟨aw,h1,h2,h3,h4,g1,g2,g3⟩
     try dsimp only [fr]at aw h1 h2 h3 h4 g1 g2 g3
     show FX3 _ _ _ _=_
     unfold FX3 B3
     simp only [fr,FX10,FX11,B11,Ya,Yb,Yc,Yd,Ye,Yf,Yg,Yh,Yi,Yj,Int.reduceEq,reduceCtorEq,Yk,Yl,Ym,Yn,Yo,Yp,Yq,Yr,Ys,Yt,Yu,Yv,Yw,Yx,Yy,Yz,YA,YB,aw,h1,h2,h3,h4,g1,g2,g3,c1,c2,f1,f2,hz,rerr]
    ·refine evE (evC aw (evC h1 (evC h2 (evC h3 (evC h4 (evC g1 (evC g2 g3))))))) ?_
     rintro k ⟨aw,h1,h2,h3,h4,g1,g2,g3⟩
     try dsimp only [fr]at aw h1 h2 h3 h4 g1 g2 g3
     show FX3 _ _ _ _=_
     unfold FX3 B3
     simp only [fr,FX10,FX11,B11,Ya,Yb,Yc,Yd,Ye,Yf,Yg,Yh,Yi,Yj,Int.reduceEq,reduceCtorEq,Yk,Yl,Ym,Yn,Yo,Yp,Yq,Yr,Ys,Yt,Yu,Yv,Yw,Yx,Yy,Yz,YA,YB,aw,h1,h2,h3,h4,g1,g2,g3,c1,c2,f1,f2,hq,hz,rerr]
   ·have g3:=right_bnd r
    rw [hx]at f1 g2
    rw [hy]at f2
    rcases hq with⟨rfl,rfl⟩| ⟨hq,rfl⟩
    ·refine evE (evC aw (evC h1 (evC h2 (evC h3 (evC h4 (evC h5 (evC g1 (evC g2 g3)))))))) ?_
     rintro k ⟨aw,h1,h2,h3,h4,h5,g1,g2,g3⟩
     try dsimp only [fr]at aw h1 h2 h3 h4 h5 g1 g2 g3
     show FX3 _ _ _ _=_
     unfold FX3 B3
     simp only [fr,FX10,FX11,B11,Ya,Yb,Yc,Yd,Ye,Yf,Yg,Yh,Yi,Yj,Int.reduceEq,reduceCtorEq,Yk,Yl,Ym,Yn,Yo,Yp,Yq,Yr,Ys,Yt,Yu,Yv,Yw,Yx,Yy,Yz,YA,YB,aw,h1,h2,h3,h4,h5,g1,g2,g3,c1,c2,f1,f2,hz]
    ·refine evE (evC aw (evC h1 (evC h2 (evC h3 (evC h4 (evC h5 (evC g1 (evC g2 g3)))))))) ?_
     rintro k ⟨aw,h1,h2,h3,h4,h5,g1,g2,g3⟩
     try dsimp only [fr]at aw h1 h2 h3 h4 h5 g1 g2 g3
     show FX3 _ _ _ _=_
     unfold FX3 B3
     simp only [fr,FX10,FX11,B11,Ya,Yb,Yc,Yd,Ye,Yf,Yg,Yh,Yi,Yj,Int.reduceEq,reduceCtorEq,Yk,Yl,Ym,Yn,Yo,Yp,Yq,Yr,Ys,Yt,Yu,Yv,Yw,Yx,Yy,Yz,YA,YB,aw,h1,h2,h3,h4,h5,g1,g2,g3,c1,c2,f1,f2,hq,hz]
theorem wf64 {p:Int} (hp:(Lit.int .i64 p).wf=true): -9223372036854775808≤p∧p<9223372036854775808:=by
 simp only [Lit.wf,Bool.and_eq_true,decide_eq_true_eq]at hp
 have e1:IntKind.min .i64= -9223372036854775808:=by decide
 have e2:IntKind.max .i64=9223372036854775807:=by decide
 omega
theorem law3_ev (a0 a1:Int) (h0:(Lit.int .i64 a0).wf=true) (h1:(Lit.int .i64 a1).wf=true) (b0:Bool) (b1:ByteArray) (c0:Bool) (c1:ByteArray):Ev (fun k=>FX3 k (a0,a1) (b0,b1) (c0,c1)) true:=
 makes_ev (wf64 h0).1 (wf64 h0).2 (wf64 h1).1 (wf64 h1).2 _ _
end Go.Proofs.YtjllholdppjllaaV
namespace Go.Proofs.YtjllholdppjllaaJ
open Go Go.ChangeShapes Go.WideShapes Go.ChangeAt
variable {H:Type} {enc:TypeId×Value→H} {P:Program} {w:World} {base:Nat} {spare:Nat→Bool} {held:Bool}
structure PairTy (P:Program) (t e:TypeId):Prop where
 s:P.underlying t=some (.array 2 e)
 i:P.underlying e=some (.int .i64)
 c:P.cellsOf t=2
 c1:P.cellsOf e=1
theorem trod_array2 {t e:TypeId} {fuel:Nat} {c0 c1:Value} {x:DataW H×List MemPlace} (ht:P.underlying t=some (.array 2 e)) (hce:P.cellsOf e=1)
  (h:DataW.trod enc P w base spare held fuel t [c0,c1]=some x):
  ∃y0 y1 n,x=(.agg [y0.1,y1.1],y0.2++y1.2)∧DataW.trod enc P w base spare held n e [c0]=some y0∧DataW.trod enc P w base spare held n e [c1]=some y1:=by
 cases fuel with
 |zero=>simp [DataW.trod]at h
 |succ n=>
  unfold DataW.trod at h
  rw [ht]at h
  have r2:List.range 2=[0,1]:=rfl
  simp [r2,hce]at h
  obtain⟨_,h⟩:=h
  cases h0:DataW.trod enc P w base spare held n e [c0]with
  |none=>simp [h0]at h
  |some y0=>
   cases h1:DataW.trod enc P w base spare held n e [c1]with
   |none=>simp [h0,h1]at h
   |some y1=>
    simp [h0,h1]at h
    exact⟨y0,y1,n,h.symm,h0,h1⟩
theorem open_pair {t e:TypeId} {r:Reach} {b0:Nat} {v:Value} {d:DataW H} {p:List MemPlace} (R:PairTy P t e) (hv:Value.okWide P w r b0 t v) (h:DataW.Trod enc P w base spare held t v d p):
  ∃x0 x1:Int,v= .agg #[.int .i64 x0, .int .i64 x1]∧d= .agg [.lit (.int .i64 x0), .lit (.int .i64 x1)]∧p=[]∧(Lit.int .i64 x0).wf=true∧(Lit.int .i64 x1).wf=true:=by
 obtain⟨cs,rfl,hsz,_⟩:∃cs,v= .agg cs∧cs.size=P.cellsOf t∧Row.okWide P w r b0 t cs:=by
  simpa [Value.okWide,R.s]using hv
 obtain⟨c0,c1,rfl⟩:=Go.Joins.array2 (hsz.trans R.c)
 obtain⟨fuel,hf⟩:=h
 obtain⟨y0,y1,m,hx,hy0,hy1⟩:=trod_array2 R.s R.c1 hf
 obtain⟨x0,e0,rfl,w0⟩:=DataW.trod_int R.i hy0
 obtain⟨x1,e1,rfl,w1⟩:=DataW.trod_int R.i hy1
 simp at e0 e1
 subst e0 e1
 simp only [Prod.mk.injEq]at hx
 obtain⟨rfl,rfl⟩:=hx
 exact⟨x0,x1,rfl,rfl,rfl,w0,w1⟩
theorem shut_pair {t e:TypeId} {x0 x1:Int} (R:PairTy P t e) (w0:(Lit.int .i64 x0).wf=true) (w1:(Lit.int .i64 x1).wf=true):
  DataW.Trod enc P w base spare held t (.agg #[.int .i64 x0, .int .i64 x1]) (.agg [.lit (.int .i64 x0), .lit (.int .i64 x1)]) []:=
 ⟨2,by simp [DataW.trod,Value.cells,R.s,R.i,R.c,R.c1,w0,w1,show List.range 2=[0,1]from rfl]⟩
end Go.Proofs.YtjllholdppjllaaJ
namespace Go.Proofs.Ytjllholdppjllaa.Pure
open Go Go.RowKit Go.Proofs.Ytjllholdppjllaa.All Go.Proofs.YtjllholdppjllaaN Go.Proofs.YtjllholdppjllaaW.PrintWords Go.Proofs.YtjllholdppjllaaW.PrintLast
theorem RationalMakes (a0 a1:Int) (h0:(Lit.int .i64 a0).wf=true) (h1:(Lit.int .i64 a1).wf=true) (b0:Bool) (b1:ByteArray) (c0:Bool) (c1:ByteArray) (w:World):
    Calls Try.prog 3 #[.agg #[.int .i64 a0, .int .i64 a1], .agg #[.bool b0, .string b1], .agg #[.bool c0, .string c1]] w fun e w'=>e= .returned (.bool true)∧Below w.heap.size w w':=
  Go.Proofs.YtjllholdppjllaaV.calls3 a0 a1 b0 b1 c0 c1 (Go.Proofs.YtjllholdppjllaaV.law3_ev a0 a1 h0 h1 b0 b1 c0 c1).rounds w
end Go.Proofs.Ytjllholdppjllaa.Pure
