/- Part of the proof of the statement FieldpolyValues: lemmas on the model's steps, Lean functions that say what the program's functions compute, and proofs that the calls do just that. No hypothesis is added. -/
import Derived.Test.YtijohnkgomcdbaaGreatKFieldpolyValues2
set_option linter.all false
namespace Go.Proofs.YtijohnkgomcdbaaGreatE
open Go.RowKit
theorem D6a {P:Program} {ρ:Operand→Value} {o:Oper} {x:Next} {w w':World} (h:(execOp ρ o).run P w= .ok x w') (hx:∀d,x≠ .defer d):∀c,o.op≠ .defer c:=by
 intro c hc
 unfold execOp at h
 rw [hc]at h
 simp only [Sem.run_bind]at h
 cases hr:(resolve ρ c o.type).run P w with
 |ok d w2=>rw [hr]at h;simp only [Result.andThen_ok,Sem.run_pure,Result.ok.injEq]at h;exact hx _ h.1.symm
 |halt y w2=>rw [hr]at h;simp [Result.andThen]at h
section
variable (P:Program) (w0:World) (Bo:Nat→Nat→Prop)
def A5t (o:Oper) (ρ:Operand→V) (pb:Nat→A9) (v':V) (us:Bl):Prop:=
 ∀(F:Fence) (n:Nat),f7 F→∀(bl:Nat→A9) (φ:Nat→Addr) (w:World) (a:Act) (next:Act→World→Prop) (Q:Exit→Act→World→Prop),G5 pb bl→D3 w0 Bo bl φ w→
  (∀x,x∈o.op.operands→C3 w bl φ (ρ x) (a.eval x))→
  (∀v w' φ',E3 w0 Bo bl φ w (B4 us bl) φ' w'→C3 w' (B4 us bl) φ' v' v→next (a.put o.dst v) w')→o.wpIn F n P a w next Q
end
section
variable {P:Program} {w0:World} {Bo:Nat→Nat→Prop} {pb:Nat→A9} {R:Type} {K:KV R} {r:R} {E:D7} {ρ:Operand→V}
theorem c8 {o:Oper} {v':V} {us:Bl} (h:∀(bl:Nat→A9) (φ:Nat→Addr) (w:World) (a:Act),G5 pb bl→D3 w0 Bo bl φ w→(∀x,x∈o.op.operands→C3 w bl φ (ρ x) (a.eval x))→
  ∃v w' φ',(execOp a.eval o).run P w= .ok (.value v) w'∧E3 w0 Bo bl φ w (B4 us bl) φ' w'∧C3 w' (B4 us bl) φ' v' v):A5t P w0 Bo o ρ pb v' us:=by
 intro F n hF bl φ w a next Q ha hm hr hn
 obtain⟨v,w',φ',h1,h2,h3⟩:=h bl φ w a ha hm hr
 refine⟨fun f _=>hF.fn f,?_⟩
 rw [Oper.semAt_eq _ _ _ (D6a h1 (fun d e=>nomatch e)),h1,Oper.uponIn_value]
 exact hn v w' φ' h2 h3
theorem F2i {o:Oper} {us:Bl} (h:∀(bl:Nat→A9) (φ:Nat→Addr) (w:World) (a:Act),G5 pb bl→D3 w0 Bo bl φ w→(∀x,x∈o.op.operands→C3 w bl φ (ρ x) (a.eval x))→
  ∃w' φ',(execOp a.eval o).run P w= .ok .skip w'∧E3 w0 Bo bl φ w (B4 us bl) φ' w'):A5t P w0 Bo o ρ pb (.a .u) us:=by
 intro F n hF bl φ w a next Q ha hm hr hn
 obtain⟨w',φ',h1,h2⟩:=h bl φ w a ha hm hr
 refine⟨fun f _=>hF.fn f,?_⟩
 rw [Oper.semAt_eq _ _ _ (D6a h1 (fun d e=>nomatch e)),h1,Oper.uponIn_skip]
 exact hn undef w' φ' h2 trivial
theorem A8G {o:Oper} {x:Operand} {f:Value→Sem Value} {v':V} {us:Bl} (hd:J4 P w0 Bo pb [ρ x] (A2t f) v' us) (hx:x∈o.op.operands)
  (he:∀(a:Act),execOp a.eval o=(do pure (.value (←f (a.eval x))))):A5t P w0 Bo o ρ pb v' us:=
 c8 fun bl φ w a ha hm hr=>by
  obtain⟨v,w',φ',h1,h2,h3⟩:=hd bl φ w [a.eval x] ha hm (.cons (hr x hx) .nil)
  refine⟨v,w',φ',?_,h2,h3⟩
  have h1:(f (a.eval x)).run P w= .ok v w':=h1
  rw [he,Sem.run_bind,h1];rfl
theorem A7r {o:Oper} {x y:Operand} {f:Value→Value→Sem Value} {v':V} {us:Bl} (hd:J4 P w0 Bo pb [ρ x,ρ y] (o5 f) v' us) (hx:x∈o.op.operands) (hy:y∈o.op.operands)
  (he:∀(a:Act),execOp a.eval o=(do pure (.value (←f (a.eval x) (a.eval y))))):A5t P w0 Bo o ρ pb v' us:=
 c8 fun bl φ w a ha hm hr=>by
  obtain⟨v,w',φ',h1,h2,h3⟩:=hd bl φ w [a.eval x,a.eval y] ha hm (.cons (hr x hx) (.cons (hr y hy) .nil))
  refine⟨v,w',φ',?_,h2,h3⟩
  have h1:(f (a.eval x) (a.eval y)).run P w= .ok v w':=h1
  rw [he,Sem.run_bind,h1];rfl
theorem E6l {op:BinOp} {x:V} {y:Operand} {b:Bool} (h:D0R op x y=some b):y= .const (.slice none 0 0)∧∃(q:Bool) (t:Ty) (l:List t.T),x= .a (.nv q t l)∧((op= .eql∧b=q)∨(op= .neq∧b=!q)):=by
 unfold D0R at h
 split at h
 ·cases h;exact⟨rfl,_,_,_,rfl,Or.inl ⟨rfl,rfl⟩⟩
 ·cases h;exact⟨rfl,_,_,_,rfl,Or.inr ⟨rfl,rfl⟩⟩
 ·cases h
theorem E7V {t e:Nat} (hu:P.underlying t=some (.slice e)) (d:Nat) (ad:Option Addr) (len cap:Nat) (w:World):(Op.equalIn (d+1) t (.slice ad len cap) (.slice none 0 0)).run P w= .ok ad.isNone w:=by
 cases ad<;>simp [Op.equalIn,run_underlying hu]
theorem D6S {t e:Nat} (hu:P.underlying t=some (.slice e)) (ad:Option Addr) (len cap:Nat) (w:World):(Op.equal t (.slice ad len cap) (.slice none 0 0)).run P w= .ok ad.isNone w:=E7V hu 9999 ad len cap w
theorem D7D {x y y':V} {f:List Value→Sem Value} {v':V} {us:Bl} (hy:∀{w:World} {bl:Nat→A9} {φ:Nat→Addr} {v:Value},C3 w bl φ y v→C3 w bl φ y' v) (d:J4 P w0 Bo pb [x,y'] f v' us):J4 P w0 Bo pb [x,y] f v' us:=
 fun bl φ w vs ha hm hr=>by
  cases hr with
  |cons h1 h2=>
   cases h2 with
   |cons h2 h3=>exact d bl φ w _ ha hm (.cons h1 (.cons (hy h2) h3))
theorem E4D {x x':V} {f:List Value→Sem Value} {v':V} {us:Bl} (hx:∀{w:World} {bl:Nat→A9} {φ:Nat→Addr} {v:Value},C3 w bl φ x v→C3 w bl φ x' v) (d:J4 P w0 Bo pb [x'] f v' us):J4 P w0 Bo pb [x] f v' us:=
 fun bl φ w vs ha hm hr=>by
  cases hr with
  |cons h1 h2=>exact d bl φ w _ ha hm (.cons (hx h1) h2)
theorem D1o {x x' y:V} {f:List Value→Sem Value} {v':V} {us:Bl} (hx:∀{w:World} {bl:Nat→A9} {φ:Nat→Addr} {v:Value},C3 w bl φ x v→C3 w bl φ x' v) (d:J4 P w0 Bo pb [x',y] f v' us):J4 P w0 Bo pb [x,y] f v' us:=
 fun bl φ w vs ha hm hr=>by
  cases hr with
  |cons h1 h2=>exact d bl φ w _ ha hm (.cons (hx h1) h2)
theorem D8x {w:World} {bl:Nat→A9} {φ:Nat→Addr}:∀(vs:List V) (asx:List A) (us:List Value),C1H vs=some asx→M9 w bl φ vs us→N1 w bl φ asx us
 | [],asx,us,h,hr=>by cases h;cases hr;exact .nil
 | .a x::vs,asx,us,h,hr=>by
  unfold C1H at h
  split at h
  ·rename_i m hm
   cases h
   cases hr with
   |cons h1 h2=>exact .cons h1 (D8x vs m _ hm h2)
  ·cases h
 | .cl _ _::vs,asx,us,h,hr=>by cases h
 | .tup _::vs,asx,us,h,hr=>by cases h
theorem B6D {w:World} {bl:Nat→A9} {φ:Nat→Addr} {a:Act}:∀(xs:List Operand),(∀x,x∈xs→C3 w bl φ (ρ x) (a.eval x))→M9 w bl φ (xs.map ρ) (xs.map a.eval)
 | [],_=> .nil
 |x::xs,h=> .cons (h x List.mem_cons_self) (B6D xs fun y hy=>h y (List.mem_cons_of_mem _ hy))
theorem F2K {w:World} {bl:Nat→A9} {φ:Nat→Addr} {asx:List A} {vs:List Value} (h:N1 w bl φ asx vs):∀(i:Nat) x,asx[i]?=some x→∃v,vs[i]?=some v∧C2 w bl φ x v:=by
 induction h with
 |nil=>intro i x hx;simp at hx
 |cons h _ ih=>
  intro i x hx
  cases i with
  |zero=>simp at hx;subst hx;exact⟨_,rfl,h⟩
  |succ i=>simpa using ih i x (by simpa using hx)
theorem C6r {w:World} {bl:Nat→A9} {φ:Nat→Addr} {a:Act} (x:Option Operand) (h:∀y,x=some y→C3 w bl φ (ρ y) (a.eval y)):A0n w bl φ (x.map ρ) (x.map a.eval):=by
 cases x with
 |none=>trivial
 |some y=>exact h y rfl
theorem A1k {bl:Nat→A9} {φ:Nat→Addr} {w:World} (hm:D3 w0 Bo bl φ w):E3 w0 Bo bl φ w (B4 [] bl) φ w:= .refl hm
theorem E2c (hE:F0 P E) (hpb:∀n,pb n≠ .dead→n<10000) {orc:P5 R} {d:Nat} {o:Oper} (hc:∀c f,o.op= .call c→c.callee≠ .value f) (h:B1q E orc ρ d pb K o.op=some r):∃v' us,K v' us=some r∧A5t P w0 Bo o ρ pb v' us:=by
 obtain⟨dst,op,ty,pos,after,guard⟩:=o
 cases op<;>simp only [B1q]at h
 case move x=>
  exact⟨_,_,h,c8 fun bl φ w a ha hm hr=>⟨a.eval x,w,φ,rfl,A1k hm,hr x (by simp [Op.operands])⟩⟩
 case assign x=>
  exact⟨_,_,h,c8 fun bl φ w a ha hm hr=>⟨a.eval x,w,φ,rfl,A1k hm,hr x (by simp [Op.operands])⟩⟩
 case pick c x y=>
  split at h
  ·rename_i t ht
   cases ht':t with
   |true=>
    rw [ht',D8]at h
    refine⟨_,_,h,c8 fun bl φ w a ha hm hr=>⟨a.eval x,w,φ,?_,A1k hm,hr x (by simp [Op.operands])⟩⟩
    have hcv:=hr c (by simp [Op.operands])
    rw [ht]at hcv
    simp [execOp,R2.1 hcv,asBool,ht']
   |false=>
    rw [ht',Q8]at h
    refine⟨_,_,h,c8 fun bl φ w a ha hm hr=>⟨a.eval y,w,φ,?_,A1k hm,hr y (by simp [Op.operands])⟩⟩
    have hcv:=hr c (by simp [Op.operands])
    rw [ht]at hcv
    simp [execOp,R2.1 hcv,asBool,ht']
  ·rename_i p hp ht
   split at h
   ·rename_i hpp
    refine⟨_,_,h,c8 fun bl φ w a ha hm hr=>⟨a.eval x,w,φ,?_,A1k hm,hr x (by simp [Op.operands])⟩⟩
    have hcv:=hr c (by simp [Op.operands])
    rw [ht]at hcv
    have hcv:a.eval c= .bool (@decide p hp):=hcv
    simp [execOp,hcv,asBool,hpp]
   ·rename_i hpp
    refine⟨_,_,h,c8 fun bl φ w a ha hm hr=>⟨a.eval y,w,φ,?_,A1k hm,hr y (by simp [Op.operands])⟩⟩
    have hcv:=hr c (by simp [Op.operands])
    rw [ht]at hcv
    have hcv:a.eval c= .bool (@decide p hp):=hcv
    simp [execOp,hcv,asBool,hpp]
  ·cases h
 case alloc t=>
  obtain⟨v',us,k1,k2⟩:∃v' us,K v' us=some r∧∀old,J4 P w0 Bo pb [] (fun _=>Instr.alloc t true old) v' us:=by
   cases hz:G3 E.nz t with
   |true=>rw [hz]at h;exact E5j (P:=P) (w0:=w0) (Bo:=Bo) hE h
   |false=>rw [hz]at h;exact F5c (P:=P) (w0:=w0) (Bo:=Bo) hE h
  refine⟨v',us,k1,c8 fun bl φ w a ha hm hr=>?_⟩
  obtain⟨v,w',φ',h1,h2,h3⟩:=k2 (.tuple #[]) bl φ w [] ha hm .nil
  exact⟨v,w',φ',by simp [execOp,h1],h2,h3⟩
 case box t x=>
  obtain⟨v',us,k1,k2⟩:=F6p (P:=P) (w0:=w0) (Bo:=Bo) hE h
  exact⟨v',us,k1,A8G k2 (by simp [Op.operands]) fun a=>rfl⟩
 case build t ps=>
  obtain⟨v',us,k1,k2⟩:=E1Q (P:=P) (w0:=w0) (Bo:=Bo) hE h
  refine⟨v',us,k1,c8 fun bl φ w a ha hm hr=>?_⟩
  obtain⟨v,w',φ',h1,h2,h3⟩:=k2 bl φ w (ps.toList.map fun q=>(q.1,a.eval q.2)) ha hm (by simp) (by
   have:=B6D (ρ:=ρ) (w:=w) (bl:=bl) (φ:=φ) (a:=a) (ps.toList.map (·.2)) (fun x hx=>hr x (by simpa [Op.operands]using hx))
   simpa [Function.comp_def]using this)
  refine⟨v,w',φ',?_,h2,h3⟩
  have e:(ps.map fun(i,x)=>(i,a.eval x))=(ps.toList.map fun q=>(q.1,a.eval q.2)).toArray:=by
   apply Array.ext';simp
  simp only [execOp,e,Sem.run_bind,h1,Result.andThen_ok];rfl
 case buildSlice t n ps=>
  obtain⟨v',us,k1,k2⟩:=E0z (P:=P) (w0:=w0) (Bo:=Bo) hE h
  refine⟨v',us,k1,c8 fun bl φ w a ha hm hr=>?_⟩
  obtain⟨v,w',φ',h1,h2,h3⟩:=k2 bl φ w (ps.toList.map fun q=>(q.1,a.eval q.2)) ha hm (by simp) (by
   have:=B6D (ρ:=ρ) (w:=w) (bl:=bl) (φ:=φ) (a:=a) (ps.toList.map (·.2)) (fun x hx=>hr x (by simpa [Op.operands]using hx))
   simpa [Function.comp_def]using this)
  refine⟨v,w',φ',?_,h2,h3⟩
  have e:(ps.map fun(i,x)=>(i,a.eval x))=(ps.toList.map fun q=>(q.1,a.eval q.2)).toArray:=by
   apply Array.ext';simp
  simp only [execOp,e,Sem.run_bind,h1,Result.andThen_ok];rfl
 case load t x=>
  obtain⟨v',k1,k2⟩:=F8H (P:=P) (w0:=w0) (Bo:=Bo) hE h
  exact⟨v',[],k1,A8G k2 (by simp [Op.operands]) fun a=>rfl⟩
 case store t x y=>
  obtain⟨us,k1,k2⟩:∃us,K (.a .u) us=some r∧J4 P w0 Bo pb [ρ x,ρ y] (o5 fun a b=>do Instr.storeAt t a b;pure undef) (.a .u) us:=by
   cases hz:D2e pb (ρ x)with
   |true=>rw [hz]at h;exact F6J (P:=P) (w0:=w0) (Bo:=Bo) hE hpb h
   |false=>rw [hz]at h;exact F2R (P:=P) (w0:=w0) (Bo:=Bo) hE hpb h
  refine⟨_,us,k1,F2i fun bl φ w a ha hm hr=>?_⟩
  obtain⟨v,w',φ',h1,h2,h3⟩:=k2 bl φ w [a.eval x,a.eval y] ha hm (.cons (hr x (by simp [Op.operands])) (.cons (hr y (by simp [Op.operands])) .nil))
  refine⟨w',φ',?_,h2⟩
  have h1:(do Instr.storeAt t (a.eval x) (a.eval y);pure undef:Sem Value).run P w= .ok v w':=h1
  simp only [execOp,Sem.run_bind]at h1⊢
  cases hs:(Instr.storeAt t (a.eval x) (a.eval y)).run P w with
  |ok u w1=>rw [hs]at h1;simp only [Result.andThen_ok,Sem.run_pure]at h1⊢;cases h1;rfl
  |halt u w1=>rw [hs]at h1;simp at h1
 case nilCheck x=>
  split at h
  ·rename_i f caps hx
   refine⟨_,[],h,c8 fun bl φ w a ha hm hr=>?_⟩
   have hv:=hr x (by simp [Op.operands])
   rw [hx]at hv
   obtain⟨cv,h1,h2⟩:=hv
   exact⟨.func (.func f) #[] cv.toArray,w,φ,by simp [execOp,h1],A1k hm,cv,rfl,h2⟩
  ·rename_i z hx
   split at h
   ·rename_i hz
    refine⟨_,[],h,c8 fun bl φ w a ha hm hr=>?_⟩
    have hv:=hr x (by simp [Op.operands])
    rw [hx]at hv
    have hv1:=hv
    obtain⟨cs,h1,h2⟩:=hv1
    have h1:cs=_:=h1
    cases z with
    |negSucc n=>exact absurd hz (by simp)
    |ofNat f=>
     subst h1
     have h2:[Value.func (.func f) #[] #[]]=[a.eval x]:=h2
     have h3:=List.head_eq_of_cons_eq h2
     exact⟨a.eval x,w,φ,by simp [execOp,←h3],A1k hm,hv⟩
   ·cases h
  ·cases h
 case binOp op t x y yt=>
  split at h
  ·rename_i b hb
   split at h
   ·rename_i τ ht
    obtain⟨e,m,hu,_⟩:=A0J (hE.tyOk ht)
    refine⟨_,[],h,c8 fun bl φ w a ha hm hr=>?_⟩
    have hx:=hr x (by simp [Op.operands])
    obtain⟨hy,q,t',l',hq,hop⟩:=E6l hb
    rw [hq]at hx
    obtain⟨_,ad,len,cap,hv,had⟩:=hx
    refine⟨.bool b,w,φ,?_,A1k hm,R2.2 rfl⟩
    subst hy
    have hcz:a.eval (.const (.slice none 0 0))= .slice none 0 0:=rfl
    rcases hop with⟨rfl,rfl⟩| ⟨rfl,rfl⟩
    ·have e1:=D6S (P:=P) hu ad len cap w
     rw [had]at e1
     simp only [execOp,hcz,hv,eqGuard,binOp]
     simp [e1]
    ·have e1:=D6S (P:=P) hu ad len cap w
     rw [had]at e1
     simp only [execOp,hcz,hv,eqGuard,binOp]
     simp [e1]
   ·cases h
  ·obtain⟨v',k1,k2⟩:=F7s (P:=P) (w0:=w0) (Bo:=Bo) (pb:=pb) hE h
   exact⟨v',[],k1,A7r (k2 x y) (by simp [Op.operands]) (by simp [Op.operands]) fun a=>rfl⟩
 case unOp op t x=>
  obtain⟨v',k1,k2⟩:=E2V (P:=P) (w0:=w0) (Bo:=Bo) (pb:=pb) h
  exact⟨v',[],k1,A8G k2 (by simp [Op.operands]) fun a=>rfl⟩
 case convert s t x=>
  obtain⟨v',k1,k2⟩:=E9g (P:=P) (w0:=w0) (Bo:=Bo) hE h
  exact⟨v',[],k1,A8G k2 (by simp [Op.operands]) fun a=>rfl⟩
 case makeFunc fn fs cs=>
  cases fn with
  |func f=>
   simp only at h
   split at h
   ·rename_i l hfs hl
    refine⟨_,[],h,c8 fun bl φ w a ha hm hr=>?_⟩
    have hfs':fs= #[]:=by apply Array.ext';simpa using hfs
    subst hfs'
    have hrv:=B6D (ρ:=ρ) (w:=w) (bl:=bl) (φ:=φ) (a:=a) cs.toList (fun x hx=>hr x (by simp [Op.operands];simpa using hx))
    refine⟨.func (.func f) #[] (cs.map a.eval),w,φ,by simp [execOp,Instr.makeFunc],A1k hm,cs.toList.map a.eval,?_,D8x _ _ _ hl hrv⟩
    congr 1
    apply Array.ext';simp
   ·cases h
  |_=>cases h
 case makeSlice t l c=>
  obtain⟨v',us,k1,k2⟩:=F4G (P:=P) (w0:=w0) (Bo:=Bo) hE h
  exact⟨v',us,k1,A7r k2 (by simp [Op.operands]) (by simp [Op.operands]) fun a=>rfl⟩
 case slice t x lo hi mx=>
  obtain⟨v',k1,k2⟩:=E8G (P:=P) (w0:=w0) (Bo:=Bo) hE h
  refine⟨v',[],k1,c8 fun bl φ w a ha hm hr=>?_⟩
  obtain⟨v,h1,h2⟩:=k2 bl φ w (a.eval x) (lo.map a.eval) (hi.map a.eval) (mx.map a.eval) ha hm (hr x (by simp [Op.operands]))
   (C6r lo fun y hy=>hr y (by subst hy;simp [Op.operands])) (C6r hi fun y hy=>hr y (by subst hy;simp [Op.operands])) (C6r mx fun y hy=>hr y (by subst hy;simp [Op.operands]))
  exact⟨v,w,φ,by simp [execOp,h1],A1k hm,h2⟩
 case fieldAddr s x f=>
  obtain⟨v',k1,k2⟩:=F3j (P:=P) (w0:=w0) (Bo:=Bo) hE h
  exact⟨v',[],k1,A8G k2 (by simp [Op.operands]) fun a=>rfl⟩
 case field s x f=>
  obtain⟨v',k1,k2⟩:=F2f (P:=P) (w0:=w0) (Bo:=Bo) (pb:=pb) hE h
  exact⟨v',[],k1,A8G k2 (by simp [Op.operands]) fun a=>rfl⟩
 case indexAddr t x i=>
  have h:B5k E t (nzV (ρ x)) (ρ i) pb K=some r∨B8u E t (nzV (ρ x)) (ρ i) pb K=some r:=by
   cases i<;>first|exact Or.inl h|exact Or.inr h
  obtain⟨v',k1,k2⟩:=h.elim (D5P (P:=P) (w0:=w0) (Bo:=Bo) hE) (F8Z (P:=P) (w0:=w0) (Bo:=Bo) hE)
  exact⟨v',[],k1,A7r (D1o B8H k2) (by simp [Op.operands]) (by simp [Op.operands]) fun a=>rfl⟩
 case index t x i=>
  obtain⟨v',k1,k2⟩:=F0E (P:=P) (w0:=w0) (Bo:=Bo) (pb:=pb) hE h
  exact⟨v',[],k1,A7r k2 (by simp [Op.operands]) (by simp [Op.operands]) fun a=>rfl⟩
 case extract x i=>
  split at h
  ·rename_i vs hx
   split at h
   ·rename_i y hy
    refine⟨_,[],h,c8 fun bl φ w a ha hm hr=>?_⟩
    have hv:=hr x (by simp [Op.operands])
    rw [hx]at hv
    obtain⟨cv,h1,h2⟩:=hv
    obtain⟨v,g1,g2⟩:=F2K h2 i y hy
    refine⟨v,w,φ,?_,A1k hm,g2⟩
    simp [execOp,h1,Instr.extract,g1]
   ·cases h
  ·cases h
 case call c=>
  cases hcc:c.callee with
  |value f=>exact absurd hcc (hc c f rfl)
  |invoke x m=>rw [hcc]at h;cases h
  |builtin b=>
   rw [hcc]at h
   simp only at h
   have hops:∀x,x∈c.args.toList→x∈(Op.call c).operands:=by
    intro x hx
    simp only [Op.operands,Call.operands,hcc]
    simpa using hx
   have hexec:∀(a:Act),execOp a.eval ⟨dst, .call c,ty,pos,after,guard⟩=builtin b c.argTypes ty (c.args.map fun| .const _=>true|_=>false) (c.args.map a.eval):=by
    intro a
    simp only [execOp,resolve,hcc]
    rfl
   have args1:∀{x:V},c.args.toList.map ρ=[x]→∃y,c.args= #[y]∧ρ y=x:=by
    intro x hx
    cases hl:c.args.toList with
    |nil=>rw [hl]at hx;cases hx
    |cons y l=>
     rw [hl]at hx
     cases l with
     |cons=>simp at hx
     |nil=>exact⟨y,by apply Array.ext';simpa using hl,by simpa using hx⟩
   have args2:∀{x y:V},c.args.toList.map ρ=[x,y]→∃p q,c.args= #[p,q]∧ρ p=x∧ρ q=y:=by
    intro x y hx
    cases hl:c.args.toList with
    |nil=>rw [hl]at hx;cases hx
    |cons p l=>
     rw [hl]at hx
     cases l with
     |nil=>simp at hx
     |cons q l=>
      cases l with
      |cons=>simp at hx
      |nil=>exact⟨p,q,by apply Array.ext';simpa using hl,by simpa using hx⟩
   unfold D2z at h
   split at h
   ·rename_i t ts x hts hargs
    obtain⟨y,hy1,hy2⟩:=args1 hargs
    subst hy2
    obtain⟨v',k1,k2⟩:=E6L (P:=P) (w0:=w0) (Bo:=Bo) hE h
    refine⟨v',[],k1,A8G (E4D B8H (k2 ts ty)) (hops y (by rw [hy1];simp)) fun a=>?_⟩
    rw [hexec,hy1]
    have:c.argTypes=(t::ts).toArray:=by apply Array.ext';simpa using hts
    rw [this];simp [builtin]
   ·rename_i t t2 x y hts hargs
    obtain⟨p,q,hy1,hy2,hy3⟩:=args2 hargs
    subst hy2;subst hy3
    obtain⟨v',us,k1,k2⟩:∃v' us,K v' us=some r∧∀ty,J4 P w0 Bo pb [ρ p,ρ q] (o5 fun a b=>Builtin.append_ #[t,t2] ty #[a,b]) v' us:=by
     split at h
     ·rename_i a l hx
      split at h
      ·rename_i hl
       obtain⟨v',us,k1,k2⟩:=D2S (P:=P) (w0:=w0) (Bo:=Bo) hE hpb h
       refine⟨v',us,k1,fun ty=>D7D B8H (D1o (fun {w bl φ v} hr=>?_) (k2 ty))⟩
       rw [hx]at hr
       obtain⟨ad,cap,h1,h2,h3,_⟩:=C0l.1 hr
       have hl0:l=[]:=List.eq_nil_of_length_eq_zero (by omega)
       subst hl0
       rw [h3 rfl]at h1
       exact⟨ad,h1⟩
      ·cases h
     ·obtain⟨v',us,k1,k2⟩:=D2S (P:=P) (w0:=w0) (Bo:=Bo) hE hpb h
      exact⟨v',us,k1,fun ty=>D7D B8H (k2 ty)⟩
    refine⟨v',us,k1,A7r (k2 ty) (hops p (by rw [hy1];simp)) (hops q (by rw [hy1];simp)) fun a=>?_⟩
    rw [hexec,hy1]
    have:c.argTypes= #[t,t2]:=by apply Array.ext';simpa using hts
    rw [this];simp [builtin]
   ·rename_i x y hargs
    obtain⟨p,q,hy1,hy2,hy3⟩:=args2 hargs
    subst hy2;subst hy3
    obtain⟨v',k1,k2⟩:=D7x (P:=P) (w0:=w0) (Bo:=Bo) (pb:=pb) h
    refine⟨v',[],k1,A7r (k2 c.argTypes ty) (hops p (by rw [hy1];simp)) (hops q (by rw [hy1];simp)) fun a=>?_⟩
    rw [hexec,hy1];simp [builtin]
   ·rename_i x y hargs
    obtain⟨p,q,hy1,hy2,hy3⟩:=args2 hargs
    subst hy2;subst hy3
    obtain⟨v',k1,k2⟩:=D7x (P:=P) (w0:=w0) (Bo:=Bo) (pb:=pb) h
    refine⟨v',[],k1,A7r (k2 c.argTypes ty) (hops p (by rw [hy1];simp)) (hops q (by rw [hy1];simp)) fun a=>?_⟩
    rw [hexec,hy1];simp [builtin]
   ·cases h
 all_goals cases h
end
def A3w (P:Program) (f:Nat) (args:Array Value) (w:World) (Q:Value→World→Prop):Prop:=
 ((callFunc f args).run P w= .ok (.enter f args) w∧Calls P f args w fun e w'=>∃v,e= .returned v∧Q v w')∨
 (∃v w',(callFunc f args).run P w= .ok (.value v) w'∧Q v w')
def S5 (bs:Bl) (φ:Nat→Addr) (b o:Nat):Prop:=∃n t l tl,n<10000∧F9 bs n= .live t l tl∧(φ n).spot=none∧(φ n).block=b∧(φ n).off≤o∧o<(φ n).off+l.length*t.sz
def B7a (bl:Nat→A9) (L:Bl):Prop:=∀n,n<10000→bl n=F9 L n
def Ct (P:Program) (f:Nat) (asx:List V) (bs:Bl) (r:V) (us:Bl):Prop:=
 (∀q,q∈us→q.1<10000)∧∀(w0:World) (bl0:Nat→A9) (φ0:Nat→Addr) (vs:List Value),B7a bl0 bs→D3 w0 (S5 bs φ0) bl0 φ0 w0→M9 w0 bl0 φ0 asx vs→
  A3w P f vs.toArray w0 fun v w'=>∃φ',E3 w0 (S5 bs φ0) bl0 φ0 w0 (B4 us bl0) φ' w'∧C3 w' (B4 us bl0) φ' r v
def A0h {R:Type} (P:Program) (orc:P5 R):Prop:=∀f asx bs K r,orc f asx bs K=some r→∃rv us,K rv us=some r∧Ct P f asx bs rv us
def L6 {t:Ty} (c:Option (Int×Int)) (l:List t.T):List t.T:=match c with|none=>l|some (lo,hi)=>slice_ l lo hi
theorem W7 (l:Bl) (n:Nat):F9 l n=match A8 l n with|some b=>b|none=> .fresh:=by
 induction l with
 |nil=>rfl
 |cons q l ih=>
  obtain⟨m,b⟩:=q
  unfold F9 A8
  cases Nat.beq m n with
  |true=>rfl
  |false=>simpa using ih
theorem D6U {us:Bl} {bl:Nat→A9} {n:Nat} (h:F9 us n≠ .fresh):B4 us bl n=F9 us n:=by
 rw [W7]at h⊢
 unfold B4
 cases hl:A8 us n with
 |none=>rw [hl]at h;exact absurd rfl h
 |some b=>rfl
theorem g7 {us:Bl} {bl:Nat→A9} {n:Nat} (h:A8 us n=none):B4 us bl n=bl n:=by unfold B4;rw [h]
theorem A6x {us:Bl} {bl:Nat→A9} {n:Nat} {b:A9} (h:A8 us n=some b):B4 us bl n=b:=by unfold B4;rw [h]
theorem Q3 {α:Type} (a b:List (Nat×α)) (n:Nat):A8 (a++b) n=match A8 a n with|some x=>some x|none=>A8 b n:=by
 induction a with
 |nil=>rfl
 |cons q a ih=>
  obtain⟨m,x⟩:=q
  show(B3 (Nat.beq m n) (some x)<|A8 (a++b) n)=match (B3 (Nat.beq m n) (some x)<|A8 a n)with|some x=>some x|none=>A8 b n
  cases Nat.beq m n with
  |true=>rfl
  |false=>exact ih
theorem i4 {α:Type} (m:Nat) (x:α) (n:Nat):A8 [(m,x)] n=if m=n then some x else none:=by
 unfold A8
 cases hb:Nat.beq m n with
 |true=>rw [if_pos (Nat.eq_of_beq_eq_true hb)];rfl
 |false=>
  rw [if_neg (by intro e;subst e;rw [Nat.beq_refl]at hb;cases hb)];rfl
section
variable {pb:Nat→A9}
theorem E9a {j:Nat} {x:A} {a:V} {b:Bl} {c:List E1} (h:C6J pb j x=some (a,b,c)):
  (b=[]∧c=[]∧∃t l,a= .a (.v (.li t) l)∧K5 pb (.li t) x=some l∧∀n,n∈G0 x→¬live (pb n))∨
  (∃n cut t l tl,pb n= .live t l tl∧b=[(2000+j, .live t (L6 cut l) false)]∧c=[⟨j,n,cut⟩]∧a= .a (.ref (2000+j))∧x=match cut with|none=> .ref n|some (lo,hi)=> .part n lo hi):=by
 have tt:∀(t:Ty) (l:List t.T),(⟨.li t,l⟩:I7).to (.li t)=some l:=fun t l=>by simp [I7.to]
 unfold C6J at h
 split at h
 ·rename_i n
  split at h
  ·rename_i t l tl hp
   cases h
   exact Or.inr ⟨n,none,t,l,tl,hp,rfl,rfl,rfl,rfl⟩
  ·rename_i t l hp
   cases h
   refine Or.inl ⟨rfl,rfl,t,l,rfl,by simp only [K5,Z8,hp];exact tt t l,fun k hk=>?_⟩
   simp only [G0,List.mem_singleton]at hk;subst hk
   rintro⟨_,_,_,e⟩;rw [hp]at e;cases e
  ·cases h
 ·rename_i n lo hi
  split at h
  ·rename_i t l tl hp
   cases h
   exact Or.inr ⟨n,some (lo,hi),t,l,tl,hp,rfl,rfl,rfl,rfl⟩
  ·rename_i t l hp
   cases h
   refine Or.inl ⟨rfl,rfl,t,_,rfl,by simp only [K5,Z8,hp];exact tt t _,fun k hk=>?_⟩
   simp only [G0,List.mem_singleton]at hk;subst hk
   rintro⟨_,_,_,e⟩;rw [hp]at e;cases e
  ·cases h
 ·rename_i t l
  cases h
  exact Or.inl ⟨rfl,rfl,t,l,rfl,by simp only [K5,Z8];exact tt t l,fun k hk=>by cases hk⟩
 ·cases h
inductive A0K (pb:Nat→A9):Bl→List E1→Prop
 |nil:A0K pb [] []
 |cons {j n:Nat} {cut:Option (Int×Int)} {t:Ty} {l:List t.T} {tl:Bool} {bs:Bl} {ls:List E1}:pb n= .live t l tl→A0K pb bs ls→A0K pb ((2000+j, .live t (L6 cut l) false)::bs) (⟨j,n,cut⟩::ls)
theorem A0K.append {a b:Bl} {c d:List E1} (h:A0K pb a c) (k:A0K pb b d):A0K pb (a++b) (c++d):=by
 induction h with
 |nil=>exact k
 |cons h _ ih=>exact .cons h ih
theorem E5b {j:Nat} {x y:A} {b:Bl} {c:List E1} (h:B7i pb j x=some (y,b,c)):A0K pb b c∧∀x,x∈c→x.cut=none:=by
 unfold B7i at h
 split at h
 ·cases h;exact⟨.nil,fun x hx=>by cases hx⟩
 ·split at h
  ·rename_i hp
   cases h
   exact⟨.cons (cut:=none) hp .nil,fun x hx=>by rw [List.mem_singleton]at hx;rw [hx]⟩
  ·cases h;exact⟨.nil,fun x hx=>by cases hx⟩
  ·cases h
 ·cases h
theorem D7a:∀(xs:List A) {j:Nat} {ys:List A} {b:Bl} {c:List E1},A9u pb j xs=some (ys,b,c)→A0K pb b c∧∀x,x∈c→x.cut=none
 | [],j,ys,b,c,h=>by cases h;exact⟨.nil,fun x hx=>by cases hx⟩
 |x::xs,j,ys,b,c,h=>by
  unfold A9u at h
  split at h
  ·rename_i h1 h2
   cases h
   obtain⟨a1,a2⟩:=E5b h1
   obtain⟨b1,b2⟩:=D7a xs h2
   exact⟨a1.append b1,fun x hx=>(List.mem_append.1 hx).elim (a2 x) (b2 x)⟩
  ·cases h
theorem B8G {m:Bool} {xs:List A} {j:Nat} {ys:List A} {b:Bl} {c:List E1} (h:A8E pb m j xs=some (ys,b,c)):A0K pb b c∧∀x,x∈c→x.cut=none:=by
 unfold A8E at h
 cases m with
 |true=>exact D7a xs h
 |false=>
  rw [Q8]at h
  split at h
  ·cases h;exact⟨.nil,fun x hx=>by cases hx⟩
  ·cases h
inductive B3Y (mc:Nat→Bool) (pb:Nat→A9) (j:Nat):PM→V→V→Bl→List E1→Prop
 |d {m:PM} {t:Ty} {x:A} {z:t.T}:K5 pb t x=some z→(m= .bor→∀n,n∈G0 x→¬live (pb n))→m≠ .fn→B3Y mc pb j m (.a x) (.a (.v t z)) [] []
 | lent {n:Nat} {cut:Option (Int×Int)} {t:Ty} {l:List t.T} {tl:Bool}:pb n= .live t l tl→
   B3Y mc pb j .bor (.a (match cut with|none=> .ref n|some (lo,hi)=> .part n lo hi)) (.a (.ref (2000+j))) [(2000+j, .live t (L6 cut l) false)] [⟨j,n,cut⟩]
 |fn {f:Nat} {caps cs:List A} {b:Bl} {c:List E1}:A8E pb (mc f) (100+16*j) caps=some (cs,b,c)→B3Y mc pb j .fn (.cl f caps) (.cl f cs) b c
theorem E2f {mc:Nat→Bool} {j:Nat} {m:PM} {v a:V} {b:Bl} {c:List E1} (h:C2I mc pb j m v=some (a,b,c)):B3Y mc pb j m v a b c:=by
 unfold C2I at h
 split at h
 ·split at h
  ·rename_i z hz;cases h;exact .d hz (fun e=>by cases e) (fun e=>by cases e)
  ·cases h
 ·rcases E9a h with⟨rfl,rfl,t,l,rfl,h',h''⟩| ⟨n,cut,t,l,tl,hp,rfl,rfl,rfl,rfl⟩
  ·exact .d h' (fun _=>h'') (fun e=>by cases e)
  ·exact .lent hp
 ·split at h
  ·rename_i cs _ _ hc;cases h;exact .fn hc
  ·cases h
 ·cases h
inductive A5r (mc:Nat→Bool) (pb:Nat→A9):Nat→List PM→List V→List V→Bl→List E1→Prop
 |nil {j:Nat}:A5r mc pb j [] [] [] [] []
 |cons {j:Nat} {m:PM} {v a:V} {b:Bl} {c:List E1} {ms:List PM} {vs asx:List V} {bs:Bl} {cs:List E1}:B3Y mc pb j m v a b c→A5r mc pb (j+1) ms vs asx bs cs→A5r mc pb j (m::ms) (v::vs) (a::asx) (b++bs) (c++cs)
theorem D7j {mc:Nat→Bool}:∀(j:Nat) (ms:List PM) (vs asx:List V) (bs:Bl) (cs:List E1),B9b mc pb j ms vs=some (asx,bs,cs)→A5r mc pb j ms vs asx bs cs
 |j,[],[],asx,bs,cs,h=>by cases h;exact .nil
 |j,m::ms,v::vs,asx,bs,cs,h=>by
  unfold B9b at h
  split at h
  ·rename_i a b c as' bs' cs' h1 h2
   cases h
   exact .cons (E2f h1) (D7j _ _ _ _ _ _ h2)
  ·cases h
 |j,[],_::_,asx,bs,cs,h=>by cases h
 |j,_::_,[],asx,bs,cs,h=>by cases h
theorem A5r.lnts {mc:Nat→Bool} {j:Nat} {ms:List PM} {vs asx:List V} {bs:Bl} {ls:List E1} (h:A5r mc pb j ms vs asx bs ls):A0K pb bs ls:=by
 induction h with
 |nil=>exact .nil
 | @cons j m v a b c ms vs asx bs cs h1 h2 ih=>
  cases h1 with
  |d _ _ _=>exact ih
  |fn hc=>exact(B8G hc).1.append ih
  |lent hp=>exact .cons hp ih
theorem C1C {g:E1→Nat}:∀(l:List E1),n8 (l.map g)=true→∀x y,x∈l→y∈l→g x=g y→x=y
 | [],_,x,y,hx,_,_=>by cases hx
 |z::l,h,x,y,hx,hy,e=>by
  rw [List.map_cons]at h
  unfold n8 at h
  cases hh:G3 (l.map g) (g z)with
  |true=>rw [hh]at h;cases h
  |false=>
   rw [hh,Q8]at h
   have hz:g z∉l.map g:=by rw [←t8,hh];simp
   rcases List.mem_cons.1 hx with hx'|hx'
   ·rcases List.mem_cons.1 hy with hy'|hy'
    ·rw [hx',hy']
    ·exact absurd (List.mem_map.2 ⟨y,hy',by rw [←e,hx']⟩) hz
   ·rcases List.mem_cons.1 hy with hy'|hy'
    ·exact absurd (List.mem_map.2 ⟨x,hx',by rw [e,hy']⟩) hz
    ·exact C1C l h x y hx' hy' e
theorem A0K.spec {bs:Bl} {ls:List E1} (h:A0K pb bs ls):n8 (ls.map (·.j))=true→
  (∀n,A8 bs n≠none→∃x,x∈ls∧n=2000+x.j)∧(∀x,x∈ls→∃t l tl,pb x.n= .live t l tl∧A8 bs (2000+x.j)=some (.live t (L6 x.cut l) false)):=by
 induction h with
 |nil=>exact fun _=>⟨fun n h=>absurd rfl h,(fun x h=>by cases h)⟩
 | @cons j n cut t l tl bs ls hp hl ih=>
  intro hd
  have hu:=C1C _ hd
  have hd':n8 (ls.map (·.j))=true:=by
   rw [List.map_cons]at hd
   unfold n8 at hd
   cases hh:G3 (ls.map (·.j)) j with
   |true=>simp only [hh]at hd;cases hd
   |false=>simp only [hh,Q8]at hd;exact hd
  obtain⟨i1,i2⟩:=ih hd'
  have hc:∀k,A8 ((2000+j,A9.live t (L6 cut l) false)::bs) k=if 2000+j=k then some (A9.live t (L6 cut l) false)else A8 bs k:=by
   intro k
   have:=Q3 [(2000+j,A9.live t (L6 cut l) false)] bs k
   rw [i4]at this
   rw [show((2000+j,A9.live t (L6 cut l) false)::bs)=[(2000+j,A9.live t (L6 cut l) false)]++bs from rfl,this]
   by_cases e:2000+j=k
   ·rw [if_pos e,if_pos e]
   ·rw [if_neg e,if_neg e]
  refine⟨fun k hk=>?_,fun x hx=>?_⟩
  ·rw [hc]at hk
   by_cases e:2000+j=k
   ·exact⟨_,List.mem_cons_self,e.symm⟩
   ·rw [if_neg e]at hk
    obtain⟨x,hx,e⟩:=i1 k hk
    exact⟨x,List.mem_cons_of_mem _ hx,e⟩
  ·by_cases ex:x=⟨j,n,cut⟩
   ·subst ex
    exact⟨t,l,tl,hp,by rw [hc,if_pos rfl]⟩
   ·have hx':x∈ls:=by
     rcases List.mem_cons.1 hx with q|q
     ·exact absurd q ex
     ·exact q
    obtain⟨t',l',tl',g2,g3⟩:=i2 x hx'
    refine⟨t',l',tl',g2,?_⟩
    rw [hc,if_neg (fun e=>ex (hu x ⟨j,n,cut⟩ hx List.mem_cons_self (show x.j=j by omega)))]
    exact g3
theorem B1r {ls:List E1} (hu:∀x y,x∈ls→y∈ls→x.j=y.j→x=y) {x:E1} (hx:x∈ls):A3d ls (2000+x.j)=some x:=by
 induction ls with
 |nil=>cases hx
 |cons y ls ih=>
  unfold A3d
  cases hb:Nat.beq (2000+x.j) (2000+y.j)with
  |true=>
   have:=Nat.eq_of_beq_eq_true hb
   rw [D8,hu x y hx List.mem_cons_self (by omega)]
  |false=>
   rw [Q8]
   rcases List.mem_cons.1 hx with rfl|hx
   ·rw [Nat.beq_refl]at hb;cases hb
   ·exact ih (fun a b ha hb=>hu a b (List.mem_cons_of_mem _ ha) (List.mem_cons_of_mem _ hb)) hx
theorem F2k {ls:List E1} {m:Nat} {x:E1} (h:A3d ls m=some x):x∈ls∧m=2000+x.j:=by
 induction ls with
 |nil=>cases h
 |cons y ls ih=>
  unfold A3d at h
  cases hb:Nat.beq m (2000+y.j)with
  |true=>rw [hb,D8]at h;cases h;exact⟨List.mem_cons_self,Nat.eq_of_beq_eq_true hb⟩
  |false=>rw [hb,Q8]at h;obtain⟨h1,h2⟩:=ih h;exact⟨List.mem_cons_of_mem _ h1,h2⟩
theorem E2Q (l:List E1) (h:n8 (l.map (·.n))=true):∀x y,x∈l→y∈l→x.n=y.n→x=y:=C1C l h
end
def b8 (c:Option (Int×Int)):Nat:=match c with|none=>0|some (lo,_)=>lo.toNat
def X0 (bl:Nat→A9) (φ:Nat→Addr) (x:E1):Addr:=
 match bl x.n with
 | .live t l _=>(match x.cut with
  |none=>φ x.n
  |some (lo,_)=>if(φ x.n).spot=none then⟨(φ x.n).block,(φ x.n).off+lo.toNat*t.sz,none⟩else φ x.n)
 |_=>⟨0,0,some 0⟩
def B7E (bl:Nat→A9) (φ:Nat→Addr) (ls:List E1) (m:Nat):Prop:=∃x,x∈ls∧x.n=m∧(X0 bl φ x).spot=none
open Classical in
noncomputable def G1 (bl:Nat→A9) (φ:Nat→Addr) (bs:Bl) (ls:List E1) (n:Nat):A9:=if n<10000 then F9 bs n else if B7E bl φ ls (n-10000)then .dead else bl (n-10000)
def J7 (bl:Nat→A9) (φ:Nat→Addr) (ls:List E1) (n:Nat):Addr:=if n<10000 then(match A3d ls n with|some x=>X0 bl φ x|none=>⟨0,0,some 0⟩)else φ (n-10000)
section
variable {w0 w:World} {Bo:Nat→Nat→Prop} {bl:Nat→A9} {φ:Nat→Addr} {bs:Bl} {ls:List E1}
structure m8 (w:World) (bl:Nat→A9) (bs:Bl) (ls:List E1):Prop where
 bs_:∀n,A8 bs n≠none→∃x,x∈ls∧n=2000+x.j
 ls_:∀x,x∈ls→2000+x.j<10000∧∃t l tl,bl x.n= .live t l tl∧A8 bs (2000+x.j)=some (.live t (L6 x.cut l) false)
 j_:∀x y,x∈ls→y∈ls→x.j=y.j→x=y
 n_:∀x y,x∈ls→y∈ls→x.n=y.n→x=y
 nl:∀x,x∈ls→x.n<10000
 cut:∀x,x∈ls→∀lo hi,x.cut=some (lo,hi)→∀t l tl,bl x.n= .live t l tl→0≤lo∧lo≤hi∧hi≤l.length
theorem m8.small (h:m8 w bl bs ls) {n:Nat} {t:Ty} {l:List t.T} {tl:Bool} (hn:F9 bs n= .live t l tl):∃x,x∈ls∧n=2000+x.j∧n<10000∧tl=false∧∃l0 tl0,bl x.n= .live t l0 tl0∧l=L6 x.cut l0:=by
 have:A8 bs n≠none:=by intro e;rw [W7,e]at hn;cases hn
 obtain⟨x,hx,rfl⟩:=h.bs_ n this
 obtain⟨g0,t',l',tl',g1,g2⟩:=h.ls_ x hx
 rw [W7,g2]at hn
 cases hn
 exact⟨x,hx,rfl,g0,rfl,l',tl',g1,rfl⟩
theorem A4c {x:E1} (hs:(X0 bl φ x).spot=none) {t:Ty} {l:List t.T} {tl:Bool} (hb:bl x.n= .live t l tl) (m:D3 w0 Bo bl φ w):(φ x.n).spot=none∧(X0 bl φ x).block=(φ x.n).block∧True∧
  (X0 bl φ x).off=(φ x.n).off+b8 x.cut*t.sz:=by
 unfold X0 at hs⊢
 rw [hb]at hs⊢
 simp only at hs⊢
 cases hc:x.cut with
 |none=>rw [hc]at hs;exact⟨hs,rfl,trivial,by simp [b8]⟩
 |some q=>
  obtain⟨lo,hi⟩:=q
  rw [hc]at hs
  simp only at hs⊢
  by_cases h:(φ x.n).spot=none
  ·rw [if_pos h];exact⟨h,rfl,trivial,rfl⟩
  ·rw [if_neg h]at hs;exact absurd hs h
theorem B6r (m:D3 w0 Bo bl φ w) (h:m8 w bl bs ls) (b:Nat) (ho:C8 (G1 bl φ bs ls) (J7 bl φ ls) b):C8 bl φ b:=by
 obtain⟨n,⟨t,l,tl,h1⟩,h2,h3⟩:=ho
 unfold G1 at h1
 unfold J7 at h2 h3
 by_cases hn:n<10000
 ·rw [if_pos hn]at h1 h2 h3
  obtain⟨x,hx,rfl,_,_,l0,tl0,hb,_⟩:=h.small h1
  rw [B1r h.j_ hx]at h2 h3
  obtain⟨k1,k2,_⟩:=A4c h2 hb m
  exact⟨x.n,⟨_,_,_,hb⟩,k1,by rw [←k2];exact h3⟩
 ·rw [if_neg hn]at h1 h2 h3
  split at h1
  ·cases h1
  ·exact⟨_,⟨_,_,_,h1⟩,h2,h3⟩
theorem D6Q {x:E1} {t:Ty} {l:List t.T} (hc:∀lo hi,x.cut=some (lo,hi)→0≤lo∧lo≤hi∧hi≤l.length):(L6 x.cut l).length+b8 x.cut≤l.length:=by
 cases h:x.cut with
 |none=>simp [L6,b8]
 |some q=>
  obtain⟨lo,hi⟩:=q
  obtain⟨h1,h2,h3⟩:=hc lo hi h
  simp only [L6,b8]
  rw [A4Z h1 h2 h3];omega
theorem E7c (m:D3 w0 Bo bl φ w) (h:m8 w bl bs ls):D3 w (S5 bs (J7 bl φ ls)) (G1 bl φ bs ls) (J7 bl φ ls) w:=by
 have he:N9 w (C8 bl φ) w (C8 (G1 bl φ bs ls) (J7 bl φ ls)):=(M3.refl w (fun _ _=>False)).ext (fun _ _ _ h=>h.elim) fun b _=>B6r m h b
 refine⟨fun n=>?_,fun n k h1 h2 h3 h4 h5=>?_,fun n t l tl hn h1 h2=>?_, .refl _ _⟩
 ·by_cases hn:n<10000
  ·unfold G1
   rw [if_pos hn]
   cases hb:F9 bs n with
   |fresh=>trivial
   |dead=>trivial
   |husk=>trivial
   |froz t l=>
    have:A8 bs n≠none:=by intro e;rw [W7,e]at hb;cases hb
    obtain⟨x,hx,rfl⟩:=h.bs_ n this
    obtain⟨_,t',l',tl',_,g2⟩:=h.ls_ x hx
    rw [W7,g2]at hb;cases hb
   |live t l tl=>
    obtain⟨x,hx,rfl,_,rfl,l0,tl0,hbx,rfl⟩:=h.small hb
    have hφ:J7 bl φ ls (2000+x.j)=X0 bl φ x:=by unfold J7;rw [if_pos hn,B1r h.j_ hx]
    rw [hφ]
    by_cases hs:(X0 bl φ x).spot=none
    ·obtain⟨k1,k2,k3,k4⟩:=A4c hs hbx m
     have hk:=m.blk x.n
     rw [hbx]at hk
     rcases hk with hk| ⟨_,g2,g3,g4⟩
     ·exact absurd k1 hk.1
     ·have hlen:=D6Q (x:=x) (l:=l0) fun lo hi e=>h.cut x hx lo hi e _ _ _ hbx
      refine Or.inr ⟨hs,by rw [k2];exact g2,fun i y hy=>?_,fun j hj=>?_⟩
      ·rw [k2,k4]
       cases hc:x.cut with
       |none=>
        rw [hc]at hy
        obtain⟨ci,q1,q2⟩:=g3 i y hy
        exact⟨ci,by simpa [b8]using q1,S9 he _ _ _ q2⟩
       |some q=>
        obtain⟨lo,hi⟩:=q
        rw [hc]at hy
        obtain⟨ci,q1,q2⟩:=B8L g3 lo hi i y hy
        exact⟨ci,q1,S9 he _ _ _ q2⟩
      ·rw [k2,k4]
       cases hc:x.cut with
       |none=>rw [hc]at hj;simpa [b8]using g4 j hj
       |some q=>
        obtain⟨lo,hi⟩:=q
        rw [hc]at hj hlen
        simp only [b8]at hlen⊢
        have:(lo.toNat+(L6 (some (lo,hi)) l0).length)*t.sz≤l0.length*t.sz:=Nat.mul_le_mul_right _ (by omega)
        rw [Nat.add_mul]at this
        have:=g4 (lo.toNat*t.sz+j) (by omega)
        simpa only [Nat.add_assoc]using this
    ·refine Or.inl ⟨hs,?_⟩
     have hk:=m.blk x.n
     rw [hbx]at hk
     have hns:(φ x.n).spot≠none:=by
      intro e
      apply hs
      unfold X0
      rw [hbx]
      simp only
      split
      ·exact e
      ·rw [if_pos e]
     rcases hk with hk|hk
     ·have:l0=[]:=List.eq_nil_of_length_eq_zero hk.2
      subst this
      cases x.cut with
      |none=>rfl
      |some q=>obtain⟨lo,hi⟩:=q;simp [L6,slice_]
     ·exact absurd hk.1 hns
  ·have e1:J7 bl φ ls n=φ (n-10000):=by unfold J7;rw [if_neg hn]
   rw [e1]
   unfold G1;rw [if_neg hn]
   split
   ·trivial
   ·exact A8B he (fun _ _ _ _ h=>h) (m.blk _)
 ·have key:∀k,live (G1 bl φ bs ls k)→(J7 bl φ ls k).spot=none→∃k',live (bl k')∧(φ k').spot=none∧(φ k').block=(J7 bl φ ls k).block∧((k<10000∧∃x,x∈ls∧k=2000+x.j∧x.n=k'∧(X0 bl φ x).spot=none)∨(¬k<10000∧k'=k-10000∧¬B7E bl φ ls k')):=by
   rintro k ⟨t,l,tl,g1⟩ g2
   unfold G1 at g1
   unfold J7 at g2⊢
   by_cases hk:k<10000
   ·rw [if_pos hk]at g1 g2⊢
    obtain⟨x,hx,rfl,_,_,l0,tl0,hb,_⟩:=h.small g1
    rw [B1r h.j_ hx]at g2⊢
    obtain⟨k1,k2,_⟩:=A4c g2 hb m
    exact⟨x.n,⟨_,_,_,hb⟩,k1,k2.symm,Or.inl ⟨hk,x,hx,rfl,rfl,g2⟩⟩
   ·rw [if_neg hk]at g1 g2⊢
    split at g1
    ·cases g1
    ·rename_i hh
     exact⟨_,⟨_,_,_,g1⟩,g2,rfl,Or.inr ⟨hk,rfl,hh⟩⟩
  obtain⟨n',a1,a2,a3,a4⟩:=key n h1 h3
  obtain⟨k',b1,b2,b3,b4⟩:=key k h2 h4
  have e:=m.uniq n' k' a1 b1 a2 b2 (by rw [a3,b3,h5])
  subst e
  rcases a4 with⟨_,x,hx,rfl,e1,s1⟩| ⟨hn,e1,e2⟩
  ·rcases b4 with⟨_,y,hy,rfl,e3,s2⟩| ⟨hk,e3,e4⟩
   ·rw [h.n_ x y hx hy (by rw [e1,e3])]
   ·exact absurd ⟨x,hx,e1,s1⟩ e4
  ·rcases b4 with⟨_,y,hy,rfl,e3,s2⟩| ⟨hk,e3,e4⟩
   ·exact absurd ⟨y,hy,e3,s2⟩ e2
   ·omega
 ·unfold G1 at h1
  rw [if_pos hn]at h1
  obtain⟨x,hx,rfl,_,rfl,_⟩:=h.small h1
  exact Or.inr ⟨rfl,fun j hj=>⟨_,t,l,false,hn,h1,h2,rfl,by omega,by omega⟩⟩
end
section
variable {w0 w:World} {Bo:Nat→Nat→Prop} {pb bl:Nat→A9} {φ:Nat→Addr} {bs:Bl} {ls:List E1}
theorem C4p (ha:G5 pb bl) (hm:D3 w0 Bo bl φ w) {ns:List Nat} {x y:A} (hns:∀n,n∈G0 x→live (pb n)→n∈ns) (h:B5t pb x=some y) {v:Value} (hr:C2 w bl φ x v):C2 w (B4 (D0 pb ns) bl) φ y v:=by
 have st:=z9 ha hm ns
 have fin:∀(n:Nat) (i:Int) (t:Ty) (x:t.T),B4 (D0 pb ns) bl n= .froz t [x]→C2 w (B4 (D0 pb ns) bl) φ (.ptr n i []) v→C2 w (B4 (D0 pb ns) bl) φ (.pv t x) v:=by
  intro n i t x hf hr
  simp only [C2,hf]at hr
  obtain⟨h0,h1,_,hs,rfl⟩:=hr
  have hi:i=0:=by simp only [List.length_cons,List.length_nil]at h1;omega
  subst hi
  have hk:=st.mem.blk n
  rw [hf]at hk
  rcases hk with hk| ⟨_,k2,k3,k4⟩
  ·exact absurd hs hk.1
  ·obtain⟨ci,q1,q2⟩:=k4 0 x rfl
   refine⟨(φ n).block,(φ n).off,ci,?_,k3,k2,by simpa using q1,q2⟩
   have:K8 [] t=0:=by cases t<;>rfl
   simp [this]
 unfold B5t at h
 split at h
 ·cases h;exact A3h st.goes _ _ hr
 ·rename_i n i
  have hr':=A3h st.goes _ _ hr
  split at h
  ·rename_i t x tl hp
   cases h
   exact fin n i t x (B9J ha ns n t [x] tl (hns n (by simp [G0]) ⟨_,_,_,hp⟩) hp) hr'
  ·rename_i t x hp
   cases h
   have hb:bl n= .froz t [x]:=by rw [ha n (by rw [hp];intro e;cases e),hp]
   refine fin n i t x ?_ hr'
   rcases A6z ha ns n with e| ⟨_,_,_,e,_⟩
   ·rw [e,hb]
   ·rw [hb]at e;cases e
  ·cases h
 ·cases h
theorem C9R (ha:G5 pb bl) (hm:D3 w0 Bo bl φ w) {ns:List Nat}:∀(xs ys:List A) (vs:List Value),(∀n,n∈xs.flatMap G0→n∈ns)→A6r pb xs=some ys→N1 w bl φ xs vs→N1 w (B4 (D0 pb ns) bl) φ ys vs
 | [],ys,vs,_,h,hr=>by cases h;cases hr;exact .nil
 |x::xs,ys,vs,hns,h,hr=>by
  unfold A6r at h
  split at h
  ·rename_i y m h1 h2
   cases h
   cases hr with
   |cons r1 r2=>exact .cons (C4p ha hm (fun n hn _=>hns n (by rw [List.flatMap_cons];exact List.mem_append_left _ hn)) h1 r1) (C9R ha hm xs m _ (fun n hn=>hns n (by rw [List.flatMap_cons];exact List.mem_append_right _ hn)) h2 r2)
  ·cases h
theorem A2A {bl':Nat→A9} {φ':Nat→Addr} (ho:∀b,C8 bl' φ' b→C8 bl φ b) {x:A} {v:Value} (hx:(∃t z,x= .v t z)∨(∃t z,x= .pv t z)) (h:C2 w bl φ x v):C2 w bl' φ' x v:=by
 have he:N9 w (C8 bl φ) w (C8 bl' φ'):=(M3.refl w (fun _ _=>False)).ext (fun _ _ _ h=>h.elim) fun b _=>ho b
 rcases hx with⟨t,z,rfl⟩| ⟨t,z,rfl⟩
 ·obtain⟨cs,h1,h2⟩:=h;exact⟨cs,S9 he _ _ _ h1,h2⟩
 ·obtain⟨b,o,cs,h1,h2,h3,h4,h5⟩:=h
  exact⟨b,o,cs,h1,fun e=>h2 (ho b e),h3,h4,S9 he _ _ _ h5⟩
theorem C7E:∀(xs ys:List A),A6r pb xs=some ys→∀y,y∈ys→∃t z,y= .pv t z
 | [],ys,h,y,hy=>by cases h;cases hy
 |x::xs,ys,h,y,hy=>by
  unfold A6r at h
  split at h
  ·rename_i y' m h1 h2
   cases h
   rcases List.mem_cons.1 hy with rfl|hy
   ·unfold B5t at h1
    split at h1
    ·cases h1;exact⟨_,_,rfl⟩
    ·split at h1<;>cases h1<;>exact⟨_,_,rfl⟩
    ·cases h1
   ·exact C7E xs m h2 y hy
  ·cases h
theorem D5l {bl':Nat→A9} {φ':Nat→Addr} (ho:∀b,C8 bl' φ' b→C8 bl φ b) {xs:List A} {vs:List Value} (hx:∀x,x∈xs→∃t z,x= .pv t z) (h:N1 w bl φ xs vs):N1 w bl' φ' xs vs:=by
 induction h with
 |nil=>exact .nil
 |cons h _ ih=>exact .cons (A2A ho (Or.inr (hx _ List.mem_cons_self)) h) (ih fun x hx'=>hx x (List.mem_cons_of_mem _ hx'))
theorem D8q (ha:G5 pb bl) (hm:D3 w0 Bo bl φ w) {ns:List Nat} (hl:m8 w (B4 (D0 pb ns) bl) bs ls) (hm1:D3 w0 Bo (B4 (D0 pb ns) bl) φ w):∀(xs:List A) (j:Nat) (ys:List A) (bs':Bl) (ls':List E1),A9u pb j xs=some (ys,bs',ls')→
  (∀x,x∈ls'→x∈ls)→(∀x,x∈ls'→x.n∉ns)→∀vs,N1 w bl φ xs vs→N1 w (G1 (B4 (D0 pb ns) bl) φ bs ls) (J7 (B4 (D0 pb ns) bl) φ ls) ys vs
 | [],j,ys,bs',ls',h,_,_,vs,hv=>by cases h;cases hv;exact .nil
 |x::xs,j,ys,bs',ls',h,hsub,hnot,vs,hv=>by
  have ho:=B6r hm1 hl
  unfold A9u at h
  split at h
  ·rename_i y b c m bs2 cs2 h1 h2
   cases h
   cases hv with
   | @cons _ u _ us hv1 hv2=>
    refine .cons ?_ (D8q ha hm hl hm1 xs _ _ _ _ h2 (fun x hx=>hsub x (List.mem_append_right _ hx)) (fun x hx=>hnot x (List.mem_append_right _ hx)) us hv2)
    unfold B7i at h1
    split at h1
    ·rename_i t z
     cases h1
     exact A2A ho (Or.inr ⟨_,_,rfl⟩) (C4p ha hm (ns:=ns) (x:= .pv t z) (fun n hn=>by cases hn) rfl hv1)
    ·rename_i n i
     split at h1
     ·rename_i t z tl hp
      cases h1
      have hx:(⟨j,n,none⟩:E1)∈ls:=hsub _ (List.mem_append_left _ (List.mem_singleton.2 rfl))
      have hnn:n∉ns:=hnot ⟨j,n,none⟩ (List.mem_append_left _ (List.mem_singleton.2 rfl))
      have hbn:bl n= .live t [z] tl:=by rw [ha n (by rw [hp];intro e;cases e),hp]
      have hb1:B4 (D0 pb ns) bl n= .live t [z] tl:=by rw [A3E _ _ hnn,hbn]
      obtain⟨g0,t',l',tl',g1,g2⟩:=hl.ls_ _ hx
      rw [hb1]at g1
      cases g1
      have e0:G1 (B4 (D0 pb ns) bl) φ bs ls (2000+j)= .live t [z] false:=by
       unfold G1;rw [if_pos g0,W7]
       have g2:A8 bs (2000+j)=some (.live t [z] false):=g2
       rw [g2]
      have e1:J7 (B4 (D0 pb ns) bl) φ ls (2000+j)=φ n:=by
       unfold J7;rw [if_pos g0]
       have:=B1r hl.j_ hx
       have this:A3d ls (2000+j)=some ⟨j,n,none⟩:=this
       rw [this]
       show X0 _ _ _=_
       unfold X0
       rw [hb1]
      have hv1:C2 w bl φ (.ptr n i []) u:=hv1
      simp only [C2,hbn]at hv1
      show C2 w _ _ (.ptr (2000+j) i []) u
      simp only [C2,e0,e1]
      exact hv1
     ·rename_i t z hp
      cases h1
      refine A2A ho (Or.inr ⟨_,_,rfl⟩) (C4p ha hm (ns:=ns) (x:= .ptr n i []) (fun k hk hlv=>?_) (by simp only [B5t,hp]) hv1)
      simp only [G0,List.mem_singleton]at hk
      subst hk
      obtain⟨_,_,_,e⟩:=hlv
      rw [hp]at e;cases e
     ·cases h1
    ·cases h1
  ·cases h
theorem D5e (ha:G5 pb bl) (hm:D3 w0 Bo bl φ w) {ns:List Nat} (hl:m8 w (B4 (D0 pb ns) bl) bs ls) (hm1:D3 w0 Bo (B4 (D0 pb ns) bl) φ w) {b:Bool} {xs:List A} {j:Nat} {ys:List A} {bs':Bl} {ls':List E1} (h:A8E pb b j xs=some (ys,bs',ls'))
  (hsub:∀x,x∈ls'→x∈ls) (hnot:∀x,x∈ls'→x.n∉ns) (hns:∀n,n∈B3 b [] (xs.flatMap G0)→n∈ns) {vs:List Value} (hv:N1 w bl φ xs vs):N1 w (G1 (B4 (D0 pb ns) bl) φ bs ls) (J7 (B4 (D0 pb ns) bl) φ ls) ys vs:=by
 unfold A8E at h
 cases b with
 |true=>exact D8q ha hm hl hm1 xs _ _ _ _ h hsub hnot vs hv
 |false=>
  rw [Q8]at h hns
  split at h
  ·rename_i cs hc
   cases h
   exact D5l (B6r hm1 hl) (C7E xs _ hc) (C9R ha hm xs _ vs hns hc hv)
  ·cases h
theorem F6r (ha:G5 pb bl) (hm:D3 w0 Bo bl φ w) {ns:List Nat} (hl:m8 w (B4 (D0 pb ns) bl) bs ls) (hm1:D3 w0 Bo (B4 (D0 pb ns) bl) φ w) {mc:Nat→Bool} {j:Nat} {ms:List PM} {args asx:List V} {bs':Bl} {ls':List E1} (h:A5r mc pb j ms args asx bs' ls'):
  (∀x,x∈ls'→x∈ls)→(∀x,x∈ls'→x.n∉ns)→(∀n,n∈B1y mc ms args→n∈ns)→∀vs,M9 w bl φ args vs→M9 w (G1 (B4 (D0 pb ns) bl) φ bs ls) (J7 (B4 (D0 pb ns) bl) φ ls) asx vs:=by
 have ho:=B6r hm1 hl
 have st:=z9 ha hm ns
 induction h with
 |nil=>intro _ _ _ vs hv;cases hv;exact .nil
 | @cons j m v a b c ms vs asx bs' cs' h1 h2 ih=>
  intro hsub hnot hoth us hv
  cases hv with
  | @cons _ u _ us hv1 hv2=>
   refine .cons ?_ (ih (fun x hx=>hsub x (List.mem_append_right _ hx)) (fun x hx=>hnot x (List.mem_append_right _ hx)) (fun n hn=>hoth n (by
    cases m with
    |bor=>exact hn
    |d t=>exact List.mem_append_right _ hn
    |fn=>exact List.mem_append_right _ hn)) us hv2)
   cases h1 with
   | @d _ t x z hz hq hf=>
    refine A2A ho (Or.inl ⟨_,_,rfl⟩) (A7C ha hm (ns:=ns) (fun n hn hlv=>?_) hz hv1)
    cases m with
    |bor=>exact absurd hlv (hq rfl n hn)
    |d t=>exact hoth n (List.mem_append_left _ hn)
    |fn=>exact absurd rfl hf
   | @fn f caps cs bs2 cs2 hc=>
    obtain⟨cv,e1,e2⟩:=hv1
    exact⟨cv,e1,D5e ha hm hl hm1 hc (fun x hx=>hsub x (List.mem_append_left _ hx)) (fun x hx=>hnot x (List.mem_append_left _ hx)) (fun n hn=>hoth n (List.mem_append_left _ hn)) e2⟩
   | @lent n cut t l tl hp=>
    have hx:(⟨j,n,cut⟩:E1)∈ls:=hsub _ (List.mem_append_left _ (List.mem_singleton.2 rfl))
    have hnn:n∉ns:=hnot ⟨j,n,cut⟩ (List.mem_append_left _ (List.mem_singleton.2 rfl))
    have hbn:bl n= .live t l tl:=by rw [ha n (by rw [hp];intro e;cases e),hp]
    have hb1:B4 (D0 pb ns) bl n= .live t l tl:=by rw [A3E _ _ hnn,hbn]
    obtain⟨g0,t',l',tl',g1,g2⟩:=hl.ls_ _ hx
    rw [hb1]at g1
    cases g1
    have e0:G1 (B4 (D0 pb ns) bl) φ bs ls (2000+j)= .live t (L6 cut l) false:=by
     unfold G1;rw [if_pos g0,W7]
     have g2:A8 bs (2000+j)=some (.live t (L6 cut l) false):=g2
     rw [g2]
    have e1:J7 (B4 (D0 pb ns) bl) φ ls (2000+j)=X0 (B4 (D0 pb ns) bl) φ ⟨j,n,cut⟩:=by
     unfold J7;rw [if_pos g0]
     have:=B1r hl.j_ hx
     have this:A3d ls (2000+j)=some ⟨j,n,cut⟩:=this
     rw [this]
    show C2 w _ _ (.ref (2000+j)) u
    simp only [C2,e0,e1]
    unfold X0
    rw [hb1]
    simp only
    cases cut with
    |none=>
     have hv1:C2 w bl φ (.ref n) u:=hv1
     simp only [C2,hbn]at hv1
     exact hv1
    |some q=>
     obtain⟨lo,hi⟩:=q
     have hv1:C2 w bl φ (.part n lo hi) u:=hv1
     simp only [C2,hbn]at hv1
     obtain⟨k0,k1,k2,ad,cap,rfl,k3,k4⟩:=hv1
     have hlen:(L6 (some (lo,hi)) l).length=(hi-lo).toNat:=A4Z (l:=l) k0 k1 k2
     rcases k4 with rfl| ⟨h1,rfl,h3⟩
     ·refine Or.inl ⟨by rw [hlen];omega,ad,?_⟩
      congr 1;omega
     ·simp only
      rw [if_pos h1]
      refine Or.inr ⟨rfl,cap,by rw [hlen],by rw [hlen];exact k3,h3⟩
end
theorem A9o {d:Nat}:∀(rms:List RM) (j n:Nat),n∈F5 d j rms→∃k,n=I1 d k∧j≤k∧k<j+rms.length
 | [],j,n,h=>by cases h
 |m::ms,j,n,h=>by
  have ih:=A9o (d:=d) ms (j+1) n
  cases m with
  |own t=>
   simp only [F5]at h
   rcases List.mem_cons.1 h with rfl|h
   ·exact⟨j,rfl,Nat.le_refl _,by simp⟩
   ·obtain⟨k,h1,h2,h3⟩:=ih h;exact⟨k,h1,by omega,by simp only [List.length_cons];omega⟩
  |d t=>obtain⟨k,h1,h2,h3⟩:=ih h;exact⟨k,h1,by omega,by simp only [List.length_cons];omega⟩
  |vw=>obtain⟨k,h1,h2,h3⟩:=ih h;exact⟨k,h1,by omega,by simp only [List.length_cons];omega⟩
  |sh=>obtain⟨k,h1,h2,h3⟩:=ih h;exact⟨k,h1,by omega,by simp only [List.length_cons];omega⟩
  |fn=>obtain⟨k,h1,h2,h3⟩:=ih h;exact⟨k,h1,by omega,by simp only [List.length_cons];omega⟩
theorem C1S {d j k:Nat} (h:I1 d j=I1 d k):j=k:=by unfold I1 at h;omega
theorem B1u {us:Bl} {d:Nat}:∀(rms:List RM) (j:Nat) (b2:Bl),B4u us d j rms=some b2→
  (∀n,A8 b2 n≠none→n∈F5 d j rms)∧(∀k,I1 d k∈F5 d j rms→∃t l,F9 us (3000+k)= .live t l true∧A8 b2 (I1 d k)=some (.live t l true))
 | [],j,b2,h=>by cases h;exact⟨fun n h=>absurd rfl h,(fun k hk=>by cases hk)⟩
 | .own t0::ms,j,b2,h=>by
  unfold B4u at h
  split at h
  ·rename_i t l m h1 h2
   cases h
   obtain⟨i1,i2⟩:=B1u ms (j+1) m h2
   refine⟨fun n hn=>?_,fun k hk=>?_⟩
   ·by_cases e:I1 d j=n
    ·exact e▸List.mem_cons_self
    ·have:A8 m n≠none:=by
      intro q;apply hn
      show(B3 (Nat.beq (I1 d j) n) (some _)<|A8 m n)=none
      have:Nat.beq (I1 d j) n=false:=by rw [Bool.eq_false_iff];intro q;exact e (Nat.eq_of_beq_eq_true q)
      rw [this];exact q
     exact List.mem_cons_of_mem _ (i1 n this)
   ·by_cases e:k=j
    ·subst e
     refine⟨t,l,h1,?_⟩
     show(B3 (Nat.beq (I1 d k) (I1 d k)) (some _)<|A8 m _)=_
     rw [Nat.beq_refl];rfl
    ·have hk':I1 d k∈F5 d (j+1) ms:=by
      rcases List.mem_cons.1 hk with q|q
      ·exact absurd (C1S q) e
      ·exact q
     obtain⟨t',l',g1,g2⟩:=i2 k hk'
     refine⟨t',l',g1,?_⟩
     show(B3 (Nat.beq (I1 d j) (I1 d k)) (some _)<|A8 m _)=_
     have:Nat.beq (I1 d j) (I1 d k)=false:=by rw [Bool.eq_false_iff];intro q;exact e (C1S (Nat.eq_of_beq_eq_true q)).symm
     rw [this];exact g2
  ·cases h
 | .d t::ms,j,b2,h=>B1u ms (j+1) b2 h
 | .vw::ms,j,b2,h=>B1u ms (j+1) b2 h
 | .sh::ms,j,b2,h=>B1u ms (j+1) b2 h
 | .fn::ms,j,b2,h=>B1u ms (j+1) b2 h
def A6m {t:Ty} (c:Option (Int×Int)) (l l':List t.T):List t.T:=match c with|none=>l'|some (lo,hi)=>l.take lo.toNat++l'++l.drop hi.toNat
theorem D7M {pb:Nat→A9} {us:Bl}:∀(ls:List E1) (b1:Bl),(∀x y,x∈ls→y∈ls→x.n=y.n→x=y)→B7u pb us ls=some b1→
  (∀n,A8 b1 n≠none→∃x,x∈ls∧x.n=n)∧(∀x,x∈ls→∃(t:Ty) (l l':List t.T) (tl tl':Bool),pb x.n= .live t l tl∧F9 us (2000+x.j)= .live t l' tl'∧A8 b1 x.n=some (.live t (A6m x.cut l l') tl))
 | [],b1,_,h=>by cases h;exact⟨fun n h=>absurd rfl h,(fun x hx=>by cases hx)⟩
 |x::ls,b1,hn,h=>by
  unfold B7u at h
  split at h
  ·rename_i y m h1 h2
   cases h
   obtain⟨i1,i2⟩:=D7M ls m (fun a b ha hb=>hn a b (List.mem_cons_of_mem _ ha) (List.mem_cons_of_mem _ hb)) h2
   unfold D8d at h1
   split at h1
   ·rename_i t l tl t' l' tl' hp hu
    split at h1
    ·rename_i ht
     subst ht
     have hy:y=(x.n, .live t' (A6m x.cut l l') tl):=by
      cases hc:x.cut with
      |none=>rw [hc]at h1;exact(Option.some.inj h1).symm
      |some q=>obtain⟨lo,hi⟩:=q;rw [hc]at h1;exact(Option.some.inj h1).symm
     subst hy
     refine⟨fun n hk=>?_,fun z hz=>?_⟩
     ·by_cases e:x.n=n
      ·exact⟨x,List.mem_cons_self,e⟩
      ·have:A8 m n≠none:=by
        intro q;apply hk
        show(B3 (Nat.beq x.n n) (some _)<|A8 m n)=none
        have:Nat.beq x.n n=false:=by rw [Bool.eq_false_iff];intro q;exact e (Nat.eq_of_beq_eq_true q)
        rw [this];exact q
       obtain⟨z,hz,e⟩:=i1 n this
       exact⟨z,List.mem_cons_of_mem _ hz,e⟩
     ·by_cases e:z=x
      ·subst e
       refine⟨t',l,l',tl,tl',hp,hu,?_⟩
       show(B3 (Nat.beq z.n z.n) (some _)<|A8 m _)=_
       rw [Nat.beq_refl];rfl
      ·have hz':z∈ls:=by
        rcases List.mem_cons.1 hz with q|q
        ·exact absurd q e
        ·exact q
       obtain⟨t2,l2,l2',tl2,tl2',g1,g2,g3⟩:=i2 z hz'
       refine⟨t2,l2,l2',tl2,tl2',g1,g2,?_⟩
       show(B3 (Nat.beq x.n z.n) (some _)<|A8 m _)=_
       have:Nat.beq x.n z.n=false:=by
        rw [Bool.eq_false_iff];intro q
        exact e (hn x z List.mem_cons_self hz (Nat.eq_of_beq_eq_true q)).symm
       rw [this];exact g3
    ·cases h1
   ·cases h1
  ·cases h
def z7 (φ φ':Nat→Addr) (os:List Nat) (d n:Nat):Addr:=if G3 os n=true then φ' (3000+(n-(4000+8*d)))else φ n
theorem D5x {bl:Nat→A9}:∀(l:List Nat),B5h bl l=true→∀n,n∈l→bl n= .fresh
 | [],_,n,h=>by cases h
 |m::l,h,n,hn=>by
  unfold B5h at h
  split at h
  ·rename_i hm
   rcases List.mem_cons.1 hn with rfl|hn
   ·exact hm
   ·exact D5x l h n hn
  ·cases h
theorem B9L {t:Ty} {l l':List t.T} {c:Option (Int×Int)} (hc:∀lo hi,c=some (lo,hi)→0≤lo∧lo≤hi∧hi≤l.length) (hl:l'.length=(L6 c l).length):
  (A6m c l l').length=l.length∧∀(i:Nat) y,K9 (A6m c l l') i=some y→
   (∃k,i=b8 c+k∧K9 l' k=some y)∨(K9 l i=some y∧∃lo hi,c=some (lo,hi)∧(i<lo.toNat∨hi.toNat≤i)):=by
 cases hcc:c with
 |none=>subst hcc;exact⟨hl,fun i y hy=>Or.inl ⟨i,by simp [b8],hy⟩⟩
 |some q=>
  obtain⟨lo,hi⟩:=q
  obtain⟨h0,h1,h2⟩:=hc lo hi hcc
  subst hcc
  have hl:l'.length=(hi-lo).toNat:=by rw [hl];exact A4Z h0 h1 h2
  constructor
  ·simp only [A6m,List.length_append,List.length_take,List.length_drop];omega
  ·intro i y hy
   unfold K9 A6m at hy
   simp only at hy
   have ht:(l.take lo.toNat).length=lo.toNat:=by rw [List.length_take];omega
   by_cases hi1:i<lo.toNat
   ·rw [List.append_assoc,List.getElem?_append_left (by rw [ht];exact hi1),List.getElem?_take_of_lt hi1]at hy
    exact Or.inr ⟨hy,lo,hi,rfl,Or.inl hi1⟩
   ·rw [List.append_assoc,List.getElem?_append_right (by rw [ht];omega),ht]at hy
    by_cases hi2:i-lo.toNat<l'.length
    ·rw [List.getElem?_append_left hi2]at hy
     exact Or.inl ⟨i-lo.toNat,by simp only [b8];omega,hy⟩
    ·rw [List.getElem?_append_right (by omega),List.getElem?_drop]at hy
     refine Or.inr ⟨?_,lo,hi,rfl,Or.inr (by omega)⟩
     unfold K9
     rw [←hy];congr 1;omega
section
variable {w0 w w':World} {Bo:Nat→Nat→Prop} {bl:Nat→A9} {φ φ':Nat→Addr} {bs us b1 b2:Bl} {ls:List E1} {d:Nat} {rms:List RM}
structure A5F (bl:Nat→A9) (us b1 b2:Bl) (ls:List E1) (d:Nat) (rms:List RM):Prop where
 usS:∀q,q∈us→q.1<10000
 fresh:∀n,n∈F5 d 0 rms→bl n= .fresh
 own1:∀n,A8 b2 n≠none→n∈F5 d 0 rms
 own2:∀k,I1 d k∈F5 d 0 rms→k<900∧∃t l,F9 us (3000+k)= .live t l true∧A8 b2 (I1 d k)=some (.live t l true)
 len1:∀n,A8 b1 n≠none→∃x,x∈ls∧x.n=n
 len2:∀x,x∈ls→∃(t:Ty) (l l':List t.T) (tl tl':Bool),bl x.n= .live t l tl∧F9 us (2000+x.j)= .live t l' tl'∧A8 b1 x.n=some (.live t (A6m x.cut l l') tl)
theorem E0g (hb:∀q,q∈us→q.1<10000) {bl0:Nat→A9} {n:Nat} (hn:¬n<10000):B4 us bl0 n=bl0 n:=by
 refine g7 ?_
 cases h:A8 us n with
 |none=>rfl
 |some b=>exact absurd (hb _ (Z9 _ _ _ h)) hn
theorem B4g (hb:A5F bl us b1 b2 ls d rms) (hm:m8 w bl bs ls) {x:E1} (hx:x∈ls):∃(t:Ty) (l l':List t.T) (tl tl':Bool),bl x.n= .live t l tl∧B4 us (G1 bl φ bs ls) (2000+x.j)= .live t l' tl'∧B4 (b1++b2) bl x.n= .live t (A6m x.cut l l') tl∧G1 bl φ bs ls (2000+x.j)= .live t (L6 x.cut l) false:=by
 obtain⟨t,l,l',tl,tl',h1,h2,h3⟩:=hb.len2 x hx
 obtain⟨g0,t2,l2,tl2,g1,g2⟩:=hm.ls_ x hx
 rw [h1]at g1;cases g1
 refine⟨t,l,l',tl,tl',h1,by rw [D6U (by rw [h2];intro e;cases e),h2],?_,?_⟩
 ·rw [A5Y];exact A6x h3
 ·unfold G1;rw [if_pos g0,W7,g2]
theorem B1p (hb:A5F bl us b1 b2 ls d rms) (hls:∀x,x∈ls→live (bl x.n)) {k:Nat} (hk:I1 d k∈F5 d 0 rms):∃t l,(∀bl0,B4 us bl0 (3000+k)= .live t l true)∧B4 (b1++b2) bl (I1 d k)= .live t l true:=by
 obtain⟨_,t,l,h1,h2⟩:=hb.own2 k hk
 refine⟨t,l,fun bl0=>by rw [D6U (by rw [h1];intro e;cases e),h1],?_⟩
 rw [A5Y]
 have:A8 b1 (I1 d k)=none:=by
  cases h:A8 b1 (I1 d k)with
  |none=>rfl
  |some b=>
   obtain⟨x,hx,e⟩:=hb.len1 _ (by rw [h];intro e;cases e)
   obtain⟨_,_,_,e2⟩:=hls x hx
   rw [e,hb.fresh _ hk]at e2;cases e2
 rw [g7 this];exact A6x h2
theorem B7Y (hb:A5F bl us b1 b2 ls d rms) {n:Nat} (h1:∀x,x∈ls→x.n≠n) (h2:n∉F5 d 0 rms):B4 (b1++b2) bl n=bl n:=by
 rw [A5Y,g7,g7]
 ·cases h:A8 b2 n with
  |none=>rfl
  |some b=>exact absurd (hb.own1 n (by rw [h];intro e;cases e)) h2
 ·cases h:A8 b1 n with
  |none=>rfl
  |some b=>
   obtain⟨x,hx,e⟩:=hb.len1 n (by rw [h];intro e;cases e)
   exact absurd e (h1 x hx)
theorem A6Q {k:Nat} (hk:I1 d k∈F5 d 0 rms):z7 φ φ' (F5 d 0 rms) d (I1 d k)=φ' (3000+k):=by
 unfold z7
 rw [if_pos (t8.2 hk)]
 unfold I1
 congr 2;omega
theorem A1x {n:Nat} (h:n∉F5 d 0 rms):z7 φ φ' (F5 d 0 rms) d n=φ n:=by
 unfold z7
 rw [if_neg (fun e=>h (t8.1 e))]
theorem B9v (hm:m8 w bl bs ls) {x:E1} (hx:x∈ls):J7 bl φ ls (2000+x.j)=X0 bl φ x:=by
 unfold J7;rw [if_pos (hm.ls_ x hx).1,B1r hm.j_ hx]
theorem C5E (m:D3 w0 Bo bl φ w) (hm:m8 w bl bs ls) (hb:A5F bl us b1 b2 ls d rms) (st:E3 w (S5 bs (J7 bl φ ls)) (G1 bl φ bs ls) (J7 bl φ ls) w (B4 us (G1 bl φ bs ls)) φ' w') (b:Nat)
  (ho:C8 (B4 (b1++b2) bl) (z7 φ φ' (F5 d 0 rms) d) b):C8 (B4 us (G1 bl φ bs ls)) φ' b:=by
 obtain⟨n,h1,h2,h3⟩:=ho
 have hls:∀x,x∈ls→live (bl x.n):=fun x hx=>by obtain⟨_,t,l,tl,g,_⟩:=hm.ls_ x hx;exact⟨t,l,tl,g⟩
 have foreign:∀n,live (bl n)→¬B7E bl φ ls n→(φ n).spot=none→(φ n).block=b→C8 (B4 us (G1 bl φ bs ls)) φ' b:=by
  intro n h1 hx h2 h3
  have e0:G1 bl φ bs ls (10000+n)=bl n:=by
   unfold G1
   rw [if_neg (by omega),show 10000+n-10000=n from by omega,if_neg hx]
  have e1:J7 bl φ ls (10000+n)=φ n:=by unfold J7;rw [if_neg (by omega),show 10000+n-10000=n from by omega]
  have e2:B4 us (G1 bl φ bs ls) (10000+n)=bl n:=by rw [E0g hb.usS (by omega),e0]
  have hne:G1 bl φ bs ls (10000+n)≠ .fresh:=by rw [e0];obtain⟨_,_,_,q⟩:=h1;rw [q];intro e;cases e
  have e3:=(st.goes.le (10000+n) hne).2 (by rw [e2];obtain⟨_,_,_,q⟩:=h1;rw [q];rfl)
  exact⟨10000+n,by rw [e2];exact h1,by rw [e3,e1];exact h2,by rw [e3,e1];exact h3⟩
 by_cases hx:∃x,x∈ls∧x.n=n
 ·obtain⟨x,hx,rfl⟩:=hx
  have hno:x.n∉F5 d 0 rms:=by
   intro e;obtain⟨_,_,_,q⟩:=hls x hx;rw [hb.fresh _ e]at q;cases q
  rw [A1x hno]at h2 h3
  by_cases hr:B7E bl φ ls x.n
  ·obtain⟨y,hy,e,hs⟩:=hr
   have:=hm.n_ y x hy hx e
   subst this
   obtain⟨t,l,l',tl,tl',g1,g2,g3,g4⟩:=B4g hb hm hx
   have e3:=(st.goes.le (2000+y.j) (by rw [g4];intro e;cases e)).2 (by rw [g2];rfl)
   rw [B9v hm hx]at e3
   obtain⟨k1,k2,_⟩:=A4c hs g1 m
   exact⟨2000+y.j,⟨_,_,_,g2⟩,by rw [e3];exact hs,by rw [e3,k2];exact h3⟩
  ·exact foreign x.n (hls x hx) hr h2 h3
 ·by_cases hn:n∈F5 d 0 rms
  ·obtain⟨k,rfl,_,_⟩:=A9o rms 0 n hn
   rw [A6Q hn]at h2 h3
   obtain⟨t,l,g1,g2⟩:=B1p hb hls hn
   exact⟨3000+k,⟨t,l,true,g1 _⟩,h2,h3⟩
  ·rw [A1x hn]at h2 h3
   rw [B7Y hb (fun x hx' e=>hx ⟨x,hx',e⟩) hn]at h1
   exact foreign n h1 (fun⟨x,hx',e,_⟩=>hx ⟨x,hx',e⟩) h2 h3
end
section
variable {w0 w w':World} {Bo:Nat→Nat→Prop} {bl:Nat→A9} {φ φ':Nat→Addr} {bs us b1 b2:Bl} {ls:List E1} {d:Nat} {rms:List RM}
theorem B7x (m:D3 w0 Bo bl φ w) (hm:m8 w bl bs ls) {b o:Nat} (h:S5 bs (J7 bl φ ls) b o):∃x,x∈ls∧∃(t:Ty) (l:List t.T) (tl:Bool),bl x.n= .live t l tl∧(φ x.n).spot=none∧(φ x.n).block=b∧
  (φ x.n).off+b8 x.cut*t.sz≤o∧o<(φ x.n).off+b8 x.cut*t.sz+(L6 x.cut l).length*t.sz:=by
 obtain⟨n,t,l,tl,hn,h1,h2,h3,h4,h5⟩:=h
 obtain⟨x,hx,rfl,_,_,l0,tl0,hb,rfl⟩:=hm.small h1
 rw [B9v hm hx]at h2 h3 h4 h5
 obtain⟨k1,k2,k3,k4⟩:=A4c h2 hb m
 rw [k4]at h4 h5
 exact⟨x,hx,t,l0,tl0,hb,k1,by rw [←k2];exact h3,h4,h5⟩
theorem E5n (m:D3 w0 Bo bl φ w) {x:E1} {t:Ty} {l:List t.T} {tl:Bool} (hb:bl x.n= .live t l tl) (hs:(φ x.n).spot=none) (hne:L6 x.cut l≠[]):(X0 bl φ x).spot=none:=by
 unfold X0
 rw [hb]
 simp only
 cases x.cut with
 |none=>exact hs
 |some q=>obtain⟨lo,hi⟩:=q;simp only;rw [if_pos hs]
theorem F3B (m:D3 w0 Bo bl φ w) (hm:m8 w bl bs ls) (hb:A5F bl us b1 b2 ls d rms) (st:E3 w (S5 bs (J7 bl φ ls)) (G1 bl φ bs ls) (J7 bl φ ls) w (B4 us (G1 bl φ bs ls)) φ' w'):
  E3 w0 Bo bl φ w (B4 (b1++b2) bl) (z7 φ φ' (F5 d 0 rms) d) w':=by
 have hls:∀x,x∈ls→live (bl x.n):=fun x hx=>by obtain⟨_,t,l,tl,g,_⟩:=hm.ls_ x hx;exact⟨t,l,tl,g⟩
 have hfr:=st.mem.fr
 have hno:∀x,x∈ls→x.n∉F5 d 0 rms:=by
  intro x hx e;obtain⟨_,_,_,q⟩:=hls x hx;rw [hb.fresh _ e]at q;cases q
 have hnew:∀k,I1 d k∈F5 d 0 rms→(φ' (3000+k)).spot=none→w.heap.size≤(φ' (3000+k)).block:=by
  intro k hk hs
  obtain⟨hk9,_⟩:=hb.own2 k hk
  obtain⟨t,l,g1,_⟩:=B1p hb hls hk
  rcases st.mem.lo (3000+k) t l true (by omega) (g1 _) hs with h| ⟨h,_⟩
  ·exact h
  ·cases h
 have hown:=C5E m hm hb st
 have he:N9 w (C8 bl φ) w' (C8 (B4 (b1++b2) bl) (z7 φ φ' (F5 d 0 rms) d)):=by
  refine hfr.ext (fun b o _ h=>?_) fun b hbw ho=>?_
  ·obtain⟨x,hx,t,l,tl,g1,g2,g3,_⟩:=B7x m hm h
   exact⟨x.n,⟨_,_,_,g1⟩,g2,g3⟩
  ·obtain⟨n,h1,h2,h3⟩:=ho
   by_cases hx:∃x,x∈ls∧x.n=n
   ·obtain⟨x,hx,rfl⟩:=hx
    rw [A1x (hno x hx)]at h2 h3
    exact⟨x.n,hls x hx,h2,h3⟩
   ·by_cases hn:n∈F5 d 0 rms
    ·obtain⟨k,rfl,_,_⟩:=A9o rms 0 n hn
     rw [A6Q hn]at h2 h3
     have:=hnew k hn h2
     omega
    ·rw [A1x hn]at h2 h3
     rw [B7Y hb (fun x hx' e=>hx ⟨x,hx',e⟩) hn]at h1
     exact⟨n,h1,h2,h3⟩
 have heo:N9 w' (C8 (B4 us (G1 bl φ bs ls)) φ') w' (C8 (B4 (b1++b2) bl) (z7 φ φ' (F5 d 0 rms) d)):=(M3.refl w' (fun _ _=>False)).ext (fun _ _ _ h=>h.elim) fun b _=>hown b
 refine A5L m (fun n=>(∃x,x∈ls∧x.n=n)∨n∈F5 d 0 rms) (fun n hn=>?_) (fun n hn hf=>?_) he (fun n hn hl hs o v hv=>?_) (fun n hn=>?_) (fun n k hn h1 h2 h3 h4 h5=>?_) (fun n t l tl hn hlt h1 h2=>?_) ?_
 ·rw [not_or]at hn
  exact⟨B7Y hb (fun x hx e=>hn.1 ⟨x,hx,e⟩) hn.2,A1x hn.2⟩
 ·rcases hn with⟨x,hx,rfl⟩|hn
  ·obtain⟨t,l,l',tl,tl',g1,g2,g3,g4⟩:=B4g hb hm hx
   rw [g1,g3]
   have hc:=fun lo hi e=>hm.cut x hx lo hi e t l tl g1
   have hlen:l'.length=(L6 x.cut l).length:=by
    have:=(st.goes.le (2000+x.j) (by rw [g4];intro e;cases e)).1
    rw [g4,g2]at this
    cases this with
    |same=>rfl
    |wrote h=>exact h
   exact⟨.wrote (B9L hc hlen).1,fun _=>A1x (hno x hx)⟩
  ·exact absurd (hb.fresh n hn) hf
 ·rw [not_or]at hn
  refine(hfr.cell _ _ (A7q hv) fun h=>?_).trans hv
  obtain⟨x,hx,t,l,tl,g1,g2,g3,_⟩:=B7x m hm h
  exact hn.1 ⟨x,hx,m.uniq _ _ ⟨_,_,_,g1⟩ hl g2 hs g3⟩
 ·rcases hn with⟨x,hx,rfl⟩|hn
  ·obtain⟨t,l,l',tl,tl',g1,g2,g3,g4⟩:=B4g hb hm hx
   rw [g3,A1x (hno x hx)]
   have hc:=fun lo hi e=>hm.cut x hx lo hi e t l tl g1
   have hle:=st.goes.le (2000+x.j) (by rw [g4];intro e;cases e)
   have hlen:l'.length=(L6 x.cut l).length:=by
    have:=hle.1
    rw [g4,g2]at this
    cases this with
    |same=>rfl
    |wrote h=>exact h
   have hφ:=hle.2 (by rw [g2];rfl)
   rw [B9v hm hx]at hφ
   obtain⟨s1,s2⟩:=B9L hc hlen
   have hk:=m.blk x.n
   rw [g1]at hk
   rcases hk with⟨k1,k2⟩| ⟨k1,k2,k3,k4⟩
   ·exact Or.inl ⟨k1,by rw [s1];exact k2⟩
   ·refine Or.inr ⟨k1,Nat.lt_of_lt_of_le k2 hfr.size,fun i y hy=>?_,fun j hj=>?_⟩
    ·rcases s2 i y hy with⟨k,rfl,hy'⟩| ⟨hy',lo,hi,e,hr⟩
     ·have hne:L6 x.cut l≠[]:=by
       intro e
       have:=E8C hy'
       rw [hlen,e]at this;simp at this
      have hsp:=E5n m g1 k1 hne
      obtain⟨_,a2,_,a4⟩:=A4c hsp g1 m
      have hk':=st.mem.blk (2000+x.j)
      rw [g2,hφ]at hk'
      rcases hk' with hk'| ⟨_,_,q3,_⟩
      ·exact absurd hsp hk'.1
      ·obtain⟨ci,r1,r2⟩:=q3 k y hy'
       refine⟨ci,?_,S9 heo _ _ _ r2⟩
       rw [a2,a4]at r1
       rw [Nat.add_mul,←Nat.add_assoc]
       exact r1
     ·obtain⟨ci,r1,r2⟩:=k3 i y hy'
      refine⟨ci,fun q v hq=>?_,S9 he _ _ _ r2⟩
      have hcl:=G7 _ _ _ r2
      have hqs:q<t.sz:=by
       rcases Nat.lt_or_ge q ci.length with h|h
       ·omega
       ·rw [List.getElem?_eq_none h]at hq;cases hq
      refine(hfr.cell _ _ k2 fun h=>?_).trans (r1 q v hq)
      obtain⟨x2,hx2,t2,l2,tl2,u1,u2,u3,u4,u5⟩:=B7x m hm h
      have:=hm.n_ x2 x hx2 hx (m.uniq _ _ ⟨_,_,_,u1⟩ (hls x hx) u2 k1 u3)
      subst this
      rw [g1]at u1;cases u1
      obtain⟨c0,c1,c2⟩:=hc lo hi e
      rw [e]at u4 u5
      have hsl:(L6 (some (lo,hi)) l).length=(hi-lo).toNat:=A4Z c0 c1 c2
      rw [hsl]at u5
      simp only [b8]at u4 u5
      rcases hr with hr|hr
      ·have:=B3K hr hqs;omega
      ·have h1:hi.toNat*t.sz≤i*t.sz:=Nat.mul_le_mul_right _ hr
       have h2:lo.toNat*t.sz+(hi-lo).toNat*t.sz=hi.toNat*t.sz:=by
        rw [←Nat.add_mul];congr 1;omega
       omega
    ·rw [s1]at hj
     exact⟨hfr.some_ _ _ (k4 j hj).1,(hfr.froz _ _ k2).trans (k4 j hj).2⟩
  ·obtain⟨k,rfl,_,_⟩:=A9o rms 0 n hn
   obtain⟨t,l,g1,g2⟩:=B1p hb hls hn
   rw [A6Q hn,g2]
   have hk:=st.mem.blk (3000+k)
   rw [g1]at hk
   exact A8B heo (fun _ _ _ _ h=>h) hk
 ·have place:∀n,live (B4 (b1++b2) bl n)→(z7 φ φ' (F5 d 0 rms) d n).spot=none→(∃k,n=I1 d k∧n∈F5 d 0 rms)∨(n∉F5 d 0 rms∧live (bl n)):=by
   intro n hl hs
   by_cases hn:n∈F5 d 0 rms
   ·obtain⟨k,rfl,_,_⟩:=A9o rms 0 n hn
    exact Or.inl ⟨k,rfl,hn⟩
   ·by_cases hx:∃x,x∈ls∧x.n=n
    ·obtain⟨x,hx,rfl⟩:=hx
     exact Or.inr ⟨hn,hls x hx⟩
    ·rw [B7Y hb (fun x hx' e=>hx ⟨x,hx',e⟩) hn]at hl
     exact Or.inr ⟨hn,hl⟩
  rcases place n h1 h3 with⟨i,rfl,hi⟩| ⟨hi,hi2⟩
  ·rw [A6Q hi]at h3 h5
   rcases place k h2 h4 with⟨j,rfl,hj⟩| ⟨hj,hj2⟩
   ·rw [A6Q hj]at h4 h5
    obtain⟨t,l,g1,_⟩:=B1p hb hls hi
    obtain⟨t',l',g1',_⟩:=B1p hb hls hj
    have:=st.mem.uniq (3000+i) (3000+j) ⟨_,_,_,g1 _⟩ ⟨_,_,_,g1' _⟩ h3 h4 h5
    rw [show i=j from by omega]
   ·rw [A1x hj]at h4 h5
    have h6:=hnew i hi h3
    have h7:=m.at_ k (by obtain⟨_,_,_,q⟩:=hj2;rw [q];rfl) h4
    omega
  ·rw [A1x hi]at h3 h5
   rcases place k h2 h4 with⟨j,rfl,hj⟩| ⟨hj,hj2⟩
   ·rw [A6Q hj]at h4 h5
    have h6:=hnew j hj h4
    have h7:=m.at_ n (by obtain⟨_,_,_,q⟩:=hi2;rw [q];rfl) h3
    omega
   ·rw [A1x hj]at h4 h5
    exact m.uniq n k hi2 hj2 h3 h4 h5
 ·rcases hn with⟨x,hx,rfl⟩|hn
  ·obtain⟨t0,l0,l',tl0,tl',g1,g2,g3,g4⟩:=B4g hb hm hx
   rw [g3]at h1
   cases h1
   rw [A1x (hno x hx)]at h2⊢
   have hc:=fun lo hi e=>hm.cut x hx lo hi e t l0 tl g1
   have hlen:l'.length=(L6 x.cut l0).length:=by
    have:=(st.goes.le (2000+x.j) (by rw [g4];intro e;cases e)).1
    rw [g4,g2]at this
    cases this with
    |same=>rfl
    |wrote h=>exact h
   rw [(B9L hc hlen).1]
   exact m.lo x.n t l0 tl hlt g1 h2
  ·obtain⟨k,rfl,_,_⟩:=A9o rms 0 n hn
   rw [A6Q hn]at h2⊢
   exact Or.inl (Nat.le_trans m.fr.size (hnew k hn h2))
 ·refine m.fr.trans hfr fun b o hbw h=>?_
  obtain⟨x,hx,t,l,tl,g1,g2,g3,g4,g5⟩:=B7x m hm h
  rcases m.lo x.n t l tl (hm.nl x hx) g1 g2 with q| ⟨_,q⟩
  ·omega
  ·have hs:=D6Q (x:=x) (l:=l) fun lo hi e=>hm.cut x hx lo hi e t l tl g1
   have h7:(b8 x.cut+(L6 x.cut l).length)*t.sz≤l.length*t.sz:=Nat.mul_le_mul_right _ (by omega)
   rw [Nat.add_mul]at h7
   have:=q (o-(φ x.n).off) (by omega)
   rw [g3]at this
   rwa [show(φ x.n).off+(o-(φ x.n).off)=o from by omega]at this
end
section
variable {w0 w w':World} {Bo:Nat→Nat→Prop} {bl:Nat→A9} {φ φ':Nat→Addr} {bs us b1 b2:Bl} {ls:List E1} {d:Nat} {rms:List RM}
theorem D5c (m:D3 w0 Bo bl φ w) (hm:m8 w bl bs ls) (hb:A5F bl us b1 b2 ls d rms) (st:E3 w (S5 bs (J7 bl φ ls)) (G1 bl φ bs ls) (J7 bl φ ls) w (B4 us (G1 bl φ bs ls)) φ' w') {x y:A}
  (h:B5E ls (F5 d 0 rms) d x=some y) {v:Value} (hr:C2 w' (B4 us (G1 bl φ bs ls)) φ' x v):C2 w' (B4 (b1++b2) bl) (z7 φ φ' (F5 d 0 rms) d) y v:=by
 have hls:∀x,x∈ls→live (bl x.n):=fun x hx=>by obtain⟨_,t,l,tl,g,_⟩:=hm.ls_ x hx;exact⟨t,l,tl,g⟩
 have hown:=C5E m hm hb st
 unfold B5E at h
 split at h
 ·rename_i k
  cases hc:(Nat.ble 3000 k&&G3 (F5 d 0 rms) (I1 d (k-3000)))with
  |false=>rw [hc]at h;cases h
  |true=>
   rw [hc]at h
   cases h
   rw [Bool.and_eq_true]at hc
   have h3:3000≤k:=Nat.le_of_ble_eq_true hc.1
   have hk:=t8.1 hc.2
   obtain⟨i,rfl⟩:∃i,k=3000+i:=⟨k-3000,by omega⟩
   rw [show 3000+i-3000=i from by omega]at hk⊢
   obtain⟨t,l,g1,g2⟩:=B1p hb hls hk
   simp only [C2,g1,g2,A6Q hk]at hr⊢
   exact hr
 ·rename_i k p q
  split at h
  ·rename_i x hx
   obtain⟨hxl,rfl⟩:=F2k hx
   obtain⟨t,l,l',tl,tl',g1,g2,g3,g4⟩:=B4g hb hm hxl
   have hle:=st.goes.le (2000+x.j) (by rw [g4];intro e;cases e)
   have hlen:l'.length=(L6 x.cut l).length:=by
    have:=hle.1
    rw [g4,g2]at this
    cases this with
    |same=>rfl
    |wrote h=>exact h
   have hφ:=hle.2 (by rw [g2];rfl)
   rw [B9v hm hxl]at hφ
   have hc:=fun lo hi e=>hm.cut x hxl lo hi e t l tl g1
   have s1:=(B9L hc hlen).1
   have hno:x.n∉F5 d 0 rms:=by
    intro e;obtain⟨_,_,_,q⟩:=hls x hxl;rw [hb.fresh _ e]at q;cases q
   simp only [C2,g2,hφ]at hr
   obtain⟨p0,p1,p2,ad,cap,rfl,p3,p4⟩:=hr
   rw [hlen]at p2
   have fin:∀lo hi:Int,0≤lo→lo≤hi→hi≤l.length→(hi-lo).toNat=(q-p).toNat→(p=q→lo=hi)→(∀hs:(X0 bl φ x).spot=none,(X0 bl φ x).off+p.toNat*t.sz=(φ x.n).off+lo.toNat*t.sz)→
     C2 w' (B4 (b1++b2) bl) (z7 φ φ' (F5 d 0 rms) d) (.part x.n lo hi) (.slice ad (q-p).toNat cap):=by
    intro lo hi h0 h1 h2 h3 h5 h4
    simp only [C2,g3,A1x hno,s1]
    refine⟨h0,h1,h2,ad,cap,by rw [h3],by rw [h3];exact p3,?_⟩
    rcases p4 with p4| ⟨p4,rfl,p5⟩
    ·exact Or.inl p4
    ·obtain⟨k1,k2,_⟩:=A4c p4 g1 m
     rw [h4 p4,k2]at p5
     exact Or.inr ⟨k1,by rw [h4 p4,k2],p5⟩
   split at h
   ·rename_i hcut
    cases h
    rw [hcut]at p2
    refine fin p q p0 p1 p2 rfl id fun hs=>?_
    obtain⟨_,_,_,k4⟩:=A4c hs g1 m
    rw [k4,hcut];simp [b8]
   ·rename_i lo hi hcut
    cases h
    obtain⟨c0,c1,c2⟩:=hc lo hi hcut
    rw [hcut]at p2
    have hsl:(L6 (some (lo,hi)) l).length=(hi-lo).toNat:=A4Z c0 c1 c2
    rw [hsl]at p2
    refine fin (lo+p) (lo+q) (by omega) (by omega) (by omega) (by congr 1;omega) (fun e=>by rw [e]) fun hs=>?_
    obtain⟨_,_,_,k4⟩:=A4c hs g1 m
    rw [k4,hcut]
    simp only [b8]
    rw [show(lo+p).toNat=lo.toNat+p.toNat from by omega,Nat.add_mul];omega
  ·cases h
 ·cases h;exact A2A hown (Or.inl ⟨_,_,rfl⟩) hr
 ·cases h;exact A2A hown (Or.inr ⟨_,_,rfl⟩) hr
 ·cases h
theorem D3K (m:D3 w0 Bo bl φ w) (hm:m8 w bl bs ls) (hb:A5F bl us b1 b2 ls d rms) (st:E3 w (S5 bs (J7 bl φ ls)) (G1 bl φ bs ls) (J7 bl φ ls) w (B4 us (G1 bl φ bs ls)) φ' w'):
  ∀(xs ys:List A) (vs:List Value),A8n ls (F5 d 0 rms) d xs=some ys→N1 w' (B4 us (G1 bl φ bs ls)) φ' xs vs→N1 w' (B4 (b1++b2) bl) (z7 φ φ' (F5 d 0 rms) d) ys vs
 | [],ys,vs,h,hr=>by cases h;cases hr;exact .nil
 |x::xs,ys,vs,h,hr=>by
  unfold A8n at h
  split at h
  ·rename_i y z h1 h2
   cases h
   cases hr with
   |cons r1 r2=>exact .cons (D5c m hm hb st h1 r1) (D3K m hm hb st xs z _ h2 r2)
  ·cases h
theorem D8Z {d:Nat}:∀(xs ys:List A),A8n [] [] d xs=some ys→ys=xs∧∀x,x∈xs→(∃t z,x= .v t z)∨(∃t z,x= .pv t z)
 | [],ys,h=>by cases h;exact⟨rfl,fun x h=>by cases h⟩
 |x::xs,ys,h=>by
  unfold A8n at h
  split at h
  ·rename_i y z h1 h2
   cases h
   obtain⟨i1,i2⟩:=D8Z xs z h2
   have:y=x∧((∃t z,x= .v t z)∨(∃t z,x= .pv t z)):=by
    unfold B5E at h1
    split at h1
    ·simp [G3]at h1
    ·simp [A3d]at h1
    ·cases h1;exact⟨rfl,Or.inl ⟨_,_,rfl⟩⟩
    ·cases h1;exact⟨rfl,Or.inr ⟨_,_,rfl⟩⟩
    ·cases h1
   obtain⟨rfl,hx⟩:=this
   exact⟨by rw [i1],fun q hq=>by rcases List.mem_cons.1 hq with rfl|hq;exact hx;exact i2 q hq⟩
  ·cases h
theorem F3I {w:World} {bl bl':Nat→A9} {φ φ':Nat→Addr} (ho:∀b,C8 bl' φ' b→C8 bl φ b) {xs:List A} {vs:List Value} (hx:∀x,x∈xs→(∃t z,x= .v t z)∨(∃t z,x= .pv t z)) (h:N1 w bl φ xs vs):N1 w bl' φ' xs vs:=by
 induction h with
 |nil=>exact .nil
 |cons h _ ih=>exact .cons (A2A ho (hx _ List.mem_cons_self) h) (ih fun x hx'=>hx x (List.mem_cons_of_mem _ hx'))
theorem F1M (m:D3 w0 Bo bl φ w) (hm:m8 w bl bs ls) (hb:A5F bl us b1 b2 ls d rms) (st:E3 w (S5 bs (J7 bl φ ls)) (G1 bl φ bs ls) (J7 bl φ ls) w (B4 us (G1 bl φ bs ls)) φ' w') {x y:V}
  (h:C8B ls (F5 d 0 rms) d x=some y) {v:Value} (hr:C3 w' (B4 us (G1 bl φ bs ls)) φ' x v):C3 w' (B4 (b1++b2) bl) (z7 φ φ' (F5 d 0 rms) d) y v:=by
 unfold C8B at h
 split at h
 ·split at h
  ·rename_i y h1;cases h;exact D5c m hm hb st h1 hr
  ·cases h
 ·split at h
  ·rename_i cs h1
   cases h
   obtain⟨rfl,hx⟩:=D8Z _ _ h1
   obtain⟨cv,e1,e2⟩:=hr
   exact⟨cv,e1,F3I (C5E m hm hb st) hx e2⟩
  ·cases h
 ·split at h
  ·rename_i ws h1
   cases h
   obtain⟨cv,e1,e2⟩:=hr
   exact⟨cv,e1,D3K m hm hb st _ _ _ h1 e2⟩
  ·cases h
end
section
variable {P:Program} {w0:World} {Bo:Nat→Nat→Prop} {pb:Nat→A9} {R:Type} {K:KV R} {r:R} {E:D7}
theorem A3w.mono {f:Nat} {args:Array Value} {w:World} {Q Q':Value→World→Prop} (h:A3w P f args w Q) (hq:∀v w',Q v w'→Q' v w'):A3w P f args w Q':=by
 rcases h with⟨h1,h2⟩| ⟨v,w',h1,h2⟩
 ·exact Or.inl ⟨h1,h2.mono fun e w' ⟨v,e1,e2⟩=>⟨v,e1,hq _ _ e2⟩⟩
 ·exact Or.inr ⟨v,w',h1,hq _ _ h2⟩
theorem E4n {w:World} {bl:Nat→A9} {φ:Nat→Addr} {xs ys:List V} {us vs:List Value} (h:M9 w bl φ xs us) (k:M9 w bl φ ys vs):M9 w bl φ (xs++ys) (us++vs):=by
 induction h with
 |nil=>exact k
 |cons h _ ih=>exact .cons h ih
theorem F4g {w:World} {bl:Nat→A9} {φ:Nat→Addr} {xs:List A} {us:List Value} (h:N1 w bl φ xs us):M9 w bl φ (xs.map V.a) us:=by
 induction h with
 |nil=>exact .nil
 |cons h _ ih=>exact .cons h ih
theorem E0a {mc:Nat→Bool} {w:World} {bl:Nat→A9} {φ:Nat→Addr} {j:Nat} {ms:List PM} {args asx:List V} {bs:Bl} {ls:List E1} (h:A5r mc pb j ms args asx bs ls):∀vs,M9 w bl φ args vs→
  ∀x,x∈ls→∀lo hi,x.cut=some (lo,hi)→∀t l tl,bl x.n= .live t l tl→0≤lo∧lo≤hi∧hi≤l.length:=by
 induction h with
 |nil=>intro vs _ x hx;cases hx
 | @cons j m v a b c ms vs asx bs cs h1 h2 ih=>
  intro us hv x hx lo hi hc t l tl hb
  cases hv with
  |cons r1 r2=>
   rcases List.mem_append.1 hx with hx|hx
   ·cases h1 with
    |d=>cases hx
    |fn hcm=>rw [(B8G hcm).2 x hx]at hc;cases hc
    | @lent n cut t0 l0 tl0 hp=>
     rw [List.mem_singleton]at hx
     subst hx
     simp only at hc hb
     subst hc
     have r1:C2 w bl φ (.part n lo hi) _:=r1
     simp only [C2,hb]at r1
     exact⟨r1.1,r1.2.1,r1.2.2.1⟩
   ·exact ih _ r2 x hx lo hi hc t l tl hb
theorem F7n {v:V} {us:Bl} {ls:List E1} {d:Nat} {rms:List RM} (h:C2u pb rms ls d v us K=some r):∃v' us',K v' us'=some r∧
  ∀(bl:Nat→A9) (φ φ':Nat→Addr) (w w':World) (u:Value),G5 pb bl→E3 w0 Bo bl φ w (B4 us bl) φ' w'→C3 w' (B4 us bl) φ' v u→
   ∃φ'',E3 w0 Bo bl φ w (B4 us' bl) φ'' w'∧C3 w' (B4 us' bl) φ'' v' u:=by
 have same:K v us=some r→∃v' us',K v' us'=some r∧
  ∀(bl:Nat→A9) (φ φ':Nat→Addr) (w w':World) (u:Value),G5 pb bl→E3 w0 Bo bl φ w (B4 us bl) φ' w'→C3 w' (B4 us bl) φ' v u→
   ∃φ'',E3 w0 Bo bl φ w (B4 us' bl) φ'' w'∧C3 w' (B4 us' bl) φ'' v' u:=fun h=>⟨v,us,h,fun bl φ φ' w w' u _ h1 h2=>⟨φ',h1,h2⟩⟩
 unfold C2u at h
 split at h
 ·rename_i n p q
  cases hc:(Nat.blt n 10000&&ls.any (fun x=>Nat.beq x.n n&&x.cut.isNone))with
  |false=>rw [hc,Q8]at h;exact same h
  |true=>
   rw [hc,D8]at h
   rw [Bool.and_eq_true,Nat.blt_eq]at hc
   split at h
   ·rename_i t l hn hd
    refine⟨_,_,h,fun bl φ φ' w w' u ha st hr=>?_⟩
    have agr:∀m,B4 us pb m≠ .dead→B4 us bl m=B4 us pb m:=by
     intro m hm
     unfold B4 at hm⊢
     cases hl:A8 us m with
     |some b=>rfl
     |none=>rw [hl]at hm;exact ha m hm
    have hn':B4 us bl n= .live t l true:=by rw [agr n (by rw [hn];intro e;cases e),hn]
    have hd':B4 us bl (I1 d 0)= .fresh:=by rw [agr _ (by rw [hd];intro e;cases e),hd]
    have hnd:n≠I1 d 0:=by intro e;rw [←e,hn']at hd';cases hd'
    rw [Q4,Q4]
    simp only [C3,C2,hn']at hr
    obtain⟨p0,p1,p2,ad,cap,rfl,p3,p4⟩:=hr
    have q0:(0:Int)≤q:=p1
    have hlen:(l.take q.toNat).length=(q-Int.ofNat 0).toNat:=by
     rw [List.length_take]
     have:(q-Int.ofNat 0).toNat=q.toNat:=by simp
     omega
    by_cases hs:(φ' n).spot=none
    ·have harr:=A7Y st.mem (Or.inl ⟨true,hn'⟩) hs
     have hk:=st.mem.blk n
     rw [hn']at hk
     rcases hk with hk| ⟨_,_,_,hcells⟩
     ·exact absurd hs hk.1
     have sg:=E0A st.mem hc.1 hn' hs hd' (l.take q.toNat) (b:= .dead) (Or.inl ⟨(by rw [hn'];intro e;cases e),rfl⟩) (M3.refl w' _) (fun i y hy=>harr i y (by
      unfold K9 at hy⊢
      rw [List.getElem?_take]at hy
      split at hy
      ·exact hy
      ·cases hy)) (fun j hj=>hcells j (Nat.lt_of_lt_of_le hj (Nat.mul_le_mul_right _ (by rw [List.length_take];exact Nat.min_le_right _ _))))
     refine⟨_,st.trans sg,?_⟩
     simp only [C3,C2,O6 hnd.symm,Q5,j9]
     rcases p4 with rfl| ⟨_,rfl,p5⟩
     ·refine Or.inl ⟨by rw [hlen];omega,ad,?_⟩
      congr 1;omega
     ·have e0:(Int.ofNat 0).toNat*t.sz=0:=by simp
      rw [e0,Nat.add_zero]at p5⊢
      have hadr:(⟨(φ' n).block,(φ' n).off,none⟩:Addr)=φ' n:=by cases hq:φ' n with|mk b o s=>rw [hq]at hs;simp only at hs;rw [hs]
      rw [hadr]
      exact Or.inr ⟨hs,cap,by rw [hlen],by rw [hlen];exact p3,p5⟩
    ·have hk:=st.mem.blk n
     rw [hn']at hk
     rcases hk with hk|hk
     ·have hl0:l=[]:=List.eq_nil_of_length_eq_zero hk.2
      subst hl0
      have e1:List.take q.toNat ([]:List t.T)=[]:=List.take_nil
      rw [e1]
      have sn:=D8E st.mem hd' t
      have sd:=E2k sn.mem (n:=n) (by rw [O6 hnd,hn'];intro e;cases e)
      refine⟨_,st.trans (sn.trans sd),B1I sd.goes _ _ ?_⟩
      rcases p4 with rfl| ⟨p4,_⟩
      ·have:(q-Int.ofNat 0).toNat=0:=by omega
       rw [this]
       exact D4L
      ·exact absurd p4 hs
     ·exact absurd hk.1 hs
   ·exact same h
 ·exact same h
theorem D5U {orc:P5 R} (horc:A0h P orc) (hpb:∀n,pb n≠ .dead→n<10000) {fv:V} {args:List V} {d:Nat} (h:B9i E orc fv args d pb K=some r):∃v' us f caps,K v' us=some r∧fv= .cl f caps∧
  ∀(bl:Nat→A9) (φ:Nat→Addr) (w:World) (vs cv:List Value),G5 pb bl→D3 w0 Bo bl φ w→M9 w bl φ args vs→N1 w bl φ caps cv→
   A3w P f (vs++cv).toArray w fun v w'=>∃φ',E3 w0 Bo bl φ w (B4 us bl) φ' w'∧C3 w' (B4 us bl) φ' v' v:=by
 unfold B9i at h
 split at h
 ·rename_i f caps
  split at h
  ·rename_i pms rms hpar hres
   split at h
   ·rename_i asx bs1 ls1 cs bs2 ls2 hargs hcaps
    simp only at h
    generalize hoth:B1y (G3 E.mc) pms args++C7f (G3 E.mc) (.cl f caps)=others at h
    generalize hbs:bs1++bs2=bs at h
    generalize hls:ls1++ls2=ls at h
    cases hchk:(n8 (ls.map (·.n))&&n8 (ls.map (·.j))&& !(ls.any fun x=>G3 others x.n)&&B5h pb (F5 d 0 rms)&&(ls.all fun x=>Nat.blt x.j 900)&&Nat.ble rms.length 8)with
    |false=>rw [hchk]at h;cases h
    |true=>
     rw [hchk,D8]at h
     simp only [Bool.and_eq_true,Bool.not_eq_true',List.any_eq_false,List.all_eq_true]at hchk
     obtain⟨⟨⟨⟨⟨c1,c0⟩,c2⟩,c3⟩,c4⟩,c5⟩:=hchk
     obtain⟨rv,us,hk,hct⟩:=horc _ _ _ _ _ h
     split at hk
     ·rename_i v b1 b2 hv hb1 hb2
      obtain⟨v',us',hk,hshr⟩:=F7n (w0:=w0) (Bo:=Bo) hk
      refine⟨v',us',f,caps,hk,rfl,fun bl φ w vs cv ha hm hr hcv=>?_⟩
      have hA:=D7j _ _ _ _ _ _ hargs
      have hLn:A0K pb bs ls:=by rw [←hbs,←hls];exact hA.lnts.append (B8G hcaps).1
      obtain⟨l1,l2⟩:=hLn.spec c0
      have l3:∀x y,x∈ls→y∈ls→x.j=y.j→x=y:=C1C ls c0
      have hin1:∀x,x∈ls1→x∈ls:=fun x hx=>by rw [←hls];exact List.mem_append_left _ hx
      have hin2:∀x,x∈ls2→x∈ls:=fun x hx=>by rw [←hls];exact List.mem_append_right _ hx
      have l4:=E2Q ls c1
      have hnot:∀x,x∈ls→x.n∉others:=fun x hx e=>by
       have:=c2 x hx
       rw [t8.2 e]at this
       exact this rfl
      have st:=z9 ha hm others
      have hblx:∀x,x∈ls→∀t l tl,pb x.n= .live t l tl→B4 (D0 pb others) bl x.n= .live t l tl:=fun x hx t l tl e=>by
       rw [A3E _ _ (hnot x hx),ha x.n (by rw [e];intro q;cases q),e]
      have hL:m8 w (B4 (D0 pb others) bl) bs ls:=by
       refine⟨l1,fun x hx=>?_,l3,l4,fun x hx=>?_,fun x hx lo hi hc t l tl hb=>?_⟩
       ·obtain⟨t,l,tl,g1,g2⟩:=l2 x hx
        have hj:Nat.blt x.j 900=true:=c4 x hx
        rw [Nat.blt_eq]at hj
        exact⟨by omega,t,l,tl,hblx x hx t l tl g1,g2⟩
       ·obtain⟨t,l,tl,g1,g2⟩:=l2 x hx
        exact hpb _ (by rw [g1];intro e;cases e)
       ·rw [A3E _ _ (hnot x hx)]at hb
        have hx':x∈ls1∨x∈ls2:=List.mem_append.1 (by rw [hls];exact hx)
        rcases hx' with hx'|hx'
        ·exact E0a hA vs hr x hx' lo hi hc t l tl hb
        ·rw [(B8G hcaps).2 x hx']at hc;cases hc
      have hB:A5F (B4 (D0 pb others) bl) us b1 b2 ls d rms:=by
       obtain⟨o1,o2⟩:=B1u rms 0 b2 hb2
       obtain⟨e1,e2⟩:=D7M ls b1 l4 hb1
       refine⟨hct.1,fun n hn=>?_,o1,fun k hk=>⟨?_,o2 k hk⟩,e1,fun x hx=>?_⟩
       ·have hp:=D5x _ c3 n hn
        have hbn:bl n= .fresh:=by rw [ha n (by rw [hp];intro e;cases e),hp]
        rcases A6z ha others n with e| ⟨_,_,_,e,_⟩
        ·rw [e,hbn]
        ·rw [hbn]at e;cases e
       ·obtain⟨k',q1,_,q3⟩:=A9o rms 0 _ hk
        have:=C1S q1
        have:=Nat.le_of_ble_eq_true c5
        omega
       ·obtain⟨t,l,l',tl,tl',g1,g2,g3⟩:=e2 x hx
        exact⟨t,l,l',tl,tl',hblx x hx t l tl g1,g2,g3⟩
      have hargs':=F6r ha hm hL st.mem hA hin1 (fun x hx=>hnot x (hin1 x hx)) (fun n hn=>by rw [←hoth];exact List.mem_append_left _ hn) vs hr
      have hcaps'':=D5e ha hm hL st.mem hcaps hin2 (fun x hx=>hnot x (hin2 x hx)) (fun n hn=>by rw [←hoth];exact List.mem_append_right _ hn) hcv
      have hloc:B7a (G1 (B4 (D0 pb others) bl) φ bs ls) bs:=fun n hn=>by unfold G1;rw [if_pos hn]
      have hcall:=hct.2 w (G1 (B4 (D0 pb others) bl) φ bs ls) (J7 (B4 (D0 pb others) bl) φ ls) (vs++cv) hloc (E7c st.mem hL) (E4n hargs' (F4g hcaps''))
      refine hcall.mono fun u w'=>?_
      rintro⟨φ',k1,k2⟩
      have hback:=F3B st.mem hL hB k1
      refine hshr bl φ (z7 φ φ' (F5 d 0 rms) d) w w' u ha ?_ ?_
      ·show E3 w0 Bo bl φ w (B4 (b1++b2++D0 pb others) bl) _ w'
       rw [A5Y];exact st.trans hback
      ·show C3 w' (B4 (b1++b2++D0 pb others) bl) _ v u
       rw [A5Y];exact F1M st.mem hL hB k1 hv k2
     ·cases hk
   ·cases h
  ·cases h
 ·cases h
theorem E5m {w:World} {bl:Nat→A9} {φ:Nat→Addr} {f:Nat} {v:Value} (h:C3 w bl φ (.a (.v .fu (f:Int))) v):C3 w bl φ (.cl f []) v:=by
 obtain⟨cs,h1,h2⟩:=h
 have h1:cs=[.func (.func f) #[] #[]]:=h1
 subst h1
 have h2:[Value.func (.func f) #[] #[]]=[v]:=h2
 exact⟨[],(List.head_eq_of_cons_eq h2).symm, .nil⟩
theorem D0t {orc:P5 R} (horc:A0h P orc) (hpb:∀n,pb n≠ .dead→n<10000) {x:Int} {args:List V} {d:Nat}:∀fs:List Nat,B5b E orc x args d pb K fs=some r→∃(v':V) (us:Bl) (f:Nat),K v' us=some r∧x=(f:Int)∧
  ∀(bl:Nat→A9) (φ:Nat→Addr) (w:World) (vs cv:List Value),G5 pb bl→D3 w0 Bo bl φ w→M9 w bl φ args vs→N1 w bl φ [] cv→
   A3w P f (vs++cv).toArray w fun v w'=>∃φ',E3 w0 Bo bl φ w (B4 us bl) φ' w'∧C3 w' (B4 us bl) φ' v' v
 | [],h=>by cases h
 |f::fs,h=>by
  unfold B5b at h
  cases hb:D4u E d f with
  |false=>rw [hb]at h;exact D0t horc hpb fs h
  |true=>
   rw [hb,D8]at h
   split at h
   ·rename_i hx
    obtain⟨v',us,f',caps,k1,k2,k3⟩:=D5U (P:=P) (w0:=w0) (Bo:=Bo) horc hpb h
    cases k2
    exact⟨v',us,f,k1,hx,k3⟩
   ·exact D0t horc hpb fs h
theorem F2Q {orc:P5 R} (horc:A0h P orc) (hpb:∀n,pb n≠ .dead→n<10000) {fv:V} {args:List V} {d:Nat} (h:C1x E orc fv args d pb K=some r):∃(v':V) (us:Bl) (f:Nat) (caps:List A),K v' us=some r∧
  (∀(w:World) (bl:Nat→A9) (φ:Nat→Addr) (v:Value),C3 w bl φ fv v→C3 w bl φ (.cl f caps) v)∧
  ∀(bl:Nat→A9) (φ:Nat→Addr) (w:World) (vs cv:List Value),G5 pb bl→D3 w0 Bo bl φ w→M9 w bl φ args vs→N1 w bl φ caps cv→
   A3w P f (vs++cv).toArray w fun v w'=>∃φ',E3 w0 Bo bl φ w (B4 us bl) φ' w'∧C3 w' (B4 us bl) φ' v' v:=by
 unfold C1x at h
 split at h
 ·obtain⟨v',us,f,k1,k2,k3⟩:=D0t (P:=P) (w0:=w0) (Bo:=Bo) horc hpb _ h
  subst k2
  exact⟨v',us,f,[],k1,fun w bl φ v hv=>E5m hv,k3⟩
 ·obtain⟨v',us,f,caps,k1,k2,k3⟩:=D5U (P:=P) (w0:=w0) (Bo:=Bo) horc hpb h
  subst k2
  exact⟨v',us,f,caps,k1,fun w bl φ v hv=>hv,k3⟩
theorem E9R {orc:P5 R} (horc:A0h P orc) (hpb:∀n,pb n≠ .dead→n<10000) {ρ:Operand→V} {d:Nat} {o:Oper} {c:Call} {fo:Operand} (ho:o.op= .call c) (hc:c.callee= .value fo) (h:B1q E orc ρ d pb K o.op=some r):
  ∃v' us,K v' us=some r∧A5t P w0 Bo o ρ pb v' us:=by
 rw [ho]at h
 simp only [B1q,hc]at h
 obtain⟨v',us,f,caps,h1,h2,h3⟩:=F2Q (P:=P) (w0:=w0) (Bo:=Bo) horc hpb h
 refine⟨v',us,h1,fun F n hF bl φ w a next Q ha hm hr hn=>?_⟩
 have hops:o.op.operands= #[fo]++c.args:=by rw [ho];simp only [Op.operands,Call.operands,hc]
 have hf:=hr fo (by rw [hops];simp)
 obtain⟨cv,e1,e2⟩:=h2 _ _ _ _ hf
 have hargs:=B6D (ρ:=ρ) (w:=w) (bl:=bl) (φ:=φ) (a:=a) c.args.toList (fun x hx=>hr x (by rw [hops];simp;exact Or.inr (by simpa using hx)))
 have hcall:=h3 bl φ w _ cv ha hm hargs e2
 have hexec:(execOp a.eval o).run P w=(callFunc f (c.args.toList.map a.eval++cv).toArray).run P w:=by
  have:(#[]:Array Value)++c.args.map a.eval++cv.toArray=(c.args.toList.map a.eval++cv).toArray:=by
   apply Array.ext';simp
  simp only [execOp,ho,resolve,hc,e1,Deferred.ofValue,Sem.run_bind,Sem.run_pure,Result.andThen_ok,invoke,this]
 refine⟨fun f _=>hF.fn f,?_⟩
 rw [Oper.semAt_eq _ _ _ (fun c' e=>by rw [ho]at e;cases e),hexec]
 rcases hcall with⟨k1,k2⟩| ⟨v,w',k1,k2⟩
 ·rw [k1,Oper.uponIn_enter]
  refine⟨fun e=>(by rw [hF.dep]at e;cases e),CallsIn.mono (hF.calls k2) fun e w'=>?_⟩
  rintro⟨v,rfl,φ',q1,q2⟩
  exact hn v w' φ' q1 q2
 ·obtain⟨φ',q1,q2⟩:=k2
  rw [k1,Oper.uponIn_value]
  exact hn v w' φ' q1 q2
theorem F7V (hE:F0 P E) {orc:P5 R} (horc:A0h P orc) (hpb:∀n,pb n≠ .dead→n<10000) {ρ:Operand→V} {d:Nat} {o:Oper} (h:B1q E orc ρ d pb K o.op=some r):∃v' us,K v' us=some r∧A5t P w0 Bo o ρ pb v' us:=by
 by_cases hc:∃c f,o.op= .call c∧c.callee= .value f
 ·obtain⟨c,f,h1,h2⟩:=hc
  exact E9R horc hpb h1 h2 h
 ·exact E2c hE hpb (fun c f h1 h2=>hc ⟨c,f,h1,h2⟩) h
end
def opT (T:Nat→V):Operand→V
 | .tmp t=>T t
 | .const c=>C0S c
 | .func f=> .cl f []
 | .global _=> .a .u
theorem D4K (tm:List (Nat×V)):opv tm=opT (K0 tm):=by funext x;cases x<;>rfl
def A8R (ops:Array Oper) (o:Oper) (T:Nat→V):Option Bool:=
 match o.guard with
 |none=>some true
 |some (j,w)=>match (ops[j]?).bind (·.dst)with
  |some t=>(match T t with
   | .a (.v .bo x)=>some (x==w)
   | .tup []=>some false
   |_=>none)
  |none=>none
theorem E0D (ops:Array Oper) (o:Oper) (tm:List (Nat×V)):gate ops o tm=A8R ops o (K0 tm):=rfl
def W0 (T:Nat→V) (d:Option Nat) (v:V) (t:Nat):V:=if d=some t then v else T t
theorem D7P (d:Option Nat) (v:V) (tm:List (Nat×V)):K0 (B7R d v tm)=W0 (K0 tm) d v:=by
 cases d with
 |none=>funext t;rfl
 |some d=>
  funext t
  unfold B7R W0
  show(B3 (Nat.beq d t) (v)<|K0 tm t)=_
  by_cases h:d=t
  ·subst h;rw [Nat.beq_refl,if_pos rfl];rfl
  ·have hb:Nat.beq d t=false:=by rw [Bool.eq_false_iff];intro e;exact h (Nat.eq_of_beq_eq_true e)
   rw [hb,if_neg (by intro e;cases e;exact h rfl)];rfl
def A2h (n:Nat):Prop:=(2000≤n∧n<3000)∨10000≤n
structure m5 (N:Nat) (w0:World) (Bo:Nat→Nat→Prop) (bl0:Nat→A9) (φ0:Nat→Addr) (T:Nat→V) (B:Nat→A9) (bl:Nat→A9) (φ:Nat→Addr) (a:Act) (w:World):Prop where
 loc:∀n,n<10000→bl n=B n
 mem:D3 w0 Bo bl φ w
 tm:∀t,C3 w bl φ (T t) (a.tmps.getD t undef)
 size:a.tmps.size=N
 defers:a.defers=[]
 far:∀n,10000≤n→bl n=bl0 n
 keep:∀n,A2h n→(bl0 n= .fresh→bl n= .fresh)∧(bl0 n≠ .fresh→i7 (bl0 n) (bl n)∧(lf (bl n)→φ n=φ0 n))
structure Rc where
 i:Nat
 run:Bool
 ρ:Operand→V
 pb:Nat→A9
 v:V
 us:Bl
 ns:List Nat
 ro:Bool
section
variable (P:Program) (N:Nat) (w0:World) (Bo:Nat→Nat→Prop) (ops:Array Oper)
structure A5U (T:Nat→V) (B:Nat→A9) (r:Rc) (o:Oper):Prop where
 op:ops[r.i]?=some o
 gate:A8R ops o T=some r.run
 dst:C0k N o.dst=true
 vals:r.run=true→∀x,x∈o.op.operands→opT T x=r.ρ x
 blks:∀n,r.pb n≠ .dead→n<10000∧n∈r.ns∧B n=r.pb n
 sem:r.run=true→A5t P w0 Bo o r.ρ r.pb r.v r.us
 skip:r.run=false→r.v= .tup []∧r.us=[]
 us:∀q,q∈r.us→q.1<10000∧q.1∈r.ns
 ro:r.ro=true→r.us=[]
 len:∀q,q∈r.us→2000≤q.1→q.1<3000→B q.1≠ .fresh
inductive A2a:(Nat→V)→(Nat→A9)→List Rc→(Nat→V)→(Nat→A9)→Prop
 |nil (T:Nat→V) (B:Nat→A9):A2a T B [] T B
 |cons {T T':Nat→V} {B B':Nat→A9} {r:Rc} {rs:List Rc} (o:Oper):A5U P N w0 Bo ops T B r o→A2a (W0 T o.dst r.v) (B4 r.us B) rs T' B'→A2a T B (r::rs) T' B'
end
section
variable {P:Program} {N:Nat} {w0:World} {Bo:Nat→Nat→Prop} {bl0:Nat→A9} {φ0:Nat→Addr} {ops:Array Oper}
theorem D7C {T:Nat→V} {B bl:Nat→A9} {φ:Nat→Addr} {a:Act} {w:World} (h:m5 N w0 Bo bl0 φ0 T B bl φ a w) (x:Operand):C3 w bl φ (opT T x) (a.eval x):=by
 cases x with
 |tmp t=>exact h.tm t
 |func f=>exact⟨[],rfl, .nil⟩
 |global g=>trivial
 |const c=>
  show C3 w bl φ (C0S c) c
  unfold C0S
  split
  ·exact R2.2 rfl
  ·exact E4.2 rfl
  ·exact A2i.2 rfl
  ·exact⟨none,rfl⟩
  ·rfl
  ·trivial
theorem D1f {T:Nat→V} {B bl bl':Nat→A9} {φ φ':Nat→Addr} {a:Act} {w w':World} (h:m5 N w0 Bo bl0 φ0 T B bl φ a w) {d:Option Nat} (hd:C0k N d=true) {v:V} {u:Value} {us:Bl} (hus:∀q,q∈us→q.1<10000) (hlen:∀q,q∈us→2000≤q.1→q.1<3000→B q.1≠ .fresh)
  (hs:E3 w0 Bo bl φ w (B4 us bl) φ' w') (hv:C3 w' (B4 us bl) φ' v u):m5 N w0 Bo bl0 φ0 (W0 T d v) (B4 us B) (B4 us bl) φ' (a.put d u) w':=by
 have hfar:∀n,10000≤n→B4 us bl n=bl n:=by
  intro n hn
  refine g7 ?_
  cases hl:A8 us n with
  |none=>rfl
  |some b=>have:=hus _ (Z9 _ _ _ hl);simp only at this;omega
 refine⟨fun n hn=>?_,hs.mem,fun t=>?_,?_,?_,fun n hn=>by rw [hfar n hn];exact h.far n hn,fun n hn=>?_⟩
 rotate_left 4
 ·obtain⟨k1,k2⟩:=h.keep n hn
  refine⟨fun e=>?_,fun e=>?_⟩
  ·rw [←k1 e]
   refine g7 ?_
   cases hl:A8 us n with
   |none=>rfl
   |some b=>
    exfalso
    have hm:=Z9 _ _ _ hl
    have hlt:=hus _ hm
    simp only at hlt
    rcases hn with hn|hn
    ·have:=hlen _ hm hn.1 hn.2
     apply this
     rw [←h.loc n hlt];exact k1 e
    ·omega
  ·obtain⟨q1,q2⟩:=k2 e
   obtain⟨q3,q4⟩:=hs.goes.le n (q1.ne e)
   refine⟨q1.trans q3,fun hl=>?_⟩
   have hl0:lf (bl n):=by
    cases hb:bl n with
    |fresh=>exact absurd hb (q1.ne e)
    |dead=>rw [hb]at q3;cases hq:B4 us bl n<;>rw [hq]at q3 hl<;>cases q3<;>cases hl
    |husk=>rw [hb]at q3;cases hq:B4 us bl n<;>rw [hq]at q3 hl<;>cases q3<;>cases hl
    |live=>rfl
    |froz=>rfl
   rw [q4 hl,q2 hl0]
 ·unfold B4
  cases A8 us n with
  |none=>exact h.loc n hn
  |some b=>rfl
 ·unfold W0
  cases d with
  |none=>simpa [Act.put]using B1I hs.goes _ _ (h.tm t)
  |some d=>
   by_cases e:d=t
   ·subst e
    rw [if_pos rfl]
    have hlt:d<a.tmps.size:=by
     rw [h.size]
     have:Nat.blt d N=true:=hd
     rwa [Nat.blt_eq]at this
    simpa [Act.put,Array.getD,hlt]using hv
   ·rw [if_neg (by intro q;cases q;exact e rfl)]
    have:(a.put (some d) u).tmps.getD t undef=a.tmps.getD t undef:=by
     simp [Act.put,Array.getElem?_setIfInBounds_ne e]
    rw [this]
    exact B1I hs.goes _ _ (h.tm t)
 ·cases d<;>simp [Act.put,h.size]
 ·cases d<;>simp [Act.put,h.defers]
theorem F3v {T:Nat→V} {B bl:Nat→A9} {φ:Nat→Addr} {a:Act} {w:World} (h:m5 N w0 Bo bl0 φ0 T B bl φ a w) {o:Oper} {b:Bool} (hg:A8R ops o T=some b):Region.wanted o (yielded ops a.tmps)=b:=by
 unfold A8R at hg
 unfold Region.wanted
 split at hg
 ·rename_i hgd;rw [hgd];cases hg;rfl
 ·rename_i j wnt hgd
  rw [hgd]
  split at hg
  ·rename_i t ht
   have hy:yielded ops a.tmps j=match a.tmps[t]? with|some (.bool b)=>some b|_=>none:=by
    unfold yielded
    rw [ht];rfl
   simp only [hy]
   split at hg
   ·rename_i x hx
    have hv:=h.tm t
    rw [hx]at hv
    have hv:=R2.1 hv
    cases hg
    cases hq:a.tmps[t]? with
    |none=>simp [Array.getD_eq_getD_getElem?,hq,undef]at hv
    |some u=>
     simp [Array.getD_eq_getD_getElem?,hq]at hv
     subst hv
     simp only
     cases x<;>cases wnt<;>rfl
   ·rename_i hx
    have hv:=h.tm t
    rw [hx]at hv
    obtain⟨cv,e1,e2⟩:=hv
    cases e2
    cases hg
    cases hq:a.tmps[t]? with
    |none=>rfl
    |some u=>
     simp [Array.getD_eq_getD_getElem?,hq]at e1
     subst e1;rfl
   ·cases hg
  ·cases hg
theorem D3u {F:Fence} {n:Nat} (hF:f7 F) {T:Nat→V} {B bl:Nat→A9} {φ:Nat→Addr} {a:Act} {w:World} {Q:Exit→Act→World→Prop} {r:Rc} {o:Oper} {K:Act→World→Prop} (hf:A5U P N w0 Bo ops T B r o) (h:m5 N w0 Bo bl0 φ0 T B bl φ a w)
  (hn:∀bl' φ' a' w',m5 N w0 Bo bl0 φ0 (W0 T o.dst r.v) (B4 r.us B) bl' φ' a' w'→K a' w'):wpOpIn F n P ops Q r.i K a w:=by
 have hw:=F3v h hf.gate
 unfold wpOpIn
 rw [hf.op]
 simp only [hw]
 cases hrun:r.run with
 |true=>
  simp only [if_true]
  refine hf.sem hrun F n hF bl φ w a K Q (fun n hn=>?_) h.mem (fun x hx=>?_) fun v w' φ' hs hv=>?_
  ·obtain⟨k1,_,k3⟩:=hf.blks n hn
   rw [h.loc n k1,k3]
  ·rw [←hf.vals hrun x hx];exact D7C h x
  ·exact hn _ _ _ _ (D1f (bl':=bl) h hf.dst (fun q hq=>(hf.us q hq).1) hf.len hs hv)
 |false=>
  simp only [Bool.false_eq_true,if_false]
  obtain⟨e1,e2⟩:=hf.skip hrun
  refine⟨fun f _=>hF.fn f,hn bl φ _ w ?_⟩
  have:=D1f (bl':=bl) (φ':=φ) (w':=w) (us:=[]) h hf.dst (fun q hq=>by cases hq) (fun q hq=>by cases hq) (.refl h.mem) (v:= .tup []) (u:=undef) ⟨[],rfl, .nil⟩
  rw [e1,e2]
  exact this
theorem F0A {F:Fence} {n:Nat} (hF:f7 F) {Q:Exit→Act→World→Prop} {rs:List Rc} {T T':Nat→V} {B B':Nat→A9} (hc:A2a P N w0 Bo ops T B rs T' B'):∀{bl:Nat→A9} {φ:Nat→Addr} {a:Act} {w:World},m5 N w0 Bo bl0 φ0 T B bl φ a w→
  (∀bl' φ' a' w',m5 N w0 Bo bl0 φ0 T' B' bl' φ' a' w'→Q .normal a' w')→wpOpsIn F n P ops Q (rs.map (·.i)) a w:=by
 induction hc with
 |nil T B=>intro bl φ a w h hq;exact hq _ _ _ _ h
 |cons o hf _ ih=>
  intro bl φ a w h hq
  rw [List.map_cons,wpOpsIn_cons]
  exact D3u hF hf h fun bl' φ' a' w' h'=>ih h' hq
def B0I (ops:Array Oper) (r s:Rc):Prop:=
 (∀x y,ops[r.i]?=some x→ops[s.i]?=some y→x.apart ops y=true)∧((r.ro=true∧s.ro=true)∨∀n,n∈r.ns→n∈s.ns→False)
theorem F3t {T:Nat→V} {d e:Option Nat} {u v:V} (h:∀k,d=some k→e≠some k):W0 (W0 T d u) e v=W0 (W0 T e v) d u:=by
 funext t
 unfold W0
 by_cases h1:d=some t
 ·have h2:=h t h1
  rw [if_pos h1,if_neg h2]
  simp [h1,h2]
 ·simp [h1]
theorem D3w {T:Nat→V} {o:Oper} {d:Option Nat} {v:V} (h:∀k,d=some k→k∉o.looksAt ops):A8R ops o (W0 T d v)=A8R ops o T:=by
 unfold A8R
 split
 ·rfl
 ·rename_i j w hg
  split
  ·rename_i t ht
   have:W0 T d v t=T t:=by
    unfold W0
    rw [if_neg]
    intro e
    refine h t e ?_
    unfold Oper.looksAt
    rw [List.mem_append]
    right
    rw [hg]
    simp only [ht]
    exact List.mem_singleton.2 rfl
   rw [this]
  ·rfl
theorem D4W {T:Nat→V} {o:Oper} {d:Option Nat} {v:V} (h:∀k,d=some k→k∉o.looksAt ops) {x:Operand} (hx:x∈o.op.operands):opT (W0 T d v) x=opT T x:=by
 cases x with
 |tmp t=>
  show W0 T d v t=T t
  unfold W0
  rw [if_neg]
  intro e
  refine h t e ?_
  unfold Oper.looksAt
  rw [List.mem_append]
  left
  exact List.mem_filterMap.2 ⟨.tmp t,by simpa using hx,rfl⟩
 |_=>rfl
theorem A5U.move {T:Nat→V} {B:Nat→A9} {r s:Rc} {x y:Oper} (hr:A5U P N w0 Bo ops T B r x) (hsop:ops[s.i]?=some y) (hi:B0I ops r s) (hus:∀q,q∈r.us→q.1<10000∧q.1∈r.ns) (hsus:∀q,q∈s.us→q.1<10000∧q.1∈s.ns) (hro:s.ro=true→s.us=[]):
  A5U P N w0 Bo ops (W0 T y.dst s.v) (B4 s.us B) r x:=by
 have hap:=Oper.apart_spec (hi.1 x y hr.op hsop)
 refine⟨hr.op,?_,hr.dst,fun hrun z hz=>?_,fun n hn=>?_,hr.sem,hr.skip,hr.us,hr.ro,fun q hq h1 h2=>?_⟩
 rotate_left 3
 ·have h0:=hr.len q hq h1 h2
  have hns:=(hr.us q hq).2
  have:A8 s.us q.1=none:=by
   cases hl:A8 s.us q.1 with
   |none=>rfl
   |some b=>
    exfalso
    have hmem:=Z9 _ _ _ hl
    rcases hi.2 with⟨h3,_⟩|h
    ·rw [hr.ro h3]at hq;cases hq
    ·exact h q.1 hns (hsus _ hmem).2
  rw [g7 this];exact h0
 ·rw [D3w hap.2.2];exact hr.gate
 ·rw [D4W hap.2.2 hz];exact hr.vals hrun z hz
 ·obtain⟨k1,k2,k3⟩:=hr.blks n hn
  refine⟨k1,k2,?_⟩
  rw [←k3]
  refine g7 ?_
  cases hl:A8 s.us n with
  |none=>rfl
  |some b=>
   exfalso
   have hmem:=Z9 _ _ _ hl
   rcases hi.2 with⟨_,h2⟩|h
   ·rw [hro h2]at hmem;cases hmem
   ·exact h n k2 (hsus _ hmem).2
theorem A5U.back {T:Nat→V} {B:Nat→A9} {r s:Rc} {x y:Oper} (hr:A5U P N w0 Bo ops T B r x) (hs:A5U P N w0 Bo ops (W0 T x.dst r.v) (B4 r.us B) s y) (hi:B0I ops r s):A5U P N w0 Bo ops T B s y:=by
 have hap:=Oper.apart_spec (hi.1 x y hr.op hs.op)
 refine⟨hs.op,?_,hs.dst,fun hrun z hz=>?_,fun n hn=>?_,hs.sem,hs.skip,hs.us,hs.ro,fun q hq h1 h2=>?_⟩
 rotate_left 3
 ·have h0:=hs.len q hq h1 h2
  have hns:=(hs.us q hq).2
  have:A8 r.us q.1=none:=by
   cases hl:A8 r.us q.1 with
   |none=>rfl
   |some b=>
    exfalso
    have hmem:=Z9 _ _ _ hl
    rcases hi.2 with⟨_,h3⟩|h
    ·rw [hs.ro h3]at hq;cases hq
    ·exact h q.1 (hr.us _ hmem).2 hns
  rwa [g7 this]at h0
 ·have:=hs.gate;rwa [D3w hap.1]at this
 ·have:=hs.vals hrun z hz;rwa [D4W hap.1 hz]at this
 ·obtain⟨k1,k2,k3⟩:=hs.blks n hn
  refine⟨k1,k2,?_⟩
  rw [←k3]
  refine(g7 ?_).symm
  cases hl:A8 r.us n with
  |none=>rfl
  |some b=>
   exfalso
   have hmem:=Z9 _ _ _ hl
   rcases hi.2 with⟨h1,_⟩|h
   ·rw [hr.ro h1]at hmem;cases hmem
   ·exact h n (hr.us _ hmem).2 k2
theorem E0v {us vs:Bl} {B:Nat→A9} (h:∀n,A8 us n≠none→A8 vs n≠none→False):B4 us (B4 vs B)=B4 vs (B4 us B):=by
 funext n
 cases h1:A8 us n with
 |none=>cases h2:A8 vs n with
  |none=>rw [g7 h1,g7 h2,g7 h2,g7 h1]
  |some b=>rw [g7 h1,A6x h2,A6x h2]
 |some b=>cases h2:A8 vs n with
  |none=>rw [A6x h1,g7 h2,A6x h1]
  |some c=>exact(h n (by rw [h1];intro e;cases e) (by rw [h2];intro e;cases e)).elim
theorem F4b {pre post:List Rc} {r:Rc}:∀{T T':Nat→V} {B B':Nat→A9},A2a P N w0 Bo ops T B (pre++r::post) T' B'→(∀s,s∈pre→B0I ops s r)→A2a P N w0 Bo ops T B (r::(pre++post)) T' B':=by
 induction pre with
 |nil=>intro T T' B B' h _;exact h
 |cons s pre ih=>
  intro T T' B B' h hi
  cases h with
  |cons x hs hrest=>
   have h2:=ih hrest fun z hz=>hi z (List.mem_cons_of_mem _ hz)
   cases h2 with
   |cons y hr hrest2=>
    have hi0:=hi s List.mem_cons_self
    have hap:=Oper.apart_spec (hi0.1 x y hs.op hr.op)
    refine .cons y (hs.back hr hi0) ?_
    show A2a P N w0 Bo ops _ _ (s::(pre++post)) T' B'
    refine .cons x (hs.move hr.op hi0 hs.us hr.us hr.ro) ?_
    rw [F3t (fun k e=>fun q=>hap.2.1 k q e),E0v (us:=s.us) (vs:=r.us)]
    ·exact hrest2
    ·intro n h1 h2
     obtain⟨b,hb⟩:=Option.ne_none_iff_exists'.1 h1
     obtain⟨c,hc⟩:=Option.ne_none_iff_exists'.1 h2
     have m1:=Z9 _ _ _ hb
     have m2:=Z9 _ _ _ hc
     rcases hi0.2 with⟨q,_⟩|q
     ·rw [hs.ro q]at m1;cases m1
     ·exact q n (hs.us _ m1).2 (hr.us _ m2).2
end
section
variable {P:Program} {N:Nat} {w0:World} {Bo:Nat→Nat→Prop} {bl0:Nat→A9} {φ0:Nat→Addr} {ops:Array Oper} {E:D7} {R:Type} {r:R}
def B2R (c:Rc):Met:=⟨c.i,c.ns,c.ro⟩
theorem D4E {ns:List Nat} {ro:Bool} {B:Nat→A9}:∀(us:Bl),B5v ns ro B us=true→(∀q,q∈us→q.1<10000∧q.1∈ns)∧(ro=true→us=[])∧(∀q,q∈us→2000≤q.1→q.1<3000→B q.1≠ .fresh)
 | [],_=>⟨(fun q h=>by cases h),fun _=>rfl,(fun q h=>by cases h)⟩
 | (n,b)::us,h=>by
  unfold B5v at h
  cases hr:ro with
  |true=>rw [hr]at h;cases h
  |false=>
   rw [hr,Q8]at h
   cases hc:(G3 ns n&&Nat.blt n 10000&&(!E7 n||D9w (B n)))with
   |false=>rw [hc]at h;cases h
   |true=>
    rw [hc,D8,←hr]at h
    rw [Bool.and_eq_true,Bool.and_eq_true]at hc
    have hlt:=hc.1.2
    rw [Nat.blt_eq]at hlt
    obtain⟨i1,_,i3⟩:=D4E us h
    refine⟨fun q hq=>?_,(fun e=>by cases e),fun q hq h1 h2=>?_⟩
    ·rcases List.mem_cons.1 hq with rfl|hq
     ·exact⟨hlt,t8.1 hc.1.1⟩
     ·exact i1 q hq
    ·rcases List.mem_cons.1 hq with rfl|hq
     ·simp only at h1 h2⊢
      have hl:E7 n=true:=by
       unfold E7
       rw [Bool.and_eq_true,Nat.blt_eq]
       exact⟨Nat.ble_eq_true_of_le h1,h2⟩
      have:=hc.2
      rw [hl]at this
      intro e;rw [e]at this;cases this
     ·exact i3 q hq h1 h2
theorem E0Q {src:Bool} {v:V} {K:V→Option R} (h:C5w src v K=some r):∃v2,K v2=some r∧∀w bl φ u,C3 w bl φ v u→C3 w bl φ v2 u:=by
 unfold C5w at h
 cases src with
 |false=>exact⟨v,h,fun _ _ _ _ h=>h⟩
 |true=>
  rw [D8]at h
  split at h
  ·rename_i x
   cases hx:(x:Bool)with
   |true=>rw [hx]at h;exact⟨_,h,fun w bl φ u hu=>hu⟩
   |false=>rw [hx]at h;exact⟨_,h,fun w bl φ u hu=>hu⟩
  ·rename_i p hp
   split at h
   ·rename_i hpp
    exact⟨_,h,fun w bl φ u hu=>R2.2 (by have hu:u= .bool (@decide p hp):=hu;rw [hu,decide_eq_true hpp])⟩
   ·rename_i hpp
    exact⟨_,h,fun w bl φ u hu=>R2.2 (by have hu:u= .bool (@decide p hp):=hu;rw [hu,decide_eq_false hpp])⟩
  ·cases h
theorem D9x {ns:List Nat} {B:Nat→A9} {n:Nat} (h:pick ns B n≠ .dead):n<10000∧n∈ns∧B n=pick ns B n:=by
 unfold pick at h⊢
 cases hc:(G3 ns n&&Nat.blt n 10000)with
 |false=>rw [hc]at h;exact absurd rfl h
 |true=>
  rw [Bool.and_eq_true]at hc
  have:=hc.2
  rw [Nat.blt_eq]at this
  exact⟨this,t8.1 hc.1,rfl⟩
theorem C5I (hE:F0 P E) {orc:P5 R} (horc:A0h P orc) {src:List Nat}:∀(l:List (Nat×Oper)) (st:St) (ms:List Met) (K:St→List Met→Option R),(∀q,q∈l→ops[q.1]?=some q.2)→B5O E orc N ops src l st ms K=some r→
  ∃st' rs,K st' ((rs.map B2R).reverse++ms)=some r∧A2a P N w0 Bo ops (K0 st.tm) (F9 st.bl) rs (K0 st'.tm) (F9 st'.bl)∧rs.map (·.i)=l.map (·.1)
 | [],st,ms,K,_,h=>⟨st,[],h, .nil _ _,rfl⟩
 | (i,o)::l,st,ms,K,hl,h=>by
  unfold B5O at h
  cases hd:C0k N o.dst with
  |false=>rw [hd]at h;cases h
  |true=>
   rw [hd,D8]at h
   have hop:ops[i]?=some o:=hl (i,o) List.mem_cons_self
   have hl':∀q,q∈l→ops[q.1]?=some q.2:=fun q hq=>hl q (List.mem_cons_of_mem _ hq)
   split at h
   ·rename_i hg
    simp only at h
    obtain⟨v',us,h1,h2⟩:=F7V (P:=P) (w0:=w0) (Bo:=Bo) hE horc (fun n hn=>(D9x hn).1) h
    cases hk:B5v (C0e E (opv st.tm) (o.dst.getD 0) o.op) (C0h o.op) (F9 st.bl) us with
    |false=>rw [hk]at h1;cases h1
    |true=>
     rw [hk,D8]at h1
     obtain⟨v2,h3,h4⟩:=E0Q h1
     obtain⟨st',rs,k1,k2,k3⟩:=C5I hE horc l _ _ K hl' h3
     obtain⟨u1,u2,u3⟩:=D4E us hk
     refine⟨st',⟨i,true,opv st.tm,pick (C0e E (opv st.tm) (o.dst.getD 0) o.op) (F9 st.bl),v2,us,C0e E (opv st.tm) (o.dst.getD 0) o.op,C0h o.op⟩::rs,?_,?_,?_⟩
     ·rw [List.map_cons,List.reverse_cons,List.append_assoc];exact k1
     ·refine .cons o ⟨hop,by rw [E0D]at hg;exact hg,hd,fun _ x _=>by rw [D4K],fun n hn=>D9x hn,fun _=>?_,(fun e=>by cases e),u1,u2,u3⟩ ?_
      ·intro F n hF bl φ w a next Q ha hm hr hn
       exact h2 F n hF bl φ w a next Q ha hm hr fun v w' φ' hs hv=>hn v w' φ' hs (h4 _ _ _ _ hv)
      ·have e1:=D7P o.dst v2 st.tm
       have e2:=F8W us st.bl
       show A2a P N w0 Bo ops (W0 (K0 st.tm) o.dst v2) (B4 us (F9 st.bl)) rs _ _
       rw [←e1,←e2];exact k2
     ·rw [List.map_cons,List.map_cons,k3]
   ·rename_i hg
    obtain⟨st',rs,k1,k2,k3⟩:=C5I hE horc l _ _ K hl' h
    refine⟨st',⟨i,false,fun _=> .a .u,fun _=> .dead, .tup [],[],[],true⟩::rs,?_,?_,?_⟩
    ·rw [List.map_cons,List.reverse_cons,List.append_assoc];exact k1
    ·refine .cons o ⟨hop,by rw [E0D]at hg;exact hg,hd,(fun e=>by cases e),fun n hn=>absurd rfl hn,(fun e=>by cases e),fun _=>⟨rfl,rfl⟩,(fun q hq=>by cases hq),fun _=>rfl,(fun q hq=>by cases hq)⟩ ?_
     have e1:=D7P o.dst (.tup []) st.tm
     show A2a P N w0 Bo ops (W0 (K0 st.tm) o.dst (.tup [])) (B4 [] (F9 st.bl)) rs _ _
     rw [←e1,l8];exact k2
    ·rw [List.map_cons,List.map_cons,k3]
   ·cases h
theorem D8T {acc:List Nat} {j:Nat}:∀(es:List Edge),(A6w acc es).testBit j=true→∃e,e∈es∧Region.binds .any e=true∧(e.on=j∨(acc.getD e.on 0).testBit j=true)
 | [],h=>by simp [A6w]at h
 |e::es,h=>by
  unfold A6w at h
  rw [Nat.testBit_or,Bool.or_eq_true]at h
  rcases h with h|h
  ·cases hb:Region.binds .any e with
   |false=>rw [hb]at h;simp at h
   |true=>
    rw [hb,D8,Nat.testBit_or,Bool.or_eq_true]at h
    refine⟨e,List.mem_cons_self,hb,?_⟩
    rcases h with h|h
    ·rw [Nat.testBit_two_pow]at h;exact Or.inl (of_decide_eq_true h)
    ·exact Or.inr h
  ·obtain⟨e',h1,h2,h3⟩:=D8T es h
   exact⟨e',List.mem_cons_of_mem _ h1,h2,h3⟩
theorem D8w:∀(os:List Oper) (acc:List Nat),∃l,A0f os acc=acc++l∧l.length=os.length∧∀(k:Nat) (o:Oper),os[k]?=some o→(A0f os acc).getD (acc.length+k) 0=A6w ((A0f os acc).take (acc.length+k)) o.after.toList
 | [],acc=>⟨[],by simp [A0f],rfl,fun k o h=>by simp at h⟩
 |o::os,acc=>by
  obtain⟨l,h1,h2,h3⟩:=D8w os (acc++[A6w acc o.after.toList])
  refine⟨A6w acc o.after.toList::l,by unfold A0f;rw [h1];simp,by simp [h2],fun k o' hk=>?_⟩
  unfold A0f
  cases k with
  |zero=>
   simp at hk;subst hk
   rw [h1]
   simp [List.getD,List.take_append]
  |succ k=>
   have:=h3 k o' (by simpa using hk)
   rw [List.length_append]at this
   simp only [List.length_cons,List.length_nil]at this
   rw [show acc.length+(k+1)=acc.length+(0+1)+k from by omega]
   exact this
theorem E9u {i j:Nat} {o:Oper} (ho:ops[i]?=some o) (h:((A0f ops.toList []).getD i 0).testBit j=true):∃e,e∈o.after.toList∧Region.binds .any e=true∧(e.on=j∨((A0f ops.toList []).getD e.on 0).testBit j=true):=by
 obtain⟨l,h1,h2,h3⟩:=D8w ops.toList []
 have:=h3 i o (by simpa using ho)
 simp only [List.length_nil,Nat.zero_add]at this
 rw [this]at h
 obtain⟨e,k1,k2,k3⟩:=D8T _ h
 refine⟨e,k1,k2,k3.imp id fun k=>?_⟩
 have hlt:e.on<i∨¬e.on<i:=by omega
 rcases hlt with hlt|hlt
 ·rwa [List.getD_eq_getElem?_getD,List.getElem?_take_of_lt hlt,←List.getD_eq_getElem?_getD]at k
 ·rw [List.getD_eq_getElem?_getD,List.getElem?_take_eq_none (by omega)]at k
  simp at k
def D1u (ops:Array Oper) (D:Nat→Prop):Prop:=∀i o,D i→ops[i]?=some o→∀e,e∈o.after.toList→Region.binds .any e=true→D e.on
theorem D6K {D:Nat→Prop} (hd:D1u ops D) (hx:∀i,D i→∃o,ops[i]?=some o) (hlt:∀i o,ops[i]?=some o→∀e,e∈o.after.toList→Region.binds .any e=true→e.on<i) {j:Nat}:∀(n i:Nat) (o:Oper),i<n→ops[i]?=some o→(∀e,e∈o.after.toList→Region.binds .any e=true→D e.on)→
  ((A0f ops.toList []).getD i 0).testBit j=true→D j
 |0,i,o,h,_,_,_=>by omega
 |n+1,i,o,h,ho,hr,hb=>by
  obtain⟨e,k1,k2,k3⟩:=E9u ho hb
  have hD:=hr e k1 k2
  rcases k3 with rfl|k3
  ·exact hD
  ·obtain⟨o',ho'⟩:=hx _ hD
   exact D6K hd hx hlt n e.on o' (by have:=hlt i o ho e k1 k2;omega) ho' (fun e' h1 h2=>hd _ o' hD ho' e' h1 h2) k3
theorem D1y {F:Fence} {n:Nat} (hF:f7 F) {Q:Exit→Act→World→Prop} {T':Nat→V} {B':Nat→A9} (hlt:∀i o,ops[i]?=some o→∀e,e∈o.after.toList→Region.binds .any e=true→e.on<i):
  ∀(fuel:Nat) (rs:List Rc) (listed:Array Bool) (T:Nat→V) (B bl:Nat→A9) (φ:Nat→Addr) (a:Act) (w:World),rs.length≤fuel→listed.size=ops.size→
   (∀i,i∈rs.map (·.i)↔i<ops.size∧listed.getD i true=false)→rs.Pairwise (fun x y=>x.i<y.i)→
   rs.Pairwise (fun x y=>((A0f ops.toList []).getD y.i 0).testBit x.i=true∨B0I ops x y)→D1u ops (fun i=>i<ops.size∧listed.getD i false=true)→
   A2a P N w0 Bo ops T B rs T' B'→m5 N w0 Bo bl0 φ0 T B bl φ a w→(∀bl' φ' a' w',m5 N w0 Bo bl0 φ0 T' B' bl' φ' a' w'→Q .normal a' w')→
   wpAnyIn F n P .any ops Q fuel listed a w
 |fuel,rs,listed,T,B,bl,φ,a,w,hfuel,hsz,hin,hinc,hind,hdown,hc,hrel,hq=>by
  have hls:∀i,i<ops.size→(listed.getD i true=false↔¬listed.getD i false=true):=by
   intro i hi
   rw [←hsz]at hi
   simp [Array.getD,hi]
  have hready:∀i,i∈Region.ready .any ops listed→∃o,ops[i]?=some o∧i<ops.size∧i∈rs.map (·.i)∧∀e,e∈o.after.toList→Region.binds .any e=true→e.on<ops.size∧listed.getD e.on false=true:=by
   intro i hi
   obtain⟨h1,o,h2,h3⟩:=mem_ready.1 hi
   have hi2:i<ops.size:=(Array.getElem?_eq_some_iff.1 h2).1
   refine⟨o,h2,hi2,(hin i).2 ⟨hi2,h1⟩,fun e he hb=>⟨?_,h3 e (by simpa using he) hb⟩⟩
   have:=hlt i o h2 e he hb;omega
  have hnil:Region.ready .any ops listed=[]→rs=[]:=by
   intro hr
   cases rs with
   |nil=>rfl
   |cons r rs=>
    exfalso
    have hm:r.i∈(r::rs).map (·.i):=by simp
    obtain⟨h1,h2⟩:=(hin r.i).1 hm
    have ho:ops[r.i]?=some ops[r.i]:=Array.getElem?_eq_getElem h1
    have:r.i∈Region.ready .any ops listed:=by
     refine mem_ready.2 ⟨h2,_,ho,fun e he hb=>?_⟩
     have hl:=hlt _ _ ho e (by simpa using he) hb
     by_cases hle:listed.getD e.on false=true
     ·exact hle
     ·exfalso
      have:e.on∈(r::rs).map (·.i):=(hin e.on).2 ⟨by omega,(hls e.on (by omega)).2 hle⟩
      rw [List.map_cons,List.mem_cons]at this
      rcases this with h|h
      ·omega
      ·obtain⟨s,hs,e1⟩:=List.mem_map.1 h
       have:=(List.pairwise_cons.1 hinc).1 s hs
       omega
    rw [hr]at this;cases this
  have hend:rs=[]→Q .normal a w:=by
   intro e;subst e
   cases hc
   exact hq _ _ _ _ hrel
  cases fuel with
  |zero=>
   have:rs=[]:=List.eq_nil_of_length_eq_zero (by omega)
   refine⟨?_,hend this⟩
   cases hr:Region.ready .any ops listed with
   |nil=>rfl
   |cons i is=>
    obtain⟨o,_,_,h,_⟩:=hready i (by rw [hr];exact List.mem_cons_self)
    rw [this]at h;cases h
  |succ fuel=>
   refine⟨fun hr=>hend (hnil hr),fun i hi=>?_⟩
   obtain⟨o,ho,hi2,him,hed⟩:=hready i hi
   obtain⟨r,hr,rfl⟩:=List.mem_map.1 him
   obtain⟨pre,post,rfl⟩:=List.append_of_mem hr
   have hpi:∀s,s∈pre→B0I ops s r:=by
    intro s hs
    rw [List.pairwise_append]at hind
    rcases hind.2.2 s hs r List.mem_cons_self with h|h
    ·exfalso
     have hD:=D6K (D:=fun i=>i<ops.size∧listed.getD i false=true) hdown (fun i hi=>⟨_,Array.getElem?_eq_getElem hi.1⟩) hlt (r.i+1) r.i o (by omega) ho hed h
     have:s.i∈(pre++r::post).map (·.i):=List.mem_map.2 ⟨s,List.mem_append_left _ hs,rfl⟩
     exact(hls _ hD.1).1 ((hin s.i).1 this).2 hD.2
    ·exact h
   have hc2:=F4b hc hpi
   cases hc2 with
   |cons x hf hrest=>
    refine D3u hF hf hrel fun bl' φ' a' w' hrel'=>?_
    have hne:∀s,s∈pre++post→s.i≠r.i:=by
     intro s hs e
     rw [List.pairwise_append]at hinc
     rcases List.mem_append.1 hs with h|h
     ·have:=hinc.2.2 s h r List.mem_cons_self;omega
     ·have:=(List.pairwise_cons.1 hinc.2.1).1 s h;omega
    refine D1y hF hlt fuel (pre++post) (listed.setIfInBounds r.i true) _ _ bl' φ' a' w' ?_ (by simp [hsz]) (fun k=>?_) ?_ ?_ ?_ hrest hrel' hq
    ·simp only [List.length_append,List.length_cons]at hfuel⊢;omega
    ·constructor
     ·intro hk
      obtain⟨s,hs,rfl⟩:=List.mem_map.1 hk
      have hs':s.i∈(pre++r::post).map (·.i):=List.mem_map.2 ⟨s,by
       rcases List.mem_append.1 hs with h|h
       ·exact List.mem_append_left _ h
       ·exact List.mem_append_right _ (List.mem_cons_of_mem _ h),rfl⟩
      obtain⟨q1,q2⟩:=(hin s.i).1 hs'
      exact⟨q1,by rw [getD_set_ne true (fun e=>hne s hs e.symm)];exact q2⟩
     ·rintro⟨q1,q2⟩
      by_cases e:r.i=k
      ·subst e
       simp [Array.getD,hsz,q1]at q2
      ·rw [getD_set_ne true e]at q2
       obtain⟨s,hs,e2⟩:=List.mem_map.1 ((hin k).2 ⟨q1,q2⟩)
       refine List.mem_map.2 ⟨s,?_,e2⟩
       rcases List.mem_append.1 hs with h|h
       ·exact List.mem_append_left _ h
       ·rcases List.mem_cons.1 h with rfl|h
        ·exact absurd e2 e
        ·exact List.mem_append_right _ h
    ·exact hinc.sublist (by simp)
    ·exact hind.sublist (by simp)
    ·intro k o' hk ho' e he hb
     by_cases ek:r.i=k
     ·subst ek
      rw [ho]at ho';cases ho'
      have:=hed e he hb
      exact⟨this.1,getD_set_true this.2⟩
     ·have hk2:listed.getD k false=true:=by rw [←getD_set_ne false ek];exact hk.2
      have:=hdown k o' ⟨hk.1,hk2⟩ ho' e he hb
      exact⟨this.1,getD_set_true this.2⟩
end
structure S6 (B:Nat→A9) (c:Cl):Prop where
 ren:∀n m,A8 c.ren n=some m→m<10000∧P9 (B n)=true∧A8 c.bl m=some (B n)
 inj:∀n n' m,A8 c.ren n=some m→A8 c.ren n'=some m→n=n'
 bl:∀m b,A8 c.bl m=some b→m<10000∧((∃n,A8 c.ren n=some m∧b=B n)∨((∃τ,b= .live τ [] true)∧∀n,A8 c.ren n≠some m))
 fz:∀n,n∈c.fz→A8 c.ren n=none
 lent:∀n m,A8 c.ren n=some m→(E7 n=true∨E7 m=true)→m=n
 own:∀m,E7 m=true→A8 c.bl m≠none→A8 c.ren m=some m
structure f6 (c c':Cl):Prop where
 ren:∀n m,A8 c.ren n=some m→A8 c'.ren n=some m
 bl:∀m b,A8 c.bl m=some b→A8 c'.bl m=some b
 fz:∀n,n∈c.fz→n∈c'.fz
 old:∀m,A8 c.bl m≠none→(∀n,A8 c.ren n≠some m)→∀n,A8 c'.ren n≠some m
theorem f6.refl (c:Cl):f6 c c:=⟨fun _ _ h=>h,fun _ _ h=>h,fun _ h=>h,fun _ _ h=>h⟩
theorem f6.trans {a b c:Cl} (h:f6 a b) (k:f6 b c):f6 a c:=
 ⟨fun n m e=>k.ren n m (h.ren n m e),fun m x e=>k.bl m x (h.bl m x e),fun n e=>k.fz n (h.fz n e),fun m e1 e2=>k.old m (by
  obtain⟨x,hx⟩:=Option.ne_none_iff_exists'.1 e1
  rw [h.bl m x hx];intro q;cases q) (h.old m e1 e2)⟩
section
variable {B:Nat→A9}
theorem D8S {c:Cl} (hi:S6 B c) {n m:Nat} (hm:m<10000) (hl:P9 (B n)=true) (hn:A8 c.ren n=none) (hf:n∉c.fz) (hb:A8 c.bl m=none) (hle:(E7 n=true∨E7 m=true)→m=n):
  S6 B ⟨c.tm,c.bl++[(m,B n)],(n,m)::c.ren,c.fz⟩∧f6 c ⟨c.tm,c.bl++[(m,B n)],(n,m)::c.ren,c.fz⟩∧A8 ((n,m)::c.ren) n=some m:=by
 have lk:∀k,A8 ((n,m)::c.ren) k=if n=k then some m else A8 c.ren k:=by
  intro k
  show(B3 (Nat.beq n k) (some m)<|A8 c.ren k)=_
  by_cases e:n=k
  ·subst e;rw [Nat.beq_refl,if_pos rfl];rfl
  ·have:Nat.beq n k=false:=by rw [Bool.eq_false_iff];intro q;exact e (Nat.eq_of_beq_eq_true q)
   rw [this,if_neg e];rfl
 have lb:∀k,A8 (c.bl++[(m,B n)]) k=match A8 c.bl k with|some x=>some x|none=>if m=k then some (B n)else none:=by
  intro k;rw [Q3,i4];cases A8 c.bl k<;>rfl
 have nom:∀k,A8 c.ren k≠some m:=by
  intro k e;have:=(hi.ren k m e).2.2;rw [hb]at this;cases this
 refine⟨⟨fun k j e=>?_,fun k k' j e e'=>?_,fun j b e=>?_,fun k hk=>?_,fun k j e hk=>?_,fun j hj e=>?_⟩,⟨fun k j e=>?_,fun j b e=>?_,fun k hk=>hk,fun j h1 h2 k=>?_⟩,by rw [lk,if_pos rfl]⟩
 rotate_left 4
 ·rw [lk]at e
  split at e
  ·rename_i q;cases e;subst q;exact hle hk
  ·exact hi.lent k j e hk
 ·have e:A8 (c.bl++[(m,B n)]) j≠none:=e
  rw [lb]at e
  show A8 ((n,m)::c.ren) j=some j
  rw [lk]
  cases hq:A8 c.bl j with
  |some x=>
   have h2:=hi.own j hj (by rw [hq];intro e;cases e)
   split
   ·rename_i q;subst q;rw [hn]at h2;cases h2
   ·exact h2
  |none=>
   rw [hq]at e
   simp only at e
   split at e
   ·rename_i q;subst q;rw [if_pos (hle (Or.inr hj)).symm]
   ·exact absurd rfl e
 rotate_left 3
 ·rw [lk]at e
  split at e
  ·rename_i q;cases e;subst q
   exact⟨hm,hl,by rw [lb,hb];simp⟩
  ·obtain⟨q1,q2,q3⟩:=hi.ren k j e
   exact⟨q1,q2,by rw [lb,q3]⟩
 ·rw [lk]at e e'
  split at e
  ·rename_i q
   cases e
   split at e'
   ·rename_i q';rw [←q,←q']
   ·exact absurd e' (nom k')
  ·split at e'
   ·cases e';exact absurd e (nom k)
   ·exact hi.inj k k' j e e'
 ·rw [lb]at e
  cases hj:A8 c.bl j with
  |some x=>
   rw [hj]at e
   cases e
   obtain⟨q1,q2⟩:=hi.bl j b hj
   refine⟨q1,?_⟩
   rcases q2 with⟨k,q3,q4⟩| ⟨q3,q4⟩
   ·refine Or.inl ⟨k,?_,q4⟩
    rw [lk,if_neg]
    ·exact q3
    ·intro e;subst e;rw [hn]at q3;cases q3
   ·refine Or.inr ⟨q3,fun k=>?_⟩
    rw [lk]
    split
    ·intro e;cases e;rw [hb]at hj;cases hj
    ·exact q4 k
  |none=>
   rw [hj]at e
   simp only at e
   split at e
   ·rename_i q;cases e;subst q
    exact⟨hm,Or.inl ⟨n,by rw [lk,if_pos rfl],rfl⟩⟩
   ·cases e
 ·rw [lk,if_neg]
  ·exact hi.fz k hk
  ·intro e;subst e;exact hf hk
 ·show A8 ((n,m)::c.ren) k=some j
  rw [lk,if_neg]
  ·exact e
  ·intro q;subst q;rw [hn]at e;cases e
 ·show A8 (c.bl++[(m,B n)]) j=some b
  rw [lb,e]
 ·show A8 ((n,m)::c.ren) k≠some j
  rw [lk]
  split
  ·intro e;cases e;exact h1 hb
  ·exact h2 k
theorem C9C {c:Cl} (hi:S6 B c) {m:Nat} (h:F9 c.bl m= .fresh):A8 c.bl m=none:=by
 rw [W7]at h
 cases hl:A8 c.bl m with
 |none=>rfl
 |some b=>
  rw [hl]at h
  simp only at h
  subst h
  rcases(hi.bl m _ hl).2 with⟨n,q1,q2⟩| ⟨⟨τ,q⟩,_⟩
  ·have:=(hi.ren n m q1).2.1;rw [←q2]at this;cases this
  ·cases q
theorem C0B {c c':Cl} (hi:S6 B c) {n m:Nat} (hlt:n<10000) (hl:P9 (B n)=true) (h:B2C B c n=some (m,c')):S6 B c'∧f6 c c'∧A8 c'.ren n=some m∧c'.tm=c.tm:=by
 unfold B2C at h
 split at h
 ·rename_i m' hm;cases h;exact⟨hi, .refl _,hm,rfl⟩
 ·rename_i hn
  split at h
  ·rename_i hf
   cases hc:G3 c.fz n with
   |true=>rw [hc]at h;cases h
   |false=>
    rw [hc]at h
    cases h
    obtain⟨q1,q2,q3⟩:=D8S hi hlt hl hn (fun e=>by rw [t8.2 e]at hc;cases hc) (C9C hi hf) (fun _=>rfl)
    exact⟨q1,q2,q3,rfl⟩
  ·cases h
theorem B6W {c c':Cl} (hi:S6 B c) {n t m:Nat} (hlt:n<10000) (hl:P9 (B n)=true) (h:B2l B c n t=some (m,c')):S6 B c'∧f6 c c'∧A8 c'.ren n=some m∧c'.tm=c.tm:=by
 unfold B2l at h
 split at h
 ·rename_i m' hm;cases h;exact⟨hi, .refl _,hm,rfl⟩
 ·rename_i hn
  cases hln:E7 n with
  |true=>rw [hln,D8]at h;exact C0B hi hlt hl h
  |false=>
   rw [hln,Q8]at h
   split at h
   ·rename_i hf
    cases hc:(G3 c.fz n||!Nat.blt t 2000)with
    |true=>rw [hc]at h;cases h
    |false=>
     rw [hc]at h
     cases h
     rw [Bool.or_eq_false_iff]at hc
     have ht:Nat.blt t 2000=true:=by simpa using hc.2
     rw [Nat.blt_eq]at ht
     obtain⟨q1,q2,q3⟩:=D8S hi (show t<10000 from by omega) hl hn (fun e=>by rw [t8.2 e]at hc;cases hc.1) (C9C hi hf) (fun e=>by
      rcases e with e|e
      ·rw [hln]at e;cases e
      ·unfold E7 at e
       rw [Bool.and_eq_true]at e
       have:=Nat.le_of_ble_eq_true e.1
       omega)
     exact⟨q1,q2,q3,rfl⟩
   ·cases h
theorem D4p:∀(ns:List Nat) {c c':Cl},S6 B c→C0R c ns=some c'→S6 B c'∧f6 c c'∧(∀n,n∈ns→n∈c'.fz)∧c'.tm=c.tm
 | [],c,c',hi,h=>by cases h;exact⟨hi, .refl _,(fun n h=>by cases h),rfl⟩
 |n::ns,c,c',hi,h=>by
  unfold C0R at h
  split at h
  ·cases h
  ·rename_i hn
   have hi1:S6 B ⟨c.tm,c.bl,c.ren,n::c.fz⟩:=⟨hi.ren,hi.inj,hi.bl,(fun k hk=>by
    rcases List.mem_cons.1 hk with rfl|hk
    ·exact hn
    ·exact hi.fz k hk),hi.lent,hi.own⟩
   obtain⟨q1,q2,q3,q4⟩:=D4p ns hi1 h
   have hle:f6 c ⟨c.tm,c.bl,c.ren,n::c.fz⟩:=⟨fun _ _ h=>h,fun _ _ h=>h,fun _ h=>List.mem_cons_of_mem _ h,fun _ _ h=>h⟩
   refine⟨q1,hle.trans q2,fun k hk=>?_,q4⟩
   rcases List.mem_cons.1 hk with rfl|hk
   ·exact q2.fz k List.mem_cons_self
   ·exact q3 k hk
inductive AOk (B:Nat→A9) (c:Cl):A→A→Prop
 |same {x:A}:(x= .u∨x= .ns∨x= .nf∨(∃t z,x= .v t z)∨(∃t z,x= .pv t z))→AOk B c x x
 |p {p:Prop} {d:Decidable p}:AOk B c (.p p d) (.v .bo (@decide p d))
 |ref {n m:Nat}:A8 c.ren n=some m→AOk B c (.ref n) (.ref m)
 |ptr {n m:Nat} {i:Int} {π:List Nat}:A8 c.ren n=some m→AOk B c (.ptr n i π) (.ptr m i π)
 |pa {n m:Nat} {lo hi:Int}:A8 c.ren n=some m→AOk B c (.part n lo hi) (.part m lo hi)
 |rp {n m:Nat} {τ:Ty} {l:List τ.T}:A8 c.ren n=some m→holds (B n) τ l→AOk B c (.ref n) (.part m 0 l.length)
 |val {x:A} {τ:Ty} {z:τ.T}:K5 B τ x=some z→(∀n,n∈G0 x→n∈c.fz)→AOk B c x (.v τ z)
 |own {t:Nat} {τ:Ty}:A8 c.bl t=some (.live τ [] true)→(∀n,A8 c.ren n≠some t)→AOk B c .ns (.ref t)
inductive A4s (B:Nat→A9) (c:Cl):List A→List A→Prop
 |nil:A4s B c [] []
 |cons {x y:A} {xs ys:List A}:AOk B c x y→A4s B c xs ys→A4s B c (x::xs) (y::ys)
inductive VOk (B:Nat→A9) (c:Cl):V→V→Prop
 |a {x y:A}:AOk B c x y→VOk B c (.a x) (.a y)
 |cl {f:Nat} {xs ys:List A}:A4s B c xs ys→VOk B c (.cl f xs) (.cl f ys)
theorem AOk.le {c c':Cl} (h:f6 c c') {x y:A} (k:AOk B c x y):AOk B c' x y:=by
 cases k with
 |same h=>exact .same h
 |p=>exact .p
 |ref e=>exact .ref (h.ren _ _ e)
 |ptr e=>exact .ptr (h.ren _ _ e)
 |pa e=>exact .pa (h.ren _ _ e)
 |rp e k=>exact .rp (h.ren _ _ e) k
 |val e1 e2=>exact .val e1 fun n hn=>h.fz n (e2 n hn)
 |own e1 e2=>exact .own (h.bl _ _ e1) (h.old _ (by rw [e1];intro q;cases q) e2)
theorem A4s.le {c c':Cl} (h:f6 c c') {x y:List A} (k:A4s B c x y):A4s B c' x y:=by
 induction k with
 |nil=>exact .nil
 |cons k _ ih=>exact .cons (k.le h) ih
theorem VOk.le {c c':Cl} (h:f6 c c') {x y:V} (k:VOk B c x y):VOk B c' x y:=by
 cases k with
 |a k=>exact .a (k.le h)
 |cl k=>exact .cl (k.le h)
theorem C6I (hB:∀n,P9 (B n)=true→n<10000):∀(xs:List A) {ys:List A} {c c':Cl},S6 B c→B3k B c xs=some (ys,c')→S6 B c'∧f6 c c'∧A4s B c' xs ys∧c'.tm=c.tm
 | [],ys,c,c',hi,h=>by cases h;exact⟨hi, .refl _, .nil,rfl⟩
 |x::xs,ys,c,c',hi,h=>by
  unfold B3k at h
  split at h
  ·rename_i q;cases q
  ·rename_i n i π l q
   cases q
   cases hl:P9 (B n)with
   |false=>rw [hl]at h;cases h
   |true=>
    rw [hl,D8]at h
    split at h
    ·rename_i m c1 h1
     obtain⟨a1,a2,a3,a4⟩:=C0B hi (hB n hl) hl h1
     split at h
     ·rename_i asx c2 h2
      cases h
      obtain⟨b1,b2,b3,b4⟩:=C6I hB xs a1 h2
      exact⟨b1,a2.trans b2, .cons (.ptr (b2.ren _ _ a3)) b3,b4.trans a4⟩
     ·cases h
    ·cases h
  ·rename_i t x l q
   cases q
   split at h
   ·rename_i asx c2 h2
    cases h
    obtain⟨b1,b2,b3,b4⟩:=C6I hB xs hi h2
    exact⟨b1,b2, .cons (.same (Or.inr (Or.inr (Or.inr (Or.inr ⟨_,_,rfl⟩))))) b3,b4⟩
   ·cases h
  ·cases h
theorem F8Y (hB:∀n,P9 (B n)=true→n<10000) {c c':Cl} (hi:S6 B c) {t:Nat} {m:KM} {v v':V} (h:clV B c t m v=some (v',c')):S6 B c'∧f6 c c'∧VOk B c' v v'∧c'.tm=c.tm:=by
 unfold clV at h
 split at h
 ·split at h
  ·rename_i z hz
   split at h
   ·rename_i c1 h1
    cases h
    obtain⟨q1,q2,q3,q4⟩:=D4p _ hi h1
    exact⟨q1,q2, .a (.val hz q3),q4⟩
   ·cases h
  ·cases h
 ·rename_i τ
  split at h
  ·rename_i hf
   cases ht:Nat.blt t 2000 with
   |false=>rw [ht]at h;cases h
   |true=>
    rw [ht]at h
    cases h
    rw [Nat.blt_eq]at ht
    have hn:=C9C hi hf
    have lb:∀k,A8 (c.bl++[(t, .live τ [] true)]) k=match A8 c.bl k with|some x=>some x|none=>if t=k then some (.live τ [] true)else none:=by
     intro k;rw [Q3,i4];cases A8 c.bl k<;>rfl
    have nom:∀k,A8 c.ren k≠some t:=by
     intro k e;have:=(hi.ren k t e).2.2;rw [hn]at this;cases this
    refine⟨⟨fun k j e=>?_,hi.inj,fun j b e=>?_,hi.fz,hi.lent,fun j hj e=>?_⟩,⟨fun _ _ h=>h,fun j b e=>?_,fun _ h=>h,fun _ _ h=>h⟩, .a (.own (τ:=τ) ?_ nom),rfl⟩
    rotate_left 2
    ·have e:A8 (c.bl++[(t, .live τ [] true)]) j≠none:=e
     rw [lb]at e
     cases hq:A8 c.bl j with
     |some x=>exact hi.own j hj (by rw [hq];intro e;cases e)
     |none=>
      rw [hq]at e
      simp only at e
      split at e
      ·rename_i q
       subst q
       unfold E7 at hj
       rw [Bool.and_eq_true]at hj
       have:=Nat.le_of_ble_eq_true hj.1
       omega
      ·exact absurd rfl e
    rotate_left 2
    ·obtain⟨q1,q2,q3⟩:=hi.ren k j e
     exact⟨q1,q2,by show A8 (c.bl++_) j=_;rw [lb,q3]⟩
    ·have e:A8 (c.bl++[(t, .live τ [] true)]) j=some b:=e
     rw [lb]at e
     cases hj:A8 c.bl j with
     |some x=>rw [hj]at e;cases e;exact hi.bl j b hj
     |none=>
      rw [hj]at e
      simp only at e
      split at e
      ·rename_i q;cases e;subst q;exact⟨by omega,Or.inr ⟨⟨τ,rfl⟩,nom⟩⟩
      ·cases e
    ·show A8 (c.bl++_) j=_;rw [lb,e]
    ·show A8 (c.bl++_) t=_;rw [lb,hn];simp
  ·cases h
 ·rename_i n
  split at h
  ·rename_i τ l tl hb
   split at h
   ·rename_i m' c1 h1
    cases h
    have hl:P9 (B n)=true:=by rw [hb];rfl
    obtain⟨q1,q2,q3,q4⟩:=B6W hi (hB n hl) hl h1
    exact⟨q1,q2, .a (.rp q3 (Or.inl ⟨tl,hb⟩)),q4⟩
   ·cases h
  ·rename_i τ l hb
   split at h
   ·rename_i m' c1 h1
    cases h
    have hl:P9 (B n)=true:=by rw [hb];rfl
    obtain⟨q1,q2,q3,q4⟩:=B6W hi (hB n hl) hl h1
    exact⟨q1,q2, .a (.rp q3 (Or.inr hb)),q4⟩
   ·cases h
  ·cases h
 ·rename_i n lo hi'
  cases hl:P9 (B n)with
  |false=>rw [hl]at h;cases h
  |true=>
   rw [hl,D8]at h
   split at h
   ·rename_i m' c1 h1
    cases h
    obtain⟨q1,q2,q3,q4⟩:=B6W hi (hB n hl) hl h1
    exact⟨q1,q2, .a (.pa q3),q4⟩
   ·cases h
 ·rename_i n _ _
  cases hl:P9 (B n)with
  |false=>rw [hl]at h;cases h
  |true=>
   rw [hl,D8]at h
   split at h
   ·rename_i m' c1 h1
    cases h
    obtain⟨q1,q2,q3,q4⟩:=B6W hi (hB n hl) hl h1
    exact⟨q1,q2, .a (.ref q3),q4⟩
   ·cases h
 ·rename_i n i π _
  cases hl:P9 (B n)with
  |false=>rw [hl]at h;cases h
  |true=>
   rw [hl,D8]at h
   split at h
   ·rename_i m' c1 h1
    cases h
    obtain⟨q1,q2,q3,q4⟩:=C0B hi (hB n hl) hl h1
    exact⟨q1,q2, .a (.ptr q3),q4⟩
   ·cases h
 ·cases h
 ·cases h;exact⟨hi, .refl _, .a .p,rfl⟩
 ·rename_i f caps _
  split at h
  ·rename_i asx c1 h1
   cases h
   obtain⟨q1,q2,q3,q4⟩:=C6I hB _ hi h1
   exact⟨q1,q2, .cl q3,q4⟩
  ·cases h
 ·cases h
 ·cases h
 ·rename_i x n1 n2 n3 n4 n5 _ _ _ _
  cases h
  refine⟨hi, .refl _, .a (.same ?_),rfl⟩
  cases x with
  |u=>exact Or.inl rfl
  |v t z=>exact Or.inr (Or.inr (Or.inr (Or.inl ⟨_,_,rfl⟩)))
  |pv t z=>exact Or.inr (Or.inr (Or.inr (Or.inr ⟨_,_,rfl⟩)))
  |ns=>exact Or.inr (Or.inl rfl)
  |nf=>exact Or.inr (Or.inr (Or.inl rfl))
  |p p d=>exact(n4 _ _ rfl).elim
  |ref n=>exact(n1 _ rfl).elim
  |part n lo hi=>exact(n3 _ _ _ rfl).elim
  |ptr n i π=>exact(n2 _ _ _ rfl).elim
  |nv b t z=>exact(n5 _ _ _ rfl).elim
theorem C3k (hB:∀n,P9 (B n)=true→n<10000):∀(ns:List Nat) {c c':Cl},S6 B c→B6G B ns c=some c'→S6 B c'∧f6 c c'∧c'.tm=c.tm∧∀n,n∈ns→E7 n=true→A8 c'.ren n=some n
 | [],c,c',hi,h=>by cases h;exact⟨hi, .refl _,rfl,(fun n h=>by cases h)⟩
 |n::ns,c,c',hi,h=>by
  unfold B6G at h
  cases hl:E7 n with
  |false=>
   rw [hl,Q8]at h
   obtain⟨q1,q2,q3,q4⟩:=C3k hB ns hi h
   refine⟨q1,q2,q3,fun k hk hkl=>?_⟩
   rcases List.mem_cons.1 hk with rfl|hk
   ·rw [hl]at hkl;cases hkl
   ·exact q4 k hk hkl
  |true=>
   rw [hl,D8]at h
   cases hf:P9 (B n)with
   |false=>rw [hf]at h;cases h
   |true=>
    rw [hf,D8]at h
    split at h
    ·rename_i m c1 h1
     obtain⟨a1,a2,a3,a4⟩:=C0B hi (hB n hf) hf h1
     obtain⟨q1,q2,q3,q4⟩:=C3k hB ns a1 h
     refine⟨q1,a2.trans q2,q3.trans a4,fun k hk hkl=>?_⟩
     rcases List.mem_cons.1 hk with rfl|hk
     ·have:=a1.lent k m a3 (Or.inl hl)
      subst this
      exact q2.ren _ _ a3
     ·exact q4 k hk hkl
    ·cases h
end
section
variable {B:Nat→A9}
theorem D3B (hB:∀n,P9 (B n)=true→n<10000) {tm:List (Nat×V)}:∀(L:List (Nat×KM)) {c c':Cl},S6 B c→(∀t v,A8 c.tm t=some v→VOk B c (K0 tm t) v)→B9q tm B L c=some c'→S6 B c'∧∀t v,A8 c'.tm t=some v→VOk B c' (K0 tm t) v
 | [],c,c',hi,ht,h=>by cases h;exact⟨hi,ht⟩
 | (t,m)::L,c,c',hi,ht,h=>by
  unfold B9q at h
  split at h
  ·rename_i v c1 h1
   obtain⟨q1,q2,q3,q4⟩:=F8Y hB hi h1
   refine D3B hB L (c:=⟨c1.tm++[(t,v)],c1.bl,c1.ren,c1.fz⟩) ⟨q1.ren,q1.inj,q1.bl,q1.fz,q1.lent,q1.own⟩ (fun k u hk=>?_) h
   have lift:∀{x y:V},VOk B c1 x y→VOk B ⟨c1.tm++[(t,v)],c1.bl,c1.ren,c1.fz⟩ x y:=fun h=>VOk.le (c:=c1) (c':=⟨c1.tm++[(t,v)],c1.bl,c1.ren,c1.fz⟩) ⟨fun _ _ h=>h,fun _ _ h=>h,fun _ h=>h,fun _ _ h=>h⟩ h
   have hk:A8 (c1.tm++[(t,v)]) k=some u:=hk
   rw [Q3,i4]at hk
   cases hl:A8 c1.tm k with
   |some x=>
    rw [hl]at hk;cases hk
    rw [q4]at hl
    exact lift ((ht k u hl).le q2)
   |none=>
    rw [hl]at hk
    simp only at hk
    split at hk
    ·rename_i e;cases hk;subst e;exact lift q3
    ·cases hk
  ·cases h
end
open Classical in
noncomputable def X6 (φ:Nat→Addr) (c:Cl) (m:Nat):Addr:=if m<10000 then(if h:∃n,A8 c.ren n=some m then φ h.choose else⟨0,0,some 0⟩)else φ m
def Q2 (bl:Nat→A9) (c:Cl) (m:Nat):A9:=if m<10000 then F9 c.bl m else bl m
section
variable {w0 w:World} {Bo:Nat→Nat→Prop} {bl0 bl B:Nat→A9} {φ0 φ:Nat→Addr} {c:Cl}
theorem A8L (hi:S6 B c) {n m:Nat} (h:A8 c.ren n=some m):X6 φ c m=φ n:=by
 have hm:=(hi.ren n m h).1
 unfold X6
 rw [if_pos hm]
 have he:∃n,A8 c.ren n=some m:=⟨n,h⟩
 rw [dif_pos he,hi.inj _ _ _ he.choose_spec h]
theorem C2M {m:Nat} (hm:m<10000) (h:∀n,A8 c.ren n≠some m):X6 φ c m=⟨0,0,some 0⟩:=by
 unfold X6
 rw [if_pos hm,dif_neg (fun⟨n,e⟩=>h n e)]
theorem A8Z {m:Nat} {b:A9} (hi:S6 B c) (h:A8 c.bl m=some b):Q2 bl c m=b:=by
 unfold Q2
 rw [if_pos (hi.bl m b h).1,W7,h]
theorem B4X (hi:S6 B c) {m:Nat} (h:live (Q2 bl c m)) (hs:(X6 φ c m).spot=none):(m<10000∧∃n,A8 c.ren n=some m∧Q2 bl c m=B n∧X6 φ c m=φ n∧n∉c.fz)∨(¬m<10000∧Q2 bl c m=bl m∧X6 φ c m=φ m):=by
 by_cases hm:m<10000
 ·refine Or.inl ⟨hm,?_⟩
  have hb:Q2 bl c m=F9 c.bl m:=by unfold Q2;rw [if_pos hm]
  cases hl:A8 c.bl m with
  |none=>rw [hb,W7,hl]at h;obtain⟨_,_,_,e⟩:=h;cases e
  |some b=>
   rcases(hi.bl m b hl).2 with⟨n,q1,q2⟩| ⟨_,q2⟩
   ·refine⟨n,q1,?_,A8L hi q1,fun e=>?_⟩
    ·rw [hb,W7,hl,q2]
    ·have:=hi.fz n e;rw [q1]at this;cases this
   ·rw [C2M hm q2]at hs;cases hs
 ·exact Or.inr ⟨hm,by unfold Q2;rw [if_neg hm],by unfold X6;rw [if_neg hm]⟩
theorem E6M {N:Nat} {B0:Nat→A9} {tm:List (Nat×V)} {a:Act} (hi:S6 B c) (hB:∀n,P9 (B n)=true→n<10000) (hBb:∀n,B n≠ .dead→n<10000∧bl n=B n) (hT:∀t v,A8 c.tm t=some v→VOk B c (K0 tm t) v)
    (hlent:∀n,E7 n=true→bl n≠ .fresh→A8 c.ren n=some n) (hr:m5 N w0 Bo bl0 φ0 (K0 tm) B0 bl φ a w):m5 N w0 Bo bl0 φ0 (K0 c.tm) (F9 c.bl) (Q2 bl c) (X6 φ c) a w:=by
  have ha:G5 B bl:=fun n hn=>(hBb n hn).2
  have st:=z9 ha hr.mem c.fz
  have m1:=st.mem
  have hnf:∀n,n∉c.fz→B4 (D0 B c.fz) bl n=bl n:=fun n h=>A3E _ _ h
  have hlive:∀n,P9 (B n)=true→bl n=B n:=fun n h=>ha n (by intro e;rw [e]at h;cases h)
  have hfar:∀n,¬n<10000→n∉c.fz→True:=fun _ _ _=>trivial
  have hfar2:∀n,¬n<10000→B4 (D0 B c.fz) bl n=bl n:=by
    intro n hn
    rcases A6z ha c.fz n with e| ⟨t,l,tl,e1,e2⟩
    · exact e
    · exfalso
      have:∀(ns:List Nat),B4 (D0 B ns) bl n= .froz t l→False:=by
        intro ns
        induction ns with
        |nil=>intro q;rw [show B4 (D0 B []) bl n=bl n from rfl,e1]at q;cases q
        | cons k ns ih=>
          intro q
          unfold D0 at q ih
          rw [List.flatMap_cons,A5Y]at q
          cases hk:B k with
          | live t' l' tl'=>
            have e:Q6 B k=[(k, .froz t' l')]:=by unfold Q6;rw [hk]
            rw [e,Q4,l8]at q
            by_cases hkn:n=k
            · subst hkn;exact hn (hB n (by rw [hk];rfl))
            · rw [O6 hkn]at q;exact ih q
          | _=>
            have e:Q6 B k=[]:=by unfold Q6;rw [hk]
            rw [e,l8]at q;exact ih q
      exact this _ e2
  have hown:∀b,C8 (Q2 bl c) (X6 φ c) b→C8 (B4 (D0 B c.fz) bl) φ b:=by
    rintro b ⟨m,h1,h2,h3⟩
    rcases B4X hi h1 h2 with⟨_,n,q1,q2,q3,q4⟩| ⟨q1,q2,q3⟩
    · rw [q3]at h2 h3
      refine⟨n,?_,h2,h3⟩
      rw [hnf n q4,hlive n (hi.ren n m q1).2.1,←q2];exact h1
    · rw [q3]at h2 h3
      refine⟨m,?_,h2,h3⟩
      rw [hfar2 m q1,←q2];exact h1
  have he:N9 w (C8 (B4 (D0 B c.fz) bl) φ) w (C8 (Q2 bl c) (X6 φ c)):=(M3.refl w (fun _ _=>False)).ext (fun _ _ _ h=>h.elim) fun b _=>hown b
  have hblk:∀n m,A8 c.ren n=some m→B0i w (C8 (Q2 bl c) (X6 φ c)) (φ n) (B n):=by
    intro n m h
    have hnn:n∉c.fz:=fun e=>by have:=hi.fz n e;rw [h]at this;cases this
    have:=m1.blk n
    rw [hnf n hnn,hlive n (hi.ren n m h).2.1]at this
    exact A8B he (fun _ _ _ _ h=>h) this
  refine⟨fun n hn=>by unfold Q2;rw [if_pos hn],⟨fun m=>?_,fun m k h1 h2 h3 h4 h5=>?_,fun m t l tl hm h1 h2=>?_,hr.mem.fr⟩,fun t=>?_,hr.size,hr.defers,fun n hn=>by unfold Q2;rw [if_neg (by omega)];exact hr.far n hn,fun n hn=>?_⟩
  rotate_left 4
  · obtain⟨k1,k2⟩:=hr.keep n hn
    rcases hn with hn|hn
    · have hln:E7 n=true:=by
        unfold E7
        rw [Bool.and_eq_true,Nat.blt_eq]
        exact⟨Nat.ble_eq_true_of_le hn.1,hn.2⟩
      refine⟨fun e=>?_,fun e=>?_⟩
      · unfold Q2
        rw [if_pos (by omega),W7]
        cases hq:A8 c.bl n with
        |none=>rfl
        | some b=>
          exfalso
          have h1:=hi.own n hln (by rw [hq];intro q;cases q)
          have h2:=(hi.ren n n h1).2.1
          rw [←hlive n h2,k1 e]at h2;cases h2
      · obtain⟨q1,q2⟩:=k2 e
        have h1:=hlent n hln (q1.ne e)
        obtain⟨_,h2,h3⟩:=hi.ren n n h1
        rw [A8Z hi h3,←hlive n h2,A8L hi h1]
        exact⟨q1,q2⟩
    · have e1:Q2 bl c n=bl n:=by unfold Q2;rw [if_neg (by omega)]
      have e2:X6 φ c n=φ n:=by unfold X6;rw [if_neg (by omega)]
      rw [e1,e2];exact⟨k1,k2⟩
  · by_cases hm:m<10000
    · cases hl:A8 c.bl m with
      | none => have e:Q2 bl c m= .fresh:=by unfold Q2;rw [if_pos hm,W7,hl]
                rw [e];trivial
      | some b=>
        rw [A8Z hi hl]
        rcases(hi.bl m b hl).2 with⟨n,q1,q2⟩| ⟨⟨τ,q1⟩,q2⟩
        · rw [A8L hi q1,q2];exact hblk n m q1
        · rw [C2M hm q2,q1];exact Or.inl ⟨by simp,rfl⟩
    · have e1:Q2 bl c m=bl m:=by unfold Q2;rw [if_neg hm]
      have e2:X6 φ c m=φ m:=by unfold X6;rw [if_neg hm]
      rw [e1,e2]
      have:=m1.blk m
      rw [hfar2 m hm]at this
      exact A8B he (fun _ _ _ _ h=>h) this
  · rcases B4X hi h1 h3 with⟨a1,n,a2,a3,a4,a5⟩| ⟨a1,a2,a3⟩
    · rcases B4X hi h2 h4 with⟨b1,n',b2,b3,b4,b5⟩| ⟨b1,b2,b3⟩
      · rw [a4]at h3 h5;rw [b4]at h4 h5;rw [a3,←hlive n (hi.ren n m a2).2.1]at h1;rw [b3,←hlive n' (hi.ren n' k b2).2.1]at h2
        have:=hr.mem.uniq n n' h1 h2 h3 h4 h5
        subst this
        rw [a2]at b2;exact Option.some.inj b2
      · rw [a4]at h3 h5;rw [b3]at h4 h5;rw [a3,←hlive n (hi.ren n m a2).2.1]at h1;rw [b2]at h2
        have:=hr.mem.uniq n k h1 h2 h3 h4 h5
        have:=hB n (hi.ren n m a2).2.1;omega
    · rcases B4X hi h2 h4 with⟨b1,n',b2,b3,b4,b5⟩| ⟨b1,b2,b3⟩
      · rw [a3]at h3 h5;rw [b4]at h4 h5;rw [a2]at h1;rw [b3,←hlive n' (hi.ren n' k b2).2.1]at h2
        have:=hr.mem.uniq m n' h1 h2 h3 h4 h5
        have:=hB n' (hi.ren n' k b2).2.1;omega
      · rw [a3]at h3 h5;rw [b3]at h4 h5;rw [a2]at h1;rw [b2]at h2
        exact hr.mem.uniq m k h1 h2 h3 h4 h5
  · rcases B4X hi ⟨_,_,_,h1⟩ h2 with⟨_,n,q1,q2,q3,_⟩| ⟨q1,_,_⟩
    · rw [q3]at h2⊢
      rw [q2,←hlive n (hi.ren n m q1).2.1]at h1
      exact hr.mem.lo n t l tl (hB n (hi.ren n m q1).2.1) h1 h2
    · exact absurd hm q1
  · have aok:∀(x y:A) (u:Value),AOk B c x y→C2 w bl φ x u→C2 w (Q2 bl c) (X6 φ c) y u:=by
      intro x y u h hx
      cases h with
      | same h=>
        have hx':=A3h st.goes _ _ hx
        rcases h with rfl|rfl|rfl| ⟨t,z,rfl⟩| ⟨t,z,rfl⟩
        · trivial
        · exact hx
        · exact hx
        · exact A2A hown (Or.inl ⟨_,_,rfl⟩) hx'
        · exact A2A hown (Or.inr ⟨_,_,rfl⟩) hx'
      |p=>exact R2.2 hx
      | @ref n m e=>
        obtain⟨_,q2,q3⟩:=hi.ren _ _ e
        simp only [C2,hlive n q2]at hx
        simp only [C2,A8Z hi q3,A8L hi e]
        exact hx
      | @ptr n m i π e=>
        obtain⟨_,q2,q3⟩:=hi.ren _ _ e
        simp only [C2,hlive n q2]at hx
        simp only [C2,A8Z hi q3,A8L hi e]
        exact hx
      | @pa n m lo hi' e=>
        obtain⟨_,q2,q3⟩:=hi.ren _ _ e
        simp only [C2,hlive n q2]at hx
        simp only [C2,A8Z hi q3,A8L hi e]
        exact hx
      | @rp n m τ l e hb=>
        obtain⟨_,q2,q3⟩:=hi.ren _ _ e
        simp only [C2,hlive n q2]at hx
        simp only [C2,A8Z hi q3,A8L hi e]
        have hp:∀(v:Value),A4X w (φ n) τ.sz l.length v→A3S w (φ n) τ.sz l.length 0 l.length v:=by
          intro v hv
          rcases hv with⟨h1,ad,rfl⟩| ⟨h1,cap,rfl,h3,h4⟩
          · rw [h1];exact⟨Int.le_refl _,by simp,by simp,ad,0,rfl,by simp,Or.inl rfl⟩
          · refine⟨Int.le_refl _,by omega,by omega,some (φ n),cap,by congr 1,by omega,Or.inr ⟨h1,?_,?_⟩⟩
            · cases hq:φ n with|mk b o s=>rw [hq]at h1;simp only at h1;subst h1;simp
            · have:(φ n).off+(0:Int).toNat*τ.sz=(φ n).off:=by simp
              rw [this];exact h4
        rcases hb with⟨tl,hb⟩|hb
        · rw [hb]at hx⊢;exact hp _ hx
        · rw [hb]at hx⊢;exact hp _ hx
      |val e1 e2=>exact A2A hown (Or.inl ⟨_,_,rfl⟩) (A7C ha hr.mem (fun n hn _=>e2 n hn) e1 hx)
      | @own t τ e1 e2=>
        obtain⟨ad,rfl⟩:=hx
        simp only [C2,A8Z hi e1,C2M (hi.bl _ _ e1).1 e2]
        exact Or.inl ⟨rfl,ad,rfl⟩
    have asok:∀(xs ys:List A),A4s B c xs ys→∀cv,N1 w bl φ xs cv→N1 w (Q2 bl c) (X6 φ c) ys cv:=by
      intro xs ys h
      induction h with
      |nil=>intro cv e;cases e;exact .nil
      |cons h _ ih=>intro cv e;cases e with|cons r1 r2=>exact .cons (aok _ _ _ h r1) (ih _ r2)
    have hx:=hr.tm t
    cases hl:A8 c.tm t with
    | none=>
      have:K0 c.tm t= .a .u:=by
        have gl:∀(l:List (Nat×V)),A8 l t=none→K0 l t= .a .u:=by
          intro l
          induction l with
          |nil=>intro _;rfl
          | cons q l ih=>
            obtain⟨k,x⟩:=q
            intro h
            unfold A8 at h;unfold K0
            cases hb:Nat.beq k t with
            |true=>rw [hb]at h;cases h
            |false=>rw [hb]at h;exact ih h
        exact gl _ hl
      rw [this];trivial
    | some v=>
      have gl:∀(l:List (Nat×V)),A8 l t=some v→K0 l t=v:=by
        intro l
        induction l with
        |nil=>intro h;cases h
        | cons q l ih=>
          obtain⟨k,x⟩:=q
          intro h
          unfold A8 at h;unfold K0
          cases hb:Nat.beq k t with
          |true=>rw [hb]at h;cases h;rfl
          |false=>rw [hb]at h;exact ih h
      rw [gl _ hl]
      have hv:=hT t v hl
      generalize K0 tm t=x at hx hv
      cases hv with
      |a h=>exact aok _ _ _ h hx
      | cl h=>
        obtain⟨cv,e1,e2⟩:=hx
        exact⟨cv,e1,asok _ _ h cv e2⟩
def Rel (N:Nat) (w0:World) (Bo:Nat→Nat→Prop) (bl0:Nat→A9) (φ0:Nat→Addr) (st:St) (a:Act) (w:World):Prop:=∃bl φ,m5 N w0 Bo bl0 φ0 (K0 st.tm) (F9 st.bl) bl φ a w
theorem F3c {N:Nat} {L:List (Nat×KM)} {st st':St} {a:Act} (h:C5g L st=some st') (hr:Rel N w0 Bo bl0 φ0 st a w):Rel N w0 Bo bl0 φ0 st' a w:=by
 unfold C5g at h
 split at h
 ·rename_i c hc
  split at h
  ·rename_i c2 hc2
   cases h
   obtain⟨bl,φ,hr⟩:=hr
   have hB:∀n,P9 (B3 (Nat.blt n 10000) (F9 st.bl n)<| .dead)=true→n<10000:=by
    intro n h
    cases hb:Nat.blt n 10000 with
    |true=>rwa [Nat.blt_eq]at hb
    |false=>rw [hb]at h;cases h
   obtain⟨q1,q2⟩:=D3B hB L (c:=⟨[],[],[],[]⟩) ⟨(fun n m h=>by cases h),(fun n n' m h=>by cases h),(fun m b h=>by cases h),(fun n h=>by cases h),(fun n m h=>by cases h),(fun m _ h=>absurd rfl h)⟩ (fun t v h=>by cases h) hc
   obtain⟨p1,p2,p3,p4⟩:=C3k hB (st.bl.map (·.1)) q1 hc2
   refine⟨Q2 bl c2,X6 φ c2,E6M p1 hB (fun n hn=>?_) (fun t v hv=>?_) (fun n hn hf=>?_) hr⟩
   ·cases hb:Nat.blt n 10000 with
    |true=>
     rw [Nat.blt_eq]at hb
     exact⟨hb,hr.loc n hb⟩
    |false=>rw [hb]at hn;exact absurd rfl hn
   ·rw [p3]at hv;exact(q2 t v hv).le p2
   ·have hlt:n<10000:=by
     unfold E7 at hn
     rw [Bool.and_eq_true,Nat.blt_eq]at hn
     omega
    rw [hr.loc n hlt]at hf
    refine p4 n ?_ hn
    rw [W7]at hf
    cases hl:A8 st.bl n with
    |none=>rw [hl]at hf;exact absurd rfl hf
    |some b=>exact List.mem_map.2 ⟨_,Z9 _ _ _ hl,rfl⟩
  ·cases h
 ·cases h
end
section
variable {P:Program} {N:Nat} {w0:World} {Bo:Nat→Nat→Prop} {bl0:Nat→A9} {φ0:Nat→Addr} {ops:Array Oper} {E:D7} {R:Type} {r:R}
theorem D1x {mk:List Nat} {a:Met}:∀{ms:List Met},C1O ops mk a ms=true→∀b,b∈ms→(mk.getD a.i 0).testBit b.i=true∨B5L ops b a=true
 | [],_,b,hb=>by cases hb
 |c::ms,h,b,hb=>by
  unfold C1O at h
  rw [Bool.and_eq_true]at h
  rcases List.mem_cons.1 hb with rfl|hb
  ·cases ht:Nat.testBit (mk.getD a.i 0) b.i with
   |true=>exact Or.inl rfl
   |false=>rw [ht]at h;exact Or.inr h.1
  ·exact D1x h.2 b hb
theorem D2A {mk:List Nat}:∀{ms:List Met},B5g ops mk ms=true→ms.Pairwise fun a b=>(mk.getD a.i 0).testBit b.i=true∨B5L ops b a=true
 | [],_=> .nil
 |a::ms,h=>by
  unfold B5g at h
  rw [Bool.and_eq_true]at h
  exact List.pairwise_cons.2 ⟨D1x h.1,D2A h.2⟩
theorem E1q {x y:Rc} (h:B5L ops (B2R x) (B2R y)=true):B0I ops x y:=by
 unfold B5L at h
 rw [Bool.and_eq_true]at h
 refine⟨fun a b ha hb=>?_,?_⟩
 ·have h1:=h.1
  simp only [B2R,ha,hb]at h1
  exact h1
 ·have h2:=h.2
  rw [Bool.or_eq_true,Bool.and_eq_true]at h2
  rcases h2 with h2|h2
  ·exact Or.inl h2
  ·refine Or.inr fun n hn hm=>?_
   simp only [B2R,Bool.not_eq_true',List.any_eq_false]at h2
   exact h2 n hn (t8.2 hm)
theorem F4p (h:C0y ops=true):∀i o,ops[i]?=some o→∀e,e∈o.after.toList→Region.binds .any e=true→e.on<i:=by
 intro i o ho e he hb
 unfold C0y at h
 rw [List.all_eq_true]at h
 have hi:i<ops.size:=(Array.getElem?_eq_some_iff.1 ho).1
 have h1:=h i (List.mem_range.2 hi)
 have ho':ops.getD i default=o:=by
  rw [Array.getElem?_eq_some_iff]at ho
  obtain⟨k,e⟩:=ho
  simp [Array.getD,k,e]
 rw [ho',Array.all_eq_true']at h1
 have h2:=h1 e (by simpa using he)
 rw [hb]at h2
 simpa using h2
theorem F5k (l:List Oper):((List.range l.length).zip l).map (·.1)=List.range l.length:=by
 rw [←List.unzip_fst,List.unzip_zip]
 simp
theorem F5b {l:List Oper} {q:Nat×Oper} (h:q∈(List.range l.length).zip l):l[q.1]?=some q.2:=by
 obtain⟨i,hi,e⟩:=List.mem_iff_getElem.1 h
 rw [List.getElem_zip,List.getElem_range]at e
 subst e
 rw [List.length_zip,List.length_range]at hi
 rw [List.getElem?_eq_getElem (by omega)]
theorem E7u {F:Fence} {n:Nat} (hF:f7 F) (hE:F0 P E) (hm:P.follows .mixedOrders=true) {orc:P5 R} (horc:A0h P orc) {id:Nat} {draw:Bool} {st:St} {K:St→Option R} {a:Act} {w:World} {Q:Exit→Act→World→Prop}
  (h:C5i E orc N ops draw st K=some r) (hr:Rel N w0 Bo bl0 φ0 st a w) (hq:∀st' a' w',K st'=some r→Rel N w0 Bo bl0 φ0 st' a' w'→Q .normal a' w'):(Code.region id ops draw).wpIn F n P Q a w:=by
 unfold C5i at h
 obtain⟨st',rs,k1,k2,k3⟩:=C5I (P:=P) (w0:=w0) (Bo:=Bo) hE horc _ st [] _ (fun q hq=>by have:=F5b (l:=ops.toList) (by simpa using hq);simpa using this) h
 obtain⟨bl,φ,hr⟩:=hr
 have hidx:rs.map (·.i)=List.range ops.size:=by rw [k3];have:=F5k ops.toList;simpa using this
 cases draw with
 |false=>
  rw [Q8]at k1
  refine wpIn_region ?_
  rw [←hidx]
  exact F0A hF k2 hr fun bl' φ' a' w' hr'=>hq _ _ _ k1 ⟨bl',φ',hr'⟩
 |true=>
  rw [D8]at k1
  cases hc:(C0y ops&&B5g ops (A0f ops.toList []) ((rs.map B2R).reverse++[]))with
  |false=>rw [hc]at k1;cases k1
  |true=>
   rw [hc,D8]at k1
   rw [Bool.and_eq_true,List.append_nil]at hc
   have hlt:=F4p hc.1
   have hp:=D2A hc.2
   rw [List.pairwise_reverse,List.pairwise_map]at hp
   refine wpIn_region_any hm ?_
   have st:=C4R hr.mem
   have hr2:m5 N w0 Bo bl0 φ0 (K0 _) (F9 _) bl φ a {w with drawn:=w.drawn+1}:=⟨hr.loc,st.mem,fun t=>B1I st.goes _ _ (hr.tm t),hr.size,hr.defers,hr.far,hr.keep⟩
   have hlen:rs.length=ops.size:=by
    have:=congrArg List.length hidx
    simpa using this
   refine D1y hF hlt ops.size rs (Array.replicate ops.size false) _ _ bl φ a _ (by omega) (by simp) (fun i=>?_) ?_ (hp.imp fun h=>?_) ?_ k2 hr2 fun bl' φ' a' w' hr'=>hq _ _ _ k1 ⟨bl',φ',hr'⟩
   ·rw [hidx,List.mem_range]
    constructor
    ·intro hi;exact⟨hi,by simp [Array.getD,hi]⟩
    ·exact fun h=>h.1
   ·have:(List.range ops.size).Pairwise (· < ·):=List.pairwise_lt_range
    rw [←hidx,List.pairwise_map]at this
    exact this
   ·rcases h with h|h
    ·exact Or.inl h
    ·exact Or.inr (E1q h)
   ·rintro i o ⟨h1,h2⟩
    exfalso
    simp [Array.getD,h1]at h2
def E4I:Ex→Exit
 | .norm=> .normal
 | .exit id=> .exit id
 | .ret=> .ret
def KQ (N:Nat) (w0:World) (Bo:Nat→Nat→Prop) (bl0:Nat→A9) (φ0:Nat→Addr) (r:R) (K:KX R) (Q:Exit→Act→World→Prop):Prop:=
 ∀x st a w,K x st=some r→Rel N w0 Bo bl0 φ0 st a w→Q (E4I x) a w
def LoQ (F:Fence) (n:Nat) (P:Program) (N:Nat) (w0:World) (Bo:Nat→Nat→Prop) (bl0:Nat→A9) (φ0:Nat→Addr) (lo:Nat→St→Option R) (r:R) (key:Nat) (c:Code) (Q:Exit→Act→World→Prop):Prop:=
 ∀st a w,lo key st=some r→Rel N w0 Bo bl0 φ0 st a w→c.wpIn F n P Q a w
def A5X (F:Fence) (n:Nat) (P:Program) (N:Nat) (w0:World) (Bo:Nat→Nat→Prop) (bl0:Nat→A9) (φ0:Nat→Addr) (an:n9) (lo:Nat→St→Option R) (r:R):Code→(Exit→Act→World→Prop)→Prop
 | .seq a b,Q=>A5X F n P N w0 Bo bl0 φ0 an lo r a (Exit.then (b.wpIn F n P Q) Q)∧(match A8 an.cut (F8 b)with
  |some _=>LoQ F n P N w0 Bo bl0 φ0 lo r (F8 b) b Q
  |none=>A5X F n P N w0 Bo bl0 φ0 an lo r b Q)
 | .cond _ a b,Q=>A5X F n P N w0 Bo bl0 φ0 an lo r a Q∧A5X F n P N w0 Bo bl0 φ0 an lo r b Q
 | .block id c,Q=>A5X F n P N w0 Bo bl0 φ0 an lo r c (Exit.inBlock id Q)
 | .loop c,Q=>LoQ F n P N w0 Bo bl0 φ0 lo r (F8 c) (.loop c) Q
 | .scope c,Q=>A5X F n P N w0 Bo bl0 φ0 an lo r c (Exit.noGoto Q)
 | .rangeFunc g ps c d,Q=>LoQ F n P N w0 Bo bl0 φ0 lo r (F8 c) (.rangeFunc g ps c d) Q
 |_,_=>True
theorem B4q {L:Option (List (Nat×KM))} {st:St} {K:St→Option R} {a:Act} {w:World} (h:A5g L st K=some r) (hr:Rel N w0 Bo bl0 φ0 st a w):∃st',K st'=some r∧Rel N w0 Bo bl0 φ0 st' a w:=by
 unfold A5g at h
 split at h
 ·exact⟨st,h,hr⟩
 ·split at h
  ·rename_i st' hc
   exact⟨st',h,F3c hc hr⟩
  ·cases h
def C0d (E:D7) (orc:P5 R) (N:Nat) (an:n9) (lo:Nat→St→Option R) (b:Code) (K:KX R):KX R:=fun x st=>match x with
 | .norm=>(match A8 an.cut (F8 b)with
  |some L=>A5g (some L) st fun st=>lo (F8 b) st
  |none=>A5g (A8 an.rg (F8 b)) st fun st=>ev E orc N an lo b st K)
 |x=>K x st
def B9n (id:Nat) (K:KX R):KX R:=fun x st=>match x with
 | .exit j=>B3 (Nat.beq j id) (K .norm st)<|K (.exit j) st
 |x=>K x st
theorem D7m {id:Nat} {K:KX R} {Q:Exit→Act→World→Prop} (h:KQ N w0 Bo bl0 φ0 r K Q):KQ N w0 Bo bl0 φ0 r (B9n id K) (Exit.inBlock id Q):=by
 intro x st a w hk hr
 cases x with
 |norm=>exact h _ _ _ _ hk hr
 |ret=>exact h _ _ _ _ hk hr
 |exit j=>
  unfold B9n at hk
  simp only at hk
  show if j=id then _ else _
  by_cases hj:j=id
  ·subst hj
   rw [Nat.beq_refl]at hk
   rw [if_pos rfl]
   exact h _ _ _ _ hk hr
  ·have:Nat.beq j id=false:=by rw [Bool.eq_false_iff];intro e;exact hj (Nat.eq_of_beq_eq_true e)
   rw [this]at hk
   rw [if_neg hj]
   exact h _ _ _ _ hk hr
theorem D1w {K:KX R} {Q:Exit→Act→World→Prop} (h:KQ N w0 Bo bl0 φ0 r K Q):KQ N w0 Bo bl0 φ0 r K (Exit.noGoto Q):=by
 intro x st a w hk hr
 cases x with
 |norm=>exact h _ _ _ _ hk hr
 |ret=>exact h _ _ _ _ hk hr
 |exit j=>exact h _ _ _ _ hk hr
theorem F7g {F:Fence} {n:Nat} {P:Program} {c:Code} {Q:Exit→Act→World→Prop} {a:Act} {w:World} (h:c.wpIn F n P (Exit.noGoto Q) a w):(Code.scope c).wpIn F n P Q a w:=by
 intro b k cs hro hb hr
 have s1:step P (lone (b.atR a (.code (.scope c)::k)) cs w)= .next (lone (b.atR a (.code c:: .inScope c::k)) cs w):=step_lone_go (by simp [stepG,stepG.exec,Frame.atR])
 have s2:∀a w,step P (lone (b.atR a (.inScope c::k)) cs w)= .next (lone (b.atR a k) cs w):=fun a w=>step_lone_go (by simp [stepG,stepG.exec,Frame.atR])
 obtain⟨e,a₁,w₁,hq,harr⟩:=h b (.inScope c::k) cs hro hb hr
 have h0:=fenced_calm (P:=P) (F:=F) (fr:=b.atR a (.code (.scope c)::k)) (cs:=cs) (w:=w) hb hr rfl
 cases e with
 |normal=>exact⟨.normal,a₁,w₁,hq, .head h0 s1 (StepsIn.trans harr (.one (fenced_calm hb hr rfl) (s2 _ _)))⟩
 |exit id=>exact⟨.exit id,a₁,w₁,hq,fun k' hk=> .head h0 s1 (harr.1 k' (by simp [exitTo,hk])),fun hr' hk=>let ⟨k₁,h1,h2⟩:=harr.2 hr' (by simp [exitTo,hk]);⟨k₁,h1, .head h0 s1 h2⟩⟩
 |goto l=>exact hq.elim
 |ret=>exact⟨_,a₁,w₁,hq, .of_steps (.one h0 s1) harr⟩
 |panic ch=>exact⟨_,a₁,w₁,hq, .of_steps (.one h0 s1) harr⟩
 |outgrown=>exact⟨_,a₁,w₁,hq, .of_steps (.one h0 s1) harr⟩
theorem D2Y {F:Fence} {n:Nat} {orc:P5 R} {an:n9} {lo:Nat→St→Option R} {b:Code} {K:KX R} {Q:Exit→Act→World→Prop} (h:KQ N w0 Bo bl0 φ0 r K Q) (hlo:∀L,A8 an.cut (F8 b)=some L→LoQ F n P N w0 Bo bl0 φ0 lo r (F8 b) b Q)
  (hev:A8 an.cut (F8 b)=none→∀st a w,ev E orc N an lo b st K=some r→Rel N w0 Bo bl0 φ0 st a w→b.wpIn F n P Q a w):KQ N w0 Bo bl0 φ0 r (C0d E orc N an lo b K) (Exit.then (b.wpIn F n P Q) Q):=by
 intro x st a w hk hr
 cases x with
 |exit j=>exact h _ _ _ _ hk hr
 |ret=>exact h _ _ _ _ hk hr
 |norm=>
  unfold C0d at hk
  simp only at hk
  show b.wpIn F n P Q a w
  split at hk
  ·rename_i L hL
   obtain⟨st',h1,h2⟩:=B4q hk hr
   exact hlo L hL _ _ _ h1 h2
  ·rename_i hL
   obtain⟨st',h1,h2⟩:=B4q hk hr
   exact hev hL _ _ _ h1 h2
theorem B8s {F:Fence} {n:Nat} (hF:f7 F) (hE:F0 P E) (hm:P.follows .mixedOrders=true) {orc:P5 R} (horc:A0h P orc) {an:n9} {lo:Nat→St→Option R}:∀(c:Code) (Q:Exit→Act→World→Prop),A5X F n P N w0 Bo bl0 φ0 an lo r c Q→
  ∀(K:KX R),KQ N w0 Bo bl0 φ0 r K Q→∀(st:St) (a:Act) (w:World),ev E orc N an lo c st K=some r→Rel N w0 Bo bl0 φ0 st a w→c.wpIn F n P Q a w:=by
 intro c
 induction c with
 |skip=>intro Q _ K hK st a w h hr;exact wpIn_skip (hK .norm st _ _ h hr)
 |region id ops draw=>
  intro Q _ K hK st a w h hr
  exact E7u hF hE hm horc h hr fun st' a' w' h' hr'=>hK .norm st' _ _ h' hr'
 |seq x y ihx ihy=>
  intro Q hl K hK st a w h hr
  have hl1:=hl.1
  have hl2:=hl.2
  refine wpIn_seq (ihx _ hl1 (C0d E orc N an lo y K) (D2Y hK (fun L hL=>?_) fun hL=>?_) st a w h hr)
  ·rw [hL]at hl2;exact hl2
  ·rw [hL]at hl2
   exact fun st a w h hr=>ihy Q hl2 K hK st a w h hr
 |cond c x y ihx ihy=>
  intro Q hl K hK st a w h hr
  unfold ev at h
  have hc:∀v,opv st.tm c=v→∃bl φ,C3 w bl φ v (a.eval c):=by
   intro v hv
   obtain⟨bl,φ,hr⟩:=hr
   refine⟨bl,φ,?_⟩
   rw [←hv,D4K]
   exact D7C hr c
  split at h
  ·rename_i t hv
   obtain⟨bl,φ,hv⟩:=hc _ hv
   have hv:=R2.1 hv
   refine wpIn_cond hv ?_
   cases ht:(t:Bool)with
   |true=>rw [ht]at h;exact ihx Q hl.1 K hK _ _ _ h hr
   |false=>rw [ht]at h;exact ihy Q hl.2 K hK _ _ _ h hr
  ·rename_i p hp hv
   obtain⟨bl,φ,hv⟩:=hc _ hv
   have hv:a.eval c= .bool (@decide p hp):=hv
   refine wpIn_cond hv ?_
   split at h
   ·rename_i hpp
    rw [decide_eq_true hpp]
    exact ihx Q hl.1 K hK _ _ _ h hr
   ·rename_i hpp
    rw [decide_eq_false hpp]
    exact ihy Q hl.2 K hK _ _ _ h hr
  ·cases h
 |block id c ih=>
  intro Q hl K hK st a w h hr
  exact wpIn_block (ih _ hl (B9n id K) (D7m hK) st a w h hr)
 |loop c ih=>
  intro Q hl K hK st a w h hr
  unfold ev at h
  obtain⟨st',h1,h2⟩:=B4q h hr
  exact hl _ _ _ h1 h2
 |rangeFunc g ps c d _ _=>
  intro Q hl K hK st a w h hr
  unfold ev at h
  obtain⟨st',h1,h2⟩:=B4q h hr
  exact hl _ _ _ h1 h2
 |scope c ih=>
  intro Q hl K hK st a w h hr
  exact F7g (ih _ hl K (D1w hK) st a w h hr)
 |label l=>intro Q _ K hK st a w h hr;exact wpIn_label (hK .norm st _ _ h hr)
 |exit id=>intro Q _ K hK st a w h hr;exact wpIn_exit (hK (.exit id) st _ _ h hr)
 |ret=>intro Q _ K hK st a w h hr;exact wpIn_ret (hK .ret st _ _ h hr)
 |_=>intro Q _ K hK st a w h hr;unfold ev at h;cases h
end
def bB (st:St) (n:Nat):A9:=B3 (Nat.blt n 10000) (F9 st.bl n)<| .dead
structure Res where
 v:V
 bs:Bl
 src:List (Nat×Nat)
 fz:List Nat
def C7n (B:Nat→A9) (j:Nat):RM→V→Option Res
 | .d t, .a x=>match K5 B t x with|some z=>some ⟨.a (.v t z),[],[],G0 x⟩|none=>none
 | .own t, .a .ns=>some ⟨.a (.ref (3000+j)),[(3000+j, .live t [] true)],[],[]⟩
 | .own t, .a (.ref n)=>match B n with
  | .live t' l true=>B3 (decide (t'=t)&&!E7 n) (some ⟨.a (.ref (3000+j)),[(3000+j, .live t' l true)],[(3000+j,n)],[]⟩)<|none
  |_=>none
 | .vw, .a (.ref n)=>B3 (E7 n) ((match B n with| .live _ _ _=>some ⟨.a (.ref n),[],[],[]⟩|_=>none))<|none
 | .vw, .a (.part n lo hi)=>B3 (E7 n) ((match B n with| .live _ _ _=>some ⟨.a (.part n lo hi),[],[],[]⟩|_=>none))<|none
 | .sh, .a (.part n lo hi)=>B3 (E7 n) ((match B n with| .live _ _ _=>some ⟨.a (.part n lo hi),[],[],[]⟩|_=>none))<|none
 | .sh, .a (.v (.li t) x)=>some ⟨.a (.v (.li t) x),[],[],[]⟩
 | .fn, .cl f caps=>match A6r B caps with|some cs=>some ⟨.cl f cs,[],[],caps.flatMap G0⟩|none=>none
 |_,_=>none
def B4D (E:D7) (tm:List (Nat×V)) (B:Nat→A9):ResultVar→Option V
 | .tmp t=>some (K0 tm t)
 | .cell a t=>A9H E t (K0 tm a) B fun v _=>some v
structure D3i where
 vs:List V
 bs:Bl
 src:List (Nat×Nat)
 fz:List Nat
def B8z (E:D7) (tm:List (Nat×V)) (B:Nat→A9):Nat→List RM→List ResultVar→Option D3i
 |_,[],[]=>some ⟨[],[],[],[]⟩
 |j,m::ms,r::rs=>match B4D E tm B r with
  |some v=>(match C7n B j m v with
   |some x=>(match B8z E tm B (j+1) ms rs with
    |some y=>some ⟨x.v::y.vs,x.bs++y.bs,x.src++y.src,x.fz++y.fz⟩
    |none=>none)
   |none=>none)
  |none=>none
 |_,_,_=>none
def B3X (B:Nat→A9):Bl→Option Bl
 | []=>some []
 | (n,_)::l=>match B n,B3X B l with
  | .live t x tl,some m=>some ((n, .live t x tl)::m)
  |_,_=>none
def l5:Nat→List V→List (Nat×V)
 |_,[]=>[]
 |i,v::vs=>(i,v)::l5 (i+1) vs
def B9s:List (Nat×V)→Option (List A)
 | []=>some []
 | (_, .a x)::l=>match B9s l with|some m=>some (x::m)|none=>none
 |_=>none
def B1v:List (Nat×V)→Option V
 | [(_,v)]=>some v
 |vs=>match B9s vs with|some asx=>some (.tup asx)|none=>none
def B4B {R:Type} (E:D7) (rs:List ResultVar) (rms:List RM) (bs0:Bl) (st:St) (K:St→Option R):Option R:=
 match B8z E st.tm (bB st) 0 rms rs with
 |some y=>(match B3X (bB st) bs0 with
  |some ls=>B3 (n8 (y.src.map (·.2))&&(y.src.all fun q=>!G3 y.fz q.2)&&(y.fz.all fun n=>!E7 n)&&Nat.ble rms.length 900) (K ⟨l5 0 y.vs,ls++y.bs⟩)<|none
  |none=>none)
 |none=>none
def B3n {R:Type} (E:D7) (rs:List ResultVar) (rms:List RM) (bs0:Bl) (K:St→Option R):KX R:=fun x st=>match x with
 | .norm=>B4B E rs rms bs0 st K
 | .ret=>B4B E rs rms bs0 st K
 |_=>none
def B8U {R:Type} (E:D7) (orc:P5 R) (an:n9) (lo:Nat→St→Option R) (N:Nat) (c:Code) (rs:List ResultVar) (rms:List RM) (st0:St) (K:St→Option R):Option R:=
 ev E orc N an lo c st0 (B3n E rs rms st0.bl K)
inductive R1 (B:Nat→A9) (j:Nat):V→V→Bl→List (Nat×Nat)→List Nat→Prop
 |d {t:Ty} {x:A} {z:t.T}:K5 B t x=some z→R1 B j (.a x) (.a (.v t z)) [] [] (G0 x)
 |nil {t:Ty}:R1 B j (.a .ns) (.a (.ref (3000+j))) [(3000+j, .live t [] true)] [] []
 |own {t:Ty} {l:List t.T} {n:Nat}:B n= .live t l true→E7 n=false→R1 B j (.a (.ref n)) (.a (.ref (3000+j))) [(3000+j, .live t l true)] [(3000+j,n)] []
 |vw {n:Nat} {t:Ty} {l:List t.T} {tl:Bool}:E7 n=true→B n= .live t l tl→R1 B j (.a (.ref n)) (.a (.ref n)) [] [] []
 |vp {n:Nat} {lo hi:Int} {t:Ty} {l:List t.T} {tl:Bool}:E7 n=true→B n= .live t l tl→R1 B j (.a (.part n lo hi)) (.a (.part n lo hi)) [] [] []
 |vv {t:Ty} {x:List t.T}:R1 B j (.a (.v (.li t) x)) (.a (.v (.li t) x)) [] [] []
 |fn {f:Nat} {caps cs:List A}:A6r B caps=some cs→R1 B j (.cl f caps) (.cl f cs) [] [] (caps.flatMap G0)
theorem F7K {B:Nat→A9} {j:Nat} {m:RM} {v:V} {x:Res} (h:C7n B j m v=some x):R1 B j v x.v x.bs x.src x.fz:=by
 unfold C7n at h
 split at h
 ·split at h
  ·rename_i z hz;cases h;exact .d hz
  ·cases h
 ·cases h;exact .nil
 ·rename_i t0 n
  split at h
  ·rename_i t l hb
   cases hc:(decide (t=t0)&&!E7 n)with
   |false=>rw [hc]at h;cases h
   |true=>
    rw [hc]at h
    cases h
    rw [Bool.and_eq_true]at hc
    exact .own hb (by simpa using hc.2)
  ·cases h
 ·rename_i n
  cases hc:E7 n with
  |false=>rw [hc]at h;cases h
  |true=>
   rw [hc,D8]at h
   split at h
   ·rename_i hb;cases h;exact .vw hc hb
   ·cases h
 ·rename_i n lo hi
  cases hc:E7 n with
  |false=>rw [hc]at h;cases h
  |true=>
   rw [hc,D8]at h
   split at h
   ·rename_i hb;cases h;exact .vp hc hb
   ·cases h
 ·rename_i n lo hi
  cases hc:E7 n with
  |false=>rw [hc]at h;cases h
  |true=>
   rw [hc,D8]at h
   split at h
   ·rename_i hb;cases h;exact .vp hc hb
   ·cases h
 ·cases h;exact .vv
 ·split at h
  ·rename_i hc;cases h;exact .fn hc
  ·cases h
 ·cases h
inductive RR (B:Nat→A9):Nat→List V→List V→Bl→List (Nat×Nat)→List Nat→Prop
 |nil {j:Nat}:RR B j [] [] [] [] []
 |cons {j:Nat} {v x:V} {b:Bl} {s:List (Nat×Nat)} {f:List Nat} {vs xs:List V} {bs:Bl} {ss:List (Nat×Nat)} {fs:List Nat}:R1 B j v x b s f→RR B (j+1) vs xs bs ss fs→RR B j (v::vs) (x::xs) (b++bs) (s++ss) (f++fs)
theorem D3Y {E:D7} {tm:List (Nat×V)} {B:Nat→A9}:∀(rms:List RM) (rs:List ResultVar) (j:Nat) (y:D3i),B8z E tm B j rms rs=some y→∃raws,rs.mapM (B4D E tm B)=some raws∧RR B j raws y.vs y.bs y.src y.fz∧raws.length=rms.length
 | [],[],j,y,h=>by cases h;exact⟨[],rfl, .nil,rfl⟩
 |m::ms,r::rs,j,y,h=>by
  unfold B8z at h
  split at h
  ·rename_i v hv
   split at h
   ·rename_i x hx
    split at h
    ·rename_i z hz
     cases h
     obtain⟨raws,h1,h2,h3⟩:=D3Y ms rs (j+1) z hz
     refine⟨v::raws,?_, .cons (F7K hx) h2,by simp [h3]⟩
     rw [List.mapM_cons,hv]
     simp [h1]
    ·cases h
   ·cases h
  ·cases h
 | [],_::_,j,y,h=>by cases h
 |_::_,[],j,y,h=>by cases h
section
variable {B:Nat→A9}
theorem RR.own {j:Nat} {vs xs:List V} {bs:Bl} {src:List (Nat×Nat)} {fz:List Nat} (h:RR B j vs xs bs src fz):
  (∀n b,A8 bs n=some b→3000+j≤n∧n<3000+j+vs.length∧((∃s t l,A8 src n=some s∧b= .live t l true∧B s=b∧E7 s=false)∨(A8 src n=none∧∃t,b= .live t [] true)))∧
  (∀n s,A8 src n=some s→A8 bs n≠none):=by
 induction h with
 |nil=>exact⟨(fun n b h=>by cases h),(fun n s h=>by cases h)⟩
 | @cons j v x b s f vs xs bs ss fs h1 _ ih=>
  obtain⟨i1,i2⟩:=ih
  have rest:b=[]→s=[]→(∀n b',A8 (b++bs) n=some b'→3000+j≤n∧n<3000+j+(v::vs).length∧((∃s' t l,A8 (s++ss) n=some s'∧b'= .live t l true∧B s'=b'∧E7 s'=false)∨(A8 (s++ss) n=none∧∃t,b'= .live t [] true)))∧
    (∀n s',A8 (s++ss) n=some s'→A8 (b++bs) n≠none):=by
   rintro rfl rfl
   refine⟨fun n b' h=>?_,i2⟩
   obtain⟨q1,q2,q3⟩:=i1 n b' h
   exact⟨by omega,by simp only [List.length_cons];omega,q3⟩
  cases h1 with
  |d _=>exact rest rfl rfl
  |vw _ _=>exact rest rfl rfl
  |vp _ _=>exact rest rfl rfl
  |vv=>exact rest rfl rfl
  |fn _=>exact rest rfl rfl
  | @nil t=>
   refine⟨fun n b' h=>?_,fun n s' h=>?_⟩
   ·rw [Q3,i4]at h
    by_cases e:3000+j=n
    ·rw [if_pos e]at h
     cases h
     refine⟨by omega,by simp only [List.length_cons];omega,Or.inr ⟨?_,t,rfl⟩⟩
     cases hl:A8 ss n with
     |none=>simpa using hl
     |some s'=>
      exfalso
      have:=i2 n s' hl
      cases hb:A8 bs n with
      |none=>exact this hb
      |some b=>have:=(i1 n b hb).1;omega
    ·rw [if_neg e]at h
     obtain⟨q1,q2,q3⟩:=i1 n b' h
     exact⟨by omega,by simp only [List.length_cons];omega,q3⟩
   ·rw [Q3,i4]
    by_cases e:3000+j=n
    ·rw [if_pos e];intro e;cases e
    ·rw [if_neg e];exact i2 n s' h
  | @own t l m hb hl=>
   refine⟨fun n b' h=>?_,fun n s' h=>?_⟩
   ·rw [Q3,i4]at h
    rw [Q3,i4]
    by_cases e:3000+j=n
    ·rw [if_pos e]at h
     cases h
     rw [if_pos e]
     exact⟨by omega,by simp only [List.length_cons];omega,Or.inl ⟨m,t,l,rfl,rfl,hb,hl⟩⟩
    ·rw [if_neg e]at h
     rw [if_neg e]
     obtain⟨q1,q2,q3⟩:=i1 n b' h
     exact⟨by omega,by simp only [List.length_cons];omega,q3⟩
   ·rw [Q3,i4]at h⊢
    by_cases e:3000+j=n
    ·rw [if_pos e];intro e;cases e
    ·rw [if_neg e]at h⊢
     exact i2 n s' h
end
theorem D6E:∀(l:List (Nat×Nat)),n8 (l.map (·.2))=true→∀n n' s,A8 l n=some s→A8 l n'=some s→n=n'
 | [],_,n,n',s,h,_=>by cases h
 | (m,x)::l,hd,n,n',s,h,h'=>by
  rw [List.map_cons]at hd
  unfold n8 at hd
  cases hh:G3 (l.map (·.2)) x with
  |true=>rw [hh]at hd;cases hd
  |false=>
   rw [hh,Q8]at hd
   have hx:∀k,A8 l k≠some x:=by
    intro k e
    have:x∈l.map (·.2):=List.mem_map.2 ⟨_,Z9 _ _ _ e,rfl⟩
    rw [t8.2 this]at hh;cases hh
   unfold A8 at h h'
   cases hb:Nat.beq m n with
   |true=>
    rw [hb]at h
    cases h
    cases hb':Nat.beq m n' with
    |true=>rw [←Nat.eq_of_beq_eq_true hb,←Nat.eq_of_beq_eq_true hb']
    |false=>rw [hb']at h';exact absurd h' (hx n')
   |false=>
    rw [hb,Q8]at h
    cases hb':Nat.beq m n' with
    |true=>rw [hb']at h';cases h';exact absurd h (hx n)
    |false=>rw [hb',Q8]at h';exact D6E l hd n n' s h h'
theorem C1N {B:Nat→A9}:∀(bs0 ls:Bl),B3X B bs0=some ls→(∀n b,A8 ls n=some b→A8 bs0 n≠none∧B n=b∧live b)∧(∀n,A8 bs0 n≠none→A8 ls n≠none)
 | [],ls,h=>by cases h;exact⟨(fun n b h=>by cases h),fun n h=>h⟩
 | (m,x)::bs0,ls,h=>by
  unfold B3X at h
  split at h
  ·rename_i t l tl m' hb hm
   cases h
   obtain⟨i1,i2⟩:=C1N bs0 m' hm
   have lk:∀{α:Type} (x:α) (l:List (Nat×α)) n,A8 ((m,x)::l) n=if m=n then some x else A8 l n:=by
    intro α x l n
    show(B3 (Nat.beq m n) (some x)<|A8 l n)=_
    cases hq:Nat.beq m n with
    |true=>rw [if_pos (Nat.eq_of_beq_eq_true hq)];rfl
    |false=>rw [if_neg (by intro e;subst e;rw [Nat.beq_refl]at hq;cases hq)];rfl
   refine⟨fun n b h=>?_,fun n h=>?_⟩
   ·rw [lk]at h⊢
    split at h
    ·rename_i e
     cases h;subst e
     exact⟨(by rw [if_pos rfl];intro e;cases e),hb,_,_,_,rfl⟩
    ·rename_i e
     rw [if_neg e]
     exact i1 n b h
   ·rw [lk]at h⊢
    split
    ·intro e;cases e
    ·rename_i e
     rw [if_neg e]at h
     exact i2 n h
  ·cases h
section
variable {P:Program} {E:D7} {w0:World} {Bo:Nat→Nat→Prop} {pb:Nat→A9} {R:Type} {K:KV R} {r:R}
theorem E8U (hE:F0 P E) {t:Nat} {x:V} (h:A9H E t x pb K=some r):∃v',K v' []=some r∧∀(bl:Nat→A9) (φ:Nat→Addr) (w:World) (a:Value),G5 pb bl→D3 w0 Bo bl φ w→C3 w bl φ x a→
  ∃ad v,a= .pointer (some ad)∧(loadVar t ad).run P w= .ok v w∧C3 w bl φ v' v:=by
 have ld:∀{bl:Nat→A9} {φ:Nat→Addr} {w:World} (m:D3 w0 Bo bl φ w) {n:Nat} {ty:Ty} {l:List ty.T} (hh:holds (bl n) ty l) {i:Int} {π:List Nat} {a:Value} (hr:C2 w bl φ (.ptr n i π) a) {d:I7}
   (hg:A1w π ty (l.getD i.toNat ty.zero)=some d) (hi:E.is t d.t=true),∃ad v,a= .pointer (some ad)∧(loadVar t ad).run P w= .ok v w∧C3 w bl φ (.a (.v d.t d.x)) v:=by
  intro bl φ w m n ty l hh i π a hr d hg hi
  obtain⟨h0,h1,_,hs,rfl⟩:=B2y hh hr
  obtain⟨ci,g1,g2⟩:=A7Y m hh hs _ _ (B3N (d:=ty.zero) h0 h1)
  obtain⟨_,c1,c2,c3,rfl,e1,e2⟩:=B5x π ty _ d ci hg g2
  have hseg:=B8k g1
  rw [e1]at hseg
  obtain⟨v,q1,q2⟩:=C0w (hE.is hi) hseg e2
  exact⟨_,v,rfl,q1,c2,e2,q2⟩
 unfold A9H at h
 split at h
 ·rename_i n i π
  cases hp:pb n with
  |live ty l tl=>
   rw [hp]at h
   simp only at h
   split at h
   ·rename_i d hg
    cases hi:E.is t d.t with
    |false=>rw [hi]at h;cases h
    |true=>
     rw [hi]at h
     exact⟨_,h,fun bl φ w a ha hm hx=>ld hm (Or.inl ⟨tl,by rw [ha n (by rw [hp];intro e;cases e),hp]⟩) hx hg hi⟩
   ·cases h
  |froz ty l=>
   rw [hp]at h
   simp only at h
   split at h
   ·rename_i d hg
    cases hi:E.is t d.t with
    |false=>rw [hi]at h;cases h
    |true=>
     rw [hi]at h
     exact⟨_,h,fun bl φ w a ha hm hx=>ld hm (Or.inr (by rw [ha n (by rw [hp];intro e;cases e),hp])) hx hg hi⟩
   ·cases h
  |_=>rw [hp]at h;cases h
 ·rename_i ty x
  cases hi:E.is t ty with
  |false=>rw [hi]at h;cases h
  |true=>
   rw [hi]at h
   refine⟨_,h,fun bl φ w a ha hm hx=>?_⟩
   obtain⟨b,o,cs,rfl,h2,h3,h4,h5⟩:=hx
   obtain⟨v,q1,q2⟩:=C0w (hE.is hi) h4 h5
   exact⟨_,v,rfl,q1,cs,h5,q2⟩
 ·cases h
theorem D3R {B:Nat→A9} {n:Nat}:∀(ns:List Nat),A8 (D0 B ns) n≠none→live (B n)
 | [],h=>absurd rfl h
 |k::ns,h=>by
  unfold D0 at h
  rw [List.flatMap_cons,Q3]at h
  cases hk:A8 (Q6 B k) n with
  |none=>
   rw [hk]at h
   exact D3R ns h
  |some b=>
   unfold Q6 at hk
   split at hk
   ·rename_i t l tl hb
    rw [i4]at hk
    split at hk
    ·rename_i e;subst e;exact⟨_,_,_,hb⟩
    ·cases hk
   ·cases hk
end
def M8 (src:List (Nat×Nat)) (φ:Nat→Addr) (n:Nat):Addr:=match A8 src n with
 |some s=>φ s
 |none=>if(2000≤n∧n<3000)∨10000≤n then φ n else⟨0,0,some 0⟩
structure V6 (N:Nat) (w0:World) (bl0:Nat→A9) (φ0:Nat→Addr) (bs0:Bl) (st:St) (bl:Nat→A9) (φ:Nat→Addr) (a:Act) (w:World) (raws vs:List V) (bs:Bl) (src:List (Nat×Nat)) (fz:List Nat) (ls:Bl):Prop where
 rr:RR (bB st) 0 raws vs bs src fz
 len:raws.length≤900
 ls:B3X (bB st) bs0=some ls
 nd:n8 (src.map (·.2))=true
 nfz:∀q,q∈src→q.2∉fz
 nl:∀n,n∈fz→E7 n=false
 loc:B7a bl0 bs0
 hb:∀n b,A8 bs0 n=some b→E7 n=true∧live b
 m0:D3 w0 (S5 bs0 φ0) bl0 φ0 w0
 rel:m5 N w0 (S5 bs0 φ0) bl0 φ0 (K0 st.tm) (F9 st.bl) bl φ a w
theorem A6M {n:Nat}:E7 n=true↔2000≤n∧n<3000:=by
 unfold E7
 rw [Bool.and_eq_true,Nat.blt_eq]
 exact⟨fun h=>⟨Nat.le_of_ble_eq_true h.1,h.2⟩,fun h=>⟨Nat.ble_eq_true_of_le h.1,h.2⟩⟩
section
variable {N:Nat} {w0:World} {bl0:Nat→A9} {φ0:Nat→Addr} {bs0:Bl} {st:St} {bl:Nat→A9} {φ:Nat→Addr} {a:Act} {w:World} {raws vs:List V} {bs:Bl} {src:List (Nat×Nat)} {fz:List Nat} {ls:Bl}
variable (H:V6 N w0 bl0 φ0 bs0 st bl φ a w raws vs bs src fz ls)
include H
theorem V6.agree:G5 (bB st) bl:=by
 intro n hn
 unfold bB at hn⊢
 cases hb:Nat.blt n 10000 with
 |true=>rw [Nat.blt_eq]at hb;exact H.rel.loc n hb
 |false=>rw [hb]at hn;exact absurd rfl hn
omit H in
theorem D7v {n:Nat} (h:live (bB st n)):n<10000:=by
 unfold bB at h
 cases hb:Nat.blt n 10000 with
 |true=>rwa [Nat.blt_eq]at hb
 |false=>rw [hb]at h;obtain⟨_,_,_,e⟩:=h;cases e
theorem V6.bl_of {n:Nat} (h:live (bB st n)):bl n=bB st n:=H.agree n (by obtain⟨_,_,_,e⟩:=h;rw [e];intro q;cases q)
omit H in
theorem V6.far1x {n:Nat} (h:¬n<10000):B4 (D0 (bB st) fz) bl n=bl n:=g7 (by
 cases hl:A8 (D0 (bB st) fz) n with
 |none=>rfl
 |some b=>exact absurd (D7v (D3R fz (by rw [hl];intro e;cases e))) h)
theorem V6.m1:D3 w0 (S5 bs0 φ0) (B4 (D0 (bB st) fz) bl) φ w:=(z9 H.agree H.rel.mem fz).mem
theorem V6.lent0 {n:Nat} (h:live (bl0 n)) (hn:n<10000):E7 n=true∧∃b,A8 ls n=some b∧bB st n=b∧live b:=by
 rw [H.loc n hn,W7]at h
 cases hl:A8 bs0 n with
 |none=>rw [hl]at h;obtain⟨_,_,_,e⟩:=h;cases e
 |some b=>
  obtain⟨h1,h2⟩:=C1N _ _ H.ls
  have h3:=h2 n (by rw [hl];intro e;cases e)
  obtain⟨b',h4⟩:=Option.ne_none_iff_exists'.1 h3
  exact⟨(H.hb n b hl).1,b',h4,(h1 n b' h4).2⟩
theorem V6.inls {n:Nat} {b:A9} (h:A8 ls n=some b):E7 n=true∧n<10000∧live b∧bl n=b∧B4 (D0 (bB st) fz) bl n=b∧bB st n=b:=by
 obtain⟨h1,_⟩:=C1N _ _ H.ls
 obtain⟨k1,k2,k3⟩:=h1 n b h
 obtain⟨b0,k4⟩:=Option.ne_none_iff_exists'.1 k1
 have k5:=(H.hb n b0 k4).1
 have k6:=A6M.1 k5
 have k7:bl n=b:=by rw [H.bl_of (by rw [k2];exact k3),k2]
 refine⟨k5,by omega,k3,k7,?_,k2⟩
 rw [A3E _ _ (fun e=>by have:=H.nl n e;rw [k5]at this;cases this),k7]
theorem V6.bnd {n:Nat} {b:A9} (h:A8 bs n=some b):3000≤n∧n<3900:=by
 obtain⟨q1,q2,_⟩:=H.rr.own.1 n b h
 have e:raws.length=vs.length:=by
  have:∀{j:Nat} {raws vs:List V} {bs:Bl} {src:List (Nat×Nat)} {fz:List Nat},RR (bB st) j raws vs bs src fz→raws.length=vs.length:=by
   intro j raws vs bs src fz h
   induction h with
   |nil=>rfl
   |cons _ _ ih=>simp [ih]
  exact this H.rr
 have:=H.len
 omega
theorem V6.cls {n:Nat} (h:live (B4 (ls++bs) bl0 n)) (hs:(M8 src φ n).spot=none):
  ∃s,(A8 src n=some s∨(s=n∧A2h n))∧B4 (D0 (bB st) fz) bl s=B4 (ls++bs) bl0 n∧M8 src φ n=φ s∧(A8 src n=some s→s<10000∧E7 s=false∧∃t l,B4 (ls++bs) bl0 n= .live t l true)∧
   ((s=n∧A2h n)→live (bl0 n)∧φ n=φ0 n):=by
 have spec:∀b,A2h n→A8 src n=none→B4 (D0 (bB st) fz) bl n=b→B4 (ls++bs) bl0 n=b→bl n=b→bl0 n≠ .fresh→(∃s,(A8 src n=some s∨(s=n∧A2h n))∧B4 (D0 (bB st) fz) bl s=B4 (ls++bs) bl0 n∧M8 src φ n=φ s∧(A8 src n=some s→s<10000∧E7 s=false∧∃t l,B4 (ls++bs) bl0 n= .live t l true)∧
   ((s=n∧A2h n)→live (bl0 n)∧φ n=φ0 n)):=by
  intro b h1 h2 h3 h4 h6 h5
  obtain⟨k1,k2⟩:=(H.rel.keep n h1).2 h5
  rw [h4]at h
  rw [h6]at k1 k2
  refine⟨n,Or.inr ⟨rfl,h1⟩,by rw [h3,h4],by unfold M8;rw [h2];exact if_pos h1,(fun e=>by rw [h2]at e;cases e),fun _=>⟨?_,k2 ?_⟩⟩
  ·obtain⟨t,l,tl,rfl⟩:=h
   cases hq:bl0 n with
   |live=>exact⟨_,_,_,rfl⟩
   |fresh=>exact absurd hq h5
   |_=>rw [hq]at k1;cases k1
  ·obtain⟨t,l,tl,rfl⟩:=h;rfl
 have nosrc:A8 bs n=none→A8 src n=none:=by
  intro e
  cases hl:A8 src n with
  |none=>rfl
  |some s=>exact absurd e (H.rr.own.2 n s hl)
 have e0:B4 (ls++bs) bl0 n=match A8 ls n with|some b=>b|none=>match A8 bs n with|some b=>b|none=>bl0 n:=by
  unfold B4
  rw [Q3]
  cases A8 ls n<;>rfl
 cases h1:A8 ls n with
 |some b=>
  rw [h1]at e0
  obtain⟨q1,q2,q3,q4,q5,q6⟩:=H.inls h1
  have q1':=A6M.1 q1
  have hb:A8 bs n=none:=by
   cases hb:A8 bs n with
   |none=>rfl
   |some b'=>have:=H.bnd hb;omega
  refine spec b (Or.inl q1') (nosrc hb) q5 e0 q4 ?_
  intro e
  rw [(H.rel.keep n (Or.inl q1')).1 e]at q4
  obtain⟨_,_,_,e⟩:=q3;rw [e]at q4;cases q4
 |none=>
  rw [h1]at e0
  cases h2:A8 bs n with
  |some b=>
   rw [h2]at e0
   obtain⟨_,_,q⟩:=H.rr.own.1 n b h2
   have hbn:=H.bnd h2
   rcases q with⟨s,t,l,g1,rfl,g2,g3⟩| ⟨g1,_⟩
   ·have hlv:live (bB st s):=⟨_,_,_,g2⟩
    have hs1:B4 (D0 (bB st) fz) bl s= .live t l true:=by
     rw [A3E _ _ (H.nfz _ (Z9 _ _ _ g1)),H.bl_of hlv,g2]
    refine⟨s,Or.inl g1,by rw [hs1,e0],by unfold M8;rw [g1],fun _=>⟨D7v hlv,g3,t,l,e0⟩,fun e=>?_⟩
    rcases e.2 with e|e<;>omega
   ·unfold M8 at hs
    rw [g1]at hs
    simp only at hs
    rw [if_neg (by omega)]at hs
    cases hs
  |none=>
   rw [h2]at e0
   simp only at e0
   rw [e0]at h
   by_cases hn:n<10000
   ·obtain⟨_,b,e,_⟩:=H.lent0 h hn
    rw [h1]at e;cases e
   ·have hf:=H.rel.far n (by omega)
    exact spec (bl0 n) (Or.inr (by omega)) (nosrc h2) (by rw [V6.far1x hn,hf]) e0 hf (by obtain⟨_,_,_,e⟩:=h;rw [e];intro q;cases q)
theorem V6.ownUp {b:Nat} (h:C8 (B4 (ls++bs) bl0) (M8 src φ) b):C8 (B4 (D0 (bB st) fz) bl) φ b:=by
 obtain⟨n,h1,h2,h3⟩:=h
 obtain⟨s,_,q2,q3,_⟩:=H.cls h1 h2
 exact⟨s,by rw [q2];exact h1,by rw [←q3];exact h2,by rw [←q3];exact h3⟩
theorem V6.ownZ {b:Nat} (hb:b<w0.heap.size) (h:C8 (B4 (ls++bs) bl0) (M8 src φ) b):C8 bl0 φ0 b:=by
 obtain⟨n,h1,h2,h3⟩:=h
 obtain⟨s,q1,q2,q3,q4,q5⟩:=H.cls h1 h2
 rcases q1 with q1|q1
 ·exfalso
  obtain⟨k1,k2,t,l,k3⟩:=q4 q1
  rw [k3]at q2
  rcases H.m1.lo s t l true k1 q2 (by rw [←q3];exact h2)with h| ⟨h,_⟩
  ·rw [q3]at h3;omega
  ·cases h
 ·obtain⟨k1,k2⟩:=q5 q1
  obtain⟨rfl,_⟩:=q1
  exact⟨s,k1,by rw [←k2,←q3];exact h2,by rw [←k2,←q3];exact h3⟩
theorem V6.step:E3 w0 (S5 bs0 φ0) bl0 φ0 w0 (B4 (ls++bs) bl0) (M8 src φ) w:=by
 have hfr:=H.rel.mem.fr
 have heq:N9 w (C8 (B4 (D0 (bB st) fz) bl) φ) w (C8 (B4 (ls++bs) bl0) (M8 src φ)):=(M3.refl w (fun _ _=>False)).ext (fun _ _ _ h=>h.elim) fun b _ h=>H.ownUp h
 refine⟨⟨hfr.ext (fun b o hb h=>?_) (fun b hb h=>H.ownZ hb h),fun n hn=>?_,H.m0.at_⟩,⟨fun n=>?_,fun n k h1 h2 h3 h4 h5=>?_,fun n t l tl hn h1 h2=>?_,hfr⟩⟩
 ·obtain⟨n,t,l,tl,h1,h2,h3,h4,_⟩:=h
  exact⟨n,⟨t,l,tl,by rw [H.loc n h1];exact h2⟩,h3,h4⟩
 ·have e0:B4 (ls++bs) bl0 n=match A8 ls n with|some b=>b|none=>match A8 bs n with|some b=>b|none=>bl0 n:=by
   unfold B4
   rw [Q3]
   cases A8 ls n<;>rfl
  have spec:A2h n→A8 src n=none→i7 (bl0 n) (bl n)→(lf (bl n)→φ n=φ0 n)→B4 (ls++bs) bl0 n=bl n→i7 (bl0 n) (B4 (ls++bs) bl0 n)∧(lf (B4 (ls++bs) bl0 n)→M8 src φ n=φ0 n):=by
   intro h1 h2 h3 h4 h5
   rw [h5]
   refine⟨h3,fun h=>?_⟩
   unfold M8
   rw [h2]
   exact(if_pos h1).trans (h4 h)
  have nosrc:A2h n→A8 src n=none:=by
   intro hs
   cases hl:A8 src n with
   |none=>rfl
   |some s=>
    exfalso
    cases hb:A8 bs n with
    |none=>exact H.rr.own.2 n s hl hb
    |some b=>have:=H.bnd hb;rcases hs with hs|hs<;>omega
  have nobs:A2h n→A8 bs n=none:=by
   intro hs
   cases hb:A8 bs n with
   |none=>rfl
   |some b=>have:=H.bnd hb;rcases hs with hs|hs<;>omega
  by_cases hlt:n<10000
  ·have hlook:∃b,A8 bs0 n=some b:=by
    rw [H.loc n hlt,W7]at hn
    cases hl:A8 bs0 n with
    |none=>rw [hl]at hn;exact absurd rfl hn
    |some b=>exact⟨b,rfl⟩
   obtain⟨b0,hb0⟩:=hlook
   obtain⟨g1,g2⟩:=H.hb n b0 hb0
   have hsp:A2h n:=Or.inl (A6M.1 g1)
   obtain⟨k1,k2⟩:=(H.rel.keep n hsp).2 hn
   have hlv:live (bl0 n):=by rw [H.loc n hlt,W7,hb0];exact g2
   obtain⟨_,b,q1,q2,q3⟩:=H.lent0 hlv hlt
   refine spec hsp (nosrc hsp) k1 k2 ?_
   rw [e0,q1,(H.inls q1).2.2.2.1]
  ·have hsp:A2h n:=Or.inr (by omega)
   obtain⟨k1,k2⟩:=(H.rel.keep n hsp).2 hn
   refine spec hsp (nosrc hsp) k1 k2 ?_
   have h1:A8 ls n=none:=by
    cases hl:A8 ls n with
    |none=>rfl
    |some b=>exact absurd (H.inls hl).2.1 hlt
   rw [e0,h1,nobs hsp,H.rel.far n (by omega)]
 ·by_cases hl:live (B4 (ls++bs) bl0 n)
  ·by_cases hs:(M8 src φ n).spot=none
   ·obtain⟨s,q1,q2,q3,_⟩:=H.cls hl hs
    have:=H.m1.blk s
    rw [q2,←q3]at this
    exact A8B heq (fun _ _ _ _ h=>h) this
   ·obtain⟨t,l,tl,e⟩:=hl
    rw [e]
    have e0:B4 (ls++bs) bl0 n=match A8 ls n with|some b=>b|none=>match A8 bs n with|some b=>b|none=>bl0 n:=by
     unfold B4
     rw [Q3]
     cases A8 ls n<;>rfl
    have C1K:∀s,B4 (D0 (bB st) fz) bl s= .live t l tl→M8 src φ n=φ s→C5k (M8 src φ n) l.length:=by
     intro s h1 h2
     have:=H.m1.blk s
     rw [h1,←h2]at this
     rcases this with h|h
     ·exact h
     ·exact absurd h.1 hs
    refine Or.inl ?_
    have nosrc:A8 bs n=none→A8 src n=none:=by
     intro e
     cases hl:A8 src n with
     |none=>rfl
     |some s=>exact absurd e (H.rr.own.2 n s hl)
    cases h1:A8 ls n with
    |some b=>
     rw [h1]at e0
     obtain⟨q1,q2,q3,q4,q5,q6⟩:=H.inls h1
     have q1':=A6M.1 q1
     have hb:A8 bs n=none:=by
      cases hb:A8 bs n with
      |none=>rfl
      |some b'=>have:=H.bnd hb;omega
     rw [e]at e0
     simp only at e0
     refine C1K n (by rw [q5];exact e0.symm) ?_
     unfold M8
     rw [nosrc hb]
     exact if_pos (Or.inl q1')
    |none=>
     rw [h1]at e0
     cases h2:A8 bs n with
     |some b=>
      rw [h2]at e0
      have hbn:=H.bnd h2
      obtain⟨_,_,q⟩:=H.rr.own.1 n b h2
      rw [e]at e0
      simp only at e0
      rcases q with⟨s,t',l',g1,g4,g2,g3⟩| ⟨g1,t',g2⟩
      ·have hlv:live (bB st s):=⟨_,_,_,g2.trans g4⟩
       refine C1K s ?_ (by unfold M8;rw [g1])
       rw [A3E _ _ (H.nfz _ (Z9 _ _ _ g1)),H.bl_of hlv,g2];exact e0.symm
      ·rw [g2]at e0
       cases e0
       refine⟨?_,rfl⟩
       unfold M8
       rw [g1]
       simp only
       rw [if_neg (by omega)]
       intro q;cases q
     |none=>
      rw [h2]at e0
      simp only at e0
      have hlv:live (bl0 n):=by rw [←e0,e];exact⟨_,_,_,rfl⟩
      by_cases hn:n<10000
      ·obtain⟨_,b,e,_⟩:=H.lent0 hlv hn
       rw [h1]at e;cases e
      ·refine C1K n (by rw [V6.far1x hn,H.rel.far n (by omega),←e0,e]) ?_
       unfold M8
       rw [nosrc h2]
       exact if_pos (Or.inr (by omega))
  ·cases hb:B4 (ls++bs) bl0 n with
   |fresh=>trivial
   |dead=>trivial
   |husk=>trivial
   |live t l tl=>exact absurd ⟨t,l,tl,hb⟩ hl
   |froz t l=>
    have e0:B4 (ls++bs) bl0 n=match A8 ls n with|some b=>b|none=>match A8 bs n with|some b=>b|none=>bl0 n:=by
     unfold B4
     rw [Q3]
     cases A8 ls n<;>rfl
    rw [hb]at e0
    cases h1:A8 ls n with
    |some b=>
     rw [h1]at e0
     obtain⟨_,_,⟨_,_,_,q3⟩,_⟩:=H.inls h1
     rw [q3]at e0;cases e0
    |none=>
     rw [h1]at e0
     cases h2:A8 bs n with
     |some b=>
      rw [h2]at e0
      obtain⟨_,_,q⟩:=H.rr.own.1 n b h2
      rcases q with⟨s,t',l',g1,g4,_⟩| ⟨g1,t',g2⟩
      ·rw [g4]at e0;cases e0
      ·rw [g2]at e0;cases e0
     |none=>
      rw [h2]at e0
      simp only at e0
      have hn:¬n<10000:=by
       intro hn
       rw [H.loc n hn,W7]at e0
       cases hl:A8 bs0 n with
       |none=>rw [hl]at e0;cases e0
       |some b=>
        rw [hl]at e0
        obtain⟨_,_,_,q⟩:=(H.hb n b hl).2
        rw [q]at e0;cases e0
      have hf:=H.rel.far n (by omega)
      have:=H.m1.blk n
      rw [V6.far1x hn,hf,←e0]at this
      have hφ:M8 src φ n=φ n:=by
       unfold M8
       have:A8 src n=none:=by
        cases hl:A8 src n with
        |none=>rfl
        |some s=>exact absurd h2 (H.rr.own.2 n s hl)
       rw [this]
       exact if_pos (Or.inr (by omega))
      rw [hφ]
      exact A8B heq (fun _ _ _ _ h=>h) this
 ·obtain⟨s,q1,q2,q3,q4,q5⟩:=H.cls h1 h3
  obtain⟨s',p1,p2,p3,p4,p5⟩:=H.cls h2 h4
  have:s=s':=H.m1.uniq s s' (by rw [q2];exact h1) (by rw [p2];exact h2) (by rw [←q3];exact h3) (by rw [←p3];exact h4) (by rw [←q3,←p3];exact h5)
  subst this
  rcases q1 with q1|q1
  ·rcases p1 with p1|p1
   ·exact D6E src H.nd n k s q1 p1
   ·exfalso
    obtain⟨k1,k2,_⟩:=q4 q1
    obtain⟨e,hsp⟩:=p1
    rw [←e]at hsp
    rcases hsp with h|h
    ·rw [A6M.2 h]at k2;cases k2
    ·omega
  ·rcases p1 with p1|p1
   ·exfalso
    obtain⟨k1,k2,_⟩:=p4 p1
    obtain⟨e,hsp⟩:=q1
    rw [←e]at hsp
    rcases hsp with h|h
    ·rw [A6M.2 h]at k2;cases k2
    ·omega
   ·rw [←q1.1,←p1.1]
 ·obtain⟨s,q1,q2,q3,q4,q5⟩:=H.cls ⟨_,_,_,h1⟩ h2
  rw [q3]
  have hs:s<10000:=by
   rcases q1 with q1|q1
   ·exact(q4 q1).1
   ·rw [q1.1];exact hn
  exact H.m1.lo s t l tl hs (by rw [q2,h1]) (by rw [←q3];exact h2)
end
section
variable {N:Nat} {w0:World} {bl0:Nat→A9} {φ0:Nat→Addr} {bs0:Bl} {st:St} {bl:Nat→A9} {φ:Nat→Addr} {a:Act} {w:World} {raws vs:List V} {bs:Bl} {src:List (Nat×Nat)} {fz:List Nat} {ls:Bl}
variable (H:V6 N w0 bl0 φ0 bs0 st bl φ a w raws vs bs src fz ls)
include H
theorem V6.lent_end {n:Nat} (h1:E7 n=true) (h2:live (bB st n)):B4 (ls++bs) bl0 n=bB st n∧M8 src φ n=φ n∧bl n=bB st n:=by
 have hlt:=A6M.1 h1
 have hbl:=H.bl_of h2
 have hf:bl0 n≠ .fresh:=by
  intro e
  rw [(H.rel.keep n (Or.inl hlt)).1 e]at hbl
  rw [←hbl]at h2;obtain⟨_,_,_,q⟩:=h2;cases q
 obtain⟨g1,g2⟩:=C1N _ _ H.ls
 have h3:A8 bs0 n≠none:=by
  intro e
  rw [H.loc n (by omega),W7,e]at hf
  exact hf rfl
 obtain⟨b,h4⟩:=Option.ne_none_iff_exists'.1 (g2 n h3)
 have h5:=(g1 n b h4).2.1
 refine⟨?_,?_,hbl⟩
 ·rw [A6x (b:=b) (by rw [Q3,h4]),h5]
 ·unfold M8
  have:A8 src n=none:=by
   cases hl:A8 src n with
   |none=>rfl
   |some s=>
    exfalso
    cases hb:A8 bs n with
    |none=>exact H.rr.own.2 n s hl hb
    |some b=>have:=H.bnd hb;omega
  rw [this]
  exact if_pos (Or.inl hlt)
theorem V6.own_end {n:Nat} {b:A9} (h:A8 bs n=some b):B4 (ls++bs) bl0 n=b:=by
 refine A6x ?_
 rw [Q3]
 cases hl:A8 ls n with
 |none=>exact h
 |some b'=>have:=A6M.1 (H.inls hl).1;have:=H.bnd h;omega
theorem V6.val {j:Nat} {v x:V} {b:Bl} {s:List (Nat×Nat)} {f:List Nat} (h:R1 (bB st) j v x b s f) (hb:∀n y,A8 b n=some y→A8 bs n=some y) (hs:∀n y,A8 s n=some y→A8 src n=some y)
  (hn:∀n,A8 b n≠none→A8 s n=none→A8 src n=none) (hf:∀n,n∈f→n∈fz) {u:Value} (hu:C3 w bl φ v u):C3 w (B4 (ls++bs) bl0) (M8 src φ) x u:=by
 cases h with
 | @d t x z hz=>exact A2A (fun b h=>H.ownUp h) (Or.inl ⟨_,_,rfl⟩) (A7C H.agree H.rel.mem (fun n hn _=>hf n hn) hz hu)
 | @nil t=>
  have h1:=hb (3000+j) (.live t [] true) (by rw [i4,if_pos rfl])
  have h2:=hn (3000+j) (by rw [i4,if_pos rfl];intro e;cases e) rfl
  have hj:=H.bnd h1
  obtain⟨ad,rfl⟩:=hu
  have e2:M8 src φ (3000+j)=⟨0,0,some 0⟩:=by
   unfold M8
   rw [h2]
   exact if_neg (by omega)
  simp only [C3,C2,H.own_end h1,e2]
  exact Or.inl ⟨rfl,ad,rfl⟩
 | @own t l n h1 h2=>
  have k1:=hb (3000+j) (.live t l true) (by rw [i4,if_pos rfl])
  have k2:=hs (3000+j) n (by rw [i4,if_pos rfl])
  have e2:M8 src φ (3000+j)=φ n:=by unfold M8;rw [k2]
  have hbl:=H.bl_of ⟨t,l,true,h1⟩
  simp only [C3,C2,hbl,h1]at hu
  simp only [C3,C2,H.own_end k1,e2]
  exact hu
 | @vw n t l tl h1 h2=>
  obtain⟨k1,k2,k3⟩:=H.lent_end h1 ⟨t,l,tl,h2⟩
  simp only [C3,C2,k3,h2]at hu
  simp only [C3,C2,k1,k2,h2]
  exact hu
 | @vp n lo hi t l tl h1 h2=>
  obtain⟨k1,k2,k3⟩:=H.lent_end h1 ⟨t,l,tl,h2⟩
  simp only [C3,C2,k3,h2]at hu
  simp only [C3,C2,k1,k2,h2]
  exact hu
 | @vv t x=>exact A2A (fun b h=>H.ownUp h) (Or.inl ⟨_,_,rfl⟩) (A3h (z9 H.agree H.rel.mem fz).goes _ _ hu)
 | @fn g caps cs hc=>
  obtain⟨cv,e1,e2⟩:=hu
  refine⟨cv,e1,?_⟩
  have:=C9R H.agree H.rel.mem (ns:=fz) caps cs cv (fun n hn=>hf n hn) hc e2
  exact D5l (fun b h=>H.ownUp h) (C7E caps cs hc) this
theorem V6.vals {j:Nat} {rws xs:List V} {b:Bl} {s:List (Nat×Nat)} {f:List Nat} (h:RR (bB st) j rws xs b s f):(∀n y,A8 b n=some y→A8 bs n=some y)→(∀n y,A8 s n=some y→A8 src n=some y)→
  (∀n,A8 b n≠none→A8 s n=none→A8 src n=none)→(∀n,n∈f→n∈fz)→∀{us:List Value},M9 w bl φ rws us→M9 w (B4 (ls++bs) bl0) (M8 src φ) xs us:=by
 induction h with
 |nil=>intro _ _ _ _ us hu;cases hu;exact .nil
 | @cons j v x b s f rws xs bs' ss fs h1 h2 ih=>
  intro hb hs hn hf us hu
  cases hu with
  |cons u1 u2=>
   have hone:(b=[]∧s=[])∨((∀n,A8 b n≠none→n=3000+j)∧(∀n,A8 s n≠none→n=3000+j)∧A8 b (3000+j)≠none):=by
    have lone:∀{α:Type} (y:α) n,A8 [(3000+j,y)] n≠none→n=3000+j:=by
     intro α y n h
     rw [i4]at h
     by_cases e:3000+j=n
     ·exact e.symm
     ·rw [if_neg e]at h;exact absurd rfl h
    cases h1 with
    |d _=>exact Or.inl ⟨rfl,rfl⟩
    |vw _ _=>exact Or.inl ⟨rfl,rfl⟩
    |vp _ _=>exact Or.inl ⟨rfl,rfl⟩
    |vv=>exact Or.inl ⟨rfl,rfl⟩
    |fn _=>exact Or.inl ⟨rfl,rfl⟩
    |nil=>exact Or.inr ⟨fun n=>lone _ n,(fun n h=>absurd rfl h),by rw [i4,if_pos rfl];intro e;cases e⟩
    |own _ _=>exact Or.inr ⟨fun n=>lone _ n,fun n=>lone _ n,by rw [i4,if_pos rfl];intro e;cases e⟩
   obtain⟨o1,o2⟩:=h2.own
   have tailb:∀n,A8 bs' n≠none→A8 b n=none:=by
    intro n hq
    rcases hone with⟨rfl,_⟩| ⟨k1,_⟩
    ·rfl
    ·cases hl:A8 b n with
     |none=>rfl
     |some y=>
      have e:=k1 n (by rw [hl];intro q;cases q)
      obtain⟨y',hy'⟩:=Option.ne_none_iff_exists'.1 hq
      have:=(o1 n y' hy').1;omega
   have tails:∀n,A8 bs' n≠none→A8 s n=none:=by
    intro n hq
    rcases hone with⟨_,rfl⟩| ⟨_,k1,_⟩
    ·rfl
    ·cases hl:A8 s n with
     |none=>rfl
     |some y=>
      have e:=k1 n (by rw [hl];intro q;cases q)
      obtain⟨y',hy'⟩:=Option.ne_none_iff_exists'.1 hq
      have:=(o1 n y' hy').1;omega
   refine .cons (H.val h1 (fun n y h=>hb n y (by rw [Q3,h])) (fun n y h=>hs n y (by rw [Q3,h])) (fun n h h'=>hn n ?_ ?_) (fun n h=>hf n (List.mem_append_left _ h)) u1) (ih (fun n y h=>hb n y ?_) (fun n y h=>hs n y ?_) (fun n h h'=>hn n ?_ ?_) (fun n h=>hf n (List.mem_append_right _ h)) u2)
   ·rw [Q3]
    obtain⟨y,e⟩:=Option.ne_none_iff_exists'.1 h
    rw [e];intro q;cases q
   ·rw [Q3,h']
    rcases hone with⟨rfl,_⟩| ⟨k1,_⟩
    ·exact absurd rfl h
    ·cases hl:A8 ss n with
     |none=>rfl
     |some y=>
      exfalso
      have e:=k1 n h
      obtain⟨y',hy'⟩:=Option.ne_none_iff_exists'.1 (o2 n y hl)
      have:=(o1 n y' hy').1;omega
   ·rw [Q3,tailb n (by rw [h];intro q;cases q)];exact h
   ·rw [Q3,tails n (o2 n y h)];exact h
   ·rw [Q3,tailb n h];exact h
   ·rw [Q3,tails n h];exact h'
end
section
variable {P:Program} {E:D7}
theorem D4e (hE:F0 P E) {w0:World} {Bo:Nat→Nat→Prop} {st:St} {bl:Nat→A9} {φ:Nat→Addr} {w:World} {tmps:Array Value} (ha:G5 (bB st) bl) (hm:D3 w0 Bo bl φ w) (ht:∀t,C3 w bl φ (K0 st.tm t) (tmps.getD t undef)):
  ∀(rs:List ResultVar) (raws:List V),rs.mapM (B4D E st.tm (bB st))=some raws→∃us,(rs.mapM fun(x:ResultVar)=>match x with
   | .tmp t=>(pure (tmps.getD t undef):Sem Value)
   | .cell a t=>do loadVar t (←asAddr (tmps.getD a undef))).run P w= .ok us w∧M9 w bl φ raws us
 | [],raws,h=>by cases h;exact⟨[],rfl, .nil⟩
 |x::rs,raws,h=>by
  rw [List.mapM_cons]at h
  cases hx:B4D E st.tm (bB st) x with
  |none=>rw [hx]at h;cases h
  |some v=>
   rw [hx]at h
   cases hr:rs.mapM (B4D E st.tm (bB st))with
   |none=>rw [hr]at h;cases h
   |some vs=>
    rw [hr]at h
    cases h
    obtain⟨us,k1,k2⟩:=D4e hE ha hm ht rs vs hr
    cases x with
    |tmp t=>
     cases hx
     refine⟨tmps.getD t undef::us,?_, .cons (ht t) k2⟩
     rw [List.mapM_cons]
     simp only [Sem.run_bind,Sem.run_pure,Result.andThen_ok,k1]
    |cell b t=>
     have hx:A9H E t (K0 st.tm b) (bB st) (fun v _=>some v)=some v:=hx
     obtain⟨v',e,hl⟩:=E8U (w0:=w0) (Bo:=Bo) hE hx
     cases e
     obtain⟨ad,u,e1,e2,e3⟩:=hl bl φ w _ ha hm (ht b)
     refine⟨u::us,?_, .cons e3 k2⟩
     rw [List.mapM_cons]
     have e1':tmps.getD b undef= .pointer (some ad):=e1
     have ea:asAddr (.pointer (some ad))=pure ad:=rfl
     simp only [e1',ea,Sem.run_bind,Sem.run_pure,Result.andThen_ok,e2,k1]
theorem D3f {w:World} {bl:Nat→A9} {φ:Nat→Addr}:∀(vs:List V) (k:Nat) (asx:List A) (us:List Value),B9s (l5 k vs)=some asx→M9 w bl φ vs us→N1 w bl φ asx us
 | [],k,asx,us,h,hr=>by cases h;cases hr;exact .nil
 |v::vs,k,asx,us,h,hr=>by
  cases hr with
  |cons r1 r2=>
   cases v with
   |a x=>
    have h:(match B9s (l5 (k+1) vs)with|some m=>some (x::m)|none=>none)=some asx:=h
    split at h
    ·rename_i m hm;cases h;exact .cons r1 (D3f vs (k+1) _ _ hm r2)
    ·cases h
   |cl f c=>have h:(none:Option (List A))=some asx:=h;cases h
   |tup c=>have h:(none:Option (List A))=some asx:=h;cases h
theorem D4P {w:World} {bl:Nat→A9} {φ:Nat→Addr} {xs:List V} {us:List Value} (h:M9 w bl φ xs us):us.length=xs.length:=by
 induction h with
 |nil=>rfl
 |cons _ _ ih=>simp [ih]
theorem F8r {w:World} {bl:Nat→A9} {φ:Nat→Addr} {vs:List V} {rv:V} {us:List Value} (h:B1v (l5 0 vs)=some rv) (hr:M9 w bl φ vs us):C3 w bl φ rv (if h:us.toArray.size=1 then us.toArray[0]else .tuple us.toArray):=by
 have hl:=D4P hr
 unfold B1v at h
 split at h
 ·rename_i n v e
  cases h
  cases vs with
  |nil=>cases e
  |cons x vs=>
   cases vs with
   |nil=>
    cases e
    cases hr with
    |cons r1 r2=>cases r2;simpa using r1
   |cons y vs=>cases e
 ·rename_i hne
  split at h
  ·rename_i asx has
   cases h
   have hsz:¬us.toArray.size=1:=by
    intro e
    simp only [List.size_toArray]at e
    rw [hl]at e
    cases vs with
    |nil=>cases e
    |cons x vs=>cases vs with
     |nil=>exact hne 0 x rfl
     |cons y vs=>simp at e
   rw [dif_neg hsz]
   exact⟨us,rfl,D3f vs 0 asx us has hr⟩
  ·cases h
theorem E1o {w:World} {bl:Nat→A9} {φ:Nat→Addr} {asx:List V} {vs:List Value} (h:M9 w bl φ asx vs):∀(k t:Nat),C3 w bl φ (K0 (l5 k asx) (k+t)) (vs.getD t undef):=by
 induction h with
 |nil=>intro k t;trivial
 | @cons x v xs vs h _ ih=>
  intro k t
  show C3 w bl φ (B3 (Nat.beq k (k+t)) (x)<|K0 (l5 (k+1) xs) (k+t)) _
  cases t with
  |zero=>rw [Nat.add_zero,Nat.beq_refl];exact h
  |succ t=>
   have:Nat.beq k (k+(t+1))=false:=by rw [Bool.eq_false_iff];intro e;have:=Nat.eq_of_beq_eq_true e;omega
   rw [this,Q8,show k+(t+1)=k+1+t from by omega]
   exact ih (k+1) t
theorem E5P (hE:F0 P E) {R:Type} {fn:Func} {N:Nat} {rms:List RM} {bs:Bl} {K:St→Option R} {r:R} {st st1:St} {rv:V} (hbs:∀n b,A8 bs n=some b→E7 n=true∧live b) (hK:∀st,K st=some r→st=st1) (ho:B1v st1.tm=some rv)
  {w0 w:World} {bl0 bl:Nat→A9} {φ0 φ:Nat→Addr} {a:Act} (hloc:B7a bl0 bs) (m0:D3 w0 (S5 bs φ0) bl0 φ0 w0) (hr:m5 N w0 (S5 bs φ0) bl0 φ0 (K0 st.tm) (F9 st.bl) bl φ a w) (h:B4B E fn.results.toList rms bs st K=some r):
  a.defers=[]∧∃v,(results fn a.tmps).run P w= .ok v w∧∃φ',E3 w0 (S5 bs φ0) bl0 φ0 w0 (B4 st1.bl bl0) φ' w∧C3 w (B4 st1.bl bl0) φ' rv v:=by
 refine⟨hr.defers,?_⟩
 unfold B4B at h
 split at h
 ·rename_i y hy
  split at h
  ·rename_i ls hls
   cases hc:(n8 (y.src.map (·.2))&&(y.src.all fun q=>!G3 y.fz q.2)&&(y.fz.all fun n=>!E7 n)&&Nat.ble rms.length 900)with
   |false=>rw [hc]at h;cases h
   |true=>
    rw [hc,D8]at h
    simp only [Bool.and_eq_true,List.all_eq_true,Bool.not_eq_true']at hc
    obtain⟨⟨⟨c1,c2⟩,c3⟩,c4⟩:=hc
    obtain⟨raws,k1,k2,k3⟩:=D3Y rms _ 0 y hy
    have he:=hK _ h
    subst he
    have H:V6 N w0 bl0 φ0 bs st bl φ a w raws y.vs y.bs y.src y.fz ls:=⟨k2,by rw [k3];exact Nat.le_of_ble_eq_true c4,hls,c1,(fun q hq e=>by have:=c2 q hq;rw [t8.2 e]at this;cases this),(fun n hn=>c3 n hn),hloc,hbs,m0,hr⟩
    obtain⟨us,e1,e2⟩:=D4e hE H.agree hr.mem hr.tm fn.results.toList raws k1
    have e3:=H.vals k2 (fun _ _ h=>h) (fun _ _ h=>h) (fun _ _ h=>h) (fun _ h=>h) e2
    refine⟨_,?_,_,H.step,F8r ho e3⟩
    unfold results
    rw [Array.mapM_eq_mapM_toList,map_eq_pure_bind]
    simp only [Sem.run_bind,Sem.run_pure]
    refine(congrArg (fun z=>(Result.andThen (Result.andThen z fun a w'=>Result.ok a.toArray w') fun a w'=>Result.ok (if h:a.size=1 then a[0]else Value.tuple a) w')) e1).trans ?_
    rfl
  ·cases h
 ·cases h
theorem F5T (hE:F0 P E) (hm:P.follows .mixedOrders=true) {R:Type} {orc:P5 R} (horc:A0h P orc) {f:FuncId} {fn:Func} {c:Code} (hf:P.funcs[f]?=some fn) (hb:fn.body=some c) (hname:(fn.name== "runtime.NumGoroutine")=false)
  {an:n9} {lo:Nat→St→Option R} {N:Nat} {rms:List RM} {asx:List V} {bs:Bl} {K:St→Option R} {r:R} {st1:St} {rv:V} (hN:N=max fn.ntmps asx.length) (hbs:∀n b,A8 bs n=some b→E7 n=true∧live b)
  (hlo:∀w0 bl0 φ0 Q,KQ N w0 (S5 bs φ0) bl0 φ0 r (B3n E fn.results.toList rms bs K) Q→A5X Fence.wide 0 P N w0 (S5 bs φ0) bl0 φ0 an lo r c Q) (h:B8U E orc an lo N c fn.results.toList rms ⟨l5 0 asx,bs⟩ K=some r) (hK:∀st,K st=some r→st=st1) (hus:∀q,q∈st1.bl→q.1<10000) (ho:B1v st1.tm=some rv):
  Ct P f asx bs rv st1.bl:=by
 refine⟨hus,fun w0 bl0 φ0 vs hloc m0 hvs=>Or.inl ⟨?_,?_⟩⟩
 ·simp only [callFunc,Sem.run_bind,run_program,Result.andThen_ok,hf,hname,hb,Option.isNone_some,Bool.false_eq_true,if_false,Sem.run_pure]
 ·have hlen:=D4P hvs
  have hKQ:KQ N w0 (S5 bs φ0) bl0 φ0 r (B3n E fn.results.toList rms bs K) (bodyPost P fn fun e w'=>∃v,e= .returned v∧∃φ',E3 w0 (S5 bs φ0) bl0 φ0 w0 (B4 st1.bl bl0) φ' w'∧C3 w' (B4 st1.bl bl0) φ' rv v):=by
   rintro x st a w q1 ⟨bl,φ,hr⟩
   have fin:B4B E fn.results.toList rms bs st K=some r→a.defers=[]∧∃v,(results fn a.tmps).run P w= .ok v w∧∃v_1,Ending.returned v= .returned v_1∧∃φ',E3 w0 (S5 bs φ0) bl0 φ0 w0 (B4 st1.bl bl0) φ' w∧C3 w (B4 st1.bl bl0) φ' rv v_1:=by
    intro h
    obtain⟨h1,v,h2,φ',h3,h4⟩:=E5P hE hbs hK ho hloc m0 hr h
    exact⟨h1,v,h2,v,rfl,φ',h3,h4⟩
   cases x with
   |norm=>exact fin q1
   |ret=>exact fin q1
   |exit j=>cases q1
  refine calls_of_wp hf hb (wpIn_wide.1 (B8s (Or.inl rfl) hE hm horc c _ (hlo w0 bl0 φ0 _ hKQ) _ hKQ _ _ _ h ⟨bl0,φ0,?_⟩))
  refine⟨fun n hn=>hloc n hn,m0,fun t=>?_,?_,rfl,fun _ _=>rfl,fun _ _=>⟨fun h=>h,fun _=>⟨.same _,fun _=>rfl⟩⟩⟩
  ·have:=E1o hvs 0 t
   rw [Nat.zero_add]at this
   have e:(vs.toArray++Array.replicate (fn.ntmps-vs.toArray.size) undef).getD t undef=vs.getD t undef:=by
    simp only [Array.getD_eq_getD_getElem?,Array.getElem?_append,List.size_toArray,List.getElem?_toArray,List.getD_eq_getElem?_getD]
    split
    ·rfl
    ·rename_i hge
     rw [List.getElem?_eq_none (by omega)]
     simp only [Array.getElem?_replicate]
     split<;>rfl
   rw [e];exact this
  ·simp only [Array.size_append,List.size_toArray,Array.size_replicate,hN,←hlen]
   omega
end
inductive SV where
 |d (t:Ty)|pv (t:Ty)|part (n:Nat)|pre (n:Nat)|cl (f:Nat) (ts:List Ty)|f (x:V)|nv (b:Bool) (t:Ty)
inductive SB where
 |own (t:Ty) (tl:Bool)|cell (t:Ty) (tl:Bool)|froz (t:Ty)
@[reducible] def TsT : List Ty → Type
 | []=>Unit
 |t::l=>t.T×TsT l
@[reducible] def SvT : List (Nat × SV) → Type
 | []=>Unit
 | (_, .d t)::l=>t.T×SvT l
 | (_, .pv t)::l=>t.T×SvT l
 | (_, .part _)::l=>(Int×Int)×SvT l
 | (_, .pre _)::l=>Int×SvT l
 | (_, .cl _ ts)::l=>TsT ts×SvT l
 | (_, .f _)::l=>SvT l
 | (_, .nv _ t)::l=>List t.T×SvT l
@[reducible] def C5 : List (Nat × SB) → Type
 | []=>Unit
 | (_, .own t _)::l=>List t.T×C5 l
 | (_, .cell t _)::l=>t.T×C5 l
 | (_, .froz t)::l=>List t.T×C5 l
structure Sk where
 tm:List (Nat×SV)
 bl:List (Nat×SB)
@[reducible] def Sk.T (k : Sk) : Type := SvT k.tm × C5 k.bl
def B5f:(ts:List Ty)→TsT ts→List A
 | [],_=>[]
 |t::l,s=> .pv t s.1::B5f l s.2
def P8:(l:List (Nat×SV))→SvT l→List (Nat×V)
 | [],_=>[]
 | (n, .d t)::l,s=>(n, .a (.v t s.1))::P8 l s.2
 | (n, .pv t)::l,s=>(n, .a (.pv t s.1))::P8 l s.2
 | (n, .part m)::l,s=>(n, .a (.part m s.1.1 s.1.2))::P8 l s.2
 | (n, .pre m)::l,s=>(n, .a (.part m 0 s.1))::P8 l s.2
 | (n, .cl f ts)::l,s=>(n, .cl f (B5f ts s.1))::P8 l s.2
 | (n, .f v)::l,s=>(n,v)::P8 l s
 | (n, .nv b t)::l,s=>(n, .a (.nv b t s.1))::P8 l s.2
def U5:(l:List (Nat×SB))→C5 l→Bl
 | [],_=>[]
 | (n, .own t tl)::l,s=>(n, .live t s.1 tl)::U5 l s.2
 | (n, .cell t tl)::l,s=>(n, .live t [s.1] tl)::U5 l s.2
 | (n, .froz t)::l,s=>(n, .froz t s.1)::U5 l s.2
def Sk.mk' (k:Sk) (s:k.T):St:=⟨P8 k.tm s.1,U5 k.bl s.2⟩
def C0u:List Nat→List Nat→Bool
 | [],[]=>true
 |a::l,b::m=>Nat.beq a b&&C0u l m
 |_,_=>false
def B8l:A→A→Bool
 | .u, .u=>true
 | .ns, .ns=>true
 | .nf, .nf=>true
 | .ref n, .ref m=>Nat.beq n m
 | .ptr n i π, .ptr m j ρ=>Nat.beq n m&&decide (i=j)&&C0u π ρ
 |_,_=>false
def C0g:List A→List A→Bool
 | [],[]=>true
 |a::l,b::m=>B8l a b&&C0g l m
 |_,_=>false
def B5P:V→V→Bool
 | .a x, .a y=>B8l x y
 | .cl f xs, .cl g ys=>Nat.beq f g&&C0g xs ys
 |_,_=>false
def B4A:(ts:List Ty)→List A→Option (TsT ts)
 | [],[]=>some ()
 |t::l, .pv t' z::r=>match I7.to t ⟨t',z⟩with
  |some z=>(match B4A l r with|some s=>some (z,s)|none=>none)
  |none=>none
 |_,_=>none
def z5:(l:List (Nat×SV))→List (Nat×V)→Option (SvT l)
 | [],[]=>some ()
 | (n, .d t)::l,(m, .a (.v t' z))::r=>B3 (Nat.beq n m) ((match I7.to t ⟨t',z⟩with
  |some z=>(match z5 l r with|some s=>some (z,s)|none=>none)
  |none=>none))<|none
 | (n, .pv t)::l,(m, .a (.pv t' z))::r=>B3 (Nat.beq n m) ((match I7.to t ⟨t',z⟩with
  |some z=>(match z5 l r with|some s=>some (z,s)|none=>none)
  |none=>none))<|none
 | (n, .part k)::l,(m, .a (.part k' lo hi))::r=>B3 (Nat.beq n m&&Nat.beq k k') ((match z5 l r with|some s=>some ((lo,hi),s)|none=>none))<|none
 | (n, .pre k)::l,(m, .a (.part k' (.ofNat 0) hi))::r=>B3 (Nat.beq n m&&Nat.beq k k') ((match z5 l r with|some s=>some (hi,s)|none=>none))<|none
 | (n, .cl f ts)::l,(m, .cl g xs)::r=>B3 (Nat.beq n m&&Nat.beq f g) ((match B4A ts xs with
  |some z=>(match z5 l r with|some s=>some (z,s)|none=>none)
  |none=>none))<|none
 | (n, .f v)::l,(m,v')::r=>B3 (Nat.beq n m&&B5P v v') (z5 l r)<|none
 |_,_=>none
def A6X:(l:List (Nat×SB))→Bl→Option (C5 l)
 | [],[]=>some ()
 | (n, .own t tl)::l,(m, .live t' z tl')::r=>B3 (Nat.beq n m&&(tl==tl')) ((match I7.to (.li t) ⟨.li t',z⟩with
  |some z=>(match A6X l r with|some s=>some (z,s)|none=>none)
  |none=>none))<|none
 | (n, .cell t tl)::l,(m, .live t' [z] tl')::r=>B3 (Nat.beq n m&&(tl==tl')) ((match I7.to t ⟨t',z⟩with
  |some z=>(match A6X l r with|some s=>some (z,s)|none=>none)
  |none=>none))<|none
 | (n, .froz t)::l,(m, .froz t' z)::r=>B3 (Nat.beq n m) ((match I7.to (.li t) ⟨.li t',z⟩with
  |some z=>(match A6X l r with|some s=>some (z,s)|none=>none)
  |none=>none))<|none
 |_,_=>none
def Sk.dec (k:Sk) (st:St):Option k.T:=match z5 k.tm st.tm with
 |some a=>(match A6X k.bl st.bl with|some b=>some (a,b)|none=>none)
 |none=>none
theorem D5f:∀{a b:List Nat},C0u a b=true→a=b
 | [],[],_=>rfl
 |x::a,y::b,h=>by
  unfold C0u at h
  rw [Bool.and_eq_true]at h
  rw [Nat.eq_of_beq_eq_true h.1,D5f h.2]
 | [],_::_,h=>by cases h
 |_::_,[],h=>by cases h
theorem D2h {x y:A} (h:B8l x y=true):x=y:=by
 unfold B8l at h
 split at h
 ·rfl
 ·rfl
 ·rfl
 ·rw [Nat.eq_of_beq_eq_true h]
 ·rw [Bool.and_eq_true,Bool.and_eq_true]at h
  rw [Nat.eq_of_beq_eq_true h.1.1,of_decide_eq_true h.1.2,D5f h.2]
 ·cases h
theorem D1z:∀{a b:List A},C0g a b=true→a=b
 | [],[],_=>rfl
 |x::a,y::b,h=>by
  unfold C0g at h
  rw [Bool.and_eq_true]at h
  rw [D2h h.1,D1z h.2]
 | [],_::_,h=>by cases h
 |_::_,[],h=>by cases h
theorem E1V {x y:V} (h:B5P x y=true):x=y:=by
 unfold B5P at h
 split at h
 ·rw [D2h h]
 ·rw [Bool.and_eq_true]at h
  rw [Nat.eq_of_beq_eq_true h.1,D1z h.2]
 ·cases h
theorem B0C {t t':Ty} {z:t'.T} {y:t.T} (h:I7.to t ⟨t',z⟩=some y):(⟨t',z⟩:I7)=⟨t,y⟩:=by
 unfold I7.to at h
 split at h
 ·rename_i e
  have e:t'=t:=e
  subst e
  cases h;rfl
 ·cases h
theorem D8J:∀{ts:List Ty} {xs:List A} {s:TsT ts},B4A ts xs=some s→xs=B5f ts s
 | [],[],s,_=>rfl
 |t::l,x::r,s,h=>by
  cases x with
  |pv t' z=>
   replace h:(match I7.to t ⟨t',z⟩with|some z=>(match B4A l r with|some s=>some (z,s)|none=>none)|none=>none)=some s:=h
   split at h
   ·rename_i y hy
    split at h
    ·rename_i s' hs
     cases h
     have:=B0C hy
     cases this
     show _=A.pv t _::B5f l s'
     rw [D8J hs]
    ·cases h
   ·cases h
  |_=>cases h
 | [],_::_,s,h=>by cases h
 |_::_,[],s,h=>by cases h
theorem A8c:∀(l:List (Nat×SV)) {r:List (Nat×V)} {s:SvT l},z5 l r=some s→r=P8 l s
 | [],r,s,h=>by
  cases r with
  |nil=>rfl
  |cons=>cases h
 | (n,k)::l,[],s,h=>by cases k<;>cases h
 | (n, .d t)::l,(m,v)::r,s,h=>by
  cases v with
  |a x=>
   cases x with
   |v t' z=>
    have h:(B3 (Nat.beq n m) ((match I7.to t ⟨t',z⟩with|some z=>(match z5 l r with|some s=>some (z,s)|none=>none)|none=>none))<|none)=some s:=h
    cases hb:Nat.beq n m with
    |false=>rw [hb]at h;cases h
    |true=>
     rw [hb,D8]at h
     split at h
     ·rename_i y hy
      split at h
      ·rename_i s' hs
       cases h
       have:=B0C hy
       cases this
       show _=(n,V.a (.v t _))::P8 l s'
       rw [Nat.eq_of_beq_eq_true hb,A8c l hs]
      ·cases h
     ·cases h
   |_=>cases h
  |_=>cases h
 | (n, .pv t)::l,(m,v)::r,s,h=>by
  cases v with
  |a x=>
   cases x with
   |pv t' z=>
    have h:(B3 (Nat.beq n m) ((match I7.to t ⟨t',z⟩with|some z=>(match z5 l r with|some s=>some (z,s)|none=>none)|none=>none))<|none)=some s:=h
    cases hb:Nat.beq n m with
    |false=>rw [hb]at h;cases h
    |true=>
     rw [hb,D8]at h
     split at h
     ·rename_i y hy
      split at h
      ·rename_i s' hs
       cases h
       have:=B0C hy
       cases this
       show _=(n,V.a (.pv t _))::P8 l s'
       rw [Nat.eq_of_beq_eq_true hb,A8c l hs]
      ·cases h
     ·cases h
   |_=>cases h
  |_=>cases h
 | (n, .part k)::l,(m,v)::r,s,h=>by
  cases v with
  |a x=>
   cases x with
   |part k' lo hi=>
    have h:(B3 (Nat.beq n m&&Nat.beq k k') ((match z5 l r with|some s=>some ((lo,hi),s)|none=>none))<|none)=some s:=h
    cases hb:(Nat.beq n m&&Nat.beq k k')with
    |false=>rw [hb]at h;cases h
    |true=>
     rw [hb,D8]at h
     rw [Bool.and_eq_true]at hb
     split at h
     ·rename_i s' hs
      cases h
      show _=(n,V.a (.part k lo hi))::P8 l s'
      rw [Nat.eq_of_beq_eq_true hb.1,Nat.eq_of_beq_eq_true hb.2,A8c l hs]
     ·cases h
   |_=>cases h
  |_=>cases h
 | (n, .pre k)::l,(m,v)::r,s,h=>by
  cases v with
  |a x=>
   cases x with
   |part k' lo hi=>
    cases lo with
    |negSucc=>cases h
    |ofNat z=>
     cases z with
     |succ=>cases h
     |zero=>
      have h:(B3 (Nat.beq n m&&Nat.beq k k') ((match z5 l r with|some s=>some (hi,s)|none=>none))<|none)=some s:=h
      cases hb:(Nat.beq n m&&Nat.beq k k')with
      |false=>rw [hb]at h;cases h
      |true=>
       rw [hb,D8]at h
       rw [Bool.and_eq_true]at hb
       split at h
       ·rename_i s' hs
        cases h
        show _=(n,V.a (.part k 0 hi))::P8 l s'
        rw [Nat.eq_of_beq_eq_true hb.1,Nat.eq_of_beq_eq_true hb.2,A8c l hs];rfl
       ·cases h
   |_=>cases h
  |_=>cases h
 | (n, .cl f ts)::l,(m,v)::r,s,h=>by
  cases v with
  |cl g xs=>
   have h:(B3 (Nat.beq n m&&Nat.beq f g) ((match B4A ts xs with|some z=>(match z5 l r with|some s=>some (z,s)|none=>none)|none=>none))<|none)=some s:=h
   cases hb:(Nat.beq n m&&Nat.beq f g)with
   |false=>rw [hb]at h;cases h
   |true=>
    rw [hb,D8]at h
    rw [Bool.and_eq_true]at hb
    split at h
    ·rename_i y hy
     split at h
     ·rename_i s' hs
      cases h
      show _=(n,V.cl f (B5f ts y))::P8 l s'
      rw [Nat.eq_of_beq_eq_true hb.1,Nat.eq_of_beq_eq_true hb.2,A8c l hs,D8J hy]
     ·cases h
    ·cases h
  |_=>cases h
 | (n, .f v)::l,(m,v')::r,s,h=>by
  have h:(B3 (Nat.beq n m&&B5P v v') (z5 l r)<|none)=some s:=by
   cases v' with
   |a x=>cases x<;>exact h
   |_=>exact h
  cases hb:(Nat.beq n m&&B5P v v')with
  |false=>rw [hb]at h;cases h
  |true=>
   rw [hb,D8]at h
   rw [Bool.and_eq_true]at hb
   show _=(n,v)::P8 l s
   rw [Nat.eq_of_beq_eq_true hb.1,E1V hb.2,A8c l h]
theorem B8M:∀(l:List (Nat×SB)) {r:Bl} {s:C5 l},A6X l r=some s→r=U5 l s
 | [],r,s,h=>by
  cases r with
  |nil=>rfl
  |cons=>cases h
 | (n,k)::l,[],s,h=>by cases k<;>cases h
 | (n, .own t tl)::l,(m,b)::r,s,h=>by
  cases b with
  |live t' z tl'=>
   replace h:(B3 (Nat.beq n m&&(tl==tl')) ((match I7.to (.li t) ⟨.li t',z⟩with|some z=>(match A6X l r with|some s=>some (z,s)|none=>none)|none=>none))<|none)=some s:=by
    cases z with
    |nil=>exact h
    |cons a z=>cases z<;>exact h
   cases hb:(Nat.beq n m&&(tl==tl'))with
   |false=>rw [hb]at h;cases h
   |true=>
    rw [hb,D8]at h
    rw [Bool.and_eq_true]at hb
    have e:=eq_of_beq hb.2
    subst e
    split at h
    ·rename_i y hy
     split at h
     ·rename_i s' hs
      cases h
      have:=B0C hy
      cases this
      show _=(n,A9.live t _ tl)::U5 l s'
      rw [Nat.eq_of_beq_eq_true hb.1,B8M l hs]
     ·cases h
    ·cases h
  |_=>cases h
 | (n, .cell t tl)::l,(m,b)::r,s,h=>by
  cases b with
  |live t' z tl'=>
   cases z with
   |nil=>cases h
   |cons z zs=>
    cases zs with
    |cons=>cases h
    |nil=>
     replace h:(B3 (Nat.beq n m&&(tl==tl')) ((match I7.to t ⟨t',z⟩with|some z=>(match A6X l r with|some s=>some (z,s)|none=>none)|none=>none))<|none)=some s:=h
     cases hb:(Nat.beq n m&&(tl==tl'))with
     |false=>rw [hb]at h;cases h
     |true=>
      rw [hb,D8]at h
      rw [Bool.and_eq_true]at hb
      have e:=eq_of_beq hb.2
      subst e
      split at h
      ·rename_i y hy
       split at h
       ·rename_i s' hs
        cases h
        have:=B0C hy
        cases this
        show _=(n,A9.live t [_] tl)::U5 l s'
        rw [Nat.eq_of_beq_eq_true hb.1,B8M l hs]
       ·cases h
      ·cases h
  |_=>cases h
 | (n, .froz t)::l,(m,b)::r,s,h=>by
  cases b with
  |froz t' z=>
   replace h:(B3 (Nat.beq n m) ((match I7.to (.li t) ⟨.li t',z⟩with|some z=>(match A6X l r with|some s=>some (z,s)|none=>none)|none=>none))<|none)=some s:=h
   cases hb:Nat.beq n m with
   |false=>rw [hb]at h;cases h
   |true=>
    rw [hb,D8]at h
    split at h
    ·rename_i y hy
     split at h
     ·rename_i s' hs
      cases h
      have:=B0C hy
      cases this
      show _=(n,A9.froz t _)::U5 l s'
      rw [Nat.eq_of_beq_eq_true hb,B8M l hs]
     ·cases h
    ·cases h
  |_=>cases h
theorem Sk.dec_ok {k:Sk} {st:St} {s:k.T} (h:k.dec st=some s):st=k.mk' s:=by
 unfold Sk.dec at h
 split at h
 ·rename_i a ha
  split at h
  ·rename_i b hb
   cases h
   obtain⟨tm,bl⟩:=st
   show _=St.mk (P8 k.tm a) (U5 k.bl b)
   rw [←A8c _ ha,←B8M _ hb]
  ·cases h
 ·cases h
structure FE where
 f:Nat
 ask:Sk
 rsk:Sk
 R:Type
 F:ask.T→Option R
 enc:R→rsk.T
def A4Q {R:Type}:List FE→P5 R
 | [],_,_,_,_=>none
 |e::es,f,asx,bs,K=>B3 (Nat.beq e.f f) ((match e.ask.dec ⟨l5 0 asx,bs⟩with
  |some s=>(match e.F s with
   |some o=>(match B1v (P8 e.rsk.tm (e.enc o).1)with
    |some v=>K v (U5 e.rsk.bl (e.enc o).2)
    |none=>none)
   |none=>none)
  |none=>A4Q es f asx bs K))<|A4Q es f asx bs K
def B5 (P:Program) (e:FE):Prop:=∀s o,e.F s=some o→∀v,B1v (P8 e.rsk.tm (e.enc o).1)=some v→Ct P e.f ((P8 e.ask.tm s.1).map (·.2)) (U5 e.ask.bl s.2) v (U5 e.rsk.bl (e.enc o).2)
theorem D4r:∀(asx:List V) (k:Nat),(l5 k asx).map (·.2)=asx
 | [],_=>rfl
 |a::asx,k=>by
  show a::(l5 (k+1) asx).map (·.2)=_
  rw [D4r asx (k+1)]
theorem D0w {P:Program} {R:Type}:∀(es:List FE),(∀e,e∈es→B5 P e)→A0h P (A4Q (R:=R) es)
 | [],_=>fun f asx bs K r h=>by cases h
 |e::es,he=>fun f asx bs K r h=>by
  have ih:=D0w (R:=R) es (fun e he'=>he e (List.mem_cons_of_mem _ he')) f asx bs K r
  unfold A4Q at h
  cases hb:Nat.beq e.f f with
  |false=>rw [hb,Q8]at h;exact ih h
  |true=>
   rw [hb,D8]at h
   split at h
   ·rename_i s hs
    split at h
    ·rename_i o ho
     split at h
     ·rename_i v hv
      refine⟨v,_,h,?_⟩
      have:=he e List.mem_cons_self s o ho v hv
      have e1:=Sk.dec_ok hs
      have e2:l5 0 asx=P8 e.ask.tm s.1:=congrArg St.tm e1
      have e3:bs=U5 e.ask.bl s.2:=congrArg St.bl e1
      rw [←e2,D4r,←e3,Nat.eq_of_beq_eq_true hb]at this
      exact this
     ·cases h
    ·cases h
   ·exact ih h
inductive Fr where
 |seqL (b:Code)|blk (id:Nat)|lp (c:Code)|sc
structure S3 where
 key:Nat
 fs:List Fr
 c:Code
def K3 (an:n9):List Fr→Code→List S3
 |fs, .seq a b=>K3 an (.seqL b::fs) a++(match A8 an.cut (F8 b)with
  |some _=>⟨F8 b,fs,b⟩::K3 an fs b
  |none=>K3 an fs b)
 |fs, .cond _ a b=>K3 an fs a++K3 an fs b
 |fs, .block id c=>K3 an (.blk id::fs) c
 |fs, .scope c=>K3 an (.sc::fs) c
 |fs, .loop c=>⟨F8 c,fs, .loop c⟩::K3 an (.lp c::fs) c
 |fs, .rangeFunc g ps c d=>[⟨F8 c,fs, .rangeFunc g ps c d⟩]
 |_,_=>[]
def D7H {R:Type} (an:n9) (lo:Nat→St→Option R) (c:Code) (K:KX R):KX R:=fun x st=>match x with
 | .norm=>A5g (A8 an.lp (F8 c)) st fun st=>lo (F8 c) st
 |x=>K x st
section
variable {R:Type} (E:D7) (orc:P5 R) (N:Nat) (an:n9) (lo:Nat→St→Option R)
def κF:List Fr→KX R→KX R
 | [],K=>K
 | .seqL b::fs,K=>C0d E orc N an lo b (κF fs K)
 | .blk id::fs,K=>B9n id (κF fs K)
 | .lp c::fs,K=>D7H an lo c (κF fs K)
 | .sc::fs,K=>κF fs K
def B7M (K:KX R) (q:S3) (st:St):Option R:=match q.c with
 | .loop c=>ev E orc N an lo c st (D7H an lo c (κF E orc N an lo q.fs K))
 |c=>ev E orc N an lo c st (κF E orc N an lo q.fs K)
end
def lw (F:Fence) (n:Nat) (P:Program) (c:Code) (Q:Exit→Act→World→Prop) (a:Act) (w:World):Prop:=
 ∀(b:Frame) (k:List Item) (cs:List Frame),b.roundOf=F.round→F.fn b.fn→F.room (cs.length+1+n)→∃e a' w',Q e a' w'∧ArrivesIn (Machine.fenced P F) P (lone (b.atR a (.code c:: .inLoop c::k)) cs w) b k cs e a' w'
def qF (F:Fence) (n:Nat) (P:Program) (Q:Exit→Act→World→Prop):List Fr→(Exit→Act→World→Prop)
 | []=>Q
 | .seqL b::fs=>Exit.then (b.wpIn F n P (qF F n P Q fs)) (qF F n P Q fs)
 | .blk id::fs=>Exit.inBlock id (qF F n P Q fs)
 | .lp c::fs=>Exit.then (lw F n P c (qF F n P Q fs)) (qF F n P Q fs)
 | .sc::fs=>Exit.noGoto (qF F n P Q fs)
structure C9 (R:Type) where
 key:Nat
 sk:Sk
 l:sk.T→Option R
def A0k {R:Type}:List (C9 R)→Nat→St→Option R
 | [],_,_=>none
 |e::es,key,st=>B3 (Nat.beq e.key key) ((match e.sk.dec st with
  |some s=>e.l s
  |none=>none))<|A0k es key st
theorem E3G {F:Fence} {n:Nat} {P:Program} {Q:Exit→Act→World→Prop} {c:Code} {a:Act} {w:World} (h:lw F n P c Q a w):(Code.loop c).wpIn F n P Q a w:=by
 intro b k cs hro hb hr
 obtain⟨e,a',w',hq,harr⟩:=h b k cs hro hb hr
 exact⟨e,a',w',hq, .of_steps (.one (fenced_calm hb hr rfl) stepR_loop) harr⟩
theorem F6s {F:Fence} {n:Nat} {P:Program} {Q:Exit→Act→World→Prop} {c:Code} {a:Act} {w:World} (h:c.wpIn F n P (Exit.then (lw F n P c Q) Q) a w):lw F n P c Q a w:=by
 intro b k cs hro hb hr
 obtain⟨e,a₁,w₁,hq,harr⟩:=h b (.inLoop c::k) cs hro hb hr
 cases e with
 |normal=>
  obtain⟨e₂,a₂,w₂,hq₂,harr₂⟩:=hq b k cs hro hb hr
  exact⟨e₂,a₂,w₂,hq₂, .of_steps (StepsIn.trans harr (.one (fenced_calm hb hr rfl) stepR_inLoop)) harr₂⟩
 |exit id=>exact⟨_,a₁,w₁,hq, .pass (x:= .inLoop c) rfl (fun _ _=> .inl (by simp)) harr⟩
 |goto l=>exact⟨_,a₁,w₁,hq, .pass (x:= .inLoop c) rfl (fun _ _=> .inl (by simp)) harr⟩
 |ret=>exact⟨_,a₁,w₁,hq, .pass (x:= .inLoop c) rfl (fun _ _=> .inl (by simp)) harr⟩
 |panic ch=>exact⟨_,a₁,w₁,hq, .pass (x:= .inLoop c) rfl (fun _ _=> .inl (by simp)) harr⟩
 |outgrown=>exact⟨_,a₁,w₁,hq, .pass (x:= .inLoop c) rfl (fun _ _=> .inl (by simp)) harr⟩
section
variable {F:Fence} {n:Nat} {P:Program} {N:Nat} {w0:World} {Bo:Nat→Nat→Prop} {bl0:Nat→A9} {φ0:Nat→Addr} {E:D7} {R:Type} {r:R} {an:n9} {lo:Nat→St→Option R}
def B4H (F:Fence) (n:Nat) (P:Program) (N:Nat) (w0:World) (Bo:Nat→Nat→Prop) (bl0:Nat→A9) (φ0:Nat→Addr) (lo:Nat→St→Option R) (r:R) (Q:Exit→Act→World→Prop) (q:S3):Prop:=
 ∀st a w,lo q.key st=some r→Rel N w0 Bo bl0 φ0 st a w→match q.c with
  | .loop c=>lw F n P c (qF F n P Q q.fs) a w
  |c=>c.wpIn F n P (qF F n P Q q.fs) a w
theorem B9o {Q:Exit→Act→World→Prop} {q:S3} (h:B4H F n P N w0 Bo bl0 φ0 lo r Q q):LoQ F n P N w0 Bo bl0 φ0 lo r q.key q.c (qF F n P Q q.fs):=by
 intro st a w hk hr
 have:=h st a w hk hr
 obtain⟨key,fs,c⟩:=q
 cases c with
 |loop c=>exact E3G this
 |_=>exact this
theorem B7k {Q:Exit→Act→World→Prop}:∀(c:Code) (fs:List Fr),(∀q,q∈K3 an fs c→B4H F n P N w0 Bo bl0 φ0 lo r Q q)→A5X F n P N w0 Bo bl0 φ0 an lo r c (qF F n P Q fs):=by
 intro c
 induction c with
 |seq a b iha ihb=>
  intro fs h
  unfold K3 at h
  refine⟨iha (.seqL b::fs) fun q hq=>h q (List.mem_append_left _ hq),?_⟩
  cases hl:A8 an.cut (F8 b)with
  |some L=>
   rw [hl]at h
   exact B9o (h ⟨F8 b,fs,b⟩ (List.mem_append_right _ List.mem_cons_self))
  |none=>
   rw [hl]at h
   exact ihb fs fun q hq=>h q (List.mem_append_right _ hq)
 |cond c a b iha ihb=>
  intro fs h
  exact⟨iha fs fun q hq=>h q (List.mem_append_left _ hq),ihb fs fun q hq=>h q (List.mem_append_right _ hq)⟩
 |block id c ih=>intro fs h;exact ih (.blk id::fs) h
 |scope c ih=>intro fs h;exact ih (.sc::fs) h
 |loop c ih=>intro fs h;exact B9o (h ⟨F8 c,fs, .loop c⟩ List.mem_cons_self)
 |rangeFunc g ps c d _ _=>intro fs h;exact B9o (h ⟨F8 c,fs, .rangeFunc g ps c d⟩ List.mem_cons_self)
 |_=>intro fs h;trivial
def A3N (an:n9) (tbl:List S3):List Fr→Prop
 | []=>True
 | .seqL b::fs=>(match A8 an.cut (F8 b)with
  |some _=>∀q,q∈⟨F8 b,fs,b⟩::K3 an fs b→q∈tbl
  |none=>∀q,q∈K3 an fs b→q∈tbl)∧A3N an tbl fs
 | .blk _::fs=>A3N an tbl fs
 | .sc::fs=>A3N an tbl fs
 | .lp c::fs=>(⟨F8 c,fs, .loop c⟩:S3)∈tbl∧A3N an tbl fs
def O3 (an:n9) (q:S3):List S3:=match q.c with
 | .loop c=>K3 an (.lp c::q.fs) c
 |c=>K3 an q.fs c
theorem F4D:∀(c:Code) (fs:List Fr) (q:S3),q∈K3 an fs c→q.key=F8 q.c:=by
 intro c
 induction c with
 |seq a b iha ihb=>
  intro fs q hq
  unfold K3 at hq
  rcases List.mem_append.1 hq with hq|hq
  ·exact iha _ q hq
  ·cases hl:A8 an.cut (F8 b)with
   |none=>rw [hl]at hq;exact ihb fs q hq
   |some L=>
    rw [hl]at hq
    rcases List.mem_cons.1 hq with rfl|hq
    ·rfl
    ·exact ihb fs q hq
 |cond c a b iha ihb=>
  intro fs q hq
  unfold K3 at hq
  rcases List.mem_append.1 hq with hq|hq
  ·exact iha fs q hq
  ·exact ihb fs q hq
 |block id c ih=>intro fs q hq;exact ih (.blk id::fs) q hq
 |scope c ih=>intro fs q hq;exact ih (.sc::fs) q hq
 |loop c ih=>
  intro fs q hq
  unfold K3 at hq
  rcases List.mem_cons.1 hq with rfl|hq
  ·rfl
  ·exact ih (.lp c::fs) q hq
 |rangeFunc g ps c d _ _=>
  intro fs q hq
  unfold K3 at hq
  rw [List.mem_singleton]at hq
  subst hq;rfl
 |_=>intro fs q hq;cases hq
theorem F7Y {tbl:List S3}:∀(c:Code) (fs:List Fr),A3N an tbl fs→(∀q,q∈K3 an fs c→q∈tbl)→∀q,q∈K3 an fs c→A3N an tbl q.fs∧∀p,p∈O3 an q→p∈tbl:=by
 intro c
 induction c with
 |seq a b iha ihb=>
  intro fs hc h q hq
  unfold K3 at h hq
  have hcx:A3N an tbl (.seqL b::fs):=by
   refine⟨?_,hc⟩
   cases hl:A8 an.cut (F8 b)with
   |some L=>rw [hl]at h;exact fun q hq=>h q (List.mem_append_right _ hq)
   |none=>rw [hl]at h;exact fun q hq=>h q (List.mem_append_right _ hq)
  rcases List.mem_append.1 hq with hq|hq
  ·exact iha (.seqL b::fs) hcx (fun q hq=>h q (List.mem_append_left _ hq)) q hq
  ·cases hl:A8 an.cut (F8 b)with
   |none=>
    rw [hl]at h hq
    exact ihb fs hc (fun q hq=>h q (List.mem_append_right _ hq)) q hq
   |some L=>
    rw [hl]at h hq
    have hb:∀q,q∈K3 an fs b→q∈tbl:=fun q hq=>h q (List.mem_append_right _ (List.mem_cons_of_mem _ hq))
    rcases List.mem_cons.1 hq with rfl|hq
    ·refine⟨hc,?_⟩
     unfold O3
     simp only
     split
     ·rename_i c
      intro p hp
      exact hb p (by unfold K3;exact List.mem_cons_of_mem _ hp)
     ·exact hb
    ·exact ihb fs hc hb q hq
 |cond c a b iha ihb=>
  intro fs hc h q hq
  unfold K3 at h hq
  rcases List.mem_append.1 hq with hq|hq
  ·exact iha fs hc (fun q hq=>h q (List.mem_append_left _ hq)) q hq
  ·exact ihb fs hc (fun q hq=>h q (List.mem_append_right _ hq)) q hq
 |block id c ih=>intro fs hc h q hq;exact ih (.blk id::fs) hc h q hq
 |scope c ih=>intro fs hc h q hq;exact ih (.sc::fs) hc h q hq
 |loop c ih=>
  intro fs hc h q hq
  unfold K3 at h hq
  have hcx:A3N an tbl (.lp c::fs):=⟨h _ List.mem_cons_self,hc⟩
  have hb:∀q,q∈K3 an (.lp c::fs) c→q∈tbl:=fun q hq=>h q (List.mem_cons_of_mem _ hq)
  rcases List.mem_cons.1 hq with rfl|hq
  ·exact⟨hc,hb⟩
  ·exact ih (.lp c::fs) hcx hb q hq
 |rangeFunc g ps c d _ _=>
  intro fs hc h q hq
  unfold K3 at hq
  rw [List.mem_singleton]at hq
  subst hq
  exact⟨hc,h⟩
 |_=>intro fs hc h q hq;cases hq
theorem B2b (hF:f7 F) (hE:F0 P E) (hm:P.follows .mixedOrders=true) {orc:P5 R} (horc:A0h P orc) {Q:Exit→Act→World→Prop} {K:KX R} (hK:KQ N w0 Bo bl0 φ0 r K Q) {tbl:List S3} (ht:∀q,q∈tbl→B4H F n P N w0 Bo bl0 φ0 lo r Q q):
  ∀(fs:List Fr),A3N an tbl fs→KQ N w0 Bo bl0 φ0 r (κF E orc N an lo fs K) (qF F n P Q fs)
 | [],_=>hK
 | .seqL b::fs,h=>by
  have ih:=B2b hF hE hm horc hK ht fs h.2
  have h1:=h.1
  refine D2Y ih (fun L hL=>?_) fun hL=>?_
  ·rw [hL]at h1
   exact B9o (ht _ (h1 _ List.mem_cons_self))
  ·rw [hL]at h1
   exact fun st a w he hr=>B8s hF hE hm horc b _ (B7k b fs fun q hq=>ht q (h1 q hq)) _ ih st a w he hr
 | .blk id::fs,h=>D7m (B2b hF hE hm horc hK ht fs h)
 | .sc::fs,h=>D1w (B2b hF hE hm horc hK ht fs h)
 | .lp c::fs,h=>by
  have ih:=B2b hF hE hm horc hK ht fs h.2
  intro x st a w hk hr
  cases x with
  |exit j=>exact ih _ _ _ _ hk hr
  |ret=>exact ih _ _ _ _ hk hr
  |norm=>
   obtain⟨st',h1,h2⟩:=B4q hk hr
   exact ht _ h.1 st' a w h1 h2
inductive A7j (E:D7) (orc:P5 R) (N:Nat) (an:n9) (lo:Nat→St→Option R) (K:KX R):List (C9 R)→List S3→Prop
 |nil:A7j E orc N an lo K [] []
 |cons {e:C9 R} {es:List (C9 R)} {q:S3} {qs:List S3}:e.key=q.key→G3 (qs.map (·.key)) q.key=false→(∀s r,e.l s=some r→B7M E orc N an lo K q (e.sk.mk' s)=some r)→A7j E orc N an lo K es qs→A7j E orc N an lo K (e::es) (q::qs)
theorem F7M {orc:P5 R} {K:KX R} {les:List (C9 R)} {qs:List S3} (h:A7j E orc N an lo K les qs):∀q,q∈qs→∀st,A0k les q.key st=some r→B7M E orc N an lo K q st=some r:=by
 induction h with
 |nil=>intro q hq;cases hq
 | @cons e es q0 qs hk hn he _ ih=>
  intro q hq st hl
  unfold A0k at hl
  rcases List.mem_cons.1 hq with rfl|hq
  ·rw [hk,Nat.beq_refl,D8]at hl
   split at hl
   ·rename_i s hs
    have e1:=Sk.dec_ok hs
    subst e1
    exact he s r hl
   ·cases hl
  ·have:Nat.beq e.key q.key=false:=by
    rw [Bool.eq_false_iff]
    intro e1
    have e2:=Nat.eq_of_beq_eq_true e1
    have:q0.key∈qs.map (·.key):=by rw [←hk,e2];exact List.mem_map.2 ⟨q,hq,rfl⟩
    rw [t8.2 this]at hn;cases hn
   rw [this,Q8]at hl
   exact ih q hq st hl
theorem E0V (hF:f7 F) (hE:F0 P E) (hm:P.follows .mixedOrders=true) {orc:P5 R} (horc:A0h P orc) {Q:Exit→Act→World→Prop} {K:KX R} (hK:KQ N w0 Bo bl0 φ0 r K Q) {tbl:List S3} (ht:∀q,q∈tbl→B4H F n P N w0 Bo bl0 φ0 lo r Q q) {q:S3} (hq:q∈tbl) (hc:A3N an tbl q.fs) (hi:∀p,p∈O3 an q→p∈tbl) (hkey:q.key=F8 q.c)
  {st:St} {a:Act} {w:World} (h:B7M E orc N an lo K q st=some r) (hr:Rel N w0 Bo bl0 φ0 st a w):match q.c with
  | .loop c=>lw F n P c (qF F n P Q q.fs) a w
  |c=>c.wpIn F n P (qF F n P Q q.fs) a w:=by
 obtain⟨key,fs,c⟩:=q
 have D4:(∀c',c≠ .loop c')→ev E orc N an lo c st (κF E orc N an lo fs K)=some r→(∀p,p∈K3 an fs c→p∈tbl)→c.wpIn F n P (qF F n P Q fs) a w:=by
  intro _ h hi
  exact B8s hF hE hm horc c _ (B7k c fs fun p hp=>ht p (hi p hp)) _ (B2b hF hE hm horc hK ht fs hc) st a w h hr
 cases c with
 |loop c=>
  have hkey:key=F8 c:=hkey
  subst hkey
  have hcx:A3N an tbl (.lp c::fs):=⟨hq,hc⟩
  exact F6s (B8s hF hE hm horc c _ (B7k c (.lp c::fs) fun p hp=>ht p (hi p hp)) _ (B2b hF hE hm horc hK ht (.lp c::fs) hcx) st a w h hr)
 |_=>exact D4 (fun _ e=>by cases e) h hi
theorem E2F (hF:f7 F) (hE:F0 P E) (hm:P.follows .mixedOrders=true) {orc:Nat→P5 R} (horc:∀k,A0h P (orc k)) {Q:Exit→Act→World→Prop} {K:KX R} (hK:KQ N w0 Bo bl0 φ0 r K Q) {c:Code} {tbl:List S3} (htb:K3 an [] c=tbl) {les:Nat→List (C9 R)}
  (h0:∀e,e∈les 0→∀s,e.l s=none) (hs:∀k,A7j E (orc k) N an (A0k (les k)) K (les (k+1)) tbl):∀k q,q∈tbl→B4H F n P N w0 Bo bl0 φ0 (A0k (les k)) r Q q:=by
 subst htb
 intro k
 induction k with
 |zero=>
  intro q _ st a w h _
  exfalso
  have:∀(l:List (C9 R)),(∀e,e∈l→∀s,e.l s=none)→A0k l q.key st=none:=by
   intro l
   induction l with
   |nil=>intro _;rfl
   |cons e l ih=>
    intro hl
    unfold A0k
    cases Nat.beq e.key q.key with
    |false=>exact ih fun e he=>hl e (List.mem_cons_of_mem _ he)
    |true=>
     simp only [D8]
     split
     ·exact hl e List.mem_cons_self _
     ·rfl
  rw [this _ h0]at h;cases h
 |succ k ih=>
  intro q hq st a w h hr
  obtain⟨h1,h2⟩:=F7Y (an:=an) (tbl:=K3 an [] c) c [] trivial (fun q hq=>hq) q hq
  exact E0V hF hE hm (horc k) hK ih hq h1 h2 (F4D c [] q hq) (F7M (hs k) q hq st h) hr
end
def B0m:List (Nat×SB)→Bool
 | []=>true
 | (n, .own _ _)::l=>E7 n&&B0m l
 | (n, .cell _ _)::l=>E7 n&&B0m l
 |_=>false
theorem C2y:∀(l:List (Nat×SB)),B0m l=true→∀(s:C5 l) n b,A8 (U5 l s) n=some b→E7 n=true∧live b
 | [],_,s,n,b,h=>by cases h
 | (m, .own t tl)::l,hl,s,n,b,h=>by
  unfold B0m at hl
  rw [Bool.and_eq_true]at hl
  replace h:(B3 (Nat.beq m n) (some (A9.live t s.1 tl))<|A8 (U5 l s.2) n)=some b:=h
  cases hb:Nat.beq m n with
  |true=>rw [hb]at h;cases h;rw [←Nat.eq_of_beq_eq_true hb];exact⟨hl.1,_,_,_,rfl⟩
  |false=>rw [hb]at h;exact C2y l hl.2 s.2 n b h
 | (m, .cell t tl)::l,hl,s,n,b,h=>by
  unfold B0m at hl
  rw [Bool.and_eq_true]at hl
  replace h:(B3 (Nat.beq m n) (some (A9.live t [s.1] tl))<|A8 (U5 l s.2) n)=some b:=h
  cases hb:Nat.beq m n with
  |true=>rw [hb]at h;cases h;rw [←Nat.eq_of_beq_eq_true hb];exact⟨hl.1,_,_,_,rfl⟩
  |false=>rw [hb]at h;exact C2y l hl.2 s.2 n b h
 | (m, .froz t)::l,hl,s,n,b,h=>by cases hl
theorem B7V:∀(l:List (Nat×SB)) (s:C5 l),(U5 l s).map (·.1)=l.map (·.1)
 | [],_=>rfl
 | (m, .own t tl)::l,s=>congrArg (m:: ·) (B7V l s.2)
 | (m, .cell t tl)::l,s=>congrArg (m:: ·) (B7V l s.2)
 | (m, .froz t)::l,s=>congrArg (m:: ·) (B7V l s.2)
def C1G:Nat→List (Nat×SV)→Bool
 |_,[]=>true
 |k,(n,_)::l=>Nat.beq n k&&C1G (k+1) l
theorem A5l:∀(l:List (Nat×SV)) (k:Nat),C1G k l=true→∀(s:SvT l),P8 l s=l5 k ((P8 l s).map (·.2))∧(P8 l s).length=l.length
 | [],_,_,s=>⟨rfl,rfl⟩
 | (m,v)::l,k,h,s=>by
  unfold C1G at h
  rw [Bool.and_eq_true]at h
  have e:=Nat.eq_of_beq_eq_true h.1
  subst e
  cases v with
  |pv t=>obtain⟨i1,i2⟩:=A5l l _ h.2 s.2;exact⟨congrArg (_:: ·) i1,congrArg (· +1) i2⟩
  |d t=>obtain⟨i1,i2⟩:=A5l l _ h.2 s.2;exact⟨congrArg (_:: ·) i1,congrArg (· +1) i2⟩
  |pre q=>obtain⟨i1,i2⟩:=A5l l _ h.2 s.2;exact⟨congrArg (_:: ·) i1,congrArg (· +1) i2⟩
  |part q=>obtain⟨i1,i2⟩:=A5l l _ h.2 s.2;exact⟨congrArg (_:: ·) i1,congrArg (· +1) i2⟩
  |cl f ts=>obtain⟨i1,i2⟩:=A5l l _ h.2 s.2;exact⟨congrArg (_:: ·) i1,congrArg (· +1) i2⟩
  |f v=>obtain⟨i1,i2⟩:=A5l l _ h.2 s;exact⟨congrArg (_:: ·) i1,congrArg (· +1) i2⟩
  |nv b t=>obtain⟨i1,i2⟩:=A5l l _ h.2 s.2;exact⟨congrArg (_:: ·) i1,congrArg (· +1) i2⟩
def C6S (N:Nat) (fn:Func) (ask rsk:Sk):Bool:=C1G 0 ask.tm&&B0m ask.bl&&(rsk.bl.all fun q=>Nat.blt q.1 10000)&&Nat.beq N (max fn.ntmps ask.tm.length)&& !(fn.name== "runtime.NumGoroutine")
def A7s {R:Type} (rsk:Sk) (dec:rsk.T→R) (st:St):Option R:=match rsk.dec st with
 |some s=>some (dec s)
 |none=>none
theorem E7v {P:Program} {E:D7} (hE:F0 P E) (hm:P.follows .mixedOrders=true) {es:Nat→List FE} (hes:∀k e,e∈es k→B5 P e) {N:Nat} {an:n9} {fn:Func} {c:Code} {f:Nat} {ask rsk:Sk} {R:Type} {enc:R→rsk.T} {dec:rsk.T→R} (hed:∀s,enc (dec s)=s) {rms:List RM} {tbl:List S3} (hf:P.funcs[f]?=some fn) (hb:fn.body=some c)
  (hs:C6S N fn ask rsk=true) (htb:K3 an [] c=tbl) (les:Nat→List (C9 R)) (h0:∀e,e∈les 0→∀s,e.l s=none)
  (hst:∀k (s:C5 ask.bl),A7j E (A4Q (es k)) N an (A0k (les k)) (B3n E fn.results.toList rms (U5 ask.bl s) (A7s rsk dec)) (les (k+1)) tbl)
  {F:Nat→ask.T→Option R} (heq:∀k s r,F k s=some r→B8U E (A4Q (es k)) an (A0k (les k)) N c fn.results.toList rms (ask.mk' s) (A7s rsk dec)=some r) (k:Nat):B5 P ⟨f,ask,rsk,R,F k,enc⟩:=by
 intro s o h v hv
 unfold C6S at hs
 simp only [Bool.and_eq_true,Bool.not_eq_true']at hs
 obtain⟨⟨⟨⟨s1,s2⟩,s3⟩,s4⟩,s5⟩:=hs
 obtain⟨n1,n2⟩:=A5l ask.tm 0 s1 s.1
 replace h:B8U E (A4Q (es k)) an (A0k (les k)) N c fn.results.toList rms (ask.mk' s) (A7s rsk dec)=some o:=heq k s o h
 have e1:ask.mk' s=⟨l5 0 ((P8 ask.tm s.1).map (·.2)),U5 ask.bl s.2⟩:=by
  unfold Sk.mk'
  rw [←n1]
 rw [e1]at h
 refine F5T (st1:=rsk.mk' (enc o)) (K:=A7s rsk dec) hE hm (D0w (es k) (hes k)) hf hb s5 ?_ (C2y _ s2 s.2) (fun w0 bl0 φ0 Q hKQ=>?_) h (fun st hst=>?_) (fun q hq=>?_) hv
 ·rw [List.length_map,n2];exact Nat.eq_of_beq_eq_true s4
 ·exact B7k c [] fun q hq=>E2F (Or.inl rfl) hE hm (fun k=>D0w (es k) (hes k)) hKQ htb h0 (fun k=>hst k _) k q (by rw [←htb];exact hq)
 ·unfold A7s at hst
  split at hst
  ·rename_i s' hs'
   cases hst
   rw [hed];exact Sk.dec_ok hs'
  ·cases hst
 ·have:q.1∈(U5 rsk.bl (enc o).2).map (·.1):=List.mem_map.2 ⟨q,hq,rfl⟩
  rw [B7V]at this
  obtain⟨q',h1,h2⟩:=List.mem_map.1 this
  rw [List.all_eq_true]at s3
  have:=s3 q' h1
  rw [Nat.blt_eq]at this
  rw [←h2];exact this
theorem E3Y {P:Program} {f:Nat} {t:Ty} {rsk:Sk} {R:Type} {enc:R→rsk.T} {F Fn Fm:(List t.T×Unit)×Unit→Option R} (hn:B5 P ⟨f,⟨[(0, .nv true t)],[]⟩,rsk,R,Fn,enc⟩) (hm:B5 P ⟨f,⟨[(0, .nv false t)],[]⟩,rsk,R,Fm,enc⟩)
  (hF:∀s r,F s=some r→Fm s=some r∧(s.1.1=[]→Fn s=some r)):B5 P ⟨f,⟨[(0, .d (.li t))],[]⟩,rsk,R,F,enc⟩:=by
 intro s o h v hv
 obtain⟨h1,h2⟩:=hF s o h
 have cm:=hm s o h1 v hv
 refine⟨cm.1,fun w0 bl0 φ0 vs hl hme hr=>?_⟩
 cases hr with
 |cons hr hnil=>
  have hr2:=hr
  obtain⟨ad,cap,rfl,q2,q3⟩:=A0N.1 hr2
  cases had:ad.isNone with
  |false=>exact cm.2 w0 bl0 φ0 _ hl hme (.cons ⟨hr,ad,_,cap,rfl,had⟩ hnil)
  |true=>
   have hx:s.1.1=[]:=by
    rcases q3 with q3| ⟨b,o',e,_⟩
    ·exact q3
    ·rw [e]at had;cases had
   exact(hn s o (h2 hx) v hv).2 w0 bl0 φ0 _ hl hme (.cons ⟨hr,ad,_,cap,rfl,had⟩ hnil)
structure FD where
 f:Nat
 fn:Func
 N:Nat
 an:n9
 ask:Sk
 rsk:Sk
 rms:List RM
 R:Type
 enc:R→rsk.T
 dec:rsk.T→R
def FD.cd (D:FD):Code:=(D.fn.body).getD .skip
def FD.fe (D:FD) (F:D.ask.T→Option D.R):FE:=⟨D.f,D.ask,D.rsk,D.R,F,D.enc⟩
def FD.tbl (D:FD):List S3:=K3 D.an [] D.cd
def FD.ev (D:FD) (E:D7) (es:List FE) (les:List (C9 D.R)) (s:D.ask.T):Option D.R:=B8U E (A4Q es) D.an (A0k les) D.N D.cd D.fn.results.toList D.rms (D.ask.mk' s) (A7s D.rsk D.dec)
def FD.kx (D:FD) (E:D7) (s0:C5 D.ask.bl):KX D.R:=B3n E D.fn.results.toList D.rms (U5 D.ask.bl s0) (A7s D.rsk D.dec)
def FD.pt (D:FD) (i:Nat):S3:=D.tbl.getD i ⟨0,[], .skip⟩
def FD.po (D:FD) (E:D7) (es:List FE) (les:List (C9 D.R)) (s0:C5 D.ask.bl) (i:Nat) (st:St):Option D.R:=B7M E (A4Q es) D.N D.an (A0k les) (D.kx E s0) (D.pt i) st
def FD.pts (D:FD):Nat→Nat→List S3
 |0,_=>[]
 |n+1,i=>D.pt i::D.pts n (i+1)
def FD.ok (D:FD) (n:Nat):Bool:=D.fn.body.isSome&&C6S D.N D.fn D.ask D.rsk&&Nat.beq D.tbl.length n
theorem FD.pts_eq (D:FD):∀(n i:Nat),i+n=D.tbl.length→D.pts n i=D.tbl.drop i
 |0,i,h=>by rw [List.drop_of_length_le (by omega)];rfl
 |n+1,i,h=>by
  have hi:i<D.tbl.length:=by omega
  rw [List.drop_eq_getElem_cons hi,←D.pts_eq n (i+1) (by omega)]
  show D.pt i::_=_
  unfold FD.pt
  rw [List.getD_eq_getElem?_getD,List.getElem?_eq_getElem hi];rfl
theorem B6 {P:Program} {E:D7} (hE:F0 P E) (hm:P.follows .mixedOrders=true) (D:FD) {es:Nat→List FE} (hes:∀k e,e∈es k→B5 P e) (hf:P.funcs[D.f]?=some D.fn) (n:Nat) (hs:D.ok n=true) (hed:∀s,D.enc (D.dec s)=s)
  (les:Nat→List (C9 D.R)) (h0:∀e,e∈les 0→∀s,e.l s=none) (hst:∀k s0,A7j E (A4Q (es k)) D.N D.an (A0k (les k)) (D.kx E s0) (les (k+1)) (D.pts n 0))
  {F:Nat→D.ask.T→Option D.R} (heq:∀k s r,F k s=some r→D.ev E (es k) (les k) s=some r) (k:Nat):B5 P (D.fe (F k)):=by
 unfold FD.ok at hs
 simp only [Bool.and_eq_true]at hs
 obtain⟨⟨h1,h2⟩,h3⟩:=hs
 have h3:=Nat.eq_of_beq_eq_true h3
 have hb:D.fn.body=some D.cd:=by
  unfold FD.cd
  cases hb:D.fn.body with
  |none=>rw [hb]at h1;cases h1
  |some c=>rfl
 have ht:D.pts n 0=D.tbl:=by rw [D.pts_eq n 0 (by omega)];rfl
 rw [ht]at hst
 exact E7v hE hm hes hed hf hb h2 rfl les h0 hst heq k
theorem fc {α:Type _} {p:α→Prop} {a:α} {l:List α} (h:p a∧∀x,x∈l→p x):∀x,x∈a::l→p x:=List.forall_mem_cons.2 h
theorem fz {α:Type _} {p:α→Prop}:∀x,x∈([]:List α)→p x:=List.forall_mem_nil _
theorem E4C {P:Program} {f:Nat} {fn:Func} {c:Code} (hf:P.funcs[f]?=some fn) (hname:(fn.name== "runtime.NumGoroutine")=false) (hb:fn.body=some c) {asx:List V} {r:V} {us:Bl} (h:Ct P f asx [] r us) {vs:List Value}
  {w:World} (hv:M9 w (fun _=> .fresh) (fun _=>⟨0,0,some 0⟩) asx vs) (hr:∀w bl φ v,C3 w bl φ r v→v= .bool true):Calls P f vs.toArray w fun e w'=>e= .returned (.bool true)∧Below w.heap.size w w':=by
 have hm:D3 w (S5 [] (fun _=>⟨0,0,some 0⟩)) (fun _=> .fresh) (fun _=>⟨0,0,some 0⟩) w:=
  ⟨fun n=>trivial,(fun n m h=>by obtain⟨_,_,_,e⟩:=h;cases e),(fun n t l tl _ h=>by cases h),M3.refl _ _⟩
 rcases h.2 w (fun _=> .fresh) (fun _=>⟨0,0,some 0⟩) vs (fun n _=>rfl) hm hv with⟨_,h1⟩| ⟨v,w',h1,_⟩
 ·refine h1.mono fun e w'=>?_
  rintro⟨v,rfl,φ',st,rv⟩
  have fr:=st.mem.fr
  refine⟨by rw [hr _ _ _ _ rv],fr.os,fr.tape,fr.output,fr.size,fun b hb=>fr.block b hb fun o h=>?_⟩
  obtain⟨n,t,l,tl,_,e,_⟩:=h
  cases e
 ·exfalso
  have e:(callFunc f vs.toArray).run P w= .ok (.enter f vs.toArray) w:=by simp only [callFunc,Sem.run_bind,run_program,Result.andThen_ok,hf,hname,hb,Option.isNone_some,Bool.false_eq_true,if_false,Sem.run_pure]
  rw [e]at h1;cases h1
abbrev At0 (w:World) (ty:Ty) (x:ty.T) (v:Value):Prop:=C3 w (fun _=> .fresh) (fun _=>⟨0,0,some 0⟩) (.a (.v ty x)) v
theorem C4X {w w':World} (h:Below w.heap.size w w'):M3 w w' (fun _ _=>False):=by
 have hb:∀b,b<w.heap.size→w'.heap[b]?=w.heap[b]?:=h.block
 have hc:∀b o,b<w.heap.size→w'.cell? ⟨b,o,none⟩=w.cell? ⟨b,o,none⟩:=fun b o hl=>by unfold World.cell?;rw [hb b hl]
 exact⟨h.os,h.tape,h.output,h.size,fun b hl _=>hb b hl,fun b o hl _=>hc b o hl,fun b o hs=>by
  have hl:b<w.heap.size:=by
   obtain⟨v,hv⟩:=Option.isSome_iff_exists.1 hs
   exact A7q hv
  rw [hc b o hl];exact hs,fun b o hl=>by unfold World.frozen?;rw [hb b hl]⟩
theorem C8y {w0 w w':World} {Bo:Nat→Nat→Prop} {bl:Nat→A9} {φ:Nat→Addr} (m:D3 w0 Bo bl φ w) (h:Below w.heap.size w w'):E3 w0 Bo bl φ w bl φ w':=
 A5L m (fun _=>False) (fun _ _=>⟨rfl,rfl⟩) (fun _ h=>h.elim) ((C4X h).ext (fun _ _ _ h=>h.elim) fun _ _ h=>h) (fun n _ hl hs o v hv=>((C4X h).cell _ _ (A7q hv) id).trans hv) (fun _ h=>h.elim) (fun _ _ h=>h.elim) (fun _ _ _ _ h=>h.elim) (m.fr.trans (C4X h) fun _ _ _ h=>h.elim)
section
variable {w:World} {bl:Nat→A9} {φ:Nat→Addr}
theorem F7F {v:Value} (h:C3 w bl φ (.a (.v .bo true)) v):v= .bool true:=by
 obtain⟨cs,h1,h2⟩:=h
 have h1:cs=[.bool true]:=h1
 subst h1
 have h2:[Value.bool true]=[v]:=h2
 cases h2;rfl
end
end Go.Proofs.YtijohnkgomcdbaaGreatE
set_option maxRecDepth 100000
namespace Go.Proofs.YtijohnkgomcdbaaGreatV
open Go Go.RowKit YtijohnkgomcdbaaGreatE YtijohnkgomcdbaaGreatW.PrintWords YtijohnkgomcdbaaGreatW.PrintLast YtijohnkgomcdbaaGreatW.PrintMore
noncomputable def E0:D7:=⟨[(3,(.it .i64)),(4, .bo),(5,(.it .u8)),(9, .st),(22,(.li tQ)),(23,(.li tQ)),(25,(.ag (.li tQ))),(26,(.li (.li tQ))),(27,(.li (.li tQ))),(40, .st),(42,(.ag (.pr .bo .st))),(44,tQ),(87,(.li (.li (.li tQ)))),(103,(.li (.it .i64))),(109,(.ar (.pr (.li (.li tQ)) (.li (.li tQ))))),(153,(.it .u64)),(179,(.it .u64)),(180,(.li (.it .u64))),(200,(.li (.it .u8)))],
 [(22,40),(23,40),(26,24),(27,24),(87,24),(103,8),(180,8),(200,1)],
 [(9,[.d (.ag (.li tQ)), .d (.li (.li tQ)), .d (.li tQ)]),(12,[.d (.ag (.li tQ)), .d (.li (.li (.li tQ)))]),(13,[.d (.ag (.li tQ))]),(14,[.d (.ag (.li tQ)), .d (.li (.li tQ))]),(15,[.d (.ag (.li tQ))]),(16,[]),(17,[.d (.ag (.li tQ)), .d (.li (.li tQ))]),(18,[.d (.li tQ), .d (.li tQ)]),(20,[.d (.li tQ), .d (.li tQ)]),(21,[.d tQ, .d (.it .i64)]),(22,[.d (.li (.it .i64))]),(23,[.d (.li (.li tQ)), .d (.li (.li tQ))]),(26,[.d (.ag (.li tQ)), .d (.li (.li tQ)), .d (.it .i64), .d (.it .i64)]),(28,[.d (.ag (.li tQ)), .d (.li (.li tQ)), .d (.li (.li tQ))]),(29,[.d (.li (.li tQ)), .d (.li (.li tQ))]),(30,[.d (.ag (.li tQ)), .d (.li (.li tQ)), .d (.li (.li tQ))]),(31,[.d (.ag (.li tQ)), .d (.li (.li tQ)), .d (.li (.li tQ))]),(34,[.d (.li (.it .i64))]),(38,[.d (.li (.li tQ)), .d (.it .i64), .d (.it .i64), .fn]),(44,[.d (.li (.li tQ))]),(45,[.d (.li tQ), .d (.li tQ)]),(48,[.d (.li tQ)]),(49,[.d (.ag (.li tQ)), .d (.li tQ)]),(50,[.d (.ag (.li tQ)), .d (.li (.li tQ)), .d (.li tQ)]),(51,[.d (.li tQ), .d (.li tQ)]),(52,[.d (.ag (.li tQ)), .d (.li (.li tQ)), .d (.li tQ)]),(54,[.d (.ag (.li tQ)), .d (.li tQ)]),(55,[.d (.ag (.li tQ)), .d (.li tQ)]),(56,[.d (.ag (.li tQ)), .d (.li (.li tQ)), .d (.li tQ)]),(57,[]),(58,[.d (.ag (.li tQ)), .d (.li (.li tQ)), .d (.li tQ)]),(59,[]),(60,[.d (.ag (.li tQ)), .d (.li (.li tQ)), .d (.li tQ)]),(61,[.d (.ag (.li tQ)), .d (.li (.li tQ)), .d (.li tQ)]),(62,[.d (.li tQ)]),(69,[.d (.li tQ)]),(70,[.d (.li tQ), .d (.it .i64)]),(79,[.d (.ag (.li tQ)), .d (.it .i64)]),(80,[.d (.li tQ)]),(81,[.d (.it .i64)]),(82,[.d tQ]),(83,[.d (.ag (.li tQ)), .d (.li (.li (.li tQ)))]),(84,[.d (.li tQ), .d (.li tQ)]),(85,[.d (.ag (.li tQ)), .d (.li (.li tQ)), .d (.li tQ)]),(86,[.d (.li (.it .i64))]),(87,[.d tQ, .d tQ]),(88,[.d tQ, .d tQ]),(89,[.d (.it .i64)]),(90,[.d (.li tQ), .d (.li tQ)]),(91,[.d (.li tQ), .d (.li tQ)]),(92,[.d (.li tQ)]),(93,[.d (.li tQ)]),(98,[.d (.li tQ), .d tQ]),(99,[.d tQ, .d tQ]),(101,[.d tQ, .d tQ]),(102,[.d (.li tQ), .d (.it .i64)]),(103,[.d (.li (.li tQ)), .d (.it .i64)]),(104,[.d (.li (.li tQ))]),(106,[.d (.li tQ), .d (.li tQ)]),(107,[.d (.ag (.li tQ)), .d (.li (.li tQ)), .d (.li (.li tQ)), .d (.li tQ)]),(108,[.d (.li (.li tQ))]),(109,[.d (.ag (.li tQ)), .d (.li tQ)]),(110,[.d (.ag (.li tQ)), .d (.li (.li tQ))]),(111,[.fn]),(112,[]),(116,[.d (.ag (.li tQ)), .d (.li tQ), .d (.li tQ)]),(117,[.d (.li tQ)]),(118,[.d tQ, .d tQ]),(119,[.d (.ag (.li tQ))]),(120,[.d (.li tQ)]),(122,[.d (.li (.li tQ))]),(123,[.d tQ]),(124,[.d (.ag (.li tQ)), .d (.li tQ)]),(125,[]),(126,[.d (.li (.li tQ)), .d (.li (.li tQ))]),(127,[.d (.ag (.li tQ)), .d (.li (.li tQ)), .d (.li (.li tQ))]),(128,[.d (.li (.li tQ))]),(130,[]),(131,[.d (.ag (.li tQ)), .d (.li (.li tQ)), .d (.li tQ)]),(135,[.d tQ]),(137,[.d (.li tQ), .d tQ]),(138,[.d (.ag (.li tQ)), .d (.li (.li tQ))]),(141,[.d (.it .i64)]),(142,[.d tQ, .d tQ]),(143,[.d tQ, .d (.it .i64)]),(144,[.d (.li tQ), .d (.li tQ)]),(145,[.d tQ]),(146,[.d (.li tQ), .d (.li tQ), .d (.li tQ)]),(147,[.d tQ]),(148,[.d tQ, .d tQ]),(149,[.d (.ag (.pr .bo .st))]),(150,[.d (.it .i64)]),(151,[.d (.li tQ), .d (.it .i64)]),(152,[.d tQ]),(153,[.d (.li tQ), .fn]),(154,[.d tQ]),(157,[.d tQ]),(159,[.d (.ag (.pr .bo .st))]),(160,[.d (.ag (.pr .bo .st)), .d (.ag (.pr .bo .st))]),(161,[.d (.ag (.pr .bo .st)), .d (.ag (.pr .bo .st))]),(162,[.d tQ]),(163,[.d (.ag (.pr .bo .st)), .d (.ag (.pr .bo .st))]),(165,[.d (.li tQ), .d (.li tQ)]),(166,[.d (.li tQ), .d (.li tQ)]),(167,[.d (.li tQ), .d (.li tQ)]),(170,[.d tQ]),(171,[.d tQ]),(172,[.d tQ]),(173,[.d (.ag (.pr .bo .st))]),(174,[.d (.li (.li tQ)), .d (.it .i64)]),(175,[.d (.li (.li tQ)), .fn]),(176,[.d (.li tQ)]),(177,[.d (.ag (.pr .bo .st))]),(178,[.d .st]),(179,[.d tQ]),(180,[.d .st, .d .st]),(183,[.d (.it .u64)]),(184,[.d (.ag (.pr .bo .st)), .d (.ag (.pr .bo .st))]),(185,[.d (.ag (.pr .bo .st)), .d (.ag (.pr .bo .st))]),(186,[.d .st, .d .st]),(187,[.d (.ag (.pr .bo .st)), .d (.it .i64)]),(188,[.d .st, .d (.it .i64)]),(189,[.d (.li tQ)]),(190,[.d (.ag (.pr .bo .st))]),(191,[.d (.ag (.pr .bo .st)), .d (.ag (.pr .bo .st))]),(192,[.d .bo, .d .st]),(193,[.d (.it .u64)]),(194,[.d (.li tQ), .fn]),(198,[.d .bo, .d .st]),(199,[.d .st, .d .st]),(200,[.d .st, .d .st]),(201,[.d .st, .d .st]),(202,[.d .st, .d .st]),(203,[.d .st, .d .st]),(210,[.d (.li tQ), .d (.li tQ)]),(213,[.d (.ag (.pr .bo .st))]),(214,[.d .st]),(215,[.d .st, .d .st]),(216,[.d (.li (.li tQ)), .fn]),(217,[.d (.ag (.pr .bo .st))]),(218,[.d .st]),(221,[.d (.li (.it .u64))]),(222,[.d .st, .d .st]),(223,[.d (.li (.it .u64))]),(224,[.d (.li (.it .u64)), .d (.li (.it .u64))]),(225,[.d .st]),(226,[.d .st, .d .st]),(227,[.d .st, .d .st]),(228,[.d .st, .d .st]),(229,[.d .st]),(230,[.bor, .d (.li (.it .u64))]),(243,[]),(244,[.d (.li (.it .u64)), .d (.li (.it .u64))]),(245,[.bor]),(246,[.d (.it .u64), .d (.it .u64)]),(247,[.d (.it .u64), .d (.it .u64), .d (.it .u64)]),(248,[.d (.it .u64), .d (.it .u64), .d (.it .u64)]),(249,[.bor]),(276,[.d (.li (.it .u64)), .d (.li (.it .u64))]),(277,[.d (.it .u64), .d (.it .u64), .d (.it .u64)]),(278,[.d (.it .u64)]),(279,[.d (.li (.it .u64)), .d (.it .i64)]),(280,[.bor, .d (.li (.it .u64))]),(297,[.d (.it .u64)])],
 [(9,[.d .bo]),(12,[.d .bo]),(13,[.d (.it .i64)]),(14,[.d (.it .i64)]),(15,[.d (.it .i64)]),(16,[.d .bo]),(17,[.d (.li tQ), .d (.it .i64)]),(18,[.d .bo]),(20,[.d (.li tQ)]),(21,[.d (.li tQ)]),(22,[.d (.li tQ)]),(23,[.d (.li (.li tQ))]),(26,[.d .bo]),(28,[.d (.li (.li tQ)), .d (.li (.li tQ)), .d (.it .i64)]),(29,[.d .bo]),(30,[.d (.li (.li tQ))]),(31,[.d (.li (.li tQ)), .d (.it .i64)]),(34,[.d (.it .i64)]),(38,[.d .bo]),(44,[.d (.it .i64)]),(45,[.d (.li tQ)]),(48,[.d (.li tQ)]),(49,[.d .bo]),(50,[.d (.li (.li tQ)), .d (.it .i64)]),(51,[.d (.li tQ)]),(52,[.d (.li tQ), .d (.it .i64)]),(54,[.d .bo]),(55,[.d (.it .i64)]),(56,[.d (.li (.li tQ)), .d (.it .i64)]),(57,[.d (.li (.li tQ))]),(58,[.d (.li (.li tQ))]),(59,[.d (.li (.li tQ))]),(60,[.d (.li (.li tQ))]),(61,[.d (.li tQ)]),(62,[.d (.it .i64)]),(69,[.d (.it .i64)]),(70,[.d .bo]),(79,[.d .bo]),(80,[.d tQ]),(81,[.d tQ]),(82,[.d .bo]),(83,[.d (.it .i64)]),(84,[.d tQ]),(85,[.d (.li tQ)]),(86,[.d (.li tQ)]),(87,[.d tQ]),(88,[.d tQ]),(89,[.d tQ]),(90,[.d (.li tQ)]),(91,[.d (.li tQ)]),(92,[.d (.li tQ)]),(93,[.d .bo]),(98,[.d (.li tQ)]),(99,[.d tQ]),(101,[.d tQ]),(102,[.d tQ]),(103,[.d (.li tQ)]),(104,[.d (.li (.li tQ))]),(106,[.d (.li tQ), .d .bo]),(107,[.d (.li (.li tQ)), .d (.li (.li tQ))]),(108,[.d .bo]),(109,[.d (.li tQ)]),(110,[.d (.li (.li tQ)), .d .bo]),(111,[.d (.li (.li tQ)), .d (.it .i64)]),(112,[.d (.li (.li tQ))]),(116,[.d (.li tQ)]),(117,[.d (.it .i64)]),(118,[.d tQ]),(119,[.d (.it .i64)]),(120,[.d (.it .i64)]),(122,[.d (.li (.li tQ))]),(123,[.d (.it .i64)]),(124,[.d (.it .i64)]),(125,[.d (.li (.li tQ))]),(126,[.d (.li (.li tQ))]),(127,[.d (.li (.li tQ))]),(128,[.d .bo]),(130,[.d (.li (.li tQ))]),(131,[.d (.li (.li tQ))]),(135,[.d (.it .i64)]),(137,[.d (.li tQ)]),(138,[.d (.it .i64)]),(141,[.d (.ag (.pr .bo .st))]),(142,[.d tQ]),(143,[.d tQ]),(144,[.d (.li tQ), .d (.li tQ)]),(145,[.d tQ]),(146,[.d (.li tQ)]),(147,[.d tQ]),(148,[.d tQ]),(149,[.d tQ]),(150,[.d (.ag (.pr .bo .st))]),(151,[.d tQ]),(152,[.d .bo]),(153,[.d .bo]),(154,[.d .bo]),(157,[.d tQ]),(159,[.d tQ]),(160,[.d (.ag (.pr .bo .st))]),(161,[.d (.ag (.pr .bo .st))]),(162,[.d (.ag (.pr .bo .st))]),(163,[.d tQ]),(165,[.d (.li tQ)]),(166,[.d (.li tQ)]),(167,[.d (.li tQ)]),(170,[.d .bo]),(171,[.d .bo]),(172,[.d (.it .i64)]),(173,[.d (.it .i64)]),(174,[.d (.li tQ)]),(175,[.d .bo]),(176,[.d .bo]),(177,[.d .bo]),(178,[.d .bo]),(179,[.d (.it .i64)]),(180,[.d .st]),(183,[.d .st]),(184,[.d (.ag (.pr .bo .st))]),(185,[.d tQ]),(186,[.d .st]),(187,[.d (.ag (.pr .bo .st))]),(188,[.d .st]),(189,[.own tQ]),(190,[.d (.ag (.pr .bo .st))]),(191,[.d (.ag (.pr .bo .st))]),(192,[.d (.ag (.pr .bo .st))]),(193,[.d .st]),(194,[.d (.it .i64)]),(198,[.d (.ag (.pr .bo .st))]),(199,[.d .st]),(200,[.d (.it .i64)]),(201,[.d .st]),(202,[.d .st]),(203,[.d .st, .d .st]),(210,[.d (.li tQ), .d (.li tQ)]),(213,[.d (.it .i64)]),(214,[.d (.it .i64)]),(215,[.d .st]),(216,[.d (.it .i64)]),(217,[.d (.it .i64)]),(218,[.d (.it .i64)]),(221,[.d .st]),(222,[.d .st, .d .st]),(223,[.d .st]),(224,[.d (.li (.it .u64))]),(225,[.own (.it .u64)]),(226,[.d .st]),(227,[.d (.it .i64)]),(228,[.d .st]),(229,[.own (.it .u64)]),(230,[.d .bo]),(243,[.d (.ag (.pr .bo .st))]),(244,[.d (.li (.it .u64)), .d (.li (.it .u64))]),(245,[.sh]),(246,[.d (.it .u64), .d (.it .u64)]),(247,[.d (.it .u64), .d (.it .u64)]),(248,[.d (.it .u64), .d (.it .u64)]),(249,[.sh]),(276,[.d (.it .i64)]),(277,[.d (.it .u64), .d (.it .u64)]),(278,[.d (.it .i64)]),(279,[.own (.it .u64)]),(280,[.d (.it .u64)]),(297,[.d (.it .i64)])],
 [],[],[]⟩
abbrev R9:Type:=Bool
noncomputable def D9:FD:=⟨9,Tryz.f9,110,⟨[],[],[]⟩,⟨[(0, .d (.ag (.li tQ))),(1, .d (.li (.li tQ))),(2, .d (.li tQ))],[]⟩,⟨[(0, .d .bo)],[]⟩,[.d .bo],R9,fun o=>((o,()),()),fun s=>s.1.1⟩
noncomputable def fe9 (F:TP→TF→TP→Option R9):FE:=D9.fe fun s=>F s.1.1 s.1.2.1 s.1.2.2.1
abbrev R12:Type:=Bool
noncomputable def D12:FD:=⟨12,Tryz.f12,30,⟨[(4,[(2, .any),(10, .any),(11, .any),(12, .any)])],[],[]⟩,⟨[(0, .d (.ag (.li tQ))),(1, .d (.li (.li (.li tQ))))],[]⟩,⟨[(0, .d .bo)],[]⟩,[.d .bo],R12,fun o=>((o,()),()),fun s=>s.1.1⟩
noncomputable def D3b (F:TP→(List TF)→Option R12):FE:=D12.fe fun s=>F s.1.1 s.1.2.1
abbrev T9:Type:=Int
noncomputable def D13:FD:=⟨13,Tryz.f13,37,⟨[(7,[(1, .any),(24, .any),(25, .any),(26, .any)])],[],[]⟩,⟨[(0, .d (.ag (.li tQ)))],[]⟩,⟨[(0, .d (.it .i64))],[]⟩,[.d (.it .i64)],T9,fun o=>((o,()),()),fun s=>s.1.1⟩
noncomputable def A7g (F:TP→Option T9):FE:=D13.fe fun s=>F s.1.1
abbrev v6:Type:=Int
noncomputable def D14:FD:=⟨14,Tryz.f14,42,⟨[(7,[(1, .any),(2, .any),(16, .any),(17, .any),(18, .any)])],[],[]⟩,⟨[(0, .d (.ag (.li tQ))),(1, .d (.li (.li tQ)))],[]⟩,⟨[(0, .d (.it .i64))],[]⟩,[.d (.it .i64)],v6,fun o=>((o,()),()),fun s=>s.1.1⟩
noncomputable def B6u (F:TP→TF→Option v6):FE:=D14.fe fun s=>F s.1.1 s.1.2.1
abbrev R15:Type:=Int
noncomputable def D15:FD:=⟨15,Tryz.f15,7,⟨[],[],[]⟩,⟨[(0, .d (.ag (.li tQ)))],[]⟩,⟨[(0, .d (.it .i64))],[]⟩,[.d (.it .i64)],R15,fun o=>((o,()),()),fun s=>s.1.1⟩
noncomputable def B8X (F:TP→Option R15):FE:=D15.fe fun s=>F s.1.1
abbrev R16:Type:=Bool
noncomputable def D16:FD:=⟨16,Tryz.f16,146,⟨[],[],[]⟩,⟨[],[]⟩,⟨[(0, .d .bo)],[]⟩,[.d .bo],R16,fun o=>((o,()),()),fun s=>s.1.1⟩
noncomputable def D4Z (F:Option R16):FE:=D16.fe fun s=>F
abbrev R6:Type:=(TP×Int)
noncomputable def D17:FD:=⟨17,Tryz.f17,103,⟨[(11,[(1, .any),(2, .any),(7, .any),(8, .any),(38, .any),(39, .any)]),(16,[(7, .any),(8, .any),(10, .any)]),(19,[(7, .any),(8, .any),(10, .any),(11, .any)]),(24,[(8, .any),(12, .val (.li tQ)),(13, .any)])],[],[]⟩,⟨[(0, .d (.ag (.li tQ))),(1, .d (.li (.li tQ)))],[]⟩,⟨[(0, .d (.li tQ)),(1, .d (.it .i64))],[]⟩,[.d (.li tQ), .d (.it .i64)],R6,fun o=>((o.1,o.2,()),()),fun s=>(s.1.1,s.1.2.1)⟩
noncomputable def D8A (F:TP→TF→Option R6):FE:=D17.fe fun s=>F s.1.1 s.1.2.1
abbrev s8:Type:=Bool
noncomputable def D18:FD:=⟨18,Tryz.f18,26,⟨[(4,[(0, .any),(1, .any),(12, .any),(13, .any)])],[],[]⟩,⟨[(0, .d (.li tQ)),(1, .d (.li tQ))],[]⟩,⟨[(0, .d .bo)],[]⟩,[.d .bo],s8,fun o=>((o,()),()),fun s=>s.1.1⟩
noncomputable def C0t (F:TP→TP→Option s8):FE:=D18.fe fun s=>F s.1.1 s.1.2.1
abbrev Y0:Type:=TP
noncomputable def D20:FD:=⟨20,Tryz.f20,28,⟨[(3,[(0, .any),(1, .any),(5, .own tQ),(6, .any)])],[],[]⟩,⟨[(0, .d (.li tQ)),(1, .d (.li tQ))],[]⟩,⟨[(0, .d (.li tQ))],[]⟩,[.d (.li tQ)],Y0,fun o=>((o,()),()),fun s=>s.1.1⟩
noncomputable def B3A (F:TP→TP→Option Y0):FE:=D20.fe fun s=>F s.1.1 s.1.2.1
abbrev R21:Type:=TP
noncomputable def D21:FD:=⟨21,Tryz.f21,21,⟨[(3,[(1, .any),(2, .any),(5, .own tQ),(6, .any)])],[],[]⟩,⟨[(0, .d tQ),(1, .d (.it .i64))],[]⟩,⟨[(0, .d (.li tQ))],[]⟩,[.d (.li tQ)],R21,fun o=>((o,()),()),fun s=>s.1.1⟩
noncomputable def D5b (F:TQ→Int→Option R21):FE:=D21.fe fun s=>F s.1.1 s.1.2.1
abbrev R22:Type:=TP
noncomputable def D22:FD:=⟨22,Tryz.f22,20,⟨[(3,[(3, .own tQ),(6, .any),(7, .any),(8, .any)])],[],[]⟩,⟨[(0, .d (.li (.it .i64)))],[]⟩,⟨[(0, .d (.li tQ))],[]⟩,[.d (.li tQ)],R22,fun o=>((o,()),()),fun s=>s.1.1⟩
noncomputable def C8z (F:(List Int)→Option R22):FE:=D22.fe fun s=>F s.1.1
abbrev R23:Type:=TF
noncomputable def D23:FD:=⟨23,Tryz.f23,28,⟨[(3,[(0, .any),(1, .any),(5, .own (.li tQ)),(6, .any)])],[],[]⟩,⟨[(0, .d (.li (.li tQ))),(1, .d (.li (.li tQ)))],[]⟩,⟨[(0, .d (.li (.li tQ)))],[]⟩,[.d (.li (.li tQ))],R23,fun o=>((o,()),()),fun s=>s.1.1⟩
noncomputable def D2w (F:TF→TF→Option R23):FE:=D23.fe fun s=>F s.1.1 s.1.2.1
abbrev R26:Type:=Bool
noncomputable def D26:FD:=⟨26,Tryz.f26,39,⟨[(4,[(4, .any),(28, .any),(29, .any),(30, .any)])],[],[]⟩,⟨[(0, .d (.ag (.li tQ))),(1, .d (.li (.li tQ))),(2, .d (.it .i64)),(3, .d (.it .i64))],[]⟩,⟨[(0, .d .bo)],[]⟩,[.d .bo],R26,fun o=>((o,()),()),fun s=>s.1.1⟩
noncomputable def D7A (F:TP→TF→Int→Int→Option R26):FE:=D26.fe fun s=>F s.1.1 s.1.2.1 s.1.2.2.1 s.1.2.2.2.1
abbrev R28:Type:=(TF×TF×Int)
noncomputable def D28:FD:=⟨28,Tryz.f28,55,⟨[],[],[]⟩,⟨[(0, .d (.ag (.li tQ))),(1, .d (.li (.li tQ))),(2, .d (.li (.li tQ)))],[]⟩,⟨[(0, .d (.li (.li tQ))),(1, .d (.li (.li tQ))),(2, .d (.it .i64))],[]⟩,[.d (.li (.li tQ)), .d (.li (.li tQ)), .d (.it .i64)],R28,fun o=>((o.1,o.2.1,o.2.2,()),()),fun s=>(s.1.1,s.1.2.1,s.1.2.2.1)⟩
noncomputable def D5y (F:TP→TF→TF→Option R28):FE:=D28.fe fun s=>F s.1.1 s.1.2.1 s.1.2.2.1
abbrev t3:Type:=Bool
noncomputable def D29:FD:=⟨29,Tryz.f29,27,⟨[(4,[(0, .any),(1, .any),(12, .any),(13, .any)])],[],[]⟩,⟨[(0, .d (.li (.li tQ))),(1, .d (.li (.li tQ)))],[]⟩,⟨[(0, .d .bo)],[]⟩,[.d .bo],t3,fun o=>((o,()),()),fun s=>s.1.1⟩
noncomputable def C0i (F:TF→TF→Option t3):FE:=D29.fe fun s=>F s.1.1 s.1.2.1
abbrev t6:Type:=TF
noncomputable def D30:FD:=⟨30,Tryz.f30,60,⟨[(3,[(1, .any),(2, .any),(3, .any),(7, .own (.li tQ)),(8, .any)]),(7,[(1, .any),(2, .any),(3, .any),(7, .any),(8, .any),(9, .val (.li tQ)),(22, .any),(23, .any)])],[],[]⟩,⟨[(0, .d (.ag (.li tQ))),(1, .d (.li (.li tQ))),(2, .d (.li (.li tQ)))],[]⟩,⟨[(0, .d (.li (.li tQ)))],[]⟩,[.d (.li (.li tQ))],t6,fun o=>((o,()),()),fun s=>s.1.1⟩
noncomputable def D2l (F:TP→TF→TF→Option t6):FE:=D30.fe fun s=>F s.1.1 s.1.2.1 s.1.2.2.1
abbrev R31:Type:=(TF×Int)
noncomputable def D31:FD:=⟨31,Tryz.f31,66,⟨[(5,[(3, .any),(9, .any)])],[],[]⟩,⟨[(0, .d (.ag (.li tQ))),(1, .d (.li (.li tQ))),(2, .d (.li (.li tQ)))],[]⟩,⟨[(0, .d (.li (.li tQ))),(1, .d (.it .i64))],[]⟩,[.d (.li (.li tQ)), .d (.it .i64)],R31,fun o=>((o.1,o.2,()),()),fun s=>(s.1.1,s.1.2.1)⟩
noncomputable def D1Y (F:TP→TF→TF→Option R31):FE:=D31.fe fun s=>F s.1.1 s.1.2.1 s.1.2.2.1
abbrev R34:Type:=Int
noncomputable def D34:FD:=⟨34,Tryz.f34,15,⟨[(2,[(5, .any),(6, .any),(7, .any)])],[],[]⟩,⟨[(0, .d (.li (.it .i64)))],[]⟩,⟨[(0, .d (.it .i64))],[]⟩,[.d (.it .i64)],R34,fun o=>((o,()),()),fun s=>s.1.1⟩
noncomputable def D6L (F:(List Int)→Option R34):FE:=D34.fe fun s=>F s.1.1
abbrev B0X:Type:=Bool
noncomputable def B8O:FD:=⟨38,Tryz.f38,41,⟨[],[],[]⟩,⟨[(0, .d (.li (.li tQ))),(1, .d (.it .i64)),(2, .d (.it .i64)),(3, .cl 57 [(.ag (.li tQ)),(.li (.li tQ)),(.li tQ)])],[]⟩,⟨[(0, .d .bo)],[]⟩,[.d .bo],B0X,fun o=>((o,()),()),fun s=>s.1.1⟩
noncomputable def D2I (F:TF→Int→Int→(TP×TF×TP×Unit)→Option B0X):FE:=B8O.fe fun s=>F s.1.1 s.1.2.1 s.1.2.2.1 s.1.2.2.2.1
abbrev B2V:Type:=Bool
noncomputable def C0E:FD:=⟨38,Tryz.f38,41,⟨[],[],[]⟩,⟨[(0, .d (.li (.li tQ))),(1, .d (.it .i64)),(2, .d (.it .i64)),(3, .cl 59 [(.ag (.li tQ)),(.li (.li tQ)),(.li tQ)])],[]⟩,⟨[(0, .d .bo)],[]⟩,[.d .bo],B2V,fun o=>((o,()),()),fun s=>s.1.1⟩
noncomputable def D9Z (F:TF→Int→Int→(TP×TF×TP×Unit)→Option B2V):FE:=C0E.fe fun s=>F s.1.1 s.1.2.1 s.1.2.2.1 s.1.2.2.2.1
abbrev R44:Type:=Int
noncomputable def D44:FD:=⟨44,Tryz.f44,21,⟨[(4,[(9, .any),(10, .any),(11, .any)])],[],[]⟩,⟨[(0, .d (.li (.li tQ)))],[]⟩,⟨[(0, .d (.it .i64))],[]⟩,[.d (.it .i64)],R44,fun o=>((o,()),()),fun s=>s.1.1⟩
noncomputable def C6p (F:TF→Option R44):FE:=D44.fe fun s=>F s.1.1
abbrev Y3:Type:=TP
noncomputable def D45:FD:=⟨45,Tryz.f45,57,⟨[(3,[(0, .any),(1, .any),(5, .own tQ),(6, .any)]),(7,[(0, .any),(1, .any),(5, .any),(6, .any),(7, .any),(21, .any),(22, .any)])],[],[]⟩,⟨[(0, .d (.li tQ)),(1, .d (.li tQ))],[]⟩,⟨[(0, .d (.li tQ))],[]⟩,[.d (.li tQ)],Y3,fun o=>((o,()),()),fun s=>s.1.1⟩
noncomputable def B9B (F:TP→TP→Option Y3):FE:=D45.fe fun s=>F s.1.1 s.1.2.1
abbrev V8:Type:=TP
noncomputable def D48:FD:=⟨48,Tryz.f48,24,⟨[(2,[(0, .any),(3, .any)])],[],[]⟩,⟨[(0, .d (.li tQ))],[]⟩,⟨[(0, .d (.li tQ))],[]⟩,[.d (.li tQ)],V8,fun o=>((o,()),()),fun s=>s.1.1⟩
noncomputable def A8U (F:TP→Option V8):FE:=D48.fe fun s=>F s.1.1
abbrev R49:Type:=Bool
noncomputable def D49:FD:=⟨49,Tryz.f49,21,⟨[],[],[]⟩,⟨[(0, .d (.ag (.li tQ))),(1, .d (.li tQ))],[]⟩,⟨[(0, .d .bo)],[]⟩,[.d .bo],R49,fun o=>((o,()),()),fun s=>s.1.1⟩
noncomputable def C8f (F:TP→TP→Option R49):FE:=D49.fe fun s=>F s.1.1 s.1.2.1
abbrev R50:Type:=(TF×Int)
noncomputable def D50:FD:=⟨50,Tryz.f50,27,⟨[],[],[]⟩,⟨[(0, .d (.ag (.li tQ))),(1, .d (.li (.li tQ))),(2, .d (.li tQ))],[]⟩,⟨[(0, .d (.li (.li tQ))),(1, .d (.it .i64))],[]⟩,[.d (.li (.li tQ)), .d (.it .i64)],R50,fun o=>((o.1,o.2,()),()),fun s=>(s.1.1,s.1.2.1)⟩
noncomputable def D0o (F:TP→TF→TP→Option R50):FE:=D50.fe fun s=>F s.1.1 s.1.2.1 s.1.2.2.1
abbrev R51:Type:=TP
noncomputable def D51:FD:=⟨51,Tryz.f51,10,⟨[],[],[]⟩,⟨[(0, .d (.li tQ)),(1, .d (.li tQ))],[]⟩,⟨[(0, .d (.li tQ))],[]⟩,[.d (.li tQ)],R51,fun o=>((o,()),()),fun s=>s.1.1⟩
noncomputable def D8r (F:TP→TP→Option R51):FE:=D51.fe fun s=>F s.1.1 s.1.2.1
abbrev R52:Type:=(TP×Int)
noncomputable def D52:FD:=⟨52,Tryz.f52,32,⟨[],[],[]⟩,⟨[(0, .d (.ag (.li tQ))),(1, .d (.li (.li tQ))),(2, .d (.li tQ))],[]⟩,⟨[(0, .d (.li tQ)),(1, .d (.it .i64))],[]⟩,[.d (.li tQ), .d (.it .i64)],R52,fun o=>((o.1,o.2,()),()),fun s=>(s.1.1,s.1.2.1)⟩
noncomputable def D6Z (F:TP→TF→TP→Option R52):FE:=D52.fe fun s=>F s.1.1 s.1.2.1 s.1.2.2.1
abbrev R54:Type:=Bool
noncomputable def D54:FD:=⟨54,Tryz.f54,20,⟨[],[],[]⟩,⟨[(0, .d (.ag (.li tQ))),(1, .d (.li tQ))],[]⟩,⟨[(0, .d .bo)],[]⟩,[.d .bo],R54,fun o=>((o,()),()),fun s=>s.1.1⟩
noncomputable def D7z (F:TP→TP→Option R54):FE:=D54.fe fun s=>F s.1.1 s.1.2.1
abbrev R55:Type:=Int
noncomputable def D55:FD:=⟨55,Tryz.f55,23,⟨[],[],[]⟩,⟨[(0, .d (.ag (.li tQ))),(1, .d (.li tQ))],[]⟩,⟨[(0, .d (.it .i64))],[]⟩,[.d (.it .i64)],R55,fun o=>((o,()),()),fun s=>s.1.1⟩
noncomputable def B6a (F:TP→TP→Option R55):FE:=D55.fe fun s=>F s.1.1 s.1.2.1
abbrev R56:Type:=(TF×Int)
noncomputable def D56:FD:=⟨56,Tryz.f56,27,⟨[],[],[]⟩,⟨[(0, .d (.ag (.li tQ))),(1, .d (.li (.li tQ))),(2, .d (.li tQ))],[]⟩,⟨[(0, .d (.li (.li tQ))),(1, .d (.it .i64))],[]⟩,[.d (.li (.li tQ)), .d (.it .i64)],R56,fun o=>((o.1,o.2,()),()),fun s=>(s.1.1,s.1.2.1)⟩
noncomputable def D2F (F:TP→TF→TP→Option R56):FE:=D56.fe fun s=>F s.1.1 s.1.2.1 s.1.2.2.1
abbrev R57:Type:=TF
noncomputable def D57:FD:=⟨57,Tryz.f57,8,⟨[],[],[]⟩,⟨[(0, .pv (.ag (.li tQ))),(1, .pv (.li (.li tQ))),(2, .pv (.li tQ))],[]⟩,⟨[(0, .d (.li (.li tQ)))],[]⟩,[.d (.li (.li tQ))],R57,fun o=>((o,()),()),fun s=>s.1.1⟩
noncomputable def D8a (F:TP→TF→TP→Option R57):FE:=D57.fe fun s=>F s.1.1 s.1.2.1 s.1.2.2.1
abbrev R58:Type:=TF
noncomputable def D58:FD:=⟨58,Tryz.f58,34,⟨[(3,[(1, .any),(2, .any),(3, .any),(7, .val (.li (.li tQ))),(8, .any)])],[],[]⟩,⟨[(0, .d (.ag (.li tQ))),(1, .d (.li (.li tQ))),(2, .d (.li tQ))],[]⟩,⟨[(0, .d (.li (.li tQ)))],[]⟩,[.d (.li (.li tQ))],R58,fun o=>((o,()),()),fun s=>s.1.1⟩
noncomputable def D2G (F:TP→TF→TP→Option R58):FE:=D58.fe fun s=>F s.1.1 s.1.2.1 s.1.2.2.1
abbrev R59:Type:=TF
noncomputable def D59:FD:=⟨59,Tryz.f59,8,⟨[],[],[]⟩,⟨[(0, .pv (.ag (.li tQ))),(1, .pv (.li (.li tQ))),(2, .pv (.li tQ))],[]⟩,⟨[(0, .d (.li (.li tQ)))],[]⟩,[.d (.li (.li tQ))],R59,fun o=>((o,()),()),fun s=>s.1.1⟩
noncomputable def D5n (F:TP→TF→TP→Option R59):FE:=D59.fe fun s=>F s.1.1 s.1.2.1 s.1.2.2.1
abbrev R60:Type:=TF
noncomputable def D60:FD:=⟨60,Tryz.f60,26,⟨[(3,[(2, .any),(3, .any),(7, .own (.li tQ)),(10, .any),(11, .any),(12, .any)])],[],[]⟩,⟨[(0, .d (.ag (.li tQ))),(1, .d (.li (.li tQ))),(2, .d (.li tQ))],[]⟩,⟨[(0, .d (.li (.li tQ)))],[]⟩,[.d (.li (.li tQ))],R60,fun o=>((o,()),()),fun s=>s.1.1⟩
noncomputable def D9M (F:TP→TF→TP→Option R60):FE:=D60.fe fun s=>F s.1.1 s.1.2.1 s.1.2.2.1
abbrev R61:Type:=TP
noncomputable def D61:FD:=⟨61,Tryz.f61,26,⟨[(3,[(1, .any),(2, .any),(3, .any),(7, .val (.li tQ)),(8, .any)])],[],[]⟩,⟨[(0, .d (.ag (.li tQ))),(1, .d (.li (.li tQ))),(2, .d (.li tQ))],[]⟩,⟨[(0, .d (.li tQ))],[]⟩,[.d (.li tQ)],R61,fun o=>((o,()),()),fun s=>s.1.1⟩
noncomputable def D7L (F:TP→TF→TP→Option R61):FE:=D61.fe fun s=>F s.1.1 s.1.2.1 s.1.2.2.1
abbrev R62:Type:=Int
noncomputable def D62:FD:=⟨62,Tryz.f62,8,⟨[],[],[]⟩,⟨[(0, .d (.li tQ))],[]⟩,⟨[(0, .d (.it .i64))],[]⟩,[.d (.it .i64)],R62,fun o=>((o,()),()),fun s=>s.1.1⟩
noncomputable def D8M (F:TP→Option R62):FE:=D62.fe fun s=>F s.1.1
abbrev v9:Type:=Int
end Go.Proofs.YtijohnkgomcdbaaGreatV
