/- Part of the proof of the statement FieldpolyShifts: lemmas on the model's steps, Lean functions that say what the program's functions compute, and proofs that the calls do just that. No hypothesis is added. -/
import Derived.Test.YtijohnkgomcdbaaGreatKFieldpolyShifts2
set_option linter.all false
namespace Go.Proofs.YtijohnkgomcdbaaGreatE
open Go.RowKit
theorem Z7.calls {F:Fence} (h:Z7 F) {n:Nat} {P:Program} {f:FuncId} {args:Array Value} {w:World} {R:Ending→World→Prop} (k:Calls P f args w R):CallsIn F n P f args w R:=by
 rcases h with rfl| ⟨l,rfl⟩
 ·exact callsIn_wide.2 k
 ·exact(callsIn_wide (n:=n)).2 k
theorem D4V {P:Program} {ρ:Operand→Value} {o:Oper} {x:Next} {w w':World} (h:(execOp ρ o).run P w= .ok x w') (hx:∀d,x≠ .defer d):∀c,o.op≠ .defer c:=by
 intro c hc
 unfold execOp at h
 rw [hc]at h
 simp only [Sem.run_bind]at h
 cases hr:(resolve ρ c o.type).run P w with
 |ok d w2=>rw [hr]at h;simp only [Result.andThen_ok,Sem.run_pure,Result.ok.injEq]at h;exact hx _ h.1.symm
 |halt y w2=>rw [hr]at h;simp [Result.andThen]at h
section
variable (P:Program) (w0:World) (Bo:Nat→Nat→Prop)
def A6Z (o:Oper) (ρ:Operand→V) (pb:Nat→A9) (v':V) (us:Bl):Prop:=
 ∀(F:Fence) (n:Nat),Z7 F→∀(bl:Nat→A9) (φ:Nat→Addr) (w:World) (a:Act) (next:Act→World→Prop) (Q:Exit→Act→World→Prop),H4 pb bl→D2 w0 Bo bl φ w→
  (∀x,x∈o.op.operands→C4 w bl φ (ρ x) (a.eval x))→
  (∀v w' φ',E7 w0 Bo bl φ w (B4 us bl) φ' w'→C4 w' (B4 us bl) φ' v' v→next (a.put o.dst v) w')→o.wpIn F n P a w next Q
end
section
variable {P:Program} {w0:World} {Bo:Nat→Nat→Prop} {pb:Nat→A9} {R:Type} {K:KV R} {r:R} {E:E1} {ρ:Operand→V}
theorem c9 {o:Oper} {v':V} {us:Bl} (h:∀(bl:Nat→A9) (φ:Nat→Addr) (w:World) (a:Act),H4 pb bl→D2 w0 Bo bl φ w→(∀x,x∈o.op.operands→C4 w bl φ (ρ x) (a.eval x))→
  ∃v w' φ',(execOp a.eval o).run P w= .ok (.value v) w'∧E7 w0 Bo bl φ w (B4 us bl) φ' w'∧C4 w' (B4 us bl) φ' v' v):A6Z P w0 Bo o ρ pb v' us:=by
 intro F n hF bl φ w a next Q ha hm hr hn
 obtain⟨v,w',φ',h1,h2,h3⟩:=h bl φ w a ha hm hr
 refine⟨fun f _=>hF.fn f,?_⟩
 rw [Oper.semAt_eq _ _ _ (D4V h1 (fun d e=>nomatch e)),h1,Oper.uponIn_value]
 exact hn v w' φ' h2 h3
theorem D9I {o:Oper} {us:Bl} (h:∀(bl:Nat→A9) (φ:Nat→Addr) (w:World) (a:Act),H4 pb bl→D2 w0 Bo bl φ w→(∀x,x∈o.op.operands→C4 w bl φ (ρ x) (a.eval x))→
  ∃w' φ',(execOp a.eval o).run P w= .ok .skip w'∧E7 w0 Bo bl φ w (B4 us bl) φ' w'):A6Z P w0 Bo o ρ pb (.a .u) us:=by
 intro F n hF bl φ w a next Q ha hm hr hn
 obtain⟨w',φ',h1,h2⟩:=h bl φ w a ha hm hr
 refine⟨fun f _=>hF.fn f,?_⟩
 rw [Oper.semAt_eq _ _ _ (D4V h1 (fun d e=>nomatch e)),h1,Oper.uponIn_skip]
 exact hn undef w' φ' h2 trivial
theorem A7q {o:Oper} {x:Operand} {f:Value→Sem Value} {v':V} {us:Bl} (hd:J5 P w0 Bo pb [ρ x] (A1l f) v' us) (hx:x∈o.op.operands)
  (he:∀(a:Act),execOp a.eval o=(do pure (.value (←f (a.eval x))))):A6Z P w0 Bo o ρ pb v' us:=
 c9 fun bl φ w a ha hm hr=>by
  obtain⟨v,w',φ',h1,h2,h3⟩:=hd bl φ w [a.eval x] ha hm (.cons (hr x hx) .nil)
  refine⟨v,w',φ',?_,h2,h3⟩
  have h1:(f (a.eval x)).run P w= .ok v w':=h1
  rw [he,Sem.run_bind,h1];rfl
theorem A7Z {o:Oper} {x y:Operand} {f:Value→Value→Sem Value} {v':V} {us:Bl} (hd:J5 P w0 Bo pb [ρ x,ρ y] (m8 f) v' us) (hx:x∈o.op.operands) (hy:y∈o.op.operands)
  (he:∀(a:Act),execOp a.eval o=(do pure (.value (←f (a.eval x) (a.eval y))))):A6Z P w0 Bo o ρ pb v' us:=
 c9 fun bl φ w a ha hm hr=>by
  obtain⟨v,w',φ',h1,h2,h3⟩:=hd bl φ w [a.eval x,a.eval y] ha hm (.cons (hr x hx) (.cons (hr y hy) .nil))
  refine⟨v,w',φ',?_,h2,h3⟩
  have h1:(f (a.eval x) (a.eval y)).run P w= .ok v w':=h1
  rw [he,Sem.run_bind,h1];rfl
theorem D9O {op:BinOp} {x:V} {y:Operand} {b:Bool} (h:C8g op x y=some b):y= .const (.slice none 0 0)∧∃(q:Bool) (t:Ty) (l:List t.T),x= .a (.nv q t l)∧((op= .eql∧b=q)∨(op= .neq∧b=!q)):=by
 unfold C8g at h
 split at h
 ·cases h;exact⟨rfl,_,_,_,rfl,Or.inl ⟨rfl,rfl⟩⟩
 ·cases h;exact⟨rfl,_,_,_,rfl,Or.inr ⟨rfl,rfl⟩⟩
 ·cases h
theorem F1v {t e:Nat} (hu:P.underlying t=some (.slice e)) (d:Nat) (ad:Option Addr) (len cap:Nat) (w:World):(Op.equalIn (d+1) t (.slice ad len cap) (.slice none 0 0)).run P w= .ok ad.isNone w:=by
 cases ad<;>simp [Op.equalIn,run_underlying hu]
theorem D7p {t e:Nat} (hu:P.underlying t=some (.slice e)) (ad:Option Addr) (len cap:Nat) (w:World):(Op.equal t (.slice ad len cap) (.slice none 0 0)).run P w= .ok ad.isNone w:=F1v hu 9999 ad len cap w
theorem D0C {x y y':V} {f:List Value→Sem Value} {v':V} {us:Bl} (hy:∀{w:World} {bl:Nat→A9} {φ:Nat→Addr} {v:Value},C4 w bl φ y v→C4 w bl φ y' v) (d:J5 P w0 Bo pb [x,y'] f v' us):J5 P w0 Bo pb [x,y] f v' us:=
 fun bl φ w vs ha hm hr=>by
  cases hr with
  |cons h1 h2=>
   cases h2 with
   |cons h2 h3=>exact d bl φ w _ ha hm (.cons h1 (.cons (hy h2) h3))
theorem F1B {x x':V} {f:List Value→Sem Value} {v':V} {us:Bl} (hx:∀{w:World} {bl:Nat→A9} {φ:Nat→Addr} {v:Value},C4 w bl φ x v→C4 w bl φ x' v) (d:J5 P w0 Bo pb [x'] f v' us):J5 P w0 Bo pb [x] f v' us:=
 fun bl φ w vs ha hm hr=>by
  cases hr with
  |cons h1 h2=>exact d bl φ w _ ha hm (.cons (hx h1) h2)
theorem D2Q {x x' y:V} {f:List Value→Sem Value} {v':V} {us:Bl} (hx:∀{w:World} {bl:Nat→A9} {φ:Nat→Addr} {v:Value},C4 w bl φ x v→C4 w bl φ x' v) (d:J5 P w0 Bo pb [x',y] f v' us):J5 P w0 Bo pb [x,y] f v' us:=
 fun bl φ w vs ha hm hr=>by
  cases hr with
  |cons h1 h2=>exact d bl φ w _ ha hm (.cons (hx h1) h2)
theorem D4G {w:World} {bl:Nat→A9} {φ:Nat→Addr}:∀(vs:List V) (asx:List A) (us:List Value),B6B vs=some asx→M5 w bl φ vs us→N3 w bl φ asx us
 | [],asx,us,h,hr=>by cases h;cases hr;exact .nil
 | .a x::vs,asx,us,h,hr=>by
  unfold B6B at h
  split at h
  ·rename_i m hm
   cases h
   cases hr with
   |cons h1 h2=>exact .cons h1 (D4G vs m _ hm h2)
  ·cases h
 | .cl _ _::vs,asx,us,h,hr=>by cases h
 | .tup _::vs,asx,us,h,hr=>by cases h
theorem B2m {w:World} {bl:Nat→A9} {φ:Nat→Addr} {a:Act}:∀(xs:List Operand),(∀x,x∈xs→C4 w bl φ (ρ x) (a.eval x))→M5 w bl φ (xs.map ρ) (xs.map a.eval)
 | [],_=> .nil
 |x::xs,h=> .cons (h x List.mem_cons_self) (B2m xs fun y hy=>h y (List.mem_cons_of_mem _ hy))
theorem F0o {w:World} {bl:Nat→A9} {φ:Nat→Addr} {asx:List A} {vs:List Value} (h:N3 w bl φ asx vs):∀(i:Nat) x,asx[i]?=some x→∃v,vs[i]?=some v∧C1 w bl φ x v:=by
 induction h with
 |nil=>intro i x hx;simp at hx
 |cons h _ ih=>
  intro i x hx
  cases i with
  |zero=>simp at hx;subst hx;exact⟨_,rfl,h⟩
  |succ i=>simpa using ih i x (by simpa using hx)
theorem C0Q {w:World} {bl:Nat→A9} {φ:Nat→Addr} {a:Act} (x:Option Operand) (h:∀y,x=some y→C4 w bl φ (ρ y) (a.eval y)):A0g w bl φ (x.map ρ) (x.map a.eval):=by
 cases x with
 |none=>trivial
 |some y=>exact h y rfl
theorem A1f {bl:Nat→A9} {φ:Nat→Addr} {w:World} (hm:D2 w0 Bo bl φ w):E7 w0 Bo bl φ w (B4 [] bl) φ w:= .refl hm
theorem F3l (hE:F6 P E) (hpb:∀n,pb n≠ .dead→n<10000) {orc:P6 R} {d:Nat} {o:Oper} (hc:∀c f,o.op= .call c→c.callee≠ .value f) (h:A9S E orc ρ d pb K o.op=some r):∃v' us,K v' us=some r∧A6Z P w0 Bo o ρ pb v' us:=by
 obtain⟨dst,op,ty,pos,after,guard⟩:=o
 cases op<;>simp only [A9S]at h
 case move x=>
  exact⟨_,_,h,c9 fun bl φ w a ha hm hr=>⟨a.eval x,w,φ,rfl,A1f hm,hr x (by simp [Op.operands])⟩⟩
 case assign x=>
  exact⟨_,_,h,c9 fun bl φ w a ha hm hr=>⟨a.eval x,w,φ,rfl,A1f hm,hr x (by simp [Op.operands])⟩⟩
 case pick c x y=>
  split at h
  ·rename_i t ht
   cases ht':t with
   |true=>
    rw [ht',E4]at h
    refine⟨_,_,h,c9 fun bl φ w a ha hm hr=>⟨a.eval x,w,φ,?_,A1f hm,hr x (by simp [Op.operands])⟩⟩
    have hcv:=hr c (by simp [Op.operands])
    rw [ht]at hcv
    simp [execOp,R4.1 hcv,asBool,ht']
   |false=>
    rw [ht',P7]at h
    refine⟨_,_,h,c9 fun bl φ w a ha hm hr=>⟨a.eval y,w,φ,?_,A1f hm,hr y (by simp [Op.operands])⟩⟩
    have hcv:=hr c (by simp [Op.operands])
    rw [ht]at hcv
    simp [execOp,R4.1 hcv,asBool,ht']
  ·rename_i p hp ht
   split at h
   ·rename_i hpp
    refine⟨_,_,h,c9 fun bl φ w a ha hm hr=>⟨a.eval x,w,φ,?_,A1f hm,hr x (by simp [Op.operands])⟩⟩
    have hcv:=hr c (by simp [Op.operands])
    rw [ht]at hcv
    have hcv:a.eval c= .bool (@decide p hp):=hcv
    simp [execOp,hcv,asBool,hpp]
   ·rename_i hpp
    refine⟨_,_,h,c9 fun bl φ w a ha hm hr=>⟨a.eval y,w,φ,?_,A1f hm,hr y (by simp [Op.operands])⟩⟩
    have hcv:=hr c (by simp [Op.operands])
    rw [ht]at hcv
    have hcv:a.eval c= .bool (@decide p hp):=hcv
    simp [execOp,hcv,asBool,hpp]
  ·cases h
 case alloc t=>
  obtain⟨v',us,k1,k2⟩:∃v' us,K v' us=some r∧∀old,J5 P w0 Bo pb [] (fun _=>Instr.alloc t true old) v' us:=by
   cases hz:G8 E.nz t with
   |true=>rw [hz]at h;exact F2A (P:=P) (w0:=w0) (Bo:=Bo) hE h
   |false=>rw [hz]at h;exact F0C (P:=P) (w0:=w0) (Bo:=Bo) hE h
  refine⟨v',us,k1,c9 fun bl φ w a ha hm hr=>?_⟩
  obtain⟨v,w',φ',h1,h2,h3⟩:=k2 (.tuple #[]) bl φ w [] ha hm .nil
  exact⟨v,w',φ',by simp [execOp,h1],h2,h3⟩
 case box t x=>
  obtain⟨v',us,k1,k2⟩:=F0t (P:=P) (w0:=w0) (Bo:=Bo) hE h
  exact⟨v',us,k1,A7q k2 (by simp [Op.operands]) fun a=>rfl⟩
 case build t ps=>
  obtain⟨v',us,k1,k2⟩:=E0L (P:=P) (w0:=w0) (Bo:=Bo) hE h
  refine⟨v',us,k1,c9 fun bl φ w a ha hm hr=>?_⟩
  obtain⟨v,w',φ',h1,h2,h3⟩:=k2 bl φ w (ps.toList.map fun q=>(q.1,a.eval q.2)) ha hm (by simp) (by
   have:=B2m (ρ:=ρ) (w:=w) (bl:=bl) (φ:=φ) (a:=a) (ps.toList.map (·.2)) (fun x hx=>hr x (by simpa [Op.operands]using hx))
   simpa [Function.comp_def]using this)
  refine⟨v,w',φ',?_,h2,h3⟩
  have e:(ps.map fun(i,x)=>(i,a.eval x))=(ps.toList.map fun q=>(q.1,a.eval q.2)).toArray:=by
   apply Array.ext';simp
  simp only [execOp,e,Sem.run_bind,h1,Result.andThen_ok];rfl
 case buildSlice t n ps=>
  obtain⟨v',us,k1,k2⟩:=E2V (P:=P) (w0:=w0) (Bo:=Bo) hE h
  refine⟨v',us,k1,c9 fun bl φ w a ha hm hr=>?_⟩
  obtain⟨v,w',φ',h1,h2,h3⟩:=k2 bl φ w (ps.toList.map fun q=>(q.1,a.eval q.2)) ha hm (by simp) (by
   have:=B2m (ρ:=ρ) (w:=w) (bl:=bl) (φ:=φ) (a:=a) (ps.toList.map (·.2)) (fun x hx=>hr x (by simpa [Op.operands]using hx))
   simpa [Function.comp_def]using this)
  refine⟨v,w',φ',?_,h2,h3⟩
  have e:(ps.map fun(i,x)=>(i,a.eval x))=(ps.toList.map fun q=>(q.1,a.eval q.2)).toArray:=by
   apply Array.ext';simp
  simp only [execOp,e,Sem.run_bind,h1,Result.andThen_ok];rfl
 case load t x=>
  obtain⟨v',k1,k2⟩:=E6R (P:=P) (w0:=w0) (Bo:=Bo) hE h
  exact⟨v',[],k1,A7q k2 (by simp [Op.operands]) fun a=>rfl⟩
 case store t x y=>
  obtain⟨us,k1,k2⟩:∃us,K (.a .u) us=some r∧J5 P w0 Bo pb [ρ x,ρ y] (m8 fun a b=>do Instr.storeAt t a b;pure undef) (.a .u) us:=by
   cases hz:D0L pb (ρ x)with
   |true=>rw [hz]at h;exact D9M (P:=P) (w0:=w0) (Bo:=Bo) hE hpb h
   |false=>rw [hz]at h;exact E2z (P:=P) (w0:=w0) (Bo:=Bo) hE hpb h
  refine⟨_,us,k1,D9I fun bl φ w a ha hm hr=>?_⟩
  obtain⟨v,w',φ',h1,h2,h3⟩:=k2 bl φ w [a.eval x,a.eval y] ha hm (.cons (hr x (by simp [Op.operands])) (.cons (hr y (by simp [Op.operands])) .nil))
  refine⟨w',φ',?_,h2⟩
  have h1:(do Instr.storeAt t (a.eval x) (a.eval y);pure undef:Sem Value).run P w= .ok v w':=h1
  simp only [execOp,Sem.run_bind]at h1⊢
  cases hs:(Instr.storeAt t (a.eval x) (a.eval y)).run P w with
  |ok u w1=>rw [hs]at h1;simp only [Result.andThen_ok,Sem.run_pure]at h1⊢;cases h1;rfl
  |halt u w1=>rw [hs]at h1;simp at h1
 case nilCheck x=>
  split at h
  ·rename_i f caps hx
   refine⟨_,[],h,c9 fun bl φ w a ha hm hr=>?_⟩
   have hv:=hr x (by simp [Op.operands])
   rw [hx]at hv
   obtain⟨cv,h1,h2⟩:=hv
   exact⟨.func (.func f) #[] cv.toArray,w,φ,by simp [execOp,h1],A1f hm,cv,rfl,h2⟩
  ·rename_i z hx
   split at h
   ·rename_i hz
    refine⟨_,[],h,c9 fun bl φ w a ha hm hr=>?_⟩
    have hv:=hr x (by simp [Op.operands])
    rw [hx]at hv
    have hv1:=hv
    obtain⟨cs,h1,h2⟩:=hv1
    have h1:cs=_:=h1
    cases z with
    |negSucc n=>exact absurd hz (by simp)
    |ofNat f=>
     subst h1
     have h2:[Value.func (.func f) #[] #[]]=[a.eval x]:=h2
     have h3:=List.head_eq_of_cons_eq h2
     exact⟨a.eval x,w,φ,by simp [execOp,←h3],A1f hm,hv⟩
   ·cases h
  ·cases h
 case binOp op t x y yt=>
  split at h
  ·rename_i b hb
   split at h
   ·rename_i τ ht
    obtain⟨e,m,hu,_⟩:=A0G (hE.tyOk ht)
    refine⟨_,[],h,c9 fun bl φ w a ha hm hr=>?_⟩
    have hx:=hr x (by simp [Op.operands])
    obtain⟨hy,q,t',l',hq,hop⟩:=D9O hb
    rw [hq]at hx
    obtain⟨_,ad,len,cap,hv,had⟩:=hx
    refine⟨.bool b,w,φ,?_,A1f hm,R4.2 rfl⟩
    subst hy
    have hcz:a.eval (.const (.slice none 0 0))= .slice none 0 0:=rfl
    rcases hop with⟨rfl,rfl⟩| ⟨rfl,rfl⟩
    ·have e1:=D7p (P:=P) hu ad len cap w
     rw [had]at e1
     simp only [execOp,hcz,hv,eqGuard,binOp]
     simp [e1]
    ·have e1:=D7p (P:=P) hu ad len cap w
     rw [had]at e1
     simp only [execOp,hcz,hv,eqGuard,binOp]
     simp [e1]
   ·cases h
  ·obtain⟨v',k1,k2⟩:=D8x (P:=P) (w0:=w0) (Bo:=Bo) (pb:=pb) hE h
   exact⟨v',[],k1,A7Z (k2 x y) (by simp [Op.operands]) (by simp [Op.operands]) fun a=>rfl⟩
 case unOp op t x=>
  obtain⟨v',k1,k2⟩:=F1j (P:=P) (w0:=w0) (Bo:=Bo) (pb:=pb) h
  exact⟨v',[],k1,A7q k2 (by simp [Op.operands]) fun a=>rfl⟩
 case convert s t x=>
  obtain⟨v',k1,k2⟩:=D9E (P:=P) (w0:=w0) (Bo:=Bo) hE h
  exact⟨v',[],k1,A7q k2 (by simp [Op.operands]) fun a=>rfl⟩
 case makeFunc fn fs cs=>
  cases fn with
  |func f=>
   simp only at h
   split at h
   ·rename_i l hfs hl
    refine⟨_,[],h,c9 fun bl φ w a ha hm hr=>?_⟩
    have hfs':fs= #[]:=by apply Array.ext';simpa using hfs
    subst hfs'
    have hrv:=B2m (ρ:=ρ) (w:=w) (bl:=bl) (φ:=φ) (a:=a) cs.toList (fun x hx=>hr x (by simp [Op.operands];simpa using hx))
    refine⟨.func (.func f) #[] (cs.map a.eval),w,φ,by simp [execOp,Instr.makeFunc],A1f hm,cs.toList.map a.eval,?_,D4G _ _ _ hl hrv⟩
    congr 1
    apply Array.ext';simp
   ·cases h
  |_=>cases h
 case makeSlice t l c=>
  obtain⟨v',us,k1,k2⟩:=F2Z (P:=P) (w0:=w0) (Bo:=Bo) hE h
  exact⟨v',us,k1,A7Z k2 (by simp [Op.operands]) (by simp [Op.operands]) fun a=>rfl⟩
 case slice t x lo hi mx=>
  obtain⟨v',k1,k2⟩:=F6c (P:=P) (w0:=w0) (Bo:=Bo) hE h
  refine⟨v',[],k1,c9 fun bl φ w a ha hm hr=>?_⟩
  obtain⟨v,h1,h2⟩:=k2 bl φ w (a.eval x) (lo.map a.eval) (hi.map a.eval) (mx.map a.eval) ha hm (hr x (by simp [Op.operands]))
   (C0Q lo fun y hy=>hr y (by subst hy;simp [Op.operands])) (C0Q hi fun y hy=>hr y (by subst hy;simp [Op.operands])) (C0Q mx fun y hy=>hr y (by subst hy;simp [Op.operands]))
  exact⟨v,w,φ,by simp [execOp,h1],A1f hm,h2⟩
 case fieldAddr s x f=>
  obtain⟨v',k1,k2⟩:=E0J (P:=P) (w0:=w0) (Bo:=Bo) hE h
  exact⟨v',[],k1,A7q k2 (by simp [Op.operands]) fun a=>rfl⟩
 case field s x f=>
  obtain⟨v',k1,k2⟩:=D9V (P:=P) (w0:=w0) (Bo:=Bo) (pb:=pb) hE h
  exact⟨v',[],k1,A7q k2 (by simp [Op.operands]) fun a=>rfl⟩
 case indexAddr t x i=>
  have h:B4G E t (nzV (ρ x)) (ρ i) pb K=some r∨B6m E t (nzV (ρ x)) (ρ i) pb K=some r:=by
   cases i<;>first|exact Or.inl h|exact Or.inr h
  obtain⟨v',k1,k2⟩:=h.elim (D4u (P:=P) (w0:=w0) (Bo:=Bo) hE) (E1m (P:=P) (w0:=w0) (Bo:=Bo) hE)
  exact⟨v',[],k1,A7Z (D2Q B9f k2) (by simp [Op.operands]) (by simp [Op.operands]) fun a=>rfl⟩
 case index t x i=>
  obtain⟨v',k1,k2⟩:=F2c (P:=P) (w0:=w0) (Bo:=Bo) (pb:=pb) hE h
  exact⟨v',[],k1,A7Z k2 (by simp [Op.operands]) (by simp [Op.operands]) fun a=>rfl⟩
 case extract x i=>
  split at h
  ·rename_i vs hx
   split at h
   ·rename_i y hy
    refine⟨_,[],h,c9 fun bl φ w a ha hm hr=>?_⟩
    have hv:=hr x (by simp [Op.operands])
    rw [hx]at hv
    obtain⟨cv,h1,h2⟩:=hv
    obtain⟨v,g1,g2⟩:=F0o h2 i y hy
    refine⟨v,w,φ,?_,A1f hm,g2⟩
    simp [execOp,h1,Instr.extract,g1]
   ·cases h
  ·cases h
 case call c=>
  cases hcc:c.callee with
  |value f=>exact absurd hcc (hc c f rfl)
  |invoke x m=>rw [hcc]at h;cases h
  |builtin b=>
   rw [hcc]at h
   simp only at h
   have hops:∀x,x∈c.args.toList→x∈(Op.call c).operands:=by
    intro x hx
    simp only [Op.operands,Call.operands,hcc]
    simpa using hx
   have hexec:∀(a:Act),execOp a.eval ⟨dst, .call c,ty,pos,after,guard⟩=builtin b c.argTypes ty (c.args.map fun| .const _=>true|_=>false) (c.args.map a.eval):=by
    intro a
    simp only [execOp,resolve,hcc]
    rfl
   have args1:∀{x:V},c.args.toList.map ρ=[x]→∃y,c.args= #[y]∧ρ y=x:=by
    intro x hx
    cases hl:c.args.toList with
    |nil=>rw [hl]at hx;cases hx
    |cons y l=>
     rw [hl]at hx
     cases l with
     |cons=>simp at hx
     |nil=>exact⟨y,by apply Array.ext';simpa using hl,by simpa using hx⟩
   have args2:∀{x y:V},c.args.toList.map ρ=[x,y]→∃p q,c.args= #[p,q]∧ρ p=x∧ρ q=y:=by
    intro x y hx
    cases hl:c.args.toList with
    |nil=>rw [hl]at hx;cases hx
    |cons p l=>
     rw [hl]at hx
     cases l with
     |nil=>simp at hx
     |cons q l=>
      cases l with
      |cons=>simp at hx
      |nil=>exact⟨p,q,by apply Array.ext';simpa using hl,by simpa using hx⟩
   unfold D3q at h
   split at h
   ·rename_i t ts x hts hargs
    obtain⟨y,hy1,hy2⟩:=args1 hargs
    subst hy2
    obtain⟨v',k1,k2⟩:=F4d (P:=P) (w0:=w0) (Bo:=Bo) hE h
    refine⟨v',[],k1,A7q (F1B B9f (k2 ts ty)) (hops y (by rw [hy1];simp)) fun a=>?_⟩
    rw [hexec,hy1]
    have:c.argTypes=(t::ts).toArray:=by apply Array.ext';simpa using hts
    rw [this];simp [builtin]
   ·rename_i t t2 x y hts hargs
    obtain⟨p,q,hy1,hy2,hy3⟩:=args2 hargs
    subst hy2;subst hy3
    obtain⟨v',us,k1,k2⟩:∃v' us,K v' us=some r∧∀ty,J5 P w0 Bo pb [ρ p,ρ q] (m8 fun a b=>Builtin.append_ #[t,t2] ty #[a,b]) v' us:=by
     split at h
     ·rename_i a l hx
      split at h
      ·rename_i hl
       obtain⟨v',us,k1,k2⟩:=D2C (P:=P) (w0:=w0) (Bo:=Bo) hE hpb h
       refine⟨v',us,k1,fun ty=>D0C B9f (D2Q (fun {w bl φ v} hr=>?_) (k2 ty))⟩
       rw [hx]at hr
       obtain⟨ad,cap,h1,h2,h3,_⟩:=B7J.1 hr
       have hl0:l=[]:=List.eq_nil_of_length_eq_zero (by omega)
       subst hl0
       rw [h3 rfl]at h1
       exact⟨ad,h1⟩
      ·cases h
     ·obtain⟨v',us,k1,k2⟩:=D2C (P:=P) (w0:=w0) (Bo:=Bo) hE hpb h
      exact⟨v',us,k1,fun ty=>D0C B9f (k2 ty)⟩
    refine⟨v',us,k1,A7Z (k2 ty) (hops p (by rw [hy1];simp)) (hops q (by rw [hy1];simp)) fun a=>?_⟩
    rw [hexec,hy1]
    have:c.argTypes= #[t,t2]:=by apply Array.ext';simpa using hts
    rw [this];simp [builtin]
   ·rename_i x y hargs
    obtain⟨p,q,hy1,hy2,hy3⟩:=args2 hargs
    subst hy2;subst hy3
    obtain⟨v',k1,k2⟩:=D0U (P:=P) (w0:=w0) (Bo:=Bo) (pb:=pb) h
    refine⟨v',[],k1,A7Z (k2 c.argTypes ty) (hops p (by rw [hy1];simp)) (hops q (by rw [hy1];simp)) fun a=>?_⟩
    rw [hexec,hy1];simp [builtin]
   ·rename_i x y hargs
    obtain⟨p,q,hy1,hy2,hy3⟩:=args2 hargs
    subst hy2;subst hy3
    obtain⟨v',k1,k2⟩:=D0U (P:=P) (w0:=w0) (Bo:=Bo) (pb:=pb) h
    refine⟨v',[],k1,A7Z (k2 c.argTypes ty) (hops p (by rw [hy1];simp)) (hops q (by rw [hy1];simp)) fun a=>?_⟩
    rw [hexec,hy1];simp [builtin]
   ·cases h
 all_goals cases h
end
def A3W (P:Program) (f:Nat) (args:Array Value) (w:World) (Q:Value→World→Prop):Prop:=
 ((callFunc f args).run P w= .ok (.enter f args) w∧Calls P f args w fun e w'=>∃v,e= .returned v∧Q v w')∨
 (∃v w',(callFunc f args).run P w= .ok (.value v) w'∧Q v w')
def S3 (bs:Bl) (φ:Nat→Addr) (b o:Nat):Prop:=∃n t l tl,n<10000∧G3 bs n= .live t l tl∧(φ n).spot=none∧(φ n).block=b∧(φ n).off≤o∧o<(φ n).off+l.length*t.sz
def B7c (bl:Nat→A9) (L:Bl):Prop:=∀n,n<10000→bl n=G3 L n
def Ct (P:Program) (f:Nat) (asx:List V) (bs:Bl) (r:V) (us:Bl):Prop:=
 (∀q,q∈us→q.1<10000)∧∀(w0:World) (bl0:Nat→A9) (φ0:Nat→Addr) (vs:List Value),B7c bl0 bs→D2 w0 (S3 bs φ0) bl0 φ0 w0→M5 w0 bl0 φ0 asx vs→
  A3W P f vs.toArray w0 fun v w'=>∃φ',E7 w0 (S3 bs φ0) bl0 φ0 w0 (B4 us bl0) φ' w'∧C4 w' (B4 us bl0) φ' r v
def A0o {R:Type} (P:Program) (orc:P6 R):Prop:=∀f asx bs K r,orc f asx bs K=some r→∃rv us,K rv us=some r∧Ct P f asx bs rv us
def L9 {t:Ty} (c:Option (Int×Int)) (l:List t.T):List t.T:=match c with|none=>l|some (lo,hi)=>slice_ l lo hi
theorem W5 (l:Bl) (n:Nat):G3 l n=match A8 l n with|some b=>b|none=> .fresh:=by
 induction l with
 |nil=>rfl
 |cons q l ih=>
  obtain⟨m,b⟩:=q
  unfold G3 A8
  cases Nat.beq m n with
  |true=>rfl
  |false=>simpa using ih
theorem D3C {us:Bl} {bl:Nat→A9} {n:Nat} (h:G3 us n≠ .fresh):B4 us bl n=G3 us n:=by
 rw [W5]at h⊢
 unfold B4
 cases hl:A8 us n with
 |none=>rw [hl]at h;exact absurd rfl h
 |some b=>rfl
theorem i7 {us:Bl} {bl:Nat→A9} {n:Nat} (h:A8 us n=none):B4 us bl n=bl n:=by unfold B4;rw [h]
theorem A6h {us:Bl} {bl:Nat→A9} {n:Nat} {b:A9} (h:A8 us n=some b):B4 us bl n=b:=by unfold B4;rw [h]
theorem Q3 {α:Type} (a b:List (Nat×α)) (n:Nat):A8 (a++b) n=match A8 a n with|some x=>some x|none=>A8 b n:=by
 induction a with
 |nil=>rfl
 |cons q a ih=>
  obtain⟨m,x⟩:=q
  show(B3 (Nat.beq m n) (some x)<|A8 (a++b) n)=match (B3 (Nat.beq m n) (some x)<|A8 a n)with|some x=>some x|none=>A8 b n
  cases Nat.beq m n with
  |true=>rfl
  |false=>exact ih
theorem i9 {α:Type} (m:Nat) (x:α) (n:Nat):A8 [(m,x)] n=if m=n then some x else none:=by
 unfold A8
 cases hb:Nat.beq m n with
 |true=>rw [if_pos (Nat.eq_of_beq_eq_true hb)];rfl
 |false=>
  rw [if_neg (by intro e;subst e;rw [Nat.beq_refl]at hb;cases hb)];rfl
section
variable {pb:Nat→A9}
theorem E1Z {j:Nat} {x:A} {a:V} {b:Bl} {c:List E3} (h:C4e pb j x=some (a,b,c)):
  (b=[]∧c=[]∧∃t l,a= .a (.v (.li t) l)∧L6 pb (.li t) x=some l∧∀n,n∈G4 x→¬live (pb n))∨
  (∃n cut t l tl,pb n= .live t l tl∧b=[(2000+j, .live t (L9 cut l) false)]∧c=[⟨j,n,cut⟩]∧a= .a (.ref (2000+j))∧x=match cut with|none=> .ref n|some (lo,hi)=> .part n lo hi):=by
 have tt:∀(t:Ty) (l:List t.T),(⟨.li t,l⟩:J3).to (.li t)=some l:=fun t l=>by simp [J3.to]
 unfold C4e at h
 split at h
 ·rename_i n
  split at h
  ·rename_i t l tl hp
   cases h
   exact Or.inr ⟨n,none,t,l,tl,hp,rfl,rfl,rfl,rfl⟩
  ·rename_i t l hp
   cases h
   refine Or.inl ⟨rfl,rfl,t,l,rfl,by simp only [L6,Y5,hp];exact tt t l,fun k hk=>?_⟩
   simp only [G4,List.mem_singleton]at hk;subst hk
   rintro⟨_,_,_,e⟩;rw [hp]at e;cases e
  ·cases h
 ·rename_i n lo hi
  split at h
  ·rename_i t l tl hp
   cases h
   exact Or.inr ⟨n,some (lo,hi),t,l,tl,hp,rfl,rfl,rfl,rfl⟩
  ·rename_i t l hp
   cases h
   refine Or.inl ⟨rfl,rfl,t,_,rfl,by simp only [L6,Y5,hp];exact tt t _,fun k hk=>?_⟩
   simp only [G4,List.mem_singleton]at hk;subst hk
   rintro⟨_,_,_,e⟩;rw [hp]at e;cases e
  ·cases h
 ·rename_i t l
  cases h
  exact Or.inl ⟨rfl,rfl,t,l,rfl,by simp only [L6,Y5];exact tt t l,fun k hk=>by cases hk⟩
 ·cases h
inductive z6 (pb:Nat→A9):Bl→List E3→Prop
 |nil:z6 pb [] []
 |cons {j n:Nat} {cut:Option (Int×Int)} {t:Ty} {l:List t.T} {tl:Bool} {bs:Bl} {ls:List E3}:pb n= .live t l tl→z6 pb bs ls→z6 pb ((2000+j, .live t (L9 cut l) false)::bs) (⟨j,n,cut⟩::ls)
theorem z6.append {a b:Bl} {c d:List E3} (h:z6 pb a c) (k:z6 pb b d):z6 pb (a++b) (c++d):=by
 induction h with
 |nil=>exact k
 |cons h _ ih=>exact .cons h ih
theorem E6e {j:Nat} {x y:A} {b:Bl} {c:List E3} (h:B8c pb j x=some (y,b,c)):z6 pb b c∧∀x,x∈c→x.cut=none:=by
 unfold B8c at h
 split at h
 ·cases h;exact⟨.nil,fun x hx=>by cases hx⟩
 ·split at h
  ·rename_i hp
   cases h
   exact⟨.cons (cut:=none) hp .nil,fun x hx=>by rw [List.mem_singleton]at hx;rw [hx]⟩
  ·cases h;exact⟨.nil,fun x hx=>by cases hx⟩
  ·cases h
 ·cases h
theorem D0z:∀(xs:List A) {j:Nat} {ys:List A} {b:Bl} {c:List E3},A9b pb j xs=some (ys,b,c)→z6 pb b c∧∀x,x∈c→x.cut=none
 | [],j,ys,b,c,h=>by cases h;exact⟨.nil,fun x hx=>by cases hx⟩
 |x::xs,j,ys,b,c,h=>by
  unfold A9b at h
  split at h
  ·rename_i h1 h2
   cases h
   obtain⟨a1,a2⟩:=E6e h1
   obtain⟨b1,b2⟩:=D0z xs h2
   exact⟨a1.append b1,fun x hx=>(List.mem_append.1 hx).elim (a2 x) (b2 x)⟩
  ·cases h
theorem B7A {m:Bool} {xs:List A} {j:Nat} {ys:List A} {b:Bl} {c:List E3} (h:A8D pb m j xs=some (ys,b,c)):z6 pb b c∧∀x,x∈c→x.cut=none:=by
 unfold A8D at h
 cases m with
 |true=>exact D0z xs h
 |false=>
  rw [P7]at h
  split at h
  ·cases h;exact⟨.nil,fun x hx=>by cases hx⟩
  ·cases h
inductive B5A (mc:Nat→Bool) (pb:Nat→A9) (j:Nat):PM→V→V→Bl→List E3→Prop
 |d {m:PM} {t:Ty} {x:A} {z:t.T}:L6 pb t x=some z→(m= .bor→∀n,n∈G4 x→¬live (pb n))→m≠ .fn→B5A mc pb j m (.a x) (.a (.v t z)) [] []
 | lent {n:Nat} {cut:Option (Int×Int)} {t:Ty} {l:List t.T} {tl:Bool}:pb n= .live t l tl→
   B5A mc pb j .bor (.a (match cut with|none=> .ref n|some (lo,hi)=> .part n lo hi)) (.a (.ref (2000+j))) [(2000+j, .live t (L9 cut l) false)] [⟨j,n,cut⟩]
 |fn {f:Nat} {caps cs:List A} {b:Bl} {c:List E3}:A8D pb (mc f) (100+16*j) caps=some (cs,b,c)→B5A mc pb j .fn (.cl f caps) (.cl f cs) b c
theorem F5M {mc:Nat→Bool} {j:Nat} {m:PM} {v a:V} {b:Bl} {c:List E3} (h:C1d mc pb j m v=some (a,b,c)):B5A mc pb j m v a b c:=by
 unfold C1d at h
 split at h
 ·split at h
  ·rename_i z hz;cases h;exact .d hz (fun e=>by cases e) (fun e=>by cases e)
  ·cases h
 ·rcases E1Z h with⟨rfl,rfl,t,l,rfl,h',h''⟩| ⟨n,cut,t,l,tl,hp,rfl,rfl,rfl,rfl⟩
  ·exact .d h' (fun _=>h'') (fun e=>by cases e)
  ·exact .lent hp
 ·split at h
  ·rename_i cs _ _ hc;cases h;exact .fn hc
  ·cases h
 ·cases h
inductive A5b (mc:Nat→Bool) (pb:Nat→A9):Nat→List PM→List V→List V→Bl→List E3→Prop
 |nil {j:Nat}:A5b mc pb j [] [] [] [] []
 |cons {j:Nat} {m:PM} {v a:V} {b:Bl} {c:List E3} {ms:List PM} {vs asx:List V} {bs:Bl} {cs:List E3}:B5A mc pb j m v a b c→A5b mc pb (j+1) ms vs asx bs cs→A5b mc pb j (m::ms) (v::vs) (a::asx) (b++bs) (c++cs)
theorem D8P {mc:Nat→Bool}:∀(j:Nat) (ms:List PM) (vs asx:List V) (bs:Bl) (cs:List E3),B7Y mc pb j ms vs=some (asx,bs,cs)→A5b mc pb j ms vs asx bs cs
 |j,[],[],asx,bs,cs,h=>by cases h;exact .nil
 |j,m::ms,v::vs,asx,bs,cs,h=>by
  unfold B7Y at h
  split at h
  ·rename_i a b c as' bs' cs' h1 h2
   cases h
   exact .cons (F5M h1) (D8P _ _ _ _ _ _ h2)
  ·cases h
 |j,[],_::_,asx,bs,cs,h=>by cases h
 |j,_::_,[],asx,bs,cs,h=>by cases h
theorem A5b.lnts {mc:Nat→Bool} {j:Nat} {ms:List PM} {vs asx:List V} {bs:Bl} {ls:List E3} (h:A5b mc pb j ms vs asx bs ls):z6 pb bs ls:=by
 induction h with
 |nil=>exact .nil
 | @cons j m v a b c ms vs asx bs cs h1 h2 ih=>
  cases h1 with
  |d _ _ _=>exact ih
  |fn hc=>exact(B7A hc).1.append ih
  |lent hp=>exact .cons hp ih
theorem B5O {g:E3→Nat}:∀(l:List E3),m4 (l.map g)=true→∀x y,x∈l→y∈l→g x=g y→x=y
 | [],_,x,y,hx,_,_=>by cases hx
 |z::l,h,x,y,hx,hy,e=>by
  rw [List.map_cons]at h
  unfold m4 at h
  cases hh:G8 (l.map g) (g z)with
  |true=>rw [hh]at h;cases h
  |false=>
   rw [hh,P7]at h
   have hz:g z∉l.map g:=by rw [←q8,hh];simp
   rcases List.mem_cons.1 hx with hx'|hx'
   ·rcases List.mem_cons.1 hy with hy'|hy'
    ·rw [hx',hy']
    ·exact absurd (List.mem_map.2 ⟨y,hy',by rw [←e,hx']⟩) hz
   ·rcases List.mem_cons.1 hy with hy'|hy'
    ·exact absurd (List.mem_map.2 ⟨x,hx',by rw [e,hy']⟩) hz
    ·exact B5O l h x y hx' hy' e
theorem z6.spec {bs:Bl} {ls:List E3} (h:z6 pb bs ls):m4 (ls.map (·.j))=true→
  (∀n,A8 bs n≠none→∃x,x∈ls∧n=2000+x.j)∧(∀x,x∈ls→∃t l tl,pb x.n= .live t l tl∧A8 bs (2000+x.j)=some (.live t (L9 x.cut l) false)):=by
 induction h with
 |nil=>exact fun _=>⟨fun n h=>absurd rfl h,(fun x h=>by cases h)⟩
 | @cons j n cut t l tl bs ls hp hl ih=>
  intro hd
  have hu:=B5O _ hd
  have hd':m4 (ls.map (·.j))=true:=by
   rw [List.map_cons]at hd
   unfold m4 at hd
   cases hh:G8 (ls.map (·.j)) j with
   |true=>simp only [hh]at hd;cases hd
   |false=>simp only [hh,P7]at hd;exact hd
  obtain⟨i1,i2⟩:=ih hd'
  have hc:∀k,A8 ((2000+j,A9.live t (L9 cut l) false)::bs) k=if 2000+j=k then some (A9.live t (L9 cut l) false)else A8 bs k:=by
   intro k
   have:=Q3 [(2000+j,A9.live t (L9 cut l) false)] bs k
   rw [i9]at this
   rw [show((2000+j,A9.live t (L9 cut l) false)::bs)=[(2000+j,A9.live t (L9 cut l) false)]++bs from rfl,this]
   by_cases e:2000+j=k
   ·rw [if_pos e,if_pos e]
   ·rw [if_neg e,if_neg e]
  refine⟨fun k hk=>?_,fun x hx=>?_⟩
  ·rw [hc]at hk
   by_cases e:2000+j=k
   ·exact⟨_,List.mem_cons_self,e.symm⟩
   ·rw [if_neg e]at hk
    obtain⟨x,hx,e⟩:=i1 k hk
    exact⟨x,List.mem_cons_of_mem _ hx,e⟩
  ·by_cases ex:x=⟨j,n,cut⟩
   ·subst ex
    exact⟨t,l,tl,hp,by rw [hc,if_pos rfl]⟩
   ·have hx':x∈ls:=by
     rcases List.mem_cons.1 hx with q|q
     ·exact absurd q ex
     ·exact q
    obtain⟨t',l',tl',g2,g3⟩:=i2 x hx'
    refine⟨t',l',tl',g2,?_⟩
    rw [hc,if_neg (fun e=>ex (hu x ⟨j,n,cut⟩ hx List.mem_cons_self (show x.j=j by omega)))]
    exact g3
theorem B1o {ls:List E3} (hu:∀x y,x∈ls→y∈ls→x.j=y.j→x=y) {x:E3} (hx:x∈ls):A3e ls (2000+x.j)=some x:=by
 induction ls with
 |nil=>cases hx
 |cons y ls ih=>
  unfold A3e
  cases hb:Nat.beq (2000+x.j) (2000+y.j)with
  |true=>
   have:=Nat.eq_of_beq_eq_true hb
   rw [E4,hu x y hx List.mem_cons_self (by omega)]
  |false=>
   rw [P7]
   rcases List.mem_cons.1 hx with rfl|hx
   ·rw [Nat.beq_refl]at hb;cases hb
   ·exact ih (fun a b ha hb=>hu a b (List.mem_cons_of_mem _ ha) (List.mem_cons_of_mem _ hb)) hx
theorem E7W {ls:List E3} {m:Nat} {x:E3} (h:A3e ls m=some x):x∈ls∧m=2000+x.j:=by
 induction ls with
 |nil=>cases h
 |cons y ls ih=>
  unfold A3e at h
  cases hb:Nat.beq m (2000+y.j)with
  |true=>rw [hb,E4]at h;cases h;exact⟨List.mem_cons_self,Nat.eq_of_beq_eq_true hb⟩
  |false=>rw [hb,P7]at h;obtain⟨h1,h2⟩:=ih h;exact⟨List.mem_cons_of_mem _ h1,h2⟩
theorem F6N (l:List E3) (h:m4 (l.map (·.n))=true):∀x y,x∈l→y∈l→x.n=y.n→x=y:=B5O l h
end
def i4 (c:Option (Int×Int)):Nat:=match c with|none=>0|some (lo,_)=>lo.toNat
def X9 (bl:Nat→A9) (φ:Nat→Addr) (x:E3):Addr:=
 match bl x.n with
 | .live t l _=>(match x.cut with
  |none=>φ x.n
  |some (lo,_)=>if(φ x.n).spot=none then⟨(φ x.n).block,(φ x.n).off+lo.toNat*t.sz,none⟩else φ x.n)
 |_=>⟨0,0,some 0⟩
def B5e (bl:Nat→A9) (φ:Nat→Addr) (ls:List E3) (m:Nat):Prop:=∃x,x∈ls∧x.n=m∧(X9 bl φ x).spot=none
open Classical in
noncomputable def G5 (bl:Nat→A9) (φ:Nat→Addr) (bs:Bl) (ls:List E3) (n:Nat):A9:=if n<10000 then G3 bs n else if B5e bl φ ls (n-10000)then .dead else bl (n-10000)
def K1 (bl:Nat→A9) (φ:Nat→Addr) (ls:List E3) (n:Nat):Addr:=if n<10000 then(match A3e ls n with|some x=>X9 bl φ x|none=>⟨0,0,some 0⟩)else φ (n-10000)
section
variable {w0 w:World} {Bo:Nat→Nat→Prop} {bl:Nat→A9} {φ:Nat→Addr} {bs:Bl} {ls:List E3}
structure j7 (w:World) (bl:Nat→A9) (bs:Bl) (ls:List E3):Prop where
 bs_:∀n,A8 bs n≠none→∃x,x∈ls∧n=2000+x.j
 ls_:∀x,x∈ls→2000+x.j<10000∧∃t l tl,bl x.n= .live t l tl∧A8 bs (2000+x.j)=some (.live t (L9 x.cut l) false)
 j_:∀x y,x∈ls→y∈ls→x.j=y.j→x=y
 n_:∀x y,x∈ls→y∈ls→x.n=y.n→x=y
 nl:∀x,x∈ls→x.n<10000
 cut:∀x,x∈ls→∀lo hi,x.cut=some (lo,hi)→∀t l tl,bl x.n= .live t l tl→0≤lo∧lo≤hi∧hi≤l.length
theorem j7.small (h:j7 w bl bs ls) {n:Nat} {t:Ty} {l:List t.T} {tl:Bool} (hn:G3 bs n= .live t l tl):∃x,x∈ls∧n=2000+x.j∧n<10000∧tl=false∧∃l0 tl0,bl x.n= .live t l0 tl0∧l=L9 x.cut l0:=by
 have:A8 bs n≠none:=by intro e;rw [W5,e]at hn;cases hn
 obtain⟨x,hx,rfl⟩:=h.bs_ n this
 obtain⟨g0,t',l',tl',g1,g2⟩:=h.ls_ x hx
 rw [W5,g2]at hn
 cases hn
 exact⟨x,hx,rfl,g0,rfl,l',tl',g1,rfl⟩
theorem A5S {x:E3} (hs:(X9 bl φ x).spot=none) {t:Ty} {l:List t.T} {tl:Bool} (hb:bl x.n= .live t l tl) (m:D2 w0 Bo bl φ w):(φ x.n).spot=none∧(X9 bl φ x).block=(φ x.n).block∧True∧
  (X9 bl φ x).off=(φ x.n).off+i4 x.cut*t.sz:=by
 unfold X9 at hs⊢
 rw [hb]at hs⊢
 simp only at hs⊢
 cases hc:x.cut with
 |none=>rw [hc]at hs;exact⟨hs,rfl,trivial,by simp [i4]⟩
 |some q=>
  obtain⟨lo,hi⟩:=q
  rw [hc]at hs
  simp only at hs⊢
  by_cases h:(φ x.n).spot=none
  ·rw [if_pos h];exact⟨h,rfl,trivial,rfl⟩
  ·rw [if_neg h]at hs;exact absurd hs h
theorem B9K (m:D2 w0 Bo bl φ w) (h:j7 w bl bs ls) (b:Nat) (ho:C7 (G5 bl φ bs ls) (K1 bl φ ls) b):C7 bl φ b:=by
 obtain⟨n,⟨t,l,tl,h1⟩,h2,h3⟩:=ho
 unfold G5 at h1
 unfold K1 at h2 h3
 by_cases hn:n<10000
 ·rw [if_pos hn]at h1 h2 h3
  obtain⟨x,hx,rfl,_,_,l0,tl0,hb,_⟩:=h.small h1
  rw [B1o h.j_ hx]at h2 h3
  obtain⟨k1,k2,_⟩:=A5S h2 hb m
  exact⟨x.n,⟨_,_,_,hb⟩,k1,by rw [←k2];exact h3⟩
 ·rw [if_neg hn]at h1 h2 h3
  split at h1
  ·cases h1
  ·exact⟨_,⟨_,_,_,h1⟩,h2,h3⟩
theorem D5Q {x:E3} {t:Ty} {l:List t.T} (hc:∀lo hi,x.cut=some (lo,hi)→0≤lo∧lo≤hi∧hi≤l.length):(L9 x.cut l).length+i4 x.cut≤l.length:=by
 cases h:x.cut with
 |none=>simp [L9,i4]
 |some q=>
  obtain⟨lo,hi⟩:=q
  obtain⟨h1,h2,h3⟩:=hc lo hi h
  simp only [L9,i4]
  rw [A3V h1 h2 h3];omega
theorem F0W (m:D2 w0 Bo bl φ w) (h:j7 w bl bs ls):D2 w (S3 bs (K1 bl φ ls)) (G5 bl φ bs ls) (K1 bl φ ls) w:=by
 have he:P0 w (C7 bl φ) w (C7 (G5 bl φ bs ls) (K1 bl φ ls)):=(M9.refl w (fun _ _=>False)).ext (fun _ _ _ h=>h.elim) fun b _=>B9K m h b
 refine⟨fun n=>?_,fun n k h1 h2 h3 h4 h5=>?_,fun n t l tl hn h1 h2=>?_, .refl _ _⟩
 ·by_cases hn:n<10000
  ·unfold G5
   rw [if_pos hn]
   cases hb:G3 bs n with
   |fresh=>trivial
   |dead=>trivial
   |husk=>trivial
   |froz t l=>
    have:A8 bs n≠none:=by intro e;rw [W5,e]at hb;cases hb
    obtain⟨x,hx,rfl⟩:=h.bs_ n this
    obtain⟨_,t',l',tl',_,g2⟩:=h.ls_ x hx
    rw [W5,g2]at hb;cases hb
   |live t l tl=>
    obtain⟨x,hx,rfl,_,rfl,l0,tl0,hbx,rfl⟩:=h.small hb
    have hφ:K1 bl φ ls (2000+x.j)=X9 bl φ x:=by unfold K1;rw [if_pos hn,B1o h.j_ hx]
    rw [hφ]
    by_cases hs:(X9 bl φ x).spot=none
    ·obtain⟨k1,k2,k3,k4⟩:=A5S hs hbx m
     have hk:=m.blk x.n
     rw [hbx]at hk
     rcases hk with hk| ⟨_,g2,g3,g4⟩
     ·exact absurd k1 hk.1
     ·have hlen:=D5Q (x:=x) (l:=l0) fun lo hi e=>h.cut x hx lo hi e _ _ _ hbx
      refine Or.inr ⟨hs,by rw [k2];exact g2,fun i y hy=>?_,fun j hj=>?_⟩
      ·rw [k2,k4]
       cases hc:x.cut with
       |none=>
        rw [hc]at hy
        obtain⟨ci,q1,q2⟩:=g3 i y hy
        exact⟨ci,by simpa [i4]using q1,S6 he _ _ _ q2⟩
       |some q=>
        obtain⟨lo,hi⟩:=q
        rw [hc]at hy
        obtain⟨ci,q1,q2⟩:=B7W g3 lo hi i y hy
        exact⟨ci,q1,S6 he _ _ _ q2⟩
      ·rw [k2,k4]
       cases hc:x.cut with
       |none=>rw [hc]at hj;simpa [i4]using g4 j hj
       |some q=>
        obtain⟨lo,hi⟩:=q
        rw [hc]at hj hlen
        simp only [i4]at hlen⊢
        have:(lo.toNat+(L9 (some (lo,hi)) l0).length)*t.sz≤l0.length*t.sz:=Nat.mul_le_mul_right _ (by omega)
        rw [Nat.add_mul]at this
        have:=g4 (lo.toNat*t.sz+j) (by omega)
        simpa only [Nat.add_assoc]using this
    ·refine Or.inl ⟨hs,?_⟩
     have hk:=m.blk x.n
     rw [hbx]at hk
     have hns:(φ x.n).spot≠none:=by
      intro e
      apply hs
      unfold X9
      rw [hbx]
      simp only
      split
      ·exact e
      ·rw [if_pos e]
     rcases hk with hk|hk
     ·have:l0=[]:=List.eq_nil_of_length_eq_zero hk.2
      subst this
      cases x.cut with
      |none=>rfl
      |some q=>obtain⟨lo,hi⟩:=q;simp [L9,slice_]
     ·exact absurd hk.1 hns
  ·have e1:K1 bl φ ls n=φ (n-10000):=by unfold K1;rw [if_neg hn]
   rw [e1]
   unfold G5;rw [if_neg hn]
   split
   ·trivial
   ·exact A9H he (fun _ _ _ _ h=>h) (m.blk _)
 ·have key:∀k,live (G5 bl φ bs ls k)→(K1 bl φ ls k).spot=none→∃k',live (bl k')∧(φ k').spot=none∧(φ k').block=(K1 bl φ ls k).block∧((k<10000∧∃x,x∈ls∧k=2000+x.j∧x.n=k'∧(X9 bl φ x).spot=none)∨(¬k<10000∧k'=k-10000∧¬B5e bl φ ls k')):=by
   rintro k ⟨t,l,tl,g1⟩ g2
   unfold G5 at g1
   unfold K1 at g2⊢
   by_cases hk:k<10000
   ·rw [if_pos hk]at g1 g2⊢
    obtain⟨x,hx,rfl,_,_,l0,tl0,hb,_⟩:=h.small g1
    rw [B1o h.j_ hx]at g2⊢
    obtain⟨k1,k2,_⟩:=A5S g2 hb m
    exact⟨x.n,⟨_,_,_,hb⟩,k1,k2.symm,Or.inl ⟨hk,x,hx,rfl,rfl,g2⟩⟩
   ·rw [if_neg hk]at g1 g2⊢
    split at g1
    ·cases g1
    ·rename_i hh
     exact⟨_,⟨_,_,_,g1⟩,g2,rfl,Or.inr ⟨hk,rfl,hh⟩⟩
  obtain⟨n',a1,a2,a3,a4⟩:=key n h1 h3
  obtain⟨k',b1,b2,b3,b4⟩:=key k h2 h4
  have e:=m.uniq n' k' a1 b1 a2 b2 (by rw [a3,b3,h5])
  subst e
  rcases a4 with⟨_,x,hx,rfl,e1,s1⟩| ⟨hn,e1,e2⟩
  ·rcases b4 with⟨_,y,hy,rfl,e3,s2⟩| ⟨hk,e3,e4⟩
   ·rw [h.n_ x y hx hy (by rw [e1,e3])]
   ·exact absurd ⟨x,hx,e1,s1⟩ e4
  ·rcases b4 with⟨_,y,hy,rfl,e3,s2⟩| ⟨hk,e3,e4⟩
   ·exact absurd ⟨y,hy,e3,s2⟩ e2
   ·omega
 ·unfold G5 at h1
  rw [if_pos hn]at h1
  obtain⟨x,hx,rfl,_,rfl,_⟩:=h.small h1
  exact Or.inr ⟨rfl,fun j hj=>⟨_,t,l,false,hn,h1,h2,rfl,by omega,by omega⟩⟩
end
section
variable {w0 w:World} {Bo:Nat→Nat→Prop} {pb bl:Nat→A9} {φ:Nat→Addr} {bs:Bl} {ls:List E3}
theorem C6s (ha:H4 pb bl) (hm:D2 w0 Bo bl φ w) {ns:List Nat} {x y:A} (hns:∀n,n∈G4 x→live (pb n)→n∈ns) (h:B3b pb x=some y) {v:Value} (hr:C1 w bl φ x v):C1 w (B4 (C9 pb ns) bl) φ y v:=by
 have st:=v7 ha hm ns
 have fin:∀(n:Nat) (i:Int) (t:Ty) (x:t.T),B4 (C9 pb ns) bl n= .froz t [x]→C1 w (B4 (C9 pb ns) bl) φ (.ptr n i []) v→C1 w (B4 (C9 pb ns) bl) φ (.pv t x) v:=by
  intro n i t x hf hr
  simp only [C1,hf]at hr
  obtain⟨h0,h1,_,hs,rfl⟩:=hr
  have hi:i=0:=by simp only [List.length_cons,List.length_nil]at h1;omega
  subst hi
  have hk:=st.mem.blk n
  rw [hf]at hk
  rcases hk with hk| ⟨_,k2,k3,k4⟩
  ·exact absurd hs hk.1
  ·obtain⟨ci,q1,q2⟩:=k4 0 x rfl
   refine⟨(φ n).block,(φ n).off,ci,?_,k3,k2,by simpa using q1,q2⟩
   have:L4 [] t=0:=by cases t<;>rfl
   simp [this]
 unfold B3b at h
 split at h
 ·cases h;exact A3m st.goes _ _ hr
 ·rename_i n i
  have hr':=A3m st.goes _ _ hr
  split at h
  ·rename_i t x tl hp
   cases h
   exact fin n i t x (B7G ha ns n t [x] tl (hns n (by simp [G4]) ⟨_,_,_,hp⟩) hp) hr'
  ·rename_i t x hp
   cases h
   have hb:bl n= .froz t [x]:=by rw [ha n (by rw [hp];intro e;cases e),hp]
   refine fin n i t x ?_ hr'
   rcases A5v ha ns n with e| ⟨_,_,_,e,_⟩
   ·rw [e,hb]
   ·rw [hb]at e;cases e
  ·cases h
 ·cases h
theorem C5b (ha:H4 pb bl) (hm:D2 w0 Bo bl φ w) {ns:List Nat}:∀(xs ys:List A) (vs:List Value),(∀n,n∈xs.flatMap G4→n∈ns)→A6W pb xs=some ys→N3 w bl φ xs vs→N3 w (B4 (C9 pb ns) bl) φ ys vs
 | [],ys,vs,_,h,hr=>by cases h;cases hr;exact .nil
 |x::xs,ys,vs,hns,h,hr=>by
  unfold A6W at h
  split at h
  ·rename_i y m h1 h2
   cases h
   cases hr with
   |cons r1 r2=>exact .cons (C6s ha hm (fun n hn _=>hns n (by rw [List.flatMap_cons];exact List.mem_append_left _ hn)) h1 r1) (C5b ha hm xs m _ (fun n hn=>hns n (by rw [List.flatMap_cons];exact List.mem_append_right _ hn)) h2 r2)
  ·cases h
theorem A1k {bl':Nat→A9} {φ':Nat→Addr} (ho:∀b,C7 bl' φ' b→C7 bl φ b) {x:A} {v:Value} (hx:(∃t z,x= .v t z)∨(∃t z,x= .pv t z)) (h:C1 w bl φ x v):C1 w bl' φ' x v:=by
 have he:P0 w (C7 bl φ) w (C7 bl' φ'):=(M9.refl w (fun _ _=>False)).ext (fun _ _ _ h=>h.elim) fun b _=>ho b
 rcases hx with⟨t,z,rfl⟩| ⟨t,z,rfl⟩
 ·obtain⟨cs,h1,h2⟩:=h;exact⟨cs,S6 he _ _ _ h1,h2⟩
 ·obtain⟨b,o,cs,h1,h2,h3,h4,h5⟩:=h
  exact⟨b,o,cs,h1,fun e=>h2 (ho b e),h3,h4,S6 he _ _ _ h5⟩
theorem C4Q:∀(xs ys:List A),A6W pb xs=some ys→∀y,y∈ys→∃t z,y= .pv t z
 | [],ys,h,y,hy=>by cases h;cases hy
 |x::xs,ys,h,y,hy=>by
  unfold A6W at h
  split at h
  ·rename_i y' m h1 h2
   cases h
   rcases List.mem_cons.1 hy with rfl|hy
   ·unfold B3b at h1
    split at h1
    ·cases h1;exact⟨_,_,rfl⟩
    ·split at h1<;>cases h1<;>exact⟨_,_,rfl⟩
    ·cases h1
   ·exact C4Q xs m h2 y hy
  ·cases h
theorem D8a {bl':Nat→A9} {φ':Nat→Addr} (ho:∀b,C7 bl' φ' b→C7 bl φ b) {xs:List A} {vs:List Value} (hx:∀x,x∈xs→∃t z,x= .pv t z) (h:N3 w bl φ xs vs):N3 w bl' φ' xs vs:=by
 induction h with
 |nil=>exact .nil
 |cons h _ ih=>exact .cons (A1k ho (Or.inr (hx _ List.mem_cons_self)) h) (ih fun x hx'=>hx x (List.mem_cons_of_mem _ hx'))
theorem D5t (ha:H4 pb bl) (hm:D2 w0 Bo bl φ w) {ns:List Nat} (hl:j7 w (B4 (C9 pb ns) bl) bs ls) (hm1:D2 w0 Bo (B4 (C9 pb ns) bl) φ w):∀(xs:List A) (j:Nat) (ys:List A) (bs':Bl) (ls':List E3),A9b pb j xs=some (ys,bs',ls')→
  (∀x,x∈ls'→x∈ls)→(∀x,x∈ls'→x.n∉ns)→∀vs,N3 w bl φ xs vs→N3 w (G5 (B4 (C9 pb ns) bl) φ bs ls) (K1 (B4 (C9 pb ns) bl) φ ls) ys vs
 | [],j,ys,bs',ls',h,_,_,vs,hv=>by cases h;cases hv;exact .nil
 |x::xs,j,ys,bs',ls',h,hsub,hnot,vs,hv=>by
  have ho:=B9K hm1 hl
  unfold A9b at h
  split at h
  ·rename_i y b c m bs2 cs2 h1 h2
   cases h
   cases hv with
   | @cons _ u _ us hv1 hv2=>
    refine .cons ?_ (D5t ha hm hl hm1 xs _ _ _ _ h2 (fun x hx=>hsub x (List.mem_append_right _ hx)) (fun x hx=>hnot x (List.mem_append_right _ hx)) us hv2)
    unfold B8c at h1
    split at h1
    ·rename_i t z
     cases h1
     exact A1k ho (Or.inr ⟨_,_,rfl⟩) (C6s ha hm (ns:=ns) (x:= .pv t z) (fun n hn=>by cases hn) rfl hv1)
    ·rename_i n i
     split at h1
     ·rename_i t z tl hp
      cases h1
      have hx:(⟨j,n,none⟩:E3)∈ls:=hsub _ (List.mem_append_left _ (List.mem_singleton.2 rfl))
      have hnn:n∉ns:=hnot ⟨j,n,none⟩ (List.mem_append_left _ (List.mem_singleton.2 rfl))
      have hbn:bl n= .live t [z] tl:=by rw [ha n (by rw [hp];intro e;cases e),hp]
      have hb1:B4 (C9 pb ns) bl n= .live t [z] tl:=by rw [A2o _ _ hnn,hbn]
      obtain⟨g0,t',l',tl',g1,g2⟩:=hl.ls_ _ hx
      rw [hb1]at g1
      cases g1
      have e0:G5 (B4 (C9 pb ns) bl) φ bs ls (2000+j)= .live t [z] false:=by
       unfold G5;rw [if_pos g0,W5]
       have g2:A8 bs (2000+j)=some (.live t [z] false):=g2
       rw [g2]
      have e1:K1 (B4 (C9 pb ns) bl) φ ls (2000+j)=φ n:=by
       unfold K1;rw [if_pos g0]
       have:=B1o hl.j_ hx
       have this:A3e ls (2000+j)=some ⟨j,n,none⟩:=this
       rw [this]
       show X9 _ _ _=_
       unfold X9
       rw [hb1]
      have hv1:C1 w bl φ (.ptr n i []) u:=hv1
      simp only [C1,hbn]at hv1
      show C1 w _ _ (.ptr (2000+j) i []) u
      simp only [C1,e0,e1]
      exact hv1
     ·rename_i t z hp
      cases h1
      refine A1k ho (Or.inr ⟨_,_,rfl⟩) (C6s ha hm (ns:=ns) (x:= .ptr n i []) (fun k hk hlv=>?_) (by simp only [B3b,hp]) hv1)
      simp only [G4,List.mem_singleton]at hk
      subst hk
      obtain⟨_,_,_,e⟩:=hlv
      rw [hp]at e;cases e
     ·cases h1
    ·cases h1
  ·cases h
theorem D4h (ha:H4 pb bl) (hm:D2 w0 Bo bl φ w) {ns:List Nat} (hl:j7 w (B4 (C9 pb ns) bl) bs ls) (hm1:D2 w0 Bo (B4 (C9 pb ns) bl) φ w) {b:Bool} {xs:List A} {j:Nat} {ys:List A} {bs':Bl} {ls':List E3} (h:A8D pb b j xs=some (ys,bs',ls'))
  (hsub:∀x,x∈ls'→x∈ls) (hnot:∀x,x∈ls'→x.n∉ns) (hns:∀n,n∈B3 b [] (xs.flatMap G4)→n∈ns) {vs:List Value} (hv:N3 w bl φ xs vs):N3 w (G5 (B4 (C9 pb ns) bl) φ bs ls) (K1 (B4 (C9 pb ns) bl) φ ls) ys vs:=by
 unfold A8D at h
 cases b with
 |true=>exact D5t ha hm hl hm1 xs _ _ _ _ h hsub hnot vs hv
 |false=>
  rw [P7]at h hns
  split at h
  ·rename_i cs hc
   cases h
   exact D8a (B9K hm1 hl) (C4Q xs _ hc) (C5b ha hm xs _ vs hns hc hv)
  ·cases h
theorem E5V (ha:H4 pb bl) (hm:D2 w0 Bo bl φ w) {ns:List Nat} (hl:j7 w (B4 (C9 pb ns) bl) bs ls) (hm1:D2 w0 Bo (B4 (C9 pb ns) bl) φ w) {mc:Nat→Bool} {j:Nat} {ms:List PM} {args asx:List V} {bs':Bl} {ls':List E3} (h:A5b mc pb j ms args asx bs' ls'):
  (∀x,x∈ls'→x∈ls)→(∀x,x∈ls'→x.n∉ns)→(∀n,n∈A9L mc ms args→n∈ns)→∀vs,M5 w bl φ args vs→M5 w (G5 (B4 (C9 pb ns) bl) φ bs ls) (K1 (B4 (C9 pb ns) bl) φ ls) asx vs:=by
 have ho:=B9K hm1 hl
 have st:=v7 ha hm ns
 induction h with
 |nil=>intro _ _ _ vs hv;cases hv;exact .nil
 | @cons j m v a b c ms vs asx bs' cs' h1 h2 ih=>
  intro hsub hnot hoth us hv
  cases hv with
  | @cons _ u _ us hv1 hv2=>
   refine .cons ?_ (ih (fun x hx=>hsub x (List.mem_append_right _ hx)) (fun x hx=>hnot x (List.mem_append_right _ hx)) (fun n hn=>hoth n (by
    cases m with
    |bor=>exact hn
    |d t=>exact List.mem_append_right _ hn
    |fn=>exact List.mem_append_right _ hn)) us hv2)
   cases h1 with
   | @d _ t x z hz hq hf=>
    refine A1k ho (Or.inl ⟨_,_,rfl⟩) (A6K ha hm (ns:=ns) (fun n hn hlv=>?_) hz hv1)
    cases m with
    |bor=>exact absurd hlv (hq rfl n hn)
    |d t=>exact hoth n (List.mem_append_left _ hn)
    |fn=>exact absurd rfl hf
   | @fn f caps cs bs2 cs2 hc=>
    obtain⟨cv,e1,e2⟩:=hv1
    exact⟨cv,e1,D4h ha hm hl hm1 hc (fun x hx=>hsub x (List.mem_append_left _ hx)) (fun x hx=>hnot x (List.mem_append_left _ hx)) (fun n hn=>hoth n (List.mem_append_left _ hn)) e2⟩
   | @lent n cut t l tl hp=>
    have hx:(⟨j,n,cut⟩:E3)∈ls:=hsub _ (List.mem_append_left _ (List.mem_singleton.2 rfl))
    have hnn:n∉ns:=hnot ⟨j,n,cut⟩ (List.mem_append_left _ (List.mem_singleton.2 rfl))
    have hbn:bl n= .live t l tl:=by rw [ha n (by rw [hp];intro e;cases e),hp]
    have hb1:B4 (C9 pb ns) bl n= .live t l tl:=by rw [A2o _ _ hnn,hbn]
    obtain⟨g0,t',l',tl',g1,g2⟩:=hl.ls_ _ hx
    rw [hb1]at g1
    cases g1
    have e0:G5 (B4 (C9 pb ns) bl) φ bs ls (2000+j)= .live t (L9 cut l) false:=by
     unfold G5;rw [if_pos g0,W5]
     have g2:A8 bs (2000+j)=some (.live t (L9 cut l) false):=g2
     rw [g2]
    have e1:K1 (B4 (C9 pb ns) bl) φ ls (2000+j)=X9 (B4 (C9 pb ns) bl) φ ⟨j,n,cut⟩:=by
     unfold K1;rw [if_pos g0]
     have:=B1o hl.j_ hx
     have this:A3e ls (2000+j)=some ⟨j,n,cut⟩:=this
     rw [this]
    show C1 w _ _ (.ref (2000+j)) u
    simp only [C1,e0,e1]
    unfold X9
    rw [hb1]
    simp only
    cases cut with
    |none=>
     have hv1:C1 w bl φ (.ref n) u:=hv1
     simp only [C1,hbn]at hv1
     exact hv1
    |some q=>
     obtain⟨lo,hi⟩:=q
     have hv1:C1 w bl φ (.part n lo hi) u:=hv1
     simp only [C1,hbn]at hv1
     obtain⟨k0,k1,k2,ad,cap,rfl,k3,k4⟩:=hv1
     have hlen:(L9 (some (lo,hi)) l).length=(hi-lo).toNat:=A3V (l:=l) k0 k1 k2
     rcases k4 with rfl| ⟨h1,rfl,h3⟩
     ·refine Or.inl ⟨by rw [hlen];omega,ad,?_⟩
      congr 1;omega
     ·simp only
      rw [if_pos h1]
      refine Or.inr ⟨rfl,cap,by rw [hlen],by rw [hlen];exact k3,h3⟩
end
theorem A7j {d:Nat}:∀(rms:List RM) (j n:Nat),n∈G2 d j rms→∃k,n=I7 d k∧j≤k∧k<j+rms.length
 | [],j,n,h=>by cases h
 |m::ms,j,n,h=>by
  have ih:=A7j (d:=d) ms (j+1) n
  cases m with
  |own t=>
   simp only [G2]at h
   rcases List.mem_cons.1 h with rfl|h
   ·exact⟨j,rfl,Nat.le_refl _,by simp⟩
   ·obtain⟨k,h1,h2,h3⟩:=ih h;exact⟨k,h1,by omega,by simp only [List.length_cons];omega⟩
  |d t=>obtain⟨k,h1,h2,h3⟩:=ih h;exact⟨k,h1,by omega,by simp only [List.length_cons];omega⟩
  |vw=>obtain⟨k,h1,h2,h3⟩:=ih h;exact⟨k,h1,by omega,by simp only [List.length_cons];omega⟩
  |sh=>obtain⟨k,h1,h2,h3⟩:=ih h;exact⟨k,h1,by omega,by simp only [List.length_cons];omega⟩
  |fn=>obtain⟨k,h1,h2,h3⟩:=ih h;exact⟨k,h1,by omega,by simp only [List.length_cons];omega⟩
theorem C3y {d j k:Nat} (h:I7 d j=I7 d k):j=k:=by unfold I7 at h;omega
theorem B1h {us:Bl} {d:Nat}:∀(rms:List RM) (j:Nat) (b2:Bl),B4p us d j rms=some b2→
  (∀n,A8 b2 n≠none→n∈G2 d j rms)∧(∀k,I7 d k∈G2 d j rms→∃t l,G3 us (3000+k)= .live t l true∧A8 b2 (I7 d k)=some (.live t l true))
 | [],j,b2,h=>by cases h;exact⟨fun n h=>absurd rfl h,(fun k hk=>by cases hk)⟩
 | .own t0::ms,j,b2,h=>by
  unfold B4p at h
  split at h
  ·rename_i t l m h1 h2
   cases h
   obtain⟨i1,i2⟩:=B1h ms (j+1) m h2
   refine⟨fun n hn=>?_,fun k hk=>?_⟩
   ·by_cases e:I7 d j=n
    ·exact e▸List.mem_cons_self
    ·have:A8 m n≠none:=by
      intro q;apply hn
      show(B3 (Nat.beq (I7 d j) n) (some _)<|A8 m n)=none
      have:Nat.beq (I7 d j) n=false:=by rw [Bool.eq_false_iff];intro q;exact e (Nat.eq_of_beq_eq_true q)
      rw [this];exact q
     exact List.mem_cons_of_mem _ (i1 n this)
   ·by_cases e:k=j
    ·subst e
     refine⟨t,l,h1,?_⟩
     show(B3 (Nat.beq (I7 d k) (I7 d k)) (some _)<|A8 m _)=_
     rw [Nat.beq_refl];rfl
    ·have hk':I7 d k∈G2 d (j+1) ms:=by
      rcases List.mem_cons.1 hk with q|q
      ·exact absurd (C3y q) e
      ·exact q
     obtain⟨t',l',g1,g2⟩:=i2 k hk'
     refine⟨t',l',g1,?_⟩
     show(B3 (Nat.beq (I7 d j) (I7 d k)) (some _)<|A8 m _)=_
     have:Nat.beq (I7 d j) (I7 d k)=false:=by rw [Bool.eq_false_iff];intro q;exact e (C3y (Nat.eq_of_beq_eq_true q)).symm
     rw [this];exact g2
  ·cases h
 | .d t::ms,j,b2,h=>B1h ms (j+1) b2 h
 | .vw::ms,j,b2,h=>B1h ms (j+1) b2 h
 | .sh::ms,j,b2,h=>B1h ms (j+1) b2 h
 | .fn::ms,j,b2,h=>B1h ms (j+1) b2 h
def A5Y {t:Ty} (c:Option (Int×Int)) (l l':List t.T):List t.T:=match c with|none=>l'|some (lo,hi)=>l.take lo.toNat++l'++l.drop hi.toNat
theorem D7b {pb:Nat→A9} {us:Bl}:∀(ls:List E3) (b1:Bl),(∀x y,x∈ls→y∈ls→x.n=y.n→x=y)→B6N pb us ls=some b1→
  (∀n,A8 b1 n≠none→∃x,x∈ls∧x.n=n)∧(∀x,x∈ls→∃(t:Ty) (l l':List t.T) (tl tl':Bool),pb x.n= .live t l tl∧G3 us (2000+x.j)= .live t l' tl'∧A8 b1 x.n=some (.live t (A5Y x.cut l l') tl))
 | [],b1,_,h=>by cases h;exact⟨fun n h=>absurd rfl h,(fun x hx=>by cases hx)⟩
 |x::ls,b1,hn,h=>by
  unfold B6N at h
  split at h
  ·rename_i y m h1 h2
   cases h
   obtain⟨i1,i2⟩:=D7b ls m (fun a b ha hb=>hn a b (List.mem_cons_of_mem _ ha) (List.mem_cons_of_mem _ hb)) h2
   unfold D7Y at h1
   split at h1
   ·rename_i t l tl t' l' tl' hp hu
    split at h1
    ·rename_i ht
     subst ht
     have hy:y=(x.n, .live t' (A5Y x.cut l l') tl):=by
      cases hc:x.cut with
      |none=>rw [hc]at h1;exact(Option.some.inj h1).symm
      |some q=>obtain⟨lo,hi⟩:=q;rw [hc]at h1;exact(Option.some.inj h1).symm
     subst hy
     refine⟨fun n hk=>?_,fun z hz=>?_⟩
     ·by_cases e:x.n=n
      ·exact⟨x,List.mem_cons_self,e⟩
      ·have:A8 m n≠none:=by
        intro q;apply hk
        show(B3 (Nat.beq x.n n) (some _)<|A8 m n)=none
        have:Nat.beq x.n n=false:=by rw [Bool.eq_false_iff];intro q;exact e (Nat.eq_of_beq_eq_true q)
        rw [this];exact q
       obtain⟨z,hz,e⟩:=i1 n this
       exact⟨z,List.mem_cons_of_mem _ hz,e⟩
     ·by_cases e:z=x
      ·subst e
       refine⟨t',l,l',tl,tl',hp,hu,?_⟩
       show(B3 (Nat.beq z.n z.n) (some _)<|A8 m _)=_
       rw [Nat.beq_refl];rfl
      ·have hz':z∈ls:=by
        rcases List.mem_cons.1 hz with q|q
        ·exact absurd q e
        ·exact q
       obtain⟨t2,l2,l2',tl2,tl2',g1,g2,g3⟩:=i2 z hz'
       refine⟨t2,l2,l2',tl2,tl2',g1,g2,?_⟩
       show(B3 (Nat.beq x.n z.n) (some _)<|A8 m _)=_
       have:Nat.beq x.n z.n=false:=by
        rw [Bool.eq_false_iff];intro q
        exact e (hn x z List.mem_cons_self hz (Nat.eq_of_beq_eq_true q)).symm
       rw [this];exact g3
    ·cases h1
   ·cases h1
  ·cases h
def w9 (φ φ':Nat→Addr) (os:List Nat) (d n:Nat):Addr:=if G8 os n=true then φ' (3000+(n-(4000+8*d)))else φ n
theorem D0M {bl:Nat→A9}:∀(l:List Nat),B2U bl l=true→∀n,n∈l→bl n= .fresh
 | [],_,n,h=>by cases h
 |m::l,h,n,hn=>by
  unfold B2U at h
  split at h
  ·rename_i hm
   rcases List.mem_cons.1 hn with rfl|hn
   ·exact hm
   ·exact D0M l h n hn
  ·cases h
theorem B9c {t:Ty} {l l':List t.T} {c:Option (Int×Int)} (hc:∀lo hi,c=some (lo,hi)→0≤lo∧lo≤hi∧hi≤l.length) (hl:l'.length=(L9 c l).length):
  (A5Y c l l').length=l.length∧∀(i:Nat) y,L7 (A5Y c l l') i=some y→
   (∃k,i=i4 c+k∧L7 l' k=some y)∨(L7 l i=some y∧∃lo hi,c=some (lo,hi)∧(i<lo.toNat∨hi.toNat≤i)):=by
 cases hcc:c with
 |none=>subst hcc;exact⟨hl,fun i y hy=>Or.inl ⟨i,by simp [i4],hy⟩⟩
 |some q=>
  obtain⟨lo,hi⟩:=q
  obtain⟨h0,h1,h2⟩:=hc lo hi hcc
  subst hcc
  have hl:l'.length=(hi-lo).toNat:=by rw [hl];exact A3V h0 h1 h2
  constructor
  ·simp only [A5Y,List.length_append,List.length_take,List.length_drop];omega
  ·intro i y hy
   unfold L7 A5Y at hy
   simp only at hy
   have ht:(l.take lo.toNat).length=lo.toNat:=by rw [List.length_take];omega
   by_cases hi1:i<lo.toNat
   ·rw [List.append_assoc,List.getElem?_append_left (by rw [ht];exact hi1),List.getElem?_take_of_lt hi1]at hy
    exact Or.inr ⟨hy,lo,hi,rfl,Or.inl hi1⟩
   ·rw [List.append_assoc,List.getElem?_append_right (by rw [ht];omega),ht]at hy
    by_cases hi2:i-lo.toNat<l'.length
    ·rw [List.getElem?_append_left hi2]at hy
     exact Or.inl ⟨i-lo.toNat,by simp only [i4];omega,hy⟩
    ·rw [List.getElem?_append_right (by omega),List.getElem?_drop]at hy
     refine Or.inr ⟨?_,lo,hi,rfl,Or.inr (by omega)⟩
     unfold L7
     rw [←hy];congr 1;omega
section
variable {w0 w w':World} {Bo:Nat→Nat→Prop} {bl:Nat→A9} {φ φ':Nat→Addr} {bs us b1 b2:Bl} {ls:List E3} {d:Nat} {rms:List RM}
structure A4x (bl:Nat→A9) (us b1 b2:Bl) (ls:List E3) (d:Nat) (rms:List RM):Prop where
 usS:∀q,q∈us→q.1<10000
 fresh:∀n,n∈G2 d 0 rms→bl n= .fresh
 own1:∀n,A8 b2 n≠none→n∈G2 d 0 rms
 own2:∀k,I7 d k∈G2 d 0 rms→k<900∧∃t l,G3 us (3000+k)= .live t l true∧A8 b2 (I7 d k)=some (.live t l true)
 len1:∀n,A8 b1 n≠none→∃x,x∈ls∧x.n=n
 len2:∀x,x∈ls→∃(t:Ty) (l l':List t.T) (tl tl':Bool),bl x.n= .live t l tl∧G3 us (2000+x.j)= .live t l' tl'∧A8 b1 x.n=some (.live t (A5Y x.cut l l') tl)
theorem E2Y (hb:∀q,q∈us→q.1<10000) {bl0:Nat→A9} {n:Nat} (hn:¬n<10000):B4 us bl0 n=bl0 n:=by
 refine i7 ?_
 cases h:A8 us n with
 |none=>rfl
 |some b=>exact absurd (hb _ (Y9 _ _ _ h)) hn
theorem B2P (hb:A4x bl us b1 b2 ls d rms) (hm:j7 w bl bs ls) {x:E3} (hx:x∈ls):∃(t:Ty) (l l':List t.T) (tl tl':Bool),bl x.n= .live t l tl∧B4 us (G5 bl φ bs ls) (2000+x.j)= .live t l' tl'∧B4 (b1++b2) bl x.n= .live t (A5Y x.cut l l') tl∧G5 bl φ bs ls (2000+x.j)= .live t (L9 x.cut l) false:=by
 obtain⟨t,l,l',tl,tl',h1,h2,h3⟩:=hb.len2 x hx
 obtain⟨g0,t2,l2,tl2,g1,g2⟩:=hm.ls_ x hx
 rw [h1]at g1;cases g1
 refine⟨t,l,l',tl,tl',h1,by rw [D3C (by rw [h2];intro e;cases e),h2],?_,?_⟩
 ·rw [A4r];exact A6h h3
 ·unfold G5;rw [if_pos g0,W5,g2]
theorem B0p (hb:A4x bl us b1 b2 ls d rms) (hls:∀x,x∈ls→live (bl x.n)) {k:Nat} (hk:I7 d k∈G2 d 0 rms):∃t l,(∀bl0,B4 us bl0 (3000+k)= .live t l true)∧B4 (b1++b2) bl (I7 d k)= .live t l true:=by
 obtain⟨_,t,l,h1,h2⟩:=hb.own2 k hk
 refine⟨t,l,fun bl0=>by rw [D3C (by rw [h1];intro e;cases e),h1],?_⟩
 rw [A4r]
 have:A8 b1 (I7 d k)=none:=by
  cases h:A8 b1 (I7 d k)with
  |none=>rfl
  |some b=>
   obtain⟨x,hx,e⟩:=hb.len1 _ (by rw [h];intro e;cases e)
   obtain⟨_,_,_,e2⟩:=hls x hx
   rw [e,hb.fresh _ hk]at e2;cases e2
 rw [i7 this];exact A6h h2
theorem B8q (hb:A4x bl us b1 b2 ls d rms) {n:Nat} (h1:∀x,x∈ls→x.n≠n) (h2:n∉G2 d 0 rms):B4 (b1++b2) bl n=bl n:=by
 rw [A4r,i7,i7]
 ·cases h:A8 b2 n with
  |none=>rfl
  |some b=>exact absurd (hb.own1 n (by rw [h];intro e;cases e)) h2
 ·cases h:A8 b1 n with
  |none=>rfl
  |some b=>
   obtain⟨x,hx,e⟩:=hb.len1 n (by rw [h];intro e;cases e)
   exact absurd e (h1 x hx)
theorem A5W {k:Nat} (hk:I7 d k∈G2 d 0 rms):w9 φ φ' (G2 d 0 rms) d (I7 d k)=φ' (3000+k):=by
 unfold w9
 rw [if_pos (q8.2 hk)]
 unfold I7
 congr 2;omega
theorem A1e {n:Nat} (h:n∉G2 d 0 rms):w9 φ φ' (G2 d 0 rms) d n=φ n:=by
 unfold w9
 rw [if_neg (fun e=>h (q8.1 e))]
theorem B7w (hm:j7 w bl bs ls) {x:E3} (hx:x∈ls):K1 bl φ ls (2000+x.j)=X9 bl φ x:=by
 unfold K1;rw [if_pos (hm.ls_ x hx).1,B1o hm.j_ hx]
theorem C0V (m:D2 w0 Bo bl φ w) (hm:j7 w bl bs ls) (hb:A4x bl us b1 b2 ls d rms) (st:E7 w (S3 bs (K1 bl φ ls)) (G5 bl φ bs ls) (K1 bl φ ls) w (B4 us (G5 bl φ bs ls)) φ' w') (b:Nat)
  (ho:C7 (B4 (b1++b2) bl) (w9 φ φ' (G2 d 0 rms) d) b):C7 (B4 us (G5 bl φ bs ls)) φ' b:=by
 obtain⟨n,h1,h2,h3⟩:=ho
 have hls:∀x,x∈ls→live (bl x.n):=fun x hx=>by obtain⟨_,t,l,tl,g,_⟩:=hm.ls_ x hx;exact⟨t,l,tl,g⟩
 have foreign:∀n,live (bl n)→¬B5e bl φ ls n→(φ n).spot=none→(φ n).block=b→C7 (B4 us (G5 bl φ bs ls)) φ' b:=by
  intro n h1 hx h2 h3
  have e0:G5 bl φ bs ls (10000+n)=bl n:=by
   unfold G5
   rw [if_neg (by omega),show 10000+n-10000=n from by omega,if_neg hx]
  have e1:K1 bl φ ls (10000+n)=φ n:=by unfold K1;rw [if_neg (by omega),show 10000+n-10000=n from by omega]
  have e2:B4 us (G5 bl φ bs ls) (10000+n)=bl n:=by rw [E2Y hb.usS (by omega),e0]
  have hne:G5 bl φ bs ls (10000+n)≠ .fresh:=by rw [e0];obtain⟨_,_,_,q⟩:=h1;rw [q];intro e;cases e
  have e3:=(st.goes.le (10000+n) hne).2 (by rw [e2];obtain⟨_,_,_,q⟩:=h1;rw [q];rfl)
  exact⟨10000+n,by rw [e2];exact h1,by rw [e3,e1];exact h2,by rw [e3,e1];exact h3⟩
 by_cases hx:∃x,x∈ls∧x.n=n
 ·obtain⟨x,hx,rfl⟩:=hx
  have hno:x.n∉G2 d 0 rms:=by
   intro e;obtain⟨_,_,_,q⟩:=hls x hx;rw [hb.fresh _ e]at q;cases q
  rw [A1e hno]at h2 h3
  by_cases hr:B5e bl φ ls x.n
  ·obtain⟨y,hy,e,hs⟩:=hr
   have:=hm.n_ y x hy hx e
   subst this
   obtain⟨t,l,l',tl,tl',g1,g2,g3,g4⟩:=B2P hb hm hx
   have e3:=(st.goes.le (2000+y.j) (by rw [g4];intro e;cases e)).2 (by rw [g2];rfl)
   rw [B7w hm hx]at e3
   obtain⟨k1,k2,_⟩:=A5S hs g1 m
   exact⟨2000+y.j,⟨_,_,_,g2⟩,by rw [e3];exact hs,by rw [e3,k2];exact h3⟩
  ·exact foreign x.n (hls x hx) hr h2 h3
 ·by_cases hn:n∈G2 d 0 rms
  ·obtain⟨k,rfl,_,_⟩:=A7j rms 0 n hn
   rw [A5W hn]at h2 h3
   obtain⟨t,l,g1,g2⟩:=B0p hb hls hn
   exact⟨3000+k,⟨t,l,true,g1 _⟩,h2,h3⟩
  ·rw [A1e hn]at h2 h3
   rw [B8q hb (fun x hx' e=>hx ⟨x,hx',e⟩) hn]at h1
   exact foreign n h1 (fun⟨x,hx',e,_⟩=>hx ⟨x,hx',e⟩) h2 h3
end
section
variable {w0 w w':World} {Bo:Nat→Nat→Prop} {bl:Nat→A9} {φ φ':Nat→Addr} {bs us b1 b2:Bl} {ls:List E3} {d:Nat} {rms:List RM}
theorem B6j (m:D2 w0 Bo bl φ w) (hm:j7 w bl bs ls) {b o:Nat} (h:S3 bs (K1 bl φ ls) b o):∃x,x∈ls∧∃(t:Ty) (l:List t.T) (tl:Bool),bl x.n= .live t l tl∧(φ x.n).spot=none∧(φ x.n).block=b∧
  (φ x.n).off+i4 x.cut*t.sz≤o∧o<(φ x.n).off+i4 x.cut*t.sz+(L9 x.cut l).length*t.sz:=by
 obtain⟨n,t,l,tl,hn,h1,h2,h3,h4,h5⟩:=h
 obtain⟨x,hx,rfl,_,_,l0,tl0,hb,rfl⟩:=hm.small h1
 rw [B7w hm hx]at h2 h3 h4 h5
 obtain⟨k1,k2,k3,k4⟩:=A5S h2 hb m
 rw [k4]at h4 h5
 exact⟨x,hx,t,l0,tl0,hb,k1,by rw [←k2];exact h3,h4,h5⟩
theorem F4p (m:D2 w0 Bo bl φ w) {x:E3} {t:Ty} {l:List t.T} {tl:Bool} (hb:bl x.n= .live t l tl) (hs:(φ x.n).spot=none) (hne:L9 x.cut l≠[]):(X9 bl φ x).spot=none:=by
 unfold X9
 rw [hb]
 simp only
 cases x.cut with
 |none=>exact hs
 |some q=>obtain⟨lo,hi⟩:=q;simp only;rw [if_pos hs]
theorem E8H (m:D2 w0 Bo bl φ w) (hm:j7 w bl bs ls) (hb:A4x bl us b1 b2 ls d rms) (st:E7 w (S3 bs (K1 bl φ ls)) (G5 bl φ bs ls) (K1 bl φ ls) w (B4 us (G5 bl φ bs ls)) φ' w'):
  E7 w0 Bo bl φ w (B4 (b1++b2) bl) (w9 φ φ' (G2 d 0 rms) d) w':=by
 have hls:∀x,x∈ls→live (bl x.n):=fun x hx=>by obtain⟨_,t,l,tl,g,_⟩:=hm.ls_ x hx;exact⟨t,l,tl,g⟩
 have hfr:=st.mem.fr
 have hno:∀x,x∈ls→x.n∉G2 d 0 rms:=by
  intro x hx e;obtain⟨_,_,_,q⟩:=hls x hx;rw [hb.fresh _ e]at q;cases q
 have hnew:∀k,I7 d k∈G2 d 0 rms→(φ' (3000+k)).spot=none→w.heap.size≤(φ' (3000+k)).block:=by
  intro k hk hs
  obtain⟨hk9,_⟩:=hb.own2 k hk
  obtain⟨t,l,g1,_⟩:=B0p hb hls hk
  rcases st.mem.lo (3000+k) t l true (by omega) (g1 _) hs with h| ⟨h,_⟩
  ·exact h
  ·cases h
 have hown:=C0V m hm hb st
 have he:P0 w (C7 bl φ) w' (C7 (B4 (b1++b2) bl) (w9 φ φ' (G2 d 0 rms) d)):=by
  refine hfr.ext (fun b o _ h=>?_) fun b hbw ho=>?_
  ·obtain⟨x,hx,t,l,tl,g1,g2,g3,_⟩:=B6j m hm h
   exact⟨x.n,⟨_,_,_,g1⟩,g2,g3⟩
  ·obtain⟨n,h1,h2,h3⟩:=ho
   by_cases hx:∃x,x∈ls∧x.n=n
   ·obtain⟨x,hx,rfl⟩:=hx
    rw [A1e (hno x hx)]at h2 h3
    exact⟨x.n,hls x hx,h2,h3⟩
   ·by_cases hn:n∈G2 d 0 rms
    ·obtain⟨k,rfl,_,_⟩:=A7j rms 0 n hn
     rw [A5W hn]at h2 h3
     have:=hnew k hn h2
     omega
    ·rw [A1e hn]at h2 h3
     rw [B8q hb (fun x hx' e=>hx ⟨x,hx',e⟩) hn]at h1
     exact⟨n,h1,h2,h3⟩
 have heo:P0 w' (C7 (B4 us (G5 bl φ bs ls)) φ') w' (C7 (B4 (b1++b2) bl) (w9 φ φ' (G2 d 0 rms) d)):=(M9.refl w' (fun _ _=>False)).ext (fun _ _ _ h=>h.elim) fun b _=>hown b
 refine A4n m (fun n=>(∃x,x∈ls∧x.n=n)∨n∈G2 d 0 rms) (fun n hn=>?_) (fun n hn hf=>?_) he (fun n hn hl hs o v hv=>?_) (fun n hn=>?_) (fun n k hn h1 h2 h3 h4 h5=>?_) (fun n t l tl hn hlt h1 h2=>?_) ?_
 ·rw [not_or]at hn
  exact⟨B8q hb (fun x hx e=>hn.1 ⟨x,hx,e⟩) hn.2,A1e hn.2⟩
 ·rcases hn with⟨x,hx,rfl⟩|hn
  ·obtain⟨t,l,l',tl,tl',g1,g2,g3,g4⟩:=B2P hb hm hx
   rw [g1,g3]
   have hc:=fun lo hi e=>hm.cut x hx lo hi e t l tl g1
   have hlen:l'.length=(L9 x.cut l).length:=by
    have:=(st.goes.le (2000+x.j) (by rw [g4];intro e;cases e)).1
    rw [g4,g2]at this
    cases this with
    |same=>rfl
    |wrote h=>exact h
   exact⟨.wrote (B9c hc hlen).1,fun _=>A1e (hno x hx)⟩
  ·exact absurd (hb.fresh n hn) hf
 ·rw [not_or]at hn
  refine(hfr.cell _ _ (A8k hv) fun h=>?_).trans hv
  obtain⟨x,hx,t,l,tl,g1,g2,g3,_⟩:=B6j m hm h
  exact hn.1 ⟨x,hx,m.uniq _ _ ⟨_,_,_,g1⟩ hl g2 hs g3⟩
 ·rcases hn with⟨x,hx,rfl⟩|hn
  ·obtain⟨t,l,l',tl,tl',g1,g2,g3,g4⟩:=B2P hb hm hx
   rw [g3,A1e (hno x hx)]
   have hc:=fun lo hi e=>hm.cut x hx lo hi e t l tl g1
   have hle:=st.goes.le (2000+x.j) (by rw [g4];intro e;cases e)
   have hlen:l'.length=(L9 x.cut l).length:=by
    have:=hle.1
    rw [g4,g2]at this
    cases this with
    |same=>rfl
    |wrote h=>exact h
   have hφ:=hle.2 (by rw [g2];rfl)
   rw [B7w hm hx]at hφ
   obtain⟨s1,s2⟩:=B9c hc hlen
   have hk:=m.blk x.n
   rw [g1]at hk
   rcases hk with⟨k1,k2⟩| ⟨k1,k2,k3,k4⟩
   ·exact Or.inl ⟨k1,by rw [s1];exact k2⟩
   ·refine Or.inr ⟨k1,Nat.lt_of_lt_of_le k2 hfr.size,fun i y hy=>?_,fun j hj=>?_⟩
    ·rcases s2 i y hy with⟨k,rfl,hy'⟩| ⟨hy',lo,hi,e,hr⟩
     ·have hne:L9 x.cut l≠[]:=by
       intro e
       have:=F0Q hy'
       rw [hlen,e]at this;simp at this
      have hsp:=F4p m g1 k1 hne
      obtain⟨_,a2,_,a4⟩:=A5S hsp g1 m
      have hk':=st.mem.blk (2000+x.j)
      rw [g2,hφ]at hk'
      rcases hk' with hk'| ⟨_,_,q3,_⟩
      ·exact absurd hsp hk'.1
      ·obtain⟨ci,r1,r2⟩:=q3 k y hy'
       refine⟨ci,?_,S6 heo _ _ _ r2⟩
       rw [a2,a4]at r1
       rw [Nat.add_mul,←Nat.add_assoc]
       exact r1
     ·obtain⟨ci,r1,r2⟩:=k3 i y hy'
      refine⟨ci,fun q v hq=>?_,S6 he _ _ _ r2⟩
      have hcl:=H3 _ _ _ r2
      have hqs:q<t.sz:=by
       rcases Nat.lt_or_ge q ci.length with h|h
       ·omega
       ·rw [List.getElem?_eq_none h]at hq;cases hq
      refine(hfr.cell _ _ k2 fun h=>?_).trans (r1 q v hq)
      obtain⟨x2,hx2,t2,l2,tl2,u1,u2,u3,u4,u5⟩:=B6j m hm h
      have:=hm.n_ x2 x hx2 hx (m.uniq _ _ ⟨_,_,_,u1⟩ (hls x hx) u2 k1 u3)
      subst this
      rw [g1]at u1;cases u1
      obtain⟨c0,c1,c2⟩:=hc lo hi e
      rw [e]at u4 u5
      have hsl:(L9 (some (lo,hi)) l).length=(hi-lo).toNat:=A3V c0 c1 c2
      rw [hsl]at u5
      simp only [i4]at u4 u5
      rcases hr with hr|hr
      ·have:=B4R hr hqs;omega
      ·have h1:hi.toNat*t.sz≤i*t.sz:=Nat.mul_le_mul_right _ hr
       have h2:lo.toNat*t.sz+(hi-lo).toNat*t.sz=hi.toNat*t.sz:=by
        rw [←Nat.add_mul];congr 1;omega
       omega
    ·rw [s1]at hj
     exact⟨hfr.some_ _ _ (k4 j hj).1,(hfr.froz _ _ k2).trans (k4 j hj).2⟩
  ·obtain⟨k,rfl,_,_⟩:=A7j rms 0 n hn
   obtain⟨t,l,g1,g2⟩:=B0p hb hls hn
   rw [A5W hn,g2]
   have hk:=st.mem.blk (3000+k)
   rw [g1]at hk
   exact A9H heo (fun _ _ _ _ h=>h) hk
 ·have place:∀n,live (B4 (b1++b2) bl n)→(w9 φ φ' (G2 d 0 rms) d n).spot=none→(∃k,n=I7 d k∧n∈G2 d 0 rms)∨(n∉G2 d 0 rms∧live (bl n)):=by
   intro n hl hs
   by_cases hn:n∈G2 d 0 rms
   ·obtain⟨k,rfl,_,_⟩:=A7j rms 0 n hn
    exact Or.inl ⟨k,rfl,hn⟩
   ·by_cases hx:∃x,x∈ls∧x.n=n
    ·obtain⟨x,hx,rfl⟩:=hx
     exact Or.inr ⟨hn,hls x hx⟩
    ·rw [B8q hb (fun x hx' e=>hx ⟨x,hx',e⟩) hn]at hl
     exact Or.inr ⟨hn,hl⟩
  rcases place n h1 h3 with⟨i,rfl,hi⟩| ⟨hi,hi2⟩
  ·rw [A5W hi]at h3 h5
   rcases place k h2 h4 with⟨j,rfl,hj⟩| ⟨hj,hj2⟩
   ·rw [A5W hj]at h4 h5
    obtain⟨t,l,g1,_⟩:=B0p hb hls hi
    obtain⟨t',l',g1',_⟩:=B0p hb hls hj
    have:=st.mem.uniq (3000+i) (3000+j) ⟨_,_,_,g1 _⟩ ⟨_,_,_,g1' _⟩ h3 h4 h5
    rw [show i=j from by omega]
   ·rw [A1e hj]at h4 h5
    have h6:=hnew i hi h3
    have h7:=m.at_ k (by obtain⟨_,_,_,q⟩:=hj2;rw [q];rfl) h4
    omega
  ·rw [A1e hi]at h3 h5
   rcases place k h2 h4 with⟨j,rfl,hj⟩| ⟨hj,hj2⟩
   ·rw [A5W hj]at h4 h5
    have h6:=hnew j hj h4
    have h7:=m.at_ n (by obtain⟨_,_,_,q⟩:=hi2;rw [q];rfl) h3
    omega
   ·rw [A1e hj]at h4 h5
    exact m.uniq n k hi2 hj2 h3 h4 h5
 ·rcases hn with⟨x,hx,rfl⟩|hn
  ·obtain⟨t0,l0,l',tl0,tl',g1,g2,g3,g4⟩:=B2P hb hm hx
   rw [g3]at h1
   cases h1
   rw [A1e (hno x hx)]at h2⊢
   have hc:=fun lo hi e=>hm.cut x hx lo hi e t l0 tl g1
   have hlen:l'.length=(L9 x.cut l0).length:=by
    have:=(st.goes.le (2000+x.j) (by rw [g4];intro e;cases e)).1
    rw [g4,g2]at this
    cases this with
    |same=>rfl
    |wrote h=>exact h
   rw [(B9c hc hlen).1]
   exact m.lo x.n t l0 tl hlt g1 h2
  ·obtain⟨k,rfl,_,_⟩:=A7j rms 0 n hn
   rw [A5W hn]at h2⊢
   exact Or.inl (Nat.le_trans m.fr.size (hnew k hn h2))
 ·refine m.fr.trans hfr fun b o hbw h=>?_
  obtain⟨x,hx,t,l,tl,g1,g2,g3,g4,g5⟩:=B6j m hm h
  rcases m.lo x.n t l tl (hm.nl x hx) g1 g2 with q| ⟨_,q⟩
  ·omega
  ·have hs:=D5Q (x:=x) (l:=l) fun lo hi e=>hm.cut x hx lo hi e t l tl g1
   have h7:(i4 x.cut+(L9 x.cut l).length)*t.sz≤l.length*t.sz:=Nat.mul_le_mul_right _ (by omega)
   rw [Nat.add_mul]at h7
   have:=q (o-(φ x.n).off) (by omega)
   rw [g3]at this
   rwa [show(φ x.n).off+(o-(φ x.n).off)=o from by omega]at this
end
section
variable {w0 w w':World} {Bo:Nat→Nat→Prop} {bl:Nat→A9} {φ φ':Nat→Addr} {bs us b1 b2:Bl} {ls:List E3} {d:Nat} {rms:List RM}
theorem D7M (m:D2 w0 Bo bl φ w) (hm:j7 w bl bs ls) (hb:A4x bl us b1 b2 ls d rms) (st:E7 w (S3 bs (K1 bl φ ls)) (G5 bl φ bs ls) (K1 bl φ ls) w (B4 us (G5 bl φ bs ls)) φ' w') {x y:A}
  (h:B4S ls (G2 d 0 rms) d x=some y) {v:Value} (hr:C1 w' (B4 us (G5 bl φ bs ls)) φ' x v):C1 w' (B4 (b1++b2) bl) (w9 φ φ' (G2 d 0 rms) d) y v:=by
 have hls:∀x,x∈ls→live (bl x.n):=fun x hx=>by obtain⟨_,t,l,tl,g,_⟩:=hm.ls_ x hx;exact⟨t,l,tl,g⟩
 have hown:=C0V m hm hb st
 unfold B4S at h
 split at h
 ·rename_i k
  cases hc:(Nat.ble 3000 k&&G8 (G2 d 0 rms) (I7 d (k-3000)))with
  |false=>rw [hc]at h;cases h
  |true=>
   rw [hc]at h
   cases h
   rw [Bool.and_eq_true]at hc
   have h3:3000≤k:=Nat.le_of_ble_eq_true hc.1
   have hk:=q8.1 hc.2
   obtain⟨i,rfl⟩:∃i,k=3000+i:=⟨k-3000,by omega⟩
   rw [show 3000+i-3000=i from by omega]at hk⊢
   obtain⟨t,l,g1,g2⟩:=B0p hb hls hk
   simp only [C1,g1,g2,A5W hk]at hr⊢
   exact hr
 ·rename_i k p q
  split at h
  ·rename_i x hx
   obtain⟨hxl,rfl⟩:=E7W hx
   obtain⟨t,l,l',tl,tl',g1,g2,g3,g4⟩:=B2P hb hm hxl
   have hle:=st.goes.le (2000+x.j) (by rw [g4];intro e;cases e)
   have hlen:l'.length=(L9 x.cut l).length:=by
    have:=hle.1
    rw [g4,g2]at this
    cases this with
    |same=>rfl
    |wrote h=>exact h
   have hφ:=hle.2 (by rw [g2];rfl)
   rw [B7w hm hxl]at hφ
   have hc:=fun lo hi e=>hm.cut x hxl lo hi e t l tl g1
   have s1:=(B9c hc hlen).1
   have hno:x.n∉G2 d 0 rms:=by
    intro e;obtain⟨_,_,_,q⟩:=hls x hxl;rw [hb.fresh _ e]at q;cases q
   simp only [C1,g2,hφ]at hr
   obtain⟨p0,p1,p2,ad,cap,rfl,p3,p4⟩:=hr
   rw [hlen]at p2
   have fin:∀lo hi:Int,0≤lo→lo≤hi→hi≤l.length→(hi-lo).toNat=(q-p).toNat→(p=q→lo=hi)→(∀hs:(X9 bl φ x).spot=none,(X9 bl φ x).off+p.toNat*t.sz=(φ x.n).off+lo.toNat*t.sz)→
     C1 w' (B4 (b1++b2) bl) (w9 φ φ' (G2 d 0 rms) d) (.part x.n lo hi) (.slice ad (q-p).toNat cap):=by
    intro lo hi h0 h1 h2 h3 h5 h4
    simp only [C1,g3,A1e hno,s1]
    refine⟨h0,h1,h2,ad,cap,by rw [h3],by rw [h3];exact p3,?_⟩
    rcases p4 with p4| ⟨p4,rfl,p5⟩
    ·exact Or.inl p4
    ·obtain⟨k1,k2,_⟩:=A5S p4 g1 m
     rw [h4 p4,k2]at p5
     exact Or.inr ⟨k1,by rw [h4 p4,k2],p5⟩
   split at h
   ·rename_i hcut
    cases h
    rw [hcut]at p2
    refine fin p q p0 p1 p2 rfl id fun hs=>?_
    obtain⟨_,_,_,k4⟩:=A5S hs g1 m
    rw [k4,hcut];simp [i4]
   ·rename_i lo hi hcut
    cases h
    obtain⟨c0,c1,c2⟩:=hc lo hi hcut
    rw [hcut]at p2
    have hsl:(L9 (some (lo,hi)) l).length=(hi-lo).toNat:=A3V c0 c1 c2
    rw [hsl]at p2
    refine fin (lo+p) (lo+q) (by omega) (by omega) (by omega) (by congr 1;omega) (fun e=>by rw [e]) fun hs=>?_
    obtain⟨_,_,_,k4⟩:=A5S hs g1 m
    rw [k4,hcut]
    simp only [i4]
    rw [show(lo+p).toNat=lo.toNat+p.toNat from by omega,Nat.add_mul];omega
  ·cases h
 ·cases h;exact A1k hown (Or.inl ⟨_,_,rfl⟩) hr
 ·cases h;exact A1k hown (Or.inr ⟨_,_,rfl⟩) hr
 ·cases h
theorem D7N (m:D2 w0 Bo bl φ w) (hm:j7 w bl bs ls) (hb:A4x bl us b1 b2 ls d rms) (st:E7 w (S3 bs (K1 bl φ ls)) (G5 bl φ bs ls) (K1 bl φ ls) w (B4 us (G5 bl φ bs ls)) φ' w'):
  ∀(xs ys:List A) (vs:List Value),A9G ls (G2 d 0 rms) d xs=some ys→N3 w' (B4 us (G5 bl φ bs ls)) φ' xs vs→N3 w' (B4 (b1++b2) bl) (w9 φ φ' (G2 d 0 rms) d) ys vs
 | [],ys,vs,h,hr=>by cases h;cases hr;exact .nil
 |x::xs,ys,vs,h,hr=>by
  unfold A9G at h
  split at h
  ·rename_i y z h1 h2
   cases h
   cases hr with
   |cons r1 r2=>exact .cons (D7M m hm hb st h1 r1) (D7N m hm hb st xs z _ h2 r2)
  ·cases h
theorem D7C {d:Nat}:∀(xs ys:List A),A9G [] [] d xs=some ys→ys=xs∧∀x,x∈xs→(∃t z,x= .v t z)∨(∃t z,x= .pv t z)
 | [],ys,h=>by cases h;exact⟨rfl,fun x h=>by cases h⟩
 |x::xs,ys,h=>by
  unfold A9G at h
  split at h
  ·rename_i y z h1 h2
   cases h
   obtain⟨i1,i2⟩:=D7C xs z h2
   have:y=x∧((∃t z,x= .v t z)∨(∃t z,x= .pv t z)):=by
    unfold B4S at h1
    split at h1
    ·simp [G8]at h1
    ·simp [A3e]at h1
    ·cases h1;exact⟨rfl,Or.inl ⟨_,_,rfl⟩⟩
    ·cases h1;exact⟨rfl,Or.inr ⟨_,_,rfl⟩⟩
    ·cases h1
   obtain⟨rfl,hx⟩:=this
   exact⟨by rw [i1],fun q hq=>by rcases List.mem_cons.1 hq with rfl|hq;exact hx;exact i2 q hq⟩
  ·cases h
theorem D9Z {w:World} {bl bl':Nat→A9} {φ φ':Nat→Addr} (ho:∀b,C7 bl' φ' b→C7 bl φ b) {xs:List A} {vs:List Value} (hx:∀x,x∈xs→(∃t z,x= .v t z)∨(∃t z,x= .pv t z)) (h:N3 w bl φ xs vs):N3 w bl' φ' xs vs:=by
 induction h with
 |nil=>exact .nil
 |cons h _ ih=>exact .cons (A1k ho (hx _ List.mem_cons_self) h) (ih fun x hx'=>hx x (List.mem_cons_of_mem _ hx'))
theorem E8f (m:D2 w0 Bo bl φ w) (hm:j7 w bl bs ls) (hb:A4x bl us b1 b2 ls d rms) (st:E7 w (S3 bs (K1 bl φ ls)) (G5 bl φ bs ls) (K1 bl φ ls) w (B4 us (G5 bl φ bs ls)) φ' w') {x y:V}
  (h:C4X ls (G2 d 0 rms) d x=some y) {v:Value} (hr:C4 w' (B4 us (G5 bl φ bs ls)) φ' x v):C4 w' (B4 (b1++b2) bl) (w9 φ φ' (G2 d 0 rms) d) y v:=by
 unfold C4X at h
 split at h
 ·split at h
  ·rename_i y h1;cases h;exact D7M m hm hb st h1 hr
  ·cases h
 ·split at h
  ·rename_i cs h1
   cases h
   obtain⟨rfl,hx⟩:=D7C _ _ h1
   obtain⟨cv,e1,e2⟩:=hr
   exact⟨cv,e1,D9Z (C0V m hm hb st) hx e2⟩
  ·cases h
 ·split at h
  ·rename_i ws h1
   cases h
   obtain⟨cv,e1,e2⟩:=hr
   exact⟨cv,e1,D7N m hm hb st _ _ _ h1 e2⟩
  ·cases h
end
section
variable {P:Program} {w0:World} {Bo:Nat→Nat→Prop} {pb:Nat→A9} {R:Type} {K:KV R} {r:R} {E:E1}
theorem A3W.mono {f:Nat} {args:Array Value} {w:World} {Q Q':Value→World→Prop} (h:A3W P f args w Q) (hq:∀v w',Q v w'→Q' v w'):A3W P f args w Q':=by
 rcases h with⟨h1,h2⟩| ⟨v,w',h1,h2⟩
 ·exact Or.inl ⟨h1,h2.mono fun e w' ⟨v,e1,e2⟩=>⟨v,e1,hq _ _ e2⟩⟩
 ·exact Or.inr ⟨v,w',h1,hq _ _ h2⟩
theorem F0k {w:World} {bl:Nat→A9} {φ:Nat→Addr} {xs ys:List V} {us vs:List Value} (h:M5 w bl φ xs us) (k:M5 w bl φ ys vs):M5 w bl φ (xs++ys) (us++vs):=by
 induction h with
 |nil=>exact k
 |cons h _ ih=>exact .cons h ih
theorem E1i {w:World} {bl:Nat→A9} {φ:Nat→Addr} {xs:List A} {us:List Value} (h:N3 w bl φ xs us):M5 w bl φ (xs.map V.a) us:=by
 induction h with
 |nil=>exact .nil
 |cons h _ ih=>exact .cons h ih
theorem F2P {mc:Nat→Bool} {w:World} {bl:Nat→A9} {φ:Nat→Addr} {j:Nat} {ms:List PM} {args asx:List V} {bs:Bl} {ls:List E3} (h:A5b mc pb j ms args asx bs ls):∀vs,M5 w bl φ args vs→
  ∀x,x∈ls→∀lo hi,x.cut=some (lo,hi)→∀t l tl,bl x.n= .live t l tl→0≤lo∧lo≤hi∧hi≤l.length:=by
 induction h with
 |nil=>intro vs _ x hx;cases hx
 | @cons j m v a b c ms vs asx bs cs h1 h2 ih=>
  intro us hv x hx lo hi hc t l tl hb
  cases hv with
  |cons r1 r2=>
   rcases List.mem_append.1 hx with hx|hx
   ·cases h1 with
    |d=>cases hx
    |fn hcm=>rw [(B7A hcm).2 x hx]at hc;cases hc
    | @lent n cut t0 l0 tl0 hp=>
     rw [List.mem_singleton]at hx
     subst hx
     simp only at hc hb
     subst hc
     have r1:C1 w bl φ (.part n lo hi) _:=r1
     simp only [C1,hb]at r1
     exact⟨r1.1,r1.2.1,r1.2.2.1⟩
   ·exact ih _ r2 x hx lo hi hc t l tl hb
theorem F6Q {v:V} {us:Bl} {ls:List E3} {d:Nat} {rms:List RM} (h:C3u pb rms ls d v us K=some r):∃v' us',K v' us'=some r∧
  ∀(bl:Nat→A9) (φ φ':Nat→Addr) (w w':World) (u:Value),H4 pb bl→E7 w0 Bo bl φ w (B4 us bl) φ' w'→C4 w' (B4 us bl) φ' v u→
   ∃φ'',E7 w0 Bo bl φ w (B4 us' bl) φ'' w'∧C4 w' (B4 us' bl) φ'' v' u:=by
 have same:K v us=some r→∃v' us',K v' us'=some r∧
  ∀(bl:Nat→A9) (φ φ':Nat→Addr) (w w':World) (u:Value),H4 pb bl→E7 w0 Bo bl φ w (B4 us bl) φ' w'→C4 w' (B4 us bl) φ' v u→
   ∃φ'',E7 w0 Bo bl φ w (B4 us' bl) φ'' w'∧C4 w' (B4 us' bl) φ'' v' u:=fun h=>⟨v,us,h,fun bl φ φ' w w' u _ h1 h2=>⟨φ',h1,h2⟩⟩
 unfold C3u at h
 split at h
 ·rename_i n p q
  cases hc:(Nat.blt n 10000&&ls.any (fun x=>Nat.beq x.n n&&x.cut.isNone))with
  |false=>rw [hc,P7]at h;exact same h
  |true=>
   rw [hc,E4]at h
   rw [Bool.and_eq_true,Nat.blt_eq]at hc
   split at h
   ·rename_i t l hn hd
    refine⟨_,_,h,fun bl φ φ' w w' u ha st hr=>?_⟩
    have agr:∀m,B4 us pb m≠ .dead→B4 us bl m=B4 us pb m:=by
     intro m hm
     unfold B4 at hm⊢
     cases hl:A8 us m with
     |some b=>rfl
     |none=>rw [hl]at hm;exact ha m hm
    have hn':B4 us bl n= .live t l true:=by rw [agr n (by rw [hn];intro e;cases e),hn]
    have hd':B4 us bl (I7 d 0)= .fresh:=by rw [agr _ (by rw [hd];intro e;cases e),hd]
    have hnd:n≠I7 d 0:=by intro e;rw [←e,hn']at hd';cases hd'
    rw [Q4,Q4]
    simp only [C4,C1,hn']at hr
    obtain⟨p0,p1,p2,ad,cap,rfl,p3,p4⟩:=hr
    have q0:(0:Int)≤q:=p1
    have hlen:(l.take q.toNat).length=(q-Int.ofNat 0).toNat:=by
     rw [List.length_take]
     have:(q-Int.ofNat 0).toNat=q.toNat:=by simp
     omega
    by_cases hs:(φ' n).spot=none
    ·have harr:=A7d st.mem (Or.inl ⟨true,hn'⟩) hs
     have hk:=st.mem.blk n
     rw [hn']at hk
     rcases hk with hk| ⟨_,_,_,hcells⟩
     ·exact absurd hs hk.1
     have sg:=D1G st.mem hc.1 hn' hs hd' (l.take q.toNat) (b:= .dead) (Or.inl ⟨(by rw [hn'];intro e;cases e),rfl⟩) (M9.refl w' _) (fun i y hy=>harr i y (by
      unfold L7 at hy⊢
      rw [List.getElem?_take]at hy
      split at hy
      ·exact hy
      ·cases hy)) (fun j hj=>hcells j (Nat.lt_of_lt_of_le hj (Nat.mul_le_mul_right _ (by rw [List.length_take];exact Nat.min_le_right _ _))))
     refine⟨_,st.trans sg,?_⟩
     simp only [C4,C1,O3 hnd.symm,Q9,Z4]
     rcases p4 with rfl| ⟨_,rfl,p5⟩
     ·refine Or.inl ⟨by rw [hlen];omega,ad,?_⟩
      congr 1;omega
     ·have e0:(Int.ofNat 0).toNat*t.sz=0:=by simp
      rw [e0,Nat.add_zero]at p5⊢
      have hadr:(⟨(φ' n).block,(φ' n).off,none⟩:Addr)=φ' n:=by cases hq:φ' n with|mk b o s=>rw [hq]at hs;simp only at hs;rw [hs]
      rw [hadr]
      exact Or.inr ⟨hs,cap,by rw [hlen],by rw [hlen];exact p3,p5⟩
    ·have hk:=st.mem.blk n
     rw [hn']at hk
     rcases hk with hk|hk
     ·have hl0:l=[]:=List.eq_nil_of_length_eq_zero hk.2
      subst hl0
      have e1:List.take q.toNat ([]:List t.T)=[]:=List.take_nil
      rw [e1]
      have sn:=D5a st.mem hd' t
      have sd:=E6m sn.mem (n:=n) (by rw [O3 hnd,hn'];intro e;cases e)
      refine⟨_,st.trans (sn.trans sd),B0E sd.goes _ _ ?_⟩
      rcases p4 with rfl| ⟨p4,_⟩
      ·have:(q-Int.ofNat 0).toNat=0:=by omega
       rw [this]
       exact D4m
      ·exact absurd p4 hs
     ·exact absurd hk.1 hs
   ·exact same h
 ·exact same h
theorem D5S {orc:P6 R} (horc:A0o P orc) (hpb:∀n,pb n≠ .dead→n<10000) {fv:V} {args:List V} {d:Nat} (h:B7n E orc fv args d pb K=some r):∃v' us f caps,K v' us=some r∧fv= .cl f caps∧
  ∀(bl:Nat→A9) (φ:Nat→Addr) (w:World) (vs cv:List Value),H4 pb bl→D2 w0 Bo bl φ w→M5 w bl φ args vs→N3 w bl φ caps cv→
   A3W P f (vs++cv).toArray w fun v w'=>∃φ',E7 w0 Bo bl φ w (B4 us bl) φ' w'∧C4 w' (B4 us bl) φ' v' v:=by
 unfold B7n at h
 split at h
 ·rename_i f caps
  split at h
  ·rename_i pms rms hpar hres
   split at h
   ·rename_i asx bs1 ls1 cs bs2 ls2 hargs hcaps
    simp only at h
    generalize hoth:A9L (G8 E.mc) pms args++C2R (G8 E.mc) (.cl f caps)=others at h
    generalize hbs:bs1++bs2=bs at h
    generalize hls:ls1++ls2=ls at h
    cases hchk:(m4 (ls.map (·.n))&&m4 (ls.map (·.j))&& !(ls.any fun x=>G8 others x.n)&&B2U pb (G2 d 0 rms)&&(ls.all fun x=>Nat.blt x.j 900)&&Nat.ble rms.length 8)with
    |false=>rw [hchk]at h;cases h
    |true=>
     rw [hchk,E4]at h
     simp only [Bool.and_eq_true,Bool.not_eq_true',List.any_eq_false,List.all_eq_true]at hchk
     obtain⟨⟨⟨⟨⟨c1,c0⟩,c2⟩,c3⟩,c4⟩,c5⟩:=hchk
     obtain⟨rv,us,hk,hct⟩:=horc _ _ _ _ _ h
     split at hk
     ·rename_i v b1 b2 hv hb1 hb2
      obtain⟨v',us',hk,hshr⟩:=F6Q (w0:=w0) (Bo:=Bo) hk
      refine⟨v',us',f,caps,hk,rfl,fun bl φ w vs cv ha hm hr hcv=>?_⟩
      have hA:=D8P _ _ _ _ _ _ hargs
      have hLn:z6 pb bs ls:=by rw [←hbs,←hls];exact hA.lnts.append (B7A hcaps).1
      obtain⟨l1,l2⟩:=hLn.spec c0
      have l3:∀x y,x∈ls→y∈ls→x.j=y.j→x=y:=B5O ls c0
      have hin1:∀x,x∈ls1→x∈ls:=fun x hx=>by rw [←hls];exact List.mem_append_left _ hx
      have hin2:∀x,x∈ls2→x∈ls:=fun x hx=>by rw [←hls];exact List.mem_append_right _ hx
      have l4:=F6N ls c1
      have hnot:∀x,x∈ls→x.n∉others:=fun x hx e=>by
       have:=c2 x hx
       rw [q8.2 e]at this
       exact this rfl
      have st:=v7 ha hm others
      have hblx:∀x,x∈ls→∀t l tl,pb x.n= .live t l tl→B4 (C9 pb others) bl x.n= .live t l tl:=fun x hx t l tl e=>by
       rw [A2o _ _ (hnot x hx),ha x.n (by rw [e];intro q;cases q),e]
      have hL:j7 w (B4 (C9 pb others) bl) bs ls:=by
       refine⟨l1,fun x hx=>?_,l3,l4,fun x hx=>?_,fun x hx lo hi hc t l tl hb=>?_⟩
       ·obtain⟨t,l,tl,g1,g2⟩:=l2 x hx
        have hj:Nat.blt x.j 900=true:=c4 x hx
        rw [Nat.blt_eq]at hj
        exact⟨by omega,t,l,tl,hblx x hx t l tl g1,g2⟩
       ·obtain⟨t,l,tl,g1,g2⟩:=l2 x hx
        exact hpb _ (by rw [g1];intro e;cases e)
       ·rw [A2o _ _ (hnot x hx)]at hb
        have hx':x∈ls1∨x∈ls2:=List.mem_append.1 (by rw [hls];exact hx)
        rcases hx' with hx'|hx'
        ·exact F2P hA vs hr x hx' lo hi hc t l tl hb
        ·rw [(B7A hcaps).2 x hx']at hc;cases hc
      have hB:A4x (B4 (C9 pb others) bl) us b1 b2 ls d rms:=by
       obtain⟨o1,o2⟩:=B1h rms 0 b2 hb2
       obtain⟨e1,e2⟩:=D7b ls b1 l4 hb1
       refine⟨hct.1,fun n hn=>?_,o1,fun k hk=>⟨?_,o2 k hk⟩,e1,fun x hx=>?_⟩
       ·have hp:=D0M _ c3 n hn
        have hbn:bl n= .fresh:=by rw [ha n (by rw [hp];intro e;cases e),hp]
        rcases A5v ha others n with e| ⟨_,_,_,e,_⟩
        ·rw [e,hbn]
        ·rw [hbn]at e;cases e
       ·obtain⟨k',q1,_,q3⟩:=A7j rms 0 _ hk
        have:=C3y q1
        have:=Nat.le_of_ble_eq_true c5
        omega
       ·obtain⟨t,l,l',tl,tl',g1,g2,g3⟩:=e2 x hx
        exact⟨t,l,l',tl,tl',hblx x hx t l tl g1,g2,g3⟩
      have hargs':=E5V ha hm hL st.mem hA hin1 (fun x hx=>hnot x (hin1 x hx)) (fun n hn=>by rw [←hoth];exact List.mem_append_left _ hn) vs hr
      have hcaps'':=D4h ha hm hL st.mem hcaps hin2 (fun x hx=>hnot x (hin2 x hx)) (fun n hn=>by rw [←hoth];exact List.mem_append_right _ hn) hcv
      have hloc:B7c (G5 (B4 (C9 pb others) bl) φ bs ls) bs:=fun n hn=>by unfold G5;rw [if_pos hn]
      have hcall:=hct.2 w (G5 (B4 (C9 pb others) bl) φ bs ls) (K1 (B4 (C9 pb others) bl) φ ls) (vs++cv) hloc (F0W st.mem hL) (F0k hargs' (E1i hcaps''))
      refine hcall.mono fun u w'=>?_
      rintro⟨φ',k1,k2⟩
      have hback:=E8H st.mem hL hB k1
      refine hshr bl φ (w9 φ φ' (G2 d 0 rms) d) w w' u ha ?_ ?_
      ·show E7 w0 Bo bl φ w (B4 (b1++b2++C9 pb others) bl) _ w'
       rw [A4r];exact st.trans hback
      ·show C4 w' (B4 (b1++b2++C9 pb others) bl) _ v u
       rw [A4r];exact E8f st.mem hL hB k1 hv k2
     ·cases hk
   ·cases h
  ·cases h
 ·cases h
theorem E1q {w:World} {bl:Nat→A9} {φ:Nat→Addr} {f:Nat} {v:Value} (h:C4 w bl φ (.a (.v .fu (f:Int))) v):C4 w bl φ (.cl f []) v:=by
 obtain⟨cs,h1,h2⟩:=h
 have h1:cs=[.func (.func f) #[] #[]]:=h1
 subst h1
 have h2:[Value.func (.func f) #[] #[]]=[v]:=h2
 exact⟨[],(List.head_eq_of_cons_eq h2).symm, .nil⟩
theorem C9y {orc:P6 R} (horc:A0o P orc) (hpb:∀n,pb n≠ .dead→n<10000) {x:Int} {args:List V} {d:Nat}:∀fs:List Nat,B2e E orc x args d pb K fs=some r→∃(v':V) (us:Bl) (f:Nat),K v' us=some r∧x=(f:Int)∧
  ∀(bl:Nat→A9) (φ:Nat→Addr) (w:World) (vs cv:List Value),H4 pb bl→D2 w0 Bo bl φ w→M5 w bl φ args vs→N3 w bl φ [] cv→
   A3W P f (vs++cv).toArray w fun v w'=>∃φ',E7 w0 Bo bl φ w (B4 us bl) φ' w'∧C4 w' (B4 us bl) φ' v' v
 | [],h=>by cases h
 |f::fs,h=>by
  unfold B2e at h
  cases hb:D5N E d f with
  |false=>rw [hb]at h;exact C9y horc hpb fs h
  |true=>
   rw [hb,E4]at h
   split at h
   ·rename_i hx
    obtain⟨v',us,f',caps,k1,k2,k3⟩:=D5S (P:=P) (w0:=w0) (Bo:=Bo) horc hpb h
    cases k2
    exact⟨v',us,f,k1,hx,k3⟩
   ·exact C9y horc hpb fs h
theorem E5v {orc:P6 R} (horc:A0o P orc) (hpb:∀n,pb n≠ .dead→n<10000) {fv:V} {args:List V} {d:Nat} (h:C2W E orc fv args d pb K=some r):∃(v':V) (us:Bl) (f:Nat) (caps:List A),K v' us=some r∧
  (∀(w:World) (bl:Nat→A9) (φ:Nat→Addr) (v:Value),C4 w bl φ fv v→C4 w bl φ (.cl f caps) v)∧
  ∀(bl:Nat→A9) (φ:Nat→Addr) (w:World) (vs cv:List Value),H4 pb bl→D2 w0 Bo bl φ w→M5 w bl φ args vs→N3 w bl φ caps cv→
   A3W P f (vs++cv).toArray w fun v w'=>∃φ',E7 w0 Bo bl φ w (B4 us bl) φ' w'∧C4 w' (B4 us bl) φ' v' v:=by
 unfold C2W at h
 split at h
 ·obtain⟨v',us,f,k1,k2,k3⟩:=C9y (P:=P) (w0:=w0) (Bo:=Bo) horc hpb _ h
  subst k2
  exact⟨v',us,f,[],k1,fun w bl φ v hv=>E1q hv,k3⟩
 ·obtain⟨v',us,f,caps,k1,k2,k3⟩:=D5S (P:=P) (w0:=w0) (Bo:=Bo) horc hpb h
  subst k2
  exact⟨v',us,f,caps,k1,fun w bl φ v hv=>hv,k3⟩
theorem F5A {orc:P6 R} (horc:A0o P orc) (hpb:∀n,pb n≠ .dead→n<10000) {ρ:Operand→V} {d:Nat} {o:Oper} {c:Call} {fo:Operand} (ho:o.op= .call c) (hc:c.callee= .value fo) (h:A9S E orc ρ d pb K o.op=some r):
  ∃v' us,K v' us=some r∧A6Z P w0 Bo o ρ pb v' us:=by
 rw [ho]at h
 simp only [A9S,hc]at h
 obtain⟨v',us,f,caps,h1,h2,h3⟩:=E5v (P:=P) (w0:=w0) (Bo:=Bo) horc hpb h
 refine⟨v',us,h1,fun F n hF bl φ w a next Q ha hm hr hn=>?_⟩
 have hops:o.op.operands= #[fo]++c.args:=by rw [ho];simp only [Op.operands,Call.operands,hc]
 have hf:=hr fo (by rw [hops];simp)
 obtain⟨cv,e1,e2⟩:=h2 _ _ _ _ hf
 have hargs:=B2m (ρ:=ρ) (w:=w) (bl:=bl) (φ:=φ) (a:=a) c.args.toList (fun x hx=>hr x (by rw [hops];simp;exact Or.inr (by simpa using hx)))
 have hcall:=h3 bl φ w _ cv ha hm hargs e2
 have hexec:(execOp a.eval o).run P w=(callFunc f (c.args.toList.map a.eval++cv).toArray).run P w:=by
  have:(#[]:Array Value)++c.args.map a.eval++cv.toArray=(c.args.toList.map a.eval++cv).toArray:=by
   apply Array.ext';simp
  simp only [execOp,ho,resolve,hc,e1,Deferred.ofValue,Sem.run_bind,Sem.run_pure,Result.andThen_ok,invoke,this]
 refine⟨fun f _=>hF.fn f,?_⟩
 rw [Oper.semAt_eq _ _ _ (fun c' e=>by rw [ho]at e;cases e),hexec]
 rcases hcall with⟨k1,k2⟩| ⟨v,w',k1,k2⟩
 ·rw [k1,Oper.uponIn_enter]
  refine⟨fun e=>(by rw [hF.dep]at e;cases e),CallsIn.mono (hF.calls k2) fun e w'=>?_⟩
  rintro⟨v,rfl,φ',q1,q2⟩
  exact hn v w' φ' q1 q2
 ·obtain⟨φ',q1,q2⟩:=k2
  rw [k1,Oper.uponIn_value]
  exact hn v w' φ' q1 q2
theorem E6b (hE:F6 P E) {orc:P6 R} (horc:A0o P orc) (hpb:∀n,pb n≠ .dead→n<10000) {ρ:Operand→V} {d:Nat} {o:Oper} (h:A9S E orc ρ d pb K o.op=some r):∃v' us,K v' us=some r∧A6Z P w0 Bo o ρ pb v' us:=by
 by_cases hc:∃c f,o.op= .call c∧c.callee= .value f
 ·obtain⟨c,f,h1,h2⟩:=hc
  exact F5A horc hpb h1 h2 h
 ·exact F3l hE hpb (fun c f h1 h2=>hc ⟨c,f,h1,h2⟩) h
end
def opT (T:Nat→V):Operand→V
 | .tmp t=>T t
 | .const c=>B5m c
 | .func f=> .cl f []
 | .global _=> .a .u
theorem D3Q (tm:List (Nat×V)):opv tm=opT (K5 tm):=by funext x;cases x<;>rfl
def A7a (ops:Array Oper) (o:Oper) (T:Nat→V):Option Bool:=
 match o.guard with
 |none=>some true
 |some (j,w)=>match (ops[j]?).bind (·.dst)with
  |some t=>(match T t with
   | .a (.v .bo x)=>some (x==w)
   | .tup []=>some false
   |_=>none)
  |none=>none
theorem D7K (ops:Array Oper) (o:Oper) (tm:List (Nat×V)):gate ops o tm=A7a ops o (K5 tm):=rfl
def V8 (T:Nat→V) (d:Option Nat) (v:V) (t:Nat):V:=if d=some t then v else T t
theorem D2H (d:Option Nat) (v:V) (tm:List (Nat×V)):K5 (B8o d v tm)=V8 (K5 tm) d v:=by
 cases d with
 |none=>funext t;rfl
 |some d=>
  funext t
  unfold B8o V8
  show(B3 (Nat.beq d t) (v)<|K5 tm t)=_
  by_cases h:d=t
  ·subst h;rw [Nat.beq_refl,if_pos rfl];rfl
  ·have hb:Nat.beq d t=false:=by rw [Bool.eq_false_iff];intro e;exact h (Nat.eq_of_beq_eq_true e)
   rw [hb,if_neg (by intro e;cases e;exact h rfl)];rfl
def A2D (n:Nat):Prop:=(2000≤n∧n<3000)∨10000≤n
structure n6 (N:Nat) (w0:World) (Bo:Nat→Nat→Prop) (bl0:Nat→A9) (φ0:Nat→Addr) (T:Nat→V) (B:Nat→A9) (bl:Nat→A9) (φ:Nat→Addr) (a:Act) (w:World):Prop where
 loc:∀n,n<10000→bl n=B n
 mem:D2 w0 Bo bl φ w
 tm:∀t,C4 w bl φ (T t) (a.tmps.getD t undef)
 size:a.tmps.size=N
 defers:a.defers=[]
 far:∀n,10000≤n→bl n=bl0 n
 keep:∀n,A2D n→(bl0 n= .fresh→bl n= .fresh)∧(bl0 n≠ .fresh→a8 (bl0 n) (bl n)∧(lf (bl n)→φ n=φ0 n))
structure Rc where
 i:Nat
 run:Bool
 ρ:Operand→V
 pb:Nat→A9
 v:V
 us:Bl
 ns:List Nat
 ro:Bool
section
variable (P:Program) (N:Nat) (w0:World) (Bo:Nat→Nat→Prop) (ops:Array Oper)
structure A5G (T:Nat→V) (B:Nat→A9) (r:Rc) (o:Oper):Prop where
 op:ops[r.i]?=some o
 gate:A7a ops o T=some r.run
 dst:B9o N o.dst=true
 vals:r.run=true→∀x,x∈o.op.operands→opT T x=r.ρ x
 blks:∀n,r.pb n≠ .dead→n<10000∧n∈r.ns∧B n=r.pb n
 sem:r.run=true→A6Z P w0 Bo o r.ρ r.pb r.v r.us
 skip:r.run=false→r.v= .tup []∧r.us=[]
 us:∀q,q∈r.us→q.1<10000∧q.1∈r.ns
 ro:r.ro=true→r.us=[]
 len:∀q,q∈r.us→2000≤q.1→q.1<3000→B q.1≠ .fresh
inductive A2v:(Nat→V)→(Nat→A9)→List Rc→(Nat→V)→(Nat→A9)→Prop
 |nil (T:Nat→V) (B:Nat→A9):A2v T B [] T B
 |cons {T T':Nat→V} {B B':Nat→A9} {r:Rc} {rs:List Rc} (o:Oper):A5G P N w0 Bo ops T B r o→A2v (V8 T o.dst r.v) (B4 r.us B) rs T' B'→A2v T B (r::rs) T' B'
end
section
variable {P:Program} {N:Nat} {w0:World} {Bo:Nat→Nat→Prop} {bl0:Nat→A9} {φ0:Nat→Addr} {ops:Array Oper}
theorem D7E {T:Nat→V} {B bl:Nat→A9} {φ:Nat→Addr} {a:Act} {w:World} (h:n6 N w0 Bo bl0 φ0 T B bl φ a w) (x:Operand):C4 w bl φ (opT T x) (a.eval x):=by
 cases x with
 |tmp t=>exact h.tm t
 |func f=>exact⟨[],rfl, .nil⟩
 |global g=>trivial
 |const c=>
  show C4 w bl φ (B5m c) c
  unfold B5m
  split
  ·exact R4.2 rfl
  ·exact E8.2 rfl
  ·exact A2K.2 rfl
  ·exact⟨none,rfl⟩
  ·rfl
  ·trivial
theorem D2g {T:Nat→V} {B bl bl':Nat→A9} {φ φ':Nat→Addr} {a:Act} {w w':World} (h:n6 N w0 Bo bl0 φ0 T B bl φ a w) {d:Option Nat} (hd:B9o N d=true) {v:V} {u:Value} {us:Bl} (hus:∀q,q∈us→q.1<10000) (hlen:∀q,q∈us→2000≤q.1→q.1<3000→B q.1≠ .fresh)
  (hs:E7 w0 Bo bl φ w (B4 us bl) φ' w') (hv:C4 w' (B4 us bl) φ' v u):n6 N w0 Bo bl0 φ0 (V8 T d v) (B4 us B) (B4 us bl) φ' (a.put d u) w':=by
 have hfar:∀n,10000≤n→B4 us bl n=bl n:=by
  intro n hn
  refine i7 ?_
  cases hl:A8 us n with
  |none=>rfl
  |some b=>have:=hus _ (Y9 _ _ _ hl);simp only at this;omega
 refine⟨fun n hn=>?_,hs.mem,fun t=>?_,?_,?_,fun n hn=>by rw [hfar n hn];exact h.far n hn,fun n hn=>?_⟩
 rotate_left 4
 ·obtain⟨k1,k2⟩:=h.keep n hn
  refine⟨fun e=>?_,fun e=>?_⟩
  ·rw [←k1 e]
   refine i7 ?_
   cases hl:A8 us n with
   |none=>rfl
   |some b=>
    exfalso
    have hm:=Y9 _ _ _ hl
    have hlt:=hus _ hm
    simp only at hlt
    rcases hn with hn|hn
    ·have:=hlen _ hm hn.1 hn.2
     apply this
     rw [←h.loc n hlt];exact k1 e
    ·omega
  ·obtain⟨q1,q2⟩:=k2 e
   obtain⟨q3,q4⟩:=hs.goes.le n (q1.ne e)
   refine⟨q1.trans q3,fun hl=>?_⟩
   have hl0:lf (bl n):=by
    cases hb:bl n with
    |fresh=>exact absurd hb (q1.ne e)
    |dead=>rw [hb]at q3;cases hq:B4 us bl n<;>rw [hq]at q3 hl<;>cases q3<;>cases hl
    |husk=>rw [hb]at q3;cases hq:B4 us bl n<;>rw [hq]at q3 hl<;>cases q3<;>cases hl
    |live=>rfl
    |froz=>rfl
   rw [q4 hl,q2 hl0]
 ·unfold B4
  cases A8 us n with
  |none=>exact h.loc n hn
  |some b=>rfl
 ·unfold V8
  cases d with
  |none=>simpa [Act.put]using B0E hs.goes _ _ (h.tm t)
  |some d=>
   by_cases e:d=t
   ·subst e
    rw [if_pos rfl]
    have hlt:d<a.tmps.size:=by
     rw [h.size]
     have:Nat.blt d N=true:=hd
     rwa [Nat.blt_eq]at this
    simpa [Act.put,Array.getD,hlt]using hv
   ·rw [if_neg (by intro q;cases q;exact e rfl)]
    have:(a.put (some d) u).tmps.getD t undef=a.tmps.getD t undef:=by
     simp [Act.put,Array.getElem?_setIfInBounds_ne e]
    rw [this]
    exact B0E hs.goes _ _ (h.tm t)
 ·cases d<;>simp [Act.put,h.size]
 ·cases d<;>simp [Act.put,h.defers]
theorem E4B {T:Nat→V} {B bl:Nat→A9} {φ:Nat→Addr} {a:Act} {w:World} (h:n6 N w0 Bo bl0 φ0 T B bl φ a w) {o:Oper} {b:Bool} (hg:A7a ops o T=some b):Region.wanted o (yielded ops a.tmps)=b:=by
 unfold A7a at hg
 unfold Region.wanted
 split at hg
 ·rename_i hgd;rw [hgd];cases hg;rfl
 ·rename_i j wnt hgd
  rw [hgd]
  split at hg
  ·rename_i t ht
   have hy:yielded ops a.tmps j=match a.tmps[t]? with|some (.bool b)=>some b|_=>none:=by
    unfold yielded
    rw [ht];rfl
   simp only [hy]
   split at hg
   ·rename_i x hx
    have hv:=h.tm t
    rw [hx]at hv
    have hv:=R4.1 hv
    cases hg
    cases hq:a.tmps[t]? with
    |none=>simp [Array.getD_eq_getD_getElem?,hq,undef]at hv
    |some u=>
     simp [Array.getD_eq_getD_getElem?,hq]at hv
     subst hv
     simp only
     cases x<;>cases wnt<;>rfl
   ·rename_i hx
    have hv:=h.tm t
    rw [hx]at hv
    obtain⟨cv,e1,e2⟩:=hv
    cases e2
    cases hg
    cases hq:a.tmps[t]? with
    |none=>rfl
    |some u=>
     simp [Array.getD_eq_getD_getElem?,hq]at e1
     subst e1;rfl
   ·cases hg
  ·cases hg
theorem D8Q {F:Fence} {n:Nat} (hF:Z7 F) {T:Nat→V} {B bl:Nat→A9} {φ:Nat→Addr} {a:Act} {w:World} {Q:Exit→Act→World→Prop} {r:Rc} {o:Oper} {K:Act→World→Prop} (hf:A5G P N w0 Bo ops T B r o) (h:n6 N w0 Bo bl0 φ0 T B bl φ a w)
  (hn:∀bl' φ' a' w',n6 N w0 Bo bl0 φ0 (V8 T o.dst r.v) (B4 r.us B) bl' φ' a' w'→K a' w'):wpOpIn F n P ops Q r.i K a w:=by
 have hw:=E4B h hf.gate
 unfold wpOpIn
 rw [hf.op]
 simp only [hw]
 cases hrun:r.run with
 |true=>
  simp only [if_true]
  refine hf.sem hrun F n hF bl φ w a K Q (fun n hn=>?_) h.mem (fun x hx=>?_) fun v w' φ' hs hv=>?_
  ·obtain⟨k1,_,k3⟩:=hf.blks n hn
   rw [h.loc n k1,k3]
  ·rw [←hf.vals hrun x hx];exact D7E h x
  ·exact hn _ _ _ _ (D2g (bl':=bl) h hf.dst (fun q hq=>(hf.us q hq).1) hf.len hs hv)
 |false=>
  simp only [Bool.false_eq_true,if_false]
  obtain⟨e1,e2⟩:=hf.skip hrun
  refine⟨fun f _=>hF.fn f,hn bl φ _ w ?_⟩
  have:=D2g (bl':=bl) (φ':=φ) (w':=w) (us:=[]) h hf.dst (fun q hq=>by cases hq) (fun q hq=>by cases hq) (.refl h.mem) (v:= .tup []) (u:=undef) ⟨[],rfl, .nil⟩
  rw [e1,e2]
  exact this
theorem E8I {F:Fence} {n:Nat} (hF:Z7 F) {Q:Exit→Act→World→Prop} {rs:List Rc} {T T':Nat→V} {B B':Nat→A9} (hc:A2v P N w0 Bo ops T B rs T' B'):∀{bl:Nat→A9} {φ:Nat→Addr} {a:Act} {w:World},n6 N w0 Bo bl0 φ0 T B bl φ a w→
  (∀bl' φ' a' w',n6 N w0 Bo bl0 φ0 T' B' bl' φ' a' w'→Q .normal a' w')→wpOpsIn F n P ops Q (rs.map (·.i)) a w:=by
 induction hc with
 |nil T B=>intro bl φ a w h hq;exact hq _ _ _ _ h
 |cons o hf _ ih=>
  intro bl φ a w h hq
  rw [List.map_cons,wpOpsIn_cons]
  exact D8Q hF hf h fun bl' φ' a' w' h'=>ih h' hq
def A9x (ops:Array Oper) (r s:Rc):Prop:=
 (∀x y,ops[r.i]?=some x→ops[s.i]?=some y→x.apart ops y=true)∧((r.ro=true∧s.ro=true)∨∀n,n∈r.ns→n∈s.ns→False)
theorem D9f {T:Nat→V} {d e:Option Nat} {u v:V} (h:∀k,d=some k→e≠some k):V8 (V8 T d u) e v=V8 (V8 T e v) d u:=by
 funext t
 unfold V8
 by_cases h1:d=some t
 ·have h2:=h t h1
  rw [if_pos h1,if_neg h2]
  simp [h1,h2]
 ·simp [h1]
theorem D6e {T:Nat→V} {o:Oper} {d:Option Nat} {v:V} (h:∀k,d=some k→k∉o.looksAt ops):A7a ops o (V8 T d v)=A7a ops o T:=by
 unfold A7a
 split
 ·rfl
 ·rename_i j w hg
  split
  ·rename_i t ht
   have:V8 T d v t=T t:=by
    unfold V8
    rw [if_neg]
    intro e
    refine h t e ?_
    unfold Oper.looksAt
    rw [List.mem_append]
    right
    rw [hg]
    simp only [ht]
    exact List.mem_singleton.2 rfl
   rw [this]
  ·rfl
theorem D2R {T:Nat→V} {o:Oper} {d:Option Nat} {v:V} (h:∀k,d=some k→k∉o.looksAt ops) {x:Operand} (hx:x∈o.op.operands):opT (V8 T d v) x=opT T x:=by
 cases x with
 |tmp t=>
  show V8 T d v t=T t
  unfold V8
  rw [if_neg]
  intro e
  refine h t e ?_
  unfold Oper.looksAt
  rw [List.mem_append]
  left
  exact List.mem_filterMap.2 ⟨.tmp t,by simpa using hx,rfl⟩
 |_=>rfl
theorem A5G.move {T:Nat→V} {B:Nat→A9} {r s:Rc} {x y:Oper} (hr:A5G P N w0 Bo ops T B r x) (hsop:ops[s.i]?=some y) (hi:A9x ops r s) (hus:∀q,q∈r.us→q.1<10000∧q.1∈r.ns) (hsus:∀q,q∈s.us→q.1<10000∧q.1∈s.ns) (hro:s.ro=true→s.us=[]):
  A5G P N w0 Bo ops (V8 T y.dst s.v) (B4 s.us B) r x:=by
 have hap:=Oper.apart_spec (hi.1 x y hr.op hsop)
 refine⟨hr.op,?_,hr.dst,fun hrun z hz=>?_,fun n hn=>?_,hr.sem,hr.skip,hr.us,hr.ro,fun q hq h1 h2=>?_⟩
 rotate_left 3
 ·have h0:=hr.len q hq h1 h2
  have hns:=(hr.us q hq).2
  have:A8 s.us q.1=none:=by
   cases hl:A8 s.us q.1 with
   |none=>rfl
   |some b=>
    exfalso
    have hmem:=Y9 _ _ _ hl
    rcases hi.2 with⟨h3,_⟩|h
    ·rw [hr.ro h3]at hq;cases hq
    ·exact h q.1 hns (hsus _ hmem).2
  rw [i7 this];exact h0
 ·rw [D6e hap.2.2];exact hr.gate
 ·rw [D2R hap.2.2 hz];exact hr.vals hrun z hz
 ·obtain⟨k1,k2,k3⟩:=hr.blks n hn
  refine⟨k1,k2,?_⟩
  rw [←k3]
  refine i7 ?_
  cases hl:A8 s.us n with
  |none=>rfl
  |some b=>
   exfalso
   have hmem:=Y9 _ _ _ hl
   rcases hi.2 with⟨_,h2⟩|h
   ·rw [hro h2]at hmem;cases hmem
   ·exact h n k2 (hsus _ hmem).2
theorem A5G.back {T:Nat→V} {B:Nat→A9} {r s:Rc} {x y:Oper} (hr:A5G P N w0 Bo ops T B r x) (hs:A5G P N w0 Bo ops (V8 T x.dst r.v) (B4 r.us B) s y) (hi:A9x ops r s):A5G P N w0 Bo ops T B s y:=by
 have hap:=Oper.apart_spec (hi.1 x y hr.op hs.op)
 refine⟨hs.op,?_,hs.dst,fun hrun z hz=>?_,fun n hn=>?_,hs.sem,hs.skip,hs.us,hs.ro,fun q hq h1 h2=>?_⟩
 rotate_left 3
 ·have h0:=hs.len q hq h1 h2
  have hns:=(hs.us q hq).2
  have:A8 r.us q.1=none:=by
   cases hl:A8 r.us q.1 with
   |none=>rfl
   |some b=>
    exfalso
    have hmem:=Y9 _ _ _ hl
    rcases hi.2 with⟨_,h3⟩|h
    ·rw [hs.ro h3]at hq;cases hq
    ·exact h q.1 (hr.us _ hmem).2 hns
  rwa [i7 this]at h0
 ·have:=hs.gate;rwa [D6e hap.1]at this
 ·have:=hs.vals hrun z hz;rwa [D2R hap.1 hz]at this
 ·obtain⟨k1,k2,k3⟩:=hs.blks n hn
  refine⟨k1,k2,?_⟩
  rw [←k3]
  refine(i7 ?_).symm
  cases hl:A8 r.us n with
  |none=>rfl
  |some b=>
   exfalso
   have hmem:=Y9 _ _ _ hl
   rcases hi.2 with⟨h1,_⟩|h
   ·rw [hr.ro h1]at hmem;cases hmem
   ·exact h n (hr.us _ hmem).2 k2
theorem F5N {us vs:Bl} {B:Nat→A9} (h:∀n,A8 us n≠none→A8 vs n≠none→False):B4 us (B4 vs B)=B4 vs (B4 us B):=by
 funext n
 cases h1:A8 us n with
 |none=>cases h2:A8 vs n with
  |none=>rw [i7 h1,i7 h2,i7 h2,i7 h1]
  |some b=>rw [i7 h1,A6h h2,A6h h2]
 |some b=>cases h2:A8 vs n with
  |none=>rw [A6h h1,i7 h2,A6h h1]
  |some c=>exact(h n (by rw [h1];intro e;cases e) (by rw [h2];intro e;cases e)).elim
theorem E6K {pre post:List Rc} {r:Rc}:∀{T T':Nat→V} {B B':Nat→A9},A2v P N w0 Bo ops T B (pre++r::post) T' B'→(∀s,s∈pre→A9x ops s r)→A2v P N w0 Bo ops T B (r::(pre++post)) T' B':=by
 induction pre with
 |nil=>intro T T' B B' h _;exact h
 |cons s pre ih=>
  intro T T' B B' h hi
  cases h with
  |cons x hs hrest=>
   have h2:=ih hrest fun z hz=>hi z (List.mem_cons_of_mem _ hz)
   cases h2 with
   |cons y hr hrest2=>
    have hi0:=hi s List.mem_cons_self
    have hap:=Oper.apart_spec (hi0.1 x y hs.op hr.op)
    refine .cons y (hs.back hr hi0) ?_
    show A2v P N w0 Bo ops _ _ (s::(pre++post)) T' B'
    refine .cons x (hs.move hr.op hi0 hs.us hr.us hr.ro) ?_
    rw [D9f (fun k e=>fun q=>hap.2.1 k q e),F5N (us:=s.us) (vs:=r.us)]
    ·exact hrest2
    ·intro n h1 h2
     obtain⟨b,hb⟩:=Option.ne_none_iff_exists'.1 h1
     obtain⟨c,hc⟩:=Option.ne_none_iff_exists'.1 h2
     have m1:=Y9 _ _ _ hb
     have m2:=Y9 _ _ _ hc
     rcases hi0.2 with⟨q,_⟩|q
     ·rw [hs.ro q]at m1;cases m1
     ·exact q n (hs.us _ m1).2 (hr.us _ m2).2
end
section
variable {P:Program} {N:Nat} {w0:World} {Bo:Nat→Nat→Prop} {bl0:Nat→A9} {φ0:Nat→Addr} {ops:Array Oper} {E:E1} {R:Type} {r:R}
def A9r (c:Rc):Met:=⟨c.i,c.ns,c.ro⟩
theorem D2B {ns:List Nat} {ro:Bool} {B:Nat→A9}:∀(us:Bl),B2S ns ro B us=true→(∀q,q∈us→q.1<10000∧q.1∈ns)∧(ro=true→us=[])∧(∀q,q∈us→2000≤q.1→q.1<3000→B q.1≠ .fresh)
 | [],_=>⟨(fun q h=>by cases h),fun _=>rfl,(fun q h=>by cases h)⟩
 | (n,b)::us,h=>by
  unfold B2S at h
  cases hr:ro with
  |true=>rw [hr]at h;cases h
  |false=>
   rw [hr,P7]at h
   cases hc:(G8 ns n&&Nat.blt n 10000&&(!F1 n||D7X (B n)))with
   |false=>rw [hc]at h;cases h
   |true=>
    rw [hc,E4,←hr]at h
    rw [Bool.and_eq_true,Bool.and_eq_true]at hc
    have hlt:=hc.1.2
    rw [Nat.blt_eq]at hlt
    obtain⟨i1,_,i3⟩:=D2B us h
    refine⟨fun q hq=>?_,(fun e=>by cases e),fun q hq h1 h2=>?_⟩
    ·rcases List.mem_cons.1 hq with rfl|hq
     ·exact⟨hlt,q8.1 hc.1.1⟩
     ·exact i1 q hq
    ·rcases List.mem_cons.1 hq with rfl|hq
     ·simp only at h1 h2⊢
      have hl:F1 n=true:=by
       unfold F1
       rw [Bool.and_eq_true,Nat.blt_eq]
       exact⟨Nat.ble_eq_true_of_le h1,h2⟩
      have:=hc.2
      rw [hl]at this
      intro e;rw [e]at this;cases this
     ·exact i3 q hq h1 h2
theorem F1Y {src:Bool} {v:V} {K:V→Option R} (h:C5w src v K=some r):∃v2,K v2=some r∧∀w bl φ u,C4 w bl φ v u→C4 w bl φ v2 u:=by
 unfold C5w at h
 cases src with
 |false=>exact⟨v,h,fun _ _ _ _ h=>h⟩
 |true=>
  rw [E4]at h
  split at h
  ·rename_i x
   cases hx:(x:Bool)with
   |true=>rw [hx]at h;exact⟨_,h,fun w bl φ u hu=>hu⟩
   |false=>rw [hx]at h;exact⟨_,h,fun w bl φ u hu=>hu⟩
  ·rename_i p hp
   split at h
   ·rename_i hpp
    exact⟨_,h,fun w bl φ u hu=>R4.2 (by have hu:u= .bool (@decide p hp):=hu;rw [hu,decide_eq_true hpp])⟩
   ·rename_i hpp
    exact⟨_,h,fun w bl φ u hu=>R4.2 (by have hu:u= .bool (@decide p hp):=hu;rw [hu,decide_eq_false hpp])⟩
  ·cases h
theorem D1R {ns:List Nat} {B:Nat→A9} {n:Nat} (h:pick ns B n≠ .dead):n<10000∧n∈ns∧B n=pick ns B n:=by
 unfold pick at h⊢
 cases hc:(G8 ns n&&Nat.blt n 10000)with
 |false=>rw [hc]at h;exact absurd rfl h
 |true=>
  rw [Bool.and_eq_true]at hc
  have:=hc.2
  rw [Nat.blt_eq]at this
  exact⟨this,q8.1 hc.1,rfl⟩
theorem C5D (hE:F6 P E) {orc:P6 R} (horc:A0o P orc) {src:List Nat}:∀(l:List (Nat×Oper)) (st:St) (ms:List Met) (K:St→List Met→Option R),(∀q,q∈l→ops[q.1]?=some q.2)→B4j E orc N ops src l st ms K=some r→
  ∃st' rs,K st' ((rs.map A9r).reverse++ms)=some r∧A2v P N w0 Bo ops (K5 st.tm) (G3 st.bl) rs (K5 st'.tm) (G3 st'.bl)∧rs.map (·.i)=l.map (·.1)
 | [],st,ms,K,_,h=>⟨st,[],h, .nil _ _,rfl⟩
 | (i,o)::l,st,ms,K,hl,h=>by
  unfold B4j at h
  cases hd:B9o N o.dst with
  |false=>rw [hd]at h;cases h
  |true=>
   rw [hd,E4]at h
   have hop:ops[i]?=some o:=hl (i,o) List.mem_cons_self
   have hl':∀q,q∈l→ops[q.1]?=some q.2:=fun q hq=>hl q (List.mem_cons_of_mem _ hq)
   split at h
   ·rename_i hg
    simp only at h
    obtain⟨v',us,h1,h2⟩:=E6b (P:=P) (w0:=w0) (Bo:=Bo) hE horc (fun n hn=>(D1R hn).1) h
    cases hk:B2S (B7O E (opv st.tm) (o.dst.getD 0) o.op) (C0I o.op) (G3 st.bl) us with
    |false=>rw [hk]at h1;cases h1
    |true=>
     rw [hk,E4]at h1
     obtain⟨v2,h3,h4⟩:=F1Y h1
     obtain⟨st',rs,k1,k2,k3⟩:=C5D hE horc l _ _ K hl' h3
     obtain⟨u1,u2,u3⟩:=D2B us hk
     refine⟨st',⟨i,true,opv st.tm,pick (B7O E (opv st.tm) (o.dst.getD 0) o.op) (G3 st.bl),v2,us,B7O E (opv st.tm) (o.dst.getD 0) o.op,C0I o.op⟩::rs,?_,?_,?_⟩
     ·rw [List.map_cons,List.reverse_cons,List.append_assoc];exact k1
     ·refine .cons o ⟨hop,by rw [D7K]at hg;exact hg,hd,fun _ x _=>by rw [D3Q],fun n hn=>D1R hn,fun _=>?_,(fun e=>by cases e),u1,u2,u3⟩ ?_
      ·intro F n hF bl φ w a next Q ha hm hr hn
       exact h2 F n hF bl φ w a next Q ha hm hr fun v w' φ' hs hv=>hn v w' φ' hs (h4 _ _ _ _ hv)
      ·have e1:=D2H o.dst v2 st.tm
       have e2:=E0T us st.bl
       show A2v P N w0 Bo ops (V8 (K5 st.tm) o.dst v2) (B4 us (G3 st.bl)) rs _ _
       rw [←e1,←e2];exact k2
     ·rw [List.map_cons,List.map_cons,k3]
   ·rename_i hg
    obtain⟨st',rs,k1,k2,k3⟩:=C5D hE horc l _ _ K hl' h
    refine⟨st',⟨i,false,fun _=> .a .u,fun _=> .dead, .tup [],[],[],true⟩::rs,?_,?_,?_⟩
    ·rw [List.map_cons,List.reverse_cons,List.append_assoc];exact k1
    ·refine .cons o ⟨hop,by rw [D7K]at hg;exact hg,hd,(fun e=>by cases e),fun n hn=>absurd rfl hn,(fun e=>by cases e),fun _=>⟨rfl,rfl⟩,(fun q hq=>by cases hq),fun _=>rfl,(fun q hq=>by cases hq)⟩ ?_
     have e1:=D2H o.dst (.tup []) st.tm
     show A2v P N w0 Bo ops (V8 (K5 st.tm) o.dst (.tup [])) (B4 [] (G3 st.bl)) rs _ _
     rw [←e1,j3];exact k2
    ·rw [List.map_cons,List.map_cons,k3]
   ·cases h
theorem D1E {acc:List Nat} {j:Nat}:∀(es:List Edge),(A6D acc es).testBit j=true→∃e,e∈es∧Region.binds .any e=true∧(e.on=j∨(acc.getD e.on 0).testBit j=true)
 | [],h=>by simp [A6D]at h
 |e::es,h=>by
  unfold A6D at h
  rw [Nat.testBit_or,Bool.or_eq_true]at h
  rcases h with h|h
  ·cases hb:Region.binds .any e with
   |false=>rw [hb]at h;simp at h
   |true=>
    rw [hb,E4,Nat.testBit_or,Bool.or_eq_true]at h
    refine⟨e,List.mem_cons_self,hb,?_⟩
    rcases h with h|h
    ·rw [Nat.testBit_two_pow]at h;exact Or.inl (of_decide_eq_true h)
    ·exact Or.inr h
  ·obtain⟨e',h1,h2,h3⟩:=D1E es h
   exact⟨e',List.mem_cons_of_mem _ h1,h2,h3⟩
theorem D8p:∀(os:List Oper) (acc:List Nat),∃l,A0h os acc=acc++l∧l.length=os.length∧∀(k:Nat) (o:Oper),os[k]?=some o→(A0h os acc).getD (acc.length+k) 0=A6D ((A0h os acc).take (acc.length+k)) o.after.toList
 | [],acc=>⟨[],by simp [A0h],rfl,fun k o h=>by simp at h⟩
 |o::os,acc=>by
  obtain⟨l,h1,h2,h3⟩:=D8p os (acc++[A6D acc o.after.toList])
  refine⟨A6D acc o.after.toList::l,by unfold A0h;rw [h1];simp,by simp [h2],fun k o' hk=>?_⟩
  unfold A0h
  cases k with
  |zero=>
   simp at hk;subst hk
   rw [h1]
   simp [List.getD,List.take_append]
  |succ k=>
   have:=h3 k o' (by simpa using hk)
   rw [List.length_append]at this
   simp only [List.length_cons,List.length_nil]at this
   rw [show acc.length+(k+1)=acc.length+(0+1)+k from by omega]
   exact this
theorem E7x {i j:Nat} {o:Oper} (ho:ops[i]?=some o) (h:((A0h ops.toList []).getD i 0).testBit j=true):∃e,e∈o.after.toList∧Region.binds .any e=true∧(e.on=j∨((A0h ops.toList []).getD e.on 0).testBit j=true):=by
 obtain⟨l,h1,h2,h3⟩:=D8p ops.toList []
 have:=h3 i o (by simpa using ho)
 simp only [List.length_nil,Nat.zero_add]at this
 rw [this]at h
 obtain⟨e,k1,k2,k3⟩:=D1E _ h
 refine⟨e,k1,k2,k3.imp id fun k=>?_⟩
 have hlt:e.on<i∨¬e.on<i:=by omega
 rcases hlt with hlt|hlt
 ·rwa [List.getD_eq_getElem?_getD,List.getElem?_take_of_lt hlt,←List.getD_eq_getElem?_getD]at k
 ·rw [List.getD_eq_getElem?_getD,List.getElem?_take_eq_none (by omega)]at k
  simp at k
def D7y (ops:Array Oper) (D:Nat→Prop):Prop:=∀i o,D i→ops[i]?=some o→∀e,e∈o.after.toList→Region.binds .any e=true→D e.on
theorem D1Y {D:Nat→Prop} (hd:D7y ops D) (hx:∀i,D i→∃o,ops[i]?=some o) (hlt:∀i o,ops[i]?=some o→∀e,e∈o.after.toList→Region.binds .any e=true→e.on<i) {j:Nat}:∀(n i:Nat) (o:Oper),i<n→ops[i]?=some o→(∀e,e∈o.after.toList→Region.binds .any e=true→D e.on)→
  ((A0h ops.toList []).getD i 0).testBit j=true→D j
 |0,i,o,h,_,_,_=>by omega
 |n+1,i,o,h,ho,hr,hb=>by
  obtain⟨e,k1,k2,k3⟩:=E7x ho hb
  have hD:=hr e k1 k2
  rcases k3 with rfl|k3
  ·exact hD
  ·obtain⟨o',ho'⟩:=hx _ hD
   exact D1Y hd hx hlt n e.on o' (by have:=hlt i o ho e k1 k2;omega) ho' (fun e' h1 h2=>hd _ o' hD ho' e' h1 h2) k3
theorem D5P {F:Fence} {n:Nat} (hF:Z7 F) {Q:Exit→Act→World→Prop} {T':Nat→V} {B':Nat→A9} (hlt:∀i o,ops[i]?=some o→∀e,e∈o.after.toList→Region.binds .any e=true→e.on<i):
  ∀(fuel:Nat) (rs:List Rc) (listed:Array Bool) (T:Nat→V) (B bl:Nat→A9) (φ:Nat→Addr) (a:Act) (w:World),rs.length≤fuel→listed.size=ops.size→
   (∀i,i∈rs.map (·.i)↔i<ops.size∧listed.getD i true=false)→rs.Pairwise (fun x y=>x.i<y.i)→
   rs.Pairwise (fun x y=>((A0h ops.toList []).getD y.i 0).testBit x.i=true∨A9x ops x y)→D7y ops (fun i=>i<ops.size∧listed.getD i false=true)→
   A2v P N w0 Bo ops T B rs T' B'→n6 N w0 Bo bl0 φ0 T B bl φ a w→(∀bl' φ' a' w',n6 N w0 Bo bl0 φ0 T' B' bl' φ' a' w'→Q .normal a' w')→
   wpAnyIn F n P .any ops Q fuel listed a w
 |fuel,rs,listed,T,B,bl,φ,a,w,hfuel,hsz,hin,hinc,hind,hdown,hc,hrel,hq=>by
  have hls:∀i,i<ops.size→(listed.getD i true=false↔¬listed.getD i false=true):=by
   intro i hi
   rw [←hsz]at hi
   simp [Array.getD,hi]
  have hready:∀i,i∈Region.ready .any ops listed→∃o,ops[i]?=some o∧i<ops.size∧i∈rs.map (·.i)∧∀e,e∈o.after.toList→Region.binds .any e=true→e.on<ops.size∧listed.getD e.on false=true:=by
   intro i hi
   obtain⟨h1,o,h2,h3⟩:=mem_ready.1 hi
   have hi2:i<ops.size:=(Array.getElem?_eq_some_iff.1 h2).1
   refine⟨o,h2,hi2,(hin i).2 ⟨hi2,h1⟩,fun e he hb=>⟨?_,h3 e (by simpa using he) hb⟩⟩
   have:=hlt i o h2 e he hb;omega
  have hnil:Region.ready .any ops listed=[]→rs=[]:=by
   intro hr
   cases rs with
   |nil=>rfl
   |cons r rs=>
    exfalso
    have hm:r.i∈(r::rs).map (·.i):=by simp
    obtain⟨h1,h2⟩:=(hin r.i).1 hm
    have ho:ops[r.i]?=some ops[r.i]:=Array.getElem?_eq_getElem h1
    have:r.i∈Region.ready .any ops listed:=by
     refine mem_ready.2 ⟨h2,_,ho,fun e he hb=>?_⟩
     have hl:=hlt _ _ ho e (by simpa using he) hb
     by_cases hle:listed.getD e.on false=true
     ·exact hle
     ·exfalso
      have:e.on∈(r::rs).map (·.i):=(hin e.on).2 ⟨by omega,(hls e.on (by omega)).2 hle⟩
      rw [List.map_cons,List.mem_cons]at this
      rcases this with h|h
      ·omega
      ·obtain⟨s,hs,e1⟩:=List.mem_map.1 h
       have:=(List.pairwise_cons.1 hinc).1 s hs
       omega
    rw [hr]at this;cases this
  have hend:rs=[]→Q .normal a w:=by
   intro e;subst e
   cases hc
   exact hq _ _ _ _ hrel
  cases fuel with
  |zero=>
   have:rs=[]:=List.eq_nil_of_length_eq_zero (by omega)
   refine⟨?_,hend this⟩
   cases hr:Region.ready .any ops listed with
   |nil=>rfl
   |cons i is=>
    obtain⟨o,_,_,h,_⟩:=hready i (by rw [hr];exact List.mem_cons_self)
    rw [this]at h;cases h
  |succ fuel=>
   refine⟨fun hr=>hend (hnil hr),fun i hi=>?_⟩
   obtain⟨o,ho,hi2,him,hed⟩:=hready i hi
   obtain⟨r,hr,rfl⟩:=List.mem_map.1 him
   obtain⟨pre,post,rfl⟩:=List.append_of_mem hr
   have hpi:∀s,s∈pre→A9x ops s r:=by
    intro s hs
    rw [List.pairwise_append]at hind
    rcases hind.2.2 s hs r List.mem_cons_self with h|h
    ·exfalso
     have hD:=D1Y (D:=fun i=>i<ops.size∧listed.getD i false=true) hdown (fun i hi=>⟨_,Array.getElem?_eq_getElem hi.1⟩) hlt (r.i+1) r.i o (by omega) ho hed h
     have:s.i∈(pre++r::post).map (·.i):=List.mem_map.2 ⟨s,List.mem_append_left _ hs,rfl⟩
     exact(hls _ hD.1).1 ((hin s.i).1 this).2 hD.2
    ·exact h
   have hc2:=E6K hc hpi
   cases hc2 with
   |cons x hf hrest=>
    refine D8Q hF hf hrel fun bl' φ' a' w' hrel'=>?_
    have hne:∀s,s∈pre++post→s.i≠r.i:=by
     intro s hs e
     rw [List.pairwise_append]at hinc
     rcases List.mem_append.1 hs with h|h
     ·have:=hinc.2.2 s h r List.mem_cons_self;omega
     ·have:=(List.pairwise_cons.1 hinc.2.1).1 s h;omega
    refine D5P hF hlt fuel (pre++post) (listed.setIfInBounds r.i true) _ _ bl' φ' a' w' ?_ (by simp [hsz]) (fun k=>?_) ?_ ?_ ?_ hrest hrel' hq
    ·simp only [List.length_append,List.length_cons]at hfuel⊢;omega
    ·constructor
     ·intro hk
      obtain⟨s,hs,rfl⟩:=List.mem_map.1 hk
      have hs':s.i∈(pre++r::post).map (·.i):=List.mem_map.2 ⟨s,by
       rcases List.mem_append.1 hs with h|h
       ·exact List.mem_append_left _ h
       ·exact List.mem_append_right _ (List.mem_cons_of_mem _ h),rfl⟩
      obtain⟨q1,q2⟩:=(hin s.i).1 hs'
      exact⟨q1,by rw [getD_set_ne true (fun e=>hne s hs e.symm)];exact q2⟩
     ·rintro⟨q1,q2⟩
      by_cases e:r.i=k
      ·subst e
       simp [Array.getD,hsz,q1]at q2
      ·rw [getD_set_ne true e]at q2
       obtain⟨s,hs,e2⟩:=List.mem_map.1 ((hin k).2 ⟨q1,q2⟩)
       refine List.mem_map.2 ⟨s,?_,e2⟩
       rcases List.mem_append.1 hs with h|h
       ·exact List.mem_append_left _ h
       ·rcases List.mem_cons.1 h with rfl|h
        ·exact absurd e2 e
        ·exact List.mem_append_right _ h
    ·exact hinc.sublist (by simp)
    ·exact hind.sublist (by simp)
    ·intro k o' hk ho' e he hb
     by_cases ek:r.i=k
     ·subst ek
      rw [ho]at ho';cases ho'
      have:=hed e he hb
      exact⟨this.1,getD_set_true this.2⟩
     ·have hk2:listed.getD k false=true:=by rw [←getD_set_ne false ek];exact hk.2
      have:=hdown k o' ⟨hk.1,hk2⟩ ho' e he hb
      exact⟨this.1,getD_set_true this.2⟩
end
structure S9 (B:Nat→A9) (c:Cl):Prop where
 ren:∀n m,A8 c.ren n=some m→m<10000∧P8 (B n)=true∧A8 c.bl m=some (B n)
 inj:∀n n' m,A8 c.ren n=some m→A8 c.ren n'=some m→n=n'
 bl:∀m b,A8 c.bl m=some b→m<10000∧((∃n,A8 c.ren n=some m∧b=B n)∨((∃τ,b= .live τ [] true)∧∀n,A8 c.ren n≠some m))
 fz:∀n,n∈c.fz→A8 c.ren n=none
 lent:∀n m,A8 c.ren n=some m→(F1 n=true∨F1 m=true)→m=n
 own:∀m,F1 m=true→A8 c.bl m≠none→A8 c.ren m=some m
structure Z5 (c c':Cl):Prop where
 ren:∀n m,A8 c.ren n=some m→A8 c'.ren n=some m
 bl:∀m b,A8 c.bl m=some b→A8 c'.bl m=some b
 fz:∀n,n∈c.fz→n∈c'.fz
 old:∀m,A8 c.bl m≠none→(∀n,A8 c.ren n≠some m)→∀n,A8 c'.ren n≠some m
theorem Z5.refl (c:Cl):Z5 c c:=⟨fun _ _ h=>h,fun _ _ h=>h,fun _ h=>h,fun _ _ h=>h⟩
theorem Z5.trans {a b c:Cl} (h:Z5 a b) (k:Z5 b c):Z5 a c:=
 ⟨fun n m e=>k.ren n m (h.ren n m e),fun m x e=>k.bl m x (h.bl m x e),fun n e=>k.fz n (h.fz n e),fun m e1 e2=>k.old m (by
  obtain⟨x,hx⟩:=Option.ne_none_iff_exists'.1 e1
  rw [h.bl m x hx];intro q;cases q) (h.old m e1 e2)⟩
section
variable {B:Nat→A9}
theorem D0N {c:Cl} (hi:S9 B c) {n m:Nat} (hm:m<10000) (hl:P8 (B n)=true) (hn:A8 c.ren n=none) (hf:n∉c.fz) (hb:A8 c.bl m=none) (hle:(F1 n=true∨F1 m=true)→m=n):
  S9 B ⟨c.tm,c.bl++[(m,B n)],(n,m)::c.ren,c.fz⟩∧Z5 c ⟨c.tm,c.bl++[(m,B n)],(n,m)::c.ren,c.fz⟩∧A8 ((n,m)::c.ren) n=some m:=by
 have lk:∀k,A8 ((n,m)::c.ren) k=if n=k then some m else A8 c.ren k:=by
  intro k
  show(B3 (Nat.beq n k) (some m)<|A8 c.ren k)=_
  by_cases e:n=k
  ·subst e;rw [Nat.beq_refl,if_pos rfl];rfl
  ·have:Nat.beq n k=false:=by rw [Bool.eq_false_iff];intro q;exact e (Nat.eq_of_beq_eq_true q)
   rw [this,if_neg e];rfl
 have lb:∀k,A8 (c.bl++[(m,B n)]) k=match A8 c.bl k with|some x=>some x|none=>if m=k then some (B n)else none:=by
  intro k;rw [Q3,i9];cases A8 c.bl k<;>rfl
 have nom:∀k,A8 c.ren k≠some m:=by
  intro k e;have:=(hi.ren k m e).2.2;rw [hb]at this;cases this
 refine⟨⟨fun k j e=>?_,fun k k' j e e'=>?_,fun j b e=>?_,fun k hk=>?_,fun k j e hk=>?_,fun j hj e=>?_⟩,⟨fun k j e=>?_,fun j b e=>?_,fun k hk=>hk,fun j h1 h2 k=>?_⟩,by rw [lk,if_pos rfl]⟩
 rotate_left 4
 ·rw [lk]at e
  split at e
  ·rename_i q;cases e;subst q;exact hle hk
  ·exact hi.lent k j e hk
 ·have e:A8 (c.bl++[(m,B n)]) j≠none:=e
  rw [lb]at e
  show A8 ((n,m)::c.ren) j=some j
  rw [lk]
  cases hq:A8 c.bl j with
  |some x=>
   have h2:=hi.own j hj (by rw [hq];intro e;cases e)
   split
   ·rename_i q;subst q;rw [hn]at h2;cases h2
   ·exact h2
  |none=>
   rw [hq]at e
   simp only at e
   split at e
   ·rename_i q;subst q;rw [if_pos (hle (Or.inr hj)).symm]
   ·exact absurd rfl e
 rotate_left 3
 ·rw [lk]at e
  split at e
  ·rename_i q;cases e;subst q
   exact⟨hm,hl,by rw [lb,hb];simp⟩
  ·obtain⟨q1,q2,q3⟩:=hi.ren k j e
   exact⟨q1,q2,by rw [lb,q3]⟩
 ·rw [lk]at e e'
  split at e
  ·rename_i q
   cases e
   split at e'
   ·rename_i q';rw [←q,←q']
   ·exact absurd e' (nom k')
  ·split at e'
   ·cases e';exact absurd e (nom k)
   ·exact hi.inj k k' j e e'
 ·rw [lb]at e
  cases hj:A8 c.bl j with
  |some x=>
   rw [hj]at e
   cases e
   obtain⟨q1,q2⟩:=hi.bl j b hj
   refine⟨q1,?_⟩
   rcases q2 with⟨k,q3,q4⟩| ⟨q3,q4⟩
   ·refine Or.inl ⟨k,?_,q4⟩
    rw [lk,if_neg]
    ·exact q3
    ·intro e;subst e;rw [hn]at q3;cases q3
   ·refine Or.inr ⟨q3,fun k=>?_⟩
    rw [lk]
    split
    ·intro e;cases e;rw [hb]at hj;cases hj
    ·exact q4 k
  |none=>
   rw [hj]at e
   simp only at e
   split at e
   ·rename_i q;cases e;subst q
    exact⟨hm,Or.inl ⟨n,by rw [lk,if_pos rfl],rfl⟩⟩
   ·cases e
 ·rw [lk,if_neg]
  ·exact hi.fz k hk
  ·intro e;subst e;exact hf hk
 ·show A8 ((n,m)::c.ren) k=some j
  rw [lk,if_neg]
  ·exact e
  ·intro q;subst q;rw [hn]at e;cases e
 ·show A8 (c.bl++[(m,B n)]) j=some b
  rw [lb,e]
 ·show A8 ((n,m)::c.ren) k≠some j
  rw [lk]
  split
  ·intro e;cases e;exact h1 hb
  ·exact h2 k
theorem C6L {c:Cl} (hi:S9 B c) {m:Nat} (h:G3 c.bl m= .fresh):A8 c.bl m=none:=by
 rw [W5]at h
 cases hl:A8 c.bl m with
 |none=>rfl
 |some b=>
  rw [hl]at h
  simp only at h
  subst h
  rcases(hi.bl m _ hl).2 with⟨n,q1,q2⟩| ⟨⟨τ,q⟩,_⟩
  ·have:=(hi.ren n m q1).2.1;rw [←q2]at this;cases this
  ·cases q
theorem B6k {c c':Cl} (hi:S9 B c) {n m:Nat} (hlt:n<10000) (hl:P8 (B n)=true) (h:B2D B c n=some (m,c')):S9 B c'∧Z5 c c'∧A8 c'.ren n=some m∧c'.tm=c.tm:=by
 unfold B2D at h
 split at h
 ·rename_i m' hm;cases h;exact⟨hi, .refl _,hm,rfl⟩
 ·rename_i hn
  split at h
  ·rename_i hf
   cases hc:G8 c.fz n with
   |true=>rw [hc]at h;cases h
   |false=>
    rw [hc]at h
    cases h
    obtain⟨q1,q2,q3⟩:=D0N hi hlt hl hn (fun e=>by rw [q8.2 e]at hc;cases hc) (C6L hi hf) (fun _=>rfl)
    exact⟨q1,q2,q3,rfl⟩
  ·cases h
theorem B6o {c c':Cl} (hi:S9 B c) {n t m:Nat} (hlt:n<10000) (hl:P8 (B n)=true) (h:B2F B c n t=some (m,c')):S9 B c'∧Z5 c c'∧A8 c'.ren n=some m∧c'.tm=c.tm:=by
 unfold B2F at h
 split at h
 ·rename_i m' hm;cases h;exact⟨hi, .refl _,hm,rfl⟩
 ·rename_i hn
  cases hln:F1 n with
  |true=>rw [hln,E4]at h;exact B6k hi hlt hl h
  |false=>
   rw [hln,P7]at h
   split at h
   ·rename_i hf
    cases hc:(G8 c.fz n||!Nat.blt t 2000)with
    |true=>rw [hc]at h;cases h
    |false=>
     rw [hc]at h
     cases h
     rw [Bool.or_eq_false_iff]at hc
     have ht:Nat.blt t 2000=true:=by simpa using hc.2
     rw [Nat.blt_eq]at ht
     obtain⟨q1,q2,q3⟩:=D0N hi (show t<10000 from by omega) hl hn (fun e=>by rw [q8.2 e]at hc;cases hc.1) (C6L hi hf) (fun e=>by
      rcases e with e|e
      ·rw [hln]at e;cases e
      ·unfold F1 at e
       rw [Bool.and_eq_true]at e
       have:=Nat.le_of_ble_eq_true e.1
       omega)
     exact⟨q1,q2,q3,rfl⟩
   ·cases h
theorem D8k:∀(ns:List Nat) {c c':Cl},S9 B c→B8I c ns=some c'→S9 B c'∧Z5 c c'∧(∀n,n∈ns→n∈c'.fz)∧c'.tm=c.tm
 | [],c,c',hi,h=>by cases h;exact⟨hi, .refl _,(fun n h=>by cases h),rfl⟩
 |n::ns,c,c',hi,h=>by
  unfold B8I at h
  split at h
  ·cases h
  ·rename_i hn
   have hi1:S9 B ⟨c.tm,c.bl,c.ren,n::c.fz⟩:=⟨hi.ren,hi.inj,hi.bl,(fun k hk=>by
    rcases List.mem_cons.1 hk with rfl|hk
    ·exact hn
    ·exact hi.fz k hk),hi.lent,hi.own⟩
   obtain⟨q1,q2,q3,q4⟩:=D8k ns hi1 h
   have hle:Z5 c ⟨c.tm,c.bl,c.ren,n::c.fz⟩:=⟨fun _ _ h=>h,fun _ _ h=>h,fun _ h=>List.mem_cons_of_mem _ h,fun _ _ h=>h⟩
   refine⟨q1,hle.trans q2,fun k hk=>?_,q4⟩
   rcases List.mem_cons.1 hk with rfl|hk
   ·exact q2.fz k List.mem_cons_self
   ·exact q3 k hk
inductive z8 (B:Nat→A9) (c:Cl):A→A→Prop
 |same {x:A}:(x= .u∨x= .ns∨x= .nf∨(∃t z,x= .v t z)∨(∃t z,x= .pv t z))→z8 B c x x
 |p {p:Prop} {d:Decidable p}:z8 B c (.p p d) (.v .bo (@decide p d))
 |ref {n m:Nat}:A8 c.ren n=some m→z8 B c (.ref n) (.ref m)
 |ptr {n m:Nat} {i:Int} {π:List Nat}:A8 c.ren n=some m→z8 B c (.ptr n i π) (.ptr m i π)
 |pa {n m:Nat} {lo hi:Int}:A8 c.ren n=some m→z8 B c (.part n lo hi) (.part m lo hi)
 |rp {n m:Nat} {τ:Ty} {l:List τ.T}:A8 c.ren n=some m→holds (B n) τ l→z8 B c (.ref n) (.part m 0 l.length)
 |val {x:A} {τ:Ty} {z:τ.T}:L6 B τ x=some z→(∀n,n∈G4 x→n∈c.fz)→z8 B c x (.v τ z)
 |own {t:Nat} {τ:Ty}:A8 c.bl t=some (.live τ [] true)→(∀n,A8 c.ren n≠some t)→z8 B c .ns (.ref t)
inductive A5R (B:Nat→A9) (c:Cl):List A→List A→Prop
 |nil:A5R B c [] []
 |cons {x y:A} {xs ys:List A}:z8 B c x y→A5R B c xs ys→A5R B c (x::xs) (y::ys)
inductive VOk (B:Nat→A9) (c:Cl):V→V→Prop
 |a {x y:A}:z8 B c x y→VOk B c (.a x) (.a y)
 |cl {f:Nat} {xs ys:List A}:A5R B c xs ys→VOk B c (.cl f xs) (.cl f ys)
theorem z8.le {c c':Cl} (h:Z5 c c') {x y:A} (k:z8 B c x y):z8 B c' x y:=by
 cases k with
 |same h=>exact .same h
 |p=>exact .p
 |ref e=>exact .ref (h.ren _ _ e)
 |ptr e=>exact .ptr (h.ren _ _ e)
 |pa e=>exact .pa (h.ren _ _ e)
 |rp e k=>exact .rp (h.ren _ _ e) k
 |val e1 e2=>exact .val e1 fun n hn=>h.fz n (e2 n hn)
 |own e1 e2=>exact .own (h.bl _ _ e1) (h.old _ (by rw [e1];intro q;cases q) e2)
theorem A5R.le {c c':Cl} (h:Z5 c c') {x y:List A} (k:A5R B c x y):A5R B c' x y:=by
 induction k with
 |nil=>exact .nil
 |cons k _ ih=>exact .cons (k.le h) ih
theorem VOk.le {c c':Cl} (h:Z5 c c') {x y:V} (k:VOk B c x y):VOk B c' x y:=by
 cases k with
 |a k=>exact .a (k.le h)
 |cl k=>exact .cl (k.le h)
theorem C5o (hB:∀n,P8 (B n)=true→n<10000):∀(xs:List A) {ys:List A} {c c':Cl},S9 B c→B4D B c xs=some (ys,c')→S9 B c'∧Z5 c c'∧A5R B c' xs ys∧c'.tm=c.tm
 | [],ys,c,c',hi,h=>by cases h;exact⟨hi, .refl _, .nil,rfl⟩
 |x::xs,ys,c,c',hi,h=>by
  unfold B4D at h
  split at h
  ·rename_i q;cases q
  ·rename_i n i π l q
   cases q
   cases hl:P8 (B n)with
   |false=>rw [hl]at h;cases h
   |true=>
    rw [hl,E4]at h
    split at h
    ·rename_i m c1 h1
     obtain⟨a1,a2,a3,a4⟩:=B6k hi (hB n hl) hl h1
     split at h
     ·rename_i asx c2 h2
      cases h
      obtain⟨b1,b2,b3,b4⟩:=C5o hB xs a1 h2
      exact⟨b1,a2.trans b2, .cons (.ptr (b2.ren _ _ a3)) b3,b4.trans a4⟩
     ·cases h
    ·cases h
  ·rename_i t x l q
   cases q
   split at h
   ·rename_i asx c2 h2
    cases h
    obtain⟨b1,b2,b3,b4⟩:=C5o hB xs hi h2
    exact⟨b1,b2, .cons (.same (Or.inr (Or.inr (Or.inr (Or.inr ⟨_,_,rfl⟩))))) b3,b4⟩
   ·cases h
  ·cases h
theorem E4X (hB:∀n,P8 (B n)=true→n<10000) {c c':Cl} (hi:S9 B c) {t:Nat} {m:KM} {v v':V} (h:clV B c t m v=some (v',c')):S9 B c'∧Z5 c c'∧VOk B c' v v'∧c'.tm=c.tm:=by
 unfold clV at h
 split at h
 ·split at h
  ·rename_i z hz
   split at h
   ·rename_i c1 h1
    cases h
    obtain⟨q1,q2,q3,q4⟩:=D8k _ hi h1
    exact⟨q1,q2, .a (.val hz q3),q4⟩
   ·cases h
  ·cases h
 ·rename_i τ
  split at h
  ·rename_i hf
   cases ht:Nat.blt t 2000 with
   |false=>rw [ht]at h;cases h
   |true=>
    rw [ht]at h
    cases h
    rw [Nat.blt_eq]at ht
    have hn:=C6L hi hf
    have lb:∀k,A8 (c.bl++[(t, .live τ [] true)]) k=match A8 c.bl k with|some x=>some x|none=>if t=k then some (.live τ [] true)else none:=by
     intro k;rw [Q3,i9];cases A8 c.bl k<;>rfl
    have nom:∀k,A8 c.ren k≠some t:=by
     intro k e;have:=(hi.ren k t e).2.2;rw [hn]at this;cases this
    refine⟨⟨fun k j e=>?_,hi.inj,fun j b e=>?_,hi.fz,hi.lent,fun j hj e=>?_⟩,⟨fun _ _ h=>h,fun j b e=>?_,fun _ h=>h,fun _ _ h=>h⟩, .a (.own (τ:=τ) ?_ nom),rfl⟩
    rotate_left 2
    ·have e:A8 (c.bl++[(t, .live τ [] true)]) j≠none:=e
     rw [lb]at e
     cases hq:A8 c.bl j with
     |some x=>exact hi.own j hj (by rw [hq];intro e;cases e)
     |none=>
      rw [hq]at e
      simp only at e
      split at e
      ·rename_i q
       subst q
       unfold F1 at hj
       rw [Bool.and_eq_true]at hj
       have:=Nat.le_of_ble_eq_true hj.1
       omega
      ·exact absurd rfl e
    rotate_left 2
    ·obtain⟨q1,q2,q3⟩:=hi.ren k j e
     exact⟨q1,q2,by show A8 (c.bl++_) j=_;rw [lb,q3]⟩
    ·have e:A8 (c.bl++[(t, .live τ [] true)]) j=some b:=e
     rw [lb]at e
     cases hj:A8 c.bl j with
     |some x=>rw [hj]at e;cases e;exact hi.bl j b hj
     |none=>
      rw [hj]at e
      simp only at e
      split at e
      ·rename_i q;cases e;subst q;exact⟨by omega,Or.inr ⟨⟨τ,rfl⟩,nom⟩⟩
      ·cases e
    ·show A8 (c.bl++_) j=_;rw [lb,e]
    ·show A8 (c.bl++_) t=_;rw [lb,hn];simp
  ·cases h
 ·rename_i n
  split at h
  ·rename_i τ l tl hb
   split at h
   ·rename_i m' c1 h1
    cases h
    have hl:P8 (B n)=true:=by rw [hb];rfl
    obtain⟨q1,q2,q3,q4⟩:=B6o hi (hB n hl) hl h1
    exact⟨q1,q2, .a (.rp q3 (Or.inl ⟨tl,hb⟩)),q4⟩
   ·cases h
  ·rename_i τ l hb
   split at h
   ·rename_i m' c1 h1
    cases h
    have hl:P8 (B n)=true:=by rw [hb];rfl
    obtain⟨q1,q2,q3,q4⟩:=B6o hi (hB n hl) hl h1
    exact⟨q1,q2, .a (.rp q3 (Or.inr hb)),q4⟩
   ·cases h
  ·cases h
 ·rename_i n lo hi'
  cases hl:P8 (B n)with
  |false=>rw [hl]at h;cases h
  |true=>
   rw [hl,E4]at h
   split at h
   ·rename_i m' c1 h1
    cases h
    obtain⟨q1,q2,q3,q4⟩:=B6o hi (hB n hl) hl h1
    exact⟨q1,q2, .a (.pa q3),q4⟩
   ·cases h
 ·rename_i n _ _
  cases hl:P8 (B n)with
  |false=>rw [hl]at h;cases h
  |true=>
   rw [hl,E4]at h
   split at h
   ·rename_i m' c1 h1
    cases h
    obtain⟨q1,q2,q3,q4⟩:=B6o hi (hB n hl) hl h1
    exact⟨q1,q2, .a (.ref q3),q4⟩
   ·cases h
 ·rename_i n i π _
  cases hl:P8 (B n)with
  |false=>rw [hl]at h;cases h
  |true=>
   rw [hl,E4]at h
   split at h
   ·rename_i m' c1 h1
    cases h
    obtain⟨q1,q2,q3,q4⟩:=B6k hi (hB n hl) hl h1
    exact⟨q1,q2, .a (.ptr q3),q4⟩
   ·cases h
 ·cases h
 ·cases h;exact⟨hi, .refl _, .a .p,rfl⟩
 ·rename_i f caps _
  split at h
  ·rename_i asx c1 h1
   cases h
   obtain⟨q1,q2,q3,q4⟩:=C5o hB _ hi h1
   exact⟨q1,q2, .cl q3,q4⟩
  ·cases h
 ·cases h
 ·cases h
 ·rename_i x n1 n2 n3 n4 n5 _ _ _ _
  cases h
  refine⟨hi, .refl _, .a (.same ?_),rfl⟩
  cases x with
  |u=>exact Or.inl rfl
  |v t z=>exact Or.inr (Or.inr (Or.inr (Or.inl ⟨_,_,rfl⟩)))
  |pv t z=>exact Or.inr (Or.inr (Or.inr (Or.inr ⟨_,_,rfl⟩)))
  |ns=>exact Or.inr (Or.inl rfl)
  |nf=>exact Or.inr (Or.inr (Or.inl rfl))
  |p p d=>exact(n4 _ _ rfl).elim
  |ref n=>exact(n1 _ rfl).elim
  |part n lo hi=>exact(n3 _ _ _ rfl).elim
  |ptr n i π=>exact(n2 _ _ _ rfl).elim
  |nv b t z=>exact(n5 _ _ _ rfl).elim
theorem C8h (hB:∀n,P8 (B n)=true→n<10000):∀(ns:List Nat) {c c':Cl},S9 B c→B4X B ns c=some c'→S9 B c'∧Z5 c c'∧c'.tm=c.tm∧∀n,n∈ns→F1 n=true→A8 c'.ren n=some n
 | [],c,c',hi,h=>by cases h;exact⟨hi, .refl _,rfl,(fun n h=>by cases h)⟩
 |n::ns,c,c',hi,h=>by
  unfold B4X at h
  cases hl:F1 n with
  |false=>
   rw [hl,P7]at h
   obtain⟨q1,q2,q3,q4⟩:=C8h hB ns hi h
   refine⟨q1,q2,q3,fun k hk hkl=>?_⟩
   rcases List.mem_cons.1 hk with rfl|hk
   ·rw [hl]at hkl;cases hkl
   ·exact q4 k hk hkl
  |true=>
   rw [hl,E4]at h
   cases hf:P8 (B n)with
   |false=>rw [hf]at h;cases h
   |true=>
    rw [hf,E4]at h
    split at h
    ·rename_i m c1 h1
     obtain⟨a1,a2,a3,a4⟩:=B6k hi (hB n hf) hf h1
     obtain⟨q1,q2,q3,q4⟩:=C8h hB ns a1 h
     refine⟨q1,a2.trans q2,q3.trans a4,fun k hk hkl=>?_⟩
     rcases List.mem_cons.1 hk with rfl|hk
     ·have:=a1.lent k m a3 (Or.inl hl)
      subst this
      exact q2.ren _ _ a3
     ·exact q4 k hk hkl
    ·cases h
end
section
variable {B:Nat→A9}
theorem D3O (hB:∀n,P8 (B n)=true→n<10000) {tm:List (Nat×V)}:∀(L:List (Nat×KM)) {c c':Cl},S9 B c→(∀t v,A8 c.tm t=some v→VOk B c (K5 tm t) v)→B6v tm B L c=some c'→S9 B c'∧∀t v,A8 c'.tm t=some v→VOk B c' (K5 tm t) v
 | [],c,c',hi,ht,h=>by cases h;exact⟨hi,ht⟩
 | (t,m)::L,c,c',hi,ht,h=>by
  unfold B6v at h
  split at h
  ·rename_i v c1 h1
   obtain⟨q1,q2,q3,q4⟩:=E4X hB hi h1
   refine D3O hB L (c:=⟨c1.tm++[(t,v)],c1.bl,c1.ren,c1.fz⟩) ⟨q1.ren,q1.inj,q1.bl,q1.fz,q1.lent,q1.own⟩ (fun k u hk=>?_) h
   have lift:∀{x y:V},VOk B c1 x y→VOk B ⟨c1.tm++[(t,v)],c1.bl,c1.ren,c1.fz⟩ x y:=fun h=>VOk.le (c:=c1) (c':=⟨c1.tm++[(t,v)],c1.bl,c1.ren,c1.fz⟩) ⟨fun _ _ h=>h,fun _ _ h=>h,fun _ h=>h,fun _ _ h=>h⟩ h
   have hk:A8 (c1.tm++[(t,v)]) k=some u:=hk
   rw [Q3,i9]at hk
   cases hl:A8 c1.tm k with
   |some x=>
    rw [hl]at hk;cases hk
    rw [q4]at hl
    exact lift ((ht k u hl).le q2)
   |none=>
    rw [hl]at hk
    simp only at hk
    split at hk
    ·rename_i e;cases hk;subst e;exact lift q3
    ·cases hk
  ·cases h
end
open Classical in
noncomputable def X5 (φ:Nat→Addr) (c:Cl) (m:Nat):Addr:=if m<10000 then(if h:∃n,A8 c.ren n=some m then φ h.choose else⟨0,0,some 0⟩)else φ m
def Q5 (bl:Nat→A9) (c:Cl) (m:Nat):A9:=if m<10000 then G3 c.bl m else bl m
section
variable {w0 w:World} {Bo:Nat→Nat→Prop} {bl0 bl B:Nat→A9} {φ0 φ:Nat→Addr} {c:Cl}
theorem A7H (hi:S9 B c) {n m:Nat} (h:A8 c.ren n=some m):X5 φ c m=φ n:=by
 have hm:=(hi.ren n m h).1
 unfold X5
 rw [if_pos hm]
 have he:∃n,A8 c.ren n=some m:=⟨n,h⟩
 rw [dif_pos he,hi.inj _ _ _ he.choose_spec h]
theorem C4S {m:Nat} (hm:m<10000) (h:∀n,A8 c.ren n≠some m):X5 φ c m=⟨0,0,some 0⟩:=by
 unfold X5
 rw [if_pos hm,dif_neg (fun⟨n,e⟩=>h n e)]
theorem A8O {m:Nat} {b:A9} (hi:S9 B c) (h:A8 c.bl m=some b):Q5 bl c m=b:=by
 unfold Q5
 rw [if_pos (hi.bl m b h).1,W5,h]
theorem B3l (hi:S9 B c) {m:Nat} (h:live (Q5 bl c m)) (hs:(X5 φ c m).spot=none):(m<10000∧∃n,A8 c.ren n=some m∧Q5 bl c m=B n∧X5 φ c m=φ n∧n∉c.fz)∨(¬m<10000∧Q5 bl c m=bl m∧X5 φ c m=φ m):=by
 by_cases hm:m<10000
 ·refine Or.inl ⟨hm,?_⟩
  have hb:Q5 bl c m=G3 c.bl m:=by unfold Q5;rw [if_pos hm]
  cases hl:A8 c.bl m with
  |none=>rw [hb,W5,hl]at h;obtain⟨_,_,_,e⟩:=h;cases e
  |some b=>
   rcases(hi.bl m b hl).2 with⟨n,q1,q2⟩| ⟨_,q2⟩
   ·refine⟨n,q1,?_,A7H hi q1,fun e=>?_⟩
    ·rw [hb,W5,hl,q2]
    ·have:=hi.fz n e;rw [q1]at this;cases this
   ·rw [C4S hm q2]at hs;cases hs
 ·exact Or.inr ⟨hm,by unfold Q5;rw [if_neg hm],by unfold X5;rw [if_neg hm]⟩
theorem F4D {N:Nat} {B0:Nat→A9} {tm:List (Nat×V)} {a:Act} (hi:S9 B c) (hB:∀n,P8 (B n)=true→n<10000) (hBb:∀n,B n≠ .dead→n<10000∧bl n=B n) (hT:∀t v,A8 c.tm t=some v→VOk B c (K5 tm t) v)
    (hlent:∀n,F1 n=true→bl n≠ .fresh→A8 c.ren n=some n) (hr:n6 N w0 Bo bl0 φ0 (K5 tm) B0 bl φ a w):n6 N w0 Bo bl0 φ0 (K5 c.tm) (G3 c.bl) (Q5 bl c) (X5 φ c) a w:=by
  have ha:H4 B bl:=fun n hn=>(hBb n hn).2
  have st:=v7 ha hr.mem c.fz
  have m1:=st.mem
  have hnf:∀n,n∉c.fz→B4 (C9 B c.fz) bl n=bl n:=fun n h=>A2o _ _ h
  have hlive:∀n,P8 (B n)=true→bl n=B n:=fun n h=>ha n (by intro e;rw [e]at h;cases h)
  have hfar:∀n,¬n<10000→n∉c.fz→True:=fun _ _ _=>trivial
  have hfar2:∀n,¬n<10000→B4 (C9 B c.fz) bl n=bl n:=by
    intro n hn
    rcases A5v ha c.fz n with e| ⟨t,l,tl,e1,e2⟩
    · exact e
    · exfalso
      have:∀(ns:List Nat),B4 (C9 B ns) bl n= .froz t l→False:=by
        intro ns
        induction ns with
        |nil=>intro q;rw [show B4 (C9 B []) bl n=bl n from rfl,e1]at q;cases q
        | cons k ns ih=>
          intro q
          unfold C9 at q ih
          rw [List.flatMap_cons,A4r]at q
          cases hk:B k with
          | live t' l' tl'=>
            have e:Q6 B k=[(k, .froz t' l')]:=by unfold Q6;rw [hk]
            rw [e,Q4,j3]at q
            by_cases hkn:n=k
            · subst hkn;exact hn (hB n (by rw [hk];rfl))
            · rw [O3 hkn]at q;exact ih q
          | _=>
            have e:Q6 B k=[]:=by unfold Q6;rw [hk]
            rw [e,j3]at q;exact ih q
      exact this _ e2
  have hown:∀b,C7 (Q5 bl c) (X5 φ c) b→C7 (B4 (C9 B c.fz) bl) φ b:=by
    rintro b ⟨m,h1,h2,h3⟩
    rcases B3l hi h1 h2 with⟨_,n,q1,q2,q3,q4⟩| ⟨q1,q2,q3⟩
    · rw [q3]at h2 h3
      refine⟨n,?_,h2,h3⟩
      rw [hnf n q4,hlive n (hi.ren n m q1).2.1,←q2];exact h1
    · rw [q3]at h2 h3
      refine⟨m,?_,h2,h3⟩
      rw [hfar2 m q1,←q2];exact h1
  have he:P0 w (C7 (B4 (C9 B c.fz) bl) φ) w (C7 (Q5 bl c) (X5 φ c)):=(M9.refl w (fun _ _=>False)).ext (fun _ _ _ h=>h.elim) fun b _=>hown b
  have hblk:∀n m,A8 c.ren n=some m→B2A w (C7 (Q5 bl c) (X5 φ c)) (φ n) (B n):=by
    intro n m h
    have hnn:n∉c.fz:=fun e=>by have:=hi.fz n e;rw [h]at this;cases this
    have:=m1.blk n
    rw [hnf n hnn,hlive n (hi.ren n m h).2.1]at this
    exact A9H he (fun _ _ _ _ h=>h) this
  refine⟨fun n hn=>by unfold Q5;rw [if_pos hn],⟨fun m=>?_,fun m k h1 h2 h3 h4 h5=>?_,fun m t l tl hm h1 h2=>?_,hr.mem.fr⟩,fun t=>?_,hr.size,hr.defers,fun n hn=>by unfold Q5;rw [if_neg (by omega)];exact hr.far n hn,fun n hn=>?_⟩
  rotate_left 4
  · obtain⟨k1,k2⟩:=hr.keep n hn
    rcases hn with hn|hn
    · have hln:F1 n=true:=by
        unfold F1
        rw [Bool.and_eq_true,Nat.blt_eq]
        exact⟨Nat.ble_eq_true_of_le hn.1,hn.2⟩
      refine⟨fun e=>?_,fun e=>?_⟩
      · unfold Q5
        rw [if_pos (by omega),W5]
        cases hq:A8 c.bl n with
        |none=>rfl
        | some b=>
          exfalso
          have h1:=hi.own n hln (by rw [hq];intro q;cases q)
          have h2:=(hi.ren n n h1).2.1
          rw [←hlive n h2,k1 e]at h2;cases h2
      · obtain⟨q1,q2⟩:=k2 e
        have h1:=hlent n hln (q1.ne e)
        obtain⟨_,h2,h3⟩:=hi.ren n n h1
        rw [A8O hi h3,←hlive n h2,A7H hi h1]
        exact⟨q1,q2⟩
    · have e1:Q5 bl c n=bl n:=by unfold Q5;rw [if_neg (by omega)]
      have e2:X5 φ c n=φ n:=by unfold X5;rw [if_neg (by omega)]
      rw [e1,e2];exact⟨k1,k2⟩
  · by_cases hm:m<10000
    · cases hl:A8 c.bl m with
      | none => have e:Q5 bl c m= .fresh:=by unfold Q5;rw [if_pos hm,W5,hl]
                rw [e];trivial
      | some b=>
        rw [A8O hi hl]
        rcases(hi.bl m b hl).2 with⟨n,q1,q2⟩| ⟨⟨τ,q1⟩,q2⟩
        · rw [A7H hi q1,q2];exact hblk n m q1
        · rw [C4S hm q2,q1];exact Or.inl ⟨by simp,rfl⟩
    · have e1:Q5 bl c m=bl m:=by unfold Q5;rw [if_neg hm]
      have e2:X5 φ c m=φ m:=by unfold X5;rw [if_neg hm]
      rw [e1,e2]
      have:=m1.blk m
      rw [hfar2 m hm]at this
      exact A9H he (fun _ _ _ _ h=>h) this
  · rcases B3l hi h1 h3 with⟨a1,n,a2,a3,a4,a5⟩| ⟨a1,a2,a3⟩
    · rcases B3l hi h2 h4 with⟨b1,n',b2,b3,b4,b5⟩| ⟨b1,b2,b3⟩
      · rw [a4]at h3 h5;rw [b4]at h4 h5;rw [a3,←hlive n (hi.ren n m a2).2.1]at h1;rw [b3,←hlive n' (hi.ren n' k b2).2.1]at h2
        have:=hr.mem.uniq n n' h1 h2 h3 h4 h5
        subst this
        rw [a2]at b2;exact Option.some.inj b2
      · rw [a4]at h3 h5;rw [b3]at h4 h5;rw [a3,←hlive n (hi.ren n m a2).2.1]at h1;rw [b2]at h2
        have:=hr.mem.uniq n k h1 h2 h3 h4 h5
        have:=hB n (hi.ren n m a2).2.1;omega
    · rcases B3l hi h2 h4 with⟨b1,n',b2,b3,b4,b5⟩| ⟨b1,b2,b3⟩
      · rw [a3]at h3 h5;rw [b4]at h4 h5;rw [a2]at h1;rw [b3,←hlive n' (hi.ren n' k b2).2.1]at h2
        have:=hr.mem.uniq m n' h1 h2 h3 h4 h5
        have:=hB n' (hi.ren n' k b2).2.1;omega
      · rw [a3]at h3 h5;rw [b3]at h4 h5;rw [a2]at h1;rw [b2]at h2
        exact hr.mem.uniq m k h1 h2 h3 h4 h5
  · rcases B3l hi ⟨_,_,_,h1⟩ h2 with⟨_,n,q1,q2,q3,_⟩| ⟨q1,_,_⟩
    · rw [q3]at h2⊢
      rw [q2,←hlive n (hi.ren n m q1).2.1]at h1
      exact hr.mem.lo n t l tl (hB n (hi.ren n m q1).2.1) h1 h2
    · exact absurd hm q1
  · have aok:∀(x y:A) (u:Value),z8 B c x y→C1 w bl φ x u→C1 w (Q5 bl c) (X5 φ c) y u:=by
      intro x y u h hx
      cases h with
      | same h=>
        have hx':=A3m st.goes _ _ hx
        rcases h with rfl|rfl|rfl| ⟨t,z,rfl⟩| ⟨t,z,rfl⟩
        · trivial
        · exact hx
        · exact hx
        · exact A1k hown (Or.inl ⟨_,_,rfl⟩) hx'
        · exact A1k hown (Or.inr ⟨_,_,rfl⟩) hx'
      |p=>exact R4.2 hx
      | @ref n m e=>
        obtain⟨_,q2,q3⟩:=hi.ren _ _ e
        simp only [C1,hlive n q2]at hx
        simp only [C1,A8O hi q3,A7H hi e]
        exact hx
      | @ptr n m i π e=>
        obtain⟨_,q2,q3⟩:=hi.ren _ _ e
        simp only [C1,hlive n q2]at hx
        simp only [C1,A8O hi q3,A7H hi e]
        exact hx
      | @pa n m lo hi' e=>
        obtain⟨_,q2,q3⟩:=hi.ren _ _ e
        simp only [C1,hlive n q2]at hx
        simp only [C1,A8O hi q3,A7H hi e]
        exact hx
      | @rp n m τ l e hb=>
        obtain⟨_,q2,q3⟩:=hi.ren _ _ e
        simp only [C1,hlive n q2]at hx
        simp only [C1,A8O hi q3,A7H hi e]
        have hp:∀(v:Value),A3T w (φ n) τ.sz l.length v→A1o w (φ n) τ.sz l.length 0 l.length v:=by
          intro v hv
          rcases hv with⟨h1,ad,rfl⟩| ⟨h1,cap,rfl,h3,h4⟩
          · rw [h1];exact⟨Int.le_refl _,by simp,by simp,ad,0,rfl,by simp,Or.inl rfl⟩
          · refine⟨Int.le_refl _,by omega,by omega,some (φ n),cap,by congr 1,by omega,Or.inr ⟨h1,?_,?_⟩⟩
            · cases hq:φ n with|mk b o s=>rw [hq]at h1;simp only at h1;subst h1;simp
            · have:(φ n).off+(0:Int).toNat*τ.sz=(φ n).off:=by simp
              rw [this];exact h4
        rcases hb with⟨tl,hb⟩|hb
        · rw [hb]at hx⊢;exact hp _ hx
        · rw [hb]at hx⊢;exact hp _ hx
      |val e1 e2=>exact A1k hown (Or.inl ⟨_,_,rfl⟩) (A6K ha hr.mem (fun n hn _=>e2 n hn) e1 hx)
      | @own t τ e1 e2=>
        obtain⟨ad,rfl⟩:=hx
        simp only [C1,A8O hi e1,C4S (hi.bl _ _ e1).1 e2]
        exact Or.inl ⟨rfl,ad,rfl⟩
    have asok:∀(xs ys:List A),A5R B c xs ys→∀cv,N3 w bl φ xs cv→N3 w (Q5 bl c) (X5 φ c) ys cv:=by
      intro xs ys h
      induction h with
      |nil=>intro cv e;cases e;exact .nil
      |cons h _ ih=>intro cv e;cases e with|cons r1 r2=>exact .cons (aok _ _ _ h r1) (ih _ r2)
    have hx:=hr.tm t
    cases hl:A8 c.tm t with
    | none=>
      have:K5 c.tm t= .a .u:=by
        have gl:∀(l:List (Nat×V)),A8 l t=none→K5 l t= .a .u:=by
          intro l
          induction l with
          |nil=>intro _;rfl
          | cons q l ih=>
            obtain⟨k,x⟩:=q
            intro h
            unfold A8 at h;unfold K5
            cases hb:Nat.beq k t with
            |true=>rw [hb]at h;cases h
            |false=>rw [hb]at h;exact ih h
        exact gl _ hl
      rw [this];trivial
    | some v=>
      have gl:∀(l:List (Nat×V)),A8 l t=some v→K5 l t=v:=by
        intro l
        induction l with
        |nil=>intro h;cases h
        | cons q l ih=>
          obtain⟨k,x⟩:=q
          intro h
          unfold A8 at h;unfold K5
          cases hb:Nat.beq k t with
          |true=>rw [hb]at h;cases h;rfl
          |false=>rw [hb]at h;exact ih h
      rw [gl _ hl]
      have hv:=hT t v hl
      generalize K5 tm t=x at hx hv
      cases hv with
      |a h=>exact aok _ _ _ h hx
      | cl h=>
        obtain⟨cv,e1,e2⟩:=hx
        exact⟨cv,e1,asok _ _ h cv e2⟩
def Rel (N:Nat) (w0:World) (Bo:Nat→Nat→Prop) (bl0:Nat→A9) (φ0:Nat→Addr) (st:St) (a:Act) (w:World):Prop:=∃bl φ,n6 N w0 Bo bl0 φ0 (K5 st.tm) (G3 st.bl) bl φ a w
theorem E2N {N:Nat} {L:List (Nat×KM)} {st st':St} {a:Act} (h:C6o L st=some st') (hr:Rel N w0 Bo bl0 φ0 st a w):Rel N w0 Bo bl0 φ0 st' a w:=by
 unfold C6o at h
 split at h
 ·rename_i c hc
  split at h
  ·rename_i c2 hc2
   cases h
   obtain⟨bl,φ,hr⟩:=hr
   have hB:∀n,P8 (B3 (Nat.blt n 10000) (G3 st.bl n)<| .dead)=true→n<10000:=by
    intro n h
    cases hb:Nat.blt n 10000 with
    |true=>rwa [Nat.blt_eq]at hb
    |false=>rw [hb]at h;cases h
   obtain⟨q1,q2⟩:=D3O hB L (c:=⟨[],[],[],[]⟩) ⟨(fun n m h=>by cases h),(fun n n' m h=>by cases h),(fun m b h=>by cases h),(fun n h=>by cases h),(fun n m h=>by cases h),(fun m _ h=>absurd rfl h)⟩ (fun t v h=>by cases h) hc
   obtain⟨p1,p2,p3,p4⟩:=C8h hB (st.bl.map (·.1)) q1 hc2
   refine⟨Q5 bl c2,X5 φ c2,F4D p1 hB (fun n hn=>?_) (fun t v hv=>?_) (fun n hn hf=>?_) hr⟩
   ·cases hb:Nat.blt n 10000 with
    |true=>
     rw [Nat.blt_eq]at hb
     exact⟨hb,hr.loc n hb⟩
    |false=>rw [hb]at hn;exact absurd rfl hn
   ·rw [p3]at hv;exact(q2 t v hv).le p2
   ·have hlt:n<10000:=by
     unfold F1 at hn
     rw [Bool.and_eq_true,Nat.blt_eq]at hn
     omega
    rw [hr.loc n hlt]at hf
    refine p4 n ?_ hn
    rw [W5]at hf
    cases hl:A8 st.bl n with
    |none=>rw [hl]at hf;exact absurd rfl hf
    |some b=>exact List.mem_map.2 ⟨_,Y9 _ _ _ hl,rfl⟩
  ·cases h
 ·cases h
end
section
variable {P:Program} {N:Nat} {w0:World} {Bo:Nat→Nat→Prop} {bl0:Nat→A9} {φ0:Nat→Addr} {ops:Array Oper} {E:E1} {R:Type} {r:R}
theorem D3K {mk:List Nat} {a:Met}:∀{ms:List Met},B5n ops mk a ms=true→∀b,b∈ms→(mk.getD a.i 0).testBit b.i=true∨B4M ops b a=true
 | [],_,b,hb=>by cases hb
 |c::ms,h,b,hb=>by
  unfold B5n at h
  rw [Bool.and_eq_true]at h
  rcases List.mem_cons.1 hb with rfl|hb
  ·cases ht:Nat.testBit (mk.getD a.i 0) b.i with
   |true=>exact Or.inl rfl
   |false=>rw [ht]at h;exact Or.inr h.1
  ·exact D3K h.2 b hb
theorem D6D {mk:List Nat}:∀{ms:List Met},B4q ops mk ms=true→ms.Pairwise fun a b=>(mk.getD a.i 0).testBit b.i=true∨B4M ops b a=true
 | [],_=> .nil
 |a::ms,h=>by
  unfold B4q at h
  rw [Bool.and_eq_true]at h
  exact List.pairwise_cons.2 ⟨D3K h.1,D6D h.2⟩
theorem E9z {x y:Rc} (h:B4M ops (A9r x) (A9r y)=true):A9x ops x y:=by
 unfold B4M at h
 rw [Bool.and_eq_true]at h
 refine⟨fun a b ha hb=>?_,?_⟩
 ·have h1:=h.1
  simp only [A9r,ha,hb]at h1
  exact h1
 ·have h2:=h.2
  rw [Bool.or_eq_true,Bool.and_eq_true]at h2
  rcases h2 with h2|h2
  ·exact Or.inl h2
  ·refine Or.inr fun n hn hm=>?_
   simp only [A9r,Bool.not_eq_true',List.any_eq_false]at h2
   exact h2 n hn (q8.2 hm)
theorem E4k (h:B8A ops=true):∀i o,ops[i]?=some o→∀e,e∈o.after.toList→Region.binds .any e=true→e.on<i:=by
 intro i o ho e he hb
 unfold B8A at h
 rw [List.all_eq_true]at h
 have hi:i<ops.size:=(Array.getElem?_eq_some_iff.1 ho).1
 have h1:=h i (List.mem_range.2 hi)
 have ho':ops.getD i default=o:=by
  rw [Array.getElem?_eq_some_iff]at ho
  obtain⟨k,e⟩:=ho
  simp [Array.getD,k,e]
 rw [ho',Array.all_eq_true']at h1
 have h2:=h1 e (by simpa using he)
 rw [hb]at h2
 simpa using h2
theorem E1r (l:List Oper):((List.range l.length).zip l).map (·.1)=List.range l.length:=by
 rw [←List.unzip_fst,List.unzip_zip]
 simp
theorem F3R {l:List Oper} {q:Nat×Oper} (h:q∈(List.range l.length).zip l):l[q.1]?=some q.2:=by
 obtain⟨i,hi,e⟩:=List.mem_iff_getElem.1 h
 rw [List.getElem_zip,List.getElem_range]at e
 subst e
 rw [List.length_zip,List.length_range]at hi
 rw [List.getElem?_eq_getElem (by omega)]
theorem F1J {F:Fence} {n:Nat} (hF:Z7 F) (hE:F6 P E) (hm:P.follows .mixedOrders=true) {orc:P6 R} (horc:A0o P orc) {id:Nat} {draw:Bool} {st:St} {K:St→Option R} {a:Act} {w:World} {Q:Exit→Act→World→Prop}
  (h:C5p E orc N ops draw st K=some r) (hr:Rel N w0 Bo bl0 φ0 st a w) (hq:∀st' a' w',K st'=some r→Rel N w0 Bo bl0 φ0 st' a' w'→Q .normal a' w'):(Code.region id ops draw).wpIn F n P Q a w:=by
 unfold C5p at h
 obtain⟨st',rs,k1,k2,k3⟩:=C5D (P:=P) (w0:=w0) (Bo:=Bo) hE horc _ st [] _ (fun q hq=>by have:=F3R (l:=ops.toList) (by simpa using hq);simpa using this) h
 obtain⟨bl,φ,hr⟩:=hr
 have hidx:rs.map (·.i)=List.range ops.size:=by rw [k3];have:=E1r ops.toList;simpa using this
 cases draw with
 |false=>
  rw [P7]at k1
  refine wpIn_region ?_
  rw [←hidx]
  exact E8I hF k2 hr fun bl' φ' a' w' hr'=>hq _ _ _ k1 ⟨bl',φ',hr'⟩
 |true=>
  rw [E4]at k1
  cases hc:(B8A ops&&B4q ops (A0h ops.toList []) ((rs.map A9r).reverse++[]))with
  |false=>rw [hc]at k1;cases k1
  |true=>
   rw [hc,E4]at k1
   rw [Bool.and_eq_true,List.append_nil]at hc
   have hlt:=E4k hc.1
   have hp:=D6D hc.2
   rw [List.pairwise_reverse,List.pairwise_map]at hp
   refine wpIn_region_any hm ?_
   have st:=C4r hr.mem
   have hr2:n6 N w0 Bo bl0 φ0 (K5 _) (G3 _) bl φ a {w with drawn:=w.drawn+1}:=⟨hr.loc,st.mem,fun t=>B0E st.goes _ _ (hr.tm t),hr.size,hr.defers,hr.far,hr.keep⟩
   have hlen:rs.length=ops.size:=by
    have:=congrArg List.length hidx
    simpa using this
   refine D5P hF hlt ops.size rs (Array.replicate ops.size false) _ _ bl φ a _ (by omega) (by simp) (fun i=>?_) ?_ (hp.imp fun h=>?_) ?_ k2 hr2 fun bl' φ' a' w' hr'=>hq _ _ _ k1 ⟨bl',φ',hr'⟩
   ·rw [hidx,List.mem_range]
    constructor
    ·intro hi;exact⟨hi,by simp [Array.getD,hi]⟩
    ·exact fun h=>h.1
   ·have:(List.range ops.size).Pairwise (· < ·):=List.pairwise_lt_range
    rw [←hidx,List.pairwise_map]at this
    exact this
   ·rcases h with h|h
    ·exact Or.inl h
    ·exact Or.inr (E9z h)
   ·rintro i o ⟨h1,h2⟩
    exfalso
    simp [Array.getD,h1]at h2
def E7c:Ex→Exit
 | .norm=> .normal
 | .exit id=> .exit id
 | .ret=> .ret
def KQ (N:Nat) (w0:World) (Bo:Nat→Nat→Prop) (bl0:Nat→A9) (φ0:Nat→Addr) (r:R) (K:KX R) (Q:Exit→Act→World→Prop):Prop:=
 ∀x st a w,K x st=some r→Rel N w0 Bo bl0 φ0 st a w→Q (E7c x) a w
def LoQ (F:Fence) (n:Nat) (P:Program) (N:Nat) (w0:World) (Bo:Nat→Nat→Prop) (bl0:Nat→A9) (φ0:Nat→Addr) (lo:Nat→St→Option R) (r:R) (key:Nat) (c:Code) (Q:Exit→Act→World→Prop):Prop:=
 ∀st a w,lo key st=some r→Rel N w0 Bo bl0 φ0 st a w→c.wpIn F n P Q a w
def A5F (F:Fence) (n:Nat) (P:Program) (N:Nat) (w0:World) (Bo:Nat→Nat→Prop) (bl0:Nat→A9) (φ0:Nat→Addr) (an:n8) (lo:Nat→St→Option R) (r:R):Code→(Exit→Act→World→Prop)→Prop
 | .seq a b,Q=>A5F F n P N w0 Bo bl0 φ0 an lo r a (Exit.then (b.wpIn F n P Q) Q)∧(match A8 an.cut (F9 b)with
  |some _=>LoQ F n P N w0 Bo bl0 φ0 lo r (F9 b) b Q
  |none=>A5F F n P N w0 Bo bl0 φ0 an lo r b Q)
 | .cond _ a b,Q=>A5F F n P N w0 Bo bl0 φ0 an lo r a Q∧A5F F n P N w0 Bo bl0 φ0 an lo r b Q
 | .block id c,Q=>A5F F n P N w0 Bo bl0 φ0 an lo r c (Exit.inBlock id Q)
 | .loop c,Q=>LoQ F n P N w0 Bo bl0 φ0 lo r (F9 c) (.loop c) Q
 | .scope c,Q=>A5F F n P N w0 Bo bl0 φ0 an lo r c (Exit.noGoto Q)
 | .rangeFunc g ps c d,Q=>LoQ F n P N w0 Bo bl0 φ0 lo r (F9 c) (.rangeFunc g ps c d) Q
 |_,_=>True
theorem B4Q {L:Option (List (Nat×KM))} {st:St} {K:St→Option R} {a:Act} {w:World} (h:A5Q L st K=some r) (hr:Rel N w0 Bo bl0 φ0 st a w):∃st',K st'=some r∧Rel N w0 Bo bl0 φ0 st' a w:=by
 unfold A5Q at h
 split at h
 ·exact⟨st,h,hr⟩
 ·split at h
  ·rename_i st' hc
   exact⟨st',h,E2N hc hr⟩
  ·cases h
def B5W (E:E1) (orc:P6 R) (N:Nat) (an:n8) (lo:Nat→St→Option R) (b:Code) (K:KX R):KX R:=fun x st=>match x with
 | .norm=>(match A8 an.cut (F9 b)with
  |some L=>A5Q (some L) st fun st=>lo (F9 b) st
  |none=>A5Q (A8 an.rg (F9 b)) st fun st=>ev E orc N an lo b st K)
 |x=>K x st
def B6t (id:Nat) (K:KX R):KX R:=fun x st=>match x with
 | .exit j=>B3 (Nat.beq j id) (K .norm st)<|K (.exit j) st
 |x=>K x st
theorem D3e {id:Nat} {K:KX R} {Q:Exit→Act→World→Prop} (h:KQ N w0 Bo bl0 φ0 r K Q):KQ N w0 Bo bl0 φ0 r (B6t id K) (Exit.inBlock id Q):=by
 intro x st a w hk hr
 cases x with
 |norm=>exact h _ _ _ _ hk hr
 |ret=>exact h _ _ _ _ hk hr
 |exit j=>
  unfold B6t at hk
  simp only at hk
  show if j=id then _ else _
  by_cases hj:j=id
  ·subst hj
   rw [Nat.beq_refl]at hk
   rw [if_pos rfl]
   exact h _ _ _ _ hk hr
  ·have:Nat.beq j id=false:=by rw [Bool.eq_false_iff];intro e;exact hj (Nat.eq_of_beq_eq_true e)
   rw [this]at hk
   rw [if_neg hj]
   exact h _ _ _ _ hk hr
theorem D8F {K:KX R} {Q:Exit→Act→World→Prop} (h:KQ N w0 Bo bl0 φ0 r K Q):KQ N w0 Bo bl0 φ0 r K (Exit.noGoto Q):=by
 intro x st a w hk hr
 cases x with
 |norm=>exact h _ _ _ _ hk hr
 |ret=>exact h _ _ _ _ hk hr
 |exit j=>exact h _ _ _ _ hk hr
theorem E7E {F:Fence} {n:Nat} {P:Program} {c:Code} {Q:Exit→Act→World→Prop} {a:Act} {w:World} (h:c.wpIn F n P (Exit.noGoto Q) a w):(Code.scope c).wpIn F n P Q a w:=by
 intro b k cs hro hb hr
 have s1:step P (lone (b.atR a (.code (.scope c)::k)) cs w)= .next (lone (b.atR a (.code c:: .inScope c::k)) cs w):=step_lone_go (by simp [stepG,stepG.exec,Frame.atR])
 have s2:∀a w,step P (lone (b.atR a (.inScope c::k)) cs w)= .next (lone (b.atR a k) cs w):=fun a w=>step_lone_go (by simp [stepG,stepG.exec,Frame.atR])
 obtain⟨e,a₁,w₁,hq,harr⟩:=h b (.inScope c::k) cs hro hb hr
 have h0:=fenced_calm (P:=P) (F:=F) (fr:=b.atR a (.code (.scope c)::k)) (cs:=cs) (w:=w) hb hr rfl
 cases e with
 |normal=>exact⟨.normal,a₁,w₁,hq, .head h0 s1 (StepsIn.trans harr (.one (fenced_calm hb hr rfl) (s2 _ _)))⟩
 |exit id=>exact⟨.exit id,a₁,w₁,hq,fun k' hk=> .head h0 s1 (harr.1 k' (by simp [exitTo,hk])),fun hr' hk=>let ⟨k₁,h1,h2⟩:=harr.2 hr' (by simp [exitTo,hk]);⟨k₁,h1, .head h0 s1 h2⟩⟩
 |goto l=>exact hq.elim
 |ret=>exact⟨_,a₁,w₁,hq, .of_steps (.one h0 s1) harr⟩
 |panic ch=>exact⟨_,a₁,w₁,hq, .of_steps (.one h0 s1) harr⟩
 |outgrown=>exact⟨_,a₁,w₁,hq, .of_steps (.one h0 s1) harr⟩
theorem D2U {F:Fence} {n:Nat} {orc:P6 R} {an:n8} {lo:Nat→St→Option R} {b:Code} {K:KX R} {Q:Exit→Act→World→Prop} (h:KQ N w0 Bo bl0 φ0 r K Q) (hlo:∀L,A8 an.cut (F9 b)=some L→LoQ F n P N w0 Bo bl0 φ0 lo r (F9 b) b Q)
  (hev:A8 an.cut (F9 b)=none→∀st a w,ev E orc N an lo b st K=some r→Rel N w0 Bo bl0 φ0 st a w→b.wpIn F n P Q a w):KQ N w0 Bo bl0 φ0 r (B5W E orc N an lo b K) (Exit.then (b.wpIn F n P Q) Q):=by
 intro x st a w hk hr
 cases x with
 |exit j=>exact h _ _ _ _ hk hr
 |ret=>exact h _ _ _ _ hk hr
 |norm=>
  unfold B5W at hk
  simp only at hk
  show b.wpIn F n P Q a w
  split at hk
  ·rename_i L hL
   obtain⟨st',h1,h2⟩:=B4Q hk hr
   exact hlo L hL _ _ _ h1 h2
  ·rename_i hL
   obtain⟨st',h1,h2⟩:=B4Q hk hr
   exact hev hL _ _ _ h1 h2
theorem B7m {F:Fence} {n:Nat} (hF:Z7 F) (hE:F6 P E) (hm:P.follows .mixedOrders=true) {orc:P6 R} (horc:A0o P orc) {an:n8} {lo:Nat→St→Option R}:∀(c:Code) (Q:Exit→Act→World→Prop),A5F F n P N w0 Bo bl0 φ0 an lo r c Q→
  ∀(K:KX R),KQ N w0 Bo bl0 φ0 r K Q→∀(st:St) (a:Act) (w:World),ev E orc N an lo c st K=some r→Rel N w0 Bo bl0 φ0 st a w→c.wpIn F n P Q a w:=by
 intro c
 induction c with
 |skip=>intro Q _ K hK st a w h hr;exact wpIn_skip (hK .norm st _ _ h hr)
 |region id ops draw=>
  intro Q _ K hK st a w h hr
  exact F1J hF hE hm horc h hr fun st' a' w' h' hr'=>hK .norm st' _ _ h' hr'
 |seq x y ihx ihy=>
  intro Q hl K hK st a w h hr
  have hl1:=hl.1
  have hl2:=hl.2
  refine wpIn_seq (ihx _ hl1 (B5W E orc N an lo y K) (D2U hK (fun L hL=>?_) fun hL=>?_) st a w h hr)
  ·rw [hL]at hl2;exact hl2
  ·rw [hL]at hl2
   exact fun st a w h hr=>ihy Q hl2 K hK st a w h hr
 |cond c x y ihx ihy=>
  intro Q hl K hK st a w h hr
  unfold ev at h
  have hc:∀v,opv st.tm c=v→∃bl φ,C4 w bl φ v (a.eval c):=by
   intro v hv
   obtain⟨bl,φ,hr⟩:=hr
   refine⟨bl,φ,?_⟩
   rw [←hv,D3Q]
   exact D7E hr c
  split at h
  ·rename_i t hv
   obtain⟨bl,φ,hv⟩:=hc _ hv
   have hv:=R4.1 hv
   refine wpIn_cond hv ?_
   cases ht:(t:Bool)with
   |true=>rw [ht]at h;exact ihx Q hl.1 K hK _ _ _ h hr
   |false=>rw [ht]at h;exact ihy Q hl.2 K hK _ _ _ h hr
  ·rename_i p hp hv
   obtain⟨bl,φ,hv⟩:=hc _ hv
   have hv:a.eval c= .bool (@decide p hp):=hv
   refine wpIn_cond hv ?_
   split at h
   ·rename_i hpp
    rw [decide_eq_true hpp]
    exact ihx Q hl.1 K hK _ _ _ h hr
   ·rename_i hpp
    rw [decide_eq_false hpp]
    exact ihy Q hl.2 K hK _ _ _ h hr
  ·cases h
 |block id c ih=>
  intro Q hl K hK st a w h hr
  exact wpIn_block (ih _ hl (B6t id K) (D3e hK) st a w h hr)
 |loop c ih=>
  intro Q hl K hK st a w h hr
  unfold ev at h
  obtain⟨st',h1,h2⟩:=B4Q h hr
  exact hl _ _ _ h1 h2
 |rangeFunc g ps c d _ _=>
  intro Q hl K hK st a w h hr
  unfold ev at h
  obtain⟨st',h1,h2⟩:=B4Q h hr
  exact hl _ _ _ h1 h2
 |scope c ih=>
  intro Q hl K hK st a w h hr
  exact E7E (ih _ hl K (D8F hK) st a w h hr)
 |label l=>intro Q _ K hK st a w h hr;exact wpIn_label (hK .norm st _ _ h hr)
 |exit id=>intro Q _ K hK st a w h hr;exact wpIn_exit (hK (.exit id) st _ _ h hr)
 |ret=>intro Q _ K hK st a w h hr;exact wpIn_ret (hK .ret st _ _ h hr)
 |_=>intro Q _ K hK st a w h hr;unfold ev at h;cases h
end
def bB (st:St) (n:Nat):A9:=B3 (Nat.blt n 10000) (G3 st.bl n)<| .dead
structure Res where
 v:V
 bs:Bl
 src:List (Nat×Nat)
 fz:List Nat
def C1L (B:Nat→A9) (j:Nat):RM→V→Option Res
 | .d t, .a x=>match L6 B t x with|some z=>some ⟨.a (.v t z),[],[],G4 x⟩|none=>none
 | .own t, .a .ns=>some ⟨.a (.ref (3000+j)),[(3000+j, .live t [] true)],[],[]⟩
 | .own t, .a (.ref n)=>match B n with
  | .live t' l true=>B3 (decide (t'=t)&&!F1 n) (some ⟨.a (.ref (3000+j)),[(3000+j, .live t' l true)],[(3000+j,n)],[]⟩)<|none
  |_=>none
 | .vw, .a (.ref n)=>B3 (F1 n) ((match B n with| .live _ _ _=>some ⟨.a (.ref n),[],[],[]⟩|_=>none))<|none
 | .vw, .a (.part n lo hi)=>B3 (F1 n) ((match B n with| .live _ _ _=>some ⟨.a (.part n lo hi),[],[],[]⟩|_=>none))<|none
 | .sh, .a (.part n lo hi)=>B3 (F1 n) ((match B n with| .live _ _ _=>some ⟨.a (.part n lo hi),[],[],[]⟩|_=>none))<|none
 | .sh, .a (.v (.li t) x)=>some ⟨.a (.v (.li t) x),[],[],[]⟩
 | .fn, .cl f caps=>match A6W B caps with|some cs=>some ⟨.cl f cs,[],[],caps.flatMap G4⟩|none=>none
 |_,_=>none
def B2N (E:E1) (tm:List (Nat×V)) (B:Nat→A9):ResultVar→Option V
 | .tmp t=>some (K5 tm t)
 | .cell a t=>A8l E t (K5 tm a) B fun v _=>some v
structure D6L where
 vs:List V
 bs:Bl
 src:List (Nat×Nat)
 fz:List Nat
def B6p (E:E1) (tm:List (Nat×V)) (B:Nat→A9):Nat→List RM→List ResultVar→Option D6L
 |_,[],[]=>some ⟨[],[],[],[]⟩
 |j,m::ms,r::rs=>match B2N E tm B r with
  |some v=>(match C1L B j m v with
   |some x=>(match B6p E tm B (j+1) ms rs with
    |some y=>some ⟨x.v::y.vs,x.bs++y.bs,x.src++y.src,x.fz++y.fz⟩
    |none=>none)
   |none=>none)
  |none=>none
 |_,_,_=>none
def B3U (B:Nat→A9):Bl→Option Bl
 | []=>some []
 | (n,_)::l=>match B n,B3U B l with
  | .live t x tl,some m=>some ((n, .live t x tl)::m)
  |_,_=>none
def l7:Nat→List V→List (Nat×V)
 |_,[]=>[]
 |i,v::vs=>(i,v)::l7 (i+1) vs
def B5q:List (Nat×V)→Option (List A)
 | []=>some []
 | (_, .a x)::l=>match B5q l with|some m=>some (x::m)|none=>none
 |_=>none
def B0U:List (Nat×V)→Option V
 | [(_,v)]=>some v
 |vs=>match B5q vs with|some asx=>some (.tup asx)|none=>none
def B4f {R:Type} (E:E1) (rs:List ResultVar) (rms:List RM) (bs0:Bl) (st:St) (K:St→Option R):Option R:=
 match B6p E st.tm (bB st) 0 rms rs with
 |some y=>(match B3U (bB st) bs0 with
  |some ls=>B3 (m4 (y.src.map (·.2))&&(y.src.all fun q=>!G8 y.fz q.2)&&(y.fz.all fun n=>!F1 n)&&Nat.ble rms.length 900) (K ⟨l7 0 y.vs,ls++y.bs⟩)<|none
  |none=>none)
 |none=>none
def B2y {R:Type} (E:E1) (rs:List ResultVar) (rms:List RM) (bs0:Bl) (K:St→Option R):KX R:=fun x st=>match x with
 | .norm=>B4f E rs rms bs0 st K
 | .ret=>B4f E rs rms bs0 st K
 |_=>none
def B5l {R:Type} (E:E1) (orc:P6 R) (an:n8) (lo:Nat→St→Option R) (N:Nat) (c:Code) (rs:List ResultVar) (rms:List RM) (st0:St) (K:St→Option R):Option R:=
 ev E orc N an lo c st0 (B2y E rs rms st0.bl K)
inductive R1 (B:Nat→A9) (j:Nat):V→V→Bl→List (Nat×Nat)→List Nat→Prop
 |d {t:Ty} {x:A} {z:t.T}:L6 B t x=some z→R1 B j (.a x) (.a (.v t z)) [] [] (G4 x)
 |nil {t:Ty}:R1 B j (.a .ns) (.a (.ref (3000+j))) [(3000+j, .live t [] true)] [] []
 |own {t:Ty} {l:List t.T} {n:Nat}:B n= .live t l true→F1 n=false→R1 B j (.a (.ref n)) (.a (.ref (3000+j))) [(3000+j, .live t l true)] [(3000+j,n)] []
 |vw {n:Nat} {t:Ty} {l:List t.T} {tl:Bool}:F1 n=true→B n= .live t l tl→R1 B j (.a (.ref n)) (.a (.ref n)) [] [] []
 |vp {n:Nat} {lo hi:Int} {t:Ty} {l:List t.T} {tl:Bool}:F1 n=true→B n= .live t l tl→R1 B j (.a (.part n lo hi)) (.a (.part n lo hi)) [] [] []
 |vv {t:Ty} {x:List t.T}:R1 B j (.a (.v (.li t) x)) (.a (.v (.li t) x)) [] [] []
 |fn {f:Nat} {caps cs:List A}:A6W B caps=some cs→R1 B j (.cl f caps) (.cl f cs) [] [] (caps.flatMap G4)
theorem F2q {B:Nat→A9} {j:Nat} {m:RM} {v:V} {x:Res} (h:C1L B j m v=some x):R1 B j v x.v x.bs x.src x.fz:=by
 unfold C1L at h
 split at h
 ·split at h
  ·rename_i z hz;cases h;exact .d hz
  ·cases h
 ·cases h;exact .nil
 ·rename_i t0 n
  split at h
  ·rename_i t l hb
   cases hc:(decide (t=t0)&&!F1 n)with
   |false=>rw [hc]at h;cases h
   |true=>
    rw [hc]at h
    cases h
    rw [Bool.and_eq_true]at hc
    exact .own hb (by simpa using hc.2)
  ·cases h
 ·rename_i n
  cases hc:F1 n with
  |false=>rw [hc]at h;cases h
  |true=>
   rw [hc,E4]at h
   split at h
   ·rename_i hb;cases h;exact .vw hc hb
   ·cases h
 ·rename_i n lo hi
  cases hc:F1 n with
  |false=>rw [hc]at h;cases h
  |true=>
   rw [hc,E4]at h
   split at h
   ·rename_i hb;cases h;exact .vp hc hb
   ·cases h
 ·rename_i n lo hi
  cases hc:F1 n with
  |false=>rw [hc]at h;cases h
  |true=>
   rw [hc,E4]at h
   split at h
   ·rename_i hb;cases h;exact .vp hc hb
   ·cases h
 ·cases h;exact .vv
 ·split at h
  ·rename_i hc;cases h;exact .fn hc
  ·cases h
 ·cases h
inductive RR (B:Nat→A9):Nat→List V→List V→Bl→List (Nat×Nat)→List Nat→Prop
 |nil {j:Nat}:RR B j [] [] [] [] []
 |cons {j:Nat} {v x:V} {b:Bl} {s:List (Nat×Nat)} {f:List Nat} {vs xs:List V} {bs:Bl} {ss:List (Nat×Nat)} {fs:List Nat}:R1 B j v x b s f→RR B (j+1) vs xs bs ss fs→RR B j (v::vs) (x::xs) (b++bs) (s++ss) (f++fs)
theorem D8X {E:E1} {tm:List (Nat×V)} {B:Nat→A9}:∀(rms:List RM) (rs:List ResultVar) (j:Nat) (y:D6L),B6p E tm B j rms rs=some y→∃raws,rs.mapM (B2N E tm B)=some raws∧RR B j raws y.vs y.bs y.src y.fz∧raws.length=rms.length
 | [],[],j,y,h=>by cases h;exact⟨[],rfl, .nil,rfl⟩
 |m::ms,r::rs,j,y,h=>by
  unfold B6p at h
  split at h
  ·rename_i v hv
   split at h
   ·rename_i x hx
    split at h
    ·rename_i z hz
     cases h
     obtain⟨raws,h1,h2,h3⟩:=D8X ms rs (j+1) z hz
     refine⟨v::raws,?_, .cons (F2q hx) h2,by simp [h3]⟩
     rw [List.mapM_cons,hv]
     simp [h1]
    ·cases h
   ·cases h
  ·cases h
 | [],_::_,j,y,h=>by cases h
 |_::_,[],j,y,h=>by cases h
section
variable {B:Nat→A9}
theorem RR.own {j:Nat} {vs xs:List V} {bs:Bl} {src:List (Nat×Nat)} {fz:List Nat} (h:RR B j vs xs bs src fz):
  (∀n b,A8 bs n=some b→3000+j≤n∧n<3000+j+vs.length∧((∃s t l,A8 src n=some s∧b= .live t l true∧B s=b∧F1 s=false)∨(A8 src n=none∧∃t,b= .live t [] true)))∧
  (∀n s,A8 src n=some s→A8 bs n≠none):=by
 induction h with
 |nil=>exact⟨(fun n b h=>by cases h),(fun n s h=>by cases h)⟩
 | @cons j v x b s f vs xs bs ss fs h1 _ ih=>
  obtain⟨i1,i2⟩:=ih
  have rest:b=[]→s=[]→(∀n b',A8 (b++bs) n=some b'→3000+j≤n∧n<3000+j+(v::vs).length∧((∃s' t l,A8 (s++ss) n=some s'∧b'= .live t l true∧B s'=b'∧F1 s'=false)∨(A8 (s++ss) n=none∧∃t,b'= .live t [] true)))∧
    (∀n s',A8 (s++ss) n=some s'→A8 (b++bs) n≠none):=by
   rintro rfl rfl
   refine⟨fun n b' h=>?_,i2⟩
   obtain⟨q1,q2,q3⟩:=i1 n b' h
   exact⟨by omega,by simp only [List.length_cons];omega,q3⟩
  cases h1 with
  |d _=>exact rest rfl rfl
  |vw _ _=>exact rest rfl rfl
  |vp _ _=>exact rest rfl rfl
  |vv=>exact rest rfl rfl
  |fn _=>exact rest rfl rfl
  | @nil t=>
   refine⟨fun n b' h=>?_,fun n s' h=>?_⟩
   ·rw [Q3,i9]at h
    by_cases e:3000+j=n
    ·rw [if_pos e]at h
     cases h
     refine⟨by omega,by simp only [List.length_cons];omega,Or.inr ⟨?_,t,rfl⟩⟩
     cases hl:A8 ss n with
     |none=>simpa using hl
     |some s'=>
      exfalso
      have:=i2 n s' hl
      cases hb:A8 bs n with
      |none=>exact this hb
      |some b=>have:=(i1 n b hb).1;omega
    ·rw [if_neg e]at h
     obtain⟨q1,q2,q3⟩:=i1 n b' h
     exact⟨by omega,by simp only [List.length_cons];omega,q3⟩
   ·rw [Q3,i9]
    by_cases e:3000+j=n
    ·rw [if_pos e];intro e;cases e
    ·rw [if_neg e];exact i2 n s' h
  | @own t l m hb hl=>
   refine⟨fun n b' h=>?_,fun n s' h=>?_⟩
   ·rw [Q3,i9]at h
    rw [Q3,i9]
    by_cases e:3000+j=n
    ·rw [if_pos e]at h
     cases h
     rw [if_pos e]
     exact⟨by omega,by simp only [List.length_cons];omega,Or.inl ⟨m,t,l,rfl,rfl,hb,hl⟩⟩
    ·rw [if_neg e]at h
     rw [if_neg e]
     obtain⟨q1,q2,q3⟩:=i1 n b' h
     exact⟨by omega,by simp only [List.length_cons];omega,q3⟩
   ·rw [Q3,i9]at h⊢
    by_cases e:3000+j=n
    ·rw [if_pos e];intro e;cases e
    ·rw [if_neg e]at h⊢
     exact i2 n s' h
end
theorem D5s:∀(l:List (Nat×Nat)),m4 (l.map (·.2))=true→∀n n' s,A8 l n=some s→A8 l n'=some s→n=n'
 | [],_,n,n',s,h,_=>by cases h
 | (m,x)::l,hd,n,n',s,h,h'=>by
  rw [List.map_cons]at hd
  unfold m4 at hd
  cases hh:G8 (l.map (·.2)) x with
  |true=>rw [hh]at hd;cases hd
  |false=>
   rw [hh,P7]at hd
   have hx:∀k,A8 l k≠some x:=by
    intro k e
    have:x∈l.map (·.2):=List.mem_map.2 ⟨_,Y9 _ _ _ e,rfl⟩
    rw [q8.2 this]at hh;cases hh
   unfold A8 at h h'
   cases hb:Nat.beq m n with
   |true=>
    rw [hb]at h
    cases h
    cases hb':Nat.beq m n' with
    |true=>rw [←Nat.eq_of_beq_eq_true hb,←Nat.eq_of_beq_eq_true hb']
    |false=>rw [hb']at h';exact absurd h' (hx n')
   |false=>
    rw [hb,P7]at h
    cases hb':Nat.beq m n' with
    |true=>rw [hb']at h';cases h';exact absurd h (hx n)
    |false=>rw [hb',P7]at h';exact D5s l hd n n' s h h'
theorem B6X {B:Nat→A9}:∀(bs0 ls:Bl),B3U B bs0=some ls→(∀n b,A8 ls n=some b→A8 bs0 n≠none∧B n=b∧live b)∧(∀n,A8 bs0 n≠none→A8 ls n≠none)
 | [],ls,h=>by cases h;exact⟨(fun n b h=>by cases h),fun n h=>h⟩
 | (m,x)::bs0,ls,h=>by
  unfold B3U at h
  split at h
  ·rename_i t l tl m' hb hm
   cases h
   obtain⟨i1,i2⟩:=B6X bs0 m' hm
   have lk:∀{α:Type} (x:α) (l:List (Nat×α)) n,A8 ((m,x)::l) n=if m=n then some x else A8 l n:=by
    intro α x l n
    show(B3 (Nat.beq m n) (some x)<|A8 l n)=_
    cases hq:Nat.beq m n with
    |true=>rw [if_pos (Nat.eq_of_beq_eq_true hq)];rfl
    |false=>rw [if_neg (by intro e;subst e;rw [Nat.beq_refl]at hq;cases hq)];rfl
   refine⟨fun n b h=>?_,fun n h=>?_⟩
   ·rw [lk]at h⊢
    split at h
    ·rename_i e
     cases h;subst e
     exact⟨(by rw [if_pos rfl];intro e;cases e),hb,_,_,_,rfl⟩
    ·rename_i e
     rw [if_neg e]
     exact i1 n b h
   ·rw [lk]at h⊢
    split
    ·intro e;cases e
    ·rename_i e
     rw [if_neg e]at h
     exact i2 n h
  ·cases h
section
variable {P:Program} {E:E1} {w0:World} {Bo:Nat→Nat→Prop} {pb:Nat→A9} {R:Type} {K:KV R} {r:R}
theorem E1P (hE:F6 P E) {t:Nat} {x:V} (h:A8l E t x pb K=some r):∃v',K v' []=some r∧∀(bl:Nat→A9) (φ:Nat→Addr) (w:World) (a:Value),H4 pb bl→D2 w0 Bo bl φ w→C4 w bl φ x a→
  ∃ad v,a= .pointer (some ad)∧(loadVar t ad).run P w= .ok v w∧C4 w bl φ v' v:=by
 have ld:∀{bl:Nat→A9} {φ:Nat→Addr} {w:World} (m:D2 w0 Bo bl φ w) {n:Nat} {ty:Ty} {l:List ty.T} (hh:holds (bl n) ty l) {i:Int} {π:List Nat} {a:Value} (hr:C1 w bl φ (.ptr n i π) a) {d:J3}
   (hg:A1g π ty (l.getD i.toNat ty.zero)=some d) (hi:E.is t d.t=true),∃ad v,a= .pointer (some ad)∧(loadVar t ad).run P w= .ok v w∧C4 w bl φ (.a (.v d.t d.x)) v:=by
  intro bl φ w m n ty l hh i π a hr d hg hi
  obtain⟨h0,h1,_,hs,rfl⟩:=B0d hh hr
  obtain⟨ci,g1,g2⟩:=A7d m hh hs _ _ (B3r (d:=ty.zero) h0 h1)
  obtain⟨_,c1,c2,c3,rfl,e1,e2⟩:=B3J π ty _ d ci hg g2
  have hseg:=B5a g1
  rw [e1]at hseg
  obtain⟨v,q1,q2⟩:=B8V (hE.is hi) hseg e2
  exact⟨_,v,rfl,q1,c2,e2,q2⟩
 unfold A8l at h
 split at h
 ·rename_i n i π
  cases hp:pb n with
  |live ty l tl=>
   rw [hp]at h
   simp only at h
   split at h
   ·rename_i d hg
    cases hi:E.is t d.t with
    |false=>rw [hi]at h;cases h
    |true=>
     rw [hi]at h
     exact⟨_,h,fun bl φ w a ha hm hx=>ld hm (Or.inl ⟨tl,by rw [ha n (by rw [hp];intro e;cases e),hp]⟩) hx hg hi⟩
   ·cases h
  |froz ty l=>
   rw [hp]at h
   simp only at h
   split at h
   ·rename_i d hg
    cases hi:E.is t d.t with
    |false=>rw [hi]at h;cases h
    |true=>
     rw [hi]at h
     exact⟨_,h,fun bl φ w a ha hm hx=>ld hm (Or.inr (by rw [ha n (by rw [hp];intro e;cases e),hp])) hx hg hi⟩
   ·cases h
  |_=>rw [hp]at h;cases h
 ·rename_i ty x
  cases hi:E.is t ty with
  |false=>rw [hi]at h;cases h
  |true=>
   rw [hi]at h
   refine⟨_,h,fun bl φ w a ha hm hx=>?_⟩
   obtain⟨b,o,cs,rfl,h2,h3,h4,h5⟩:=hx
   obtain⟨v,q1,q2⟩:=B8V (hE.is hi) h4 h5
   exact⟨_,v,rfl,q1,cs,h5,q2⟩
 ·cases h
theorem D7o {B:Nat→A9} {n:Nat}:∀(ns:List Nat),A8 (C9 B ns) n≠none→live (B n)
 | [],h=>absurd rfl h
 |k::ns,h=>by
  unfold C9 at h
  rw [List.flatMap_cons,Q3]at h
  cases hk:A8 (Q6 B k) n with
  |none=>
   rw [hk]at h
   exact D7o ns h
  |some b=>
   unfold Q6 at hk
   split at hk
   ·rename_i t l tl hb
    rw [i9]at hk
    split at hk
    ·rename_i e;subst e;exact⟨_,_,_,hb⟩
    ·cases hk
   ·cases hk
end
def M6 (src:List (Nat×Nat)) (φ:Nat→Addr) (n:Nat):Addr:=match A8 src n with
 |some s=>φ s
 |none=>if(2000≤n∧n<3000)∨10000≤n then φ n else⟨0,0,some 0⟩
structure U8 (N:Nat) (w0:World) (bl0:Nat→A9) (φ0:Nat→Addr) (bs0:Bl) (st:St) (bl:Nat→A9) (φ:Nat→Addr) (a:Act) (w:World) (raws vs:List V) (bs:Bl) (src:List (Nat×Nat)) (fz:List Nat) (ls:Bl):Prop where
 rr:RR (bB st) 0 raws vs bs src fz
 len:raws.length≤900
 ls:B3U (bB st) bs0=some ls
 nd:m4 (src.map (·.2))=true
 nfz:∀q,q∈src→q.2∉fz
 nl:∀n,n∈fz→F1 n=false
 loc:B7c bl0 bs0
 hb:∀n b,A8 bs0 n=some b→F1 n=true∧live b
 m0:D2 w0 (S3 bs0 φ0) bl0 φ0 w0
 rel:n6 N w0 (S3 bs0 φ0) bl0 φ0 (K5 st.tm) (G3 st.bl) bl φ a w
theorem A5f {n:Nat}:F1 n=true↔2000≤n∧n<3000:=by
 unfold F1
 rw [Bool.and_eq_true,Nat.blt_eq]
 exact⟨fun h=>⟨Nat.le_of_ble_eq_true h.1,h.2⟩,fun h=>⟨Nat.ble_eq_true_of_le h.1,h.2⟩⟩
section
variable {N:Nat} {w0:World} {bl0:Nat→A9} {φ0:Nat→Addr} {bs0:Bl} {st:St} {bl:Nat→A9} {φ:Nat→Addr} {a:Act} {w:World} {raws vs:List V} {bs:Bl} {src:List (Nat×Nat)} {fz:List Nat} {ls:Bl}
variable (H:U8 N w0 bl0 φ0 bs0 st bl φ a w raws vs bs src fz ls)
include H
theorem U8.agree:H4 (bB st) bl:=by
 intro n hn
 unfold bB at hn⊢
 cases hb:Nat.blt n 10000 with
 |true=>rw [Nat.blt_eq]at hb;exact H.rel.loc n hb
 |false=>rw [hb]at hn;exact absurd rfl hn
omit H in
theorem D6B {n:Nat} (h:live (bB st n)):n<10000:=by
 unfold bB at h
 cases hb:Nat.blt n 10000 with
 |true=>rwa [Nat.blt_eq]at hb
 |false=>rw [hb]at h;obtain⟨_,_,_,e⟩:=h;cases e
theorem U8.bl_of {n:Nat} (h:live (bB st n)):bl n=bB st n:=H.agree n (by obtain⟨_,_,_,e⟩:=h;rw [e];intro q;cases q)
omit H in
theorem U8.far1x {n:Nat} (h:¬n<10000):B4 (C9 (bB st) fz) bl n=bl n:=i7 (by
 cases hl:A8 (C9 (bB st) fz) n with
 |none=>rfl
 |some b=>exact absurd (D6B (D7o fz (by rw [hl];intro e;cases e))) h)
theorem U8.m1:D2 w0 (S3 bs0 φ0) (B4 (C9 (bB st) fz) bl) φ w:=(v7 H.agree H.rel.mem fz).mem
theorem U8.lent0 {n:Nat} (h:live (bl0 n)) (hn:n<10000):F1 n=true∧∃b,A8 ls n=some b∧bB st n=b∧live b:=by
 rw [H.loc n hn,W5]at h
 cases hl:A8 bs0 n with
 |none=>rw [hl]at h;obtain⟨_,_,_,e⟩:=h;cases e
 |some b=>
  obtain⟨h1,h2⟩:=B6X _ _ H.ls
  have h3:=h2 n (by rw [hl];intro e;cases e)
  obtain⟨b',h4⟩:=Option.ne_none_iff_exists'.1 h3
  exact⟨(H.hb n b hl).1,b',h4,(h1 n b' h4).2⟩
theorem U8.inls {n:Nat} {b:A9} (h:A8 ls n=some b):F1 n=true∧n<10000∧live b∧bl n=b∧B4 (C9 (bB st) fz) bl n=b∧bB st n=b:=by
 obtain⟨h1,_⟩:=B6X _ _ H.ls
 obtain⟨k1,k2,k3⟩:=h1 n b h
 obtain⟨b0,k4⟩:=Option.ne_none_iff_exists'.1 k1
 have k5:=(H.hb n b0 k4).1
 have k6:=A5f.1 k5
 have k7:bl n=b:=by rw [H.bl_of (by rw [k2];exact k3),k2]
 refine⟨k5,by omega,k3,k7,?_,k2⟩
 rw [A2o _ _ (fun e=>by have:=H.nl n e;rw [k5]at this;cases this),k7]
theorem U8.bnd {n:Nat} {b:A9} (h:A8 bs n=some b):3000≤n∧n<3900:=by
 obtain⟨q1,q2,_⟩:=H.rr.own.1 n b h
 have e:raws.length=vs.length:=by
  have:∀{j:Nat} {raws vs:List V} {bs:Bl} {src:List (Nat×Nat)} {fz:List Nat},RR (bB st) j raws vs bs src fz→raws.length=vs.length:=by
   intro j raws vs bs src fz h
   induction h with
   |nil=>rfl
   |cons _ _ ih=>simp [ih]
  exact this H.rr
 have:=H.len
 omega
theorem U8.cls {n:Nat} (h:live (B4 (ls++bs) bl0 n)) (hs:(M6 src φ n).spot=none):
  ∃s,(A8 src n=some s∨(s=n∧A2D n))∧B4 (C9 (bB st) fz) bl s=B4 (ls++bs) bl0 n∧M6 src φ n=φ s∧(A8 src n=some s→s<10000∧F1 s=false∧∃t l,B4 (ls++bs) bl0 n= .live t l true)∧
   ((s=n∧A2D n)→live (bl0 n)∧φ n=φ0 n):=by
 have spec:∀b,A2D n→A8 src n=none→B4 (C9 (bB st) fz) bl n=b→B4 (ls++bs) bl0 n=b→bl n=b→bl0 n≠ .fresh→(∃s,(A8 src n=some s∨(s=n∧A2D n))∧B4 (C9 (bB st) fz) bl s=B4 (ls++bs) bl0 n∧M6 src φ n=φ s∧(A8 src n=some s→s<10000∧F1 s=false∧∃t l,B4 (ls++bs) bl0 n= .live t l true)∧
   ((s=n∧A2D n)→live (bl0 n)∧φ n=φ0 n)):=by
  intro b h1 h2 h3 h4 h6 h5
  obtain⟨k1,k2⟩:=(H.rel.keep n h1).2 h5
  rw [h4]at h
  rw [h6]at k1 k2
  refine⟨n,Or.inr ⟨rfl,h1⟩,by rw [h3,h4],by unfold M6;rw [h2];exact if_pos h1,(fun e=>by rw [h2]at e;cases e),fun _=>⟨?_,k2 ?_⟩⟩
  ·obtain⟨t,l,tl,rfl⟩:=h
   cases hq:bl0 n with
   |live=>exact⟨_,_,_,rfl⟩
   |fresh=>exact absurd hq h5
   |_=>rw [hq]at k1;cases k1
  ·obtain⟨t,l,tl,rfl⟩:=h;rfl
 have nosrc:A8 bs n=none→A8 src n=none:=by
  intro e
  cases hl:A8 src n with
  |none=>rfl
  |some s=>exact absurd e (H.rr.own.2 n s hl)
 have e0:B4 (ls++bs) bl0 n=match A8 ls n with|some b=>b|none=>match A8 bs n with|some b=>b|none=>bl0 n:=by
  unfold B4
  rw [Q3]
  cases A8 ls n<;>rfl
 cases h1:A8 ls n with
 |some b=>
  rw [h1]at e0
  obtain⟨q1,q2,q3,q4,q5,q6⟩:=H.inls h1
  have q1':=A5f.1 q1
  have hb:A8 bs n=none:=by
   cases hb:A8 bs n with
   |none=>rfl
   |some b'=>have:=H.bnd hb;omega
  refine spec b (Or.inl q1') (nosrc hb) q5 e0 q4 ?_
  intro e
  rw [(H.rel.keep n (Or.inl q1')).1 e]at q4
  obtain⟨_,_,_,e⟩:=q3;rw [e]at q4;cases q4
 |none=>
  rw [h1]at e0
  cases h2:A8 bs n with
  |some b=>
   rw [h2]at e0
   obtain⟨_,_,q⟩:=H.rr.own.1 n b h2
   have hbn:=H.bnd h2
   rcases q with⟨s,t,l,g1,rfl,g2,g3⟩| ⟨g1,_⟩
   ·have hlv:live (bB st s):=⟨_,_,_,g2⟩
    have hs1:B4 (C9 (bB st) fz) bl s= .live t l true:=by
     rw [A2o _ _ (H.nfz _ (Y9 _ _ _ g1)),H.bl_of hlv,g2]
    refine⟨s,Or.inl g1,by rw [hs1,e0],by unfold M6;rw [g1],fun _=>⟨D6B hlv,g3,t,l,e0⟩,fun e=>?_⟩
    rcases e.2 with e|e<;>omega
   ·unfold M6 at hs
    rw [g1]at hs
    simp only at hs
    rw [if_neg (by omega)]at hs
    cases hs
  |none=>
   rw [h2]at e0
   simp only at e0
   rw [e0]at h
   by_cases hn:n<10000
   ·obtain⟨_,b,e,_⟩:=H.lent0 h hn
    rw [h1]at e;cases e
   ·have hf:=H.rel.far n (by omega)
    exact spec (bl0 n) (Or.inr (by omega)) (nosrc h2) (by rw [U8.far1x hn,hf]) e0 hf (by obtain⟨_,_,_,e⟩:=h;rw [e];intro q;cases q)
theorem U8.ownUp {b:Nat} (h:C7 (B4 (ls++bs) bl0) (M6 src φ) b):C7 (B4 (C9 (bB st) fz) bl) φ b:=by
 obtain⟨n,h1,h2,h3⟩:=h
 obtain⟨s,_,q2,q3,_⟩:=H.cls h1 h2
 exact⟨s,by rw [q2];exact h1,by rw [←q3];exact h2,by rw [←q3];exact h3⟩
theorem U8.ownZ {b:Nat} (hb:b<w0.heap.size) (h:C7 (B4 (ls++bs) bl0) (M6 src φ) b):C7 bl0 φ0 b:=by
 obtain⟨n,h1,h2,h3⟩:=h
 obtain⟨s,q1,q2,q3,q4,q5⟩:=H.cls h1 h2
 rcases q1 with q1|q1
 ·exfalso
  obtain⟨k1,k2,t,l,k3⟩:=q4 q1
  rw [k3]at q2
  rcases H.m1.lo s t l true k1 q2 (by rw [←q3];exact h2)with h| ⟨h,_⟩
  ·rw [q3]at h3;omega
  ·cases h
 ·obtain⟨k1,k2⟩:=q5 q1
  obtain⟨rfl,_⟩:=q1
  exact⟨s,k1,by rw [←k2,←q3];exact h2,by rw [←k2,←q3];exact h3⟩
theorem U8.step:E7 w0 (S3 bs0 φ0) bl0 φ0 w0 (B4 (ls++bs) bl0) (M6 src φ) w:=by
 have hfr:=H.rel.mem.fr
 have heq:P0 w (C7 (B4 (C9 (bB st) fz) bl) φ) w (C7 (B4 (ls++bs) bl0) (M6 src φ)):=(M9.refl w (fun _ _=>False)).ext (fun _ _ _ h=>h.elim) fun b _ h=>H.ownUp h
 refine⟨⟨hfr.ext (fun b o hb h=>?_) (fun b hb h=>H.ownZ hb h),fun n hn=>?_,H.m0.at_⟩,⟨fun n=>?_,fun n k h1 h2 h3 h4 h5=>?_,fun n t l tl hn h1 h2=>?_,hfr⟩⟩
 ·obtain⟨n,t,l,tl,h1,h2,h3,h4,_⟩:=h
  exact⟨n,⟨t,l,tl,by rw [H.loc n h1];exact h2⟩,h3,h4⟩
 ·have e0:B4 (ls++bs) bl0 n=match A8 ls n with|some b=>b|none=>match A8 bs n with|some b=>b|none=>bl0 n:=by
   unfold B4
   rw [Q3]
   cases A8 ls n<;>rfl
  have spec:A2D n→A8 src n=none→a8 (bl0 n) (bl n)→(lf (bl n)→φ n=φ0 n)→B4 (ls++bs) bl0 n=bl n→a8 (bl0 n) (B4 (ls++bs) bl0 n)∧(lf (B4 (ls++bs) bl0 n)→M6 src φ n=φ0 n):=by
   intro h1 h2 h3 h4 h5
   rw [h5]
   refine⟨h3,fun h=>?_⟩
   unfold M6
   rw [h2]
   exact(if_pos h1).trans (h4 h)
  have nosrc:A2D n→A8 src n=none:=by
   intro hs
   cases hl:A8 src n with
   |none=>rfl
   |some s=>
    exfalso
    cases hb:A8 bs n with
    |none=>exact H.rr.own.2 n s hl hb
    |some b=>have:=H.bnd hb;rcases hs with hs|hs<;>omega
  have nobs:A2D n→A8 bs n=none:=by
   intro hs
   cases hb:A8 bs n with
   |none=>rfl
   |some b=>have:=H.bnd hb;rcases hs with hs|hs<;>omega
  by_cases hlt:n<10000
  ·have hlook:∃b,A8 bs0 n=some b:=by
    rw [H.loc n hlt,W5]at hn
    cases hl:A8 bs0 n with
    |none=>rw [hl]at hn;exact absurd rfl hn
    |some b=>exact⟨b,rfl⟩
   obtain⟨b0,hb0⟩:=hlook
   obtain⟨g1,g2⟩:=H.hb n b0 hb0
   have hsp:A2D n:=Or.inl (A5f.1 g1)
   obtain⟨k1,k2⟩:=(H.rel.keep n hsp).2 hn
   have hlv:live (bl0 n):=by rw [H.loc n hlt,W5,hb0];exact g2
   obtain⟨_,b,q1,q2,q3⟩:=H.lent0 hlv hlt
   refine spec hsp (nosrc hsp) k1 k2 ?_
   rw [e0,q1,(H.inls q1).2.2.2.1]
  ·have hsp:A2D n:=Or.inr (by omega)
   obtain⟨k1,k2⟩:=(H.rel.keep n hsp).2 hn
   refine spec hsp (nosrc hsp) k1 k2 ?_
   have h1:A8 ls n=none:=by
    cases hl:A8 ls n with
    |none=>rfl
    |some b=>exact absurd (H.inls hl).2.1 hlt
   rw [e0,h1,nobs hsp,H.rel.far n (by omega)]
 ·by_cases hl:live (B4 (ls++bs) bl0 n)
  ·by_cases hs:(M6 src φ n).spot=none
   ·obtain⟨s,q1,q2,q3,_⟩:=H.cls hl hs
    have:=H.m1.blk s
    rw [q2,←q3]at this
    exact A9H heq (fun _ _ _ _ h=>h) this
   ·obtain⟨t,l,tl,e⟩:=hl
    rw [e]
    have e0:B4 (ls++bs) bl0 n=match A8 ls n with|some b=>b|none=>match A8 bs n with|some b=>b|none=>bl0 n:=by
     unfold B4
     rw [Q3]
     cases A8 ls n<;>rfl
    have B9G:∀s,B4 (C9 (bB st) fz) bl s= .live t l tl→M6 src φ n=φ s→C1o (M6 src φ n) l.length:=by
     intro s h1 h2
     have:=H.m1.blk s
     rw [h1,←h2]at this
     rcases this with h|h
     ·exact h
     ·exact absurd h.1 hs
    refine Or.inl ?_
    have nosrc:A8 bs n=none→A8 src n=none:=by
     intro e
     cases hl:A8 src n with
     |none=>rfl
     |some s=>exact absurd e (H.rr.own.2 n s hl)
    cases h1:A8 ls n with
    |some b=>
     rw [h1]at e0
     obtain⟨q1,q2,q3,q4,q5,q6⟩:=H.inls h1
     have q1':=A5f.1 q1
     have hb:A8 bs n=none:=by
      cases hb:A8 bs n with
      |none=>rfl
      |some b'=>have:=H.bnd hb;omega
     rw [e]at e0
     simp only at e0
     refine B9G n (by rw [q5];exact e0.symm) ?_
     unfold M6
     rw [nosrc hb]
     exact if_pos (Or.inl q1')
    |none=>
     rw [h1]at e0
     cases h2:A8 bs n with
     |some b=>
      rw [h2]at e0
      have hbn:=H.bnd h2
      obtain⟨_,_,q⟩:=H.rr.own.1 n b h2
      rw [e]at e0
      simp only at e0
      rcases q with⟨s,t',l',g1,g4,g2,g3⟩| ⟨g1,t',g2⟩
      ·have hlv:live (bB st s):=⟨_,_,_,g2.trans g4⟩
       refine B9G s ?_ (by unfold M6;rw [g1])
       rw [A2o _ _ (H.nfz _ (Y9 _ _ _ g1)),H.bl_of hlv,g2];exact e0.symm
      ·rw [g2]at e0
       cases e0
       refine⟨?_,rfl⟩
       unfold M6
       rw [g1]
       simp only
       rw [if_neg (by omega)]
       intro q;cases q
     |none=>
      rw [h2]at e0
      simp only at e0
      have hlv:live (bl0 n):=by rw [←e0,e];exact⟨_,_,_,rfl⟩
      by_cases hn:n<10000
      ·obtain⟨_,b,e,_⟩:=H.lent0 hlv hn
       rw [h1]at e;cases e
      ·refine B9G n (by rw [U8.far1x hn,H.rel.far n (by omega),←e0,e]) ?_
       unfold M6
       rw [nosrc h2]
       exact if_pos (Or.inr (by omega))
  ·cases hb:B4 (ls++bs) bl0 n with
   |fresh=>trivial
   |dead=>trivial
   |husk=>trivial
   |live t l tl=>exact absurd ⟨t,l,tl,hb⟩ hl
   |froz t l=>
    have e0:B4 (ls++bs) bl0 n=match A8 ls n with|some b=>b|none=>match A8 bs n with|some b=>b|none=>bl0 n:=by
     unfold B4
     rw [Q3]
     cases A8 ls n<;>rfl
    rw [hb]at e0
    cases h1:A8 ls n with
    |some b=>
     rw [h1]at e0
     obtain⟨_,_,⟨_,_,_,q3⟩,_⟩:=H.inls h1
     rw [q3]at e0;cases e0
    |none=>
     rw [h1]at e0
     cases h2:A8 bs n with
     |some b=>
      rw [h2]at e0
      obtain⟨_,_,q⟩:=H.rr.own.1 n b h2
      rcases q with⟨s,t',l',g1,g4,_⟩| ⟨g1,t',g2⟩
      ·rw [g4]at e0;cases e0
      ·rw [g2]at e0;cases e0
     |none=>
      rw [h2]at e0
      simp only at e0
      have hn:¬n<10000:=by
       intro hn
       rw [H.loc n hn,W5]at e0
       cases hl:A8 bs0 n with
       |none=>rw [hl]at e0;cases e0
       |some b=>
        rw [hl]at e0
        obtain⟨_,_,_,q⟩:=(H.hb n b hl).2
        rw [q]at e0;cases e0
      have hf:=H.rel.far n (by omega)
      have:=H.m1.blk n
      rw [U8.far1x hn,hf,←e0]at this
      have hφ:M6 src φ n=φ n:=by
       unfold M6
       have:A8 src n=none:=by
        cases hl:A8 src n with
        |none=>rfl
        |some s=>exact absurd h2 (H.rr.own.2 n s hl)
       rw [this]
       exact if_pos (Or.inr (by omega))
      rw [hφ]
      exact A9H heq (fun _ _ _ _ h=>h) this
 ·obtain⟨s,q1,q2,q3,q4,q5⟩:=H.cls h1 h3
  obtain⟨s',p1,p2,p3,p4,p5⟩:=H.cls h2 h4
  have:s=s':=H.m1.uniq s s' (by rw [q2];exact h1) (by rw [p2];exact h2) (by rw [←q3];exact h3) (by rw [←p3];exact h4) (by rw [←q3,←p3];exact h5)
  subst this
  rcases q1 with q1|q1
  ·rcases p1 with p1|p1
   ·exact D5s src H.nd n k s q1 p1
   ·exfalso
    obtain⟨k1,k2,_⟩:=q4 q1
    obtain⟨e,hsp⟩:=p1
    rw [←e]at hsp
    rcases hsp with h|h
    ·rw [A5f.2 h]at k2;cases k2
    ·omega
  ·rcases p1 with p1|p1
   ·exfalso
    obtain⟨k1,k2,_⟩:=p4 p1
    obtain⟨e,hsp⟩:=q1
    rw [←e]at hsp
    rcases hsp with h|h
    ·rw [A5f.2 h]at k2;cases k2
    ·omega
   ·rw [←q1.1,←p1.1]
 ·obtain⟨s,q1,q2,q3,q4,q5⟩:=H.cls ⟨_,_,_,h1⟩ h2
  rw [q3]
  have hs:s<10000:=by
   rcases q1 with q1|q1
   ·exact(q4 q1).1
   ·rw [q1.1];exact hn
  exact H.m1.lo s t l tl hs (by rw [q2,h1]) (by rw [←q3];exact h2)
end
section
variable {N:Nat} {w0:World} {bl0:Nat→A9} {φ0:Nat→Addr} {bs0:Bl} {st:St} {bl:Nat→A9} {φ:Nat→Addr} {a:Act} {w:World} {raws vs:List V} {bs:Bl} {src:List (Nat×Nat)} {fz:List Nat} {ls:Bl}
variable (H:U8 N w0 bl0 φ0 bs0 st bl φ a w raws vs bs src fz ls)
include H
theorem U8.lent_end {n:Nat} (h1:F1 n=true) (h2:live (bB st n)):B4 (ls++bs) bl0 n=bB st n∧M6 src φ n=φ n∧bl n=bB st n:=by
 have hlt:=A5f.1 h1
 have hbl:=H.bl_of h2
 have hf:bl0 n≠ .fresh:=by
  intro e
  rw [(H.rel.keep n (Or.inl hlt)).1 e]at hbl
  rw [←hbl]at h2;obtain⟨_,_,_,q⟩:=h2;cases q
 obtain⟨g1,g2⟩:=B6X _ _ H.ls
 have h3:A8 bs0 n≠none:=by
  intro e
  rw [H.loc n (by omega),W5,e]at hf
  exact hf rfl
 obtain⟨b,h4⟩:=Option.ne_none_iff_exists'.1 (g2 n h3)
 have h5:=(g1 n b h4).2.1
 refine⟨?_,?_,hbl⟩
 ·rw [A6h (b:=b) (by rw [Q3,h4]),h5]
 ·unfold M6
  have:A8 src n=none:=by
   cases hl:A8 src n with
   |none=>rfl
   |some s=>
    exfalso
    cases hb:A8 bs n with
    |none=>exact H.rr.own.2 n s hl hb
    |some b=>have:=H.bnd hb;omega
  rw [this]
  exact if_pos (Or.inl hlt)
theorem U8.own_end {n:Nat} {b:A9} (h:A8 bs n=some b):B4 (ls++bs) bl0 n=b:=by
 refine A6h ?_
 rw [Q3]
 cases hl:A8 ls n with
 |none=>exact h
 |some b'=>have:=A5f.1 (H.inls hl).1;have:=H.bnd h;omega
theorem U8.val {j:Nat} {v x:V} {b:Bl} {s:List (Nat×Nat)} {f:List Nat} (h:R1 (bB st) j v x b s f) (hb:∀n y,A8 b n=some y→A8 bs n=some y) (hs:∀n y,A8 s n=some y→A8 src n=some y)
  (hn:∀n,A8 b n≠none→A8 s n=none→A8 src n=none) (hf:∀n,n∈f→n∈fz) {u:Value} (hu:C4 w bl φ v u):C4 w (B4 (ls++bs) bl0) (M6 src φ) x u:=by
 cases h with
 | @d t x z hz=>exact A1k (fun b h=>H.ownUp h) (Or.inl ⟨_,_,rfl⟩) (A6K H.agree H.rel.mem (fun n hn _=>hf n hn) hz hu)
 | @nil t=>
  have h1:=hb (3000+j) (.live t [] true) (by rw [i9,if_pos rfl])
  have h2:=hn (3000+j) (by rw [i9,if_pos rfl];intro e;cases e) rfl
  have hj:=H.bnd h1
  obtain⟨ad,rfl⟩:=hu
  have e2:M6 src φ (3000+j)=⟨0,0,some 0⟩:=by
   unfold M6
   rw [h2]
   exact if_neg (by omega)
  simp only [C4,C1,H.own_end h1,e2]
  exact Or.inl ⟨rfl,ad,rfl⟩
 | @own t l n h1 h2=>
  have k1:=hb (3000+j) (.live t l true) (by rw [i9,if_pos rfl])
  have k2:=hs (3000+j) n (by rw [i9,if_pos rfl])
  have e2:M6 src φ (3000+j)=φ n:=by unfold M6;rw [k2]
  have hbl:=H.bl_of ⟨t,l,true,h1⟩
  simp only [C4,C1,hbl,h1]at hu
  simp only [C4,C1,H.own_end k1,e2]
  exact hu
 | @vw n t l tl h1 h2=>
  obtain⟨k1,k2,k3⟩:=H.lent_end h1 ⟨t,l,tl,h2⟩
  simp only [C4,C1,k3,h2]at hu
  simp only [C4,C1,k1,k2,h2]
  exact hu
 | @vp n lo hi t l tl h1 h2=>
  obtain⟨k1,k2,k3⟩:=H.lent_end h1 ⟨t,l,tl,h2⟩
  simp only [C4,C1,k3,h2]at hu
  simp only [C4,C1,k1,k2,h2]
  exact hu
 | @vv t x=>exact A1k (fun b h=>H.ownUp h) (Or.inl ⟨_,_,rfl⟩) (A3m (v7 H.agree H.rel.mem fz).goes _ _ hu)
 | @fn g caps cs hc=>
  obtain⟨cv,e1,e2⟩:=hu
  refine⟨cv,e1,?_⟩
  have:=C5b H.agree H.rel.mem (ns:=fz) caps cs cv (fun n hn=>hf n hn) hc e2
  exact D8a (fun b h=>H.ownUp h) (C4Q caps cs hc) this
theorem U8.vals {j:Nat} {rws xs:List V} {b:Bl} {s:List (Nat×Nat)} {f:List Nat} (h:RR (bB st) j rws xs b s f):(∀n y,A8 b n=some y→A8 bs n=some y)→(∀n y,A8 s n=some y→A8 src n=some y)→
  (∀n,A8 b n≠none→A8 s n=none→A8 src n=none)→(∀n,n∈f→n∈fz)→∀{us:List Value},M5 w bl φ rws us→M5 w (B4 (ls++bs) bl0) (M6 src φ) xs us:=by
 induction h with
 |nil=>intro _ _ _ _ us hu;cases hu;exact .nil
 | @cons j v x b s f rws xs bs' ss fs h1 h2 ih=>
  intro hb hs hn hf us hu
  cases hu with
  |cons u1 u2=>
   have hone:(b=[]∧s=[])∨((∀n,A8 b n≠none→n=3000+j)∧(∀n,A8 s n≠none→n=3000+j)∧A8 b (3000+j)≠none):=by
    have lone:∀{α:Type} (y:α) n,A8 [(3000+j,y)] n≠none→n=3000+j:=by
     intro α y n h
     rw [i9]at h
     by_cases e:3000+j=n
     ·exact e.symm
     ·rw [if_neg e]at h;exact absurd rfl h
    cases h1 with
    |d _=>exact Or.inl ⟨rfl,rfl⟩
    |vw _ _=>exact Or.inl ⟨rfl,rfl⟩
    |vp _ _=>exact Or.inl ⟨rfl,rfl⟩
    |vv=>exact Or.inl ⟨rfl,rfl⟩
    |fn _=>exact Or.inl ⟨rfl,rfl⟩
    |nil=>exact Or.inr ⟨fun n=>lone _ n,(fun n h=>absurd rfl h),by rw [i9,if_pos rfl];intro e;cases e⟩
    |own _ _=>exact Or.inr ⟨fun n=>lone _ n,fun n=>lone _ n,by rw [i9,if_pos rfl];intro e;cases e⟩
   obtain⟨o1,o2⟩:=h2.own
   have tailb:∀n,A8 bs' n≠none→A8 b n=none:=by
    intro n hq
    rcases hone with⟨rfl,_⟩| ⟨k1,_⟩
    ·rfl
    ·cases hl:A8 b n with
     |none=>rfl
     |some y=>
      have e:=k1 n (by rw [hl];intro q;cases q)
      obtain⟨y',hy'⟩:=Option.ne_none_iff_exists'.1 hq
      have:=(o1 n y' hy').1;omega
   have tails:∀n,A8 bs' n≠none→A8 s n=none:=by
    intro n hq
    rcases hone with⟨_,rfl⟩| ⟨_,k1,_⟩
    ·rfl
    ·cases hl:A8 s n with
     |none=>rfl
     |some y=>
      have e:=k1 n (by rw [hl];intro q;cases q)
      obtain⟨y',hy'⟩:=Option.ne_none_iff_exists'.1 hq
      have:=(o1 n y' hy').1;omega
   refine .cons (H.val h1 (fun n y h=>hb n y (by rw [Q3,h])) (fun n y h=>hs n y (by rw [Q3,h])) (fun n h h'=>hn n ?_ ?_) (fun n h=>hf n (List.mem_append_left _ h)) u1) (ih (fun n y h=>hb n y ?_) (fun n y h=>hs n y ?_) (fun n h h'=>hn n ?_ ?_) (fun n h=>hf n (List.mem_append_right _ h)) u2)
   ·rw [Q3]
    obtain⟨y,e⟩:=Option.ne_none_iff_exists'.1 h
    rw [e];intro q;cases q
   ·rw [Q3,h']
    rcases hone with⟨rfl,_⟩| ⟨k1,_⟩
    ·exact absurd rfl h
    ·cases hl:A8 ss n with
     |none=>rfl
     |some y=>
      exfalso
      have e:=k1 n h
      obtain⟨y',hy'⟩:=Option.ne_none_iff_exists'.1 (o2 n y hl)
      have:=(o1 n y' hy').1;omega
   ·rw [Q3,tailb n (by rw [h];intro q;cases q)];exact h
   ·rw [Q3,tails n (o2 n y h)];exact h
   ·rw [Q3,tailb n h];exact h
   ·rw [Q3,tails n h];exact h'
end
section
variable {P:Program} {E:E1}
theorem D0j (hE:F6 P E) {w0:World} {Bo:Nat→Nat→Prop} {st:St} {bl:Nat→A9} {φ:Nat→Addr} {w:World} {tmps:Array Value} (ha:H4 (bB st) bl) (hm:D2 w0 Bo bl φ w) (ht:∀t,C4 w bl φ (K5 st.tm t) (tmps.getD t undef)):
  ∀(rs:List ResultVar) (raws:List V),rs.mapM (B2N E st.tm (bB st))=some raws→∃us,(rs.mapM fun(x:ResultVar)=>match x with
   | .tmp t=>(pure (tmps.getD t undef):Sem Value)
   | .cell a t=>do loadVar t (←asAddr (tmps.getD a undef))).run P w= .ok us w∧M5 w bl φ raws us
 | [],raws,h=>by cases h;exact⟨[],rfl, .nil⟩
 |x::rs,raws,h=>by
  rw [List.mapM_cons]at h
  cases hx:B2N E st.tm (bB st) x with
  |none=>rw [hx]at h;cases h
  |some v=>
   rw [hx]at h
   cases hr:rs.mapM (B2N E st.tm (bB st))with
   |none=>rw [hr]at h;cases h
   |some vs=>
    rw [hr]at h
    cases h
    obtain⟨us,k1,k2⟩:=D0j hE ha hm ht rs vs hr
    cases x with
    |tmp t=>
     cases hx
     refine⟨tmps.getD t undef::us,?_, .cons (ht t) k2⟩
     rw [List.mapM_cons]
     simp only [Sem.run_bind,Sem.run_pure,Result.andThen_ok,k1]
    |cell b t=>
     have hx:A8l E t (K5 st.tm b) (bB st) (fun v _=>some v)=some v:=hx
     obtain⟨v',e,hl⟩:=E1P (w0:=w0) (Bo:=Bo) hE hx
     cases e
     obtain⟨ad,u,e1,e2,e3⟩:=hl bl φ w _ ha hm (ht b)
     refine⟨u::us,?_, .cons e3 k2⟩
     rw [List.mapM_cons]
     have e1':tmps.getD b undef= .pointer (some ad):=e1
     have ea:asAddr (.pointer (some ad))=pure ad:=rfl
     simp only [e1',ea,Sem.run_bind,Sem.run_pure,Result.andThen_ok,e2,k1]
theorem D6J {w:World} {bl:Nat→A9} {φ:Nat→Addr}:∀(vs:List V) (k:Nat) (asx:List A) (us:List Value),B5q (l7 k vs)=some asx→M5 w bl φ vs us→N3 w bl φ asx us
 | [],k,asx,us,h,hr=>by cases h;cases hr;exact .nil
 |v::vs,k,asx,us,h,hr=>by
  cases hr with
  |cons r1 r2=>
   cases v with
   |a x=>
    have h:(match B5q (l7 (k+1) vs)with|some m=>some (x::m)|none=>none)=some asx:=h
    split at h
    ·rename_i m hm;cases h;exact .cons r1 (D6J vs (k+1) _ _ hm r2)
    ·cases h
   |cl f c=>have h:(none:Option (List A))=some asx:=h;cases h
   |tup c=>have h:(none:Option (List A))=some asx:=h;cases h
theorem D8g {w:World} {bl:Nat→A9} {φ:Nat→Addr} {xs:List V} {us:List Value} (h:M5 w bl φ xs us):us.length=xs.length:=by
 induction h with
 |nil=>rfl
 |cons _ _ ih=>simp [ih]
theorem E9K {w:World} {bl:Nat→A9} {φ:Nat→Addr} {vs:List V} {rv:V} {us:List Value} (h:B0U (l7 0 vs)=some rv) (hr:M5 w bl φ vs us):C4 w bl φ rv (if h:us.toArray.size=1 then us.toArray[0]else .tuple us.toArray):=by
 have hl:=D8g hr
 unfold B0U at h
 split at h
 ·rename_i n v e
  cases h
  cases vs with
  |nil=>cases e
  |cons x vs=>
   cases vs with
   |nil=>
    cases e
    cases hr with
    |cons r1 r2=>cases r2;simpa using r1
   |cons y vs=>cases e
 ·rename_i hne
  split at h
  ·rename_i asx has
   cases h
   have hsz:¬us.toArray.size=1:=by
    intro e
    simp only [List.size_toArray]at e
    rw [hl]at e
    cases vs with
    |nil=>cases e
    |cons x vs=>cases vs with
     |nil=>exact hne 0 x rfl
     |cons y vs=>simp at e
   rw [dif_neg hsz]
   exact⟨us,rfl,D6J vs 0 asx us has hr⟩
  ·cases h
theorem E1z {w:World} {bl:Nat→A9} {φ:Nat→Addr} {asx:List V} {vs:List Value} (h:M5 w bl φ asx vs):∀(k t:Nat),C4 w bl φ (K5 (l7 k asx) (k+t)) (vs.getD t undef):=by
 induction h with
 |nil=>intro k t;trivial
 | @cons x v xs vs h _ ih=>
  intro k t
  show C4 w bl φ (B3 (Nat.beq k (k+t)) (x)<|K5 (l7 (k+1) xs) (k+t)) _
  cases t with
  |zero=>rw [Nat.add_zero,Nat.beq_refl];exact h
  |succ t=>
   have:Nat.beq k (k+(t+1))=false:=by rw [Bool.eq_false_iff];intro e;have:=Nat.eq_of_beq_eq_true e;omega
   rw [this,P7,show k+(t+1)=k+1+t from by omega]
   exact ih (k+1) t
theorem E7a (hE:F6 P E) {R:Type} {fn:Func} {N:Nat} {rms:List RM} {bs:Bl} {K:St→Option R} {r:R} {st st1:St} {rv:V} (hbs:∀n b,A8 bs n=some b→F1 n=true∧live b) (hK:∀st,K st=some r→st=st1) (ho:B0U st1.tm=some rv)
  {w0 w:World} {bl0 bl:Nat→A9} {φ0 φ:Nat→Addr} {a:Act} (hloc:B7c bl0 bs) (m0:D2 w0 (S3 bs φ0) bl0 φ0 w0) (hr:n6 N w0 (S3 bs φ0) bl0 φ0 (K5 st.tm) (G3 st.bl) bl φ a w) (h:B4f E fn.results.toList rms bs st K=some r):
  a.defers=[]∧∃v,(results fn a.tmps).run P w= .ok v w∧∃φ',E7 w0 (S3 bs φ0) bl0 φ0 w0 (B4 st1.bl bl0) φ' w∧C4 w (B4 st1.bl bl0) φ' rv v:=by
 refine⟨hr.defers,?_⟩
 unfold B4f at h
 split at h
 ·rename_i y hy
  split at h
  ·rename_i ls hls
   cases hc:(m4 (y.src.map (·.2))&&(y.src.all fun q=>!G8 y.fz q.2)&&(y.fz.all fun n=>!F1 n)&&Nat.ble rms.length 900)with
   |false=>rw [hc]at h;cases h
   |true=>
    rw [hc,E4]at h
    simp only [Bool.and_eq_true,List.all_eq_true,Bool.not_eq_true']at hc
    obtain⟨⟨⟨c1,c2⟩,c3⟩,c4⟩:=hc
    obtain⟨raws,k1,k2,k3⟩:=D8X rms _ 0 y hy
    have he:=hK _ h
    subst he
    have H:U8 N w0 bl0 φ0 bs st bl φ a w raws y.vs y.bs y.src y.fz ls:=⟨k2,by rw [k3];exact Nat.le_of_ble_eq_true c4,hls,c1,(fun q hq e=>by have:=c2 q hq;rw [q8.2 e]at this;cases this),(fun n hn=>c3 n hn),hloc,hbs,m0,hr⟩
    obtain⟨us,e1,e2⟩:=D0j hE H.agree hr.mem hr.tm fn.results.toList raws k1
    have e3:=H.vals k2 (fun _ _ h=>h) (fun _ _ h=>h) (fun _ _ h=>h) (fun _ h=>h) e2
    refine⟨_,?_,_,H.step,E9K ho e3⟩
    unfold results
    rw [Array.mapM_eq_mapM_toList,map_eq_pure_bind]
    simp only [Sem.run_bind,Sem.run_pure]
    refine(congrArg (fun z=>(Result.andThen (Result.andThen z fun a w'=>Result.ok a.toArray w') fun a w'=>Result.ok (if h:a.size=1 then a[0]else Value.tuple a) w')) e1).trans ?_
    rfl
  ·cases h
 ·cases h
theorem E3b (hE:F6 P E) (hm:P.follows .mixedOrders=true) {R:Type} {orc:P6 R} (horc:A0o P orc) {f:FuncId} {fn:Func} {c:Code} (hf:P.funcs[f]?=some fn) (hb:fn.body=some c) (hname:(fn.name== "runtime.NumGoroutine")=false)
  {an:n8} {lo:Nat→St→Option R} {N:Nat} {rms:List RM} {asx:List V} {bs:Bl} {K:St→Option R} {r:R} {st1:St} {rv:V} (hN:N=max fn.ntmps asx.length) (hbs:∀n b,A8 bs n=some b→F1 n=true∧live b)
  (hlo:∀w0 bl0 φ0 Q,KQ N w0 (S3 bs φ0) bl0 φ0 r (B2y E fn.results.toList rms bs K) Q→A5F Fence.wide 0 P N w0 (S3 bs φ0) bl0 φ0 an lo r c Q) (h:B5l E orc an lo N c fn.results.toList rms ⟨l7 0 asx,bs⟩ K=some r) (hK:∀st,K st=some r→st=st1) (hus:∀q,q∈st1.bl→q.1<10000) (ho:B0U st1.tm=some rv):
  Ct P f asx bs rv st1.bl:=by
 refine⟨hus,fun w0 bl0 φ0 vs hloc m0 hvs=>Or.inl ⟨?_,?_⟩⟩
 ·simp only [callFunc,Sem.run_bind,run_program,Result.andThen_ok,hf,hname,hb,Option.isNone_some,Bool.false_eq_true,if_false,Sem.run_pure]
 ·have hlen:=D8g hvs
  have hKQ:KQ N w0 (S3 bs φ0) bl0 φ0 r (B2y E fn.results.toList rms bs K) (bodyPost P fn fun e w'=>∃v,e= .returned v∧∃φ',E7 w0 (S3 bs φ0) bl0 φ0 w0 (B4 st1.bl bl0) φ' w'∧C4 w' (B4 st1.bl bl0) φ' rv v):=by
   rintro x st a w q1 ⟨bl,φ,hr⟩
   have fin:B4f E fn.results.toList rms bs st K=some r→a.defers=[]∧∃v,(results fn a.tmps).run P w= .ok v w∧∃v_1,Ending.returned v= .returned v_1∧∃φ',E7 w0 (S3 bs φ0) bl0 φ0 w0 (B4 st1.bl bl0) φ' w∧C4 w (B4 st1.bl bl0) φ' rv v_1:=by
    intro h
    obtain⟨h1,v,h2,φ',h3,h4⟩:=E7a hE hbs hK ho hloc m0 hr h
    exact⟨h1,v,h2,v,rfl,φ',h3,h4⟩
   cases x with
   |norm=>exact fin q1
   |ret=>exact fin q1
   |exit j=>cases q1
  refine calls_of_wp hf hb (wpIn_wide.1 (B7m (Or.inl rfl) hE hm horc c _ (hlo w0 bl0 φ0 _ hKQ) _ hKQ _ _ _ h ⟨bl0,φ0,?_⟩))
  refine⟨fun n hn=>hloc n hn,m0,fun t=>?_,?_,rfl,fun _ _=>rfl,fun _ _=>⟨fun h=>h,fun _=>⟨.same _,fun _=>rfl⟩⟩⟩
  ·have:=E1z hvs 0 t
   rw [Nat.zero_add]at this
   have e:(vs.toArray++Array.replicate (fn.ntmps-vs.toArray.size) undef).getD t undef=vs.getD t undef:=by
    simp only [Array.getD_eq_getD_getElem?,Array.getElem?_append,List.size_toArray,List.getElem?_toArray,List.getD_eq_getElem?_getD]
    split
    ·rfl
    ·rename_i hge
     rw [List.getElem?_eq_none (by omega)]
     simp only [Array.getElem?_replicate]
     split<;>rfl
   rw [e];exact this
  ·simp only [Array.size_append,List.size_toArray,Array.size_replicate,hN,←hlen]
   omega
end
inductive SV where
 |d (t:Ty)|pv (t:Ty)|part (n:Nat)|pre (n:Nat)|cl (f:Nat) (ts:List Ty)|f (x:V)|nv (b:Bool) (t:Ty)
inductive SB where
 |own (t:Ty) (tl:Bool)|cell (t:Ty) (tl:Bool)|froz (t:Ty)
@[reducible] def TsT : List Ty → Type
 | []=>Unit
 |t::l=>t.T×TsT l
@[reducible] def SvT : List (Nat × SV) → Type
 | []=>Unit
 | (_, .d t)::l=>t.T×SvT l
 | (_, .pv t)::l=>t.T×SvT l
 | (_, .part _)::l=>(Int×Int)×SvT l
 | (_, .pre _)::l=>Int×SvT l
 | (_, .cl _ ts)::l=>TsT ts×SvT l
 | (_, .f _)::l=>SvT l
 | (_, .nv _ t)::l=>List t.T×SvT l
@[reducible] def C6 : List (Nat × SB) → Type
 | []=>Unit
 | (_, .own t _)::l=>List t.T×C6 l
 | (_, .cell t _)::l=>t.T×C6 l
 | (_, .froz t)::l=>List t.T×C6 l
structure Sk where
 tm:List (Nat×SV)
 bl:List (Nat×SB)
@[reducible] def Sk.T (k : Sk) : Type := SvT k.tm × C6 k.bl
def B3L:(ts:List Ty)→TsT ts→List A
 | [],_=>[]
 |t::l,s=> .pv t s.1::B3L l s.2
def Q2:(l:List (Nat×SV))→SvT l→List (Nat×V)
 | [],_=>[]
 | (n, .d t)::l,s=>(n, .a (.v t s.1))::Q2 l s.2
 | (n, .pv t)::l,s=>(n, .a (.pv t s.1))::Q2 l s.2
 | (n, .part m)::l,s=>(n, .a (.part m s.1.1 s.1.2))::Q2 l s.2
 | (n, .pre m)::l,s=>(n, .a (.part m 0 s.1))::Q2 l s.2
 | (n, .cl f ts)::l,s=>(n, .cl f (B3L ts s.1))::Q2 l s.2
 | (n, .f v)::l,s=>(n,v)::Q2 l s
 | (n, .nv b t)::l,s=>(n, .a (.nv b t s.1))::Q2 l s.2
def V4:(l:List (Nat×SB))→C6 l→Bl
 | [],_=>[]
 | (n, .own t tl)::l,s=>(n, .live t s.1 tl)::V4 l s.2
 | (n, .cell t tl)::l,s=>(n, .live t [s.1] tl)::V4 l s.2
 | (n, .froz t)::l,s=>(n, .froz t s.1)::V4 l s.2
def Sk.mk' (k:Sk) (s:k.T):St:=⟨Q2 k.tm s.1,V4 k.bl s.2⟩
def B6H:List Nat→List Nat→Bool
 | [],[]=>true
 |a::l,b::m=>Nat.beq a b&&B6H l m
 |_,_=>false
def B8f:A→A→Bool
 | .u, .u=>true
 | .ns, .ns=>true
 | .nf, .nf=>true
 | .ref n, .ref m=>Nat.beq n m
 | .ptr n i π, .ptr m j ρ=>Nat.beq n m&&decide (i=j)&&B6H π ρ
 |_,_=>false
def B8v:List A→List A→Bool
 | [],[]=>true
 |a::l,b::m=>B8f a b&&B8v l m
 |_,_=>false
def B3f:V→V→Bool
 | .a x, .a y=>B8f x y
 | .cl f xs, .cl g ys=>Nat.beq f g&&B8v xs ys
 |_,_=>false
def B5D:(ts:List Ty)→List A→Option (TsT ts)
 | [],[]=>some ()
 |t::l, .pv t' z::r=>match J3.to t ⟨t',z⟩with
  |some z=>(match B5D l r with|some s=>some (z,s)|none=>none)
  |none=>none
 |_,_=>none
def A0J:(l:List (Nat×SV))→List (Nat×V)→Option (SvT l)
 | [],[]=>some ()
 | (n, .d t)::l,(m, .a (.v t' z))::r=>B3 (Nat.beq n m) ((match J3.to t ⟨t',z⟩with
  |some z=>(match A0J l r with|some s=>some (z,s)|none=>none)
  |none=>none))<|none
 | (n, .pv t)::l,(m, .a (.pv t' z))::r=>B3 (Nat.beq n m) ((match J3.to t ⟨t',z⟩with
  |some z=>(match A0J l r with|some s=>some (z,s)|none=>none)
  |none=>none))<|none
 | (n, .part k)::l,(m, .a (.part k' lo hi))::r=>B3 (Nat.beq n m&&Nat.beq k k') ((match A0J l r with|some s=>some ((lo,hi),s)|none=>none))<|none
 | (n, .pre k)::l,(m, .a (.part k' (.ofNat 0) hi))::r=>B3 (Nat.beq n m&&Nat.beq k k') ((match A0J l r with|some s=>some (hi,s)|none=>none))<|none
 | (n, .cl f ts)::l,(m, .cl g xs)::r=>B3 (Nat.beq n m&&Nat.beq f g) ((match B5D ts xs with
  |some z=>(match A0J l r with|some s=>some (z,s)|none=>none)
  |none=>none))<|none
 | (n, .f v)::l,(m,v')::r=>B3 (Nat.beq n m&&B3f v v') (A0J l r)<|none
 |_,_=>none
def A5d:(l:List (Nat×SB))→Bl→Option (C6 l)
 | [],[]=>some ()
 | (n, .own t tl)::l,(m, .live t' z tl')::r=>B3 (Nat.beq n m&&(tl==tl')) ((match J3.to (.li t) ⟨.li t',z⟩with
  |some z=>(match A5d l r with|some s=>some (z,s)|none=>none)
  |none=>none))<|none
 | (n, .cell t tl)::l,(m, .live t' [z] tl')::r=>B3 (Nat.beq n m&&(tl==tl')) ((match J3.to t ⟨t',z⟩with
  |some z=>(match A5d l r with|some s=>some (z,s)|none=>none)
  |none=>none))<|none
 | (n, .froz t)::l,(m, .froz t' z)::r=>B3 (Nat.beq n m) ((match J3.to (.li t) ⟨.li t',z⟩with
  |some z=>(match A5d l r with|some s=>some (z,s)|none=>none)
  |none=>none))<|none
 |_,_=>none
def Sk.dec (k:Sk) (st:St):Option k.T:=match A0J k.tm st.tm with
 |some a=>(match A5d k.bl st.bl with|some b=>some (a,b)|none=>none)
 |none=>none
theorem D1l:∀{a b:List Nat},B6H a b=true→a=b
 | [],[],_=>rfl
 |x::a,y::b,h=>by
  unfold B6H at h
  rw [Bool.and_eq_true]at h
  rw [Nat.eq_of_beq_eq_true h.1,D1l h.2]
 | [],_::_,h=>by cases h
 |_::_,[],h=>by cases h
theorem D0f {x y:A} (h:B8f x y=true):x=y:=by
 unfold B8f at h
 split at h
 ·rfl
 ·rfl
 ·rfl
 ·rw [Nat.eq_of_beq_eq_true h]
 ·rw [Bool.and_eq_true,Bool.and_eq_true]at h
  rw [Nat.eq_of_beq_eq_true h.1.1,of_decide_eq_true h.1.2,D1l h.2]
 ·cases h
theorem D3c:∀{a b:List A},B8v a b=true→a=b
 | [],[],_=>rfl
 |x::a,y::b,h=>by
  unfold B8v at h
  rw [Bool.and_eq_true]at h
  rw [D0f h.1,D3c h.2]
 | [],_::_,h=>by cases h
 |_::_,[],h=>by cases h
theorem E2L {x y:V} (h:B3f x y=true):x=y:=by
 unfold B3f at h
 split at h
 ·rw [D0f h]
 ·rw [Bool.and_eq_true]at h
  rw [Nat.eq_of_beq_eq_true h.1,D3c h.2]
 ·cases h
theorem B0y {t t':Ty} {z:t'.T} {y:t.T} (h:J3.to t ⟨t',z⟩=some y):(⟨t',z⟩:J3)=⟨t,y⟩:=by
 unfold J3.to at h
 split at h
 ·rename_i e
  have e:t'=t:=e
  subst e
  cases h;rfl
 ·cases h
theorem D5v:∀{ts:List Ty} {xs:List A} {s:TsT ts},B5D ts xs=some s→xs=B3L ts s
 | [],[],s,_=>rfl
 |t::l,x::r,s,h=>by
  cases x with
  |pv t' z=>
   replace h:(match J3.to t ⟨t',z⟩with|some z=>(match B5D l r with|some s=>some (z,s)|none=>none)|none=>none)=some s:=h
   split at h
   ·rename_i y hy
    split at h
    ·rename_i s' hs
     cases h
     have:=B0y hy
     cases this
     show _=A.pv t _::B3L l s'
     rw [D5v hs]
    ·cases h
   ·cases h
  |_=>cases h
 | [],_::_,s,h=>by cases h
 |_::_,[],s,h=>by cases h
theorem A8t:∀(l:List (Nat×SV)) {r:List (Nat×V)} {s:SvT l},A0J l r=some s→r=Q2 l s
 | [],r,s,h=>by
  cases r with
  |nil=>rfl
  |cons=>cases h
 | (n,k)::l,[],s,h=>by cases k<;>cases h
 | (n, .d t)::l,(m,v)::r,s,h=>by
  cases v with
  |a x=>
   cases x with
   |v t' z=>
    have h:(B3 (Nat.beq n m) ((match J3.to t ⟨t',z⟩with|some z=>(match A0J l r with|some s=>some (z,s)|none=>none)|none=>none))<|none)=some s:=h
    cases hb:Nat.beq n m with
    |false=>rw [hb]at h;cases h
    |true=>
     rw [hb,E4]at h
     split at h
     ·rename_i y hy
      split at h
      ·rename_i s' hs
       cases h
       have:=B0y hy
       cases this
       show _=(n,V.a (.v t _))::Q2 l s'
       rw [Nat.eq_of_beq_eq_true hb,A8t l hs]
      ·cases h
     ·cases h
   |_=>cases h
  |_=>cases h
 | (n, .pv t)::l,(m,v)::r,s,h=>by
  cases v with
  |a x=>
   cases x with
   |pv t' z=>
    have h:(B3 (Nat.beq n m) ((match J3.to t ⟨t',z⟩with|some z=>(match A0J l r with|some s=>some (z,s)|none=>none)|none=>none))<|none)=some s:=h
    cases hb:Nat.beq n m with
    |false=>rw [hb]at h;cases h
    |true=>
     rw [hb,E4]at h
     split at h
     ·rename_i y hy
      split at h
      ·rename_i s' hs
       cases h
       have:=B0y hy
       cases this
       show _=(n,V.a (.pv t _))::Q2 l s'
       rw [Nat.eq_of_beq_eq_true hb,A8t l hs]
      ·cases h
     ·cases h
   |_=>cases h
  |_=>cases h
 | (n, .part k)::l,(m,v)::r,s,h=>by
  cases v with
  |a x=>
   cases x with
   |part k' lo hi=>
    have h:(B3 (Nat.beq n m&&Nat.beq k k') ((match A0J l r with|some s=>some ((lo,hi),s)|none=>none))<|none)=some s:=h
    cases hb:(Nat.beq n m&&Nat.beq k k')with
    |false=>rw [hb]at h;cases h
    |true=>
     rw [hb,E4]at h
     rw [Bool.and_eq_true]at hb
     split at h
     ·rename_i s' hs
      cases h
      show _=(n,V.a (.part k lo hi))::Q2 l s'
      rw [Nat.eq_of_beq_eq_true hb.1,Nat.eq_of_beq_eq_true hb.2,A8t l hs]
     ·cases h
   |_=>cases h
  |_=>cases h
 | (n, .pre k)::l,(m,v)::r,s,h=>by
  cases v with
  |a x=>
   cases x with
   |part k' lo hi=>
    cases lo with
    |negSucc=>cases h
    |ofNat z=>
     cases z with
     |succ=>cases h
     |zero=>
      have h:(B3 (Nat.beq n m&&Nat.beq k k') ((match A0J l r with|some s=>some (hi,s)|none=>none))<|none)=some s:=h
      cases hb:(Nat.beq n m&&Nat.beq k k')with
      |false=>rw [hb]at h;cases h
      |true=>
       rw [hb,E4]at h
       rw [Bool.and_eq_true]at hb
       split at h
       ·rename_i s' hs
        cases h
        show _=(n,V.a (.part k 0 hi))::Q2 l s'
        rw [Nat.eq_of_beq_eq_true hb.1,Nat.eq_of_beq_eq_true hb.2,A8t l hs];rfl
       ·cases h
   |_=>cases h
  |_=>cases h
 | (n, .cl f ts)::l,(m,v)::r,s,h=>by
  cases v with
  |cl g xs=>
   have h:(B3 (Nat.beq n m&&Nat.beq f g) ((match B5D ts xs with|some z=>(match A0J l r with|some s=>some (z,s)|none=>none)|none=>none))<|none)=some s:=h
   cases hb:(Nat.beq n m&&Nat.beq f g)with
   |false=>rw [hb]at h;cases h
   |true=>
    rw [hb,E4]at h
    rw [Bool.and_eq_true]at hb
    split at h
    ·rename_i y hy
     split at h
     ·rename_i s' hs
      cases h
      show _=(n,V.cl f (B3L ts y))::Q2 l s'
      rw [Nat.eq_of_beq_eq_true hb.1,Nat.eq_of_beq_eq_true hb.2,A8t l hs,D5v hy]
     ·cases h
    ·cases h
  |_=>cases h
 | (n, .f v)::l,(m,v')::r,s,h=>by
  have h:(B3 (Nat.beq n m&&B3f v v') (A0J l r)<|none)=some s:=by
   cases v' with
   |a x=>cases x<;>exact h
   |_=>exact h
  cases hb:(Nat.beq n m&&B3f v v')with
  |false=>rw [hb]at h;cases h
  |true=>
   rw [hb,E4]at h
   rw [Bool.and_eq_true]at hb
   show _=(n,v)::Q2 l s
   rw [Nat.eq_of_beq_eq_true hb.1,E2L hb.2,A8t l h]
theorem B5o:∀(l:List (Nat×SB)) {r:Bl} {s:C6 l},A5d l r=some s→r=V4 l s
 | [],r,s,h=>by
  cases r with
  |nil=>rfl
  |cons=>cases h
 | (n,k)::l,[],s,h=>by cases k<;>cases h
 | (n, .own t tl)::l,(m,b)::r,s,h=>by
  cases b with
  |live t' z tl'=>
   replace h:(B3 (Nat.beq n m&&(tl==tl')) ((match J3.to (.li t) ⟨.li t',z⟩with|some z=>(match A5d l r with|some s=>some (z,s)|none=>none)|none=>none))<|none)=some s:=by
    cases z with
    |nil=>exact h
    |cons a z=>cases z<;>exact h
   cases hb:(Nat.beq n m&&(tl==tl'))with
   |false=>rw [hb]at h;cases h
   |true=>
    rw [hb,E4]at h
    rw [Bool.and_eq_true]at hb
    have e:=eq_of_beq hb.2
    subst e
    split at h
    ·rename_i y hy
     split at h
     ·rename_i s' hs
      cases h
      have:=B0y hy
      cases this
      show _=(n,A9.live t _ tl)::V4 l s'
      rw [Nat.eq_of_beq_eq_true hb.1,B5o l hs]
     ·cases h
    ·cases h
  |_=>cases h
 | (n, .cell t tl)::l,(m,b)::r,s,h=>by
  cases b with
  |live t' z tl'=>
   cases z with
   |nil=>cases h
   |cons z zs=>
    cases zs with
    |cons=>cases h
    |nil=>
     replace h:(B3 (Nat.beq n m&&(tl==tl')) ((match J3.to t ⟨t',z⟩with|some z=>(match A5d l r with|some s=>some (z,s)|none=>none)|none=>none))<|none)=some s:=h
     cases hb:(Nat.beq n m&&(tl==tl'))with
     |false=>rw [hb]at h;cases h
     |true=>
      rw [hb,E4]at h
      rw [Bool.and_eq_true]at hb
      have e:=eq_of_beq hb.2
      subst e
      split at h
      ·rename_i y hy
       split at h
       ·rename_i s' hs
        cases h
        have:=B0y hy
        cases this
        show _=(n,A9.live t [_] tl)::V4 l s'
        rw [Nat.eq_of_beq_eq_true hb.1,B5o l hs]
       ·cases h
      ·cases h
  |_=>cases h
 | (n, .froz t)::l,(m,b)::r,s,h=>by
  cases b with
  |froz t' z=>
   replace h:(B3 (Nat.beq n m) ((match J3.to (.li t) ⟨.li t',z⟩with|some z=>(match A5d l r with|some s=>some (z,s)|none=>none)|none=>none))<|none)=some s:=h
   cases hb:Nat.beq n m with
   |false=>rw [hb]at h;cases h
   |true=>
    rw [hb,E4]at h
    split at h
    ·rename_i y hy
     split at h
     ·rename_i s' hs
      cases h
      have:=B0y hy
      cases this
      show _=(n,A9.froz t _)::V4 l s'
      rw [Nat.eq_of_beq_eq_true hb,B5o l hs]
     ·cases h
    ·cases h
  |_=>cases h
theorem Sk.dec_ok {k:Sk} {st:St} {s:k.T} (h:k.dec st=some s):st=k.mk' s:=by
 unfold Sk.dec at h
 split at h
 ·rename_i a ha
  split at h
  ·rename_i b hb
   cases h
   obtain⟨tm,bl⟩:=st
   show _=St.mk (Q2 k.tm a) (V4 k.bl b)
   rw [←A8t _ ha,←B5o _ hb]
  ·cases h
 ·cases h
structure FE where
 f:Nat
 ask:Sk
 rsk:Sk
 R:Type
 F:ask.T→Option R
 enc:R→rsk.T
def A3t {R:Type}:List FE→P6 R
 | [],_,_,_,_=>none
 |e::es,f,asx,bs,K=>B3 (Nat.beq e.f f) ((match e.ask.dec ⟨l7 0 asx,bs⟩with
  |some s=>(match e.F s with
   |some o=>(match B0U (Q2 e.rsk.tm (e.enc o).1)with
    |some v=>K v (V4 e.rsk.bl (e.enc o).2)
    |none=>none)
   |none=>none)
  |none=>A3t es f asx bs K))<|A3t es f asx bs K
def B5 (P:Program) (e:FE):Prop:=∀s o,e.F s=some o→∀v,B0U (Q2 e.rsk.tm (e.enc o).1)=some v→Ct P e.f ((Q2 e.ask.tm s.1).map (·.2)) (V4 e.ask.bl s.2) v (V4 e.rsk.bl (e.enc o).2)
theorem D2i:∀(asx:List V) (k:Nat),(l7 k asx).map (·.2)=asx
 | [],_=>rfl
 |a::asx,k=>by
  show a::(l7 (k+1) asx).map (·.2)=_
  rw [D2i asx (k+1)]
theorem C3n {P:Program} {R:Type}:∀(es:List FE),(∀e,e∈es→B5 P e)→A0o P (A3t (R:=R) es)
 | [],_=>fun f asx bs K r h=>by cases h
 |e::es,he=>fun f asx bs K r h=>by
  have ih:=C3n (R:=R) es (fun e he'=>he e (List.mem_cons_of_mem _ he')) f asx bs K r
  unfold A3t at h
  cases hb:Nat.beq e.f f with
  |false=>rw [hb,P7]at h;exact ih h
  |true=>
   rw [hb,E4]at h
   split at h
   ·rename_i s hs
    split at h
    ·rename_i o ho
     split at h
     ·rename_i v hv
      refine⟨v,_,h,?_⟩
      have:=he e List.mem_cons_self s o ho v hv
      have e1:=Sk.dec_ok hs
      have e2:l7 0 asx=Q2 e.ask.tm s.1:=congrArg St.tm e1
      have e3:bs=V4 e.ask.bl s.2:=congrArg St.bl e1
      rw [←e2,D2i,←e3,Nat.eq_of_beq_eq_true hb]at this
      exact this
     ·cases h
    ·cases h
   ·exact ih h
inductive Fr where
 |seqL (b:Code)|blk (id:Nat)|lp (c:Code)|sc
structure S4 where
 key:Nat
 fs:List Fr
 c:Code
def K6 (an:n8):List Fr→Code→List S4
 |fs, .seq a b=>K6 an (.seqL b::fs) a++(match A8 an.cut (F9 b)with
  |some _=>⟨F9 b,fs,b⟩::K6 an fs b
  |none=>K6 an fs b)
 |fs, .cond _ a b=>K6 an fs a++K6 an fs b
 |fs, .block id c=>K6 an (.blk id::fs) c
 |fs, .scope c=>K6 an (.sc::fs) c
 |fs, .loop c=>⟨F9 c,fs, .loop c⟩::K6 an (.lp c::fs) c
 |fs, .rangeFunc g ps c d=>[⟨F9 c,fs, .rangeFunc g ps c d⟩]
 |_,_=>[]
def D2f {R:Type} (an:n8) (lo:Nat→St→Option R) (c:Code) (K:KX R):KX R:=fun x st=>match x with
 | .norm=>A5Q (A8 an.lp (F9 c)) st fun st=>lo (F9 c) st
 |x=>K x st
section
variable {R:Type} (E:E1) (orc:P6 R) (N:Nat) (an:n8) (lo:Nat→St→Option R)
def κF:List Fr→KX R→KX R
 | [],K=>K
 | .seqL b::fs,K=>B5W E orc N an lo b (κF fs K)
 | .blk id::fs,K=>B6t id (κF fs K)
 | .lp c::fs,K=>D2f an lo c (κF fs K)
 | .sc::fs,K=>κF fs K
def B8p (K:KX R) (q:S4) (st:St):Option R:=match q.c with
 | .loop c=>ev E orc N an lo c st (D2f an lo c (κF E orc N an lo q.fs K))
 |c=>ev E orc N an lo c st (κF E orc N an lo q.fs K)
end
def lw (F:Fence) (n:Nat) (P:Program) (c:Code) (Q:Exit→Act→World→Prop) (a:Act) (w:World):Prop:=
 ∀(b:Frame) (k:List Item) (cs:List Frame),b.roundOf=F.round→F.fn b.fn→F.room (cs.length+1+n)→∃e a' w',Q e a' w'∧ArrivesIn (Machine.fenced P F) P (lone (b.atR a (.code c:: .inLoop c::k)) cs w) b k cs e a' w'
def qF (F:Fence) (n:Nat) (P:Program) (Q:Exit→Act→World→Prop):List Fr→(Exit→Act→World→Prop)
 | []=>Q
 | .seqL b::fs=>Exit.then (b.wpIn F n P (qF F n P Q fs)) (qF F n P Q fs)
 | .blk id::fs=>Exit.inBlock id (qF F n P Q fs)
 | .lp c::fs=>Exit.then (lw F n P c (qF F n P Q fs)) (qF F n P Q fs)
 | .sc::fs=>Exit.noGoto (qF F n P Q fs)
structure D3 (R:Type) where
 key:Nat
 sk:Sk
 l:sk.T→Option R
def A0R {R:Type}:List (D3 R)→Nat→St→Option R
 | [],_,_=>none
 |e::es,key,st=>B3 (Nat.beq e.key key) ((match e.sk.dec st with
  |some s=>e.l s
  |none=>none))<|A0R es key st
theorem E3m {F:Fence} {n:Nat} {P:Program} {Q:Exit→Act→World→Prop} {c:Code} {a:Act} {w:World} (h:lw F n P c Q a w):(Code.loop c).wpIn F n P Q a w:=by
 intro b k cs hro hb hr
 obtain⟨e,a',w',hq,harr⟩:=h b k cs hro hb hr
 exact⟨e,a',w',hq, .of_steps (.one (fenced_calm hb hr rfl) stepR_loop) harr⟩
theorem E0N {F:Fence} {n:Nat} {P:Program} {Q:Exit→Act→World→Prop} {c:Code} {a:Act} {w:World} (h:c.wpIn F n P (Exit.then (lw F n P c Q) Q) a w):lw F n P c Q a w:=by
 intro b k cs hro hb hr
 obtain⟨e,a₁,w₁,hq,harr⟩:=h b (.inLoop c::k) cs hro hb hr
 cases e with
 |normal=>
  obtain⟨e₂,a₂,w₂,hq₂,harr₂⟩:=hq b k cs hro hb hr
  exact⟨e₂,a₂,w₂,hq₂, .of_steps (StepsIn.trans harr (.one (fenced_calm hb hr rfl) stepR_inLoop)) harr₂⟩
 |exit id=>exact⟨_,a₁,w₁,hq, .pass (x:= .inLoop c) rfl (fun _ _=> .inl (by simp)) harr⟩
 |goto l=>exact⟨_,a₁,w₁,hq, .pass (x:= .inLoop c) rfl (fun _ _=> .inl (by simp)) harr⟩
 |ret=>exact⟨_,a₁,w₁,hq, .pass (x:= .inLoop c) rfl (fun _ _=> .inl (by simp)) harr⟩
 |panic ch=>exact⟨_,a₁,w₁,hq, .pass (x:= .inLoop c) rfl (fun _ _=> .inl (by simp)) harr⟩
 |outgrown=>exact⟨_,a₁,w₁,hq, .pass (x:= .inLoop c) rfl (fun _ _=> .inl (by simp)) harr⟩
section
variable {F:Fence} {n:Nat} {P:Program} {N:Nat} {w0:World} {Bo:Nat→Nat→Prop} {bl0:Nat→A9} {φ0:Nat→Addr} {E:E1} {R:Type} {r:R} {an:n8} {lo:Nat→St→Option R}
def B2q (F:Fence) (n:Nat) (P:Program) (N:Nat) (w0:World) (Bo:Nat→Nat→Prop) (bl0:Nat→A9) (φ0:Nat→Addr) (lo:Nat→St→Option R) (r:R) (Q:Exit→Act→World→Prop) (q:S4):Prop:=
 ∀st a w,lo q.key st=some r→Rel N w0 Bo bl0 φ0 st a w→match q.c with
  | .loop c=>lw F n P c (qF F n P Q q.fs) a w
  |c=>c.wpIn F n P (qF F n P Q q.fs) a w
theorem B7r {Q:Exit→Act→World→Prop} {q:S4} (h:B2q F n P N w0 Bo bl0 φ0 lo r Q q):LoQ F n P N w0 Bo bl0 φ0 lo r q.key q.c (qF F n P Q q.fs):=by
 intro st a w hk hr
 have:=h st a w hk hr
 obtain⟨key,fs,c⟩:=q
 cases c with
 |loop c=>exact E3m this
 |_=>exact this
theorem B6F {Q:Exit→Act→World→Prop}:∀(c:Code) (fs:List Fr),(∀q,q∈K6 an fs c→B2q F n P N w0 Bo bl0 φ0 lo r Q q)→A5F F n P N w0 Bo bl0 φ0 an lo r c (qF F n P Q fs):=by
 intro c
 induction c with
 |seq a b iha ihb=>
  intro fs h
  unfold K6 at h
  refine⟨iha (.seqL b::fs) fun q hq=>h q (List.mem_append_left _ hq),?_⟩
  cases hl:A8 an.cut (F9 b)with
  |some L=>
   rw [hl]at h
   exact B7r (h ⟨F9 b,fs,b⟩ (List.mem_append_right _ List.mem_cons_self))
  |none=>
   rw [hl]at h
   exact ihb fs fun q hq=>h q (List.mem_append_right _ hq)
 |cond c a b iha ihb=>
  intro fs h
  exact⟨iha fs fun q hq=>h q (List.mem_append_left _ hq),ihb fs fun q hq=>h q (List.mem_append_right _ hq)⟩
 |block id c ih=>intro fs h;exact ih (.blk id::fs) h
 |scope c ih=>intro fs h;exact ih (.sc::fs) h
 |loop c ih=>intro fs h;exact B7r (h ⟨F9 c,fs, .loop c⟩ List.mem_cons_self)
 |rangeFunc g ps c d _ _=>intro fs h;exact B7r (h ⟨F9 c,fs, .rangeFunc g ps c d⟩ List.mem_cons_self)
 |_=>intro fs h;trivial
def A2z (an:n8) (tbl:List S4):List Fr→Prop
 | []=>True
 | .seqL b::fs=>(match A8 an.cut (F9 b)with
  |some _=>∀q,q∈⟨F9 b,fs,b⟩::K6 an fs b→q∈tbl
  |none=>∀q,q∈K6 an fs b→q∈tbl)∧A2z an tbl fs
 | .blk _::fs=>A2z an tbl fs
 | .sc::fs=>A2z an tbl fs
 | .lp c::fs=>(⟨F9 c,fs, .loop c⟩:S4)∈tbl∧A2z an tbl fs
def O9 (an:n8) (q:S4):List S4:=match q.c with
 | .loop c=>K6 an (.lp c::q.fs) c
 |c=>K6 an q.fs c
theorem F6R:∀(c:Code) (fs:List Fr) (q:S4),q∈K6 an fs c→q.key=F9 q.c:=by
 intro c
 induction c with
 |seq a b iha ihb=>
  intro fs q hq
  unfold K6 at hq
  rcases List.mem_append.1 hq with hq|hq
  ·exact iha _ q hq
  ·cases hl:A8 an.cut (F9 b)with
   |none=>rw [hl]at hq;exact ihb fs q hq
   |some L=>
    rw [hl]at hq
    rcases List.mem_cons.1 hq with rfl|hq
    ·rfl
    ·exact ihb fs q hq
 |cond c a b iha ihb=>
  intro fs q hq
  unfold K6 at hq
  rcases List.mem_append.1 hq with hq|hq
  ·exact iha fs q hq
  ·exact ihb fs q hq
 |block id c ih=>intro fs q hq;exact ih (.blk id::fs) q hq
 |scope c ih=>intro fs q hq;exact ih (.sc::fs) q hq
 |loop c ih=>
  intro fs q hq
  unfold K6 at hq
  rcases List.mem_cons.1 hq with rfl|hq
  ·rfl
  ·exact ih (.lp c::fs) q hq
 |rangeFunc g ps c d _ _=>
  intro fs q hq
  unfold K6 at hq
  rw [List.mem_singleton]at hq
  subst hq;rfl
 |_=>intro fs q hq;cases hq
theorem E3r {tbl:List S4}:∀(c:Code) (fs:List Fr),A2z an tbl fs→(∀q,q∈K6 an fs c→q∈tbl)→∀q,q∈K6 an fs c→A2z an tbl q.fs∧∀p,p∈O9 an q→p∈tbl:=by
 intro c
 induction c with
 |seq a b iha ihb=>
  intro fs hc h q hq
  unfold K6 at h hq
  have hcx:A2z an tbl (.seqL b::fs):=by
   refine⟨?_,hc⟩
   cases hl:A8 an.cut (F9 b)with
   |some L=>rw [hl]at h;exact fun q hq=>h q (List.mem_append_right _ hq)
   |none=>rw [hl]at h;exact fun q hq=>h q (List.mem_append_right _ hq)
  rcases List.mem_append.1 hq with hq|hq
  ·exact iha (.seqL b::fs) hcx (fun q hq=>h q (List.mem_append_left _ hq)) q hq
  ·cases hl:A8 an.cut (F9 b)with
   |none=>
    rw [hl]at h hq
    exact ihb fs hc (fun q hq=>h q (List.mem_append_right _ hq)) q hq
   |some L=>
    rw [hl]at h hq
    have hb:∀q,q∈K6 an fs b→q∈tbl:=fun q hq=>h q (List.mem_append_right _ (List.mem_cons_of_mem _ hq))
    rcases List.mem_cons.1 hq with rfl|hq
    ·refine⟨hc,?_⟩
     unfold O9
     simp only
     split
     ·rename_i c
      intro p hp
      exact hb p (by unfold K6;exact List.mem_cons_of_mem _ hp)
     ·exact hb
    ·exact ihb fs hc hb q hq
 |cond c a b iha ihb=>
  intro fs hc h q hq
  unfold K6 at h hq
  rcases List.mem_append.1 hq with hq|hq
  ·exact iha fs hc (fun q hq=>h q (List.mem_append_left _ hq)) q hq
  ·exact ihb fs hc (fun q hq=>h q (List.mem_append_right _ hq)) q hq
 |block id c ih=>intro fs hc h q hq;exact ih (.blk id::fs) hc h q hq
 |scope c ih=>intro fs hc h q hq;exact ih (.sc::fs) hc h q hq
 |loop c ih=>
  intro fs hc h q hq
  unfold K6 at h hq
  have hcx:A2z an tbl (.lp c::fs):=⟨h _ List.mem_cons_self,hc⟩
  have hb:∀q,q∈K6 an (.lp c::fs) c→q∈tbl:=fun q hq=>h q (List.mem_cons_of_mem _ hq)
  rcases List.mem_cons.1 hq with rfl|hq
  ·exact⟨hc,hb⟩
  ·exact ih (.lp c::fs) hcx hb q hq
 |rangeFunc g ps c d _ _=>
  intro fs hc h q hq
  unfold K6 at hq
  rw [List.mem_singleton]at hq
  subst hq
  exact⟨hc,h⟩
 |_=>intro fs hc h q hq;cases hq
theorem B2B (hF:Z7 F) (hE:F6 P E) (hm:P.follows .mixedOrders=true) {orc:P6 R} (horc:A0o P orc) {Q:Exit→Act→World→Prop} {K:KX R} (hK:KQ N w0 Bo bl0 φ0 r K Q) {tbl:List S4} (ht:∀q,q∈tbl→B2q F n P N w0 Bo bl0 φ0 lo r Q q):
  ∀(fs:List Fr),A2z an tbl fs→KQ N w0 Bo bl0 φ0 r (κF E orc N an lo fs K) (qF F n P Q fs)
 | [],_=>hK
 | .seqL b::fs,h=>by
  have ih:=B2B hF hE hm horc hK ht fs h.2
  have h1:=h.1
  refine D2U ih (fun L hL=>?_) fun hL=>?_
  ·rw [hL]at h1
   exact B7r (ht _ (h1 _ List.mem_cons_self))
  ·rw [hL]at h1
   exact fun st a w he hr=>B7m hF hE hm horc b _ (B6F b fs fun q hq=>ht q (h1 q hq)) _ ih st a w he hr
 | .blk id::fs,h=>D3e (B2B hF hE hm horc hK ht fs h)
 | .sc::fs,h=>D8F (B2B hF hE hm horc hK ht fs h)
 | .lp c::fs,h=>by
  have ih:=B2B hF hE hm horc hK ht fs h.2
  intro x st a w hk hr
  cases x with
  |exit j=>exact ih _ _ _ _ hk hr
  |ret=>exact ih _ _ _ _ hk hr
  |norm=>
   obtain⟨st',h1,h2⟩:=B4Q hk hr
   exact ht _ h.1 st' a w h1 h2
inductive A8g (E:E1) (orc:P6 R) (N:Nat) (an:n8) (lo:Nat→St→Option R) (K:KX R):List (D3 R)→List S4→Prop
 |nil:A8g E orc N an lo K [] []
 |cons {e:D3 R} {es:List (D3 R)} {q:S4} {qs:List S4}:e.key=q.key→G8 (qs.map (·.key)) q.key=false→(∀s r,e.l s=some r→B8p E orc N an lo K q (e.sk.mk' s)=some r)→A8g E orc N an lo K es qs→A8g E orc N an lo K (e::es) (q::qs)
theorem D9P {orc:P6 R} {K:KX R} {les:List (D3 R)} {qs:List S4} (h:A8g E orc N an lo K les qs):∀q,q∈qs→∀st,A0R les q.key st=some r→B8p E orc N an lo K q st=some r:=by
 induction h with
 |nil=>intro q hq;cases hq
 | @cons e es q0 qs hk hn he _ ih=>
  intro q hq st hl
  unfold A0R at hl
  rcases List.mem_cons.1 hq with rfl|hq
  ·rw [hk,Nat.beq_refl,E4]at hl
   split at hl
   ·rename_i s hs
    have e1:=Sk.dec_ok hs
    subst e1
    exact he s r hl
   ·cases hl
  ·have:Nat.beq e.key q.key=false:=by
    rw [Bool.eq_false_iff]
    intro e1
    have e2:=Nat.eq_of_beq_eq_true e1
    have:q0.key∈qs.map (·.key):=by rw [←hk,e2];exact List.mem_map.2 ⟨q,hq,rfl⟩
    rw [q8.2 this]at hn;cases hn
   rw [this,P7]at hl
   exact ih q hq st hl
theorem F0h (hF:Z7 F) (hE:F6 P E) (hm:P.follows .mixedOrders=true) {orc:P6 R} (horc:A0o P orc) {Q:Exit→Act→World→Prop} {K:KX R} (hK:KQ N w0 Bo bl0 φ0 r K Q) {tbl:List S4} (ht:∀q,q∈tbl→B2q F n P N w0 Bo bl0 φ0 lo r Q q) {q:S4} (hq:q∈tbl) (hc:A2z an tbl q.fs) (hi:∀p,p∈O9 an q→p∈tbl) (hkey:q.key=F9 q.c)
  {st:St} {a:Act} {w:World} (h:B8p E orc N an lo K q st=some r) (hr:Rel N w0 Bo bl0 φ0 st a w):match q.c with
  | .loop c=>lw F n P c (qF F n P Q q.fs) a w
  |c=>c.wpIn F n P (qF F n P Q q.fs) a w:=by
 obtain⟨key,fs,c⟩:=q
 have D5:(∀c',c≠ .loop c')→ev E orc N an lo c st (κF E orc N an lo fs K)=some r→(∀p,p∈K6 an fs c→p∈tbl)→c.wpIn F n P (qF F n P Q fs) a w:=by
  intro _ h hi
  exact B7m hF hE hm horc c _ (B6F c fs fun p hp=>ht p (hi p hp)) _ (B2B hF hE hm horc hK ht fs hc) st a w h hr
 cases c with
 |loop c=>
  have hkey:key=F9 c:=hkey
  subst hkey
  have hcx:A2z an tbl (.lp c::fs):=⟨hq,hc⟩
  exact E0N (B7m hF hE hm horc c _ (B6F c (.lp c::fs) fun p hp=>ht p (hi p hp)) _ (B2B hF hE hm horc hK ht (.lp c::fs) hcx) st a w h hr)
 |_=>exact D5 (fun _ e=>by cases e) h hi
theorem E7s (hF:Z7 F) (hE:F6 P E) (hm:P.follows .mixedOrders=true) {orc:Nat→P6 R} (horc:∀k,A0o P (orc k)) {Q:Exit→Act→World→Prop} {K:KX R} (hK:KQ N w0 Bo bl0 φ0 r K Q) {c:Code} {tbl:List S4} (htb:K6 an [] c=tbl) {les:Nat→List (D3 R)}
  (h0:∀e,e∈les 0→∀s,e.l s=none) (hs:∀k,A8g E (orc k) N an (A0R (les k)) K (les (k+1)) tbl):∀k q,q∈tbl→B2q F n P N w0 Bo bl0 φ0 (A0R (les k)) r Q q:=by
 subst htb
 intro k
 induction k with
 |zero=>
  intro q _ st a w h _
  exfalso
  have:∀(l:List (D3 R)),(∀e,e∈l→∀s,e.l s=none)→A0R l q.key st=none:=by
   intro l
   induction l with
   |nil=>intro _;rfl
   |cons e l ih=>
    intro hl
    unfold A0R
    cases Nat.beq e.key q.key with
    |false=>exact ih fun e he=>hl e (List.mem_cons_of_mem _ he)
    |true=>
     simp only [E4]
     split
     ·exact hl e List.mem_cons_self _
     ·rfl
  rw [this _ h0]at h;cases h
 |succ k ih=>
  intro q hq st a w h hr
  obtain⟨h1,h2⟩:=E3r (an:=an) (tbl:=K6 an [] c) c [] trivial (fun q hq=>hq) q hq
  exact F0h hF hE hm (horc k) hK ih hq h1 h2 (F6R c [] q hq) (D9P (hs k) q hq st h) hr
end
def B0R:List (Nat×SB)→Bool
 | []=>true
 | (n, .own _ _)::l=>F1 n&&B0R l
 | (n, .cell _ _)::l=>F1 n&&B0R l
 |_=>false
theorem C7X:∀(l:List (Nat×SB)),B0R l=true→∀(s:C6 l) n b,A8 (V4 l s) n=some b→F1 n=true∧live b
 | [],_,s,n,b,h=>by cases h
 | (m, .own t tl)::l,hl,s,n,b,h=>by
  unfold B0R at hl
  rw [Bool.and_eq_true]at hl
  replace h:(B3 (Nat.beq m n) (some (A9.live t s.1 tl))<|A8 (V4 l s.2) n)=some b:=h
  cases hb:Nat.beq m n with
  |true=>rw [hb]at h;cases h;rw [←Nat.eq_of_beq_eq_true hb];exact⟨hl.1,_,_,_,rfl⟩
  |false=>rw [hb]at h;exact C7X l hl.2 s.2 n b h
 | (m, .cell t tl)::l,hl,s,n,b,h=>by
  unfold B0R at hl
  rw [Bool.and_eq_true]at hl
  replace h:(B3 (Nat.beq m n) (some (A9.live t [s.1] tl))<|A8 (V4 l s.2) n)=some b:=h
  cases hb:Nat.beq m n with
  |true=>rw [hb]at h;cases h;rw [←Nat.eq_of_beq_eq_true hb];exact⟨hl.1,_,_,_,rfl⟩
  |false=>rw [hb]at h;exact C7X l hl.2 s.2 n b h
 | (m, .froz t)::l,hl,s,n,b,h=>by cases hl
theorem B5f:∀(l:List (Nat×SB)) (s:C6 l),(V4 l s).map (·.1)=l.map (·.1)
 | [],_=>rfl
 | (m, .own t tl)::l,s=>congrArg (m:: ·) (B5f l s.2)
 | (m, .cell t tl)::l,s=>congrArg (m:: ·) (B5f l s.2)
 | (m, .froz t)::l,s=>congrArg (m:: ·) (B5f l s.2)
def B5J:Nat→List (Nat×SV)→Bool
 |_,[]=>true
 |k,(n,_)::l=>Nat.beq n k&&B5J (k+1) l
theorem A6V:∀(l:List (Nat×SV)) (k:Nat),B5J k l=true→∀(s:SvT l),Q2 l s=l7 k ((Q2 l s).map (·.2))∧(Q2 l s).length=l.length
 | [],_,_,s=>⟨rfl,rfl⟩
 | (m,v)::l,k,h,s=>by
  unfold B5J at h
  rw [Bool.and_eq_true]at h
  have e:=Nat.eq_of_beq_eq_true h.1
  subst e
  cases v with
  |pv t=>obtain⟨i1,i2⟩:=A6V l _ h.2 s.2;exact⟨congrArg (_:: ·) i1,congrArg (· +1) i2⟩
  |d t=>obtain⟨i1,i2⟩:=A6V l _ h.2 s.2;exact⟨congrArg (_:: ·) i1,congrArg (· +1) i2⟩
  |pre q=>obtain⟨i1,i2⟩:=A6V l _ h.2 s.2;exact⟨congrArg (_:: ·) i1,congrArg (· +1) i2⟩
  |part q=>obtain⟨i1,i2⟩:=A6V l _ h.2 s.2;exact⟨congrArg (_:: ·) i1,congrArg (· +1) i2⟩
  |cl f ts=>obtain⟨i1,i2⟩:=A6V l _ h.2 s.2;exact⟨congrArg (_:: ·) i1,congrArg (· +1) i2⟩
  |f v=>obtain⟨i1,i2⟩:=A6V l _ h.2 s;exact⟨congrArg (_:: ·) i1,congrArg (· +1) i2⟩
  |nv b t=>obtain⟨i1,i2⟩:=A6V l _ h.2 s.2;exact⟨congrArg (_:: ·) i1,congrArg (· +1) i2⟩
def C2z (N:Nat) (fn:Func) (ask rsk:Sk):Bool:=B5J 0 ask.tm&&B0R ask.bl&&(rsk.bl.all fun q=>Nat.blt q.1 10000)&&Nat.beq N (max fn.ntmps ask.tm.length)&& !(fn.name== "runtime.NumGoroutine")
def A6t {R:Type} (rsk:Sk) (dec:rsk.T→R) (st:St):Option R:=match rsk.dec st with
 |some s=>some (dec s)
 |none=>none
theorem E9m {P:Program} {E:E1} (hE:F6 P E) (hm:P.follows .mixedOrders=true) {es:Nat→List FE} (hes:∀k e,e∈es k→B5 P e) {N:Nat} {an:n8} {fn:Func} {c:Code} {f:Nat} {ask rsk:Sk} {R:Type} {enc:R→rsk.T} {dec:rsk.T→R} (hed:∀s,enc (dec s)=s) {rms:List RM} {tbl:List S4} (hf:P.funcs[f]?=some fn) (hb:fn.body=some c)
  (hs:C2z N fn ask rsk=true) (htb:K6 an [] c=tbl) (les:Nat→List (D3 R)) (h0:∀e,e∈les 0→∀s,e.l s=none)
  (hst:∀k (s:C6 ask.bl),A8g E (A3t (es k)) N an (A0R (les k)) (B2y E fn.results.toList rms (V4 ask.bl s) (A6t rsk dec)) (les (k+1)) tbl)
  {F:Nat→ask.T→Option R} (heq:∀k s r,F k s=some r→B5l E (A3t (es k)) an (A0R (les k)) N c fn.results.toList rms (ask.mk' s) (A6t rsk dec)=some r) (k:Nat):B5 P ⟨f,ask,rsk,R,F k,enc⟩:=by
 intro s o h v hv
 unfold C2z at hs
 simp only [Bool.and_eq_true,Bool.not_eq_true']at hs
 obtain⟨⟨⟨⟨s1,s2⟩,s3⟩,s4⟩,s5⟩:=hs
 obtain⟨n1,n2⟩:=A6V ask.tm 0 s1 s.1
 replace h:B5l E (A3t (es k)) an (A0R (les k)) N c fn.results.toList rms (ask.mk' s) (A6t rsk dec)=some o:=heq k s o h
 have e1:ask.mk' s=⟨l7 0 ((Q2 ask.tm s.1).map (·.2)),V4 ask.bl s.2⟩:=by
  unfold Sk.mk'
  rw [←n1]
 rw [e1]at h
 refine E3b (st1:=rsk.mk' (enc o)) (K:=A6t rsk dec) hE hm (C3n (es k) (hes k)) hf hb s5 ?_ (C7X _ s2 s.2) (fun w0 bl0 φ0 Q hKQ=>?_) h (fun st hst=>?_) (fun q hq=>?_) hv
 ·rw [List.length_map,n2];exact Nat.eq_of_beq_eq_true s4
 ·exact B6F c [] fun q hq=>E7s (Or.inl rfl) hE hm (fun k=>C3n (es k) (hes k)) hKQ htb h0 (fun k=>hst k _) k q (by rw [←htb];exact hq)
 ·unfold A6t at hst
  split at hst
  ·rename_i s' hs'
   cases hst
   rw [hed];exact Sk.dec_ok hs'
  ·cases hst
 ·have:q.1∈(V4 rsk.bl (enc o).2).map (·.1):=List.mem_map.2 ⟨q,hq,rfl⟩
  rw [B5f]at this
  obtain⟨q',h1,h2⟩:=List.mem_map.1 this
  rw [List.all_eq_true]at s3
  have:=s3 q' h1
  rw [Nat.blt_eq]at this
  rw [←h2];exact this
theorem F0P {P:Program} {f:Nat} {t:Ty} {rsk:Sk} {R:Type} {enc:R→rsk.T} {F Fn Fm:(List t.T×Unit)×Unit→Option R} (hn:B5 P ⟨f,⟨[(0, .nv true t)],[]⟩,rsk,R,Fn,enc⟩) (hm:B5 P ⟨f,⟨[(0, .nv false t)],[]⟩,rsk,R,Fm,enc⟩)
  (hF:∀s r,F s=some r→Fm s=some r∧(s.1.1=[]→Fn s=some r)):B5 P ⟨f,⟨[(0, .d (.li t))],[]⟩,rsk,R,F,enc⟩:=by
 intro s o h v hv
 obtain⟨h1,h2⟩:=hF s o h
 have cm:=hm s o h1 v hv
 refine⟨cm.1,fun w0 bl0 φ0 vs hl hme hr=>?_⟩
 cases hr with
 |cons hr hnil=>
  have hr2:=hr
  obtain⟨ad,cap,rfl,q2,q3⟩:=A0s.1 hr2
  cases had:ad.isNone with
  |false=>exact cm.2 w0 bl0 φ0 _ hl hme (.cons ⟨hr,ad,_,cap,rfl,had⟩ hnil)
  |true=>
   have hx:s.1.1=[]:=by
    rcases q3 with q3| ⟨b,o',e,_⟩
    ·exact q3
    ·rw [e]at had;cases had
   exact(hn s o (h2 hx) v hv).2 w0 bl0 φ0 _ hl hme (.cons ⟨hr,ad,_,cap,rfl,had⟩ hnil)
structure FD where
 f:Nat
 fn:Func
 N:Nat
 an:n8
 ask:Sk
 rsk:Sk
 rms:List RM
 R:Type
 enc:R→rsk.T
 dec:rsk.T→R
def FD.cd (D:FD):Code:=(D.fn.body).getD .skip
def FD.fe (D:FD) (F:D.ask.T→Option D.R):FE:=⟨D.f,D.ask,D.rsk,D.R,F,D.enc⟩
def FD.tbl (D:FD):List S4:=K6 D.an [] D.cd
def FD.ev (D:FD) (E:E1) (es:List FE) (les:List (D3 D.R)) (s:D.ask.T):Option D.R:=B5l E (A3t es) D.an (A0R les) D.N D.cd D.fn.results.toList D.rms (D.ask.mk' s) (A6t D.rsk D.dec)
def FD.kx (D:FD) (E:E1) (s0:C6 D.ask.bl):KX D.R:=B2y E D.fn.results.toList D.rms (V4 D.ask.bl s0) (A6t D.rsk D.dec)
def FD.pt (D:FD) (i:Nat):S4:=D.tbl.getD i ⟨0,[], .skip⟩
def FD.po (D:FD) (E:E1) (es:List FE) (les:List (D3 D.R)) (s0:C6 D.ask.bl) (i:Nat) (st:St):Option D.R:=B8p E (A3t es) D.N D.an (A0R les) (D.kx E s0) (D.pt i) st
def FD.pts (D:FD):Nat→Nat→List S4
 |0,_=>[]
 |n+1,i=>D.pt i::D.pts n (i+1)
def FD.ok (D:FD) (n:Nat):Bool:=D.fn.body.isSome&&C2z D.N D.fn D.ask D.rsk&&Nat.beq D.tbl.length n
theorem FD.pts_eq (D:FD):∀(n i:Nat),i+n=D.tbl.length→D.pts n i=D.tbl.drop i
 |0,i,h=>by rw [List.drop_of_length_le (by omega)];rfl
 |n+1,i,h=>by
  have hi:i<D.tbl.length:=by omega
  rw [List.drop_eq_getElem_cons hi,←D.pts_eq n (i+1) (by omega)]
  show D.pt i::_=_
  unfold FD.pt
  rw [List.getD_eq_getElem?_getD,List.getElem?_eq_getElem hi];rfl
theorem B9 {P:Program} {E:E1} (hE:F6 P E) (hm:P.follows .mixedOrders=true) (D:FD) {es:Nat→List FE} (hes:∀k e,e∈es k→B5 P e) (hf:P.funcs[D.f]?=some D.fn) (n:Nat) (hs:D.ok n=true) (hed:∀s,D.enc (D.dec s)=s)
  (les:Nat→List (D3 D.R)) (h0:∀e,e∈les 0→∀s,e.l s=none) (hst:∀k s0,A8g E (A3t (es k)) D.N D.an (A0R (les k)) (D.kx E s0) (les (k+1)) (D.pts n 0))
  {F:Nat→D.ask.T→Option D.R} (heq:∀k s r,F k s=some r→D.ev E (es k) (les k) s=some r) (k:Nat):B5 P (D.fe (F k)):=by
 unfold FD.ok at hs
 simp only [Bool.and_eq_true]at hs
 obtain⟨⟨h1,h2⟩,h3⟩:=hs
 have h3:=Nat.eq_of_beq_eq_true h3
 have hb:D.fn.body=some D.cd:=by
  unfold FD.cd
  cases hb:D.fn.body with
  |none=>rw [hb]at h1;cases h1
  |some c=>rfl
 have ht:D.pts n 0=D.tbl:=by rw [D.pts_eq n 0 (by omega)];rfl
 rw [ht]at hst
 exact E9m hE hm hes hed hf hb h2 rfl les h0 hst heq k
theorem fc {α:Type _} {p:α→Prop} {a:α} {l:List α} (h:p a∧∀x,x∈l→p x):∀x,x∈a::l→p x:=List.forall_mem_cons.2 h
theorem fz {α:Type _} {p:α→Prop}:∀x,x∈([]:List α)→p x:=List.forall_mem_nil _
theorem F1V {P:Program} {f:Nat} {fn:Func} {c:Code} (hf:P.funcs[f]?=some fn) (hname:(fn.name== "runtime.NumGoroutine")=false) (hb:fn.body=some c) {asx:List V} {r:V} {us:Bl} (h:Ct P f asx [] r us) {vs:List Value}
  {w:World} (hv:M5 w (fun _=> .fresh) (fun _=>⟨0,0,some 0⟩) asx vs) (hr:∀w bl φ v,C4 w bl φ r v→v= .bool true):Calls P f vs.toArray w fun e w'=>e= .returned (.bool true)∧Below w.heap.size w w':=by
 have hm:D2 w (S3 [] (fun _=>⟨0,0,some 0⟩)) (fun _=> .fresh) (fun _=>⟨0,0,some 0⟩) w:=
  ⟨fun n=>trivial,(fun n m h=>by obtain⟨_,_,_,e⟩:=h;cases e),(fun n t l tl _ h=>by cases h),M9.refl _ _⟩
 rcases h.2 w (fun _=> .fresh) (fun _=>⟨0,0,some 0⟩) vs (fun n _=>rfl) hm hv with⟨_,h1⟩| ⟨v,w',h1,_⟩
 ·refine h1.mono fun e w'=>?_
  rintro⟨v,rfl,φ',st,rv⟩
  have fr:=st.mem.fr
  refine⟨by rw [hr _ _ _ _ rv],fr.os,fr.tape,fr.output,fr.size,fun b hb=>fr.block b hb fun o h=>?_⟩
  obtain⟨n,t,l,tl,_,e,_⟩:=h
  cases e
 ·exfalso
  have e:(callFunc f vs.toArray).run P w= .ok (.enter f vs.toArray) w:=by simp only [callFunc,Sem.run_bind,run_program,Result.andThen_ok,hf,hname,hb,Option.isNone_some,Bool.false_eq_true,if_false,Sem.run_pure]
  rw [e]at h1;cases h1
abbrev At0 (w:World) (ty:Ty) (x:ty.T) (v:Value):Prop:=C4 w (fun _=> .fresh) (fun _=>⟨0,0,some 0⟩) (.a (.v ty x)) v
theorem C3S {w w':World} (h:Below w.heap.size w w'):M9 w w' (fun _ _=>False):=by
 have hb:∀b,b<w.heap.size→w'.heap[b]?=w.heap[b]?:=h.block
 have hc:∀b o,b<w.heap.size→w'.cell? ⟨b,o,none⟩=w.cell? ⟨b,o,none⟩:=fun b o hl=>by unfold World.cell?;rw [hb b hl]
 exact⟨h.os,h.tape,h.output,h.size,fun b hl _=>hb b hl,fun b o hl _=>hc b o hl,fun b o hs=>by
  have hl:b<w.heap.size:=by
   obtain⟨v,hv⟩:=Option.isSome_iff_exists.1 hs
   exact A8k hv
  rw [hc b o hl];exact hs,fun b o hl=>by unfold World.frozen?;rw [hb b hl]⟩
theorem C2j {w0 w w':World} {Bo:Nat→Nat→Prop} {bl:Nat→A9} {φ:Nat→Addr} (m:D2 w0 Bo bl φ w) (h:Below w.heap.size w w'):E7 w0 Bo bl φ w bl φ w':=
 A4n m (fun _=>False) (fun _ _=>⟨rfl,rfl⟩) (fun _ h=>h.elim) ((C3S h).ext (fun _ _ _ h=>h.elim) fun _ _ h=>h) (fun n _ hl hs o v hv=>((C3S h).cell _ _ (A8k hv) id).trans hv) (fun _ h=>h.elim) (fun _ _ h=>h.elim) (fun _ _ _ _ h=>h.elim) (m.fr.trans (C3S h) fun _ _ _ h=>h.elim)
section
variable {w:World} {bl:Nat→A9} {φ:Nat→Addr}
theorem E1w {v:Value} (h:C4 w bl φ (.a (.v .bo true)) v):v= .bool true:=by
 obtain⟨cs,h1,h2⟩:=h
 have h1:cs=[.bool true]:=h1
 subst h1
 have h2:[Value.bool true]=[v]:=h2
 cases h2;rfl
end
end Go.Proofs.YtijohnkgomcdbaaGreatE
set_option maxRecDepth 100000
namespace Go.Proofs.YtijohnkgomcdbaaGreatV
open Go Go.RowKit YtijohnkgomcdbaaGreatE YtijohnkgomcdbaaGreatW.PrintWords YtijohnkgomcdbaaGreatW.PrintLast YtijohnkgomcdbaaGreatW.PrintMore
noncomputable def E0:E1:=⟨[(3,(.it .i64)),(4, .bo),(5,(.it .u8)),(9, .st),(22,(.li tQ)),(23,(.li tQ)),(25,(.ag (.li tQ))),(26,(.li (.li tQ))),(27,(.li (.li tQ))),(40, .st),(42,(.ag (.pr .bo .st))),(44,tQ),(87,(.li (.li (.li tQ)))),(103,(.li (.it .i64))),(109,(.ar (.pr (.li (.li tQ)) (.li (.li tQ))))),(153,(.it .u64)),(179,(.it .u64)),(180,(.li (.it .u64))),(200,(.li (.it .u8)))],
 [(22,40),(23,40),(26,24),(27,24),(87,24),(103,8),(180,8),(200,1)],
 [(8,[.d (.ag (.li tQ)), .d (.li (.li tQ)), .d (.li tQ)]),(13,[.d (.ag (.li tQ))]),(14,[.d (.ag (.li tQ)), .d (.li (.li tQ))]),(15,[.d (.ag (.li tQ))]),(16,[]),(17,[.d (.ag (.li tQ)), .d (.li (.li tQ))]),(18,[.d (.li tQ), .d (.li tQ)]),(20,[.d (.li tQ), .d (.li tQ)]),(21,[.d tQ, .d (.it .i64)]),(22,[.d (.li (.it .i64))]),(26,[.d (.ag (.li tQ)), .d (.li (.li tQ)), .d (.it .i64), .d (.it .i64)]),(28,[.d (.ag (.li tQ)), .d (.li (.li tQ)), .d (.li (.li tQ))]),(29,[.d (.li (.li tQ)), .d (.li (.li tQ))]),(30,[.d (.ag (.li tQ)), .d (.li (.li tQ)), .d (.li (.li tQ))]),(31,[.d (.ag (.li tQ)), .d (.li (.li tQ)), .d (.li (.li tQ))]),(45,[.d (.li tQ), .d (.li tQ)]),(48,[.d (.li tQ)]),(49,[.d (.ag (.li tQ)), .d (.li tQ)]),(50,[.d (.ag (.li tQ)), .d (.li (.li tQ)), .d (.li tQ)]),(51,[.d (.li tQ), .d (.li tQ)]),(52,[.d (.ag (.li tQ)), .d (.li (.li tQ)), .d (.li tQ)]),(53,[.d (.ag (.li tQ)), .d (.li (.li tQ)), .d (.li (.li tQ))]),(55,[.d (.ag (.li tQ)), .d (.li tQ)]),(69,[.d (.li tQ)]),(70,[.d (.li tQ), .d (.it .i64)]),(79,[.d (.ag (.li tQ)), .d (.it .i64)]),(80,[.d (.li tQ)]),(81,[.d (.it .i64)]),(82,[.d tQ]),(83,[.d (.ag (.li tQ)), .d (.li (.li (.li tQ)))]),(84,[.d (.li tQ), .d (.li tQ)]),(85,[.d (.ag (.li tQ)), .d (.li (.li tQ)), .d (.li tQ)]),(86,[.d (.li (.it .i64))]),(87,[.d tQ, .d tQ]),(88,[.d tQ, .d tQ]),(89,[.d (.it .i64)]),(90,[.d (.li tQ), .d (.li tQ)]),(91,[.d (.li tQ), .d (.li tQ)]),(92,[.d (.li tQ)]),(93,[.d (.li tQ)]),(98,[.d (.li tQ), .d tQ]),(99,[.d tQ, .d tQ]),(101,[.d tQ, .d tQ]),(102,[.d (.li tQ), .d (.it .i64)]),(104,[.d (.li (.li tQ))]),(106,[.d (.li tQ), .d (.li tQ)]),(107,[.d (.ag (.li tQ)), .d (.li (.li tQ)), .d (.li (.li tQ)), .d (.li tQ)]),(108,[.d (.li (.li tQ))]),(109,[.d (.ag (.li tQ)), .d (.li tQ)]),(110,[.d (.ag (.li tQ)), .d (.li (.li tQ))]),(111,[.fn]),(112,[]),(118,[.d tQ, .d tQ]),(119,[.d (.ag (.li tQ))]),(120,[.d (.li tQ)]),(122,[.d (.li (.li tQ))]),(123,[.d tQ]),(124,[.d (.ag (.li tQ)), .d (.li tQ)]),(125,[]),(126,[.d (.li (.li tQ)), .d (.li (.li tQ))]),(127,[.d (.ag (.li tQ)), .d (.li (.li tQ)), .d (.li (.li tQ))]),(128,[.d (.li (.li tQ))]),(129,[]),(131,[.d (.ag (.li tQ)), .d (.li (.li tQ)), .d (.li tQ)]),(135,[.d tQ]),(137,[.d (.li tQ), .d tQ]),(138,[.d (.ag (.li tQ)), .d (.li (.li tQ))]),(141,[.d (.it .i64)]),(142,[.d tQ, .d tQ]),(143,[.d tQ, .d (.it .i64)]),(144,[.d (.li tQ), .d (.li tQ)]),(145,[.d tQ]),(146,[.d (.li tQ), .d (.li tQ), .d (.li tQ)]),(147,[.d tQ]),(148,[.d tQ, .d tQ]),(149,[.d (.ag (.pr .bo .st))]),(150,[.d (.it .i64)]),(151,[.d (.li tQ), .d (.it .i64)]),(152,[.d tQ]),(153,[.d (.li tQ), .fn]),(154,[.d tQ]),(157,[.d tQ]),(159,[.d (.ag (.pr .bo .st))]),(160,[.d (.ag (.pr .bo .st)), .d (.ag (.pr .bo .st))]),(161,[.d (.ag (.pr .bo .st)), .d (.ag (.pr .bo .st))]),(162,[.d tQ]),(163,[.d (.ag (.pr .bo .st)), .d (.ag (.pr .bo .st))]),(165,[.d (.li tQ), .d (.li tQ)]),(166,[.d (.li tQ), .d (.li tQ)]),(167,[.d (.li tQ), .d (.li tQ)]),(170,[.d tQ]),(171,[.d tQ]),(172,[.d tQ]),(173,[.d (.ag (.pr .bo .st))]),(174,[.d (.li (.li tQ)), .d (.it .i64)]),(175,[.d (.li (.li tQ)), .fn]),(176,[.d (.li tQ)]),(177,[.d (.ag (.pr .bo .st))]),(178,[.d .st]),(179,[.d tQ]),(180,[.d .st, .d .st]),(183,[.d (.it .u64)]),(184,[.d (.ag (.pr .bo .st)), .d (.ag (.pr .bo .st))]),(185,[.d (.ag (.pr .bo .st)), .d (.ag (.pr .bo .st))]),(186,[.d .st, .d .st]),(187,[.d (.ag (.pr .bo .st)), .d (.it .i64)]),(188,[.d .st, .d (.it .i64)]),(189,[.d (.li tQ)]),(190,[.d (.ag (.pr .bo .st))]),(191,[.d (.ag (.pr .bo .st)), .d (.ag (.pr .bo .st))]),(192,[.d .bo, .d .st]),(193,[.d (.it .u64)]),(194,[.d (.li tQ), .fn]),(198,[.d .bo, .d .st]),(199,[.d .st, .d .st]),(200,[.d .st, .d .st]),(201,[.d .st, .d .st]),(202,[.d .st, .d .st]),(203,[.d .st, .d .st]),(210,[.d (.li tQ), .d (.li tQ)]),(213,[.d (.ag (.pr .bo .st))]),(214,[.d .st]),(215,[.d .st, .d .st]),(216,[.d (.li (.li tQ)), .fn]),(217,[.d (.ag (.pr .bo .st))]),(218,[.d .st]),(221,[.d (.li (.it .u64))]),(222,[.d .st, .d .st]),(223,[.d (.li (.it .u64))]),(224,[.d (.li (.it .u64)), .d (.li (.it .u64))]),(225,[.d .st]),(226,[.d .st, .d .st]),(227,[.d .st, .d .st]),(228,[.d .st, .d .st]),(229,[.d .st]),(230,[.bor, .d (.li (.it .u64))]),(243,[]),(244,[.d (.li (.it .u64)), .d (.li (.it .u64))]),(245,[.bor]),(246,[.d (.it .u64), .d (.it .u64)]),(247,[.d (.it .u64), .d (.it .u64), .d (.it .u64)]),(248,[.d (.it .u64), .d (.it .u64), .d (.it .u64)]),(249,[.bor]),(276,[.d (.li (.it .u64)), .d (.li (.it .u64))]),(277,[.d (.it .u64), .d (.it .u64), .d (.it .u64)]),(278,[.d (.it .u64)]),(279,[.d (.li (.it .u64)), .d (.it .i64)]),(280,[.bor, .d (.li (.it .u64))]),(297,[.d (.it .u64)])],
 [(8,[.d .bo]),(13,[.d (.it .i64)]),(14,[.d (.it .i64)]),(15,[.d (.it .i64)]),(16,[.d .bo]),(17,[.d (.li tQ), .d (.it .i64)]),(18,[.d .bo]),(20,[.d (.li tQ)]),(21,[.d (.li tQ)]),(22,[.d (.li tQ)]),(26,[.d .bo]),(28,[.d (.li (.li tQ)), .d (.li (.li tQ)), .d (.it .i64)]),(29,[.d .bo]),(30,[.d (.li (.li tQ))]),(31,[.d (.li (.li tQ)), .d (.it .i64)]),(45,[.d (.li tQ)]),(48,[.d (.li tQ)]),(49,[.d .bo]),(50,[.d (.li (.li tQ)), .d (.it .i64)]),(51,[.d (.li tQ)]),(52,[.d (.li tQ), .d (.it .i64)]),(53,[.d (.li (.li tQ)), .d (.it .i64)]),(55,[.d (.it .i64)]),(69,[.d (.it .i64)]),(70,[.d .bo]),(79,[.d .bo]),(80,[.d tQ]),(81,[.d tQ]),(82,[.d .bo]),(83,[.d (.it .i64)]),(84,[.d tQ]),(85,[.d (.li tQ)]),(86,[.d (.li tQ)]),(87,[.d tQ]),(88,[.d tQ]),(89,[.d tQ]),(90,[.d (.li tQ)]),(91,[.d (.li tQ)]),(92,[.d (.li tQ)]),(93,[.d .bo]),(98,[.d (.li tQ)]),(99,[.d tQ]),(101,[.d tQ]),(102,[.d tQ]),(104,[.d (.li (.li tQ))]),(106,[.d (.li tQ), .d .bo]),(107,[.d (.li (.li tQ)), .d (.li (.li tQ))]),(108,[.d .bo]),(109,[.d (.li tQ)]),(110,[.d (.li (.li tQ)), .d .bo]),(111,[.d (.li (.li tQ)), .d (.it .i64)]),(112,[.d (.li (.li tQ))]),(118,[.d tQ]),(119,[.d (.it .i64)]),(120,[.d (.it .i64)]),(122,[.d (.li (.li tQ))]),(123,[.d (.it .i64)]),(124,[.d (.it .i64)]),(125,[.d (.li (.li tQ))]),(126,[.d (.li (.li tQ))]),(127,[.d (.li (.li tQ))]),(128,[.d .bo]),(129,[.d (.li (.li tQ))]),(131,[.d (.li (.li tQ))]),(135,[.d (.it .i64)]),(137,[.d (.li tQ)]),(138,[.d (.it .i64)]),(141,[.d (.ag (.pr .bo .st))]),(142,[.d tQ]),(143,[.d tQ]),(144,[.d (.li tQ), .d (.li tQ)]),(145,[.d tQ]),(146,[.d (.li tQ)]),(147,[.d tQ]),(148,[.d tQ]),(149,[.d tQ]),(150,[.d (.ag (.pr .bo .st))]),(151,[.d tQ]),(152,[.d .bo]),(153,[.d .bo]),(154,[.d .bo]),(157,[.d tQ]),(159,[.d tQ]),(160,[.d (.ag (.pr .bo .st))]),(161,[.d (.ag (.pr .bo .st))]),(162,[.d (.ag (.pr .bo .st))]),(163,[.d tQ]),(165,[.d (.li tQ)]),(166,[.d (.li tQ)]),(167,[.d (.li tQ)]),(170,[.d .bo]),(171,[.d .bo]),(172,[.d (.it .i64)]),(173,[.d (.it .i64)]),(174,[.d (.li tQ)]),(175,[.d .bo]),(176,[.d .bo]),(177,[.d .bo]),(178,[.d .bo]),(179,[.d (.it .i64)]),(180,[.d .st]),(183,[.d .st]),(184,[.d (.ag (.pr .bo .st))]),(185,[.d tQ]),(186,[.d .st]),(187,[.d (.ag (.pr .bo .st))]),(188,[.d .st]),(189,[.own tQ]),(190,[.d (.ag (.pr .bo .st))]),(191,[.d (.ag (.pr .bo .st))]),(192,[.d (.ag (.pr .bo .st))]),(193,[.d .st]),(194,[.d (.it .i64)]),(198,[.d (.ag (.pr .bo .st))]),(199,[.d .st]),(200,[.d (.it .i64)]),(201,[.d .st]),(202,[.d .st]),(203,[.d .st, .d .st]),(210,[.d (.li tQ), .d (.li tQ)]),(213,[.d (.it .i64)]),(214,[.d (.it .i64)]),(215,[.d .st]),(216,[.d (.it .i64)]),(217,[.d (.it .i64)]),(218,[.d (.it .i64)]),(221,[.d .st]),(222,[.d .st, .d .st]),(223,[.d .st]),(224,[.d (.li (.it .u64))]),(225,[.own (.it .u64)]),(226,[.d .st]),(227,[.d (.it .i64)]),(228,[.d .st]),(229,[.own (.it .u64)]),(230,[.d .bo]),(243,[.d (.ag (.pr .bo .st))]),(244,[.d (.li (.it .u64)), .d (.li (.it .u64))]),(245,[.sh]),(246,[.d (.it .u64), .d (.it .u64)]),(247,[.d (.it .u64), .d (.it .u64)]),(248,[.d (.it .u64), .d (.it .u64)]),(249,[.sh]),(276,[.d (.it .i64)]),(277,[.d (.it .u64), .d (.it .u64)]),(278,[.d (.it .i64)]),(279,[.own (.it .u64)]),(280,[.d (.it .u64)]),(297,[.d (.it .i64)])],
 [],[],[]⟩
abbrev R8:Type:=Bool
noncomputable def D8:FD:=⟨8,Tryz.f8,108,⟨[],[],[]⟩,⟨[(0, .d (.ag (.li tQ))),(1, .d (.li (.li tQ))),(2, .d (.li tQ))],[]⟩,⟨[(0, .d .bo)],[]⟩,[.d .bo],R8,fun o=>((o,()),()),fun s=>s.1.1⟩
noncomputable def fe8 (F:TP→TF→TP→Option R8):FE:=D8.fe fun s=>F s.1.1 s.1.2.1 s.1.2.2.1
abbrev Z8:Type:=Int
noncomputable def D13:FD:=⟨13,Tryz.f13,37,⟨[(7,[(1, .any),(24, .any),(25, .any),(26, .any)])],[],[]⟩,⟨[(0, .d (.ag (.li tQ)))],[]⟩,⟨[(0, .d (.it .i64))],[]⟩,[.d (.it .i64)],Z8,fun o=>((o,()),()),fun s=>s.1.1⟩
noncomputable def B5E (F:TP→Option Z8):FE:=D13.fe fun s=>F s.1.1
abbrev R14:Type:=Int
noncomputable def D14:FD:=⟨14,Tryz.f14,42,⟨[(7,[(1, .any),(2, .any),(16, .any),(17, .any),(18, .any)])],[],[]⟩,⟨[(0, .d (.ag (.li tQ))),(1, .d (.li (.li tQ)))],[]⟩,⟨[(0, .d (.it .i64))],[]⟩,[.d (.it .i64)],R14,fun o=>((o,()),()),fun s=>s.1.1⟩
noncomputable def D1B (F:TP→TF→Option R14):FE:=D14.fe fun s=>F s.1.1 s.1.2.1
abbrev R15:Type:=Int
noncomputable def D15:FD:=⟨15,Tryz.f15,7,⟨[],[],[]⟩,⟨[(0, .d (.ag (.li tQ)))],[]⟩,⟨[(0, .d (.it .i64))],[]⟩,[.d (.it .i64)],R15,fun o=>((o,()),()),fun s=>s.1.1⟩
noncomputable def B9B (F:TP→Option R15):FE:=D15.fe fun s=>F s.1.1
abbrev R16:Type:=Bool
noncomputable def D16:FD:=⟨16,Tryz.f16,146,⟨[],[],[]⟩,⟨[],[]⟩,⟨[(0, .d .bo)],[]⟩,[.d .bo],R16,fun o=>((o,()),()),fun s=>s.1.1⟩
noncomputable def D2K (F:Option R16):FE:=D16.fe fun s=>F
abbrev R6:Type:=(TP×Int)
noncomputable def D17:FD:=⟨17,Tryz.f17,103,⟨[(11,[(1, .any),(2, .any),(7, .any),(8, .any),(38, .any),(39, .any)]),(16,[(7, .any),(8, .any),(10, .any)]),(19,[(7, .any),(8, .any),(10, .any),(11, .any)]),(24,[(8, .any),(12, .val (.li tQ)),(13, .any)])],[],[]⟩,⟨[(0, .d (.ag (.li tQ))),(1, .d (.li (.li tQ)))],[]⟩,⟨[(0, .d (.li tQ)),(1, .d (.it .i64))],[]⟩,[.d (.li tQ), .d (.it .i64)],R6,fun o=>((o.1,o.2,()),()),fun s=>(s.1.1,s.1.2.1)⟩
noncomputable def D2z (F:TP→TF→Option R6):FE:=D17.fe fun s=>F s.1.1 s.1.2.1
abbrev t6:Type:=Bool
noncomputable def D18:FD:=⟨18,Tryz.f18,26,⟨[(4,[(0, .any),(1, .any),(12, .any),(13, .any)])],[],[]⟩,⟨[(0, .d (.li tQ)),(1, .d (.li tQ))],[]⟩,⟨[(0, .d .bo)],[]⟩,[.d .bo],t6,fun o=>((o,()),()),fun s=>s.1.1⟩
noncomputable def B8E (F:TP→TP→Option t6):FE:=D18.fe fun s=>F s.1.1 s.1.2.1
abbrev Z6:Type:=TP
noncomputable def D20:FD:=⟨20,Tryz.f20,28,⟨[(3,[(0, .any),(1, .any),(5, .own tQ),(6, .any)])],[],[]⟩,⟨[(0, .d (.li tQ)),(1, .d (.li tQ))],[]⟩,⟨[(0, .d (.li tQ))],[]⟩,[.d (.li tQ)],Z6,fun o=>((o,()),()),fun s=>s.1.1⟩
noncomputable def B4E (F:TP→TP→Option Z6):FE:=D20.fe fun s=>F s.1.1 s.1.2.1
abbrev R21:Type:=TP
noncomputable def D21:FD:=⟨21,Tryz.f21,21,⟨[(3,[(1, .any),(2, .any),(5, .own tQ),(6, .any)])],[],[]⟩,⟨[(0, .d tQ),(1, .d (.it .i64))],[]⟩,⟨[(0, .d (.li tQ))],[]⟩,[.d (.li tQ)],R21,fun o=>((o,()),()),fun s=>s.1.1⟩
noncomputable def D7V (F:TQ→Int→Option R21):FE:=D21.fe fun s=>F s.1.1 s.1.2.1
abbrev R22:Type:=TP
noncomputable def D22:FD:=⟨22,Tryz.f22,20,⟨[(3,[(3, .own tQ),(6, .any),(7, .any),(8, .any)])],[],[]⟩,⟨[(0, .d (.li (.it .i64)))],[]⟩,⟨[(0, .d (.li tQ))],[]⟩,[.d (.li tQ)],R22,fun o=>((o,()),()),fun s=>s.1.1⟩
noncomputable def D6R (F:(List Int)→Option R22):FE:=D22.fe fun s=>F s.1.1
abbrev R26:Type:=Bool
noncomputable def D26:FD:=⟨26,Tryz.f26,39,⟨[(4,[(4, .any),(28, .any),(29, .any),(30, .any)])],[],[]⟩,⟨[(0, .d (.ag (.li tQ))),(1, .d (.li (.li tQ))),(2, .d (.it .i64)),(3, .d (.it .i64))],[]⟩,⟨[(0, .d .bo)],[]⟩,[.d .bo],R26,fun o=>((o,()),()),fun s=>s.1.1⟩
noncomputable def D4r (F:TP→TF→Int→Int→Option R26):FE:=D26.fe fun s=>F s.1.1 s.1.2.1 s.1.2.2.1 s.1.2.2.2.1
abbrev R28:Type:=(TF×TF×Int)
noncomputable def D28:FD:=⟨28,Tryz.f28,55,⟨[],[],[]⟩,⟨[(0, .d (.ag (.li tQ))),(1, .d (.li (.li tQ))),(2, .d (.li (.li tQ)))],[]⟩,⟨[(0, .d (.li (.li tQ))),(1, .d (.li (.li tQ))),(2, .d (.it .i64))],[]⟩,[.d (.li (.li tQ)), .d (.li (.li tQ)), .d (.it .i64)],R28,fun o=>((o.1,o.2.1,o.2.2,()),()),fun s=>(s.1.1,s.1.2.1,s.1.2.2.1)⟩
noncomputable def D3k (F:TP→TF→TF→Option R28):FE:=D28.fe fun s=>F s.1.1 s.1.2.1 s.1.2.2.1
abbrev R29:Type:=Bool
noncomputable def D29:FD:=⟨29,Tryz.f29,27,⟨[(4,[(0, .any),(1, .any),(12, .any),(13, .any)])],[],[]⟩,⟨[(0, .d (.li (.li tQ))),(1, .d (.li (.li tQ)))],[]⟩,⟨[(0, .d .bo)],[]⟩,[.d .bo],R29,fun o=>((o,()),()),fun s=>s.1.1⟩
noncomputable def C5s (F:TF→TF→Option R29):FE:=D29.fe fun s=>F s.1.1 s.1.2.1
abbrev u7:Type:=TF
noncomputable def D30:FD:=⟨30,Tryz.f30,60,⟨[(3,[(1, .any),(2, .any),(3, .any),(7, .own (.li tQ)),(8, .any)]),(7,[(1, .any),(2, .any),(3, .any),(7, .any),(8, .any),(9, .val (.li tQ)),(22, .any),(23, .any)])],[],[]⟩,⟨[(0, .d (.ag (.li tQ))),(1, .d (.li (.li tQ))),(2, .d (.li (.li tQ)))],[]⟩,⟨[(0, .d (.li (.li tQ)))],[]⟩,[.d (.li (.li tQ))],u7,fun o=>((o,()),()),fun s=>s.1.1⟩
noncomputable def D5o (F:TP→TF→TF→Option u7):FE:=D30.fe fun s=>F s.1.1 s.1.2.1 s.1.2.2.1
abbrev R31:Type:=(TF×Int)
noncomputable def D31:FD:=⟨31,Tryz.f31,66,⟨[(5,[(3, .any),(9, .any)])],[],[]⟩,⟨[(0, .d (.ag (.li tQ))),(1, .d (.li (.li tQ))),(2, .d (.li (.li tQ)))],[]⟩,⟨[(0, .d (.li (.li tQ))),(1, .d (.it .i64))],[]⟩,[.d (.li (.li tQ)), .d (.it .i64)],R31,fun o=>((o.1,o.2,()),()),fun s=>(s.1.1,s.1.2.1)⟩
noncomputable def D8q (F:TP→TF→TF→Option R31):FE:=D31.fe fun s=>F s.1.1 s.1.2.1 s.1.2.2.1
abbrev g8:Type:=TP
noncomputable def D45:FD:=⟨45,Tryz.f45,57,⟨[(3,[(0, .any),(1, .any),(5, .own tQ),(6, .any)]),(7,[(0, .any),(1, .any),(5, .any),(6, .any),(7, .any),(21, .any),(22, .any)])],[],[]⟩,⟨[(0, .d (.li tQ)),(1, .d (.li tQ))],[]⟩,⟨[(0, .d (.li tQ))],[]⟩,[.d (.li tQ)],g8,fun o=>((o,()),()),fun s=>s.1.1⟩
noncomputable def C4A (F:TP→TP→Option g8):FE:=D45.fe fun s=>F s.1.1 s.1.2.1
abbrev T8:Type:=TP
noncomputable def D48:FD:=⟨48,Tryz.f48,24,⟨[(2,[(0, .any),(3, .any)])],[],[]⟩,⟨[(0, .d (.li tQ))],[]⟩,⟨[(0, .d (.li tQ))],[]⟩,[.d (.li tQ)],T8,fun o=>((o,()),()),fun s=>s.1.1⟩
noncomputable def A8A (F:TP→Option T8):FE:=D48.fe fun s=>F s.1.1
abbrev R49:Type:=Bool
noncomputable def D49:FD:=⟨49,Tryz.f49,21,⟨[],[],[]⟩,⟨[(0, .d (.ag (.li tQ))),(1, .d (.li tQ))],[]⟩,⟨[(0, .d .bo)],[]⟩,[.d .bo],R49,fun o=>((o,()),()),fun s=>s.1.1⟩
noncomputable def C9Z (F:TP→TP→Option R49):FE:=D49.fe fun s=>F s.1.1 s.1.2.1
abbrev R50:Type:=(TF×Int)
noncomputable def D50:FD:=⟨50,Tryz.f50,27,⟨[],[],[]⟩,⟨[(0, .d (.ag (.li tQ))),(1, .d (.li (.li tQ))),(2, .d (.li tQ))],[]⟩,⟨[(0, .d (.li (.li tQ))),(1, .d (.it .i64))],[]⟩,[.d (.li (.li tQ)), .d (.it .i64)],R50,fun o=>((o.1,o.2,()),()),fun s=>(s.1.1,s.1.2.1)⟩
noncomputable def C1X (F:TP→TF→TP→Option R50):FE:=D50.fe fun s=>F s.1.1 s.1.2.1 s.1.2.2.1
abbrev R51:Type:=TP
noncomputable def D51:FD:=⟨51,Tryz.f51,10,⟨[],[],[]⟩,⟨[(0, .d (.li tQ)),(1, .d (.li tQ))],[]⟩,⟨[(0, .d (.li tQ))],[]⟩,[.d (.li tQ)],R51,fun o=>((o,()),()),fun s=>s.1.1⟩
noncomputable def C7z (F:TP→TP→Option R51):FE:=D51.fe fun s=>F s.1.1 s.1.2.1
abbrev R52:Type:=(TP×Int)
noncomputable def D52:FD:=⟨52,Tryz.f52,32,⟨[],[],[]⟩,⟨[(0, .d (.ag (.li tQ))),(1, .d (.li (.li tQ))),(2, .d (.li tQ))],[]⟩,⟨[(0, .d (.li tQ)),(1, .d (.it .i64))],[]⟩,[.d (.li tQ), .d (.it .i64)],R52,fun o=>((o.1,o.2,()),()),fun s=>(s.1.1,s.1.2.1)⟩
noncomputable def D6F (F:TP→TF→TP→Option R52):FE:=D52.fe fun s=>F s.1.1 s.1.2.1 s.1.2.2.1
abbrev R53:Type:=(TF×Int)
noncomputable def D53:FD:=⟨53,Tryz.f53,21,⟨[],[],[]⟩,⟨[(0, .d (.ag (.li tQ))),(1, .d (.li (.li tQ))),(2, .d (.li (.li tQ)))],[]⟩,⟨[(0, .d (.li (.li tQ))),(1, .d (.it .i64))],[]⟩,[.d (.li (.li tQ)), .d (.it .i64)],R53,fun o=>((o.1,o.2,()),()),fun s=>(s.1.1,s.1.2.1)⟩
noncomputable def D3o (F:TP→TF→TF→Option R53):FE:=D53.fe fun s=>F s.1.1 s.1.2.1 s.1.2.2.1
abbrev R55:Type:=Int
noncomputable def D55:FD:=⟨55,Tryz.f55,23,⟨[],[],[]⟩,⟨[(0, .d (.ag (.li tQ))),(1, .d (.li tQ))],[]⟩,⟨[(0, .d (.it .i64))],[]⟩,[.d (.it .i64)],R55,fun o=>((o,()),()),fun s=>s.1.1⟩
noncomputable def D1c (F:TP→TP→Option R55):FE:=D55.fe fun s=>F s.1.1 s.1.2.1
abbrev s9:Type:=Int
noncomputable def D69:FD:=⟨69,Tryz.f69,34,⟨[(4,[(0, .any),(9, .any),(10, .any),(11, .any)])],[],[]⟩,⟨[(0, .d (.li tQ))],[]⟩,⟨[(0, .d (.it .i64))],[]⟩,[.d (.it .i64)],s9,fun o=>((o,()),()),fun s=>s.1.1⟩
noncomputable def B8g (F:TP→Option s9):FE:=D69.fe fun s=>F s.1.1
abbrev R70:Type:=Bool
noncomputable def D70:FD:=⟨70,Tryz.f70,35,⟨[(4,[(17, .any),(18, .any),(19, .any)])],[],[]⟩,⟨[(0, .d (.li tQ)),(1, .d (.it .i64))],[]⟩,⟨[(0, .d .bo)],[]⟩,[.d .bo],R70,fun o=>((o,()),()),fun s=>s.1.1⟩
noncomputable def D0p (F:TP→Int→Option R70):FE:=D70.fe fun s=>F s.1.1 s.1.2.1
abbrev R79:Type:=Bool
noncomputable def D79:FD:=⟨79,Tryz.f79,31,⟨[(4,[(19, .any),(20, .any),(21, .any)])],[],[]⟩,⟨[(0, .d (.ag (.li tQ))),(1, .d (.it .i64))],[]⟩,⟨[(0, .d .bo)],[]⟩,[.d .bo],R79,fun o=>((o,()),()),fun s=>s.1.1⟩
noncomputable def D4q (F:TP→Int→Option R79):FE:=D79.fe fun s=>F s.1.1 s.1.2.1
abbrev R80:Type:=TQ
noncomputable def D80:FD:=⟨80,Tryz.f80,13,⟨[],[],[]⟩,⟨[(0, .d (.li tQ))],[]⟩,⟨[(0, .d tQ)],[]⟩,[.d tQ],R80,fun o=>(((o.1,o.2),()),()),fun s=>(s.1.1.1,s.1.1.2)⟩
noncomputable def C4V (F:TP→Option R80):FE:=D80.fe fun s=>F s.1.1
abbrev Y1:Type:=TQ
noncomputable def D81:FD:=⟨81,Tryz.f81,6,⟨[],[],[]⟩,⟨[(0, .d (.it .i64))],[]⟩,⟨[(0, .d tQ)],[]⟩,[.d tQ],Y1,fun o=>(((o.1,o.2),()),()),fun s=>(s.1.1.1,s.1.1.2)⟩
noncomputable def A5t (F:Int→Option Y1):FE:=D81.fe fun s=>F s.1.1
abbrev R82:Type:=Bool
noncomputable def D82:FD:=⟨82,Tryz.f82,6,⟨[],[],[]⟩,⟨[(0, .d tQ)],[]⟩,⟨[(0, .d .bo)],[]⟩,[.d .bo],R82,fun o=>((o,()),()),fun s=>s.1.1⟩
noncomputable def D2W (F:TQ→Option R82):FE:=D82.fe fun s=>F s.1.1
abbrev U3:Type:=Int
noncomputable def D83:FD:=⟨83,Tryz.f83,27,⟨[(5,[(2, .any),(14, .any),(15, .any),(16, .any)])],[],[]⟩,⟨[(0, .d (.ag (.li tQ))),(1, .d (.li (.li (.li tQ))))],[]⟩,⟨[(0, .d (.it .i64))],[]⟩,[.d (.it .i64)],U3,fun o=>((o,()),()),fun s=>s.1.1⟩
noncomputable def A6z (F:TP→(List TF)→Option U3):FE:=D83.fe fun s=>F s.1.1 s.1.2.1
abbrev R84:Type:=TQ
noncomputable def D84:FD:=⟨84,Tryz.f84,70,⟨[(2,[(0, .any),(1, .any),(4, .any),(5, .any)])],[],[]⟩,⟨[(0, .d (.li tQ)),(1, .d (.li tQ))],[]⟩,⟨[(0, .d tQ)],[]⟩,[.d tQ],R84,fun o=>(((o.1,o.2),()),()),fun s=>(s.1.1.1,s.1.1.2)⟩
noncomputable def D6w (F:TP→TP→Option R84):FE:=D84.fe fun s=>F s.1.1 s.1.2.1
abbrev R85:Type:=TP
noncomputable def D85:FD:=⟨85,Tryz.f85,27,⟨[(3,[(1, .any),(2, .any),(3, .any),(7, .val (.li tQ)),(8, .any)])],[],[]⟩,⟨[(0, .d (.ag (.li tQ))),(1, .d (.li (.li tQ))),(2, .d (.li tQ))],[]⟩,⟨[(0, .d (.li tQ))],[]⟩,[.d (.li tQ)],R85,fun o=>((o,()),()),fun s=>s.1.1⟩
noncomputable def C8s (F:TP→TF→TP→Option R85):FE:=D85.fe fun s=>F s.1.1 s.1.2.1 s.1.2.2.1
abbrev d7:Type:=TP
noncomputable def D86:FD:=⟨86,Tryz.f86,24,⟨[(3,[(3, .any),(9, .any),(10, .any),(11, .any)])],[],[]⟩,⟨[(0, .d (.li (.it .i64)))],[]⟩,⟨[(0, .d (.li tQ))],[]⟩,[.d (.li tQ)],d7,fun o=>((o,()),()),fun s=>s.1.1⟩
noncomputable def B3y (F:(List Int)→Option d7):FE:=D86.fe fun s=>F s.1.1
abbrev R87:Type:=TQ
noncomputable def D87:FD:=⟨87,Tryz.f87,9,⟨[],[],[]⟩,⟨[(0, .d tQ),(1, .d tQ)],[]⟩,⟨[(0, .d tQ)],[]⟩,[.d tQ],R87,fun o=>(((o.1,o.2),()),()),fun s=>(s.1.1.1,s.1.1.2)⟩
noncomputable def D6t (F:TQ→TQ→Option R87):FE:=D87.fe fun s=>F s.1.1 s.1.2.1
abbrev R88:Type:=TQ
noncomputable def D88:FD:=⟨88,Tryz.f88,9,⟨[],[],[]⟩,⟨[(0, .d tQ),(1, .d tQ)],[]⟩,⟨[(0, .d tQ)],[]⟩,[.d tQ],R88,fun o=>(((o.1,o.2),()),()),fun s=>(s.1.1.1,s.1.1.2)⟩
noncomputable def B9P (F:TQ→TQ→Option R88):FE:=D88.fe fun s=>F s.1.1 s.1.2.1
abbrev Y7:Type:=TQ
noncomputable def D89:FD:=⟨89,Tryz.f89,6,⟨[],[],[]⟩,⟨[(0, .d (.it .i64))],[]⟩,⟨[(0, .d tQ)],[]⟩,[.d tQ],Y7,fun o=>(((o.1,o.2),()),()),fun s=>(s.1.1.1,s.1.1.2)⟩
noncomputable def A5s (F:Int→Option Y7):FE:=D89.fe fun s=>F s.1.1
abbrev g7:Type:=TP
noncomputable def D90:FD:=⟨90,Tryz.f90,31,⟨[(3,[(0, .any),(1, .any),(5, .any),(14, .any),(15, .any)])],[],[]⟩,⟨[(0, .d (.li tQ)),(1, .d (.li tQ))],[]⟩,⟨[(0, .d (.li tQ))],[]⟩,[.d (.li tQ)],g7,fun o=>((o,()),()),fun s=>s.1.1⟩
noncomputable def B4I (F:TP→TP→Option g7):FE:=D90.fe fun s=>F s.1.1 s.1.2.1
abbrev P1:Type:=TP
noncomputable def D91:FD:=⟨91,Tryz.f91,71,⟨[(5,[(0, .any),(1, .any),(5, .any),(27, .any),(28, .any)]),(10,[(1, .any),(5, .any),(36, .any),(37, .any),(38, .any)]),(14,[(1, .any),(5, .any),(7, .any),(8, .any),(36, .any),(37, .any),(38, .any),(45, .any),(46, .any),(47, .any)])],[],[]⟩,⟨[(0, .d (.li tQ)),(1, .d (.li tQ))],[]⟩,⟨[(0, .d (.li tQ))],[]⟩,[.d (.li tQ)],P1,fun o=>((o,()),()),fun s=>s.1.1⟩
noncomputable def B4J (F:TP→TP→Option P1):FE:=D91.fe fun s=>F s.1.1 s.1.2.1
abbrev R7:Type:=TP
noncomputable def D92:FD:=⟨92,Tryz.f92,22,⟨[(2,[(0, .any),(3, .any)])],[],[]⟩,⟨[(0, .d (.li tQ))],[]⟩,⟨[(0, .d (.li tQ))],[]⟩,[.d (.li tQ)],R7,fun o=>((o,()),()),fun s=>s.1.1⟩
noncomputable def A5x (F:TP→Option R7):FE:=D92.fe fun s=>F s.1.1
abbrev R93:Type:=Bool
noncomputable def D93:FD:=⟨93,Tryz.f93,10,⟨[],[],[]⟩,⟨[(0, .d (.li tQ))],[]⟩,⟨[(0, .d .bo)],[]⟩,[.d .bo],R93,fun o=>((o,()),()),fun s=>s.1.1⟩
noncomputable def D5r (F:TP→Option R93):FE:=D93.fe fun s=>F s.1.1
abbrev R98:Type:=TP
end Go.Proofs.YtijohnkgomcdbaaGreatV
