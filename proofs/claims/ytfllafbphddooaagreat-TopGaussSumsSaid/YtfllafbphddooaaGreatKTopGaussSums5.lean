/- Part of the proof of the statement TopGaussSums: lemmas on the model's steps, Lean functions that say what the program's functions compute, and proofs that the calls do just that. No hypothesis is added. -/
import Derived.Test.YtfllafbphddooaaGreatKTopGaussSums4
set_option linter.all false
set_option maxRecDepth 100000
namespace Go.Proofs.YtfllafbphddooaaGreatV
open Go Go.RowKit Go.Proofs.YtfllafbphddooaaGreat Go.Proofs.YtfllafbphddooaaGreatE Go.Proofs.YtfllafbphddooaaGreatW.PrintWords Go.Proofs.YtfllafbphddooaaGreatW.PrintLast Go.Proofs.YtfllafbphddooaaGreatW.PrintMore
def chI:Bool→Int
  |true=>1
  |false=> -1
def chC:Bool→Nat
  |true=>65
  |false=>63
def eqLT:List RT→List Nat→Bool
  | [],[]=>true
  |r::l,c::cs=>eqRT r (zc c)&&eqLT l cs
  |_,_=>false
theorem eqLT_eq:∀{l:List RT} {c:List Nat},eqLT l c=true→l=c.map zc
  | [],[],_=>rfl
  | r::l,c::cs,h=>by
    unfold eqLT at h
    rw [Bool.and_eq_true]at h
    rw [eqRT_eq h.1,eqLT_eq h.2];rfl
  | [],_::_,h=>by cases h
  |_::_,[],h=>by cases h
def isL (x:Option (List RT)) (c:List Nat):Bool:=match x with|some r=>eqLT r c|none=>false
def isP (x:Option (List RT×Int)) (c:List Nat):Bool:=match x with|some r=>eqLT r.1 c&&decide (r.2=0)|none=>false
theorem isL_eq {x:Option (List RT)} {c:List Nat} (h:isL x c=true):x=some (c.map zc):=by
  unfold isL at h
  split at h
  · rw [eqLT_eq h]
  · cases h
theorem isP_eq {x:Option (List RT×Int)} {c:List Nat} (h:isP x c=true):x=some (c.map zc,0):=by
  unfold isP at h
  split at h
  · next r=>
    rw [Bool.and_eq_true,decide_eq_true_eq]at h
    obtain⟨r1,r2⟩:=r
    rw [show r1=c.map zc from eqLT_eq h.1,show r2=0 from h.2]
  · cases h
def eqN:List Nat→List Nat→Bool
  | [],[]=>true
  |a::l,c::cs=>Nat.beq a c&&eqN l cs
  |_,_=>false
theorem eqN_eq:∀{l c:List Nat},eqN l c=true→l=c
  | [],[],_=>rfl
  | r::l,c::cs,h=>by
    unfold eqN at h
    rw [Bool.and_eq_true]at h
    rw [Nat.eq_of_beq_eq_true h.1,eqN_eq h.2]
  | [],_::_,h=>by cases h
  |_::_,[],h=>by cases h
def isN (x:Option (List Nat)) (c:List Nat):Bool:=match x with|some r=>eqN r c|none=>false
theorem isN_eq {x:Option (List Nat)} {c:List Nat} (h:isN x c=true):x=some c:=by
  unfold isN at h
  split at h
  · rw [eqN_eq h]
  · cases h
def all8 (f:Nat→Bool):Bool:=(List.range 8).all f
theorem at8 {f:Nat→Bool} (h:all8 f=true) {i:Nat} (hi:i<8):f i=true:=List.all_eq_true.1 h i (List.mem_range.2 hi)
def allB (f:Nat→Nat→Bool):Bool:=all8 fun i=>(List.range (pT i-1)).all (f i)
theorem atB {f:Nat→Nat→Bool} (h:allB f=true) {i a:Nat} (hi:i<8) (ha:a<pT i-1):f i a=true:=List.all_eq_true.1 (at8 h hi) a (List.mem_range.2 ha)
def pI (i:Nat):Int:=((pT i:Nat):Int)
def bI (a:Nat):Int:=((a+1:Nat):Int)
theorem f41:all8 (fun i=>isP (FX41 1500 (pI i)) (xT i))=true:=by decide +kernel
theorem f42:all8 (fun i=>isP (FX42 1500 (pI i)) (xT i))=true:=by decide +kernel
theorem f43:all8 (fun i=>isP (FX43 1500 (pI i)) (mT i))=true:=by decide +kernel
theorem f44:all8 (fun i=>decide (FX44 1500 (pI i)=some (stI i,0)))=true:=by decide +kernel
theorem f117:all8 (fun i=>isL (FX117 1500 (pI i)) (mT i))=true:=by decide +kernel
theorem f210:all8 (fun i=>decide (FX210 1500 ((mT i).map zc) [(xT i).map zc,(xT i).map zc]=some 0))=true:=by decide +kernel
theorem f211:all8 (fun i=>isP (FX211 1500 ([stC i].map zc)) [stC i])=true:=by decide +kernel
theorem f40:all8 (fun i=>[mvT i true,mvT i false,[stC i]].all fun l=>decide (FX40 1500 (l.map zc) (l.map zc)=some true))=true:=by decide +kernel
theorem f46:all8 (fun i=>isL (FX46 1500 [stI i]) [stC i])=true:=by decide +kernel
theorem f115:all8 (fun i=>decide (FX115 1500 24 [pI i]=some 0))=true:=by decide +kernel
theorem f116:allB (fun i a=>decide (FX116 1500 (pI i) [bI a]=some 0))=true:=by decide +kernel
theorem f118:all8 (fun i=>decide (FX118 1500 ((mT i).map zc) ((xT i).map zc)=some 0))=true:=by decide +kernel
theorem f119:all8 (fun i=>[true,false].all fun s=>isP (FX119 1500 ((mvT i s).map zc)) (mvT i s))=true:=by decide +kernel
theorem f209:allB (fun i a=>decide (FX209 1500 (bI a) (pI i)=some (bI a)))=true:=by decide +kernel
theorem f47:allB (fun i a=>decide (FX47 1500 (bI a) (pI i)=some (chI (sgT i a),0)))=true:=by decide +kernel
theorem f14:[true,false].all (fun s=>isR (FX14 1500 (chI s)) (chC s))=true:=by decide +kernel
theorem f48:all8 (fun i=>[true,false].all fun s=>isL (FX48 1500 ((xT i).map zc) (zc (chC s))) (mvT i s))=true:=by decide +kernel
theorem f19:decide (FX19 1500=some true)=true:=by decide +kernel
theorem f20:((List.range 256).all fun x=>decide (FX20 1500 (x:Int)=some (pI (x%8))))=true:=by decide +kernel
theorem fsq:all8 (fun i=>isN ((pmulF oc (xT i) (xT i)).bind fun q=>remF oc (mT i) q) [stC i])=true:=by decide +kernel
theorem fval:allB (fun i a=>isN ((remF oc (mT i) (List.replicate (a+1) 64++[65])).bind fun r=>valF oc (mT i) r (xT i).reverse []) (mvT i (sgT i a)))=true:=by decide +kernel
end Go.Proofs.YtfllafbphddooaaGreatV
set_option maxRecDepth 100000
namespace Go.Proofs.YtfllafbphddooaaGreatV
open Go Go.RowKit YtfllafbphddooaaGreat YtfllafbphddooaaGreatE YtfllafbphddooaaGreatW.PrintWords YtfllafbphddooaaGreatW.PrintLast YtfllafbphddooaaGreatW.PrintMore
theorem pT_le (i:Nat):3≤pT i∧pT i≤23:=by
 unfold pT
 match i with
 |0=>exact⟨by decide,by decide⟩
 |1=>exact⟨by decide,by decide⟩
 |2=>exact⟨by decide,by decide⟩
 |3=>exact⟨by decide,by decide⟩
 |4=>exact⟨by decide,by decide⟩
 |5=>exact⟨by decide,by decide⟩
 |6=>exact⟨by decide,by decide⟩
 |7=>exact⟨by decide,by decide⟩
 |n+8=>exact⟨Nat.le_refl 3,show 3≤23 by decide⟩
theorem b_eq {a p:Nat} (ha:a<65536) (hp:3≤p∧p≤23):wrap64 (Int.tmod (wrap64 (a:Int)) (wrap64 ((p:Int)-1))+1)=bI (a%(p-1)):=by
 have h1:a%(p-1)<p-1:=Nat.mod_lt _ (by omega)
 have e:(p:Int)-1=((p-1:Nat):Int):=by omega
 rw [w64_ (x:=(a:Int)) (by omega) (by omega),w64_ (x:=(p:Int)-1) (by omega) (by omega),e,←Int.ofNat_tmod,w64_ (by omega) (by omega)]
 rfl
section
variable {i a:Nat} (hi:i<8) (ha:a<pT i-1)
include hi
theorem q41_:Ev (fun k=>FX41 k (pI i)) ((xT i).map zc,0):=Ev.of (fun k=>m41 k _) (isP_eq (at8 f41 hi))
theorem q42_:Ev (fun k=>FX42 k (pI i)) ((xT i).map zc,0):=Ev.of (fun k=>m42 k _) (isP_eq (at8 f42 hi))
theorem q43_:Ev (fun k=>FX43 k (pI i)) ((mT i).map zc,0):=Ev.of (fun k=>m43 k _) (isP_eq (at8 f43 hi))
theorem q44_:Ev (fun k=>FX44 k (pI i)) (stI i,0):=Ev.of (fun k=>m44 k _) (of_decide_eq_true (at8 f44 hi))
theorem q117_:Ev (fun k=>FX117 k (pI i)) ((mT i).map zc):=Ev.of (fun k=>m117 k _) (isL_eq (at8 f117 hi))
theorem q40_ {l:List Nat} (h:l∈[mvT i true,mvT i false,[stC i]]):Ev (fun k=>FX40 k (l.map zc) (l.map zc)) true:=Ev.of (fun k=>m40 k _ _) (of_decide_eq_true (List.all_eq_true.1 (at8 f40 hi) l h))
theorem q46_:Ev (fun k=>FX46 k [stI i]) ([stC i].map zc):=Ev.of (fun k=>m46 k _) (isL_eq (at8 f46 hi))
theorem q48_ (s:Bool):Ev (fun k=>FX48 k ((xT i).map zc) (zc (chC s))) ((mvT i s).map zc):=Ev.of (fun k=>m48 k _ _) (isL_eq (List.all_eq_true.1 (at8 f48 hi) s (by cases s<;>simp)))
theorem q45_:Ev (fun k=>FX45 k ((mT i).map zc) ((xT i).map zc) ((xT i).map zc)) ([stC i].map zc,0):=by
 show Ev (fun k=>B45 (FX128Mul k) _ _ _) _
 unfold B45
 have e128:Ev (fun k=>FX128Mul k ((mT i).map zc) ((mT i).map zc,(xT i).map zc,(xT i).map zc,()) [(xT i).map zc,(xT i).map zc]) ([stC i].map zc,0):=by
  show Ev (fun k=>B128Mul (FX129 k) (FX210 k) (FX211 k) _ _ _) _
  unfold B128Mul
  refine Ev.bind (Ev.of (fun k=>m210 k _ _) (of_decide_eq_true (at8 f210 hi))) (ev_neg (fun h=>h rfl) (Ev.bind (a:=([stC i].map zc,(0:Int))) ?_ (ev_neg (fun h=>h rfl) (Ev.bind (Ev.of (fun k=>m211 k _) (isP_eq (at8 f211 hi))) (Ev.now _)))))
  show Ev (fun k=>B129 (FX130 k) (FX131 k) _ _ _) _
  unfold B129
  obtain⟨q,hq,hr⟩:=Option.bind_eq_some_iff.1 (isN_eq (at8 fsq hi))
  obtain⟨⟨q2,r⟩,hd,he⟩:=Option.map_eq_some_iff.1 hr
  simp only at he
  subst he
  refine Ev.bind (pmul_ goodC hq) (Ev.bind (a:=[stC i].map zc) ?_ (Ev.now _))
  show Ev (fun k=>B130 (FX212 k) _ _) _
  unfold B130
  exact Ev.bind (pdiv_ goodC hd) (Ev.now _)
 exact Ev.bind e128 (Ev.now _)
include ha
theorem q47_:Ev (fun k=>FX47 k (bI a) (pI i)) (chI (sgT i a),0):=Ev.of (fun k=>m47 k _ _) (of_decide_eq_true (atB f47 hi ha))
theorem q39_:Ev (fun k=>FX39 k (pI i) (bI a) ((xT i).map zc)) ((mvT i (sgT i a)).map zc,0):=by
 show Ev (fun k=>B39 (FX115 k) (FX116 k) (FX117 k) (FX118 k) (FX119 k) (FX120 k) (FX121 k) _ _ _) _
 unfold B39
 obtain⟨r,hr,hv⟩:=Option.bind_eq_some_iff.1 (isN_eq (atB fval hi ha))
 have hp:=pT_le i
 have hx:(xT i).length<1099511627776:=by
  match i,hi with
  |0,_=>decide
  |1,_=>decide
  |2,_=>decide
  |3,_=>decide
  |4,_=>decide
  |5,_=>decide
  |6,_=>decide
  |7,_=>decide
 have hres:Ev (fun k=>FX209 k (bI a) (pI i)) ((a+1:Nat):Int):=Ev.of (fun k=>m209 k _ _) (of_decide_eq_true (atB f209 hi ha))
 exact Ev.bind (Ev.of (fun k=>m115 k _ _) (of_decide_eq_true (at8 f115 hi))) (ev_neg (fun h=>h rfl)
  (Ev.bind (Ev.of (fun k=>m116 k _ _) (of_decide_eq_true (atB f116 hi ha))) (ev_neg (fun h=>h rfl)
  (Ev.bind (q117_ hi) (Ev.bind (Ev.of (fun k=>m118 k _ _) (of_decide_eq_true (at8 f118 hi))) (ev_neg (fun h=>h rfl)
  (Ev.bind (root_ goodC (J:=a+1) (by omega) e_one hres (q117_ hi) hr) (Ev.bind (value_ goodC hx hv)
  (Ev.bind (Ev.of (fun k=>m119 k _) (isP_eq (List.all_eq_true.1 (at8 f119 hi) (sgT i a) (by cases sgT i a<;>simp)))) (Ev.now _))))))))))
end
theorem q14_ (s:Bool):Ev (fun k=>FX14 k (chI s)) (zc (chC s)):=Ev.of (fun k=>m14 k _) (isR_eq (List.all_eq_true.1 f14 s (by cases s<;>simp)))
theorem law_at {x a:Nat} (hx:x<256) (ha:a<65536):Ev (fun k=>FX6 k (x:Int) (a:Int)) true:=by
 have hi:x%8<8:=Nat.mod_lt _ (by decide)
 have h20:Ev (fun k=>FX20 k (x:Int)) (pI (x%8)):=Ev.of (fun k=>m20 k _) (of_decide_eq_true (List.all_eq_true.1 f20 x (List.mem_range.2 hx)))
 generalize x%8=i at hi h20
 have hp:=pT_le i
 have hb:=b_eq (p:=pT i) ha hp
 have hm:a%(pT i-1)<pT i-1:=Nat.mod_lt _ (by omega)
 generalize a%(pT i-1)=b at hb hm
 have hw:wrap64 (pI i-1)≠0:=by unfold pI;rw [w64_ (by omega) (by omega)];omega
 have h1:wrap64 (Int.tmod (wrap64 (a:Int)) (wrap64 (pI i-1))+1)=bI b:=hb
 show Ev (fun k=>B6 (FX14 k) (FX19 k) (FX20 k) (FX39 k) (FX40 k) (FX41 k) (FX42 k) (FX43 k) (FX44 k) (FX45 k) (FX46 k) (FX47 k) (FX48 k) (x:Int) (a:Int)) true
 unfold B6
 refine Ev.bind (Ev.of (fun k=>m19 k) (of_decide_eq_true f19)) (ev_cf rfl (Ev.bind h20 ?_))
 refine Ev.bind (q41_ hi) (Ev.bind (q42_ hi) (Ev.bind (q43_ hi) (Ev.bind (q44_ hi) (Ev.bind (q45_ hi) ?_))))
 refine ev_neg (fun h=>h rfl) (ev_neg (fun h=>h rfl) (ev_neg (fun h=>h rfl) (ev_neg (fun h=>h rfl) (ev_neg (fun h=>h rfl) ?_))))
 refine Ev.bind (q40_ hi (l:=xT i) (List.mem_cons_self ..)) (ev_cf rfl (Ev.bind (q46_ hi) (Ev.bind (q40_ hi (l:=[stC i]) (by simp)) (ev_cf rfl (ev_neg hw ?_)))))
 rw [h1]
 refine Ev.bind (q39_ hi hm) (Ev.bind (q47_ hi hm) (ev_pos rfl (ev_pos rfl ?_)))
 refine Ev.bind (q14_ (sgT i b)) (Ev.bind (q48_ hi (sgT i b)) (Ev.bind (q40_ hi (l:=mvT i (sgT i b)) (by cases sgT i b<;>simp)) (Ev.now _)))
theorem law6_ev (a b:Int) (ha:(Lit.int .u8 a).wf=true) (hb:(Lit.int .u16 b).wf=true):∃k,FX6 k a b=some true:=by
 simp only [Lit.wf,Bool.and_eq_true,decide_eq_true_eq]at ha hb
 have e1:IntKind.min .u8=0:=by decide
 have e2:IntKind.max .u8=255:=by decide
 have e3:IntKind.min .u16=0:=by decide
 have e4:IntKind.max .u16=65535:=by decide
 obtain⟨x,rfl⟩:∃x:Nat,a=(x:Int):=⟨a.toNat,by omega⟩
 obtain⟨y,rfl⟩:∃y:Nat,b=(y:Int):=⟨b.toNat,by omega⟩
 exact(law_at (by omega) (by omega)).rounds
end Go.Proofs.YtfllafbphddooaaGreatV
namespace Go.Proofs.YtfllafbphddooaaGreat.Pure
open Go Go.RowKit Go.Proofs.YtfllafbphddooaaGreatW.PrintWords Go.Proofs.YtfllafbphddooaaGreatW.PrintLast
theorem TopGaussSums (a:Int) (ha:(Lit.int .u8 a).wf=true) (b:Int) (hb:(Lit.int .u16 b).wf=true) (w:World):
    Calls Tryz.prog 6 #[.int .u8 a, .int .u16 b] w fun e w'=>e= .returned (.bool true)∧Below w.heap.size w w':=
  Go.Proofs.YtfllafbphddooaaGreatV.calls6 a b (Go.Proofs.YtfllafbphddooaaGreatV.law6_ev a b ha hb) w
end Go.Proofs.YtfllafbphddooaaGreat.Pure
