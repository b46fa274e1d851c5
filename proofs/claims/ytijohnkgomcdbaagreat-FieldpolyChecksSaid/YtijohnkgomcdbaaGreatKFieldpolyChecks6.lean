/- Part of the proof of the statement FieldpolyChecks: lemmas on the model's steps, Lean functions that say what the program's functions compute, and proofs that the calls do just that. No hypothesis is added. -/
import Derived.Test.YtijohnkgomcdbaaGreatKFieldpolyChecks5
set_option linter.all false
set_option maxRecDepth 100000
namespace Go.Proofs.YtijohnkgomcdbaaGreatV
open Go Go.RowKit YtijohnkgomcdbaaGreat YtijohnkgomcdbaaGreatE YtijohnkgomcdbaaGreatW.PrintWords YtijohnkgomcdbaaGreatW.PrintLast YtijohnkgomcdbaaGreatW.PrintMore
theorem E2k (k:Nat):B5 Tryz.prog (D5F (A0L k)):=
 B7 B6 HM B6f (es:=fun k=>D3A (a8 k) (b6 k) (A5C k)) (fun k=>fc ⟨C9Y k,fc ⟨C9b k,fc ⟨E5f k,fz⟩⟩⟩) Tryz.func182 0 (by kernel_rfl) (fun s=>rfl) (fun k=>[]) (fz) (fun k s0=> .nil) (F:=fun k s=>A0L k s.1.1 s.1.2.1) (fun k s r h=>(E3W (a8 k) (b6 k) (A5C k) s).trans (D8M k s.1.1 s.1.2.1 r h)) k
theorem D9I (k:Nat) (x0:(List TQ)) (x1:(List TQ)) (x18:Int) (x19:Int):A0 (s7 (k+1) x0 x1 x18 x19) (A7U (s7 k) (A0L k) x0 x1 x18 x19):=by rw [s7];exact A0.refl _
theorem E9j (k:Nat) (x0:(List TQ)) (x1:(List TQ)):A0 (A1J k x0 x1) (B2Z (s7 k) x0 x1):=A0.refl _
theorem F2Z (k:Nat):B5 Tryz.prog (C8v (A1J k)):=
 B7 B6 HM A8V (es:=fun k=>C1I (A0L k)) (fun k=>fc ⟨E2k k,fz⟩) Tryz.func140 1 (by kernel_rfl) (fun s=>rfl) (fun k=>B8f (s7 k)) (fc ⟨fun s=>rfl,fz⟩) (fun k s0=> .cons (by kernel_rfl) (by kernel_rfl) (fun s r h=>(D8e (s7 k) (A0L k) s0 s).trans (D9I k s.1.1 s.1.2.1 s.1.2.2.1 s.1.2.2.2.1 r h)) (.nil)) (F:=fun k s=>A1J k s.1.1 s.1.2.1) (fun k s r h=>(E8g (s7 k) (A0L k) s).trans (E9j k s.1.1 s.1.2.1 r h)) k
theorem E1d (k:Nat) (x0:(List (List TQ))) (x1:(List (List TQ))) (x18:Int) (x19:Int):A0 (t9 (k+1) x0 x1 x18 x19) (A6R (t9 k) (A1J k) x0 x1 x18 x19):=by rw [t9];exact A0.refl _
theorem b78 (k:Nat) (x0:(List (List TQ))) (x1:(List (List TQ))):A0 (A3k k x0 x1) (B78 (t9 k) x0 x1):=A0.refl _
theorem F1W (k:Nat):B5 Tryz.prog (D4p (A3k k)):=
 B7 B6 HM D78 (es:=fun k=>C7i (A1J k)) (fun k=>fc ⟨F2Z k,fz⟩) Tryz.func78 1 (by kernel_rfl) (fun s=>rfl) (fun k=>C6o (t9 k)) (fc ⟨fun s=>rfl,fz⟩) (fun k s0=> .cons (by kernel_rfl) (by kernel_rfl) (fun s r h=>(F1j (t9 k) (A1J k) s0 s).trans (E1d k s.1.1 s.1.2.1 s.1.2.2.1 s.1.2.2.2.1 r h)) (.nil)) (F:=fun k s=>A3k k s.1.1 s.1.2.1) (fun k s r h=>(e78 (t9 k) (A1J k) s).trans (b78 k s.1.1 s.1.2.1 r h)) k
noncomputable abbrev A8l (k:Nat) (x0:(List TQ)) (x1:(List (List TQ))) (x2:(List TQ)):Option R11:=B11 (A3P k) (G7 k) (Q2 k) (A2v k) (A2e k) (A2a k) (A1N k) (A0e k) (M1 k) (j7 k) (A1g k) (A3x k) (j5 k) (A4C k) (A3k k) x0 x1 x2
theorem b11 (k:Nat) (x0:(List TQ)) (x1:(List (List TQ))) (x2:(List TQ)):A0 (A8l k x0 x1 x2) (B11 (A3P k) (G7 k) (Q2 k) (A2v k) (A2e k) (A2a k) (A1N k) (A0e k) (M1 k) (j7 k) (A1g k) (A3x k) (j5 k) (A4C k) (A3k k) x0 x1 x2):=A0.refl _
theorem E4R (k:Nat):B5 Tryz.prog (F0p (A8l k)):=
 B7 B6 HM D11 (es:=fun k=>C9N (A3P k) (G7 k) (Q2 k) (A2v k) (A2e k) (A2a k) (A1N k) (A0e k) (M1 k) (j7 k) (A1g k) (A3x k) (j5 k) (A4C k) (A3k k)) (fun k=>fc ⟨F2o k,fc ⟨A9v k,fc ⟨B8P k,fc ⟨E5Y k,fc ⟨E1e k,fc ⟨E6k k,fc ⟨E7o k,fc ⟨E1E k,fc ⟨B6C k,fc ⟨D3P k,fc ⟨E5F k,fc ⟨F0l k,fc ⟨D2s k,fc ⟨F0O k,fc ⟨F1W k,List.forall_mem_nil _⟩⟩⟩⟩⟩⟩⟩⟩⟩⟩⟩⟩⟩⟩⟩) Tryz.func11 0 (by kernel_rfl) (fun s=>rfl) (fun k=>[]) (List.forall_mem_nil _) (fun k s0=> .nil) (F:=fun k s=>A8l k s.1.1 s.1.2.1 s.1.2.2.1) (fun k s r h=>(e11 (A3P k) (G7 k) (Q2 k) (A2v k) (A2e k) (A2a k) (A1N k) (A0e k) (M1 k) (j7 k) (A1g k) (A3x k) (j5 k) (A4C k) (A3k k) s).trans (b11 k s.1.1 s.1.2.1 s.1.2.2.1 r h)) k
theorem calls11 (a:(List TQ)) (b:(List (List TQ))) (c:(List TQ)) (h:∃k,A8l k a b c=some true) (w:World) {va vb vc:Value} (ra:At0 w (.ag (.li (.ag (.pr (.ag (.pr .bo .st)) .st)))) a va) (rb:At0 w (.li (.li (.ag (.pr (.ag (.pr .bo .st)) .st)))) b vb) (rc:At0 w (.li (.ag (.pr (.ag (.pr .bo .st)) .st))) c vc):
  Calls Tryz.prog 11 #[va,vb,vc] w fun e w'=>e= .returned (.bool true)∧Below w.heap.size w w':=by
 obtain⟨k,hk⟩:=h
 have hc:=E4R k ((a,(b,(c,()))),()) true hk (.a (.v .bo true)) rfl
 exact E9f (vs:=[va,vb,vc]) Tryz.func11 (by kernel_rfl) (c:=D11.cd) (by kernel_rfl) hc (.cons ra (.cons rb (.cons rc (.nil)))) (fun w bl φ v h=>E2M h)
end Go.Proofs.YtijohnkgomcdbaaGreatV
set_option maxRecDepth 100000
namespace Go.Proofs.YtijohnkgomcdbaaGreatV
open Go Go.RowKit YtijohnkgomcdbaaGreat YtijohnkgomcdbaaGreatE YtijohnkgomcdbaaGreatN YtijohnkgomcdbaaGreat.All YtijohnkgomcdbaaGreatW.PrintWords YtijohnkgomcdbaaGreatW.PrintLast YtijohnkgomcdbaaGreatW.PrintMore
theorem C9h {g:List (List Rat)} (hl:g.length≤5) (hs:∀a,a∈g→a.length<1000) (hg:∀a,a∈g→∀q,q∈a→Sm 8 q):A8y (der g):=by
 have key:∀(l:List (List Rat)) (n:Nat),n+l.length<1000→(∀a,a∈l→a∈g)→∀b,b∈dl n l→b.length<1000∧∀q,q∈b→Sm 16 q:=by
  intro l
  induction l with
  |nil=>intro n _ _ b hb;simp [dl]at hb
  |cons a l ih=>
   intro n hn hl b hb
   rw [List.length_cons]at hn
   rcases List.mem_cons.1 hb with rfl|hb
   ·refine⟨?_,fun q hq=>?_⟩
    ·have h1:=B4e zr (a.map (· *((n:Int):Rat)))
     rw [List.length_map]at h1
     exact Nat.lt_of_le_of_lt h1 (hs a (hl a List.mem_cons_self))
    ·obtain⟨p,hp,rfl⟩:=List.mem_map.1 (B6i hq)
     exact(hg a (hl a List.mem_cons_self) p hp).mul (smI (by omega))
   ·exact ih (n+1) (by omega) (fun x hx=>hl x (List.mem_cons_of_mem _ hx)) b hb
 have hlen:(der g).length≤5:=by
  have h1:=B4e List.isEmpty ((dl 1 g.tail).map (List.map fr))
  rw [List.length_map,A9n,List.length_tail]at h1
  unfold der
  omega
 refine⟨by omega,fun a ha=>?_⟩
 obtain⟨b,hb,rfl⟩:=List.mem_map.1 (B6i ha)
 obtain⟨h1,h2⟩:=key g.tail 1 (by rw [List.length_tail];omega) (fun a ha=>List.mem_of_mem_tail ha) b hb
 refine⟨by rw [List.length_map];omega,fun x hx=>?_⟩
 obtain⟨q,hq,rfl⟩:=List.mem_map.1 hx
 exact⟨q,rfl,(h2 q hq).mono (by decide)⟩
theorem C9l {g:List Rat} (hl:g.length≤9) (hg:∀a,a∈g→Sm 8 a):A8y (N3 g):=by
 refine⟨by unfold N3;rw [List.length_map];omega,fun a ha=>?_⟩
 obtain⟨b,hb,rfl⟩:=List.mem_map.1 ha
 refine⟨by have:=F1l b;omega,fun x hx=>⟨b,E2c hx,(hg b hb).mono (by decide)⟩⟩
theorem D6A {α:Type} {a b:Nat→Option Bool} {w:List α} {e:Int} (h:e≠0) (hw:w=[]):Ev (fun k=>if e≠0 then(if e=e then(some (decide ((w.length:Int)=0)))else a k)else b k) true:=by
 subst hw;exact C4 h (C4 rfl (Ev.now _))
theorem E1p {m:FP} {f:List FP} (h:U2 m f≠0):Ev (fun k=>A1g k m f) (([]:List FP),U2 m f):=by
 show Ev (fun k=>B71 (J2 k) (A3K k) _ _) _
 unfold B71
 have h1:=D2d m (l:=[f]) (by simp)
 rw [D3a]at h1
 exact Ev.bind h1 (C4 h (Ev.now _))
section
variable {m:FP} {G:List (List Rat)} (hl:G.length≤5) (hs:∀a,a∈G→a.length<1000) (hg:∀a,a∈G→∀q,q∈a→Sm 8 q)
include hl hs hg
theorem D9G (h:U2 m (G.map (List.map fr))=0):Ev (fun k=>A1g k m (G.map (List.map fr))) (der G,(0:Int)):=by
 show Ev (fun k=>B71 (J2 k) (A3K k) _ _) _
 unfold B71
 have h1:=D2d m (l:=[G.map (List.map fr)]) (by simp)
 rw [D3a,h]at h1
 have h2:Ev (fun k=>A3K k (G.map (List.map fr),())) (der G,(0:Int)):=
  Ev.bind (F2E (by omega) hs hg) (Ev.bind (C9h hl hs hg).large (u6 rfl (Ev.now _)))
 exact Ev.bind h1 (D6 (fun h=>h rfl) (Ev.bind h2 (Ev.now _)))
theorem E0C:Ev (fun k=>A2a k (der G) 0 0 (G.map (List.map fr),())) true:=by
 have h3:Ev (fun k=>A3N k (G.map (List.map fr))) (der G):=Ev.bind (F0P (by omega) hs hg) (Ev.now _)
 have hf:=C9h hl hs hg
 show Ev (fun k=>A6E (S4 k) (W0 k) (A3N k) _ _ _ _) _
 unfold A6E
 exact D6 (fun h=>h rfl) (Ev.bind h3 (Ev.bind hf.Rlarge (D6 (fun h=>h rfl) (C4 rfl (Ev.bind (D1z (by have:=hf.1;omega) fun a ha=>(hf.2 a ha).1) (Ev.now _))))))
end
theorem E8Z {m:FP} {f:List FP} (h:U2 m f≠0):Ev (fun k=>A2a k [] (U2 m f) (U2 m f) (f,())) true:=by
 show Ev (fun k=>A6E (S4 k) (W0 k) (A3N k) _ _ _ _) _
 unfold A6E
 exact D6A h rfl
theorem E6B {m g:FP} (h:form m≠0):Ev (fun k=>A0e k m g) (([]:List FP),form m):=by
 show Ev (fun k=>B46 (A1C k) (P6 k) (R8 k) _ _) _
 unfold B46
 exact Ev.bind (B1E m) (C4 h (Ev.now _))
theorem D9V {m g:FP} (h0:form m=0) (h:J4 g≠0):Ev (fun k=>A0e k m g) (([]:List FP),J4 g):=by
 show Ev (fun k=>B46 (A1C k) (P6 k) (R8 k) _ _) _
 unfold B46
 have h1:=B1E m
 rw [h0]at h1
 exact Ev.bind h1 (D6 (fun h=>h rfl) (Ev.bind (B6w g) (C4 h (Ev.now _))))
section
variable {m:FP} {g:List Rat} (hl:g.length≤9) (hg:∀a,a∈g→Sm 8 a)
include hl hg
theorem E0y (h0:form m=0) (hp:J4 (g.map fr)=0) (hz:∀a,g.getLast?=some a→a≠0):Ev (fun k=>A0e k m (g.map fr)) (N3 g,(0:Int)):=by
 show Ev (fun k=>B46 (A1C k) (P6 k) (R8 k) _ _) _
 unfold B46
 have h1:=B1E m
 rw [h0]at h1
 have h2:=B6w (g.map fr)
 rw [hp]at h2
 have h3:=D6Y (g:=g) (by omega)
 rw [E9d hz]at h3
 have h4:Ev (fun k=>A1C k (g.map fr,())) (N3 g,(0:Int)):=
  Ev.bind h3 (Ev.bind (C9l hl hg).large (u6 rfl (Ev.now _)))
 exact Ev.bind h1 (D6 (fun h=>h rfl) (Ev.bind h2 (D6 (fun h=>h rfl) (Ev.bind h4 (Ev.now _)))))
theorem E8J:Ev (fun k=>A1N k (N3 g) 0 0 (g.map fr,())) true:=by
 have h3:Ev (fun k=>A2h k (g.map fr)) (N3 g):=Ev.bind (D1h (by omega)) (Ev.now _)
 have hf:=C9l hl hg
 show Ev (fun k=>A5i (S4 k) (W0 k) (A2h k) _ _ _ _) _
 unfold A5i
 exact D6 (fun h=>h rfl) (Ev.bind h3 (Ev.bind hf.Rlarge (D6 (fun h=>h rfl) (C4 rfl (Ev.bind (D1z (by have:=hf.1;omega) fun a ha=>(hf.2 a ha).1) (Ev.now _))))))
end
theorem C9G {g:FP} {e:Int} (h:e≠0):Ev (fun k=>A1N k [] e e (g,())) true:=by
 show Ev (fun k=>A5i (S4 k) (W0 k) (A2h k) _ _ _ _) _
 unfold A5i
 exact D6A h rfl
def hck (m g:FP):Int:=O8 id 0 [form m,J4 g]
theorem D1w (m g:FP):hck m g=if form m≠0 then form m else J4 g:=by
 unfold hck O8
 by_cases c:form m≠0
 ·rw [if_pos (show id (form m)≠0 from c),if_pos c];rfl
 ·rw [if_neg (show¬id (form m)≠0 from c),if_neg c]
  show(if J4 g≠0 then J4 g else 0)=J4 g
  by_cases c2:J4 g≠0
  ·rw [if_pos c2]
  ·rw [if_neg c2,Decidable.not_not.1 c2]
theorem E6T {m:FP} {f:List FP} (hf:B6m m [f]=false):(∃r,Ev (fun k=>A1g k m f) r∧Ev (fun k=>A2a k r.1 r.2 (U2 m f) (f,())) true)∧
  (U2 m f=0→∃G:List (List Rat),f=G.map (List.map fr)∧Okl G):=by
 by_cases c:U2 m f≠0
 ·exact⟨⟨_,E1p c,E8Z c⟩,fun h=>absurd h c⟩
 ·have c':=Decidable.not_not.1 c
  have hm:¬form m≠0:=fun h=>by unfold U2 at c';rw [if_pos h]at c';exact h c'
  unfold B6m at hf
  rw [if_neg hm]at hf
  have hb:bad m f=false:=by
   cases hb:bad m f with
   |false=>rfl
   |true=>rw [List.any_cons,hb,Bool.true_or,if_pos rfl]at hf;cases hf
  unfold bad at hb
  rw [if_pos c']at hb
  have hF:A6h m f 4 4=true:=by cases h:A6h m f 4 4 with|true=>rfl|false=>rw [h]at hb;cases hb
  obtain⟨G,rfl,h1,h2⟩:=F1C hF
  have h3:=B6K (Decidable.not_not.1 hm)
  have hs:∀a,a∈G→a.length<1000:=fun a ha=>by have:=(h1 a ha).2.2;omega
  have hg:∀a,a∈G→∀q,q∈a→Sm 8 q:=fun a ha=>(h1 a ha).1
  refine⟨⟨_,D9G h2 hs hg c',?_⟩,fun _=>⟨G,rfl,by omega,fun a ha=>⟨by have:=hs a ha;omega,fun q hq=>(hg a ha q hq).mono (by decide)⟩⟩⟩
  rw [c'];exact E0C h2 hs hg
theorem D1c {m g:FP} (hg:J4 g=0→few g 8=true):(∃r,Ev (fun k=>A0e k m g) r∧Ev (fun k=>A1N k r.1 r.2 (hck m g) (g,())) true)∧
  (hck m g=0→∃H:List (List Rat),Ev (fun k=>j5 k g) (H.map (List.map fr))∧Okl H):=by
 rw [D1w]
 by_cases c:form m≠0
 ·rw [if_pos c];exact⟨⟨_,E6B c,C9G c⟩,fun h=>absurd h c⟩
 ·have c':=Decidable.not_not.1 c
  rw [if_neg c]
  by_cases c2:J4 g≠0
  ·exact⟨⟨_,D9V c' c2,C9G c2⟩,fun h=>absurd h c2⟩
  ·have c2':=Decidable.not_not.1 c2
   obtain⟨G,rfl,h1,h2,h3⟩:=D3W (hg c2')
   rw [c2']
   refine⟨⟨_,E0y h2 h1 c' c2' h3,E8J h2 h1⟩,fun _=>⟨G.map (fun a=>J6 zr [a]),?_,?_⟩⟩
   ·have:=D1h (g:=G) (by omega)
    unfold N3 el at this
    rw [List.map_map];exact this
   ·refine⟨by rw [List.length_map];omega,fun a ha=>?_⟩
    obtain⟨b,hb,rfl⟩:=List.mem_map.1 ha
    refine⟨Nat.lt_of_le_of_lt (B4e _ _) (by simp),fun q hq=>?_⟩
    rw [List.mem_singleton.1 (B6i hq)]
    exact(h1 b hb).mono (by decide)
theorem E2m (m:FP) (f:List FP) (g:FP):Ev (fun k=>A8l k m f g) true:=by
 show Ev (fun k=>B11 (A3P k) (G7 k) (Q2 k) (A2v k) (A2e k) (A2a k) (A1N k) (A0e k) (M1 k) (j7 k) (A1g k) (A3x k) (j5 k) (A4C k) (A3k k) _ _ _) _
 unfold B11
 refine Ev.bind (D8q m (l:=[f]) (by simp)) ?_
 cases hf:B6m m [f]with
 |true=>exact B1T rfl (Ev.bind A6D (Ev.now _))
 |false=>
  refine u6 rfl (Ev.bind (A8s g) ?_)
  obtain⟨⟨rD,hD,iD⟩,hF⟩:=E6T hf
  have h0:Ev (fun k=>A2e k [form m,J4 g]) (hck m g):=F1f (by simp)
  by_cases c:J4 g=0
  ·refine C4 c (Ev.bind (D5s g (n:=8) (by omega)) ?_)
   cases hw:few g 8 with
   |false=>exact B1T rfl (Ev.bind A6D (Ev.now _))
   |true=>
    obtain⟨⟨rF,hR,iF⟩,hH⟩:=D1c (m:=m) (g:=g) fun _=>hw
    refine u6 rfl (Ev.bind (B6Q m f) (Ev.bind (A7T m) (Ev.bind (A8s g) (Ev.bind h0 (Ev.bind hD (Ev.bind hR (Ev.bind (D2B m f) (D6 (fun h=>h rfl) (Ev.bind iD (u6 rfl (Ev.bind iF (u6 rfl ?_))))))))))))
    by_cases c1:U2 m f≠0
    ·exact C4 c1 (Ev.bind A6D (Ev.now _))
    ·refine D6 c1 ?_
     by_cases c2:hck m g≠0
     ·exact C4 c2 (Ev.bind A6D (Ev.now _))
     ·obtain⟨G,rfl,hG⟩:=hF (Decidable.not_not.1 c1)
      obtain⟨H,hE,hH⟩:=hH (Decidable.not_not.1 c2)
      have hS:=C3a hG hG
      rw [E4c]at hS
      exact D6 c2 (Ev.bind hE (Ev.bind hS (C4 rfl (Ev.bind (C3a hG hH) (Ev.bind (D0A hG hH) (C4 rfl (Ev.bind (C3a hH hG) (Ev.bind (D0A hH hG) (C4 rfl (Ev.bind A6D (Ev.now _)))))))))))
  ·obtain⟨⟨rF,hR,iF⟩,hH⟩:=D1c (m:=m) (g:=g) fun h=>absurd h c
   refine D6 c (Ev.bind (B6Q m f) (Ev.bind (A7T m) (Ev.bind (A8s g) (Ev.bind h0 (Ev.bind hD (Ev.bind hR (Ev.bind (D2B m f) (D6 (fun h=>h rfl) (Ev.bind iD (u6 rfl (Ev.bind iF (u6 rfl ?_))))))))))))
   by_cases c1:U2 m f≠0
   ·exact C4 c1 (Ev.bind A6D (Ev.now _))
   ·refine D6 c1 (C4 ?_ (Ev.bind A6D (Ev.now _)))
    show hck m g≠0
    rw [D1w]
    split
    ·assumption
    ·exact c
theorem law_at (m:FP) (f:List FP) (g:FP):∃k,A8l k m f g=some true:=(E2m m f g).rounds
end Go.Proofs.YtijohnkgomcdbaaGreatV
namespace Go.Proofs.YtijohnkgomcdbaaGreatJ
open Go Go.RowKit Go.ChangeShapes Go.WideShapes Go.ChangeAt YtijohnkgomcdbaaGreatE
theorem E7p (b:Nat):¬C5 (fun _=> .fresh) (fun _=>⟨0,0,some 0⟩) b:=by rintro⟨_,⟨_,_,_,e⟩,_⟩;cases e
def A1O (P:Program) (t:TypeId) (ty:Ty):Prop:=∀(H:Type) (enc:TypeId×Value→H) (w:World) (base:Nat) (spare:Nat→Bool) (held:Bool) (n:Nat) (cs:List Value) (x:DataW H×List MemPlace),
 DataW.trod enc P w base spare held n t cs=some x→∃y:ty.T,D1 w (C5 (fun _=> .fresh) (fun _=>⟨0,0,some 0⟩)) ty y cs
section
variable {P:Program} {t e:TypeId} {a b:Ty} {f0 f1:Field}
theorem C1R (h:P.underlying t=some .bool):A1O P t .bo:=fun H enc w base spare held n cs x hx=>by
 obtain⟨b,rfl,_⟩:=DataW.trod_bool h hx
 exact⟨b,rfl⟩
theorem B0I (h:P.underlying t=some .string):A1O P t .st:=fun H enc w base spare held n cs x hx=>by
 obtain⟨b,rfl,_⟩:=DataW.trod_string h hx
 exact⟨b,rfl⟩
theorem D8y (h:P.underlying t=some (.struct #[f0])) (o:f0.offset=0) (hc:P.cellsOf t=P.cellsOf f0.type) (r:A1O P f0.type a):A1O P t (.ag a):=fun H enc w base spare held n cs x hx=>by
 obtain⟨y0,m,_,hl,h0⟩:=trod_struct1 h hx
 rw [o,List.drop_zero,List.take_of_length_le (by omega)]at h0
 obtain⟨y,hy⟩:=r H enc w base spare held m cs y0 h0
 exact⟨y,hy⟩
theorem A7v (h:P.underlying t=some (.struct #[f0,f1])) (o0:f0.offset=0) (o1:f1.offset=P.cellsOf f0.type) (hc:P.cellsOf t=P.cellsOf f0.type+P.cellsOf f1.type) (r0:A1O P f0.type a) (r1:A1O P f1.type b):
  A1O P t (.ag (.pr a b)):=fun H enc w base spare held n cs x hx=>by
 obtain⟨y0,y1,m,_,hl,h0,h1⟩:=trod_struct2 h hx
 rw [o0,List.drop_zero]at h0
 rw [o1,List.take_of_length_le (l:=cs.drop _) (by rw [List.length_drop];omega)]at h1
 obtain⟨z0,hz0⟩:=r0 H enc w base spare held m _ y0 h0
 obtain⟨z1,hz1⟩:=r1 H enc w base spare held m _ y1 h1
 exact⟨(z0,z1),_,_,(List.take_append_drop _ cs).symm,hz0,hz1⟩
theorem F3V {b o i j:Nat}:((⟨b,o,none⟩:Addr).add i).add j=⟨b,o+i+j,none⟩:=by
 rw [Go.Deep.add_add]
 unfold Addr.add
 split
 ·rename_i h
  rw [show o+i+j=o by omega]
 ·rw [Nat.add_assoc]
theorem B4N (h:P.underlying t=some (.slice e)) (hs:P.cellsOf e=a.sz) (hp:0<a.sz) (r:A1O P e a):A1O P t (.li a):=fun H enc w base spare held n cs x hx=>by
 rcases Go.Deep.open_slice h hx with⟨rfl,_⟩| ⟨ad,len,cap,m,k,D,Pl,rfl,_,hl,_,hm,_,hx⟩
 ·exact⟨([]:List a.T),none,0,rfl,Nat.le_refl _,Or.inl rfl⟩
 ·rcases Nat.eq_zero_or_pos len with rfl|h0
  ·exact⟨([]:List a.T),some ad,cap,rfl,Nat.zero_le _,Or.inl rfl⟩
  ·have hlm:len≤m:=by rw [hm];split<;>omega
   have key:∀i,i<len→∃y:a.T,∃ci,w.cells? base (ad.add (i*a.sz)) a.sz=some ci∧D1 w (C5 (fun _=> .fresh) (fun _=>⟨0,0,some 0⟩)) a y ci:=fun i hi=>by
    obtain⟨ci,h1,h2⟩:=hx i (by omega)
    obtain⟨y,hy⟩:=r H enc w base spare held k ci _ h2
    exact⟨y,ci,by rw [←hs];exact h1,hy⟩
   obtain⟨y0,c0,k0,_⟩:=key 0 h0
   haveI:Inhabited a.T:=⟨y0⟩
   obtain⟨f,hf⟩:=Go.Deep.choose_lt (α:=a.T) key
   have hsp:ad.spot=none∧ad.block<w.heap.size:=by
    obtain⟨_,hlen,hc⟩:=World.cells?_some k0
    have h1:=hc 0 hp
    rw [Nat.zero_mul,show(ad.add 0).add 0=ad from rfl,List.getElem?_eq_getElem (by omega)]at h1
    unfold World.cell? at h1
    split at h1
    ·rename_i c el fz hh
     split at h1
     ·cases h1
     ·rename_i hsp
      exact⟨by cases hq:ad.spot with|none=>rfl|some _=>rw [hq]at hsp;exact absurd rfl hsp,by
       rcases Nat.lt_or_ge ad.block w.heap.size with h2|h2
       ·exact h2
       ·rw [Array.getElem?_eq_none h2]at hh;cases hh⟩
    ·cases h1
   obtain⟨b,o,sp⟩:=ad
   obtain⟨rfl,hb⟩:sp=none∧b<w.heap.size:=hsp
   refine⟨(List.range len).map f,some ⟨b,o,none⟩,cap,by rw [List.length_map,List.length_range],by rw [List.length_map,List.length_range];exact hl,Or.inr ⟨b,o,rfl,E7p b,hb,fun i y hy=>?_⟩⟩
   have hi:i<len:=by
    rcases Nat.lt_or_ge i len with h1|h1
    ·exact h1
    ·unfold I8 at hy
     rw [List.getElem?_eq_none (by rw [List.length_map,List.length_range];exact h1)]at hy;cases hy
   obtain⟨ci,h1,h2⟩:=hf i hi
   obtain⟨_,hlen,hc⟩:=World.cells?_some h1
   have hyf:f i=y:=by
    unfold I8 at hy
    rw [List.getElem?_map,List.getElem?_range hi]at hy
    exact Option.some.inj hy
   rw [←hyf]
   refine⟨ci,fun j v hj=>?_,h2⟩
   have hjl:j<a.sz:=by
    rcases Nat.lt_or_ge j a.sz with h3|h3
    ·exact h3
    ·rw [List.getElem?_eq_none (by omega)]at hj;cases hj
   have h4:=hc j hjl
   rw [F3V,hj]at h4
   exact h4
end
section
variable {H:Type} {enc:TypeId×Value→H} {P:Program} {w:World} {base b0:Nat} {spare:Nat→Bool} {held:Bool} {r:Reach} {t e:TypeId} {v:Value} {d:DataW H} {p:List MemPlace} {a:Ty}
theorem at_slice (ht:P.underlying t=some (.slice e)) (hr:A1O P t (.li a)) (hv:Value.okWide P w r b0 t v) (h:DataW.Trod enc P w base spare held t v d p):∃y:Ty.T (.li a),At0 w (.li a) y v:=by
 obtain⟨ad,len,cap,rfl⟩:=okWide_slice ht hv
 obtain⟨n,hn⟩:=h
 obtain⟨y,hy⟩:=hr H enc w base spare held n _ _ hn
 exact⟨y,_,hy,rfl⟩
theorem at_struct {fs:Array Field} (ht:P.underlying t=some (.struct fs)) (hr:A1O P t (.ag a)) (hv:Value.okWide P w r b0 t v) (h:DataW.Trod enc P w base spare held t v d p):∃y:Ty.T (.ag a),At0 w (.ag a) y v:=by
 obtain⟨cs,rfl,_⟩:=okWide_struct ht hv
 obtain⟨n,hn⟩:=h
 obtain⟨y,hy⟩:=hr H enc w base spare held n _ _ hn
 exact⟨y,_,hy,rfl⟩
theorem again {w w':World} (hl:laidOutB P=true) (hr:P.readableRec t=true) (hrow:t<P.types.size) (h:DataW.Trod enc P w base (fun _=>true) true t v d p)
  (hb:Below w.heap.size w w') (hlt:∀x∈p,x.block<w.heap.size):DataW.Trod enc P w' base (fun b=>decide (b<w.heap.size)) true t v d p:=
 Go.WideElems.Trod_stays hl hr hrow h (fun x hx=>by
  have:=hb.block x.block (hlt x hx)
  cases x<;>simp_all [World.sameAt,World.cell?,MemPlace.block]) (fun x hx=>by simpa using hlt x hx)
end
end Go.Proofs.YtijohnkgomcdbaaGreatJ
namespace Go.Proofs.YtijohnkgomcdbaaGreat.Pure
open Go Go.RowKit Go.Proofs.YtijohnkgomcdbaaGreatE
theorem FieldpolyChecks (a:Ty.T (.ag (.li (.ag (.pr (.ag (.pr .bo .st)) .st))))) (b:Ty.T (.li (.li (.ag (.pr (.ag (.pr .bo .st)) .st))))) (c:Ty.T (.li (.ag (.pr (.ag (.pr .bo .st)) .st)))) (w:World) {va vb vc:Value}
    (ra:At0 w _ a va) (rb:At0 w _ b vb) (rc:At0 w _ c vc):
    Calls Tryz.prog 11 #[va,vb,vc] w fun e w'=>e= .returned (.bool true)∧Below w.heap.size w w':=
  Go.Proofs.YtijohnkgomcdbaaGreatV.calls11 a b c (Go.Proofs.YtijohnkgomcdbaaGreatV.law_at a b c) w ra rb rc
end Go.Proofs.YtijohnkgomcdbaaGreat.Pure
