/- Part of the proof of the statement TopUnitRoots: lemmas on the model's steps, Lean functions that say what the program's functions compute, and proofs that the calls do just that. No hypothesis is added. -/
import Derived.Test.YtfllafbphddooaaGreatKTopUnitRoots1
set_option linter.all false
namespace Go.Proofs.YtfllafbphddooaaGreatE
open Go.RowKit
section
variable {w0 w:World} {Bo:Nat→Nat→Prop} {pb bl:Nat→Blk} {φ:Nat→Addr} {bs:Bl} {ls:List Lent}
theorem capAs_pv:∀(xs ys:List A),capAs pb xs=some ys→∀y,y∈ys→∃t z,y= .pv t z
 | [],ys,h,y,hy=>by cases h;cases hy
 |x::xs,ys,h,y,hy=>by
  unfold capAs at h
  split at h
  ·rename_i y' m h1 h2
   cases h
   rcases List.mem_cons.1 hy with rfl|hy
   ·unfold capA at h1
    split at h1
    ·cases h1;exact⟨_,_,rfl⟩
    ·split at h1<;>cases h1<;>exact⟨_,_,rfl⟩
    ·cases h1
   ·exact capAs_pv xs m h2 y hy
  ·cases h
theorem RepAs_own {bl':Nat→Blk} {φ':Nat→Addr} (ho:∀b,owns bl' φ' b→owns bl φ b) {xs:List A} {vs:List Value} (hx:∀x,x∈xs→∃t z,x= .pv t z) (h:RepAs w bl φ xs vs):RepAs w bl' φ' xs vs:=by
 induction h with
 |nil=>exact .nil
 |cons h _ ih=>exact .cons (byval_own ho (Or.inr (hx _ List.mem_cons_self)) h) (ih fun x hx'=>hx x (List.mem_cons_of_mem _ hx'))
theorem capL_rep (ha:Agree pb bl) (hm:Mem w0 Bo bl φ w) {ns:List Nat} (hl:LentOk w (updB (frzs pb ns) bl) bs ls) (hm1:Mem w0 Bo (updB (frzs pb ns) bl) φ w):∀(xs:List A) (j:Nat) (ys:List A) (bs':Bl) (ls':List Lent),capL pb j xs=some (ys,bs',ls')→
  (∀x,x∈ls'→x∈ls)→(∀x,x∈ls'→x.n∉ns)→∀vs,RepAs w bl φ xs vs→RepAs w (bl0_ (updB (frzs pb ns) bl) φ bs ls) (φ0_ (updB (frzs pb ns) bl) φ ls) ys vs
 | [],j,ys,bs',ls',h,_,_,vs,hv=>by cases h;cases hv;exact .nil
 |x::xs,j,ys,bs',ls',h,hsub,hnot,vs,hv=>by
  have ho:=own0 hm1 hl
  unfold capL at h
  split at h
  ·rename_i y b c m bs2 cs2 h1 h2
   cases h
   cases hv with
   | @cons _ u _ us hv1 hv2=>
    refine .cons ?_ (capL_rep ha hm hl hm1 xs _ _ _ _ h2 (fun x hx=>hsub x (List.mem_append_right _ hx)) (fun x hx=>hnot x (List.mem_append_right _ hx)) us hv2)
    unfold cap1 at h1
    split at h1
    ·rename_i t z
     cases h1
     exact byval_own ho (Or.inr ⟨_,_,rfl⟩) (capA_ok ha hm (ns:=ns) (x:= .pv t z) (fun n hn=>by cases hn) rfl hv1)
    ·rename_i n i
     split at h1
     ·rename_i t z tl hp
      cases h1
      have hx:(⟨j,n,none⟩:Lent)∈ls:=hsub _ (List.mem_append_left _ (List.mem_singleton.2 rfl))
      have hnn:n∉ns:=hnot ⟨j,n,none⟩ (List.mem_append_left _ (List.mem_singleton.2 rfl))
      have hbn:bl n= .live t [z] tl:=by rw [ha n (by rw [hp];intro e;cases e),hp]
      have hb1:updB (frzs pb ns) bl n= .live t [z] tl:=by rw [frzs_not _ _ hnn,hbn]
      obtain⟨g0,t',l',tl',g1,g2⟩:=hl.ls_ _ hx
      rw [hb1]at g1
      cases g1
      have e0:bl0_ (updB (frzs pb ns) bl) φ bs ls (2000+j)= .live t [z] false:=by
       unfold bl0_;rw [if_pos g0,getB_look]
       have g2:look bs (2000+j)=some (.live t [z] false):=g2
       rw [g2]
      have e1:φ0_ (updB (frzs pb ns) bl) φ ls (2000+j)=φ n:=by
       unfold φ0_;rw [if_pos g0]
       have:=lentOf_spec hl.j_ hx
       have this:lentOf ls (2000+j)=some ⟨j,n,none⟩:=this
       rw [this]
       show addrOf _ _ _=_
       unfold addrOf
       rw [hb1]
      have hv1:RepA w bl φ (.ptr n i []) u:=hv1
      simp only [RepA,hbn]at hv1
      show RepA w _ _ (.ptr (2000+j) i []) u
      simp only [RepA,e0,e1]
      exact hv1
     ·rename_i t z hp
      cases h1
      refine byval_own ho (Or.inr ⟨_,_,rfl⟩) (capA_ok ha hm (ns:=ns) (x:= .ptr n i []) (fun k hk hlv=>?_) (by simp only [capA,hp]) hv1)
      simp only [namesA,List.mem_singleton]at hk
      subst hk
      obtain⟨_,_,_,e⟩:=hlv
      rw [hp]at e;cases e
     ·cases h1
    ·cases h1
  ·cases h
theorem capM_rep (ha:Agree pb bl) (hm:Mem w0 Bo bl φ w) {ns:List Nat} (hl:LentOk w (updB (frzs pb ns) bl) bs ls) (hm1:Mem w0 Bo (updB (frzs pb ns) bl) φ w) {b:Bool} {xs:List A} {j:Nat} {ys:List A} {bs':Bl} {ls':List Lent} (h:capM pb b j xs=some (ys,bs',ls'))
  (hsub:∀x,x∈ls'→x∈ls) (hnot:∀x,x∈ls'→x.n∉ns) (hns:∀n,n∈cnd b [] (xs.flatMap namesA)→n∈ns) {vs:List Value} (hv:RepAs w bl φ xs vs):RepAs w (bl0_ (updB (frzs pb ns) bl) φ bs ls) (φ0_ (updB (frzs pb ns) bl) φ ls) ys vs:=by
 unfold capM at h
 cases b with
 |true=>exact capL_rep ha hm hl hm1 xs _ _ _ _ h hsub hnot vs hv
 |false=>
  rw [cond_false]at h hns
  split at h
  ·rename_i cs hc
   cases h
   exact RepAs_own (own0 hm1 hl) (capAs_pv xs _ hc) (capAs_ok ha hm xs _ vs hns hc hv)
  ·cases h
theorem args_rep (ha:Agree pb bl) (hm:Mem w0 Bo bl φ w) {ns:List Nat} (hl:LentOk w (updB (frzs pb ns) bl) bs ls) (hm1:Mem w0 Bo (updB (frzs pb ns) bl) φ w) {mc:Nat→Bool} {j:Nat} {ms:List PM} {args asx:List V} {bs':Bl} {ls':List Lent} (h:ArgsR mc pb j ms args asx bs' ls'):
  (∀x,x∈ls'→x∈ls)→(∀x,x∈ls'→x.n∉ns)→(∀n,n∈otherNames mc ms args→n∈ns)→∀vs,RepVs w bl φ args vs→RepVs w (bl0_ (updB (frzs pb ns) bl) φ bs ls) (φ0_ (updB (frzs pb ns) bl) φ ls) asx vs:=by
 have ho:=own0 hm1 hl
 have st:=frzs_step ha hm ns
 induction h with
 |nil=>intro _ _ _ vs hv;cases hv;exact .nil
 | @cons j m v a b c ms vs asx bs' cs' h1 h2 ih=>
  intro hsub hnot hoth us hv
  cases hv with
  | @cons _ u _ us hv1 hv2=>
   refine .cons ?_ (ih (fun x hx=>hsub x (List.mem_append_right _ hx)) (fun x hx=>hnot x (List.mem_append_right _ hx)) (fun n hn=>hoth n (by
    cases m with
    |bor=>exact hn
    |d t=>exact List.mem_append_right _ hn
    |fn=>exact List.mem_append_right _ hn)) us hv2)
   cases h1 with
   | @d _ t x z hz hq hf=>
    refine byval_own ho (Or.inl ⟨_,_,rfl⟩) (toT_ok ha hm (ns:=ns) (fun n hn hlv=>?_) hz hv1)
    cases m with
    |bor=>exact absurd hlv (hq rfl n hn)
    |d t=>exact hoth n (List.mem_append_left _ hn)
    |fn=>exact absurd rfl hf
   | @fn f caps cs bs2 cs2 hc=>
    obtain⟨cv,e1,e2⟩:=hv1
    exact⟨cv,e1,capM_rep ha hm hl hm1 hc (fun x hx=>hsub x (List.mem_append_left _ hx)) (fun x hx=>hnot x (List.mem_append_left _ hx)) (fun n hn=>hoth n (List.mem_append_left _ hn)) e2⟩
   | @lent n cut t l tl hp=>
    have hx:(⟨j,n,cut⟩:Lent)∈ls:=hsub _ (List.mem_append_left _ (List.mem_singleton.2 rfl))
    have hnn:n∉ns:=hnot ⟨j,n,cut⟩ (List.mem_append_left _ (List.mem_singleton.2 rfl))
    have hbn:bl n= .live t l tl:=by rw [ha n (by rw [hp];intro e;cases e),hp]
    have hb1:updB (frzs pb ns) bl n= .live t l tl:=by rw [frzs_not _ _ hnn,hbn]
    obtain⟨g0,t',l',tl',g1,g2⟩:=hl.ls_ _ hx
    rw [hb1]at g1
    cases g1
    have e0:bl0_ (updB (frzs pb ns) bl) φ bs ls (2000+j)= .live t (sub_ cut l) false:=by
     unfold bl0_;rw [if_pos g0,getB_look]
     have g2:look bs (2000+j)=some (.live t (sub_ cut l) false):=g2
     rw [g2]
    have e1:φ0_ (updB (frzs pb ns) bl) φ ls (2000+j)=addrOf (updB (frzs pb ns) bl) φ ⟨j,n,cut⟩:=by
     unfold φ0_;rw [if_pos g0]
     have:=lentOf_spec hl.j_ hx
     have this:lentOf ls (2000+j)=some ⟨j,n,cut⟩:=this
     rw [this]
    show RepA w _ _ (.ref (2000+j)) u
    simp only [RepA,e0,e1]
    unfold addrOf
    rw [hb1]
    simp only
    cases cut with
    |none=>
     have hv1:RepA w bl φ (.ref n) u:=hv1
     simp only [RepA,hbn]at hv1
     exact hv1
    |some q=>
     obtain⟨lo,hi⟩:=q
     have hv1:RepA w bl φ (.part n lo hi) u:=hv1
     simp only [RepA,hbn]at hv1
     obtain⟨k0,k1,k2,ad,cap,rfl,k3,k4⟩:=hv1
     have hlen:(sub_ (some (lo,hi)) l).length=(hi-lo).toNat:=slice_length (l:=l) k0 k1 k2
     rcases k4 with rfl| ⟨h1,rfl,h3⟩
     ·refine Or.inl ⟨by rw [hlen];omega,ad,?_⟩
      congr 1;omega
     ·simp only
      rw [if_pos h1]
      refine Or.inr ⟨rfl,cap,by rw [hlen],by rw [hlen];exact k3,h3⟩
end
theorem ownNames_spec {d:Nat}:∀(rms:List RM) (j n:Nat),n∈ownNames d j rms→∃k,n=ownName d k∧j≤k∧k<j+rms.length
 | [],j,n,h=>by cases h
 |m::ms,j,n,h=>by
  have ih:=ownNames_spec (d:=d) ms (j+1) n
  cases m with
  |own t=>
   simp only [ownNames]at h
   rcases List.mem_cons.1 h with rfl|h
   ·exact⟨j,rfl,Nat.le_refl _,by simp⟩
   ·obtain⟨k,h1,h2,h3⟩:=ih h;exact⟨k,h1,by omega,by simp only [List.length_cons];omega⟩
  |d t=>obtain⟨k,h1,h2,h3⟩:=ih h;exact⟨k,h1,by omega,by simp only [List.length_cons];omega⟩
  |vw=>obtain⟨k,h1,h2,h3⟩:=ih h;exact⟨k,h1,by omega,by simp only [List.length_cons];omega⟩
  |sh=>obtain⟨k,h1,h2,h3⟩:=ih h;exact⟨k,h1,by omega,by simp only [List.length_cons];omega⟩
  |fn=>obtain⟨k,h1,h2,h3⟩:=ih h;exact⟨k,h1,by omega,by simp only [List.length_cons];omega⟩
theorem ownName_inj {d j k:Nat} (h:ownName d j=ownName d k):j=k:=by unfold ownName at h;omega
theorem backOwn_spec {us:Bl} {d:Nat}:∀(rms:List RM) (j:Nat) (b2:Bl),backOwn us d j rms=some b2→
  (∀n,look b2 n≠none→n∈ownNames d j rms)∧(∀k,ownName d k∈ownNames d j rms→∃t l,getB us (3000+k)= .live t l true∧look b2 (ownName d k)=some (.live t l true))
 | [],j,b2,h=>by cases h;exact⟨fun n h=>absurd rfl h,(fun k hk=>by cases hk)⟩
 | .own t0::ms,j,b2,h=>by
  unfold backOwn at h
  split at h
  ·rename_i t l m h1 h2
   cases h
   obtain⟨i1,i2⟩:=backOwn_spec ms (j+1) m h2
   refine⟨fun n hn=>?_,fun k hk=>?_⟩
   ·by_cases e:ownName d j=n
    ·exact e▸List.mem_cons_self
    ·have:look m n≠none:=by
      intro q;apply hn
      show(cnd (Nat.beq (ownName d j) n) (some _)<|look m n)=none
      have:Nat.beq (ownName d j) n=false:=by rw [Bool.eq_false_iff];intro q;exact e (Nat.eq_of_beq_eq_true q)
      rw [this];exact q
     exact List.mem_cons_of_mem _ (i1 n this)
   ·by_cases e:k=j
    ·subst e
     refine⟨t,l,h1,?_⟩
     show(cnd (Nat.beq (ownName d k) (ownName d k)) (some _)<|look m _)=_
     rw [Nat.beq_refl];rfl
    ·have hk':ownName d k∈ownNames d (j+1) ms:=by
      rcases List.mem_cons.1 hk with q|q
      ·exact absurd (ownName_inj q) e
      ·exact q
     obtain⟨t',l',g1,g2⟩:=i2 k hk'
     refine⟨t',l',g1,?_⟩
     show(cnd (Nat.beq (ownName d j) (ownName d k)) (some _)<|look m _)=_
     have:Nat.beq (ownName d j) (ownName d k)=false:=by rw [Bool.eq_false_iff];intro q;exact e (ownName_inj (Nat.eq_of_beq_eq_true q)).symm
     rw [this];exact g2
  ·cases h
 | .d t::ms,j,b2,h=>backOwn_spec ms (j+1) b2 h
 | .vw::ms,j,b2,h=>backOwn_spec ms (j+1) b2 h
 | .sh::ms,j,b2,h=>backOwn_spec ms (j+1) b2 h
 | .fn::ms,j,b2,h=>backOwn_spec ms (j+1) b2 h
def splice {t:Ty} (c:Option (Int×Int)) (l l':List t.T):List t.T:=match c with|none=>l'|some (lo,hi)=>l.take lo.toNat++l'++l.drop hi.toNat
theorem backLents_spec {pb:Nat→Blk} {us:Bl}:∀(ls:List Lent) (b1:Bl),(∀x y,x∈ls→y∈ls→x.n=y.n→x=y)→backLents pb us ls=some b1→
  (∀n,look b1 n≠none→∃x,x∈ls∧x.n=n)∧(∀x,x∈ls→∃(t:Ty) (l l':List t.T) (tl tl':Bool),pb x.n= .live t l tl∧getB us (2000+x.j)= .live t l' tl'∧look b1 x.n=some (.live t (splice x.cut l l') tl))
 | [],b1,_,h=>by cases h;exact⟨fun n h=>absurd rfl h,(fun x hx=>by cases hx)⟩
 |x::ls,b1,hn,h=>by
  unfold backLents at h
  split at h
  ·rename_i y m h1 h2
   cases h
   obtain⟨i1,i2⟩:=backLents_spec ls m (fun a b ha hb=>hn a b (List.mem_cons_of_mem _ ha) (List.mem_cons_of_mem _ hb)) h2
   unfold backLent at h1
   split at h1
   ·rename_i t l tl t' l' tl' hp hu
    split at h1
    ·rename_i ht
     subst ht
     have hy:y=(x.n, .live t' (splice x.cut l l') tl):=by
      cases hc:x.cut with
      |none=>rw [hc]at h1;exact(Option.some.inj h1).symm
      |some q=>obtain⟨lo,hi⟩:=q;rw [hc]at h1;exact(Option.some.inj h1).symm
     subst hy
     refine⟨fun n hk=>?_,fun z hz=>?_⟩
     ·by_cases e:x.n=n
      ·exact⟨x,List.mem_cons_self,e⟩
      ·have:look m n≠none:=by
        intro q;apply hk
        show(cnd (Nat.beq x.n n) (some _)<|look m n)=none
        have:Nat.beq x.n n=false:=by rw [Bool.eq_false_iff];intro q;exact e (Nat.eq_of_beq_eq_true q)
        rw [this];exact q
       obtain⟨z,hz,e⟩:=i1 n this
       exact⟨z,List.mem_cons_of_mem _ hz,e⟩
     ·by_cases e:z=x
      ·subst e
       refine⟨t',l,l',tl,tl',hp,hu,?_⟩
       show(cnd (Nat.beq z.n z.n) (some _)<|look m _)=_
       rw [Nat.beq_refl];rfl
      ·have hz':z∈ls:=by
        rcases List.mem_cons.1 hz with q|q
        ·exact absurd q e
        ·exact q
       obtain⟨t2,l2,l2',tl2,tl2',g1,g2,g3⟩:=i2 z hz'
       refine⟨t2,l2,l2',tl2,tl2',g1,g2,?_⟩
       show(cnd (Nat.beq x.n z.n) (some _)<|look m _)=_
       have:Nat.beq x.n z.n=false:=by
        rw [Bool.eq_false_iff];intro q
        exact e (hn x z List.mem_cons_self hz (Nat.eq_of_beq_eq_true q)).symm
       rw [this];exact g3
    ·cases h1
   ·cases h1
  ·cases h
def φ2_ (φ φ':Nat→Addr) (os:List Nat) (d n:Nat):Addr:=if hasN os n=true then φ' (3000+(n-(4000+8*d)))else φ n
theorem allFresh_spec {bl:Nat→Blk}:∀(l:List Nat),allFresh bl l=true→∀n,n∈l→bl n= .fresh
 | [],_,n,h=>by cases h
 |m::l,h,n,hn=>by
  unfold allFresh at h
  split at h
  ·rename_i hm
   rcases List.mem_cons.1 hn with rfl|hn
   ·exact hm
   ·exact allFresh_spec l h n hn
  ·cases h
theorem splice_nth {t:Ty} {l l':List t.T} {c:Option (Int×Int)} (hc:∀lo hi,c=some (lo,hi)→0≤lo∧lo≤hi∧hi≤l.length) (hl:l'.length=(sub_ c l).length):
  (splice c l l').length=l.length∧∀(i:Nat) y,nth (splice c l l') i=some y→
   (∃k,i=cutLo c+k∧nth l' k=some y)∨(nth l i=some y∧∃lo hi,c=some (lo,hi)∧(i<lo.toNat∨hi.toNat≤i)):=by
 cases hcc:c with
 |none=>subst hcc;exact⟨hl,fun i y hy=>Or.inl ⟨i,by simp [cutLo],hy⟩⟩
 |some q=>
  obtain⟨lo,hi⟩:=q
  obtain⟨h0,h1,h2⟩:=hc lo hi hcc
  subst hcc
  have hl:l'.length=(hi-lo).toNat:=by rw [hl];exact slice_length h0 h1 h2
  constructor
  ·simp only [splice,List.length_append,List.length_take,List.length_drop];omega
  ·intro i y hy
   unfold nth splice at hy
   simp only at hy
   have ht:(l.take lo.toNat).length=lo.toNat:=by rw [List.length_take];omega
   by_cases hi1:i<lo.toNat
   ·rw [List.append_assoc,List.getElem?_append_left (by rw [ht];exact hi1),List.getElem?_take_of_lt hi1]at hy
    exact Or.inr ⟨hy,lo,hi,rfl,Or.inl hi1⟩
   ·rw [List.append_assoc,List.getElem?_append_right (by rw [ht];omega),ht]at hy
    by_cases hi2:i-lo.toNat<l'.length
    ·rw [List.getElem?_append_left hi2]at hy
     exact Or.inl ⟨i-lo.toNat,by simp only [cutLo];omega,hy⟩
    ·rw [List.getElem?_append_right (by omega),List.getElem?_drop]at hy
     refine Or.inr ⟨?_,lo,hi,rfl,Or.inr (by omega)⟩
     unfold nth
     rw [←hy];congr 1;omega
section
variable {w0 w w':World} {Bo:Nat→Nat→Prop} {bl:Nat→Blk} {φ φ':Nat→Addr} {bs us b1 b2:Bl} {ls:List Lent} {d:Nat} {rms:List RM}
structure BackOk (bl:Nat→Blk) (us b1 b2:Bl) (ls:List Lent) (d:Nat) (rms:List RM):Prop where
 usS:∀q,q∈us→q.1<10000
 fresh:∀n,n∈ownNames d 0 rms→bl n= .fresh
 own1:∀n,look b2 n≠none→n∈ownNames d 0 rms
 own2:∀k,ownName d k∈ownNames d 0 rms→k<900∧∃t l,getB us (3000+k)= .live t l true∧look b2 (ownName d k)=some (.live t l true)
 len1:∀n,look b1 n≠none→∃x,x∈ls∧x.n=n
 len2:∀x,x∈ls→∃(t:Ty) (l l':List t.T) (tl tl':Bool),bl x.n= .live t l tl∧getB us (2000+x.j)= .live t l' tl'∧look b1 x.n=some (.live t (splice x.cut l l') tl)
theorem us_foreign (hb:∀q,q∈us→q.1<10000) {bl0:Nat→Blk} {n:Nat} (hn:¬n<10000):updB us bl0 n=bl0 n:=by
 refine updB_none ?_
 cases h:look us n with
 |none=>rfl
 |some b=>exact absurd (hb _ (look_mem _ _ _ h)) hn
theorem lent_look (hb:BackOk bl us b1 b2 ls d rms) (hm:LentOk w bl bs ls) {x:Lent} (hx:x∈ls):∃(t:Ty) (l l':List t.T) (tl tl':Bool),bl x.n= .live t l tl∧updB us (bl0_ bl φ bs ls) (2000+x.j)= .live t l' tl'∧updB (b1++b2) bl x.n= .live t (splice x.cut l l') tl∧bl0_ bl φ bs ls (2000+x.j)= .live t (sub_ x.cut l) false:=by
 obtain⟨t,l,l',tl,tl',h1,h2,h3⟩:=hb.len2 x hx
 obtain⟨g0,t2,l2,tl2,g1,g2⟩:=hm.ls_ x hx
 rw [h1]at g1;cases g1
 refine⟨t,l,l',tl,tl',h1,by rw [updB_of_getB (by rw [h2];intro e;cases e),h2],?_,?_⟩
 ·rw [updB_append];exact updB_some h3
 ·unfold bl0_;rw [if_pos g0,getB_look,g2]
theorem own_look (hb:BackOk bl us b1 b2 ls d rms) (hls:∀x,x∈ls→live (bl x.n)) {k:Nat} (hk:ownName d k∈ownNames d 0 rms):∃t l,(∀bl0,updB us bl0 (3000+k)= .live t l true)∧updB (b1++b2) bl (ownName d k)= .live t l true:=by
 obtain⟨_,t,l,h1,h2⟩:=hb.own2 k hk
 refine⟨t,l,fun bl0=>by rw [updB_of_getB (by rw [h1];intro e;cases e),h1],?_⟩
 rw [updB_append]
 have:look b1 (ownName d k)=none:=by
  cases h:look b1 (ownName d k)with
  |none=>rfl
  |some b=>
   obtain⟨x,hx,e⟩:=hb.len1 _ (by rw [h];intro e;cases e)
   obtain⟨_,_,_,e2⟩:=hls x hx
   rw [e,hb.fresh _ hk]at e2;cases e2
 rw [updB_none this];exact updB_some h2
theorem other_look (hb:BackOk bl us b1 b2 ls d rms) {n:Nat} (h1:∀x,x∈ls→x.n≠n) (h2:n∉ownNames d 0 rms):updB (b1++b2) bl n=bl n:=by
 rw [updB_append,updB_none,updB_none]
 ·cases h:look b2 n with
  |none=>rfl
  |some b=>exact absurd (hb.own1 n (by rw [h];intro e;cases e)) h2
 ·cases h:look b1 n with
  |none=>rfl
  |some b=>
   obtain⟨x,hx,e⟩:=hb.len1 n (by rw [h];intro e;cases e)
   exact absurd e (h1 x hx)
theorem φ2_own {k:Nat} (hk:ownName d k∈ownNames d 0 rms):φ2_ φ φ' (ownNames d 0 rms) d (ownName d k)=φ' (3000+k):=by
 unfold φ2_
 rw [if_pos (hasN_mem.2 hk)]
 unfold ownName
 congr 2;omega
theorem φ2_other {n:Nat} (h:n∉ownNames d 0 rms):φ2_ φ φ' (ownNames d 0 rms) d n=φ n:=by
 unfold φ2_
 rw [if_neg (fun e=>h (hasN_mem.1 e))]
theorem φ0_lent (hm:LentOk w bl bs ls) {x:Lent} (hx:x∈ls):φ0_ bl φ ls (2000+x.j)=addrOf bl φ x:=by
 unfold φ0_;rw [if_pos (hm.ls_ x hx).1,lentOf_spec hm.j_ hx]
theorem own2_ (m:Mem w0 Bo bl φ w) (hm:LentOk w bl bs ls) (hb:BackOk bl us b1 b2 ls d rms) (st:Step w (lentBo bs (φ0_ bl φ ls)) (bl0_ bl φ bs ls) (φ0_ bl φ ls) w (updB us (bl0_ bl φ bs ls)) φ' w') (b:Nat)
  (ho:owns (updB (b1++b2) bl) (φ2_ φ φ' (ownNames d 0 rms) d) b):owns (updB us (bl0_ bl φ bs ls)) φ' b:=by
 obtain⟨n,h1,h2,h3⟩:=ho
 have hls:∀x,x∈ls→live (bl x.n):=fun x hx=>by obtain⟨_,t,l,tl,g,_⟩:=hm.ls_ x hx;exact⟨t,l,tl,g⟩
 have foreign:∀n,live (bl n)→¬lentReal bl φ ls n→(φ n).spot=none→(φ n).block=b→owns (updB us (bl0_ bl φ bs ls)) φ' b:=by
  intro n h1 hx h2 h3
  have e0:bl0_ bl φ bs ls (10000+n)=bl n:=by
   unfold bl0_
   rw [if_neg (by omega),show 10000+n-10000=n from by omega,if_neg hx]
  have e1:φ0_ bl φ ls (10000+n)=φ n:=by unfold φ0_;rw [if_neg (by omega),show 10000+n-10000=n from by omega]
  have e2:updB us (bl0_ bl φ bs ls) (10000+n)=bl n:=by rw [us_foreign hb.usS (by omega),e0]
  have hne:bl0_ bl φ bs ls (10000+n)≠ .fresh:=by rw [e0];obtain⟨_,_,_,q⟩:=h1;rw [q];intro e;cases e
  have e3:=(st.goes.le (10000+n) hne).2 (by rw [e2];obtain⟨_,_,_,q⟩:=h1;rw [q];rfl)
  exact⟨10000+n,by rw [e2];exact h1,by rw [e3,e1];exact h2,by rw [e3,e1];exact h3⟩
 by_cases hx:∃x,x∈ls∧x.n=n
 ·obtain⟨x,hx,rfl⟩:=hx
  have hno:x.n∉ownNames d 0 rms:=by
   intro e;obtain⟨_,_,_,q⟩:=hls x hx;rw [hb.fresh _ e]at q;cases q
  rw [φ2_other hno]at h2 h3
  by_cases hr:lentReal bl φ ls x.n
  ·obtain⟨y,hy,e,hs⟩:=hr
   have:=hm.n_ y x hy hx e
   subst this
   obtain⟨t,l,l',tl,tl',g1,g2,g3,g4⟩:=lent_look hb hm hx
   have e3:=(st.goes.le (2000+y.j) (by rw [g4];intro e;cases e)).2 (by rw [g2];rfl)
   rw [φ0_lent hm hx]at e3
   obtain⟨k1,k2,_⟩:=addr_some hs g1 m
   exact⟨2000+y.j,⟨_,_,_,g2⟩,by rw [e3];exact hs,by rw [e3,k2];exact h3⟩
  ·exact foreign x.n (hls x hx) hr h2 h3
 ·by_cases hn:n∈ownNames d 0 rms
  ·obtain⟨k,rfl,_,_⟩:=ownNames_spec rms 0 n hn
   rw [φ2_own hn]at h2 h3
   obtain⟨t,l,g1,g2⟩:=own_look hb hls hn
   exact⟨3000+k,⟨t,l,true,g1 _⟩,h2,h3⟩
  ·rw [φ2_other hn]at h2 h3
   rw [other_look hb (fun x hx' e=>hx ⟨x,hx',e⟩) hn]at h1
   exact foreign n h1 (fun⟨x,hx',e,_⟩=>hx ⟨x,hx',e⟩) h2 h3
end
section
variable {w0 w w':World} {Bo:Nat→Nat→Prop} {bl:Nat→Blk} {φ φ':Nat→Addr} {bs us b1 b2:Bl} {ls:List Lent} {d:Nat} {rms:List RM}
theorem lentBo_spec (m:Mem w0 Bo bl φ w) (hm:LentOk w bl bs ls) {b o:Nat} (h:lentBo bs (φ0_ bl φ ls) b o):∃x,x∈ls∧∃(t:Ty) (l:List t.T) (tl:Bool),bl x.n= .live t l tl∧(φ x.n).spot=none∧(φ x.n).block=b∧
  (φ x.n).off+cutLo x.cut*t.sz≤o∧o<(φ x.n).off+cutLo x.cut*t.sz+(sub_ x.cut l).length*t.sz:=by
 obtain⟨n,t,l,tl,hn,h1,h2,h3,h4,h5⟩:=h
 obtain⟨x,hx,rfl,_,_,l0,tl0,hb,rfl⟩:=hm.small h1
 rw [φ0_lent hm hx]at h2 h3 h4 h5
 obtain⟨k1,k2,k3,k4⟩:=addr_some h2 hb m
 rw [k4]at h4 h5
 exact⟨x,hx,t,l0,tl0,hb,k1,by rw [←k2];exact h3,h4,h5⟩
theorem addr_real (m:Mem w0 Bo bl φ w) {x:Lent} {t:Ty} {l:List t.T} {tl:Bool} (hb:bl x.n= .live t l tl) (hs:(φ x.n).spot=none) (hne:sub_ x.cut l≠[]):(addrOf bl φ x).spot=none:=by
 unfold addrOf
 rw [hb]
 simp only
 cases x.cut with
 |none=>exact hs
 |some q=>obtain⟨lo,hi⟩:=q;simp only;rw [if_pos hs]
theorem back_step (m:Mem w0 Bo bl φ w) (hm:LentOk w bl bs ls) (hb:BackOk bl us b1 b2 ls d rms) (st:Step w (lentBo bs (φ0_ bl φ ls)) (bl0_ bl φ bs ls) (φ0_ bl φ ls) w (updB us (bl0_ bl φ bs ls)) φ' w'):
  Step w0 Bo bl φ w (updB (b1++b2) bl) (φ2_ φ φ' (ownNames d 0 rms) d) w':=by
 have hls:∀x,x∈ls→live (bl x.n):=fun x hx=>by obtain⟨_,t,l,tl,g,_⟩:=hm.ls_ x hx;exact⟨t,l,tl,g⟩
 have hfr:=st.mem.fr
 have hno:∀x,x∈ls→x.n∉ownNames d 0 rms:=by
  intro x hx e;obtain⟨_,_,_,q⟩:=hls x hx;rw [hb.fresh _ e]at q;cases q
 have hnew:∀k,ownName d k∈ownNames d 0 rms→(φ' (3000+k)).spot=none→w.heap.size≤(φ' (3000+k)).block:=by
  intro k hk hs
  obtain⟨hk9,_⟩:=hb.own2 k hk
  obtain⟨t,l,g1,_⟩:=own_look hb hls hk
  rcases st.mem.lo (3000+k) t l true (by omega) (g1 _) hs with h| ⟨h,_⟩
  ·exact h
  ·cases h
 have hown:=own2_ m hm hb st
 have he:Ext w (owns bl φ) w' (owns (updB (b1++b2) bl) (φ2_ φ φ' (ownNames d 0 rms) d)):=by
  refine hfr.ext (fun b o _ h=>?_) fun b hbw ho=>?_
  ·obtain⟨x,hx,t,l,tl,g1,g2,g3,_⟩:=lentBo_spec m hm h
   exact⟨x.n,⟨_,_,_,g1⟩,g2,g3⟩
  ·obtain⟨n,h1,h2,h3⟩:=ho
   by_cases hx:∃x,x∈ls∧x.n=n
   ·obtain⟨x,hx,rfl⟩:=hx
    rw [φ2_other (hno x hx)]at h2 h3
    exact⟨x.n,hls x hx,h2,h3⟩
   ·by_cases hn:n∈ownNames d 0 rms
    ·obtain⟨k,rfl,_,_⟩:=ownNames_spec rms 0 n hn
     rw [φ2_own hn]at h2 h3
     have:=hnew k hn h2
     omega
    ·rw [φ2_other hn]at h2 h3
     rw [other_look hb (fun x hx' e=>hx ⟨x,hx',e⟩) hn]at h1
     exact⟨n,h1,h2,h3⟩
 have heo:Ext w' (owns (updB us (bl0_ bl φ bs ls)) φ') w' (owns (updB (b1++b2) bl) (φ2_ φ φ' (ownNames d 0 rms) d)):=(Frame'.refl w' (fun _ _=>False)).ext (fun _ _ _ h=>h.elim) fun b _=>hown b
 refine S_gen m (fun n=>(∃x,x∈ls∧x.n=n)∨n∈ownNames d 0 rms) (fun n hn=>?_) (fun n hn hf=>?_) he (fun n hn hl hs o v hv=>?_) (fun n hn=>?_) (fun n k hn h1 h2 h3 h4 h5=>?_) (fun n t l tl hn hlt h1 h2=>?_) ?_
 ·rw [not_or]at hn
  exact⟨other_look hb (fun x hx e=>hn.1 ⟨x,hx,e⟩) hn.2,φ2_other hn.2⟩
 ·rcases hn with⟨x,hx,rfl⟩|hn
  ·obtain⟨t,l,l',tl,tl',g1,g2,g3,g4⟩:=lent_look hb hm hx
   rw [g1,g3]
   have hc:=fun lo hi e=>hm.cut x hx lo hi e t l tl g1
   have hlen:l'.length=(sub_ x.cut l).length:=by
    have:=(st.goes.le (2000+x.j) (by rw [g4];intro e;cases e)).1
    rw [g4,g2]at this
    cases this with
    |same=>rfl
    |wrote h=>exact h
   exact⟨.wrote (splice_nth hc hlen).1,fun _=>φ2_other (hno x hx)⟩
  ·exact absurd (hb.fresh n hn) hf
 ·rw [not_or]at hn
  refine(hfr.cell _ _ (cell_lt hv) fun h=>?_).trans hv
  obtain⟨x,hx,t,l,tl,g1,g2,g3,_⟩:=lentBo_spec m hm h
  exact hn.1 ⟨x,hx,m.uniq _ _ ⟨_,_,_,g1⟩ hl g2 hs g3⟩
 ·rcases hn with⟨x,hx,rfl⟩|hn
  ·obtain⟨t,l,l',tl,tl',g1,g2,g3,g4⟩:=lent_look hb hm hx
   rw [g3,φ2_other (hno x hx)]
   have hc:=fun lo hi e=>hm.cut x hx lo hi e t l tl g1
   have hle:=st.goes.le (2000+x.j) (by rw [g4];intro e;cases e)
   have hlen:l'.length=(sub_ x.cut l).length:=by
    have:=hle.1
    rw [g4,g2]at this
    cases this with
    |same=>rfl
    |wrote h=>exact h
   have hφ:=hle.2 (by rw [g2];rfl)
   rw [φ0_lent hm hx]at hφ
   obtain⟨s1,s2⟩:=splice_nth hc hlen
   have hk:=m.blk x.n
   rw [g1]at hk
   rcases hk with⟨k1,k2⟩| ⟨k1,k2,k3,k4⟩
   ·exact Or.inl ⟨k1,by rw [s1];exact k2⟩
   ·refine Or.inr ⟨k1,Nat.lt_of_lt_of_le k2 hfr.size,fun i y hy=>?_,fun j hj=>?_⟩
    ·rcases s2 i y hy with⟨k,rfl,hy'⟩| ⟨hy',lo,hi,e,hr⟩
     ·have hne:sub_ x.cut l≠[]:=by
       intro e
       have:=nth_lt hy'
       rw [hlen,e]at this;simp at this
      have hsp:=addr_real m g1 k1 hne
      obtain⟨_,a2,_,a4⟩:=addr_some hsp g1 m
      have hk':=st.mem.blk (2000+x.j)
      rw [g2,hφ]at hk'
      rcases hk' with hk'| ⟨_,_,q3,_⟩
      ·exact absurd hsp hk'.1
      ·obtain⟨ci,r1,r2⟩:=q3 k y hy'
       refine⟨ci,?_,Reps_ext heo _ _ _ r2⟩
       rw [a2,a4]at r1
       rw [Nat.add_mul,←Nat.add_assoc]
       exact r1
     ·obtain⟨ci,r1,r2⟩:=k3 i y hy'
      refine⟨ci,fun q v hq=>?_,Reps_ext he _ _ _ r2⟩
      have hcl:=Reps_len _ _ _ r2
      have hqs:q<t.sz:=by
       rcases Nat.lt_or_ge q ci.length with h|h
       ·omega
       ·rw [List.getElem?_eq_none h]at hq;cases hq
      refine(hfr.cell _ _ k2 fun h=>?_).trans (r1 q v hq)
      obtain⟨x2,hx2,t2,l2,tl2,u1,u2,u3,u4,u5⟩:=lentBo_spec m hm h
      have:=hm.n_ x2 x hx2 hx (m.uniq _ _ ⟨_,_,_,u1⟩ (hls x hx) u2 k1 u3)
      subst this
      rw [g1]at u1;cases u1
      obtain⟨c0,c1,c2⟩:=hc lo hi e
      rw [e]at u4 u5
      have hsl:(sub_ (some (lo,hi)) l).length=(hi-lo).toNat:=slice_length c0 c1 c2
      rw [hsl]at u5
      simp only [cutLo]at u4 u5
      rcases hr with hr|hr
      ·have:=mul_lt_of hr hqs;omega
      ·have h1:hi.toNat*t.sz≤i*t.sz:=Nat.mul_le_mul_right _ hr
       have h2:lo.toNat*t.sz+(hi-lo).toNat*t.sz=hi.toNat*t.sz:=by
        rw [←Nat.add_mul];congr 1;omega
       omega
    ·rw [s1]at hj
     exact⟨hfr.some_ _ _ (k4 j hj).1,(hfr.froz _ _ k2).trans (k4 j hj).2⟩
  ·obtain⟨k,rfl,_,_⟩:=ownNames_spec rms 0 n hn
   obtain⟨t,l,g1,g2⟩:=own_look hb hls hn
   rw [φ2_own hn,g2]
   have hk:=st.mem.blk (3000+k)
   rw [g1]at hk
   exact BlkOk_ext heo (fun _ _ _ _ h=>h) hk
 ·have place:∀n,live (updB (b1++b2) bl n)→(φ2_ φ φ' (ownNames d 0 rms) d n).spot=none→(∃k,n=ownName d k∧n∈ownNames d 0 rms)∨(n∉ownNames d 0 rms∧live (bl n)):=by
   intro n hl hs
   by_cases hn:n∈ownNames d 0 rms
   ·obtain⟨k,rfl,_,_⟩:=ownNames_spec rms 0 n hn
    exact Or.inl ⟨k,rfl,hn⟩
   ·by_cases hx:∃x,x∈ls∧x.n=n
    ·obtain⟨x,hx,rfl⟩:=hx
     exact Or.inr ⟨hn,hls x hx⟩
    ·rw [other_look hb (fun x hx' e=>hx ⟨x,hx',e⟩) hn]at hl
     exact Or.inr ⟨hn,hl⟩
  rcases place n h1 h3 with⟨i,rfl,hi⟩| ⟨hi,hi2⟩
  ·rw [φ2_own hi]at h3 h5
   rcases place k h2 h4 with⟨j,rfl,hj⟩| ⟨hj,hj2⟩
   ·rw [φ2_own hj]at h4 h5
    obtain⟨t,l,g1,_⟩:=own_look hb hls hi
    obtain⟨t',l',g1',_⟩:=own_look hb hls hj
    have:=st.mem.uniq (3000+i) (3000+j) ⟨_,_,_,g1 _⟩ ⟨_,_,_,g1' _⟩ h3 h4 h5
    rw [show i=j from by omega]
   ·rw [φ2_other hj]at h4 h5
    have h6:=hnew i hi h3
    have h7:=m.at_ k (by obtain⟨_,_,_,q⟩:=hj2;rw [q];rfl) h4
    omega
  ·rw [φ2_other hi]at h3 h5
   rcases place k h2 h4 with⟨j,rfl,hj⟩| ⟨hj,hj2⟩
   ·rw [φ2_own hj]at h4 h5
    have h6:=hnew j hj h4
    have h7:=m.at_ n (by obtain⟨_,_,_,q⟩:=hi2;rw [q];rfl) h3
    omega
   ·rw [φ2_other hj]at h4 h5
    exact m.uniq n k hi2 hj2 h3 h4 h5
 ·rcases hn with⟨x,hx,rfl⟩|hn
  ·obtain⟨t0,l0,l',tl0,tl',g1,g2,g3,g4⟩:=lent_look hb hm hx
   rw [g3]at h1
   cases h1
   rw [φ2_other (hno x hx)]at h2⊢
   have hc:=fun lo hi e=>hm.cut x hx lo hi e t l0 tl g1
   have hlen:l'.length=(sub_ x.cut l0).length:=by
    have:=(st.goes.le (2000+x.j) (by rw [g4];intro e;cases e)).1
    rw [g4,g2]at this
    cases this with
    |same=>rfl
    |wrote h=>exact h
   rw [(splice_nth hc hlen).1]
   exact m.lo x.n t l0 tl hlt g1 h2
  ·obtain⟨k,rfl,_,_⟩:=ownNames_spec rms 0 n hn
   rw [φ2_own hn]at h2⊢
   exact Or.inl (Nat.le_trans m.fr.size (hnew k hn h2))
 ·refine m.fr.trans hfr fun b o hbw h=>?_
  obtain⟨x,hx,t,l,tl,g1,g2,g3,g4,g5⟩:=lentBo_spec m hm h
  rcases m.lo x.n t l tl (hm.nl x hx) g1 g2 with q| ⟨_,q⟩
  ·omega
  ·have hs:=sub_len (x:=x) (l:=l) fun lo hi e=>hm.cut x hx lo hi e t l tl g1
   have h7:(cutLo x.cut+(sub_ x.cut l).length)*t.sz≤l.length*t.sz:=Nat.mul_le_mul_right _ (by omega)
   rw [Nat.add_mul]at h7
   have:=q (o-(φ x.n).off) (by omega)
   rw [g3]at this
   rwa [show(φ x.n).off+(o-(φ x.n).off)=o from by omega]at this
end
section
variable {w0 w w':World} {Bo:Nat→Nat→Prop} {bl:Nat→Blk} {φ φ':Nat→Addr} {bs us b1 b2:Bl} {ls:List Lent} {d:Nat} {rms:List RM}
theorem backA_rep (m:Mem w0 Bo bl φ w) (hm:LentOk w bl bs ls) (hb:BackOk bl us b1 b2 ls d rms) (st:Step w (lentBo bs (φ0_ bl φ ls)) (bl0_ bl φ bs ls) (φ0_ bl φ ls) w (updB us (bl0_ bl φ bs ls)) φ' w') {x y:A}
  (h:backA ls (ownNames d 0 rms) d x=some y) {v:Value} (hr:RepA w' (updB us (bl0_ bl φ bs ls)) φ' x v):RepA w' (updB (b1++b2) bl) (φ2_ φ φ' (ownNames d 0 rms) d) y v:=by
 have hls:∀x,x∈ls→live (bl x.n):=fun x hx=>by obtain⟨_,t,l,tl,g,_⟩:=hm.ls_ x hx;exact⟨t,l,tl,g⟩
 have hown:=own2_ m hm hb st
 unfold backA at h
 split at h
 ·rename_i k
  cases hc:(Nat.ble 3000 k&&hasN (ownNames d 0 rms) (ownName d (k-3000)))with
  |false=>rw [hc]at h;cases h
  |true=>
   rw [hc]at h
   cases h
   rw [Bool.and_eq_true]at hc
   have h3:3000≤k:=Nat.le_of_ble_eq_true hc.1
   have hk:=hasN_mem.1 hc.2
   obtain⟨i,rfl⟩:∃i,k=3000+i:=⟨k-3000,by omega⟩
   rw [show 3000+i-3000=i from by omega]at hk⊢
   obtain⟨t,l,g1,g2⟩:=own_look hb hls hk
   simp only [RepA,g1,g2,φ2_own hk]at hr⊢
   exact hr
 ·rename_i k p q
  split at h
  ·rename_i x hx
   obtain⟨hxl,rfl⟩:=lentOf_mem hx
   obtain⟨t,l,l',tl,tl',g1,g2,g3,g4⟩:=lent_look hb hm hxl
   have hle:=st.goes.le (2000+x.j) (by rw [g4];intro e;cases e)
   have hlen:l'.length=(sub_ x.cut l).length:=by
    have:=hle.1
    rw [g4,g2]at this
    cases this with
    |same=>rfl
    |wrote h=>exact h
   have hφ:=hle.2 (by rw [g2];rfl)
   rw [φ0_lent hm hxl]at hφ
   have hc:=fun lo hi e=>hm.cut x hxl lo hi e t l tl g1
   have s1:=(splice_nth hc hlen).1
   have hno:x.n∉ownNames d 0 rms:=by
    intro e;obtain⟨_,_,_,q⟩:=hls x hxl;rw [hb.fresh _ e]at q;cases q
   simp only [RepA,g2,hφ]at hr
   obtain⟨p0,p1,p2,ad,cap,rfl,p3,p4⟩:=hr
   rw [hlen]at p2
   have fin:∀lo hi:Int,0≤lo→lo≤hi→hi≤l.length→(hi-lo).toNat=(q-p).toNat→(p=q→lo=hi)→(∀hs:(addrOf bl φ x).spot=none,(addrOf bl φ x).off+p.toNat*t.sz=(φ x.n).off+lo.toNat*t.sz)→
     RepA w' (updB (b1++b2) bl) (φ2_ φ φ' (ownNames d 0 rms) d) (.part x.n lo hi) (.slice ad (q-p).toNat cap):=by
    intro lo hi h0 h1 h2 h3 h5 h4
    simp only [RepA,g3,φ2_other hno,s1]
    refine⟨h0,h1,h2,ad,cap,by rw [h3],by rw [h3];exact p3,?_⟩
    rcases p4 with p4| ⟨p4,rfl,p5⟩
    ·exact Or.inl p4
    ·obtain⟨k1,k2,_⟩:=addr_some p4 g1 m
     rw [h4 p4,k2]at p5
     exact Or.inr ⟨k1,by rw [h4 p4,k2],p5⟩
   split at h
   ·rename_i hcut
    cases h
    rw [hcut]at p2
    refine fin p q p0 p1 p2 rfl id fun hs=>?_
    obtain⟨_,_,_,k4⟩:=addr_some hs g1 m
    rw [k4,hcut];simp [cutLo]
   ·rename_i lo hi hcut
    cases h
    obtain⟨c0,c1,c2⟩:=hc lo hi hcut
    rw [hcut]at p2
    have hsl:(sub_ (some (lo,hi)) l).length=(hi-lo).toNat:=slice_length c0 c1 c2
    rw [hsl]at p2
    refine fin (lo+p) (lo+q) (by omega) (by omega) (by omega) (by congr 1;omega) (fun e=>by rw [e]) fun hs=>?_
    obtain⟨_,_,_,k4⟩:=addr_some hs g1 m
    rw [k4,hcut]
    simp only [cutLo]
    rw [show(lo+p).toNat=lo.toNat+p.toNat from by omega,Nat.add_mul];omega
  ·cases h
 ·cases h;exact byval_own hown (Or.inl ⟨_,_,rfl⟩) hr
 ·cases h;exact byval_own hown (Or.inr ⟨_,_,rfl⟩) hr
 ·cases h
theorem backAs_rep (m:Mem w0 Bo bl φ w) (hm:LentOk w bl bs ls) (hb:BackOk bl us b1 b2 ls d rms) (st:Step w (lentBo bs (φ0_ bl φ ls)) (bl0_ bl φ bs ls) (φ0_ bl φ ls) w (updB us (bl0_ bl φ bs ls)) φ' w'):
  ∀(xs ys:List A) (vs:List Value),backAs ls (ownNames d 0 rms) d xs=some ys→RepAs w' (updB us (bl0_ bl φ bs ls)) φ' xs vs→RepAs w' (updB (b1++b2) bl) (φ2_ φ φ' (ownNames d 0 rms) d) ys vs
 | [],ys,vs,h,hr=>by cases h;cases hr;exact .nil
 |x::xs,ys,vs,h,hr=>by
  unfold backAs at h
  split at h
  ·rename_i y z h1 h2
   cases h
   cases hr with
   |cons r1 r2=>exact .cons (backA_rep m hm hb st h1 r1) (backAs_rep m hm hb st xs z _ h2 r2)
  ·cases h
theorem backAs_nil {d:Nat}:∀(xs ys:List A),backAs [] [] d xs=some ys→ys=xs∧∀x,x∈xs→(∃t z,x= .v t z)∨(∃t z,x= .pv t z)
 | [],ys,h=>by cases h;exact⟨rfl,fun x h=>by cases h⟩
 |x::xs,ys,h=>by
  unfold backAs at h
  split at h
  ·rename_i y z h1 h2
   cases h
   obtain⟨i1,i2⟩:=backAs_nil xs z h2
   have:y=x∧((∃t z,x= .v t z)∨(∃t z,x= .pv t z)):=by
    unfold backA at h1
    split at h1
    ·simp [hasN]at h1
    ·simp [lentOf]at h1
    ·cases h1;exact⟨rfl,Or.inl ⟨_,_,rfl⟩⟩
    ·cases h1;exact⟨rfl,Or.inr ⟨_,_,rfl⟩⟩
    ·cases h1
   obtain⟨rfl,hx⟩:=this
   exact⟨by rw [i1],fun q hq=>by rcases List.mem_cons.1 hq with rfl|hq;exact hx;exact i2 q hq⟩
  ·cases h
theorem RepAs_own' {w:World} {bl bl':Nat→Blk} {φ φ':Nat→Addr} (ho:∀b,owns bl' φ' b→owns bl φ b) {xs:List A} {vs:List Value} (hx:∀x,x∈xs→(∃t z,x= .v t z)∨(∃t z,x= .pv t z)) (h:RepAs w bl φ xs vs):RepAs w bl' φ' xs vs:=by
 induction h with
 |nil=>exact .nil
 |cons h _ ih=>exact .cons (byval_own ho (hx _ List.mem_cons_self) h) (ih fun x hx'=>hx x (List.mem_cons_of_mem _ hx'))
theorem backV_rep (m:Mem w0 Bo bl φ w) (hm:LentOk w bl bs ls) (hb:BackOk bl us b1 b2 ls d rms) (st:Step w (lentBo bs (φ0_ bl φ ls)) (bl0_ bl φ bs ls) (φ0_ bl φ ls) w (updB us (bl0_ bl φ bs ls)) φ' w') {x y:V}
  (h:backV ls (ownNames d 0 rms) d x=some y) {v:Value} (hr:RepV w' (updB us (bl0_ bl φ bs ls)) φ' x v):RepV w' (updB (b1++b2) bl) (φ2_ φ φ' (ownNames d 0 rms) d) y v:=by
 unfold backV at h
 split at h
 ·split at h
  ·rename_i y h1;cases h;exact backA_rep m hm hb st h1 hr
  ·cases h
 ·split at h
  ·rename_i cs h1
   cases h
   obtain⟨rfl,hx⟩:=backAs_nil _ _ h1
   obtain⟨cv,e1,e2⟩:=hr
   exact⟨cv,e1,RepAs_own' (own2_ m hm hb st) hx e2⟩
  ·cases h
 ·split at h
  ·rename_i ws h1
   cases h
   obtain⟨cv,e1,e2⟩:=hr
   exact⟨cv,e1,backAs_rep m hm hb st _ _ _ h1 e2⟩
  ·cases h
end
section
variable {P:Program} {w0:World} {Bo:Nat→Nat→Prop} {pb:Nat→Blk} {R:Type} {K:KV R} {r:R} {E:Env}
theorem CallSem.mono {f:Nat} {args:Array Value} {w:World} {Q Q':Value→World→Prop} (h:CallSem P f args w Q) (hq:∀v w',Q v w'→Q' v w'):CallSem P f args w Q':=by
 rcases h with⟨h1,h2⟩| ⟨v,w',h1,h2⟩
 ·exact Or.inl ⟨h1,h2.mono fun e w' ⟨v,e1,e2⟩=>⟨v,e1,hq _ _ e2⟩⟩
 ·exact Or.inr ⟨v,w',h1,hq _ _ h2⟩
theorem RepVs_append {w:World} {bl:Nat→Blk} {φ:Nat→Addr} {xs ys:List V} {us vs:List Value} (h:RepVs w bl φ xs us) (k:RepVs w bl φ ys vs):RepVs w bl φ (xs++ys) (us++vs):=by
 induction h with
 |nil=>exact k
 |cons h _ ih=>exact .cons h ih
theorem RepAs_V {w:World} {bl:Nat→Blk} {φ:Nat→Addr} {xs:List A} {us:List Value} (h:RepAs w bl φ xs us):RepVs w bl φ (xs.map V.a) us:=by
 induction h with
 |nil=>exact .nil
 |cons h _ ih=>exact .cons h ih
theorem lent_cuts {mc:Nat→Bool} {w:World} {bl:Nat→Blk} {φ:Nat→Addr} {j:Nat} {ms:List PM} {args asx:List V} {bs:Bl} {ls:List Lent} (h:ArgsR mc pb j ms args asx bs ls):∀vs,RepVs w bl φ args vs→
  ∀x,x∈ls→∀lo hi,x.cut=some (lo,hi)→∀t l tl,bl x.n= .live t l tl→0≤lo∧lo≤hi∧hi≤l.length:=by
 induction h with
 |nil=>intro vs _ x hx;cases hx
 | @cons j m v a b c ms vs asx bs cs h1 h2 ih=>
  intro us hv x hx lo hi hc t l tl hb
  cases hv with
  |cons r1 r2=>
   rcases List.mem_append.1 hx with hx|hx
   ·cases h1 with
    |d=>cases hx
    |fn hcm=>rw [(capM_lnts hcm).2 x hx]at hc;cases hc
    | @lent n cut t0 l0 tl0 hp=>
     rw [List.mem_singleton]at hx
     subst hx
     simp only at hc hb
     subst hc
     have r1:RepA w bl φ (.part n lo hi) _:=r1
     simp only [RepA,hb]at r1
     exact⟨r1.1,r1.2.1,r1.2.2.1⟩
   ·exact ih _ r2 x hx lo hi hc t l tl hb
theorem shrunk_ok {v:V} {us:Bl} {ls:List Lent} {d:Nat} {rms:List RM} (h:shrunk pb rms ls d v us K=some r):∃v' us',K v' us'=some r∧
  ∀(bl:Nat→Blk) (φ φ':Nat→Addr) (w w':World) (u:Value),Agree pb bl→Step w0 Bo bl φ w (updB us bl) φ' w'→RepV w' (updB us bl) φ' v u→
   ∃φ'',Step w0 Bo bl φ w (updB us' bl) φ'' w'∧RepV w' (updB us' bl) φ'' v' u:=by
 have same:K v us=some r→∃v' us',K v' us'=some r∧
  ∀(bl:Nat→Blk) (φ φ':Nat→Addr) (w w':World) (u:Value),Agree pb bl→Step w0 Bo bl φ w (updB us bl) φ' w'→RepV w' (updB us bl) φ' v u→
   ∃φ'',Step w0 Bo bl φ w (updB us' bl) φ'' w'∧RepV w' (updB us' bl) φ'' v' u:=fun h=>⟨v,us,h,fun bl φ φ' w w' u _ h1 h2=>⟨φ',h1,h2⟩⟩
 unfold shrunk at h
 split at h
 ·rename_i n p q
  cases hc:(Nat.blt n 10000&&ls.any (fun x=>Nat.beq x.n n&&x.cut.isNone))with
  |false=>rw [hc,cond_false]at h;exact same h
  |true=>
   rw [hc,cond_true]at h
   rw [Bool.and_eq_true,Nat.blt_eq]at hc
   split at h
   ·rename_i t l hn hd
    refine⟨_,_,h,fun bl φ φ' w w' u ha st hr=>?_⟩
    have agr:∀m,updB us pb m≠ .dead→updB us bl m=updB us pb m:=by
     intro m hm
     unfold updB at hm⊢
     cases hl:look us m with
     |some b=>rfl
     |none=>rw [hl]at hm;exact ha m hm
    have hn':updB us bl n= .live t l true:=by rw [agr n (by rw [hn];intro e;cases e),hn]
    have hd':updB us bl (ownName d 0)= .fresh:=by rw [agr _ (by rw [hd];intro e;cases e),hd]
    have hnd:n≠ownName d 0:=by intro e;rw [←e,hn']at hd';cases hd'
    rw [updB_cons,updB_cons]
    simp only [RepV,RepA,hn']at hr
    obtain⟨p0,p1,p2,ad,cap,rfl,p3,p4⟩:=hr
    have q0:(0:Int)≤q:=p1
    have hlen:(l.take q.toNat).length=(q-Int.ofNat 0).toNat:=by
     rw [List.length_take]
     have:(q-Int.ofNat 0).toNat=q.toNat:=by simp
     omega
    by_cases hs:(φ' n).spot=none
    ·have harr:=blk_arr st.mem (Or.inl ⟨true,hn'⟩) hs
     have hk:=st.mem.blk n
     rw [hn']at hk
     rcases hk with hk| ⟨_,_,_,hcells⟩
     ·exact absurd hs hk.1
     have sg:=S_grow st.mem hc.1 hn' hs hd' (l.take q.toNat) (b:= .dead) (Or.inl ⟨(by rw [hn'];intro e;cases e),rfl⟩) (Frame'.refl w' _) (fun i y hy=>harr i y (by
      unfold nth at hy⊢
      rw [List.getElem?_take]at hy
      split at hy
      ·exact hy
      ·cases hy)) (fun j hj=>hcells j (Nat.lt_of_lt_of_le hj (Nat.mul_le_mul_right _ (by rw [List.length_take];exact Nat.min_le_right _ _))))
     refine⟨_,st.trans sg,?_⟩
     simp only [RepV,RepA,set1_ne hnd.symm,set1_self,setφ_self]
     rcases p4 with rfl| ⟨_,rfl,p5⟩
     ·refine Or.inl ⟨by rw [hlen];omega,ad,?_⟩
      congr 1;omega
     ·have e0:(Int.ofNat 0).toNat*t.sz=0:=by simp
      rw [e0,Nat.add_zero]at p5⊢
      have hadr:(⟨(φ' n).block,(φ' n).off,none⟩:Addr)=φ' n:=by cases hq:φ' n with|mk b o s=>rw [hq]at hs;simp only at hs;rw [hs]
      rw [hadr]
      exact Or.inr ⟨hs,cap,by rw [hlen],by rw [hlen];exact p3,p5⟩
    ·have hk:=st.mem.blk n
     rw [hn']at hk
     rcases hk with hk|hk
     ·have hl0:l=[]:=List.eq_nil_of_length_eq_zero hk.2
      subst hl0
      have e1:List.take q.toNat ([]:List t.T)=[]:=List.take_nil
      rw [e1]
      have sn:=S_none st.mem hd' t
      have sd:=S_dead sn.mem (n:=n) (by rw [set1_ne hnd,hn'];intro e;cases e)
      refine⟨_,st.trans (sn.trans sd),RepV_goes sd.goes _ _ ?_⟩
      rcases p4 with rfl| ⟨p4,_⟩
      ·have:(q-Int.ofNat 0).toNat=0:=by omega
       rw [this]
       exact none_rep
      ·exact absurd p4 hs
     ·exact absurd hk.1 hs
   ·exact same h
 ·exact same h
theorem aCall1_ok {orc:Orc R} (horc:OrcOk P orc) (hpb:∀n,pb n≠ .dead→n<10000) {fv:V} {args:List V} {d:Nat} (h:aCall1 E orc fv args d pb K=some r):∃v' us f caps,K v' us=some r∧fv= .cl f caps∧
  ∀(bl:Nat→Blk) (φ:Nat→Addr) (w:World) (vs cv:List Value),Agree pb bl→Mem w0 Bo bl φ w→RepVs w bl φ args vs→RepAs w bl φ caps cv→
   CallSem P f (vs++cv).toArray w fun v w'=>∃φ',Step w0 Bo bl φ w (updB us bl) φ' w'∧RepV w' (updB us bl) φ' v' v:=by
 unfold aCall1 at h
 split at h
 ·rename_i f caps
  split at h
  ·rename_i pms rms hpar hres
   split at h
   ·rename_i asx bs1 ls1 cs bs2 ls2 hargs hcaps
    simp only at h
    generalize hoth:otherNames (hasN E.mc) pms args++fnNames (hasN E.mc) (.cl f caps)=others at h
    generalize hbs:bs1++bs2=bs at h
    generalize hls:ls1++ls2=ls at h
    cases hchk:(noDup (ls.map (·.n))&&noDup (ls.map (·.j))&& !(ls.any fun x=>hasN others x.n)&&allFresh pb (ownNames d 0 rms)&&(ls.all fun x=>Nat.blt x.j 900)&&Nat.ble rms.length 8)with
    |false=>rw [hchk]at h;cases h
    |true=>
     rw [hchk,cond_true]at h
     simp only [Bool.and_eq_true,Bool.not_eq_true',List.any_eq_false,List.all_eq_true]at hchk
     obtain⟨⟨⟨⟨⟨c1,c0⟩,c2⟩,c3⟩,c4⟩,c5⟩:=hchk
     obtain⟨rv,us,hk,hct⟩:=horc _ _ _ _ _ h
     split at hk
     ·rename_i v b1 b2 hv hb1 hb2
      obtain⟨v',us',hk,hshr⟩:=shrunk_ok (w0:=w0) (Bo:=Bo) hk
      refine⟨v',us',f,caps,hk,rfl,fun bl φ w vs cv ha hm hr hcv=>?_⟩
      have hA:=mkArgs_spec _ _ _ _ _ _ hargs
      have hLn:Lnts pb bs ls:=by rw [←hbs,←hls];exact hA.lnts.append (capM_lnts hcaps).1
      obtain⟨l1,l2⟩:=hLn.spec c0
      have l3:∀x y,x∈ls→y∈ls→x.j=y.j→x=y:=noDup_map ls c0
      have hin1:∀x,x∈ls1→x∈ls:=fun x hx=>by rw [←hls];exact List.mem_append_left _ hx
      have hin2:∀x,x∈ls2→x∈ls:=fun x hx=>by rw [←hls];exact List.mem_append_right _ hx
      have l4:=noDup_spec ls c1
      have hnot:∀x,x∈ls→x.n∉others:=fun x hx e=>by
       have:=c2 x hx
       rw [hasN_mem.2 e]at this
       exact this rfl
      have st:=frzs_step ha hm others
      have hblx:∀x,x∈ls→∀t l tl,pb x.n= .live t l tl→updB (frzs pb others) bl x.n= .live t l tl:=fun x hx t l tl e=>by
       rw [frzs_not _ _ (hnot x hx),ha x.n (by rw [e];intro q;cases q),e]
      have hL:LentOk w (updB (frzs pb others) bl) bs ls:=by
       refine⟨l1,fun x hx=>?_,l3,l4,fun x hx=>?_,fun x hx lo hi hc t l tl hb=>?_⟩
       ·obtain⟨t,l,tl,g1,g2⟩:=l2 x hx
        have hj:Nat.blt x.j 900=true:=c4 x hx
        rw [Nat.blt_eq]at hj
        exact⟨by omega,t,l,tl,hblx x hx t l tl g1,g2⟩
       ·obtain⟨t,l,tl,g1,g2⟩:=l2 x hx
        exact hpb _ (by rw [g1];intro e;cases e)
       ·rw [frzs_not _ _ (hnot x hx)]at hb
        have hx':x∈ls1∨x∈ls2:=List.mem_append.1 (by rw [hls];exact hx)
        rcases hx' with hx'|hx'
        ·exact lent_cuts hA vs hr x hx' lo hi hc t l tl hb
        ·rw [(capM_lnts hcaps).2 x hx']at hc;cases hc
      have hB:BackOk (updB (frzs pb others) bl) us b1 b2 ls d rms:=by
       obtain⟨o1,o2⟩:=backOwn_spec rms 0 b2 hb2
       obtain⟨e1,e2⟩:=backLents_spec ls b1 l4 hb1
       refine⟨hct.1,fun n hn=>?_,o1,fun k hk=>⟨?_,o2 k hk⟩,e1,fun x hx=>?_⟩
       ·have hp:=allFresh_spec _ c3 n hn
        have hbn:bl n= .fresh:=by rw [ha n (by rw [hp];intro e;cases e),hp]
        rcases frzs_cases ha others n with e| ⟨_,_,_,e,_⟩
        ·rw [e,hbn]
        ·rw [hbn]at e;cases e
       ·obtain⟨k',q1,_,q3⟩:=ownNames_spec rms 0 _ hk
        have:=ownName_inj q1
        have:=Nat.le_of_ble_eq_true c5
        omega
       ·obtain⟨t,l,l',tl,tl',g1,g2,g3⟩:=e2 x hx
        exact⟨t,l,l',tl,tl',hblx x hx t l tl g1,g2,g3⟩
      have hargs':=args_rep ha hm hL st.mem hA hin1 (fun x hx=>hnot x (hin1 x hx)) (fun n hn=>by rw [←hoth];exact List.mem_append_left _ hn) vs hr
      have hcaps'':=capM_rep ha hm hL st.mem hcaps hin2 (fun x hx=>hnot x (hin2 x hx)) (fun n hn=>by rw [←hoth];exact List.mem_append_right _ hn) hcv
      have hloc:Local (bl0_ (updB (frzs pb others) bl) φ bs ls) bs:=fun n hn=>by unfold bl0_;rw [if_pos hn]
      have hcall:=hct.2 w (bl0_ (updB (frzs pb others) bl) φ bs ls) (φ0_ (updB (frzs pb others) bl) φ ls) (vs++cv) hloc (mem0 st.mem hL) (RepVs_append hargs' (RepAs_V hcaps''))
      refine hcall.mono fun u w'=>?_
      rintro⟨φ',k1,k2⟩
      have hback:=back_step st.mem hL hB k1
      refine hshr bl φ (φ2_ φ φ' (ownNames d 0 rms) d) w w' u ha ?_ ?_
      ·show Step w0 Bo bl φ w (updB (b1++b2++frzs pb others) bl) _ w'
       rw [updB_append];exact st.trans hback
      ·show RepV w' (updB (b1++b2++frzs pb others) bl) _ v u
       rw [updB_append];exact backV_rep st.mem hL hB k1 hv k2
     ·cases hk
   ·cases h
  ·cases h
 ·cases h
theorem fu_rep {w:World} {bl:Nat→Blk} {φ:Nat→Addr} {f:Nat} {v:Value} (h:RepV w bl φ (.a (.v .fu (f:Int))) v):RepV w bl φ (.cl f []) v:=by
 obtain⟨cs,h1,h2⟩:=h
 have h1:cs=[.func (.func f) #[] #[]]:=h1
 subst h1
 have h2:[Value.func (.func f) #[] #[]]=[v]:=h2
 exact⟨[],(List.head_eq_of_cons_eq h2).symm, .nil⟩
theorem aCallF_ok {orc:Orc R} (horc:OrcOk P orc) (hpb:∀n,pb n≠ .dead→n<10000) {x:Int} {args:List V} {d:Nat}:∀fs:List Nat,aCallF E orc x args d pb K fs=some r→∃(v':V) (us:Bl) (f:Nat),K v' us=some r∧x=(f:Int)∧
  ∀(bl:Nat→Blk) (φ:Nat→Addr) (w:World) (vs cv:List Value),Agree pb bl→Mem w0 Bo bl φ w→RepVs w bl φ args vs→RepAs w bl φ [] cv→
   CallSem P f (vs++cv).toArray w fun v w'=>∃φ',Step w0 Bo bl φ w (updB us bl) φ' w'∧RepV w' (updB us bl) φ' v' v
 | [],h=>by cases h
 |f::fs,h=>by
  unfold aCallF at h
  cases hb:noRes E d f with
  |false=>rw [hb]at h;exact aCallF_ok horc hpb fs h
  |true=>
   rw [hb,cond_true]at h
   split at h
   ·rename_i hx
    obtain⟨v',us,f',caps,k1,k2,k3⟩:=aCall1_ok (P:=P) (w0:=w0) (Bo:=Bo) horc hpb h
    cases k2
    exact⟨v',us,f,k1,hx,k3⟩
   ·exact aCallF_ok horc hpb fs h
theorem aCall_ok {orc:Orc R} (horc:OrcOk P orc) (hpb:∀n,pb n≠ .dead→n<10000) {fv:V} {args:List V} {d:Nat} (h:aCall E orc fv args d pb K=some r):∃(v':V) (us:Bl) (f:Nat) (caps:List A),K v' us=some r∧
  (∀(w:World) (bl:Nat→Blk) (φ:Nat→Addr) (v:Value),RepV w bl φ fv v→RepV w bl φ (.cl f caps) v)∧
  ∀(bl:Nat→Blk) (φ:Nat→Addr) (w:World) (vs cv:List Value),Agree pb bl→Mem w0 Bo bl φ w→RepVs w bl φ args vs→RepAs w bl φ caps cv→
   CallSem P f (vs++cv).toArray w fun v w'=>∃φ',Step w0 Bo bl φ w (updB us bl) φ' w'∧RepV w' (updB us bl) φ' v' v:=by
 unfold aCall at h
 split at h
 ·obtain⟨v',us,f,k1,k2,k3⟩:=aCallF_ok (P:=P) (w0:=w0) (Bo:=Bo) horc hpb _ h
  subst k2
  exact⟨v',us,f,[],k1,fun w bl φ v hv=>fu_rep hv,k3⟩
 ·obtain⟨v',us,f,caps,k1,k2,k3⟩:=aCall1_ok (P:=P) (w0:=w0) (Bo:=Bo) horc hpb h
  subst k2
  exact⟨v',us,f,caps,k1,fun w bl φ v hv=>hv,k3⟩
theorem opCall_ok {orc:Orc R} (horc:OrcOk P orc) (hpb:∀n,pb n≠ .dead→n<10000) {ρ:Operand→V} {d:Nat} {o:Oper} {c:Call} {fo:Operand} (ho:o.op= .call c) (hc:c.callee= .value fo) (h:actOp E orc ρ d pb K o.op=some r):
  ∃v' us,K v' us=some r∧OpSem P w0 Bo o ρ pb v' us:=by
 rw [ho]at h
 simp only [actOp,hc]at h
 obtain⟨v',us,f,caps,h1,h2,h3⟩:=aCall_ok (P:=P) (w0:=w0) (Bo:=Bo) horc hpb h
 refine⟨v',us,h1,fun F n hF bl φ w a next Q ha hm hr hn=>?_⟩
 have hops:o.op.operands= #[fo]++c.args:=by rw [ho];simp only [Op.operands,Call.operands,hc]
 have hf:=hr fo (by rw [hops];simp)
 obtain⟨cv,e1,e2⟩:=h2 _ _ _ _ hf
 have hargs:=RepVs_map (ρ:=ρ) (w:=w) (bl:=bl) (φ:=φ) (a:=a) c.args.toList (fun x hx=>hr x (by rw [hops];simp;exact Or.inr (by simpa using hx)))
 have hcall:=h3 bl φ w _ cv ha hm hargs e2
 have hexec:(execOp a.eval o).run P w=(callFunc f (c.args.toList.map a.eval++cv).toArray).run P w:=by
  have:(#[]:Array Value)++c.args.map a.eval++cv.toArray=(c.args.toList.map a.eval++cv).toArray:=by
   apply Array.ext';simp
  simp only [execOp,ho,resolve,hc,e1,Deferred.ofValue,Sem.run_bind,Sem.run_pure,Result.andThen_ok,invoke,this]
 refine⟨fun f _=>hF.fn f,?_⟩
 rw [Oper.semAt_eq _ _ _ (fun c' e=>by rw [ho]at e;cases e),hexec]
 rcases hcall with⟨k1,k2⟩| ⟨v,w',k1,k2⟩
 ·rw [k1,Oper.uponIn_enter]
  refine⟨fun e=>(by rw [hF.dep]at e;cases e),CallsIn.mono (hF.calls k2) fun e w'=>?_⟩
  rintro⟨v,rfl,φ',q1,q2⟩
  exact hn v w' φ' q1 q2
 ·obtain⟨φ',q1,q2⟩:=k2
  rw [k1,Oper.uponIn_value]
  exact hn v w' φ' q1 q2
theorem act_ok (hE:EnvOk P E) {orc:Orc R} (horc:OrcOk P orc) (hpb:∀n,pb n≠ .dead→n<10000) {ρ:Operand→V} {d:Nat} {o:Oper} (h:actOp E orc ρ d pb K o.op=some r):∃v' us,K v' us=some r∧OpSem P w0 Bo o ρ pb v' us:=by
 by_cases hc:∃c f,o.op= .call c∧c.callee= .value f
 ·obtain⟨c,f,h1,h2⟩:=hc
  exact opCall_ok horc hpb h1 h2 h
 ·exact actOp_ok hE hpb (fun c f h1 h2=>hc ⟨c,f,h1,h2⟩) h
end
def opT (T:Nat→V):Operand→V
 | .tmp t=>T t
 | .const c=>ofConst c
 | .func f=> .cl f []
 | .global _=> .a .u
theorem opv_eq (tm:List (Nat×V)):opv tm=opT (getV tm):=by funext x;cases x<;>rfl
def gateT (ops:Array Oper) (o:Oper) (T:Nat→V):Option Bool:=
 match o.guard with
 |none=>some true
 |some (j,w)=>match (ops[j]?).bind (·.dst)with
  |some t=>(match T t with
   | .a (.v .bo x)=>some (x==w)
   | .tup []=>some false
   |_=>none)
  |none=>none
theorem gate_eq (ops:Array Oper) (o:Oper) (tm:List (Nat×V)):gate ops o tm=gateT ops o (getV tm):=rfl
def setT (T:Nat→V) (d:Option Nat) (v:V) (t:Nat):V:=if d=some t then v else T t
theorem putV_eq (d:Option Nat) (v:V) (tm:List (Nat×V)):getV (putV d v tm)=setT (getV tm) d v:=by
 cases d with
 |none=>funext t;rfl
 |some d=>
  funext t
  unfold putV setT
  show(cnd (Nat.beq d t) (v)<|getV tm t)=_
  by_cases h:d=t
  ·subst h;rw [Nat.beq_refl,if_pos rfl];rfl
  ·have hb:Nat.beq d t=false:=by rw [Bool.eq_false_iff];intro e;exact h (Nat.eq_of_beq_eq_true e)
   rw [hb,if_neg (by intro e;cases e;exact h rfl)];rfl
def special (n:Nat):Prop:=(2000≤n∧n<3000)∨10000≤n
structure RelS (N:Nat) (w0:World) (Bo:Nat→Nat→Prop) (bl0:Nat→Blk) (φ0:Nat→Addr) (T:Nat→V) (B:Nat→Blk) (bl:Nat→Blk) (φ:Nat→Addr) (a:Act) (w:World):Prop where
 loc:∀n,n<10000→bl n=B n
 mem:Mem w0 Bo bl φ w
 tm:∀t,RepV w bl φ (T t) (a.tmps.getD t undef)
 size:a.tmps.size=N
 defers:a.defers=[]
 far:∀n,10000≤n→bl n=bl0 n
 keep:∀n,special n→(bl0 n= .fresh→bl n= .fresh)∧(bl0 n≠ .fresh→BlkLe (bl0 n) (bl n)∧(lf (bl n)→φ n=φ0 n))
structure Rc where
 i:Nat
 run:Bool
 ρ:Operand→V
 pb:Nat→Blk
 v:V
 us:Bl
 ns:List Nat
 ro:Bool
section
variable (P:Program) (N:Nat) (w0:World) (Bo:Nat→Nat→Prop) (ops:Array Oper)
structure Fits (T:Nat→V) (B:Nat→Blk) (r:Rc) (o:Oper):Prop where
 op:ops[r.i]?=some o
 gate:gateT ops o T=some r.run
 dst:dstOk N o.dst=true
 vals:r.run=true→∀x,x∈o.op.operands→opT T x=r.ρ x
 blks:∀n,r.pb n≠ .dead→n<10000∧n∈r.ns∧B n=r.pb n
 sem:r.run=true→OpSem P w0 Bo o r.ρ r.pb r.v r.us
 skip:r.run=false→r.v= .tup []∧r.us=[]
 us:∀q,q∈r.us→q.1<10000∧q.1∈r.ns
 ro:r.ro=true→r.us=[]
 len:∀q,q∈r.us→2000≤q.1→q.1<3000→B q.1≠ .fresh
inductive Chain:(Nat→V)→(Nat→Blk)→List Rc→(Nat→V)→(Nat→Blk)→Prop
 |nil (T:Nat→V) (B:Nat→Blk):Chain T B [] T B
 |cons {T T':Nat→V} {B B':Nat→Blk} {r:Rc} {rs:List Rc} (o:Oper):Fits P N w0 Bo ops T B r o→Chain (setT T o.dst r.v) (updB r.us B) rs T' B'→Chain T B (r::rs) T' B'
end
section
variable {P:Program} {N:Nat} {w0:World} {Bo:Nat→Nat→Prop} {bl0:Nat→Blk} {φ0:Nat→Addr} {ops:Array Oper}
theorem eval_rep {T:Nat→V} {B bl:Nat→Blk} {φ:Nat→Addr} {a:Act} {w:World} (h:RelS N w0 Bo bl0 φ0 T B bl φ a w) (x:Operand):RepV w bl φ (opT T x) (a.eval x):=by
 cases x with
 |tmp t=>exact h.tm t
 |func f=>exact⟨[],rfl, .nil⟩
 |global g=>trivial
 |const c=>
  show RepV w bl φ (ofConst c) c
  unfold ofConst
  split
  ·exact rep_bo.2 rfl
  ·exact rep_it.2 rfl
  ·exact rep_st.2 rfl
  ·exact⟨none,rfl⟩
  ·rfl
  ·trivial
theorem put_rel {T:Nat→V} {B bl bl':Nat→Blk} {φ φ':Nat→Addr} {a:Act} {w w':World} (h:RelS N w0 Bo bl0 φ0 T B bl φ a w) {d:Option Nat} (hd:dstOk N d=true) {v:V} {u:Value} {us:Bl} (hus:∀q,q∈us→q.1<10000) (hlen:∀q,q∈us→2000≤q.1→q.1<3000→B q.1≠ .fresh)
  (hs:Step w0 Bo bl φ w (updB us bl) φ' w') (hv:RepV w' (updB us bl) φ' v u):RelS N w0 Bo bl0 φ0 (setT T d v) (updB us B) (updB us bl) φ' (a.put d u) w':=by
 have hfar:∀n,10000≤n→updB us bl n=bl n:=by
  intro n hn
  refine updB_none ?_
  cases hl:look us n with
  |none=>rfl
  |some b=>have:=hus _ (look_mem _ _ _ hl);simp only at this;omega
 refine⟨fun n hn=>?_,hs.mem,fun t=>?_,?_,?_,fun n hn=>by rw [hfar n hn];exact h.far n hn,fun n hn=>?_⟩
 rotate_left 4
 ·obtain⟨k1,k2⟩:=h.keep n hn
  refine⟨fun e=>?_,fun e=>?_⟩
  ·rw [←k1 e]
   refine updB_none ?_
   cases hl:look us n with
   |none=>rfl
   |some b=>
    exfalso
    have hm:=look_mem _ _ _ hl
    have hlt:=hus _ hm
    simp only at hlt
    rcases hn with hn|hn
    ·have:=hlen _ hm hn.1 hn.2
     apply this
     rw [←h.loc n hlt];exact k1 e
    ·omega
  ·obtain⟨q1,q2⟩:=k2 e
   obtain⟨q3,q4⟩:=hs.goes.le n (q1.ne e)
   refine⟨q1.trans q3,fun hl=>?_⟩
   have hl0:lf (bl n):=by
    cases hb:bl n with
    |fresh=>exact absurd hb (q1.ne e)
    |dead=>rw [hb]at q3;cases hq:updB us bl n<;>rw [hq]at q3 hl<;>cases q3<;>cases hl
    |husk=>rw [hb]at q3;cases hq:updB us bl n<;>rw [hq]at q3 hl<;>cases q3<;>cases hl
    |live=>rfl
    |froz=>rfl
   rw [q4 hl,q2 hl0]
 ·unfold updB
  cases look us n with
  |none=>exact h.loc n hn
  |some b=>rfl
 ·unfold setT
  cases d with
  |none=>simpa [Act.put]using RepV_goes hs.goes _ _ (h.tm t)
  |some d=>
   by_cases e:d=t
   ·subst e
    rw [if_pos rfl]
    have hlt:d<a.tmps.size:=by
     rw [h.size]
     have:Nat.blt d N=true:=hd
     rwa [Nat.blt_eq]at this
    simpa [Act.put,Array.getD,hlt]using hv
   ·rw [if_neg (by intro q;cases q;exact e rfl)]
    have:(a.put (some d) u).tmps.getD t undef=a.tmps.getD t undef:=by
     simp [Act.put,Array.getElem?_setIfInBounds_ne e]
    rw [this]
    exact RepV_goes hs.goes _ _ (h.tm t)
 ·cases d<;>simp [Act.put,h.size]
 ·cases d<;>simp [Act.put,h.defers]
theorem wanted_of {T:Nat→V} {B bl:Nat→Blk} {φ:Nat→Addr} {a:Act} {w:World} (h:RelS N w0 Bo bl0 φ0 T B bl φ a w) {o:Oper} {b:Bool} (hg:gateT ops o T=some b):Region.wanted o (yielded ops a.tmps)=b:=by
 unfold gateT at hg
 unfold Region.wanted
 split at hg
 ·rename_i hgd;rw [hgd];cases hg;rfl
 ·rename_i j wnt hgd
  rw [hgd]
  split at hg
  ·rename_i t ht
   have hy:yielded ops a.tmps j=match a.tmps[t]? with|some (.bool b)=>some b|_=>none:=by
    unfold yielded
    rw [ht];rfl
   simp only [hy]
   split at hg
   ·rename_i x hx
    have hv:=h.tm t
    rw [hx]at hv
    have hv:=rep_bo.1 hv
    cases hg
    cases hq:a.tmps[t]? with
    |none=>simp [Array.getD_eq_getD_getElem?,hq,undef]at hv
    |some u=>
     simp [Array.getD_eq_getD_getElem?,hq]at hv
     subst hv
     simp only
     cases x<;>cases wnt<;>rfl
   ·rename_i hx
    have hv:=h.tm t
    rw [hx]at hv
    obtain⟨cv,e1,e2⟩:=hv
    cases e2
    cases hg
    cases hq:a.tmps[t]? with
    |none=>rfl
    |some u=>
     simp [Array.getD_eq_getD_getElem?,hq]at e1
     subst e1;rfl
   ·cases hg
  ·cases hg
theorem rc_sound {F:Fence} {n:Nat} (hF:Wide F) {T:Nat→V} {B bl:Nat→Blk} {φ:Nat→Addr} {a:Act} {w:World} {Q:Exit→Act→World→Prop} {r:Rc} {o:Oper} {K:Act→World→Prop} (hf:Fits P N w0 Bo ops T B r o) (h:RelS N w0 Bo bl0 φ0 T B bl φ a w)
  (hn:∀bl' φ' a' w',RelS N w0 Bo bl0 φ0 (setT T o.dst r.v) (updB r.us B) bl' φ' a' w'→K a' w'):wpOpIn F n P ops Q r.i K a w:=by
 have hw:=wanted_of h hf.gate
 unfold wpOpIn
 rw [hf.op]
 simp only [hw]
 cases hrun:r.run with
 |true=>
  simp only [if_true]
  refine hf.sem hrun F n hF bl φ w a K Q (fun n hn=>?_) h.mem (fun x hx=>?_) fun v w' φ' hs hv=>?_
  ·obtain⟨k1,_,k3⟩:=hf.blks n hn
   rw [h.loc n k1,k3]
  ·rw [←hf.vals hrun x hx];exact eval_rep h x
  ·exact hn _ _ _ _ (put_rel (bl':=bl) h hf.dst (fun q hq=>(hf.us q hq).1) hf.len hs hv)
 |false=>
  simp only [Bool.false_eq_true,if_false]
  obtain⟨e1,e2⟩:=hf.skip hrun
  refine⟨fun f _=>hF.fn f,hn bl φ _ w ?_⟩
  have:=put_rel (bl':=bl) (φ':=φ) (w':=w) (us:=[]) h hf.dst (fun q hq=>by cases hq) (fun q hq=>by cases hq) (.refl h.mem) (v:= .tup []) (u:=undef) ⟨[],rfl, .nil⟩
  rw [e1,e2]
  exact this
theorem chain_sound {F:Fence} {n:Nat} (hF:Wide F) {Q:Exit→Act→World→Prop} {rs:List Rc} {T T':Nat→V} {B B':Nat→Blk} (hc:Chain P N w0 Bo ops T B rs T' B'):∀{bl:Nat→Blk} {φ:Nat→Addr} {a:Act} {w:World},RelS N w0 Bo bl0 φ0 T B bl φ a w→
  (∀bl' φ' a' w',RelS N w0 Bo bl0 φ0 T' B' bl' φ' a' w'→Q .normal a' w')→wpOpsIn F n P ops Q (rs.map (·.i)) a w:=by
 induction hc with
 |nil T B=>intro bl φ a w h hq;exact hq _ _ _ _ h
 |cons o hf _ ih=>
  intro bl φ a w h hq
  rw [List.map_cons,wpOpsIn_cons]
  exact rc_sound hF hf h fun bl' φ' a' w' h'=>ih h' hq
def indepR (ops:Array Oper) (r s:Rc):Prop:=
 (∀x y,ops[r.i]?=some x→ops[s.i]?=some y→x.apart ops y=true)∧((r.ro=true∧s.ro=true)∨∀n,n∈r.ns→n∈s.ns→False)
theorem setT_comm {T:Nat→V} {d e:Option Nat} {u v:V} (h:∀k,d=some k→e≠some k):setT (setT T d u) e v=setT (setT T e v) d u:=by
 funext t
 unfold setT
 by_cases h1:d=some t
 ·have h2:=h t h1
  rw [if_pos h1,if_neg h2]
  simp [h1,h2]
 ·simp [h1]
theorem gate_set {T:Nat→V} {o:Oper} {d:Option Nat} {v:V} (h:∀k,d=some k→k∉o.looksAt ops):gateT ops o (setT T d v)=gateT ops o T:=by
 unfold gateT
 split
 ·rfl
 ·rename_i j w hg
  split
  ·rename_i t ht
   have:setT T d v t=T t:=by
    unfold setT
    rw [if_neg]
    intro e
    refine h t e ?_
    unfold Oper.looksAt
    rw [List.mem_append]
    right
    rw [hg]
    simp only [ht]
    exact List.mem_singleton.2 rfl
   rw [this]
  ·rfl
theorem opT_set {T:Nat→V} {o:Oper} {d:Option Nat} {v:V} (h:∀k,d=some k→k∉o.looksAt ops) {x:Operand} (hx:x∈o.op.operands):opT (setT T d v) x=opT T x:=by
 cases x with
 |tmp t=>
  show setT T d v t=T t
  unfold setT
  rw [if_neg]
  intro e
  refine h t e ?_
  unfold Oper.looksAt
  rw [List.mem_append]
  left
  exact List.mem_filterMap.2 ⟨.tmp t,by simpa using hx,rfl⟩
 |_=>rfl
theorem Fits.move {T:Nat→V} {B:Nat→Blk} {r s:Rc} {x y:Oper} (hr:Fits P N w0 Bo ops T B r x) (hsop:ops[s.i]?=some y) (hi:indepR ops r s) (hus:∀q,q∈r.us→q.1<10000∧q.1∈r.ns) (hsus:∀q,q∈s.us→q.1<10000∧q.1∈s.ns) (hro:s.ro=true→s.us=[]):
  Fits P N w0 Bo ops (setT T y.dst s.v) (updB s.us B) r x:=by
 have hap:=Oper.apart_spec (hi.1 x y hr.op hsop)
 refine⟨hr.op,?_,hr.dst,fun hrun z hz=>?_,fun n hn=>?_,hr.sem,hr.skip,hr.us,hr.ro,fun q hq h1 h2=>?_⟩
 rotate_left 3
 ·have h0:=hr.len q hq h1 h2
  have hns:=(hr.us q hq).2
  have:look s.us q.1=none:=by
   cases hl:look s.us q.1 with
   |none=>rfl
   |some b=>
    exfalso
    have hmem:=look_mem _ _ _ hl
    rcases hi.2 with⟨h3,_⟩|h
    ·rw [hr.ro h3]at hq;cases hq
    ·exact h q.1 hns (hsus _ hmem).2
  rw [updB_none this];exact h0
 ·rw [gate_set hap.2.2];exact hr.gate
 ·rw [opT_set hap.2.2 hz];exact hr.vals hrun z hz
 ·obtain⟨k1,k2,k3⟩:=hr.blks n hn
  refine⟨k1,k2,?_⟩
  rw [←k3]
  refine updB_none ?_
  cases hl:look s.us n with
  |none=>rfl
  |some b=>
   exfalso
   have hmem:=look_mem _ _ _ hl
   rcases hi.2 with⟨_,h2⟩|h
   ·rw [hro h2]at hmem;cases hmem
   ·exact h n k2 (hsus _ hmem).2
theorem Fits.back {T:Nat→V} {B:Nat→Blk} {r s:Rc} {x y:Oper} (hr:Fits P N w0 Bo ops T B r x) (hs:Fits P N w0 Bo ops (setT T x.dst r.v) (updB r.us B) s y) (hi:indepR ops r s):Fits P N w0 Bo ops T B s y:=by
 have hap:=Oper.apart_spec (hi.1 x y hr.op hs.op)
 refine⟨hs.op,?_,hs.dst,fun hrun z hz=>?_,fun n hn=>?_,hs.sem,hs.skip,hs.us,hs.ro,fun q hq h1 h2=>?_⟩
 rotate_left 3
 ·have h0:=hs.len q hq h1 h2
  have hns:=(hs.us q hq).2
  have:look r.us q.1=none:=by
   cases hl:look r.us q.1 with
   |none=>rfl
   |some b=>
    exfalso
    have hmem:=look_mem _ _ _ hl
    rcases hi.2 with⟨_,h3⟩|h
    ·rw [hs.ro h3]at hq;cases hq
    ·exact h q.1 (hr.us _ hmem).2 hns
  rwa [updB_none this]at h0
 ·have:=hs.gate;rwa [gate_set hap.1]at this
 ·have:=hs.vals hrun z hz;rwa [opT_set hap.1 hz]at this
 ·obtain⟨k1,k2,k3⟩:=hs.blks n hn
  refine⟨k1,k2,?_⟩
  rw [←k3]
  refine(updB_none ?_).symm
  cases hl:look r.us n with
  |none=>rfl
  |some b=>
   exfalso
   have hmem:=look_mem _ _ _ hl
   rcases hi.2 with⟨h1,_⟩|h
   ·rw [hr.ro h1]at hmem;cases hmem
   ·exact h n (hr.us _ hmem).2 k2
theorem updB_comm {us vs:Bl} {B:Nat→Blk} (h:∀n,look us n≠none→look vs n≠none→False):updB us (updB vs B)=updB vs (updB us B):=by
 funext n
 cases h1:look us n with
 |none=>cases h2:look vs n with
  |none=>rw [updB_none h1,updB_none h2,updB_none h2,updB_none h1]
  |some b=>rw [updB_none h1,updB_some h2,updB_some h2]
 |some b=>cases h2:look vs n with
  |none=>rw [updB_some h1,updB_none h2,updB_some h1]
  |some c=>exact(h n (by rw [h1];intro e;cases e) (by rw [h2];intro e;cases e)).elim
theorem chain_front {pre post:List Rc} {r:Rc}:∀{T T':Nat→V} {B B':Nat→Blk},Chain P N w0 Bo ops T B (pre++r::post) T' B'→(∀s,s∈pre→indepR ops s r)→Chain P N w0 Bo ops T B (r::(pre++post)) T' B':=by
 induction pre with
 |nil=>intro T T' B B' h _;exact h
 |cons s pre ih=>
  intro T T' B B' h hi
  cases h with
  |cons x hs hrest=>
   have h2:=ih hrest fun z hz=>hi z (List.mem_cons_of_mem _ hz)
   cases h2 with
   |cons y hr hrest2=>
    have hi0:=hi s List.mem_cons_self
    have hap:=Oper.apart_spec (hi0.1 x y hs.op hr.op)
    refine .cons y (hs.back hr hi0) ?_
    show Chain P N w0 Bo ops _ _ (s::(pre++post)) T' B'
    refine .cons x (hs.move hr.op hi0 hs.us hr.us hr.ro) ?_
    rw [setT_comm (fun k e=>fun q=>hap.2.1 k q e),updB_comm (us:=s.us) (vs:=r.us)]
    ·exact hrest2
    ·intro n h1 h2
     obtain⟨b,hb⟩:=Option.ne_none_iff_exists'.1 h1
     obtain⟨c,hc⟩:=Option.ne_none_iff_exists'.1 h2
     have m1:=look_mem _ _ _ hb
     have m2:=look_mem _ _ _ hc
     rcases hi0.2 with⟨q,_⟩|q
     ·rw [hs.ro q]at m1;cases m1
     ·exact q n (hs.us _ m1).2 (hr.us _ m2).2
end
section
variable {P:Program} {N:Nat} {w0:World} {Bo:Nat→Nat→Prop} {bl0:Nat→Blk} {φ0:Nat→Addr} {ops:Array Oper} {E:Env} {R:Type} {r:R}
def metR (c:Rc):Met:=⟨c.i,c.ns,c.ro⟩
theorem okUs_spec {ns:List Nat} {ro:Bool} {B:Nat→Blk}:∀(us:Bl),okUs ns ro B us=true→(∀q,q∈us→q.1<10000∧q.1∈ns)∧(ro=true→us=[])∧(∀q,q∈us→2000≤q.1→q.1<3000→B q.1≠ .fresh)
 | [],_=>⟨(fun q h=>by cases h),fun _=>rfl,(fun q h=>by cases h)⟩
 | (n,b)::us,h=>by
  unfold okUs at h
  cases hr:ro with
  |true=>rw [hr]at h;cases h
  |false=>
   rw [hr,cond_false]at h
   cases hc:(hasN ns n&&Nat.blt n 10000&&(!isLent n||notFresh (B n)))with
   |false=>rw [hc]at h;cases h
   |true=>
    rw [hc,cond_true,←hr]at h
    rw [Bool.and_eq_true,Bool.and_eq_true]at hc
    have hlt:=hc.1.2
    rw [Nat.blt_eq]at hlt
    obtain⟨i1,_,i3⟩:=okUs_spec us h
    refine⟨fun q hq=>?_,(fun e=>by cases e),fun q hq h1 h2=>?_⟩
    ·rcases List.mem_cons.1 hq with rfl|hq
     ·exact⟨hlt,hasN_mem.1 hc.1.1⟩
     ·exact i1 q hq
    ·rcases List.mem_cons.1 hq with rfl|hq
     ·simp only at h1 h2⊢
      have hl:isLent n=true:=by
       unfold isLent
       rw [Bool.and_eq_true,Nat.blt_eq]
       exact⟨Nat.ble_eq_true_of_le h1,h2⟩
      have:=hc.2
      rw [hl]at this
      intro e;rw [e]at this;cases this
     ·exact i3 q hq h1 h2
theorem fork_spec {src:Bool} {v:V} {K:V→Option R} (h:fork src v K=some r):∃v2,K v2=some r∧∀w bl φ u,RepV w bl φ v u→RepV w bl φ v2 u:=by
 unfold fork at h
 cases src with
 |false=>exact⟨v,h,fun _ _ _ _ h=>h⟩
 |true=>
  rw [cond_true]at h
  split at h
  ·rename_i x
   cases hx:(x:Bool)with
   |true=>rw [hx]at h;exact⟨_,h,fun w bl φ u hu=>hu⟩
   |false=>rw [hx]at h;exact⟨_,h,fun w bl φ u hu=>hu⟩
  ·rename_i p hp
   split at h
   ·rename_i hpp
    exact⟨_,h,fun w bl φ u hu=>rep_bo.2 (by have hu:u= .bool (@decide p hp):=hu;rw [hu,decide_eq_true hpp])⟩
   ·rename_i hpp
    exact⟨_,h,fun w bl φ u hu=>rep_bo.2 (by have hu:u= .bool (@decide p hp):=hu;rw [hu,decide_eq_false hpp])⟩
  ·cases h
theorem pick_spec {ns:List Nat} {B:Nat→Blk} {n:Nat} (h:pick ns B n≠ .dead):n<10000∧n∈ns∧B n=pick ns B n:=by
 unfold pick at h⊢
 cases hc:(hasN ns n&&Nat.blt n 10000)with
 |false=>rw [hc]at h;exact absurd rfl h
 |true=>
  rw [Bool.and_eq_true]at hc
  have:=hc.2
  rw [Nat.blt_eq]at this
  exact⟨this,hasN_mem.1 hc.1,rfl⟩
theorem evOps_ok (hE:EnvOk P E) {orc:Orc R} (horc:OrcOk P orc) {src:List Nat}:∀(l:List (Nat×Oper)) (st:St) (ms:List Met) (K:St→List Met→Option R),(∀q,q∈l→ops[q.1]?=some q.2)→evOps E orc N ops src l st ms K=some r→
  ∃st' rs,K st' ((rs.map metR).reverse++ms)=some r∧Chain P N w0 Bo ops (getV st.tm) (getB st.bl) rs (getV st'.tm) (getB st'.bl)∧rs.map (·.i)=l.map (·.1)
 | [],st,ms,K,_,h=>⟨st,[],h, .nil _ _,rfl⟩
 | (i,o)::l,st,ms,K,hl,h=>by
  unfold evOps at h
  cases hd:dstOk N o.dst with
  |false=>rw [hd]at h;cases h
  |true=>
   rw [hd,cond_true]at h
   have hop:ops[i]?=some o:=hl (i,o) List.mem_cons_self
   have hl':∀q,q∈l→ops[q.1]?=some q.2:=fun q hq=>hl q (List.mem_cons_of_mem _ hq)
   split at h
   ·rename_i hg
    simp only at h
    obtain⟨v',us,h1,h2⟩:=act_ok (P:=P) (w0:=w0) (Bo:=Bo) hE horc (fun n hn=>(pick_spec hn).1) h
    cases hk:okUs (opNames E (opv st.tm) (o.dst.getD 0) o.op) (opRo o.op) (getB st.bl) us with
    |false=>rw [hk]at h1;cases h1
    |true=>
     rw [hk,cond_true]at h1
     obtain⟨v2,h3,h4⟩:=fork_spec h1
     obtain⟨st',rs,k1,k2,k3⟩:=evOps_ok hE horc l _ _ K hl' h3
     obtain⟨u1,u2,u3⟩:=okUs_spec us hk
     refine⟨st',⟨i,true,opv st.tm,pick (opNames E (opv st.tm) (o.dst.getD 0) o.op) (getB st.bl),v2,us,opNames E (opv st.tm) (o.dst.getD 0) o.op,opRo o.op⟩::rs,?_,?_,?_⟩
     ·rw [List.map_cons,List.reverse_cons,List.append_assoc];exact k1
     ·refine .cons o ⟨hop,by rw [gate_eq]at hg;exact hg,hd,fun _ x _=>by rw [opv_eq],fun n hn=>pick_spec hn,fun _=>?_,(fun e=>by cases e),u1,u2,u3⟩ ?_
      ·intro F n hF bl φ w a next Q ha hm hr hn
       exact h2 F n hF bl φ w a next Q ha hm hr fun v w' φ' hs hv=>hn v w' φ' hs (h4 _ _ _ _ hv)
      ·have e1:=putV_eq o.dst v2 st.tm
       have e2:=getB_append us st.bl
       show Chain P N w0 Bo ops (setT (getV st.tm) o.dst v2) (updB us (getB st.bl)) rs _ _
       rw [←e1,←e2];exact k2
     ·rw [List.map_cons,List.map_cons,k3]
   ·rename_i hg
    obtain⟨st',rs,k1,k2,k3⟩:=evOps_ok hE horc l _ _ K hl' h
    refine⟨st',⟨i,false,fun _=> .a .u,fun _=> .dead, .tup [],[],[],true⟩::rs,?_,?_,?_⟩
    ·rw [List.map_cons,List.reverse_cons,List.append_assoc];exact k1
    ·refine .cons o ⟨hop,by rw [gate_eq]at hg;exact hg,hd,(fun e=>by cases e),fun n hn=>absurd rfl hn,(fun e=>by cases e),fun _=>⟨rfl,rfl⟩,(fun q hq=>by cases hq),fun _=>rfl,(fun q hq=>by cases hq)⟩ ?_
     have e1:=putV_eq o.dst (.tup []) st.tm
     show Chain P N w0 Bo ops (setT (getV st.tm) o.dst (.tup [])) (updB [] (getB st.bl)) rs _ _
     rw [←e1,updB_nil];exact k2
    ·rw [List.map_cons,List.map_cons,k3]
   ·cases h
theorem edgeMask_bit {acc:List Nat} {j:Nat}:∀(es:List Edge),(edgeMask acc es).testBit j=true→∃e,e∈es∧Region.binds .any e=true∧(e.on=j∨(acc.getD e.on 0).testBit j=true)
 | [],h=>by simp [edgeMask]at h
 |e::es,h=>by
  unfold edgeMask at h
  rw [Nat.testBit_or,Bool.or_eq_true]at h
  rcases h with h|h
  ·cases hb:Region.binds .any e with
   |false=>rw [hb]at h;simp at h
   |true=>
    rw [hb,cond_true,Nat.testBit_or,Bool.or_eq_true]at h
    refine⟨e,List.mem_cons_self,hb,?_⟩
    rcases h with h|h
    ·rw [Nat.testBit_two_pow]at h;exact Or.inl (of_decide_eq_true h)
    ·exact Or.inr h
  ·obtain⟨e',h1,h2,h3⟩:=edgeMask_bit es h
   exact⟨e',List.mem_cons_of_mem _ h1,h2,h3⟩
theorem masks_spec:∀(os:List Oper) (acc:List Nat),∃l,masks os acc=acc++l∧l.length=os.length∧∀(k:Nat) (o:Oper),os[k]?=some o→(masks os acc).getD (acc.length+k) 0=edgeMask ((masks os acc).take (acc.length+k)) o.after.toList
 | [],acc=>⟨[],by simp [masks],rfl,fun k o h=>by simp at h⟩
 |o::os,acc=>by
  obtain⟨l,h1,h2,h3⟩:=masks_spec os (acc++[edgeMask acc o.after.toList])
  refine⟨edgeMask acc o.after.toList::l,by unfold masks;rw [h1];simp,by simp [h2],fun k o' hk=>?_⟩
  unfold masks
  cases k with
  |zero=>
   simp at hk;subst hk
   rw [h1]
   simp [List.getD,List.take_append]
  |succ k=>
   have:=h3 k o' (by simpa using hk)
   rw [List.length_append]at this
   simp only [List.length_cons,List.length_nil]at this
   rw [show acc.length+(k+1)=acc.length+(0+1)+k from by omega]
   exact this
theorem mask_bit {i j:Nat} {o:Oper} (ho:ops[i]?=some o) (h:((masks ops.toList []).getD i 0).testBit j=true):∃e,e∈o.after.toList∧Region.binds .any e=true∧(e.on=j∨((masks ops.toList []).getD e.on 0).testBit j=true):=by
 obtain⟨l,h1,h2,h3⟩:=masks_spec ops.toList []
 have:=h3 i o (by simpa using ho)
 simp only [List.length_nil,Nat.zero_add]at this
 rw [this]at h
 obtain⟨e,k1,k2,k3⟩:=edgeMask_bit _ h
 refine⟨e,k1,k2,k3.imp id fun k=>?_⟩
 have hlt:e.on<i∨¬e.on<i:=by omega
 rcases hlt with hlt|hlt
 ·rwa [List.getD_eq_getElem?_getD,List.getElem?_take_of_lt hlt,←List.getD_eq_getElem?_getD]at k
 ·rw [List.getD_eq_getElem?_getD,List.getElem?_take_eq_none (by omega)]at k
  simp at k
def down (ops:Array Oper) (D:Nat→Prop):Prop:=∀i o,D i→ops[i]?=some o→∀e,e∈o.after.toList→Region.binds .any e=true→D e.on
theorem down_mask {D:Nat→Prop} (hd:down ops D) (hx:∀i,D i→∃o,ops[i]?=some o) (hlt:∀i o,ops[i]?=some o→∀e,e∈o.after.toList→Region.binds .any e=true→e.on<i) {j:Nat}:∀(n i:Nat) (o:Oper),i<n→ops[i]?=some o→(∀e,e∈o.after.toList→Region.binds .any e=true→D e.on)→
  ((masks ops.toList []).getD i 0).testBit j=true→D j
 |0,i,o,h,_,_,_=>by omega
 |n+1,i,o,h,ho,hr,hb=>by
  obtain⟨e,k1,k2,k3⟩:=mask_bit ho hb
  have hD:=hr e k1 k2
  rcases k3 with rfl|k3
  ·exact hD
  ·obtain⟨o',ho'⟩:=hx _ hD
   exact down_mask hd hx hlt n e.on o' (by have:=hlt i o ho e k1 k2;omega) ho' (fun e' h1 h2=>hd _ o' hD ho' e' h1 h2) k3
theorem any_sound {F:Fence} {n:Nat} (hF:Wide F) {Q:Exit→Act→World→Prop} {T':Nat→V} {B':Nat→Blk} (hlt:∀i o,ops[i]?=some o→∀e,e∈o.after.toList→Region.binds .any e=true→e.on<i):
  ∀(fuel:Nat) (rs:List Rc) (listed:Array Bool) (T:Nat→V) (B bl:Nat→Blk) (φ:Nat→Addr) (a:Act) (w:World),rs.length≤fuel→listed.size=ops.size→
   (∀i,i∈rs.map (·.i)↔i<ops.size∧listed.getD i true=false)→rs.Pairwise (fun x y=>x.i<y.i)→
   rs.Pairwise (fun x y=>((masks ops.toList []).getD y.i 0).testBit x.i=true∨indepR ops x y)→down ops (fun i=>i<ops.size∧listed.getD i false=true)→
   Chain P N w0 Bo ops T B rs T' B'→RelS N w0 Bo bl0 φ0 T B bl φ a w→(∀bl' φ' a' w',RelS N w0 Bo bl0 φ0 T' B' bl' φ' a' w'→Q .normal a' w')→
   wpAnyIn F n P .any ops Q fuel listed a w
 |fuel,rs,listed,T,B,bl,φ,a,w,hfuel,hsz,hin,hinc,hind,hdown,hc,hrel,hq=>by
  have hls:∀i,i<ops.size→(listed.getD i true=false↔¬listed.getD i false=true):=by
   intro i hi
   rw [←hsz]at hi
   simp [Array.getD,hi]
  have hready:∀i,i∈Region.ready .any ops listed→∃o,ops[i]?=some o∧i<ops.size∧i∈rs.map (·.i)∧∀e,e∈o.after.toList→Region.binds .any e=true→e.on<ops.size∧listed.getD e.on false=true:=by
   intro i hi
   obtain⟨h1,o,h2,h3⟩:=mem_ready.1 hi
   have hi2:i<ops.size:=(Array.getElem?_eq_some_iff.1 h2).1
   refine⟨o,h2,hi2,(hin i).2 ⟨hi2,h1⟩,fun e he hb=>⟨?_,h3 e (by simpa using he) hb⟩⟩
   have:=hlt i o h2 e he hb;omega
  have hnil:Region.ready .any ops listed=[]→rs=[]:=by
   intro hr
   cases rs with
   |nil=>rfl
   |cons r rs=>
    exfalso
    have hm:r.i∈(r::rs).map (·.i):=by simp
    obtain⟨h1,h2⟩:=(hin r.i).1 hm
    have ho:ops[r.i]?=some ops[r.i]:=Array.getElem?_eq_getElem h1
    have:r.i∈Region.ready .any ops listed:=by
     refine mem_ready.2 ⟨h2,_,ho,fun e he hb=>?_⟩
     have hl:=hlt _ _ ho e (by simpa using he) hb
     by_cases hle:listed.getD e.on false=true
     ·exact hle
     ·exfalso
      have:e.on∈(r::rs).map (·.i):=(hin e.on).2 ⟨by omega,(hls e.on (by omega)).2 hle⟩
      rw [List.map_cons,List.mem_cons]at this
      rcases this with h|h
      ·omega
      ·obtain⟨s,hs,e1⟩:=List.mem_map.1 h
       have:=(List.pairwise_cons.1 hinc).1 s hs
       omega
    rw [hr]at this;cases this
  have hend:rs=[]→Q .normal a w:=by
   intro e;subst e
   cases hc
   exact hq _ _ _ _ hrel
  cases fuel with
  |zero=>
   have:rs=[]:=List.eq_nil_of_length_eq_zero (by omega)
   refine⟨?_,hend this⟩
   cases hr:Region.ready .any ops listed with
   |nil=>rfl
   |cons i is=>
    obtain⟨o,_,_,h,_⟩:=hready i (by rw [hr];exact List.mem_cons_self)
    rw [this]at h;cases h
  |succ fuel=>
   refine⟨fun hr=>hend (hnil hr),fun i hi=>?_⟩
   obtain⟨o,ho,hi2,him,hed⟩:=hready i hi
   obtain⟨r,hr,rfl⟩:=List.mem_map.1 him
   obtain⟨pre,post,rfl⟩:=List.append_of_mem hr
   have hpi:∀s,s∈pre→indepR ops s r:=by
    intro s hs
    rw [List.pairwise_append]at hind
    rcases hind.2.2 s hs r List.mem_cons_self with h|h
    ·exfalso
     have hD:=down_mask (D:=fun i=>i<ops.size∧listed.getD i false=true) hdown (fun i hi=>⟨_,Array.getElem?_eq_getElem hi.1⟩) hlt (r.i+1) r.i o (by omega) ho hed h
     have:s.i∈(pre++r::post).map (·.i):=List.mem_map.2 ⟨s,List.mem_append_left _ hs,rfl⟩
     exact(hls _ hD.1).1 ((hin s.i).1 this).2 hD.2
    ·exact h
   have hc2:=chain_front hc hpi
   cases hc2 with
   |cons x hf hrest=>
    refine rc_sound hF hf hrel fun bl' φ' a' w' hrel'=>?_
    have hne:∀s,s∈pre++post→s.i≠r.i:=by
     intro s hs e
     rw [List.pairwise_append]at hinc
     rcases List.mem_append.1 hs with h|h
     ·have:=hinc.2.2 s h r List.mem_cons_self;omega
     ·have:=(List.pairwise_cons.1 hinc.2.1).1 s h;omega
    refine any_sound hF hlt fuel (pre++post) (listed.setIfInBounds r.i true) _ _ bl' φ' a' w' ?_ (by simp [hsz]) (fun k=>?_) ?_ ?_ ?_ hrest hrel' hq
    ·simp only [List.length_append,List.length_cons]at hfuel⊢;omega
    ·constructor
     ·intro hk
      obtain⟨s,hs,rfl⟩:=List.mem_map.1 hk
      have hs':s.i∈(pre++r::post).map (·.i):=List.mem_map.2 ⟨s,by
       rcases List.mem_append.1 hs with h|h
       ·exact List.mem_append_left _ h
       ·exact List.mem_append_right _ (List.mem_cons_of_mem _ h),rfl⟩
      obtain⟨q1,q2⟩:=(hin s.i).1 hs'
      exact⟨q1,by rw [getD_set_ne true (fun e=>hne s hs e.symm)];exact q2⟩
     ·rintro⟨q1,q2⟩
      by_cases e:r.i=k
      ·subst e
       simp [Array.getD,hsz,q1]at q2
      ·rw [getD_set_ne true e]at q2
       obtain⟨s,hs,e2⟩:=List.mem_map.1 ((hin k).2 ⟨q1,q2⟩)
       refine List.mem_map.2 ⟨s,?_,e2⟩
       rcases List.mem_append.1 hs with h|h
       ·exact List.mem_append_left _ h
       ·rcases List.mem_cons.1 h with rfl|h
        ·exact absurd e2 e
        ·exact List.mem_append_right _ h
    ·exact hinc.sublist (by simp)
    ·exact hind.sublist (by simp)
    ·intro k o' hk ho' e he hb
     by_cases ek:r.i=k
     ·subst ek
      rw [ho]at ho';cases ho'
      have:=hed e he hb
      exact⟨this.1,getD_set_true this.2⟩
     ·have hk2:listed.getD k false=true:=by rw [←getD_set_ne false ek];exact hk.2
      have:=hdown k o' ⟨hk.1,hk2⟩ ho' e he hb
      exact⟨this.1,getD_set_true this.2⟩
end
structure ClInv (B:Nat→Blk) (c:Cl):Prop where
 ren:∀n m,look c.ren n=some m→m<10000∧isLF (B n)=true∧look c.bl m=some (B n)
 inj:∀n n' m,look c.ren n=some m→look c.ren n'=some m→n=n'
 bl:∀m b,look c.bl m=some b→m<10000∧((∃n,look c.ren n=some m∧b=B n)∨((∃τ,b= .live τ [] true)∧∀n,look c.ren n≠some m))
 fz:∀n,n∈c.fz→look c.ren n=none
 lent:∀n m,look c.ren n=some m→(isLent n=true∨isLent m=true)→m=n
 own:∀m,isLent m=true→look c.bl m≠none→look c.ren m=some m
structure ClLe (c c':Cl):Prop where
 ren:∀n m,look c.ren n=some m→look c'.ren n=some m
 bl:∀m b,look c.bl m=some b→look c'.bl m=some b
 fz:∀n,n∈c.fz→n∈c'.fz
 old:∀m,look c.bl m≠none→(∀n,look c.ren n≠some m)→∀n,look c'.ren n≠some m
theorem ClLe.refl (c:Cl):ClLe c c:=⟨fun _ _ h=>h,fun _ _ h=>h,fun _ h=>h,fun _ _ h=>h⟩
theorem ClLe.trans {a b c:Cl} (h:ClLe a b) (k:ClLe b c):ClLe a c:=
 ⟨fun n m e=>k.ren n m (h.ren n m e),fun m x e=>k.bl m x (h.bl m x e),fun n e=>k.fz n (h.fz n e),fun m e1 e2=>k.old m (by
  obtain⟨x,hx⟩:=Option.ne_none_iff_exists'.1 e1
  rw [h.bl m x hx];intro q;cases q) (h.old m e1 e2)⟩
section
variable {B:Nat→Blk}
theorem add_ok {c:Cl} (hi:ClInv B c) {n m:Nat} (hm:m<10000) (hl:isLF (B n)=true) (hn:look c.ren n=none) (hf:n∉c.fz) (hb:look c.bl m=none) (hle:(isLent n=true∨isLent m=true)→m=n):
  ClInv B ⟨c.tm,c.bl++[(m,B n)],(n,m)::c.ren,c.fz⟩∧ClLe c ⟨c.tm,c.bl++[(m,B n)],(n,m)::c.ren,c.fz⟩∧look ((n,m)::c.ren) n=some m:=by
 have lk:∀k,look ((n,m)::c.ren) k=if n=k then some m else look c.ren k:=by
  intro k
  show(cnd (Nat.beq n k) (some m)<|look c.ren k)=_
  by_cases e:n=k
  ·subst e;rw [Nat.beq_refl,if_pos rfl];rfl
  ·have:Nat.beq n k=false:=by rw [Bool.eq_false_iff];intro q;exact e (Nat.eq_of_beq_eq_true q)
   rw [this,if_neg e];rfl
 have lb:∀k,look (c.bl++[(m,B n)]) k=match look c.bl k with|some x=>some x|none=>if m=k then some (B n)else none:=by
  intro k;rw [look_append,look_one];cases look c.bl k<;>rfl
 have nom:∀k,look c.ren k≠some m:=by
  intro k e;have:=(hi.ren k m e).2.2;rw [hb]at this;cases this
 refine⟨⟨fun k j e=>?_,fun k k' j e e'=>?_,fun j b e=>?_,fun k hk=>?_,fun k j e hk=>?_,fun j hj e=>?_⟩,⟨fun k j e=>?_,fun j b e=>?_,fun k hk=>hk,fun j h1 h2 k=>?_⟩,by rw [lk,if_pos rfl]⟩
 rotate_left 4
 ·rw [lk]at e
  split at e
  ·rename_i q;cases e;subst q;exact hle hk
  ·exact hi.lent k j e hk
 ·have e:look (c.bl++[(m,B n)]) j≠none:=e
  rw [lb]at e
  show look ((n,m)::c.ren) j=some j
  rw [lk]
  cases hq:look c.bl j with
  |some x=>
   have h2:=hi.own j hj (by rw [hq];intro e;cases e)
   split
   ·rename_i q;subst q;rw [hn]at h2;cases h2
   ·exact h2
  |none=>
   rw [hq]at e
   simp only at e
   split at e
   ·rename_i q;subst q;rw [if_pos (hle (Or.inr hj)).symm]
   ·exact absurd rfl e
 rotate_left 3
 ·rw [lk]at e
  split at e
  ·rename_i q;cases e;subst q
   exact⟨hm,hl,by rw [lb,hb];simp⟩
  ·obtain⟨q1,q2,q3⟩:=hi.ren k j e
   exact⟨q1,q2,by rw [lb,q3]⟩
 ·rw [lk]at e e'
  split at e
  ·rename_i q
   cases e
   split at e'
   ·rename_i q';rw [←q,←q']
   ·exact absurd e' (nom k')
  ·split at e'
   ·cases e';exact absurd e (nom k)
   ·exact hi.inj k k' j e e'
 ·rw [lb]at e
  cases hj:look c.bl j with
  |some x=>
   rw [hj]at e
   cases e
   obtain⟨q1,q2⟩:=hi.bl j b hj
   refine⟨q1,?_⟩
   rcases q2 with⟨k,q3,q4⟩| ⟨q3,q4⟩
   ·refine Or.inl ⟨k,?_,q4⟩
    rw [lk,if_neg]
    ·exact q3
    ·intro e;subst e;rw [hn]at q3;cases q3
   ·refine Or.inr ⟨q3,fun k=>?_⟩
    rw [lk]
    split
    ·intro e;cases e;rw [hb]at hj;cases hj
    ·exact q4 k
  |none=>
   rw [hj]at e
   simp only at e
   split at e
   ·rename_i q;cases e;subst q
    exact⟨hm,Or.inl ⟨n,by rw [lk,if_pos rfl],rfl⟩⟩
   ·cases e
 ·rw [lk,if_neg]
  ·exact hi.fz k hk
  ·intro e;subst e;exact hf hk
 ·show look ((n,m)::c.ren) k=some j
  rw [lk,if_neg]
  ·exact e
  ·intro q;subst q;rw [hn]at e;cases e
 ·show look (c.bl++[(m,B n)]) j=some b
  rw [lb,e]
 ·show look ((n,m)::c.ren) k≠some j
  rw [lk]
  split
  ·intro e;cases e;exact h1 hb
  ·exact h2 k
theorem fresh_none {c:Cl} (hi:ClInv B c) {m:Nat} (h:getB c.bl m= .fresh):look c.bl m=none:=by
 rw [getB_look]at h
 cases hl:look c.bl m with
 |none=>rfl
 |some b=>
  rw [hl]at h
  simp only at h
  subst h
  rcases(hi.bl m _ hl).2 with⟨n,q1,q2⟩| ⟨⟨τ,q⟩,_⟩
  ·have:=(hi.ren n m q1).2.1;rw [←q2]at this;cases this
  ·cases q
theorem clPtr_ok {c c':Cl} (hi:ClInv B c) {n m:Nat} (hlt:n<10000) (hl:isLF (B n)=true) (h:clPtr B c n=some (m,c')):ClInv B c'∧ClLe c c'∧look c'.ren n=some m∧c'.tm=c.tm:=by
 unfold clPtr at h
 split at h
 ·rename_i m' hm;cases h;exact⟨hi, .refl _,hm,rfl⟩
 ·rename_i hn
  split at h
  ·rename_i hf
   cases hc:hasN c.fz n with
   |true=>rw [hc]at h;cases h
   |false=>
    rw [hc]at h
    cases h
    obtain⟨q1,q2,q3⟩:=add_ok hi hlt hl hn (fun e=>by rw [hasN_mem.2 e]at hc;cases hc) (fresh_none hi hf) (fun _=>rfl)
    exact⟨q1,q2,q3,rfl⟩
  ·cases h
theorem clRef_ok {c c':Cl} (hi:ClInv B c) {n t m:Nat} (hlt:n<10000) (hl:isLF (B n)=true) (h:clRef B c n t=some (m,c')):ClInv B c'∧ClLe c c'∧look c'.ren n=some m∧c'.tm=c.tm:=by
 unfold clRef at h
 split at h
 ·rename_i m' hm;cases h;exact⟨hi, .refl _,hm,rfl⟩
 ·rename_i hn
  cases hln:isLent n with
  |true=>rw [hln,cond_true]at h;exact clPtr_ok hi hlt hl h
  |false=>
   rw [hln,cond_false]at h
   split at h
   ·rename_i hf
    cases hc:(hasN c.fz n||!Nat.blt t 2000)with
    |true=>rw [hc]at h;cases h
    |false=>
     rw [hc]at h
     cases h
     rw [Bool.or_eq_false_iff]at hc
     have ht:Nat.blt t 2000=true:=by simpa using hc.2
     rw [Nat.blt_eq]at ht
     obtain⟨q1,q2,q3⟩:=add_ok hi (show t<10000 from by omega) hl hn (fun e=>by rw [hasN_mem.2 e]at hc;cases hc.1) (fresh_none hi hf) (fun e=>by
      rcases e with e|e
      ·rw [hln]at e;cases e
      ·unfold isLent at e
       rw [Bool.and_eq_true]at e
       have:=Nat.le_of_ble_eq_true e.1
       omega)
     exact⟨q1,q2,q3,rfl⟩
   ·cases h
theorem clVal_ok:∀(ns:List Nat) {c c':Cl},ClInv B c→clVal c ns=some c'→ClInv B c'∧ClLe c c'∧(∀n,n∈ns→n∈c'.fz)∧c'.tm=c.tm
 | [],c,c',hi,h=>by cases h;exact⟨hi, .refl _,(fun n h=>by cases h),rfl⟩
 |n::ns,c,c',hi,h=>by
  unfold clVal at h
  split at h
  ·cases h
  ·rename_i hn
   have hi1:ClInv B ⟨c.tm,c.bl,c.ren,n::c.fz⟩:=⟨hi.ren,hi.inj,hi.bl,(fun k hk=>by
    rcases List.mem_cons.1 hk with rfl|hk
    ·exact hn
    ·exact hi.fz k hk),hi.lent,hi.own⟩
   obtain⟨q1,q2,q3,q4⟩:=clVal_ok ns hi1 h
   have hle:ClLe c ⟨c.tm,c.bl,c.ren,n::c.fz⟩:=⟨fun _ _ h=>h,fun _ _ h=>h,fun _ h=>List.mem_cons_of_mem _ h,fun _ _ h=>h⟩
   refine⟨q1,hle.trans q2,fun k hk=>?_,q4⟩
   rcases List.mem_cons.1 hk with rfl|hk
   ·exact q2.fz k List.mem_cons_self
   ·exact q3 k hk
inductive AOk (B:Nat→Blk) (c:Cl):A→A→Prop
 |same {x:A}:(x= .u∨x= .ns∨x= .nf∨(∃t z,x= .v t z)∨(∃t z,x= .pv t z))→AOk B c x x
 |p {p:Prop} {d:Decidable p}:AOk B c (.p p d) (.v .bo (@decide p d))
 |ref {n m:Nat}:look c.ren n=some m→AOk B c (.ref n) (.ref m)
 |ptr {n m:Nat} {i:Int} {π:List Nat}:look c.ren n=some m→AOk B c (.ptr n i π) (.ptr m i π)
 |pa {n m:Nat} {lo hi:Int}:look c.ren n=some m→AOk B c (.part n lo hi) (.part m lo hi)
 |rp {n m:Nat} {τ:Ty} {l:List τ.T}:look c.ren n=some m→holds (B n) τ l→AOk B c (.ref n) (.part m 0 l.length)
 |val {x:A} {τ:Ty} {z:τ.T}:toT B τ x=some z→(∀n,n∈namesA x→n∈c.fz)→AOk B c x (.v τ z)
 |own {t:Nat} {τ:Ty}:look c.bl t=some (.live τ [] true)→(∀n,look c.ren n≠some t)→AOk B c .ns (.ref t)
inductive AsOk (B:Nat→Blk) (c:Cl):List A→List A→Prop
 |nil:AsOk B c [] []
 |cons {x y:A} {xs ys:List A}:AOk B c x y→AsOk B c xs ys→AsOk B c (x::xs) (y::ys)
inductive VOk (B:Nat→Blk) (c:Cl):V→V→Prop
 |a {x y:A}:AOk B c x y→VOk B c (.a x) (.a y)
 |cl {f:Nat} {xs ys:List A}:AsOk B c xs ys→VOk B c (.cl f xs) (.cl f ys)
theorem AOk.le {c c':Cl} (h:ClLe c c') {x y:A} (k:AOk B c x y):AOk B c' x y:=by
 cases k with
 |same h=>exact .same h
 |p=>exact .p
 |ref e=>exact .ref (h.ren _ _ e)
 |ptr e=>exact .ptr (h.ren _ _ e)
 |pa e=>exact .pa (h.ren _ _ e)
 |rp e k=>exact .rp (h.ren _ _ e) k
 |val e1 e2=>exact .val e1 fun n hn=>h.fz n (e2 n hn)
 |own e1 e2=>exact .own (h.bl _ _ e1) (h.old _ (by rw [e1];intro q;cases q) e2)
theorem AsOk.le {c c':Cl} (h:ClLe c c') {x y:List A} (k:AsOk B c x y):AsOk B c' x y:=by
 induction k with
 |nil=>exact .nil
 |cons k _ ih=>exact .cons (k.le h) ih
theorem VOk.le {c c':Cl} (h:ClLe c c') {x y:V} (k:VOk B c x y):VOk B c' x y:=by
 cases k with
 |a k=>exact .a (k.le h)
 |cl k=>exact .cl (k.le h)
theorem clCaps_ok (hB:∀n,isLF (B n)=true→n<10000):∀(xs:List A) {ys:List A} {c c':Cl},ClInv B c→clCaps B c xs=some (ys,c')→ClInv B c'∧ClLe c c'∧AsOk B c' xs ys∧c'.tm=c.tm
 | [],ys,c,c',hi,h=>by cases h;exact⟨hi, .refl _, .nil,rfl⟩
 |x::xs,ys,c,c',hi,h=>by
  unfold clCaps at h
  split at h
  ·rename_i q;cases q
  ·rename_i n i π l q
   cases q
   cases hl:isLF (B n)with
   |false=>rw [hl]at h;cases h
   |true=>
    rw [hl,cond_true]at h
    split at h
    ·rename_i m c1 h1
     obtain⟨a1,a2,a3,a4⟩:=clPtr_ok hi (hB n hl) hl h1
     split at h
     ·rename_i asx c2 h2
      cases h
      obtain⟨b1,b2,b3,b4⟩:=clCaps_ok hB xs a1 h2
      exact⟨b1,a2.trans b2, .cons (.ptr (b2.ren _ _ a3)) b3,b4.trans a4⟩
     ·cases h
    ·cases h
  ·rename_i t x l q
   cases q
   split at h
   ·rename_i asx c2 h2
    cases h
    obtain⟨b1,b2,b3,b4⟩:=clCaps_ok hB xs hi h2
    exact⟨b1,b2, .cons (.same (Or.inr (Or.inr (Or.inr (Or.inr ⟨_,_,rfl⟩))))) b3,b4⟩
   ·cases h
  ·cases h
theorem clV_ok (hB:∀n,isLF (B n)=true→n<10000) {c c':Cl} (hi:ClInv B c) {t:Nat} {m:KM} {v v':V} (h:clV B c t m v=some (v',c')):ClInv B c'∧ClLe c c'∧VOk B c' v v'∧c'.tm=c.tm:=by
 unfold clV at h
 split at h
 ·split at h
  ·rename_i z hz
   split at h
   ·rename_i c1 h1
    cases h
    obtain⟨q1,q2,q3,q4⟩:=clVal_ok _ hi h1
    exact⟨q1,q2, .a (.val hz q3),q4⟩
   ·cases h
  ·cases h
 ·rename_i τ
  split at h
  ·rename_i hf
   cases ht:Nat.blt t 2000 with
   |false=>rw [ht]at h;cases h
   |true=>
    rw [ht]at h
    cases h
    rw [Nat.blt_eq]at ht
    have hn:=fresh_none hi hf
    have lb:∀k,look (c.bl++[(t, .live τ [] true)]) k=match look c.bl k with|some x=>some x|none=>if t=k then some (.live τ [] true)else none:=by
     intro k;rw [look_append,look_one];cases look c.bl k<;>rfl
    have nom:∀k,look c.ren k≠some t:=by
     intro k e;have:=(hi.ren k t e).2.2;rw [hn]at this;cases this
    refine⟨⟨fun k j e=>?_,hi.inj,fun j b e=>?_,hi.fz,hi.lent,fun j hj e=>?_⟩,⟨fun _ _ h=>h,fun j b e=>?_,fun _ h=>h,fun _ _ h=>h⟩, .a (.own (τ:=τ) ?_ nom),rfl⟩
    rotate_left 2
    ·have e:look (c.bl++[(t, .live τ [] true)]) j≠none:=e
     rw [lb]at e
     cases hq:look c.bl j with
     |some x=>exact hi.own j hj (by rw [hq];intro e;cases e)
     |none=>
      rw [hq]at e
      simp only at e
      split at e
      ·rename_i q
       subst q
       unfold isLent at hj
       rw [Bool.and_eq_true]at hj
       have:=Nat.le_of_ble_eq_true hj.1
       omega
      ·exact absurd rfl e
    rotate_left 2
    ·obtain⟨q1,q2,q3⟩:=hi.ren k j e
     exact⟨q1,q2,by show look (c.bl++_) j=_;rw [lb,q3]⟩
    ·have e:look (c.bl++[(t, .live τ [] true)]) j=some b:=e
     rw [lb]at e
     cases hj:look c.bl j with
     |some x=>rw [hj]at e;cases e;exact hi.bl j b hj
     |none=>
      rw [hj]at e
      simp only at e
      split at e
      ·rename_i q;cases e;subst q;exact⟨by omega,Or.inr ⟨⟨τ,rfl⟩,nom⟩⟩
      ·cases e
    ·show look (c.bl++_) j=_;rw [lb,e]
    ·show look (c.bl++_) t=_;rw [lb,hn];simp
  ·cases h
 ·rename_i n
  split at h
  ·rename_i τ l tl hb
   split at h
   ·rename_i m' c1 h1
    cases h
    have hl:isLF (B n)=true:=by rw [hb];rfl
    obtain⟨q1,q2,q3,q4⟩:=clRef_ok hi (hB n hl) hl h1
    exact⟨q1,q2, .a (.rp q3 (Or.inl ⟨tl,hb⟩)),q4⟩
   ·cases h
  ·rename_i τ l hb
   split at h
   ·rename_i m' c1 h1
    cases h
    have hl:isLF (B n)=true:=by rw [hb];rfl
    obtain⟨q1,q2,q3,q4⟩:=clRef_ok hi (hB n hl) hl h1
    exact⟨q1,q2, .a (.rp q3 (Or.inr hb)),q4⟩
   ·cases h
  ·cases h
 ·rename_i n lo hi'
  cases hl:isLF (B n)with
  |false=>rw [hl]at h;cases h
  |true=>
   rw [hl,cond_true]at h
   split at h
   ·rename_i m' c1 h1
    cases h
    obtain⟨q1,q2,q3,q4⟩:=clRef_ok hi (hB n hl) hl h1
    exact⟨q1,q2, .a (.pa q3),q4⟩
   ·cases h
 ·rename_i n _ _
  cases hl:isLF (B n)with
  |false=>rw [hl]at h;cases h
  |true=>
   rw [hl,cond_true]at h
   split at h
   ·rename_i m' c1 h1
    cases h
    obtain⟨q1,q2,q3,q4⟩:=clRef_ok hi (hB n hl) hl h1
    exact⟨q1,q2, .a (.ref q3),q4⟩
   ·cases h
 ·rename_i n i π _
  cases hl:isLF (B n)with
  |false=>rw [hl]at h;cases h
  |true=>
   rw [hl,cond_true]at h
   split at h
   ·rename_i m' c1 h1
    cases h
    obtain⟨q1,q2,q3,q4⟩:=clPtr_ok hi (hB n hl) hl h1
    exact⟨q1,q2, .a (.ptr q3),q4⟩
   ·cases h
 ·cases h
 ·cases h;exact⟨hi, .refl _, .a .p,rfl⟩
 ·rename_i f caps _
  split at h
  ·rename_i asx c1 h1
   cases h
   obtain⟨q1,q2,q3,q4⟩:=clCaps_ok hB _ hi h1
   exact⟨q1,q2, .cl q3,q4⟩
  ·cases h
 ·cases h
 ·cases h
 ·rename_i x n1 n2 n3 n4 n5 _ _ _ _
  cases h
  refine⟨hi, .refl _, .a (.same ?_),rfl⟩
  cases x with
  |u=>exact Or.inl rfl
  |v t z=>exact Or.inr (Or.inr (Or.inr (Or.inl ⟨_,_,rfl⟩)))
  |pv t z=>exact Or.inr (Or.inr (Or.inr (Or.inr ⟨_,_,rfl⟩)))
  |ns=>exact Or.inr (Or.inl rfl)
  |nf=>exact Or.inr (Or.inr (Or.inl rfl))
  |p p d=>exact(n4 _ _ rfl).elim
  |ref n=>exact(n1 _ rfl).elim
  |part n lo hi=>exact(n3 _ _ _ rfl).elim
  |ptr n i π=>exact(n2 _ _ _ rfl).elim
  |nv b t z=>exact(n5 _ _ _ rfl).elim
theorem clLents_ok (hB:∀n,isLF (B n)=true→n<10000):∀(ns:List Nat) {c c':Cl},ClInv B c→clLents B ns c=some c'→ClInv B c'∧ClLe c c'∧c'.tm=c.tm∧∀n,n∈ns→isLent n=true→look c'.ren n=some n
 | [],c,c',hi,h=>by cases h;exact⟨hi, .refl _,rfl,(fun n h=>by cases h)⟩
 |n::ns,c,c',hi,h=>by
  unfold clLents at h
  cases hl:isLent n with
  |false=>
   rw [hl,cond_false]at h
   obtain⟨q1,q2,q3,q4⟩:=clLents_ok hB ns hi h
   refine⟨q1,q2,q3,fun k hk hkl=>?_⟩
   rcases List.mem_cons.1 hk with rfl|hk
   ·rw [hl]at hkl;cases hkl
   ·exact q4 k hk hkl
  |true=>
   rw [hl,cond_true]at h
   cases hf:isLF (B n)with
   |false=>rw [hf]at h;cases h
   |true=>
    rw [hf,cond_true]at h
    split at h
    ·rename_i m c1 h1
     obtain⟨a1,a2,a3,a4⟩:=clPtr_ok hi (hB n hf) hf h1
     obtain⟨q1,q2,q3,q4⟩:=clLents_ok hB ns a1 h
     refine⟨q1,a2.trans q2,q3.trans a4,fun k hk hkl=>?_⟩
     rcases List.mem_cons.1 hk with rfl|hk
     ·have:=a1.lent k m a3 (Or.inl hl)
      subst this
      exact q2.ren _ _ a3
     ·exact q4 k hk hkl
    ·cases h
end
section
variable {B:Nat→Blk}
theorem clAll_ok (hB:∀n,isLF (B n)=true→n<10000) {tm:List (Nat×V)}:∀(L:List (Nat×KM)) {c c':Cl},ClInv B c→(∀t v,look c.tm t=some v→VOk B c (getV tm t) v)→clAll tm B L c=some c'→ClInv B c'∧∀t v,look c'.tm t=some v→VOk B c' (getV tm t) v
 | [],c,c',hi,ht,h=>by cases h;exact⟨hi,ht⟩
 | (t,m)::L,c,c',hi,ht,h=>by
  unfold clAll at h
  split at h
  ·rename_i v c1 h1
   obtain⟨q1,q2,q3,q4⟩:=clV_ok hB hi h1
   refine clAll_ok hB L (c:=⟨c1.tm++[(t,v)],c1.bl,c1.ren,c1.fz⟩) ⟨q1.ren,q1.inj,q1.bl,q1.fz,q1.lent,q1.own⟩ (fun k u hk=>?_) h
   have lift:∀{x y:V},VOk B c1 x y→VOk B ⟨c1.tm++[(t,v)],c1.bl,c1.ren,c1.fz⟩ x y:=fun h=>VOk.le (c:=c1) (c':=⟨c1.tm++[(t,v)],c1.bl,c1.ren,c1.fz⟩) ⟨fun _ _ h=>h,fun _ _ h=>h,fun _ h=>h,fun _ _ h=>h⟩ h
   have hk:look (c1.tm++[(t,v)]) k=some u:=hk
   rw [look_append,look_one]at hk
   cases hl:look c1.tm k with
   |some x=>
    rw [hl]at hk;cases hk
    rw [q4]at hl
    exact lift ((ht k u hl).le q2)
   |none=>
    rw [hl]at hk
    simp only at hk
    split at hk
    ·rename_i e;cases hk;subst e;exact lift q3
    ·cases hk
  ·cases h
end
open Classical in
noncomputable def φc (φ:Nat→Addr) (c:Cl) (m:Nat):Addr:=if m<10000 then(if h:∃n,look c.ren n=some m then φ h.choose else⟨0,0,some 0⟩)else φ m
def blc (bl:Nat→Blk) (c:Cl) (m:Nat):Blk:=if m<10000 then getB c.bl m else bl m
section
variable {w0 w:World} {Bo:Nat→Nat→Prop} {bl0 bl B:Nat→Blk} {φ0 φ:Nat→Addr} {c:Cl}
theorem φc_ren (hi:ClInv B c) {n m:Nat} (h:look c.ren n=some m):φc φ c m=φ n:=by
 have hm:=(hi.ren n m h).1
 unfold φc
 rw [if_pos hm]
 have he:∃n,look c.ren n=some m:=⟨n,h⟩
 rw [dif_pos he,hi.inj _ _ _ he.choose_spec h]
theorem φc_own {m:Nat} (hm:m<10000) (h:∀n,look c.ren n≠some m):φc φ c m=⟨0,0,some 0⟩:=by
 unfold φc
 rw [if_pos hm,dif_neg (fun⟨n,e⟩=>h n e)]
theorem blc_look {m:Nat} {b:Blk} (hi:ClInv B c) (h:look c.bl m=some b):blc bl c m=b:=by
 unfold blc
 rw [if_pos (hi.bl m b h).1,getB_look,h]
theorem blc_live (hi:ClInv B c) {m:Nat} (h:live (blc bl c m)) (hs:(φc φ c m).spot=none):(m<10000∧∃n,look c.ren n=some m∧blc bl c m=B n∧φc φ c m=φ n∧n∉c.fz)∨(¬m<10000∧blc bl c m=bl m∧φc φ c m=φ m):=by
 by_cases hm:m<10000
 ·refine Or.inl ⟨hm,?_⟩
  have hb:blc bl c m=getB c.bl m:=by unfold blc;rw [if_pos hm]
  cases hl:look c.bl m with
  |none=>rw [hb,getB_look,hl]at h;obtain⟨_,_,_,e⟩:=h;cases e
  |some b=>
   rcases(hi.bl m b hl).2 with⟨n,q1,q2⟩| ⟨_,q2⟩
   ·refine⟨n,q1,?_,φc_ren hi q1,fun e=>?_⟩
    ·rw [hb,getB_look,hl,q2]
    ·have:=hi.fz n e;rw [q1]at this;cases this
   ·rw [φc_own hm q2]at hs;cases hs
 ·exact Or.inr ⟨hm,by unfold blc;rw [if_neg hm],by unfold φc;rw [if_neg hm]⟩
theorem clean_rel {N:Nat} {B0:Nat→Blk} {tm:List (Nat×V)} {a:Act} (hi:ClInv B c) (hB:∀n,isLF (B n)=true→n<10000) (hBb:∀n,B n≠ .dead→n<10000∧bl n=B n) (hT:∀t v,look c.tm t=some v→VOk B c (getV tm t) v)
    (hlent:∀n,isLent n=true→bl n≠ .fresh→look c.ren n=some n) (hr:RelS N w0 Bo bl0 φ0 (getV tm) B0 bl φ a w):RelS N w0 Bo bl0 φ0 (getV c.tm) (getB c.bl) (blc bl c) (φc φ c) a w:=by
  have ha:Agree B bl:=fun n hn=>(hBb n hn).2
  have st:=frzs_step ha hr.mem c.fz
  have m1:=st.mem
  have hnf:∀n,n∉c.fz→updB (frzs B c.fz) bl n=bl n:=fun n h=>frzs_not _ _ h
  have hlive:∀n,isLF (B n)=true→bl n=B n:=fun n h=>ha n (by intro e;rw [e]at h;cases h)
  have hfar:∀n,¬n<10000→n∉c.fz→True:=fun _ _ _=>trivial
  have hfar2:∀n,¬n<10000→updB (frzs B c.fz) bl n=bl n:=by
    intro n hn
    rcases frzs_cases ha c.fz n with e| ⟨t,l,tl,e1,e2⟩
    · exact e
    · exfalso
      have:∀(ns:List Nat),updB (frzs B ns) bl n= .froz t l→False:=by
        intro ns
        induction ns with
        |nil=>intro q;rw [show updB (frzs B []) bl n=bl n from rfl,e1]at q;cases q
        | cons k ns ih=>
          intro q
          unfold frzs at q ih
          rw [List.flatMap_cons,updB_append]at q
          cases hk:B k with
          | live t' l' tl'=>
            have e:frzN B k=[(k, .froz t' l')]:=by unfold frzN;rw [hk]
            rw [e,updB_cons,updB_nil]at q
            by_cases hkn:n=k
            · subst hkn;exact hn (hB n (by rw [hk];rfl))
            · rw [set1_ne hkn]at q;exact ih q
          | _=>
            have e:frzN B k=[]:=by unfold frzN;rw [hk]
            rw [e,updB_nil]at q;exact ih q
      exact this _ e2
  have hown:∀b,owns (blc bl c) (φc φ c) b→owns (updB (frzs B c.fz) bl) φ b:=by
    rintro b ⟨m,h1,h2,h3⟩
    rcases blc_live hi h1 h2 with⟨_,n,q1,q2,q3,q4⟩| ⟨q1,q2,q3⟩
    · rw [q3]at h2 h3
      refine⟨n,?_,h2,h3⟩
      rw [hnf n q4,hlive n (hi.ren n m q1).2.1,←q2];exact h1
    · rw [q3]at h2 h3
      refine⟨m,?_,h2,h3⟩
      rw [hfar2 m q1,←q2];exact h1
  have he:Ext w (owns (updB (frzs B c.fz) bl) φ) w (owns (blc bl c) (φc φ c)):=(Frame'.refl w (fun _ _=>False)).ext (fun _ _ _ h=>h.elim) fun b _=>hown b
  have hblk:∀n m,look c.ren n=some m→BlkOk w (owns (blc bl c) (φc φ c)) (φ n) (B n):=by
    intro n m h
    have hnn:n∉c.fz:=fun e=>by have:=hi.fz n e;rw [h]at this;cases this
    have:=m1.blk n
    rw [hnf n hnn,hlive n (hi.ren n m h).2.1]at this
    exact BlkOk_ext he (fun _ _ _ _ h=>h) this
  refine⟨fun n hn=>by unfold blc;rw [if_pos hn],⟨fun m=>?_,fun m k h1 h2 h3 h4 h5=>?_,fun m t l tl hm h1 h2=>?_,hr.mem.fr⟩,fun t=>?_,hr.size,hr.defers,fun n hn=>by unfold blc;rw [if_neg (by omega)];exact hr.far n hn,fun n hn=>?_⟩
  rotate_left 4
  · obtain⟨k1,k2⟩:=hr.keep n hn
    rcases hn with hn|hn
    · have hln:isLent n=true:=by
        unfold isLent
        rw [Bool.and_eq_true,Nat.blt_eq]
        exact⟨Nat.ble_eq_true_of_le hn.1,hn.2⟩
      refine⟨fun e=>?_,fun e=>?_⟩
      · unfold blc
        rw [if_pos (by omega),getB_look]
        cases hq:look c.bl n with
        |none=>rfl
        | some b=>
          exfalso
          have h1:=hi.own n hln (by rw [hq];intro q;cases q)
          have h2:=(hi.ren n n h1).2.1
          rw [←hlive n h2,k1 e]at h2;cases h2
      · obtain⟨q1,q2⟩:=k2 e
        have h1:=hlent n hln (q1.ne e)
        obtain⟨_,h2,h3⟩:=hi.ren n n h1
        rw [blc_look hi h3,←hlive n h2,φc_ren hi h1]
        exact⟨q1,q2⟩
    · have e1:blc bl c n=bl n:=by unfold blc;rw [if_neg (by omega)]
      have e2:φc φ c n=φ n:=by unfold φc;rw [if_neg (by omega)]
      rw [e1,e2];exact⟨k1,k2⟩
  · by_cases hm:m<10000
    · cases hl:look c.bl m with
      | none => have e:blc bl c m= .fresh:=by unfold blc;rw [if_pos hm,getB_look,hl]
                rw [e];trivial
      | some b=>
        rw [blc_look hi hl]
        rcases(hi.bl m b hl).2 with⟨n,q1,q2⟩| ⟨⟨τ,q1⟩,q2⟩
        · rw [φc_ren hi q1,q2];exact hblk n m q1
        · rw [φc_own hm q2,q1];exact Or.inl ⟨by simp,rfl⟩
    · have e1:blc bl c m=bl m:=by unfold blc;rw [if_neg hm]
      have e2:φc φ c m=φ m:=by unfold φc;rw [if_neg hm]
      rw [e1,e2]
      have:=m1.blk m
      rw [hfar2 m hm]at this
      exact BlkOk_ext he (fun _ _ _ _ h=>h) this
  · rcases blc_live hi h1 h3 with⟨a1,n,a2,a3,a4,a5⟩| ⟨a1,a2,a3⟩
    · rcases blc_live hi h2 h4 with⟨b1,n',b2,b3,b4,b5⟩| ⟨b1,b2,b3⟩
      · rw [a4]at h3 h5;rw [b4]at h4 h5;rw [a3,←hlive n (hi.ren n m a2).2.1]at h1;rw [b3,←hlive n' (hi.ren n' k b2).2.1]at h2
        have:=hr.mem.uniq n n' h1 h2 h3 h4 h5
        subst this
        rw [a2]at b2;exact Option.some.inj b2
      · rw [a4]at h3 h5;rw [b3]at h4 h5;rw [a3,←hlive n (hi.ren n m a2).2.1]at h1;rw [b2]at h2
        have:=hr.mem.uniq n k h1 h2 h3 h4 h5
        have:=hB n (hi.ren n m a2).2.1;omega
    · rcases blc_live hi h2 h4 with⟨b1,n',b2,b3,b4,b5⟩| ⟨b1,b2,b3⟩
      · rw [a3]at h3 h5;rw [b4]at h4 h5;rw [a2]at h1;rw [b3,←hlive n' (hi.ren n' k b2).2.1]at h2
        have:=hr.mem.uniq m n' h1 h2 h3 h4 h5
        have:=hB n' (hi.ren n' k b2).2.1;omega
      · rw [a3]at h3 h5;rw [b3]at h4 h5;rw [a2]at h1;rw [b2]at h2
        exact hr.mem.uniq m k h1 h2 h3 h4 h5
  · rcases blc_live hi ⟨_,_,_,h1⟩ h2 with⟨_,n,q1,q2,q3,_⟩| ⟨q1,_,_⟩
    · rw [q3]at h2⊢
      rw [q2,←hlive n (hi.ren n m q1).2.1]at h1
      exact hr.mem.lo n t l tl (hB n (hi.ren n m q1).2.1) h1 h2
    · exact absurd hm q1
  · have aok:∀(x y:A) (u:Value),AOk B c x y→RepA w bl φ x u→RepA w (blc bl c) (φc φ c) y u:=by
      intro x y u h hx
      cases h with
      | same h=>
        have hx':=RepA_goes st.goes _ _ hx
        rcases h with rfl|rfl|rfl| ⟨t,z,rfl⟩| ⟨t,z,rfl⟩
        · trivial
        · exact hx
        · exact hx
        · exact byval_own hown (Or.inl ⟨_,_,rfl⟩) hx'
        · exact byval_own hown (Or.inr ⟨_,_,rfl⟩) hx'
      |p=>exact rep_bo.2 hx
      | @ref n m e=>
        obtain⟨_,q2,q3⟩:=hi.ren _ _ e
        simp only [RepA,hlive n q2]at hx
        simp only [RepA,blc_look hi q3,φc_ren hi e]
        exact hx
      | @ptr n m i π e=>
        obtain⟨_,q2,q3⟩:=hi.ren _ _ e
        simp only [RepA,hlive n q2]at hx
        simp only [RepA,blc_look hi q3,φc_ren hi e]
        exact hx
      | @pa n m lo hi' e=>
        obtain⟨_,q2,q3⟩:=hi.ren _ _ e
        simp only [RepA,hlive n q2]at hx
        simp only [RepA,blc_look hi q3,φc_ren hi e]
        exact hx
      | @rp n m τ l e hb=>
        obtain⟨_,q2,q3⟩:=hi.ren _ _ e
        simp only [RepA,hlive n q2]at hx
        simp only [RepA,blc_look hi q3,φc_ren hi e]
        have hp:∀(v:Value),RefV w (φ n) τ.sz l.length v→PartV w (φ n) τ.sz l.length 0 l.length v:=by
          intro v hv
          rcases hv with⟨h1,ad,rfl⟩| ⟨h1,cap,rfl,h3,h4⟩
          · rw [h1];exact⟨Int.le_refl _,by simp,by simp,ad,0,rfl,by simp,Or.inl rfl⟩
          · refine⟨Int.le_refl _,by omega,by omega,some (φ n),cap,by congr 1,by omega,Or.inr ⟨h1,?_,?_⟩⟩
            · cases hq:φ n with|mk b o s=>rw [hq]at h1;simp only at h1;subst h1;simp
            · have:(φ n).off+(0:Int).toNat*τ.sz=(φ n).off:=by simp
              rw [this];exact h4
        rcases hb with⟨tl,hb⟩|hb
        · rw [hb]at hx⊢;exact hp _ hx
        · rw [hb]at hx⊢;exact hp _ hx
      |val e1 e2=>exact byval_own hown (Or.inl ⟨_,_,rfl⟩) (toT_ok ha hr.mem (fun n hn _=>e2 n hn) e1 hx)
      | @own t τ e1 e2=>
        obtain⟨ad,rfl⟩:=hx
        simp only [RepA,blc_look hi e1,φc_own (hi.bl _ _ e1).1 e2]
        exact Or.inl ⟨rfl,ad,rfl⟩
    have asok:∀(xs ys:List A),AsOk B c xs ys→∀cv,RepAs w bl φ xs cv→RepAs w (blc bl c) (φc φ c) ys cv:=by
      intro xs ys h
      induction h with
      |nil=>intro cv e;cases e;exact .nil
      |cons h _ ih=>intro cv e;cases e with|cons r1 r2=>exact .cons (aok _ _ _ h r1) (ih _ r2)
    have hx:=hr.tm t
    cases hl:look c.tm t with
    | none=>
      have:getV c.tm t= .a .u:=by
        have gl:∀(l:List (Nat×V)),look l t=none→getV l t= .a .u:=by
          intro l
          induction l with
          |nil=>intro _;rfl
          | cons q l ih=>
            obtain⟨k,x⟩:=q
            intro h
            unfold look at h;unfold getV
            cases hb:Nat.beq k t with
            |true=>rw [hb]at h;cases h
            |false=>rw [hb]at h;exact ih h
        exact gl _ hl
      rw [this];trivial
    | some v=>
      have gl:∀(l:List (Nat×V)),look l t=some v→getV l t=v:=by
        intro l
        induction l with
        |nil=>intro h;cases h
        | cons q l ih=>
          obtain⟨k,x⟩:=q
          intro h
          unfold look at h;unfold getV
          cases hb:Nat.beq k t with
          |true=>rw [hb]at h;cases h;rfl
          |false=>rw [hb]at h;exact ih h
      rw [gl _ hl]
      have hv:=hT t v hl
      generalize getV tm t=x at hx hv
      cases hv with
      |a h=>exact aok _ _ _ h hx
      | cl h=>
        obtain⟨cv,e1,e2⟩:=hx
        exact⟨cv,e1,asok _ _ h cv e2⟩
def Rel (N:Nat) (w0:World) (Bo:Nat→Nat→Prop) (bl0:Nat→Blk) (φ0:Nat→Addr) (st:St) (a:Act) (w:World):Prop:=∃bl φ,RelS N w0 Bo bl0 φ0 (getV st.tm) (getB st.bl) bl φ a w
theorem clean_ok {N:Nat} {L:List (Nat×KM)} {st st':St} {a:Act} (h:clean L st=some st') (hr:Rel N w0 Bo bl0 φ0 st a w):Rel N w0 Bo bl0 φ0 st' a w:=by
 unfold clean at h
 split at h
 ·rename_i c hc
  split at h
  ·rename_i c2 hc2
   cases h
   obtain⟨bl,φ,hr⟩:=hr
   have hB:∀n,isLF (cnd (Nat.blt n 10000) (getB st.bl n)<| .dead)=true→n<10000:=by
    intro n h
    cases hb:Nat.blt n 10000 with
    |true=>rwa [Nat.blt_eq]at hb
    |false=>rw [hb]at h;cases h
   obtain⟨q1,q2⟩:=clAll_ok hB L (c:=⟨[],[],[],[]⟩) ⟨(fun n m h=>by cases h),(fun n n' m h=>by cases h),(fun m b h=>by cases h),(fun n h=>by cases h),(fun n m h=>by cases h),(fun m _ h=>absurd rfl h)⟩ (fun t v h=>by cases h) hc
   obtain⟨p1,p2,p3,p4⟩:=clLents_ok hB (st.bl.map (·.1)) q1 hc2
   refine⟨blc bl c2,φc φ c2,clean_rel p1 hB (fun n hn=>?_) (fun t v hv=>?_) (fun n hn hf=>?_) hr⟩
   ·cases hb:Nat.blt n 10000 with
    |true=>
     rw [Nat.blt_eq]at hb
     exact⟨hb,hr.loc n hb⟩
    |false=>rw [hb]at hn;exact absurd rfl hn
   ·rw [p3]at hv;exact(q2 t v hv).le p2
   ·have hlt:n<10000:=by
     unfold isLent at hn
     rw [Bool.and_eq_true,Nat.blt_eq]at hn
     omega
    rw [hr.loc n hlt]at hf
    refine p4 n ?_ hn
    rw [getB_look]at hf
    cases hl:look st.bl n with
    |none=>rw [hl]at hf;exact absurd rfl hf
    |some b=>exact List.mem_map.2 ⟨_,look_mem _ _ _ hl,rfl⟩
  ·cases h
 ·cases h
end
section
variable {P:Program} {N:Nat} {w0:World} {Bo:Nat→Nat→Prop} {bl0:Nat→Blk} {φ0:Nat→Addr} {ops:Array Oper} {E:Env} {R:Type} {r:R}
theorem freeOf_spec {mk:List Nat} {a:Met}:∀{ms:List Met},freeOf ops mk a ms=true→∀b,b∈ms→(mk.getD a.i 0).testBit b.i=true∨indep ops b a=true
 | [],_,b,hb=>by cases hb
 |c::ms,h,b,hb=>by
  unfold freeOf at h
  rw [Bool.and_eq_true]at h
  rcases List.mem_cons.1 hb with rfl|hb
  ·cases ht:Nat.testBit (mk.getD a.i 0) b.i with
   |true=>exact Or.inl rfl
   |false=>rw [ht]at h;exact Or.inr h.1
  ·exact freeOf_spec h.2 b hb
theorem allFree_spec {mk:List Nat}:∀{ms:List Met},allFree ops mk ms=true→ms.Pairwise fun a b=>(mk.getD a.i 0).testBit b.i=true∨indep ops b a=true
 | [],_=> .nil
 |a::ms,h=>by
  unfold allFree at h
  rw [Bool.and_eq_true]at h
  exact List.pairwise_cons.2 ⟨freeOf_spec h.1,allFree_spec h.2⟩
theorem indep_spec {x y:Rc} (h:indep ops (metR x) (metR y)=true):indepR ops x y:=by
 unfold indep at h
 rw [Bool.and_eq_true]at h
 refine⟨fun a b ha hb=>?_,?_⟩
 ·have h1:=h.1
  simp only [metR,ha,hb]at h1
  exact h1
 ·have h2:=h.2
  rw [Bool.or_eq_true,Bool.and_eq_true]at h2
  rcases h2 with h2|h2
  ·exact Or.inl h2
  ·refine Or.inr fun n hn hm=>?_
   simp only [metR,Bool.not_eq_true',List.any_eq_false]at h2
   exact h2 n hn (hasN_mem.2 hm)
theorem edgesOk_spec (h:edgesOk ops=true):∀i o,ops[i]?=some o→∀e,e∈o.after.toList→Region.binds .any e=true→e.on<i:=by
 intro i o ho e he hb
 unfold edgesOk at h
 rw [List.all_eq_true]at h
 have hi:i<ops.size:=(Array.getElem?_eq_some_iff.1 ho).1
 have h1:=h i (List.mem_range.2 hi)
 have ho':ops.getD i default=o:=by
  rw [Array.getElem?_eq_some_iff]at ho
  obtain⟨k,e⟩:=ho
  simp [Array.getD,k,e]
 rw [ho',Array.all_eq_true']at h1
 have h2:=h1 e (by simpa using he)
 rw [hb]at h2
 simpa using h2
theorem zip_range_fst (l:List Oper):((List.range l.length).zip l).map (·.1)=List.range l.length:=by
 rw [←List.unzip_fst,List.unzip_zip]
 simp
theorem zip_range_mem {l:List Oper} {q:Nat×Oper} (h:q∈(List.range l.length).zip l):l[q.1]?=some q.2:=by
 obtain⟨i,hi,e⟩:=List.mem_iff_getElem.1 h
 rw [List.getElem_zip,List.getElem_range]at e
 subst e
 rw [List.length_zip,List.length_range]at hi
 rw [List.getElem?_eq_getElem (by omega)]
theorem region_ok {F:Fence} {n:Nat} (hF:Wide F) (hE:EnvOk P E) (hm:P.follows .mixedOrders=true) {orc:Orc R} (horc:OrcOk P orc) {id:Nat} {draw:Bool} {st:St} {K:St→Option R} {a:Act} {w:World} {Q:Exit→Act→World→Prop}
  (h:evRegion E orc N ops draw st K=some r) (hr:Rel N w0 Bo bl0 φ0 st a w) (hq:∀st' a' w',K st'=some r→Rel N w0 Bo bl0 φ0 st' a' w'→Q .normal a' w'):(Code.region id ops draw).wpIn F n P Q a w:=by
 unfold evRegion at h
 obtain⟨st',rs,k1,k2,k3⟩:=evOps_ok (P:=P) (w0:=w0) (Bo:=Bo) hE horc _ st [] _ (fun q hq=>by have:=zip_range_mem (l:=ops.toList) (by simpa using hq);simpa using this) h
 obtain⟨bl,φ,hr⟩:=hr
 have hidx:rs.map (·.i)=List.range ops.size:=by rw [k3];have:=zip_range_fst ops.toList;simpa using this
 cases draw with
 |false=>
  rw [cond_false]at k1
  refine wpIn_region ?_
  rw [←hidx]
  exact chain_sound hF k2 hr fun bl' φ' a' w' hr'=>hq _ _ _ k1 ⟨bl',φ',hr'⟩
 |true=>
  rw [cond_true]at k1
  cases hc:(edgesOk ops&&allFree ops (masks ops.toList []) ((rs.map metR).reverse++[]))with
  |false=>rw [hc]at k1;cases k1
  |true=>
   rw [hc,cond_true]at k1
   rw [Bool.and_eq_true,List.append_nil]at hc
   have hlt:=edgesOk_spec hc.1
   have hp:=allFree_spec hc.2
   rw [List.pairwise_reverse,List.pairwise_map]at hp
   refine wpIn_region_any hm ?_
   have st:=S_drew hr.mem
   have hr2:RelS N w0 Bo bl0 φ0 (getV _) (getB _) bl φ a {w with drawn:=w.drawn+1}:=⟨hr.loc,st.mem,fun t=>RepV_goes st.goes _ _ (hr.tm t),hr.size,hr.defers,hr.far,hr.keep⟩
   have hlen:rs.length=ops.size:=by
    have:=congrArg List.length hidx
    simpa using this
   refine any_sound hF hlt ops.size rs (Array.replicate ops.size false) _ _ bl φ a _ (by omega) (by simp) (fun i=>?_) ?_ (hp.imp fun h=>?_) ?_ k2 hr2 fun bl' φ' a' w' hr'=>hq _ _ _ k1 ⟨bl',φ',hr'⟩
   ·rw [hidx,List.mem_range]
    constructor
    ·intro hi;exact⟨hi,by simp [Array.getD,hi]⟩
    ·exact fun h=>h.1
   ·have:(List.range ops.size).Pairwise (· < ·):=List.pairwise_lt_range
    rw [←hidx,List.pairwise_map]at this
    exact this
   ·rcases h with h|h
    ·exact Or.inl h
    ·exact Or.inr (indep_spec h)
   ·rintro i o ⟨h1,h2⟩
    exfalso
    simp [Array.getD,h1]at h2
def exOf:Ex→Exit
 | .norm=> .normal
 | .exit id=> .exit id
 | .ret=> .ret
def KQ (N:Nat) (w0:World) (Bo:Nat→Nat→Prop) (bl0:Nat→Blk) (φ0:Nat→Addr) (r:R) (K:KX R) (Q:Exit→Act→World→Prop):Prop:=
 ∀x st a w,K x st=some r→Rel N w0 Bo bl0 φ0 st a w→Q (exOf x) a w
def LoQ (F:Fence) (n:Nat) (P:Program) (N:Nat) (w0:World) (Bo:Nat→Nat→Prop) (bl0:Nat→Blk) (φ0:Nat→Addr) (lo:Nat→St→Option R) (r:R) (key:Nat) (c:Code) (Q:Exit→Act→World→Prop):Prop:=
 ∀st a w,lo key st=some r→Rel N w0 Bo bl0 φ0 st a w→c.wpIn F n P Q a w
def LosQ (F:Fence) (n:Nat) (P:Program) (N:Nat) (w0:World) (Bo:Nat→Nat→Prop) (bl0:Nat→Blk) (φ0:Nat→Addr) (an:Ann) (lo:Nat→St→Option R) (r:R):Code→(Exit→Act→World→Prop)→Prop
 | .seq a b,Q=>LosQ F n P N w0 Bo bl0 φ0 an lo r a (Exit.then (b.wpIn F n P Q) Q)∧(match look an.cut (firstRegion b)with
  |some _=>LoQ F n P N w0 Bo bl0 φ0 lo r (firstRegion b) b Q
  |none=>LosQ F n P N w0 Bo bl0 φ0 an lo r b Q)
 | .cond _ a b,Q=>LosQ F n P N w0 Bo bl0 φ0 an lo r a Q∧LosQ F n P N w0 Bo bl0 φ0 an lo r b Q
 | .block id c,Q=>LosQ F n P N w0 Bo bl0 φ0 an lo r c (Exit.inBlock id Q)
 | .loop c,Q=>LoQ F n P N w0 Bo bl0 φ0 lo r (firstRegion c) (.loop c) Q
 | .rangeFunc g ps c d,Q=>LoQ F n P N w0 Bo bl0 φ0 lo r (firstRegion c) (.rangeFunc g ps c d) Q
 |_,_=>True
theorem tidy_ok {L:Option (List (Nat×KM))} {st:St} {K:St→Option R} {a:Act} {w:World} (h:tidy L st K=some r) (hr:Rel N w0 Bo bl0 φ0 st a w):∃st',K st'=some r∧Rel N w0 Bo bl0 φ0 st' a w:=by
 unfold tidy at h
 split at h
 ·exact⟨st,h,hr⟩
 ·split at h
  ·rename_i st' hc
   exact⟨st',h,clean_ok hc hr⟩
  ·cases h
def seqK (E:Env) (orc:Orc R) (N:Nat) (an:Ann) (lo:Nat→St→Option R) (b:Code) (K:KX R):KX R:=fun x st=>match x with
 | .norm=>(match look an.cut (firstRegion b)with
  |some L=>tidy (some L) st fun st=>lo (firstRegion b) st
  |none=>tidy (look an.rg (firstRegion b)) st fun st=>ev E orc N an lo b st K)
 |x=>K x st
def blkK (id:Nat) (K:KX R):KX R:=fun x st=>match x with
 | .exit j=>cnd (Nat.beq j id) (K .norm st)<|K (.exit j) st
 |x=>K x st
theorem blkK_ok {id:Nat} {K:KX R} {Q:Exit→Act→World→Prop} (h:KQ N w0 Bo bl0 φ0 r K Q):KQ N w0 Bo bl0 φ0 r (blkK id K) (Exit.inBlock id Q):=by
 intro x st a w hk hr
 cases x with
 |norm=>exact h _ _ _ _ hk hr
 |ret=>exact h _ _ _ _ hk hr
 |exit j=>
  unfold blkK at hk
  simp only at hk
  show if j=id then _ else _
  by_cases hj:j=id
  ·subst hj
   rw [Nat.beq_refl]at hk
   rw [if_pos rfl]
   exact h _ _ _ _ hk hr
  ·have:Nat.beq j id=false:=by rw [Bool.eq_false_iff];intro e;exact hj (Nat.eq_of_beq_eq_true e)
   rw [this]at hk
   rw [if_neg hj]
   exact h _ _ _ _ hk hr
theorem seqK_ok {F:Fence} {n:Nat} {orc:Orc R} {an:Ann} {lo:Nat→St→Option R} {b:Code} {K:KX R} {Q:Exit→Act→World→Prop} (h:KQ N w0 Bo bl0 φ0 r K Q) (hlo:∀L,look an.cut (firstRegion b)=some L→LoQ F n P N w0 Bo bl0 φ0 lo r (firstRegion b) b Q)
  (hev:look an.cut (firstRegion b)=none→∀st a w,ev E orc N an lo b st K=some r→Rel N w0 Bo bl0 φ0 st a w→b.wpIn F n P Q a w):KQ N w0 Bo bl0 φ0 r (seqK E orc N an lo b K) (Exit.then (b.wpIn F n P Q) Q):=by
 intro x st a w hk hr
 cases x with
 |exit j=>exact h _ _ _ _ hk hr
 |ret=>exact h _ _ _ _ hk hr
 |norm=>
  unfold seqK at hk
  simp only at hk
  show b.wpIn F n P Q a w
  split at hk
  ·rename_i L hL
   obtain⟨st',h1,h2⟩:=tidy_ok hk hr
   exact hlo L hL _ _ _ h1 h2
  ·rename_i hL
   obtain⟨st',h1,h2⟩:=tidy_ok hk hr
   exact hev hL _ _ _ h1 h2
theorem ev_ok {F:Fence} {n:Nat} (hF:Wide F) (hE:EnvOk P E) (hm:P.follows .mixedOrders=true) {orc:Orc R} (horc:OrcOk P orc) {an:Ann} {lo:Nat→St→Option R}:∀(c:Code) (Q:Exit→Act→World→Prop),LosQ F n P N w0 Bo bl0 φ0 an lo r c Q→
  ∀(K:KX R),KQ N w0 Bo bl0 φ0 r K Q→∀(st:St) (a:Act) (w:World),ev E orc N an lo c st K=some r→Rel N w0 Bo bl0 φ0 st a w→c.wpIn F n P Q a w:=by
 intro c
 induction c with
 |skip=>intro Q _ K hK st a w h hr;exact wpIn_skip (hK .norm st _ _ h hr)
 |region id ops draw=>
  intro Q _ K hK st a w h hr
  exact region_ok hF hE hm horc h hr fun st' a' w' h' hr'=>hK .norm st' _ _ h' hr'
 |seq x y ihx ihy=>
  intro Q hl K hK st a w h hr
  have hl1:=hl.1
  have hl2:=hl.2
  refine wpIn_seq (ihx _ hl1 (seqK E orc N an lo y K) (seqK_ok hK (fun L hL=>?_) fun hL=>?_) st a w h hr)
  ·rw [hL]at hl2;exact hl2
  ·rw [hL]at hl2
   exact fun st a w h hr=>ihy Q hl2 K hK st a w h hr
 |cond c x y ihx ihy=>
  intro Q hl K hK st a w h hr
  unfold ev at h
  have hc:∀v,opv st.tm c=v→∃bl φ,RepV w bl φ v (a.eval c):=by
   intro v hv
   obtain⟨bl,φ,hr⟩:=hr
   refine⟨bl,φ,?_⟩
   rw [←hv,opv_eq]
   exact eval_rep hr c
  split at h
  ·rename_i t hv
   obtain⟨bl,φ,hv⟩:=hc _ hv
   have hv:=rep_bo.1 hv
   refine wpIn_cond hv ?_
   cases ht:(t:Bool)with
   |true=>rw [ht]at h;exact ihx Q hl.1 K hK _ _ _ h hr
   |false=>rw [ht]at h;exact ihy Q hl.2 K hK _ _ _ h hr
  ·rename_i p hp hv
   obtain⟨bl,φ,hv⟩:=hc _ hv
   have hv:a.eval c= .bool (@decide p hp):=hv
   refine wpIn_cond hv ?_
   split at h
   ·rename_i hpp
    rw [decide_eq_true hpp]
    exact ihx Q hl.1 K hK _ _ _ h hr
   ·rename_i hpp
    rw [decide_eq_false hpp]
    exact ihy Q hl.2 K hK _ _ _ h hr
  ·cases h
 |block id c ih=>
  intro Q hl K hK st a w h hr
  exact wpIn_block (ih _ hl (blkK id K) (blkK_ok hK) st a w h hr)
 |loop c ih=>
  intro Q hl K hK st a w h hr
  unfold ev at h
  obtain⟨st',h1,h2⟩:=tidy_ok h hr
  exact hl _ _ _ h1 h2
 |rangeFunc g ps c d _ _=>
  intro Q hl K hK st a w h hr
  unfold ev at h
  obtain⟨st',h1,h2⟩:=tidy_ok h hr
  exact hl _ _ _ h1 h2
 |exit id=>intro Q _ K hK st a w h hr;exact wpIn_exit (hK (.exit id) st _ _ h hr)
 |ret=>intro Q _ K hK st a w h hr;exact wpIn_ret (hK .ret st _ _ h hr)
 |_=>intro Q _ K hK st a w h hr;unfold ev at h;cases h
end
def bB (st:St) (n:Nat):Blk:=cnd (Nat.blt n 10000) (getB st.bl n)<| .dead
structure Res where
 v:V
 bs:Bl
 src:List (Nat×Nat)
 fz:List Nat
def resM (B:Nat→Blk) (j:Nat):RM→V→Option Res
 | .d t, .a x=>match toT B t x with|some z=>some ⟨.a (.v t z),[],[],namesA x⟩|none=>none
 | .own t, .a .ns=>some ⟨.a (.ref (3000+j)),[(3000+j, .live t [] true)],[],[]⟩
 | .own t, .a (.ref n)=>match B n with
  | .live t' l true=>cnd (decide (t'=t)&&!isLent n) (some ⟨.a (.ref (3000+j)),[(3000+j, .live t' l true)],[(3000+j,n)],[]⟩)<|none
  |_=>none
 | .vw, .a (.ref n)=>cnd (isLent n) ((match B n with| .live _ _ _=>some ⟨.a (.ref n),[],[],[]⟩|_=>none))<|none
 | .vw, .a (.part n lo hi)=>cnd (isLent n) ((match B n with| .live _ _ _=>some ⟨.a (.part n lo hi),[],[],[]⟩|_=>none))<|none
 | .sh, .a (.part n lo hi)=>cnd (isLent n) ((match B n with| .live _ _ _=>some ⟨.a (.part n lo hi),[],[],[]⟩|_=>none))<|none
 | .sh, .a (.v (.li t) x)=>some ⟨.a (.v (.li t) x),[],[],[]⟩
 | .fn, .cl f caps=>match capAs B caps with|some cs=>some ⟨.cl f cs,[],[],caps.flatMap namesA⟩|none=>none
 |_,_=>none
def resV (E:Env) (tm:List (Nat×V)) (B:Nat→Blk):ResultVar→Option V
 | .tmp t=>some (getV tm t)
 | .cell a t=>aLoad E t (getV tm a) B fun v _=>some v
structure Ress where
 vs:List V
 bs:Bl
 src:List (Nat×Nat)
 fz:List Nat
def resAll (E:Env) (tm:List (Nat×V)) (B:Nat→Blk):Nat→List RM→List ResultVar→Option Ress
 |_,[],[]=>some ⟨[],[],[],[]⟩
 |j,m::ms,r::rs=>match resV E tm B r with
  |some v=>(match resM B j m v with
   |some x=>(match resAll E tm B (j+1) ms rs with
    |some y=>some ⟨x.v::y.vs,x.bs++y.bs,x.src++y.src,x.fz++y.fz⟩
    |none=>none)
   |none=>none)
  |none=>none
 |_,_,_=>none
def lentBack (B:Nat→Blk):Bl→Option Bl
 | []=>some []
 | (n,_)::l=>match B n,lentBack B l with
  | .live t x tl,some m=>some ((n, .live t x tl)::m)
  |_,_=>none
def number:Nat→List V→List (Nat×V)
 |_,[]=>[]
 |i,v::vs=>(i,v)::number (i+1) vs
def atoms':List (Nat×V)→Option (List A)
 | []=>some []
 | (_, .a x)::l=>match atoms' l with|some m=>some (x::m)|none=>none
 |_=>none
def outV:List (Nat×V)→Option V
 | [(_,v)]=>some v
 |vs=>match atoms' vs with|some asx=>some (.tup asx)|none=>none
def evRet {R:Type} (E:Env) (rs:List ResultVar) (rms:List RM) (bs0:Bl) (st:St) (K:St→Option R):Option R:=
 match resAll E st.tm (bB st) 0 rms rs with
 |some y=>(match lentBack (bB st) bs0 with
  |some ls=>cnd (noDup (y.src.map (·.2))&&(y.src.all fun q=>!hasN y.fz q.2)&&(y.fz.all fun n=>!isLent n)&&Nat.ble rms.length 900) (K ⟨number 0 y.vs,ls++y.bs⟩)<|none
  |none=>none)
 |none=>none
def retK {R:Type} (E:Env) (rs:List ResultVar) (rms:List RM) (bs0:Bl) (K:St→Option R):KX R:=fun x st=>match x with
 | .norm=>evRet E rs rms bs0 st K
 | .ret=>evRet E rs rms bs0 st K
 |_=>none
def evFn {R:Type} (E:Env) (orc:Orc R) (an:Ann) (lo:Nat→St→Option R) (N:Nat) (c:Code) (rs:List ResultVar) (rms:List RM) (st0:St) (K:St→Option R):Option R:=
 ev E orc N an lo c st0 (retK E rs rms st0.bl K)
inductive R1 (B:Nat→Blk) (j:Nat):V→V→Bl→List (Nat×Nat)→List Nat→Prop
 |d {t:Ty} {x:A} {z:t.T}:toT B t x=some z→R1 B j (.a x) (.a (.v t z)) [] [] (namesA x)
 |nil {t:Ty}:R1 B j (.a .ns) (.a (.ref (3000+j))) [(3000+j, .live t [] true)] [] []
 |own {t:Ty} {l:List t.T} {n:Nat}:B n= .live t l true→isLent n=false→R1 B j (.a (.ref n)) (.a (.ref (3000+j))) [(3000+j, .live t l true)] [(3000+j,n)] []
 |vw {n:Nat} {t:Ty} {l:List t.T} {tl:Bool}:isLent n=true→B n= .live t l tl→R1 B j (.a (.ref n)) (.a (.ref n)) [] [] []
 |vp {n:Nat} {lo hi:Int} {t:Ty} {l:List t.T} {tl:Bool}:isLent n=true→B n= .live t l tl→R1 B j (.a (.part n lo hi)) (.a (.part n lo hi)) [] [] []
 |vv {t:Ty} {x:List t.T}:R1 B j (.a (.v (.li t) x)) (.a (.v (.li t) x)) [] [] []
 |fn {f:Nat} {caps cs:List A}:capAs B caps=some cs→R1 B j (.cl f caps) (.cl f cs) [] [] (caps.flatMap namesA)
theorem resM_spec {B:Nat→Blk} {j:Nat} {m:RM} {v:V} {x:Res} (h:resM B j m v=some x):R1 B j v x.v x.bs x.src x.fz:=by
 unfold resM at h
 split at h
 ·split at h
  ·rename_i z hz;cases h;exact .d hz
  ·cases h
 ·cases h;exact .nil
 ·rename_i t0 n
  split at h
  ·rename_i t l hb
   cases hc:(decide (t=t0)&&!isLent n)with
   |false=>rw [hc]at h;cases h
   |true=>
    rw [hc]at h
    cases h
    rw [Bool.and_eq_true]at hc
    exact .own hb (by simpa using hc.2)
  ·cases h
 ·rename_i n
  cases hc:isLent n with
  |false=>rw [hc]at h;cases h
  |true=>
   rw [hc,cond_true]at h
   split at h
   ·rename_i hb;cases h;exact .vw hc hb
   ·cases h
 ·rename_i n lo hi
  cases hc:isLent n with
  |false=>rw [hc]at h;cases h
  |true=>
   rw [hc,cond_true]at h
   split at h
   ·rename_i hb;cases h;exact .vp hc hb
   ·cases h
 ·rename_i n lo hi
  cases hc:isLent n with
  |false=>rw [hc]at h;cases h
  |true=>
   rw [hc,cond_true]at h
   split at h
   ·rename_i hb;cases h;exact .vp hc hb
   ·cases h
 ·cases h;exact .vv
 ·split at h
  ·rename_i hc;cases h;exact .fn hc
  ·cases h
 ·cases h
inductive RR (B:Nat→Blk):Nat→List V→List V→Bl→List (Nat×Nat)→List Nat→Prop
 |nil {j:Nat}:RR B j [] [] [] [] []
 |cons {j:Nat} {v x:V} {b:Bl} {s:List (Nat×Nat)} {f:List Nat} {vs xs:List V} {bs:Bl} {ss:List (Nat×Nat)} {fs:List Nat}:R1 B j v x b s f→RR B (j+1) vs xs bs ss fs→RR B j (v::vs) (x::xs) (b++bs) (s++ss) (f++fs)
theorem resAll_spec {E:Env} {tm:List (Nat×V)} {B:Nat→Blk}:∀(rms:List RM) (rs:List ResultVar) (j:Nat) (y:Ress),resAll E tm B j rms rs=some y→∃raws,rs.mapM (resV E tm B)=some raws∧RR B j raws y.vs y.bs y.src y.fz∧raws.length=rms.length
 | [],[],j,y,h=>by cases h;exact⟨[],rfl, .nil,rfl⟩
 |m::ms,r::rs,j,y,h=>by
  unfold resAll at h
  split at h
  ·rename_i v hv
   split at h
   ·rename_i x hx
    split at h
    ·rename_i z hz
     cases h
     obtain⟨raws,h1,h2,h3⟩:=resAll_spec ms rs (j+1) z hz
     refine⟨v::raws,?_, .cons (resM_spec hx) h2,by simp [h3]⟩
     rw [List.mapM_cons,hv]
     simp [h1]
    ·cases h
   ·cases h
  ·cases h
 | [],_::_,j,y,h=>by cases h
 |_::_,[],j,y,h=>by cases h
section
variable {B:Nat→Blk}
theorem RR.own {j:Nat} {vs xs:List V} {bs:Bl} {src:List (Nat×Nat)} {fz:List Nat} (h:RR B j vs xs bs src fz):
  (∀n b,look bs n=some b→3000+j≤n∧n<3000+j+vs.length∧((∃s t l,look src n=some s∧b= .live t l true∧B s=b∧isLent s=false)∨(look src n=none∧∃t,b= .live t [] true)))∧
  (∀n s,look src n=some s→look bs n≠none):=by
 induction h with
 |nil=>exact⟨(fun n b h=>by cases h),(fun n s h=>by cases h)⟩
 | @cons j v x b s f vs xs bs ss fs h1 _ ih=>
  obtain⟨i1,i2⟩:=ih
  have rest:b=[]→s=[]→(∀n b',look (b++bs) n=some b'→3000+j≤n∧n<3000+j+(v::vs).length∧((∃s' t l,look (s++ss) n=some s'∧b'= .live t l true∧B s'=b'∧isLent s'=false)∨(look (s++ss) n=none∧∃t,b'= .live t [] true)))∧
    (∀n s',look (s++ss) n=some s'→look (b++bs) n≠none):=by
   rintro rfl rfl
   refine⟨fun n b' h=>?_,i2⟩
   obtain⟨q1,q2,q3⟩:=i1 n b' h
   exact⟨by omega,by simp only [List.length_cons];omega,q3⟩
  cases h1 with
  |d _=>exact rest rfl rfl
  |vw _ _=>exact rest rfl rfl
  |vp _ _=>exact rest rfl rfl
  |vv=>exact rest rfl rfl
  |fn _=>exact rest rfl rfl
  | @nil t=>
   refine⟨fun n b' h=>?_,fun n s' h=>?_⟩
   ·rw [look_append,look_one]at h
    by_cases e:3000+j=n
    ·rw [if_pos e]at h
     cases h
     refine⟨by omega,by simp only [List.length_cons];omega,Or.inr ⟨?_,t,rfl⟩⟩
     cases hl:look ss n with
     |none=>simpa using hl
     |some s'=>
      exfalso
      have:=i2 n s' hl
      cases hb:look bs n with
      |none=>exact this hb
      |some b=>have:=(i1 n b hb).1;omega
    ·rw [if_neg e]at h
     obtain⟨q1,q2,q3⟩:=i1 n b' h
     exact⟨by omega,by simp only [List.length_cons];omega,q3⟩
   ·rw [look_append,look_one]
    by_cases e:3000+j=n
    ·rw [if_pos e];intro e;cases e
    ·rw [if_neg e];exact i2 n s' h
  | @own t l m hb hl=>
   refine⟨fun n b' h=>?_,fun n s' h=>?_⟩
   ·rw [look_append,look_one]at h
    rw [look_append,look_one]
    by_cases e:3000+j=n
    ·rw [if_pos e]at h
     cases h
     rw [if_pos e]
     exact⟨by omega,by simp only [List.length_cons];omega,Or.inl ⟨m,t,l,rfl,rfl,hb,hl⟩⟩
    ·rw [if_neg e]at h
     rw [if_neg e]
     obtain⟨q1,q2,q3⟩:=i1 n b' h
     exact⟨by omega,by simp only [List.length_cons];omega,q3⟩
   ·rw [look_append,look_one]at h⊢
    by_cases e:3000+j=n
    ·rw [if_pos e];intro e;cases e
    ·rw [if_neg e]at h⊢
     exact i2 n s' h
end
theorem noDup_look:∀(l:List (Nat×Nat)),noDup (l.map (·.2))=true→∀n n' s,look l n=some s→look l n'=some s→n=n'
 | [],_,n,n',s,h,_=>by cases h
 | (m,x)::l,hd,n,n',s,h,h'=>by
  rw [List.map_cons]at hd
  unfold noDup at hd
  cases hh:hasN (l.map (·.2)) x with
  |true=>rw [hh]at hd;cases hd
  |false=>
   rw [hh,cond_false]at hd
   have hx:∀k,look l k≠some x:=by
    intro k e
    have:x∈l.map (·.2):=List.mem_map.2 ⟨_,look_mem _ _ _ e,rfl⟩
    rw [hasN_mem.2 this]at hh;cases hh
   unfold look at h h'
   cases hb:Nat.beq m n with
   |true=>
    rw [hb]at h
    cases h
    cases hb':Nat.beq m n' with
    |true=>rw [←Nat.eq_of_beq_eq_true hb,←Nat.eq_of_beq_eq_true hb']
    |false=>rw [hb']at h';exact absurd h' (hx n')
   |false=>
    rw [hb,cond_false]at h
    cases hb':Nat.beq m n' with
    |true=>rw [hb']at h';cases h';exact absurd h (hx n)
    |false=>rw [hb',cond_false]at h';exact noDup_look l hd n n' s h h'
theorem lentBack_spec {B:Nat→Blk}:∀(bs0 ls:Bl),lentBack B bs0=some ls→(∀n b,look ls n=some b→look bs0 n≠none∧B n=b∧live b)∧(∀n,look bs0 n≠none→look ls n≠none)
 | [],ls,h=>by cases h;exact⟨(fun n b h=>by cases h),fun n h=>h⟩
 | (m,x)::bs0,ls,h=>by
  unfold lentBack at h
  split at h
  ·rename_i t l tl m' hb hm
   cases h
   obtain⟨i1,i2⟩:=lentBack_spec bs0 m' hm
   have lk:∀{α:Type} (x:α) (l:List (Nat×α)) n,look ((m,x)::l) n=if m=n then some x else look l n:=by
    intro α x l n
    show(cnd (Nat.beq m n) (some x)<|look l n)=_
    cases hq:Nat.beq m n with
    |true=>rw [if_pos (Nat.eq_of_beq_eq_true hq)];rfl
    |false=>rw [if_neg (by intro e;subst e;rw [Nat.beq_refl]at hq;cases hq)];rfl
   refine⟨fun n b h=>?_,fun n h=>?_⟩
   ·rw [lk]at h⊢
    split at h
    ·rename_i e
     cases h;subst e
     exact⟨(by rw [if_pos rfl];intro e;cases e),hb,_,_,_,rfl⟩
    ·rename_i e
     rw [if_neg e]
     exact i1 n b h
   ·rw [lk]at h⊢
    split
    ·intro e;cases e
    ·rename_i e
     rw [if_neg e]at h
     exact i2 n h
  ·cases h
section
variable {P:Program} {E:Env} {w0:World} {Bo:Nat→Nat→Prop} {pb:Nat→Blk} {R:Type} {K:KV R} {r:R}
theorem load_ok (hE:EnvOk P E) {t:Nat} {x:V} (h:aLoad E t x pb K=some r):∃v',K v' []=some r∧∀(bl:Nat→Blk) (φ:Nat→Addr) (w:World) (a:Value),Agree pb bl→Mem w0 Bo bl φ w→RepV w bl φ x a→
  ∃ad v,a= .pointer (some ad)∧(loadVar t ad).run P w= .ok v w∧RepV w bl φ v' v:=by
 have ld:∀{bl:Nat→Blk} {φ:Nat→Addr} {w:World} (m:Mem w0 Bo bl φ w) {n:Nat} {ty:Ty} {l:List ty.T} (hh:holds (bl n) ty l) {i:Int} {π:List Nat} {a:Value} (hr:RepA w bl φ (.ptr n i π) a) {d:Dat}
   (hg:getP π ty (l.getD i.toNat ty.zero)=some d) (hi:E.is t d.t=true),∃ad v,a= .pointer (some ad)∧(loadVar t ad).run P w= .ok v w∧RepV w bl φ (.a (.v d.t d.x)) v:=by
  intro bl φ w m n ty l hh i π a hr d hg hi
  obtain⟨h0,h1,_,hs,rfl⟩:=ptr_holds hh hr
  obtain⟨ci,g1,g2⟩:=blk_arr m hh hs _ _ (getD_nth (d:=ty.zero) h0 h1)
  obtain⟨_,c1,c2,c3,rfl,e1,e2⟩:=getP_ok π ty _ d ci hg g2
  have hseg:=Seg_mid g1
  rw [e1]at hseg
  obtain⟨v,q1,q2⟩:=loadVar_ok (hE.is hi) hseg e2
  exact⟨_,v,rfl,q1,c2,e2,q2⟩
 unfold aLoad at h
 split at h
 ·rename_i n i π
  cases hp:pb n with
  |live ty l tl=>
   rw [hp]at h
   simp only at h
   split at h
   ·rename_i d hg
    cases hi:E.is t d.t with
    |false=>rw [hi]at h;cases h
    |true=>
     rw [hi]at h
     exact⟨_,h,fun bl φ w a ha hm hx=>ld hm (Or.inl ⟨tl,by rw [ha n (by rw [hp];intro e;cases e),hp]⟩) hx hg hi⟩
   ·cases h
  |froz ty l=>
   rw [hp]at h
   simp only at h
   split at h
   ·rename_i d hg
    cases hi:E.is t d.t with
    |false=>rw [hi]at h;cases h
    |true=>
     rw [hi]at h
     exact⟨_,h,fun bl φ w a ha hm hx=>ld hm (Or.inr (by rw [ha n (by rw [hp];intro e;cases e),hp])) hx hg hi⟩
   ·cases h
  |_=>rw [hp]at h;cases h
 ·rename_i ty x
  cases hi:E.is t ty with
  |false=>rw [hi]at h;cases h
  |true=>
   rw [hi]at h
   refine⟨_,h,fun bl φ w a ha hm hx=>?_⟩
   obtain⟨b,o,cs,rfl,h2,h3,h4,h5⟩:=hx
   obtain⟨v,q1,q2⟩:=loadVar_ok (hE.is hi) h4 h5
   exact⟨_,v,rfl,q1,cs,h5,q2⟩
 ·cases h
theorem frzs_look {B:Nat→Blk} {n:Nat}:∀(ns:List Nat),look (frzs B ns) n≠none→live (B n)
 | [],h=>absurd rfl h
 |k::ns,h=>by
  unfold frzs at h
  rw [List.flatMap_cons,look_append]at h
  cases hk:look (frzN B k) n with
  |none=>
   rw [hk]at h
   exact frzs_look ns h
  |some b=>
   unfold frzN at hk
   split at hk
   ·rename_i t l tl hb
    rw [look_one]at hk
    split at hk
    ·rename_i e;subst e;exact⟨_,_,_,hb⟩
    ·cases hk
   ·cases hk
end
def φr (src:List (Nat×Nat)) (φ:Nat→Addr) (n:Nat):Addr:=match look src n with
 |some s=>φ s
 |none=>if(2000≤n∧n<3000)∨10000≤n then φ n else⟨0,0,some 0⟩
structure RetH (N:Nat) (w0:World) (bl0:Nat→Blk) (φ0:Nat→Addr) (bs0:Bl) (st:St) (bl:Nat→Blk) (φ:Nat→Addr) (a:Act) (w:World) (raws vs:List V) (bs:Bl) (src:List (Nat×Nat)) (fz:List Nat) (ls:Bl):Prop where
 rr:RR (bB st) 0 raws vs bs src fz
 len:raws.length≤900
 ls:lentBack (bB st) bs0=some ls
 nd:noDup (src.map (·.2))=true
 nfz:∀q,q∈src→q.2∉fz
 nl:∀n,n∈fz→isLent n=false
 loc:Local bl0 bs0
 hb:∀n b,look bs0 n=some b→isLent n=true∧live b
 m0:Mem w0 (lentBo bs0 φ0) bl0 φ0 w0
 rel:RelS N w0 (lentBo bs0 φ0) bl0 φ0 (getV st.tm) (getB st.bl) bl φ a w
theorem lent_iff {n:Nat}:isLent n=true↔2000≤n∧n<3000:=by
 unfold isLent
 rw [Bool.and_eq_true,Nat.blt_eq]
 exact⟨fun h=>⟨Nat.le_of_ble_eq_true h.1,h.2⟩,fun h=>⟨Nat.ble_eq_true_of_le h.1,h.2⟩⟩
section
variable {N:Nat} {w0:World} {bl0:Nat→Blk} {φ0:Nat→Addr} {bs0:Bl} {st:St} {bl:Nat→Blk} {φ:Nat→Addr} {a:Act} {w:World} {raws vs:List V} {bs:Bl} {src:List (Nat×Nat)} {fz:List Nat} {ls:Bl}
variable (H:RetH N w0 bl0 φ0 bs0 st bl φ a w raws vs bs src fz ls)
include H
theorem RetH.agree:Agree (bB st) bl:=by
 intro n hn
 unfold bB at hn⊢
 cases hb:Nat.blt n 10000 with
 |true=>rw [Nat.blt_eq]at hb;exact H.rel.loc n hb
 |false=>rw [hb]at hn;exact absurd rfl hn
omit H in
theorem bB_live {n:Nat} (h:live (bB st n)):n<10000:=by
 unfold bB at h
 cases hb:Nat.blt n 10000 with
 |true=>rwa [Nat.blt_eq]at hb
 |false=>rw [hb]at h;obtain⟨_,_,_,e⟩:=h;cases e
theorem RetH.bl_of {n:Nat} (h:live (bB st n)):bl n=bB st n:=H.agree n (by obtain⟨_,_,_,e⟩:=h;rw [e];intro q;cases q)
omit H in
theorem RetH.far1x {n:Nat} (h:¬n<10000):updB (frzs (bB st) fz) bl n=bl n:=updB_none (by
 cases hl:look (frzs (bB st) fz) n with
 |none=>rfl
 |some b=>exact absurd (bB_live (frzs_look fz (by rw [hl];intro e;cases e))) h)
theorem RetH.m1:Mem w0 (lentBo bs0 φ0) (updB (frzs (bB st) fz) bl) φ w:=(frzs_step H.agree H.rel.mem fz).mem
theorem RetH.lent0 {n:Nat} (h:live (bl0 n)) (hn:n<10000):isLent n=true∧∃b,look ls n=some b∧bB st n=b∧live b:=by
 rw [H.loc n hn,getB_look]at h
 cases hl:look bs0 n with
 |none=>rw [hl]at h;obtain⟨_,_,_,e⟩:=h;cases e
 |some b=>
  obtain⟨h1,h2⟩:=lentBack_spec _ _ H.ls
  have h3:=h2 n (by rw [hl];intro e;cases e)
  obtain⟨b',h4⟩:=Option.ne_none_iff_exists'.1 h3
  exact⟨(H.hb n b hl).1,b',h4,(h1 n b' h4).2⟩
theorem RetH.inls {n:Nat} {b:Blk} (h:look ls n=some b):isLent n=true∧n<10000∧live b∧bl n=b∧updB (frzs (bB st) fz) bl n=b∧bB st n=b:=by
 obtain⟨h1,_⟩:=lentBack_spec _ _ H.ls
 obtain⟨k1,k2,k3⟩:=h1 n b h
 obtain⟨b0,k4⟩:=Option.ne_none_iff_exists'.1 k1
 have k5:=(H.hb n b0 k4).1
 have k6:=lent_iff.1 k5
 have k7:bl n=b:=by rw [H.bl_of (by rw [k2];exact k3),k2]
 refine⟨k5,by omega,k3,k7,?_,k2⟩
 rw [frzs_not _ _ (fun e=>by have:=H.nl n e;rw [k5]at this;cases this),k7]
theorem RetH.bnd {n:Nat} {b:Blk} (h:look bs n=some b):3000≤n∧n<3900:=by
 obtain⟨q1,q2,_⟩:=H.rr.own.1 n b h
 have e:raws.length=vs.length:=by
  have:∀{j:Nat} {raws vs:List V} {bs:Bl} {src:List (Nat×Nat)} {fz:List Nat},RR (bB st) j raws vs bs src fz→raws.length=vs.length:=by
   intro j raws vs bs src fz h
   induction h with
   |nil=>rfl
   |cons _ _ ih=>simp [ih]
  exact this H.rr
 have:=H.len
 omega
theorem RetH.cls {n:Nat} (h:live (updB (ls++bs) bl0 n)) (hs:(φr src φ n).spot=none):
  ∃s,(look src n=some s∨(s=n∧special n))∧updB (frzs (bB st) fz) bl s=updB (ls++bs) bl0 n∧φr src φ n=φ s∧(look src n=some s→s<10000∧isLent s=false∧∃t l,updB (ls++bs) bl0 n= .live t l true)∧
   ((s=n∧special n)→live (bl0 n)∧φ n=φ0 n):=by
 have spec:∀b,special n→look src n=none→updB (frzs (bB st) fz) bl n=b→updB (ls++bs) bl0 n=b→bl n=b→bl0 n≠ .fresh→(∃s,(look src n=some s∨(s=n∧special n))∧updB (frzs (bB st) fz) bl s=updB (ls++bs) bl0 n∧φr src φ n=φ s∧(look src n=some s→s<10000∧isLent s=false∧∃t l,updB (ls++bs) bl0 n= .live t l true)∧
   ((s=n∧special n)→live (bl0 n)∧φ n=φ0 n)):=by
  intro b h1 h2 h3 h4 h6 h5
  obtain⟨k1,k2⟩:=(H.rel.keep n h1).2 h5
  rw [h4]at h
  rw [h6]at k1 k2
  refine⟨n,Or.inr ⟨rfl,h1⟩,by rw [h3,h4],by unfold φr;rw [h2];exact if_pos h1,(fun e=>by rw [h2]at e;cases e),fun _=>⟨?_,k2 ?_⟩⟩
  ·obtain⟨t,l,tl,rfl⟩:=h
   cases hq:bl0 n with
   |live=>exact⟨_,_,_,rfl⟩
   |fresh=>exact absurd hq h5
   |_=>rw [hq]at k1;cases k1
  ·obtain⟨t,l,tl,rfl⟩:=h;rfl
 have nosrc:look bs n=none→look src n=none:=by
  intro e
  cases hl:look src n with
  |none=>rfl
  |some s=>exact absurd e (H.rr.own.2 n s hl)
 have e0:updB (ls++bs) bl0 n=match look ls n with|some b=>b|none=>match look bs n with|some b=>b|none=>bl0 n:=by
  unfold updB
  rw [look_append]
  cases look ls n<;>rfl
 cases h1:look ls n with
 |some b=>
  rw [h1]at e0
  obtain⟨q1,q2,q3,q4,q5,q6⟩:=H.inls h1
  have q1':=lent_iff.1 q1
  have hb:look bs n=none:=by
   cases hb:look bs n with
   |none=>rfl
   |some b'=>have:=H.bnd hb;omega
  refine spec b (Or.inl q1') (nosrc hb) q5 e0 q4 ?_
  intro e
  rw [(H.rel.keep n (Or.inl q1')).1 e]at q4
  obtain⟨_,_,_,e⟩:=q3;rw [e]at q4;cases q4
 |none=>
  rw [h1]at e0
  cases h2:look bs n with
  |some b=>
   rw [h2]at e0
   obtain⟨_,_,q⟩:=H.rr.own.1 n b h2
   have hbn:=H.bnd h2
   rcases q with⟨s,t,l,g1,rfl,g2,g3⟩| ⟨g1,_⟩
   ·have hlv:live (bB st s):=⟨_,_,_,g2⟩
    have hs1:updB (frzs (bB st) fz) bl s= .live t l true:=by
     rw [frzs_not _ _ (H.nfz _ (look_mem _ _ _ g1)),H.bl_of hlv,g2]
    refine⟨s,Or.inl g1,by rw [hs1,e0],by unfold φr;rw [g1],fun _=>⟨bB_live hlv,g3,t,l,e0⟩,fun e=>?_⟩
    rcases e.2 with e|e<;>omega
   ·unfold φr at hs
    rw [g1]at hs
    simp only at hs
    rw [if_neg (by omega)]at hs
    cases hs
  |none=>
   rw [h2]at e0
   simp only at e0
   rw [e0]at h
   by_cases hn:n<10000
   ·obtain⟨_,b,e,_⟩:=H.lent0 h hn
    rw [h1]at e;cases e
   ·have hf:=H.rel.far n (by omega)
    exact spec (bl0 n) (Or.inr (by omega)) (nosrc h2) (by rw [RetH.far1x hn,hf]) e0 hf (by obtain⟨_,_,_,e⟩:=h;rw [e];intro q;cases q)
theorem RetH.ownUp {b:Nat} (h:owns (updB (ls++bs) bl0) (φr src φ) b):owns (updB (frzs (bB st) fz) bl) φ b:=by
 obtain⟨n,h1,h2,h3⟩:=h
 obtain⟨s,_,q2,q3,_⟩:=H.cls h1 h2
 exact⟨s,by rw [q2];exact h1,by rw [←q3];exact h2,by rw [←q3];exact h3⟩
theorem RetH.ownZ {b:Nat} (hb:b<w0.heap.size) (h:owns (updB (ls++bs) bl0) (φr src φ) b):owns bl0 φ0 b:=by
 obtain⟨n,h1,h2,h3⟩:=h
 obtain⟨s,q1,q2,q3,q4,q5⟩:=H.cls h1 h2
 rcases q1 with q1|q1
 ·exfalso
  obtain⟨k1,k2,t,l,k3⟩:=q4 q1
  rw [k3]at q2
  rcases H.m1.lo s t l true k1 q2 (by rw [←q3];exact h2)with h| ⟨h,_⟩
  ·rw [q3]at h3;omega
  ·cases h
 ·obtain⟨k1,k2⟩:=q5 q1
  obtain⟨rfl,_⟩:=q1
  exact⟨s,k1,by rw [←k2,←q3];exact h2,by rw [←k2,←q3];exact h3⟩
theorem RetH.step:Step w0 (lentBo bs0 φ0) bl0 φ0 w0 (updB (ls++bs) bl0) (φr src φ) w:=by
 have hfr:=H.rel.mem.fr
 have heq:Ext w (owns (updB (frzs (bB st) fz) bl) φ) w (owns (updB (ls++bs) bl0) (φr src φ)):=(Frame'.refl w (fun _ _=>False)).ext (fun _ _ _ h=>h.elim) fun b _ h=>H.ownUp h
 refine⟨⟨hfr.ext (fun b o hb h=>?_) (fun b hb h=>H.ownZ hb h),fun n hn=>?_,H.m0.at_⟩,⟨fun n=>?_,fun n k h1 h2 h3 h4 h5=>?_,fun n t l tl hn h1 h2=>?_,hfr⟩⟩
 ·obtain⟨n,t,l,tl,h1,h2,h3,h4,_⟩:=h
  exact⟨n,⟨t,l,tl,by rw [H.loc n h1];exact h2⟩,h3,h4⟩
 ·have e0:updB (ls++bs) bl0 n=match look ls n with|some b=>b|none=>match look bs n with|some b=>b|none=>bl0 n:=by
   unfold updB
   rw [look_append]
   cases look ls n<;>rfl
  have spec:special n→look src n=none→BlkLe (bl0 n) (bl n)→(lf (bl n)→φ n=φ0 n)→updB (ls++bs) bl0 n=bl n→BlkLe (bl0 n) (updB (ls++bs) bl0 n)∧(lf (updB (ls++bs) bl0 n)→φr src φ n=φ0 n):=by
   intro h1 h2 h3 h4 h5
   rw [h5]
   refine⟨h3,fun h=>?_⟩
   unfold φr
   rw [h2]
   exact(if_pos h1).trans (h4 h)
  have nosrc:special n→look src n=none:=by
   intro hs
   cases hl:look src n with
   |none=>rfl
   |some s=>
    exfalso
    cases hb:look bs n with
    |none=>exact H.rr.own.2 n s hl hb
    |some b=>have:=H.bnd hb;rcases hs with hs|hs<;>omega
  have nobs:special n→look bs n=none:=by
   intro hs
   cases hb:look bs n with
   |none=>rfl
   |some b=>have:=H.bnd hb;rcases hs with hs|hs<;>omega
  by_cases hlt:n<10000
  ·have hlook:∃b,look bs0 n=some b:=by
    rw [H.loc n hlt,getB_look]at hn
    cases hl:look bs0 n with
    |none=>rw [hl]at hn;exact absurd rfl hn
    |some b=>exact⟨b,rfl⟩
   obtain⟨b0,hb0⟩:=hlook
   obtain⟨g1,g2⟩:=H.hb n b0 hb0
   have hsp:special n:=Or.inl (lent_iff.1 g1)
   obtain⟨k1,k2⟩:=(H.rel.keep n hsp).2 hn
   have hlv:live (bl0 n):=by rw [H.loc n hlt,getB_look,hb0];exact g2
   obtain⟨_,b,q1,q2,q3⟩:=H.lent0 hlv hlt
   refine spec hsp (nosrc hsp) k1 k2 ?_
   rw [e0,q1,(H.inls q1).2.2.2.1]
  ·have hsp:special n:=Or.inr (by omega)
   obtain⟨k1,k2⟩:=(H.rel.keep n hsp).2 hn
   refine spec hsp (nosrc hsp) k1 k2 ?_
   have h1:look ls n=none:=by
    cases hl:look ls n with
    |none=>rfl
    |some b=>exact absurd (H.inls hl).2.1 hlt
   rw [e0,h1,nobs hsp,H.rel.far n (by omega)]
 ·by_cases hl:live (updB (ls++bs) bl0 n)
  ·by_cases hs:(φr src φ n).spot=none
   ·obtain⟨s,q1,q2,q3,_⟩:=H.cls hl hs
    have:=H.m1.blk s
    rw [q2,←q3]at this
    exact BlkOk_ext heq (fun _ _ _ _ h=>h) this
   ·obtain⟨t,l,tl,e⟩:=hl
    rw [e]
    have e0:updB (ls++bs) bl0 n=match look ls n with|some b=>b|none=>match look bs n with|some b=>b|none=>bl0 n:=by
     unfold updB
     rw [look_append]
     cases look ls n<;>rfl
    have bare:∀s,updB (frzs (bB st) fz) bl s= .live t l tl→φr src φ n=φ s→Bare (φr src φ n) l.length:=by
     intro s h1 h2
     have:=H.m1.blk s
     rw [h1,←h2]at this
     rcases this with h|h
     ·exact h
     ·exact absurd h.1 hs
    refine Or.inl ?_
    have nosrc:look bs n=none→look src n=none:=by
     intro e
     cases hl:look src n with
     |none=>rfl
     |some s=>exact absurd e (H.rr.own.2 n s hl)
    cases h1:look ls n with
    |some b=>
     rw [h1]at e0
     obtain⟨q1,q2,q3,q4,q5,q6⟩:=H.inls h1
     have q1':=lent_iff.1 q1
     have hb:look bs n=none:=by
      cases hb:look bs n with
      |none=>rfl
      |some b'=>have:=H.bnd hb;omega
     rw [e]at e0
     simp only at e0
     refine bare n (by rw [q5];exact e0.symm) ?_
     unfold φr
     rw [nosrc hb]
     exact if_pos (Or.inl q1')
    |none=>
     rw [h1]at e0
     cases h2:look bs n with
     |some b=>
      rw [h2]at e0
      have hbn:=H.bnd h2
      obtain⟨_,_,q⟩:=H.rr.own.1 n b h2
      rw [e]at e0
      simp only at e0
      rcases q with⟨s,t',l',g1,g4,g2,g3⟩| ⟨g1,t',g2⟩
      ·have hlv:live (bB st s):=⟨_,_,_,g2.trans g4⟩
       refine bare s ?_ (by unfold φr;rw [g1])
       rw [frzs_not _ _ (H.nfz _ (look_mem _ _ _ g1)),H.bl_of hlv,g2];exact e0.symm
      ·rw [g2]at e0
       cases e0
       refine⟨?_,rfl⟩
       unfold φr
       rw [g1]
       simp only
       rw [if_neg (by omega)]
       intro q;cases q
     |none=>
      rw [h2]at e0
      simp only at e0
      have hlv:live (bl0 n):=by rw [←e0,e];exact⟨_,_,_,rfl⟩
      by_cases hn:n<10000
      ·obtain⟨_,b,e,_⟩:=H.lent0 hlv hn
       rw [h1]at e;cases e
      ·refine bare n (by rw [RetH.far1x hn,H.rel.far n (by omega),←e0,e]) ?_
       unfold φr
       rw [nosrc h2]
       exact if_pos (Or.inr (by omega))
  ·cases hb:updB (ls++bs) bl0 n with
   |fresh=>trivial
   |dead=>trivial
   |husk=>trivial
   |live t l tl=>exact absurd ⟨t,l,tl,hb⟩ hl
   |froz t l=>
    have e0:updB (ls++bs) bl0 n=match look ls n with|some b=>b|none=>match look bs n with|some b=>b|none=>bl0 n:=by
     unfold updB
     rw [look_append]
     cases look ls n<;>rfl
    rw [hb]at e0
    cases h1:look ls n with
    |some b=>
     rw [h1]at e0
     obtain⟨_,_,⟨_,_,_,q3⟩,_⟩:=H.inls h1
     rw [q3]at e0;cases e0
    |none=>
     rw [h1]at e0
     cases h2:look bs n with
     |some b=>
      rw [h2]at e0
      obtain⟨_,_,q⟩:=H.rr.own.1 n b h2
      rcases q with⟨s,t',l',g1,g4,_⟩| ⟨g1,t',g2⟩
      ·rw [g4]at e0;cases e0
      ·rw [g2]at e0;cases e0
     |none=>
      rw [h2]at e0
      simp only at e0
      have hn:¬n<10000:=by
       intro hn
       rw [H.loc n hn,getB_look]at e0
       cases hl:look bs0 n with
       |none=>rw [hl]at e0;cases e0
       |some b=>
        rw [hl]at e0
        obtain⟨_,_,_,q⟩:=(H.hb n b hl).2
        rw [q]at e0;cases e0
      have hf:=H.rel.far n (by omega)
      have:=H.m1.blk n
      rw [RetH.far1x hn,hf,←e0]at this
      have hφ:φr src φ n=φ n:=by
       unfold φr
       have:look src n=none:=by
        cases hl:look src n with
        |none=>rfl
        |some s=>exact absurd h2 (H.rr.own.2 n s hl)
       rw [this]
       exact if_pos (Or.inr (by omega))
      rw [hφ]
      exact BlkOk_ext heq (fun _ _ _ _ h=>h) this
 ·obtain⟨s,q1,q2,q3,q4,q5⟩:=H.cls h1 h3
  obtain⟨s',p1,p2,p3,p4,p5⟩:=H.cls h2 h4
  have:s=s':=H.m1.uniq s s' (by rw [q2];exact h1) (by rw [p2];exact h2) (by rw [←q3];exact h3) (by rw [←p3];exact h4) (by rw [←q3,←p3];exact h5)
  subst this
  rcases q1 with q1|q1
  ·rcases p1 with p1|p1
   ·exact noDup_look src H.nd n k s q1 p1
   ·exfalso
    obtain⟨k1,k2,_⟩:=q4 q1
    obtain⟨e,hsp⟩:=p1
    rw [←e]at hsp
    rcases hsp with h|h
    ·rw [lent_iff.2 h]at k2;cases k2
    ·omega
  ·rcases p1 with p1|p1
   ·exfalso
    obtain⟨k1,k2,_⟩:=p4 p1
    obtain⟨e,hsp⟩:=q1
    rw [←e]at hsp
    rcases hsp with h|h
    ·rw [lent_iff.2 h]at k2;cases k2
    ·omega
   ·rw [←q1.1,←p1.1]
 ·obtain⟨s,q1,q2,q3,q4,q5⟩:=H.cls ⟨_,_,_,h1⟩ h2
  rw [q3]
  have hs:s<10000:=by
   rcases q1 with q1|q1
   ·exact(q4 q1).1
   ·rw [q1.1];exact hn
  exact H.m1.lo s t l tl hs (by rw [q2,h1]) (by rw [←q3];exact h2)
end
section
variable {N:Nat} {w0:World} {bl0:Nat→Blk} {φ0:Nat→Addr} {bs0:Bl} {st:St} {bl:Nat→Blk} {φ:Nat→Addr} {a:Act} {w:World} {raws vs:List V} {bs:Bl} {src:List (Nat×Nat)} {fz:List Nat} {ls:Bl}
variable (H:RetH N w0 bl0 φ0 bs0 st bl φ a w raws vs bs src fz ls)
include H
theorem RetH.lent_end {n:Nat} (h1:isLent n=true) (h2:live (bB st n)):updB (ls++bs) bl0 n=bB st n∧φr src φ n=φ n∧bl n=bB st n:=by
 have hlt:=lent_iff.1 h1
 have hbl:=H.bl_of h2
 have hf:bl0 n≠ .fresh:=by
  intro e
  rw [(H.rel.keep n (Or.inl hlt)).1 e]at hbl
  rw [←hbl]at h2;obtain⟨_,_,_,q⟩:=h2;cases q
 obtain⟨g1,g2⟩:=lentBack_spec _ _ H.ls
 have h3:look bs0 n≠none:=by
  intro e
  rw [H.loc n (by omega),getB_look,e]at hf
  exact hf rfl
 obtain⟨b,h4⟩:=Option.ne_none_iff_exists'.1 (g2 n h3)
 have h5:=(g1 n b h4).2.1
 refine⟨?_,?_,hbl⟩
 ·rw [updB_some (b:=b) (by rw [look_append,h4]),h5]
 ·unfold φr
  have:look src n=none:=by
   cases hl:look src n with
   |none=>rfl
   |some s=>
    exfalso
    cases hb:look bs n with
    |none=>exact H.rr.own.2 n s hl hb
    |some b=>have:=H.bnd hb;omega
  rw [this]
  exact if_pos (Or.inl hlt)
theorem RetH.own_end {n:Nat} {b:Blk} (h:look bs n=some b):updB (ls++bs) bl0 n=b:=by
 refine updB_some ?_
 rw [look_append]
 cases hl:look ls n with
 |none=>exact h
 |some b'=>have:=lent_iff.1 (H.inls hl).1;have:=H.bnd h;omega
theorem RetH.val {j:Nat} {v x:V} {b:Bl} {s:List (Nat×Nat)} {f:List Nat} (h:R1 (bB st) j v x b s f) (hb:∀n y,look b n=some y→look bs n=some y) (hs:∀n y,look s n=some y→look src n=some y)
  (hn:∀n,look b n≠none→look s n=none→look src n=none) (hf:∀n,n∈f→n∈fz) {u:Value} (hu:RepV w bl φ v u):RepV w (updB (ls++bs) bl0) (φr src φ) x u:=by
 cases h with
 | @d t x z hz=>exact byval_own (fun b h=>H.ownUp h) (Or.inl ⟨_,_,rfl⟩) (toT_ok H.agree H.rel.mem (fun n hn _=>hf n hn) hz hu)
 | @nil t=>
  have h1:=hb (3000+j) (.live t [] true) (by rw [look_one,if_pos rfl])
  have h2:=hn (3000+j) (by rw [look_one,if_pos rfl];intro e;cases e) rfl
  have hj:=H.bnd h1
  obtain⟨ad,rfl⟩:=hu
  have e2:φr src φ (3000+j)=⟨0,0,some 0⟩:=by
   unfold φr
   rw [h2]
   exact if_neg (by omega)
  simp only [RepV,RepA,H.own_end h1,e2]
  exact Or.inl ⟨rfl,ad,rfl⟩
 | @own t l n h1 h2=>
  have k1:=hb (3000+j) (.live t l true) (by rw [look_one,if_pos rfl])
  have k2:=hs (3000+j) n (by rw [look_one,if_pos rfl])
  have e2:φr src φ (3000+j)=φ n:=by unfold φr;rw [k2]
  have hbl:=H.bl_of ⟨t,l,true,h1⟩
  simp only [RepV,RepA,hbl,h1]at hu
  simp only [RepV,RepA,H.own_end k1,e2]
  exact hu
 | @vw n t l tl h1 h2=>
  obtain⟨k1,k2,k3⟩:=H.lent_end h1 ⟨t,l,tl,h2⟩
  simp only [RepV,RepA,k3,h2]at hu
  simp only [RepV,RepA,k1,k2,h2]
  exact hu
 | @vp n lo hi t l tl h1 h2=>
  obtain⟨k1,k2,k3⟩:=H.lent_end h1 ⟨t,l,tl,h2⟩
  simp only [RepV,RepA,k3,h2]at hu
  simp only [RepV,RepA,k1,k2,h2]
  exact hu
 | @vv t x=>exact byval_own (fun b h=>H.ownUp h) (Or.inl ⟨_,_,rfl⟩) (RepA_goes (frzs_step H.agree H.rel.mem fz).goes _ _ hu)
 | @fn g caps cs hc=>
  obtain⟨cv,e1,e2⟩:=hu
  refine⟨cv,e1,?_⟩
  have:=capAs_ok H.agree H.rel.mem (ns:=fz) caps cs cv (fun n hn=>hf n hn) hc e2
  exact RepAs_own (fun b h=>H.ownUp h) (capAs_pv caps cs hc) this
theorem RetH.vals {j:Nat} {rws xs:List V} {b:Bl} {s:List (Nat×Nat)} {f:List Nat} (h:RR (bB st) j rws xs b s f):(∀n y,look b n=some y→look bs n=some y)→(∀n y,look s n=some y→look src n=some y)→
  (∀n,look b n≠none→look s n=none→look src n=none)→(∀n,n∈f→n∈fz)→∀{us:List Value},RepVs w bl φ rws us→RepVs w (updB (ls++bs) bl0) (φr src φ) xs us:=by
 induction h with
 |nil=>intro _ _ _ _ us hu;cases hu;exact .nil
 | @cons j v x b s f rws xs bs' ss fs h1 h2 ih=>
  intro hb hs hn hf us hu
  cases hu with
  |cons u1 u2=>
   have hone:(b=[]∧s=[])∨((∀n,look b n≠none→n=3000+j)∧(∀n,look s n≠none→n=3000+j)∧look b (3000+j)≠none):=by
    have lone:∀{α:Type} (y:α) n,look [(3000+j,y)] n≠none→n=3000+j:=by
     intro α y n h
     rw [look_one]at h
     by_cases e:3000+j=n
     ·exact e.symm
     ·rw [if_neg e]at h;exact absurd rfl h
    cases h1 with
    |d _=>exact Or.inl ⟨rfl,rfl⟩
    |vw _ _=>exact Or.inl ⟨rfl,rfl⟩
    |vp _ _=>exact Or.inl ⟨rfl,rfl⟩
    |vv=>exact Or.inl ⟨rfl,rfl⟩
    |fn _=>exact Or.inl ⟨rfl,rfl⟩
    |nil=>exact Or.inr ⟨fun n=>lone _ n,(fun n h=>absurd rfl h),by rw [look_one,if_pos rfl];intro e;cases e⟩
    |own _ _=>exact Or.inr ⟨fun n=>lone _ n,fun n=>lone _ n,by rw [look_one,if_pos rfl];intro e;cases e⟩
   obtain⟨o1,o2⟩:=h2.own
   have tailb:∀n,look bs' n≠none→look b n=none:=by
    intro n hq
    rcases hone with⟨rfl,_⟩| ⟨k1,_⟩
    ·rfl
    ·cases hl:look b n with
     |none=>rfl
     |some y=>
      have e:=k1 n (by rw [hl];intro q;cases q)
      obtain⟨y',hy'⟩:=Option.ne_none_iff_exists'.1 hq
      have:=(o1 n y' hy').1;omega
   have tails:∀n,look bs' n≠none→look s n=none:=by
    intro n hq
    rcases hone with⟨_,rfl⟩| ⟨_,k1,_⟩
    ·rfl
    ·cases hl:look s n with
     |none=>rfl
     |some y=>
      have e:=k1 n (by rw [hl];intro q;cases q)
      obtain⟨y',hy'⟩:=Option.ne_none_iff_exists'.1 hq
      have:=(o1 n y' hy').1;omega
   refine .cons (H.val h1 (fun n y h=>hb n y (by rw [look_append,h])) (fun n y h=>hs n y (by rw [look_append,h])) (fun n h h'=>hn n ?_ ?_) (fun n h=>hf n (List.mem_append_left _ h)) u1) (ih (fun n y h=>hb n y ?_) (fun n y h=>hs n y ?_) (fun n h h'=>hn n ?_ ?_) (fun n h=>hf n (List.mem_append_right _ h)) u2)
   ·rw [look_append]
    obtain⟨y,e⟩:=Option.ne_none_iff_exists'.1 h
    rw [e];intro q;cases q
   ·rw [look_append,h']
    rcases hone with⟨rfl,_⟩| ⟨k1,_⟩
    ·exact absurd rfl h
    ·cases hl:look ss n with
     |none=>rfl
     |some y=>
      exfalso
      have e:=k1 n h
      obtain⟨y',hy'⟩:=Option.ne_none_iff_exists'.1 (o2 n y hl)
      have:=(o1 n y' hy').1;omega
   ·rw [look_append,tailb n (by rw [h];intro q;cases q)];exact h
   ·rw [look_append,tails n (o2 n y h)];exact h
   ·rw [look_append,tailb n h];exact h
   ·rw [look_append,tails n h];exact h'
end
section
variable {P:Program} {E:Env}
theorem results_ok (hE:EnvOk P E) {w0:World} {Bo:Nat→Nat→Prop} {st:St} {bl:Nat→Blk} {φ:Nat→Addr} {w:World} {tmps:Array Value} (ha:Agree (bB st) bl) (hm:Mem w0 Bo bl φ w) (ht:∀t,RepV w bl φ (getV st.tm t) (tmps.getD t undef)):
  ∀(rs:List ResultVar) (raws:List V),rs.mapM (resV E st.tm (bB st))=some raws→∃us,(rs.mapM fun(x:ResultVar)=>match x with
   | .tmp t=>(pure (tmps.getD t undef):Sem Value)
   | .cell a t=>do loadVar t (←asAddr (tmps.getD a undef))).run P w= .ok us w∧RepVs w bl φ raws us
 | [],raws,h=>by cases h;exact⟨[],rfl, .nil⟩
 |x::rs,raws,h=>by
  rw [List.mapM_cons]at h
  cases hx:resV E st.tm (bB st) x with
  |none=>rw [hx]at h;cases h
  |some v=>
   rw [hx]at h
   cases hr:rs.mapM (resV E st.tm (bB st))with
   |none=>rw [hr]at h;cases h
   |some vs=>
    rw [hr]at h
    cases h
    obtain⟨us,k1,k2⟩:=results_ok hE ha hm ht rs vs hr
    cases x with
    |tmp t=>
     cases hx
     refine⟨tmps.getD t undef::us,?_, .cons (ht t) k2⟩
     rw [List.mapM_cons]
     simp only [Sem.run_bind,Sem.run_pure,Result.andThen_ok,k1]
    |cell b t=>
     have hx:aLoad E t (getV st.tm b) (bB st) (fun v _=>some v)=some v:=hx
     obtain⟨v',e,hl⟩:=load_ok (w0:=w0) (Bo:=Bo) hE hx
     cases e
     obtain⟨ad,u,e1,e2,e3⟩:=hl bl φ w _ ha hm (ht b)
     refine⟨u::us,?_, .cons e3 k2⟩
     rw [List.mapM_cons]
     have e1':tmps.getD b undef= .pointer (some ad):=e1
     have ea:asAddr (.pointer (some ad))=pure ad:=rfl
     simp only [e1',ea,Sem.run_bind,Sem.run_pure,Result.andThen_ok,e2,k1]
theorem atoms'_rep {w:World} {bl:Nat→Blk} {φ:Nat→Addr}:∀(vs:List V) (k:Nat) (asx:List A) (us:List Value),atoms' (number k vs)=some asx→RepVs w bl φ vs us→RepAs w bl φ asx us
 | [],k,asx,us,h,hr=>by cases h;cases hr;exact .nil
 |v::vs,k,asx,us,h,hr=>by
  cases hr with
  |cons r1 r2=>
   cases v with
   |a x=>
    have h:(match atoms' (number (k+1) vs)with|some m=>some (x::m)|none=>none)=some asx:=h
    split at h
    ·rename_i m hm;cases h;exact .cons r1 (atoms'_rep vs (k+1) _ _ hm r2)
    ·cases h
   |cl f c=>have h:(none:Option (List A))=some asx:=h;cases h
   |tup c=>have h:(none:Option (List A))=some asx:=h;cases h
theorem RepVs_length {w:World} {bl:Nat→Blk} {φ:Nat→Addr} {xs:List V} {us:List Value} (h:RepVs w bl φ xs us):us.length=xs.length:=by
 induction h with
 |nil=>rfl
 |cons _ _ ih=>simp [ih]
theorem outV_rep {w:World} {bl:Nat→Blk} {φ:Nat→Addr} {vs:List V} {rv:V} {us:List Value} (h:outV (number 0 vs)=some rv) (hr:RepVs w bl φ vs us):RepV w bl φ rv (if h:us.toArray.size=1 then us.toArray[0]else .tuple us.toArray):=by
 have hl:=RepVs_length hr
 unfold outV at h
 split at h
 ·rename_i n v e
  cases h
  cases vs with
  |nil=>cases e
  |cons x vs=>
   cases vs with
   |nil=>
    cases e
    cases hr with
    |cons r1 r2=>cases r2;simpa using r1
   |cons y vs=>cases e
 ·rename_i hne
  split at h
  ·rename_i asx has
   cases h
   have hsz:¬us.toArray.size=1:=by
    intro e
    simp only [List.size_toArray]at e
    rw [hl]at e
    cases vs with
    |nil=>cases e
    |cons x vs=>cases vs with
     |nil=>exact hne 0 x rfl
     |cons y vs=>simp at e
   rw [dif_neg hsz]
   exact⟨us,rfl,atoms'_rep vs 0 asx us has hr⟩
  ·cases h
theorem number_rep {w:World} {bl:Nat→Blk} {φ:Nat→Addr} {asx:List V} {vs:List Value} (h:RepVs w bl φ asx vs):∀(k t:Nat),RepV w bl φ (getV (number k asx) (k+t)) (vs.getD t undef):=by
 induction h with
 |nil=>intro k t;trivial
 | @cons x v xs vs h _ ih=>
  intro k t
  show RepV w bl φ (cnd (Nat.beq k (k+t)) (x)<|getV (number (k+1) xs) (k+t)) _
  cases t with
  |zero=>rw [Nat.add_zero,Nat.beq_refl];exact h
  |succ t=>
   have:Nat.beq k (k+(t+1))=false:=by rw [Bool.eq_false_iff];intro e;have:=Nat.eq_of_beq_eq_true e;omega
   rw [this,cond_false,show k+(t+1)=k+1+t from by omega]
   exact ih (k+1) t
theorem ret_ok (hE:EnvOk P E) {R:Type} {fn:Func} {N:Nat} {rms:List RM} {bs:Bl} {K:St→Option R} {r:R} {st st1:St} {rv:V} (hbs:∀n b,look bs n=some b→isLent n=true∧live b) (hK:∀st,K st=some r→st=st1) (ho:outV st1.tm=some rv)
  {w0 w:World} {bl0 bl:Nat→Blk} {φ0 φ:Nat→Addr} {a:Act} (hloc:Local bl0 bs) (m0:Mem w0 (lentBo bs φ0) bl0 φ0 w0) (hr:RelS N w0 (lentBo bs φ0) bl0 φ0 (getV st.tm) (getB st.bl) bl φ a w) (h:evRet E fn.results.toList rms bs st K=some r):
  a.defers=[]∧∃v,(results fn a.tmps).run P w= .ok v w∧∃φ',Step w0 (lentBo bs φ0) bl0 φ0 w0 (updB st1.bl bl0) φ' w∧RepV w (updB st1.bl bl0) φ' rv v:=by
 refine⟨hr.defers,?_⟩
 unfold evRet at h
 split at h
 ·rename_i y hy
  split at h
  ·rename_i ls hls
   cases hc:(noDup (y.src.map (·.2))&&(y.src.all fun q=>!hasN y.fz q.2)&&(y.fz.all fun n=>!isLent n)&&Nat.ble rms.length 900)with
   |false=>rw [hc]at h;cases h
   |true=>
    rw [hc,cond_true]at h
    simp only [Bool.and_eq_true,List.all_eq_true,Bool.not_eq_true']at hc
    obtain⟨⟨⟨c1,c2⟩,c3⟩,c4⟩:=hc
    obtain⟨raws,k1,k2,k3⟩:=resAll_spec rms _ 0 y hy
    have he:=hK _ h
    subst he
    have H:RetH N w0 bl0 φ0 bs st bl φ a w raws y.vs y.bs y.src y.fz ls:=⟨k2,by rw [k3];exact Nat.le_of_ble_eq_true c4,hls,c1,(fun q hq e=>by have:=c2 q hq;rw [hasN_mem.2 e]at this;cases this),(fun n hn=>c3 n hn),hloc,hbs,m0,hr⟩
    obtain⟨us,e1,e2⟩:=results_ok hE H.agree hr.mem hr.tm fn.results.toList raws k1
    have e3:=H.vals k2 (fun _ _ h=>h) (fun _ _ h=>h) (fun _ _ h=>h) (fun _ h=>h) e2
    refine⟨_,?_,_,H.step,outV_rep ho e3⟩
    unfold results
    rw [Array.mapM_eq_mapM_toList,map_eq_pure_bind]
    simp only [Sem.run_bind,Sem.run_pure]
    refine(congrArg (fun z=>(Result.andThen (Result.andThen z fun a w'=>Result.ok a.toArray w') fun a w'=>Result.ok (if h:a.size=1 then a[0]else Value.tuple a) w')) e1).trans ?_
    rfl
  ·cases h
 ·cases h
theorem fn_ct (hE:EnvOk P E) (hm:P.follows .mixedOrders=true) {R:Type} {orc:Orc R} (horc:OrcOk P orc) {f:FuncId} {fn:Func} {c:Code} (hf:P.funcs[f]?=some fn) (hb:fn.body=some c) (hname:(fn.name== "runtime.NumGoroutine")=false)
  {an:Ann} {lo:Nat→St→Option R} {N:Nat} {rms:List RM} {asx:List V} {bs:Bl} {K:St→Option R} {r:R} {st1:St} {rv:V} (hN:N=max fn.ntmps asx.length) (hbs:∀n b,look bs n=some b→isLent n=true∧live b)
  (hlo:∀w0 bl0 φ0 Q,KQ N w0 (lentBo bs φ0) bl0 φ0 r (retK E fn.results.toList rms bs K) Q→LosQ Fence.wide 0 P N w0 (lentBo bs φ0) bl0 φ0 an lo r c Q) (h:evFn E orc an lo N c fn.results.toList rms ⟨number 0 asx,bs⟩ K=some r) (hK:∀st,K st=some r→st=st1) (hus:∀q,q∈st1.bl→q.1<10000) (ho:outV st1.tm=some rv):
  Ct P f asx bs rv st1.bl:=by
 refine⟨hus,fun w0 bl0 φ0 vs hloc m0 hvs=>Or.inl ⟨?_,?_⟩⟩
 ·simp only [callFunc,Sem.run_bind,run_program,Result.andThen_ok,hf,hname,hb,Option.isNone_some,Bool.false_eq_true,if_false,Sem.run_pure]
 ·have hlen:=RepVs_length hvs
  have hKQ:KQ N w0 (lentBo bs φ0) bl0 φ0 r (retK E fn.results.toList rms bs K) (bodyPost P fn fun e w'=>∃v,e= .returned v∧∃φ',Step w0 (lentBo bs φ0) bl0 φ0 w0 (updB st1.bl bl0) φ' w'∧RepV w' (updB st1.bl bl0) φ' rv v):=by
   rintro x st a w q1 ⟨bl,φ,hr⟩
   have fin:evRet E fn.results.toList rms bs st K=some r→a.defers=[]∧∃v,(results fn a.tmps).run P w= .ok v w∧∃v_1,Ending.returned v= .returned v_1∧∃φ',Step w0 (lentBo bs φ0) bl0 φ0 w0 (updB st1.bl bl0) φ' w∧RepV w (updB st1.bl bl0) φ' rv v_1:=by
    intro h
    obtain⟨h1,v,h2,φ',h3,h4⟩:=ret_ok hE hbs hK ho hloc m0 hr h
    exact⟨h1,v,h2,v,rfl,φ',h3,h4⟩
   cases x with
   |norm=>exact fin q1
   |ret=>exact fin q1
   |exit j=>cases q1
  refine calls_of_wp hf hb (wpIn_wide.1 (ev_ok (Or.inl rfl) hE hm horc c _ (hlo w0 bl0 φ0 _ hKQ) _ hKQ _ _ _ h ⟨bl0,φ0,?_⟩))
  refine⟨fun n hn=>hloc n hn,m0,fun t=>?_,?_,rfl,fun _ _=>rfl,fun _ _=>⟨fun h=>h,fun _=>⟨.same _,fun _=>rfl⟩⟩⟩
  ·have:=number_rep hvs 0 t
   rw [Nat.zero_add]at this
   have e:(vs.toArray++Array.replicate (fn.ntmps-vs.toArray.size) undef).getD t undef=vs.getD t undef:=by
    simp only [Array.getD_eq_getD_getElem?,Array.getElem?_append,List.size_toArray,List.getElem?_toArray,List.getD_eq_getElem?_getD]
    split
    ·rfl
    ·rename_i hge
     rw [List.getElem?_eq_none (by omega)]
     simp only [Array.getElem?_replicate]
     split<;>rfl
   rw [e];exact this
  ·simp only [Array.size_append,List.size_toArray,Array.size_replicate,hN,←hlen]
   omega
end
inductive SV where
 |d (t:Ty)|pv (t:Ty)|part (n:Nat)|pre (n:Nat)|cl (f:Nat) (ts:List Ty)|f (x:V)|nv (b:Bool) (t:Ty)
inductive SB where
 |own (t:Ty) (tl:Bool)|cell (t:Ty) (tl:Bool)|froz (t:Ty)
@[reducible] def TsT : List Ty → Type
 | []=>Unit
 |t::l=>t.T×TsT l
@[reducible] def SvT : List (Nat × SV) → Type
 | []=>Unit
 | (_, .d t)::l=>t.T×SvT l
 | (_, .pv t)::l=>t.T×SvT l
 | (_, .part _)::l=>(Int×Int)×SvT l
 | (_, .pre _)::l=>Int×SvT l
 | (_, .cl _ ts)::l=>TsT ts×SvT l
 | (_, .f _)::l=>SvT l
 | (_, .nv _ t)::l=>List t.T×SvT l
@[reducible] def SbT : List (Nat × SB) → Type
 | []=>Unit
 | (_, .own t _)::l=>List t.T×SbT l
 | (_, .cell t _)::l=>t.T×SbT l
 | (_, .froz t)::l=>List t.T×SbT l
structure Sk where
 tm:List (Nat×SV)
 bl:List (Nat×SB)
@[reducible] def Sk.T (k : Sk) : Type := SvT k.tm × SbT k.bl
def mkTs:(ts:List Ty)→TsT ts→List A
 | [],_=>[]
 |t::l,s=> .pv t s.1::mkTs l s.2
def mkV:(l:List (Nat×SV))→SvT l→List (Nat×V)
 | [],_=>[]
 | (n, .d t)::l,s=>(n, .a (.v t s.1))::mkV l s.2
 | (n, .pv t)::l,s=>(n, .a (.pv t s.1))::mkV l s.2
 | (n, .part m)::l,s=>(n, .a (.part m s.1.1 s.1.2))::mkV l s.2
 | (n, .pre m)::l,s=>(n, .a (.part m 0 s.1))::mkV l s.2
 | (n, .cl f ts)::l,s=>(n, .cl f (mkTs ts s.1))::mkV l s.2
 | (n, .f v)::l,s=>(n,v)::mkV l s
 | (n, .nv b t)::l,s=>(n, .a (.nv b t s.1))::mkV l s.2
def mkB:(l:List (Nat×SB))→SbT l→Bl
 | [],_=>[]
 | (n, .own t tl)::l,s=>(n, .live t s.1 tl)::mkB l s.2
 | (n, .cell t tl)::l,s=>(n, .live t [s.1] tl)::mkB l s.2
 | (n, .froz t)::l,s=>(n, .froz t s.1)::mkB l s.2
def Sk.mk' (k:Sk) (s:k.T):St:=⟨mkV k.tm s.1,mkB k.bl s.2⟩
def sameN:List Nat→List Nat→Bool
 | [],[]=>true
 |a::l,b::m=>Nat.beq a b&&sameN l m
 |_,_=>false
def sameA:A→A→Bool
 | .u, .u=>true
 | .ns, .ns=>true
 | .nf, .nf=>true
 | .ref n, .ref m=>Nat.beq n m
 | .ptr n i π, .ptr m j ρ=>Nat.beq n m&&decide (i=j)&&sameN π ρ
 |_,_=>false
def sameAs:List A→List A→Bool
 | [],[]=>true
 |a::l,b::m=>sameA a b&&sameAs l m
 |_,_=>false
def sameV:V→V→Bool
 | .a x, .a y=>sameA x y
 | .cl f xs, .cl g ys=>Nat.beq f g&&sameAs xs ys
 |_,_=>false
def decTs:(ts:List Ty)→List A→Option (TsT ts)
 | [],[]=>some ()
 |t::l, .pv t' z::r=>match Dat.to t ⟨t',z⟩with
  |some z=>(match decTs l r with|some s=>some (z,s)|none=>none)
  |none=>none
 |_,_=>none
def decV:(l:List (Nat×SV))→List (Nat×V)→Option (SvT l)
 | [],[]=>some ()
 | (n, .d t)::l,(m, .a (.v t' z))::r=>cnd (Nat.beq n m) ((match Dat.to t ⟨t',z⟩with
  |some z=>(match decV l r with|some s=>some (z,s)|none=>none)
  |none=>none))<|none
 | (n, .pv t)::l,(m, .a (.pv t' z))::r=>cnd (Nat.beq n m) ((match Dat.to t ⟨t',z⟩with
  |some z=>(match decV l r with|some s=>some (z,s)|none=>none)
  |none=>none))<|none
 | (n, .part k)::l,(m, .a (.part k' lo hi))::r=>cnd (Nat.beq n m&&Nat.beq k k') ((match decV l r with|some s=>some ((lo,hi),s)|none=>none))<|none
 | (n, .pre k)::l,(m, .a (.part k' (.ofNat 0) hi))::r=>cnd (Nat.beq n m&&Nat.beq k k') ((match decV l r with|some s=>some (hi,s)|none=>none))<|none
 | (n, .cl f ts)::l,(m, .cl g xs)::r=>cnd (Nat.beq n m&&Nat.beq f g) ((match decTs ts xs with
  |some z=>(match decV l r with|some s=>some (z,s)|none=>none)
  |none=>none))<|none
 | (n, .f v)::l,(m,v')::r=>cnd (Nat.beq n m&&sameV v v') (decV l r)<|none
 |_,_=>none
def decB:(l:List (Nat×SB))→Bl→Option (SbT l)
 | [],[]=>some ()
 | (n, .own t tl)::l,(m, .live t' z tl')::r=>cnd (Nat.beq n m&&(tl==tl')) ((match Dat.to (.li t) ⟨.li t',z⟩with
  |some z=>(match decB l r with|some s=>some (z,s)|none=>none)
  |none=>none))<|none
 | (n, .cell t tl)::l,(m, .live t' [z] tl')::r=>cnd (Nat.beq n m&&(tl==tl')) ((match Dat.to t ⟨t',z⟩with
  |some z=>(match decB l r with|some s=>some (z,s)|none=>none)
  |none=>none))<|none
 | (n, .froz t)::l,(m, .froz t' z)::r=>cnd (Nat.beq n m) ((match Dat.to (.li t) ⟨.li t',z⟩with
  |some z=>(match decB l r with|some s=>some (z,s)|none=>none)
  |none=>none))<|none
 |_,_=>none
def Sk.dec (k:Sk) (st:St):Option k.T:=match decV k.tm st.tm with
 |some a=>(match decB k.bl st.bl with|some b=>some (a,b)|none=>none)
 |none=>none
theorem sameN_ok:∀{a b:List Nat},sameN a b=true→a=b
 | [],[],_=>rfl
 |x::a,y::b,h=>by
  unfold sameN at h
  rw [Bool.and_eq_true]at h
  rw [Nat.eq_of_beq_eq_true h.1,sameN_ok h.2]
 | [],_::_,h=>by cases h
 |_::_,[],h=>by cases h
theorem sameA_ok {x y:A} (h:sameA x y=true):x=y:=by
 unfold sameA at h
 split at h
 ·rfl
 ·rfl
 ·rfl
 ·rw [Nat.eq_of_beq_eq_true h]
 ·rw [Bool.and_eq_true,Bool.and_eq_true]at h
  rw [Nat.eq_of_beq_eq_true h.1.1,of_decide_eq_true h.1.2,sameN_ok h.2]
 ·cases h
theorem sameAs_ok:∀{a b:List A},sameAs a b=true→a=b
 | [],[],_=>rfl
 |x::a,y::b,h=>by
  unfold sameAs at h
  rw [Bool.and_eq_true]at h
  rw [sameA_ok h.1,sameAs_ok h.2]
 | [],_::_,h=>by cases h
 |_::_,[],h=>by cases h
theorem sameV_ok {x y:V} (h:sameV x y=true):x=y:=by
 unfold sameV at h
 split at h
 ·rw [sameA_ok h]
 ·rw [Bool.and_eq_true]at h
  rw [Nat.eq_of_beq_eq_true h.1,sameAs_ok h.2]
 ·cases h
theorem datTo {t t':Ty} {z:t'.T} {y:t.T} (h:Dat.to t ⟨t',z⟩=some y):(⟨t',z⟩:Dat)=⟨t,y⟩:=by
 unfold Dat.to at h
 split at h
 ·rename_i e
  have e:t'=t:=e
  subst e
  cases h;rfl
 ·cases h
theorem decTs_ok:∀{ts:List Ty} {xs:List A} {s:TsT ts},decTs ts xs=some s→xs=mkTs ts s
 | [],[],s,_=>rfl
 |t::l,x::r,s,h=>by
  cases x with
  |pv t' z=>
   replace h:(match Dat.to t ⟨t',z⟩with|some z=>(match decTs l r with|some s=>some (z,s)|none=>none)|none=>none)=some s:=h
   split at h
   ·rename_i y hy
    split at h
    ·rename_i s' hs
     cases h
     have:=datTo hy
     cases this
     show _=A.pv t _::mkTs l s'
     rw [decTs_ok hs]
    ·cases h
   ·cases h
  |_=>cases h
 | [],_::_,s,h=>by cases h
 |_::_,[],s,h=>by cases h
theorem decV_ok:∀(l:List (Nat×SV)) {r:List (Nat×V)} {s:SvT l},decV l r=some s→r=mkV l s
 | [],r,s,h=>by
  cases r with
  |nil=>rfl
  |cons=>cases h
 | (n,k)::l,[],s,h=>by cases k<;>cases h
 | (n, .d t)::l,(m,v)::r,s,h=>by
  cases v with
  |a x=>
   cases x with
   |v t' z=>
    have h:(cnd (Nat.beq n m) ((match Dat.to t ⟨t',z⟩with|some z=>(match decV l r with|some s=>some (z,s)|none=>none)|none=>none))<|none)=some s:=h
    cases hb:Nat.beq n m with
    |false=>rw [hb]at h;cases h
    |true=>
     rw [hb,cond_true]at h
     split at h
     ·rename_i y hy
      split at h
      ·rename_i s' hs
       cases h
       have:=datTo hy
       cases this
       show _=(n,V.a (.v t _))::mkV l s'
       rw [Nat.eq_of_beq_eq_true hb,decV_ok l hs]
      ·cases h
     ·cases h
   |_=>cases h
  |_=>cases h
 | (n, .pv t)::l,(m,v)::r,s,h=>by
  cases v with
  |a x=>
   cases x with
   |pv t' z=>
    have h:(cnd (Nat.beq n m) ((match Dat.to t ⟨t',z⟩with|some z=>(match decV l r with|some s=>some (z,s)|none=>none)|none=>none))<|none)=some s:=h
    cases hb:Nat.beq n m with
    |false=>rw [hb]at h;cases h
    |true=>
     rw [hb,cond_true]at h
     split at h
     ·rename_i y hy
      split at h
      ·rename_i s' hs
       cases h
       have:=datTo hy
       cases this
       show _=(n,V.a (.pv t _))::mkV l s'
       rw [Nat.eq_of_beq_eq_true hb,decV_ok l hs]
      ·cases h
     ·cases h
   |_=>cases h
  |_=>cases h
 | (n, .part k)::l,(m,v)::r,s,h=>by
  cases v with
  |a x=>
   cases x with
   |part k' lo hi=>
    have h:(cnd (Nat.beq n m&&Nat.beq k k') ((match decV l r with|some s=>some ((lo,hi),s)|none=>none))<|none)=some s:=h
    cases hb:(Nat.beq n m&&Nat.beq k k')with
    |false=>rw [hb]at h;cases h
    |true=>
     rw [hb,cond_true]at h
     rw [Bool.and_eq_true]at hb
     split at h
     ·rename_i s' hs
      cases h
      show _=(n,V.a (.part k lo hi))::mkV l s'
      rw [Nat.eq_of_beq_eq_true hb.1,Nat.eq_of_beq_eq_true hb.2,decV_ok l hs]
     ·cases h
   |_=>cases h
  |_=>cases h
 | (n, .pre k)::l,(m,v)::r,s,h=>by
  cases v with
  |a x=>
   cases x with
   |part k' lo hi=>
    cases lo with
    |negSucc=>cases h
    |ofNat z=>
     cases z with
     |succ=>cases h
     |zero=>
      have h:(cnd (Nat.beq n m&&Nat.beq k k') ((match decV l r with|some s=>some (hi,s)|none=>none))<|none)=some s:=h
      cases hb:(Nat.beq n m&&Nat.beq k k')with
      |false=>rw [hb]at h;cases h
      |true=>
       rw [hb,cond_true]at h
       rw [Bool.and_eq_true]at hb
       split at h
       ·rename_i s' hs
        cases h
        show _=(n,V.a (.part k 0 hi))::mkV l s'
        rw [Nat.eq_of_beq_eq_true hb.1,Nat.eq_of_beq_eq_true hb.2,decV_ok l hs];rfl
       ·cases h
   |_=>cases h
  |_=>cases h
 | (n, .cl f ts)::l,(m,v)::r,s,h=>by
  cases v with
  |cl g xs=>
   have h:(cnd (Nat.beq n m&&Nat.beq f g) ((match decTs ts xs with|some z=>(match decV l r with|some s=>some (z,s)|none=>none)|none=>none))<|none)=some s:=h
   cases hb:(Nat.beq n m&&Nat.beq f g)with
   |false=>rw [hb]at h;cases h
   |true=>
    rw [hb,cond_true]at h
    rw [Bool.and_eq_true]at hb
    split at h
    ·rename_i y hy
     split at h
     ·rename_i s' hs
      cases h
      show _=(n,V.cl f (mkTs ts y))::mkV l s'
      rw [Nat.eq_of_beq_eq_true hb.1,Nat.eq_of_beq_eq_true hb.2,decV_ok l hs,decTs_ok hy]
     ·cases h
    ·cases h
  |_=>cases h
 | (n, .f v)::l,(m,v')::r,s,h=>by
  have h:(cnd (Nat.beq n m&&sameV v v') (decV l r)<|none)=some s:=by
   cases v' with
   |a x=>cases x<;>exact h
   |_=>exact h
  cases hb:(Nat.beq n m&&sameV v v')with
  |false=>rw [hb]at h;cases h
  |true=>
   rw [hb,cond_true]at h
   rw [Bool.and_eq_true]at hb
   show _=(n,v)::mkV l s
   rw [Nat.eq_of_beq_eq_true hb.1,sameV_ok hb.2,decV_ok l h]
theorem decB_ok:∀(l:List (Nat×SB)) {r:Bl} {s:SbT l},decB l r=some s→r=mkB l s
 | [],r,s,h=>by
  cases r with
  |nil=>rfl
  |cons=>cases h
 | (n,k)::l,[],s,h=>by cases k<;>cases h
 | (n, .own t tl)::l,(m,b)::r,s,h=>by
  cases b with
  |live t' z tl'=>
   replace h:(cnd (Nat.beq n m&&(tl==tl')) ((match Dat.to (.li t) ⟨.li t',z⟩with|some z=>(match decB l r with|some s=>some (z,s)|none=>none)|none=>none))<|none)=some s:=by
    cases z with
    |nil=>exact h
    |cons a z=>cases z<;>exact h
   cases hb:(Nat.beq n m&&(tl==tl'))with
   |false=>rw [hb]at h;cases h
   |true=>
    rw [hb,cond_true]at h
    rw [Bool.and_eq_true]at hb
    have e:=eq_of_beq hb.2
    subst e
    split at h
    ·rename_i y hy
     split at h
     ·rename_i s' hs
      cases h
      have:=datTo hy
      cases this
      show _=(n,Blk.live t _ tl)::mkB l s'
      rw [Nat.eq_of_beq_eq_true hb.1,decB_ok l hs]
     ·cases h
    ·cases h
  |_=>cases h
 | (n, .cell t tl)::l,(m,b)::r,s,h=>by
  cases b with
  |live t' z tl'=>
   cases z with
   |nil=>cases h
   |cons z zs=>
    cases zs with
    |cons=>cases h
    |nil=>
     replace h:(cnd (Nat.beq n m&&(tl==tl')) ((match Dat.to t ⟨t',z⟩with|some z=>(match decB l r with|some s=>some (z,s)|none=>none)|none=>none))<|none)=some s:=h
     cases hb:(Nat.beq n m&&(tl==tl'))with
     |false=>rw [hb]at h;cases h
     |true=>
      rw [hb,cond_true]at h
      rw [Bool.and_eq_true]at hb
      have e:=eq_of_beq hb.2
      subst e
      split at h
      ·rename_i y hy
       split at h
       ·rename_i s' hs
        cases h
        have:=datTo hy
        cases this
        show _=(n,Blk.live t [_] tl)::mkB l s'
        rw [Nat.eq_of_beq_eq_true hb.1,decB_ok l hs]
       ·cases h
      ·cases h
  |_=>cases h
 | (n, .froz t)::l,(m,b)::r,s,h=>by
  cases b with
  |froz t' z=>
   replace h:(cnd (Nat.beq n m) ((match Dat.to (.li t) ⟨.li t',z⟩with|some z=>(match decB l r with|some s=>some (z,s)|none=>none)|none=>none))<|none)=some s:=h
   cases hb:Nat.beq n m with
   |false=>rw [hb]at h;cases h
   |true=>
    rw [hb,cond_true]at h
    split at h
    ·rename_i y hy
     split at h
     ·rename_i s' hs
      cases h
      have:=datTo hy
      cases this
      show _=(n,Blk.froz t _)::mkB l s'
      rw [Nat.eq_of_beq_eq_true hb,decB_ok l hs]
     ·cases h
    ·cases h
  |_=>cases h
theorem Sk.dec_ok {k:Sk} {st:St} {s:k.T} (h:k.dec st=some s):st=k.mk' s:=by
 unfold Sk.dec at h
 split at h
 ·rename_i a ha
  split at h
  ·rename_i b hb
   cases h
   obtain⟨tm,bl⟩:=st
   show _=St.mk (mkV k.tm a) (mkB k.bl b)
   rw [←decV_ok _ ha,←decB_ok _ hb]
  ·cases h
 ·cases h
structure FE where
 f:Nat
 ask:Sk
 rsk:Sk
 R:Type
 F:ask.T→Option R
 enc:R→rsk.T
def orcOf {R:Type}:List FE→Orc R
 | [],_,_,_,_=>none
 |e::es,f,asx,bs,K=>cnd (Nat.beq e.f f) ((match e.ask.dec ⟨number 0 asx,bs⟩with
  |some s=>(match e.F s with
   |some o=>(match outV (mkV e.rsk.tm (e.enc o).1)with
    |some v=>K v (mkB e.rsk.bl (e.enc o).2)
    |none=>none)
   |none=>none)
  |none=>orcOf es f asx bs K))<|orcOf es f asx bs K
def FeOk (P:Program) (e:FE):Prop:=∀s o,e.F s=some o→∀v,outV (mkV e.rsk.tm (e.enc o).1)=some v→Ct P e.f ((mkV e.ask.tm s.1).map (·.2)) (mkB e.ask.bl s.2) v (mkB e.rsk.bl (e.enc o).2)
theorem number_snd:∀(asx:List V) (k:Nat),(number k asx).map (·.2)=asx
 | [],_=>rfl
 |a::asx,k=>by
  show a::(number (k+1) asx).map (·.2)=_
  rw [number_snd asx (k+1)]
theorem orcOf_ok {P:Program} {R:Type}:∀(es:List FE),(∀e,e∈es→FeOk P e)→OrcOk P (orcOf (R:=R) es)
 | [],_=>fun f asx bs K r h=>by cases h
 |e::es,he=>fun f asx bs K r h=>by
  have ih:=orcOf_ok (R:=R) es (fun e he'=>he e (List.mem_cons_of_mem _ he')) f asx bs K r
  unfold orcOf at h
  cases hb:Nat.beq e.f f with
  |false=>rw [hb,cond_false]at h;exact ih h
  |true=>
   rw [hb,cond_true]at h
   split at h
   ·rename_i s hs
    split at h
    ·rename_i o ho
     split at h
     ·rename_i v hv
      refine⟨v,_,h,?_⟩
      have:=he e List.mem_cons_self s o ho v hv
      have e1:=Sk.dec_ok hs
      have e2:number 0 asx=mkV e.ask.tm s.1:=congrArg St.tm e1
      have e3:bs=mkB e.ask.bl s.2:=congrArg St.bl e1
      rw [←e2,number_snd,←e3,Nat.eq_of_beq_eq_true hb]at this
      exact this
     ·cases h
    ·cases h
   ·exact ih h
inductive Fr where
 |seqL (b:Code)|blk (id:Nat)|lp (c:Code)
structure Pos where
 key:Nat
 fs:List Fr
 c:Code
def posns (an:Ann):List Fr→Code→List Pos
 |fs, .seq a b=>posns an (.seqL b::fs) a++(match look an.cut (firstRegion b)with
  |some _=>⟨firstRegion b,fs,b⟩::posns an fs b
  |none=>posns an fs b)
 |fs, .cond _ a b=>posns an fs a++posns an fs b
 |fs, .block id c=>posns an (.blk id::fs) c
 |fs, .loop c=>⟨firstRegion c,fs, .loop c⟩::posns an (.lp c::fs) c
 |fs, .rangeFunc g ps c d=>[⟨firstRegion c,fs, .rangeFunc g ps c d⟩]
 |_,_=>[]
def loopK {R:Type} (an:Ann) (lo:Nat→St→Option R) (c:Code) (K:KX R):KX R:=fun x st=>match x with
 | .norm=>tidy (look an.lp (firstRegion c)) st fun st=>lo (firstRegion c) st
 |x=>K x st
section
variable {R:Type} (E:Env) (orc:Orc R) (N:Nat) (an:Ann) (lo:Nat→St→Option R)
def κF:List Fr→KX R→KX R
 | [],K=>K
 | .seqL b::fs,K=>seqK E orc N an lo b (κF fs K)
 | .blk id::fs,K=>blkK id (κF fs K)
 | .lp c::fs,K=>loopK an lo c (κF fs K)
def evPos (K:KX R) (q:Pos) (st:St):Option R:=match q.c with
 | .loop c=>ev E orc N an lo c st (loopK an lo c (κF E orc N an lo q.fs K))
 |c=>ev E orc N an lo c st (κF E orc N an lo q.fs K)
end
def lw (F:Fence) (n:Nat) (P:Program) (c:Code) (Q:Exit→Act→World→Prop) (a:Act) (w:World):Prop:=
 ∀(b:Frame) (k:List Item) (cs:List Frame),b.roundOf=F.round→F.fn b.fn→F.room (cs.length+1+n)→∃e a' w',Q e a' w'∧ArrivesIn (Machine.fenced P F) P (lone (b.atR a (.code c:: .inLoop c::k)) cs w) b k cs e a' w'
def qF (F:Fence) (n:Nat) (P:Program) (Q:Exit→Act→World→Prop):List Fr→(Exit→Act→World→Prop)
 | []=>Q
 | .seqL b::fs=>Exit.then (b.wpIn F n P (qF F n P Q fs)) (qF F n P Q fs)
 | .blk id::fs=>Exit.inBlock id (qF F n P Q fs)
 | .lp c::fs=>Exit.then (lw F n P c (qF F n P Q fs)) (qF F n P Q fs)
structure LoE (R:Type) where
 key:Nat
 sk:Sk
 l:sk.T→Option R
def loOf {R:Type}:List (LoE R)→Nat→St→Option R
 | [],_,_=>none
 |e::es,key,st=>cnd (Nat.beq e.key key) ((match e.sk.dec st with
  |some s=>e.l s
  |none=>none))<|loOf es key st
theorem lw_loop {F:Fence} {n:Nat} {P:Program} {Q:Exit→Act→World→Prop} {c:Code} {a:Act} {w:World} (h:lw F n P c Q a w):(Code.loop c).wpIn F n P Q a w:=by
 intro b k cs hro hb hr
 obtain⟨e,a',w',hq,harr⟩:=h b k cs hro hb hr
 exact⟨e,a',w',hq, .of_steps (.one (fenced_calm hb hr rfl) stepR_loop) harr⟩
theorem lw_round {F:Fence} {n:Nat} {P:Program} {Q:Exit→Act→World→Prop} {c:Code} {a:Act} {w:World} (h:c.wpIn F n P (Exit.then (lw F n P c Q) Q) a w):lw F n P c Q a w:=by
 intro b k cs hro hb hr
 obtain⟨e,a₁,w₁,hq,harr⟩:=h b (.inLoop c::k) cs hro hb hr
 cases e with
 |normal=>
  obtain⟨e₂,a₂,w₂,hq₂,harr₂⟩:=hq b k cs hro hb hr
  exact⟨e₂,a₂,w₂,hq₂, .of_steps (StepsIn.trans harr (.one (fenced_calm hb hr rfl) stepR_inLoop)) harr₂⟩
 |exit id=>exact⟨_,a₁,w₁,hq, .pass (x:= .inLoop c) rfl (fun _ _=> .inl (by simp)) harr⟩
 |goto l=>exact⟨_,a₁,w₁,hq, .pass (x:= .inLoop c) rfl (fun _ _=> .inl (by simp)) harr⟩
 |ret=>exact⟨_,a₁,w₁,hq, .pass (x:= .inLoop c) rfl (fun _ _=> .inl (by simp)) harr⟩
 |panic ch=>exact⟨_,a₁,w₁,hq, .pass (x:= .inLoop c) rfl (fun _ _=> .inl (by simp)) harr⟩
 |outgrown=>exact⟨_,a₁,w₁,hq, .pass (x:= .inLoop c) rfl (fun _ _=> .inl (by simp)) harr⟩
section
variable {F:Fence} {n:Nat} {P:Program} {N:Nat} {w0:World} {Bo:Nat→Nat→Prop} {bl0:Nat→Blk} {φ0:Nat→Addr} {E:Env} {R:Type} {r:R} {an:Ann} {lo:Nat→St→Option R}
def PosQ (F:Fence) (n:Nat) (P:Program) (N:Nat) (w0:World) (Bo:Nat→Nat→Prop) (bl0:Nat→Blk) (φ0:Nat→Addr) (lo:Nat→St→Option R) (r:R) (Q:Exit→Act→World→Prop) (q:Pos):Prop:=
 ∀st a w,lo q.key st=some r→Rel N w0 Bo bl0 φ0 st a w→match q.c with
  | .loop c=>lw F n P c (qF F n P Q q.fs) a w
  |c=>c.wpIn F n P (qF F n P Q q.fs) a w
theorem posQ_lo {Q:Exit→Act→World→Prop} {q:Pos} (h:PosQ F n P N w0 Bo bl0 φ0 lo r Q q):LoQ F n P N w0 Bo bl0 φ0 lo r q.key q.c (qF F n P Q q.fs):=by
 intro st a w hk hr
 have:=h st a w hk hr
 obtain⟨key,fs,c⟩:=q
 cases c with
 |loop c=>exact lw_loop this
 |_=>exact this
theorem losQ_posns {Q:Exit→Act→World→Prop}:∀(c:Code) (fs:List Fr),(∀q,q∈posns an fs c→PosQ F n P N w0 Bo bl0 φ0 lo r Q q)→LosQ F n P N w0 Bo bl0 φ0 an lo r c (qF F n P Q fs):=by
 intro c
 induction c with
 |seq a b iha ihb=>
  intro fs h
  unfold posns at h
  refine⟨iha (.seqL b::fs) fun q hq=>h q (List.mem_append_left _ hq),?_⟩
  cases hl:look an.cut (firstRegion b)with
  |some L=>
   rw [hl]at h
   exact posQ_lo (h ⟨firstRegion b,fs,b⟩ (List.mem_append_right _ List.mem_cons_self))
  |none=>
   rw [hl]at h
   exact ihb fs fun q hq=>h q (List.mem_append_right _ hq)
 |cond c a b iha ihb=>
  intro fs h
  exact⟨iha fs fun q hq=>h q (List.mem_append_left _ hq),ihb fs fun q hq=>h q (List.mem_append_right _ hq)⟩
 |block id c ih=>intro fs h;exact ih (.blk id::fs) h
 |loop c ih=>intro fs h;exact posQ_lo (h ⟨firstRegion c,fs, .loop c⟩ List.mem_cons_self)
 |rangeFunc g ps c d _ _=>intro fs h;exact posQ_lo (h ⟨firstRegion c,fs, .rangeFunc g ps c d⟩ List.mem_cons_self)
 |_=>intro fs h;trivial
def CtxIn (an:Ann) (tbl:List Pos):List Fr→Prop
 | []=>True
 | .seqL b::fs=>(match look an.cut (firstRegion b)with
  |some _=>∀q,q∈⟨firstRegion b,fs,b⟩::posns an fs b→q∈tbl
  |none=>∀q,q∈posns an fs b→q∈tbl)∧CtxIn an tbl fs
 | .blk _::fs=>CtxIn an tbl fs
 | .lp c::fs=>(⟨firstRegion c,fs, .loop c⟩:Pos)∈tbl∧CtxIn an tbl fs
def inner (an:Ann) (q:Pos):List Pos:=match q.c with
 | .loop c=>posns an (.lp c::q.fs) c
 |c=>posns an q.fs c
theorem posns_key:∀(c:Code) (fs:List Fr) (q:Pos),q∈posns an fs c→q.key=firstRegion q.c:=by
 intro c
 induction c with
 |seq a b iha ihb=>
  intro fs q hq
  unfold posns at hq
  rcases List.mem_append.1 hq with hq|hq
  ·exact iha _ q hq
  ·cases hl:look an.cut (firstRegion b)with
   |none=>rw [hl]at hq;exact ihb fs q hq
   |some L=>
    rw [hl]at hq
    rcases List.mem_cons.1 hq with rfl|hq
    ·rfl
    ·exact ihb fs q hq
 |cond c a b iha ihb=>
  intro fs q hq
  unfold posns at hq
  rcases List.mem_append.1 hq with hq|hq
  ·exact iha fs q hq
  ·exact ihb fs q hq
 |block id c ih=>intro fs q hq;exact ih (.blk id::fs) q hq
 |loop c ih=>
  intro fs q hq
  unfold posns at hq
  rcases List.mem_cons.1 hq with rfl|hq
  ·rfl
  ·exact ih (.lp c::fs) q hq
 |rangeFunc g ps c d _ _=>
  intro fs q hq
  unfold posns at hq
  rw [List.mem_singleton]at hq
  subst hq;rfl
 |_=>intro fs q hq;cases hq
theorem posns_in {tbl:List Pos}:∀(c:Code) (fs:List Fr),CtxIn an tbl fs→(∀q,q∈posns an fs c→q∈tbl)→∀q,q∈posns an fs c→CtxIn an tbl q.fs∧∀p,p∈inner an q→p∈tbl:=by
 intro c
 induction c with
 |seq a b iha ihb=>
  intro fs hc h q hq
  unfold posns at h hq
  have hcx:CtxIn an tbl (.seqL b::fs):=by
   refine⟨?_,hc⟩
   cases hl:look an.cut (firstRegion b)with
   |some L=>rw [hl]at h;exact fun q hq=>h q (List.mem_append_right _ hq)
   |none=>rw [hl]at h;exact fun q hq=>h q (List.mem_append_right _ hq)
  rcases List.mem_append.1 hq with hq|hq
  ·exact iha (.seqL b::fs) hcx (fun q hq=>h q (List.mem_append_left _ hq)) q hq
  ·cases hl:look an.cut (firstRegion b)with
   |none=>
    rw [hl]at h hq
    exact ihb fs hc (fun q hq=>h q (List.mem_append_right _ hq)) q hq
   |some L=>
    rw [hl]at h hq
    have hb:∀q,q∈posns an fs b→q∈tbl:=fun q hq=>h q (List.mem_append_right _ (List.mem_cons_of_mem _ hq))
    rcases List.mem_cons.1 hq with rfl|hq
    ·refine⟨hc,?_⟩
     unfold inner
     simp only
     split
     ·rename_i c
      intro p hp
      exact hb p (by unfold posns;exact List.mem_cons_of_mem _ hp)
     ·exact hb
    ·exact ihb fs hc hb q hq
 |cond c a b iha ihb=>
  intro fs hc h q hq
  unfold posns at h hq
  rcases List.mem_append.1 hq with hq|hq
  ·exact iha fs hc (fun q hq=>h q (List.mem_append_left _ hq)) q hq
  ·exact ihb fs hc (fun q hq=>h q (List.mem_append_right _ hq)) q hq
 |block id c ih=>intro fs hc h q hq;exact ih (.blk id::fs) hc h q hq
 |loop c ih=>
  intro fs hc h q hq
  unfold posns at h hq
  have hcx:CtxIn an tbl (.lp c::fs):=⟨h _ List.mem_cons_self,hc⟩
  have hb:∀q,q∈posns an (.lp c::fs) c→q∈tbl:=fun q hq=>h q (List.mem_cons_of_mem _ hq)
  rcases List.mem_cons.1 hq with rfl|hq
  ·exact⟨hc,hb⟩
  ·exact ih (.lp c::fs) hcx hb q hq
 |rangeFunc g ps c d _ _=>
  intro fs hc h q hq
  unfold posns at hq
  rw [List.mem_singleton]at hq
  subst hq
  exact⟨hc,h⟩
 |_=>intro fs hc h q hq;cases hq
theorem κF_ok (hF:Wide F) (hE:EnvOk P E) (hm:P.follows .mixedOrders=true) {orc:Orc R} (horc:OrcOk P orc) {Q:Exit→Act→World→Prop} {K:KX R} (hK:KQ N w0 Bo bl0 φ0 r K Q) {tbl:List Pos} (ht:∀q,q∈tbl→PosQ F n P N w0 Bo bl0 φ0 lo r Q q):
  ∀(fs:List Fr),CtxIn an tbl fs→KQ N w0 Bo bl0 φ0 r (κF E orc N an lo fs K) (qF F n P Q fs)
 | [],_=>hK
 | .seqL b::fs,h=>by
  have ih:=κF_ok hF hE hm horc hK ht fs h.2
  have h1:=h.1
  refine seqK_ok ih (fun L hL=>?_) fun hL=>?_
  ·rw [hL]at h1
   exact posQ_lo (ht _ (h1 _ List.mem_cons_self))
  ·rw [hL]at h1
   exact fun st a w he hr=>ev_ok hF hE hm horc b _ (losQ_posns b fs fun q hq=>ht q (h1 q hq)) _ ih st a w he hr
 | .blk id::fs,h=>blkK_ok (κF_ok hF hE hm horc hK ht fs h)
 | .lp c::fs,h=>by
  have ih:=κF_ok hF hE hm horc hK ht fs h.2
  intro x st a w hk hr
  cases x with
  |exit j=>exact ih _ _ _ _ hk hr
  |ret=>exact ih _ _ _ _ hk hr
  |norm=>
   obtain⟨st',h1,h2⟩:=tidy_ok hk hr
   exact ht _ h.1 st' a w h1 h2
inductive StepOk (E:Env) (orc:Orc R) (N:Nat) (an:Ann) (lo:Nat→St→Option R) (K:KX R):List (LoE R)→List Pos→Prop
 |nil:StepOk E orc N an lo K [] []
 |cons {e:LoE R} {es:List (LoE R)} {q:Pos} {qs:List Pos}:e.key=q.key→hasN (qs.map (·.key)) q.key=false→(∀s r,e.l s=some r→evPos E orc N an lo K q (e.sk.mk' s)=some r)→StepOk E orc N an lo K es qs→StepOk E orc N an lo K (e::es) (q::qs)
theorem loOf_some {orc:Orc R} {K:KX R} {les:List (LoE R)} {qs:List Pos} (h:StepOk E orc N an lo K les qs):∀q,q∈qs→∀st,loOf les q.key st=some r→evPos E orc N an lo K q st=some r:=by
 induction h with
 |nil=>intro q hq;cases hq
 | @cons e es q0 qs hk hn he _ ih=>
  intro q hq st hl
  unfold loOf at hl
  rcases List.mem_cons.1 hq with rfl|hq
  ·rw [hk,Nat.beq_refl,cond_true]at hl
   split at hl
   ·rename_i s hs
    have e1:=Sk.dec_ok hs
    subst e1
    exact he s r hl
   ·cases hl
  ·have:Nat.beq e.key q.key=false:=by
    rw [Bool.eq_false_iff]
    intro e1
    have e2:=Nat.eq_of_beq_eq_true e1
    have:q0.key∈qs.map (·.key):=by rw [←hk,e2];exact List.mem_map.2 ⟨q,hq,rfl⟩
    rw [hasN_mem.2 this]at hn;cases hn
   rw [this,cond_false]at hl
   exact ih q hq st hl
theorem evPos_ok (hF:Wide F) (hE:EnvOk P E) (hm:P.follows .mixedOrders=true) {orc:Orc R} (horc:OrcOk P orc) {Q:Exit→Act→World→Prop} {K:KX R} (hK:KQ N w0 Bo bl0 φ0 r K Q) {tbl:List Pos} (ht:∀q,q∈tbl→PosQ F n P N w0 Bo bl0 φ0 lo r Q q) {q:Pos} (hq:q∈tbl) (hc:CtxIn an tbl q.fs) (hi:∀p,p∈inner an q→p∈tbl) (hkey:q.key=firstRegion q.c)
  {st:St} {a:Act} {w:World} (h:evPos E orc N an lo K q st=some r) (hr:Rel N w0 Bo bl0 φ0 st a w):match q.c with
  | .loop c=>lw F n P c (qF F n P Q q.fs) a w
  |c=>c.wpIn F n P (qF F n P Q q.fs) a w:=by
 obtain⟨key,fs,c⟩:=q
 have gen:(∀c',c≠ .loop c')→ev E orc N an lo c st (κF E orc N an lo fs K)=some r→(∀p,p∈posns an fs c→p∈tbl)→c.wpIn F n P (qF F n P Q fs) a w:=by
  intro _ h hi
  exact ev_ok hF hE hm horc c _ (losQ_posns c fs fun p hp=>ht p (hi p hp)) _ (κF_ok hF hE hm horc hK ht fs hc) st a w h hr
 cases c with
 |loop c=>
  have hkey:key=firstRegion c:=hkey
  subst hkey
  have hcx:CtxIn an tbl (.lp c::fs):=⟨hq,hc⟩
  exact lw_round (ev_ok hF hE hm horc c _ (losQ_posns c (.lp c::fs) fun p hp=>ht p (hi p hp)) _ (κF_ok hF hE hm horc hK ht (.lp c::fs) hcx) st a w h hr)
 |_=>exact gen (fun _ e=>by cases e) h hi
theorem fuel_ok (hF:Wide F) (hE:EnvOk P E) (hm:P.follows .mixedOrders=true) {orc:Nat→Orc R} (horc:∀k,OrcOk P (orc k)) {Q:Exit→Act→World→Prop} {K:KX R} (hK:KQ N w0 Bo bl0 φ0 r K Q) {c:Code} {tbl:List Pos} (htb:posns an [] c=tbl) {les:Nat→List (LoE R)}
  (h0:∀e,e∈les 0→∀s,e.l s=none) (hs:∀k,StepOk E (orc k) N an (loOf (les k)) K (les (k+1)) tbl):∀k q,q∈tbl→PosQ F n P N w0 Bo bl0 φ0 (loOf (les k)) r Q q:=by
 subst htb
 intro k
 induction k with
 |zero=>
  intro q _ st a w h _
  exfalso
  have:∀(l:List (LoE R)),(∀e,e∈l→∀s,e.l s=none)→loOf l q.key st=none:=by
   intro l
   induction l with
   |nil=>intro _;rfl
   |cons e l ih=>
    intro hl
    unfold loOf
    cases Nat.beq e.key q.key with
    |false=>exact ih fun e he=>hl e (List.mem_cons_of_mem _ he)
    |true=>
     simp only [cond_true]
     split
     ·exact hl e List.mem_cons_self _
     ·rfl
  rw [this _ h0]at h;cases h
 |succ k ih=>
  intro q hq st a w h hr
  obtain⟨h1,h2⟩:=posns_in (an:=an) (tbl:=posns an [] c) c [] trivial (fun q hq=>hq) q hq
  exact evPos_ok hF hE hm (horc k) hK ih hq h1 h2 (posns_key c [] q hq) (loOf_some (hs k) q hq st h) hr
end
def lentSk:List (Nat×SB)→Bool
 | []=>true
 | (n, .own _ _)::l=>isLent n&&lentSk l
 | (n, .cell _ _)::l=>isLent n&&lentSk l
 |_=>false
theorem lentSk_ok:∀(l:List (Nat×SB)),lentSk l=true→∀(s:SbT l) n b,look (mkB l s) n=some b→isLent n=true∧live b
 | [],_,s,n,b,h=>by cases h
 | (m, .own t tl)::l,hl,s,n,b,h=>by
  unfold lentSk at hl
  rw [Bool.and_eq_true]at hl
  replace h:(cnd (Nat.beq m n) (some (Blk.live t s.1 tl))<|look (mkB l s.2) n)=some b:=h
  cases hb:Nat.beq m n with
  |true=>rw [hb]at h;cases h;rw [←Nat.eq_of_beq_eq_true hb];exact⟨hl.1,_,_,_,rfl⟩
  |false=>rw [hb]at h;exact lentSk_ok l hl.2 s.2 n b h
 | (m, .cell t tl)::l,hl,s,n,b,h=>by
  unfold lentSk at hl
  rw [Bool.and_eq_true]at hl
  replace h:(cnd (Nat.beq m n) (some (Blk.live t [s.1] tl))<|look (mkB l s.2) n)=some b:=h
  cases hb:Nat.beq m n with
  |true=>rw [hb]at h;cases h;rw [←Nat.eq_of_beq_eq_true hb];exact⟨hl.1,_,_,_,rfl⟩
  |false=>rw [hb]at h;exact lentSk_ok l hl.2 s.2 n b h
 | (m, .froz t)::l,hl,s,n,b,h=>by cases hl
theorem mkB_names:∀(l:List (Nat×SB)) (s:SbT l),(mkB l s).map (·.1)=l.map (·.1)
 | [],_=>rfl
 | (m, .own t tl)::l,s=>congrArg (m:: ·) (mkB_names l s.2)
 | (m, .cell t tl)::l,s=>congrArg (m:: ·) (mkB_names l s.2)
 | (m, .froz t)::l,s=>congrArg (m:: ·) (mkB_names l s.2)
def numSk:Nat→List (Nat×SV)→Bool
 |_,[]=>true
 |k,(n,_)::l=>Nat.beq n k&&numSk (k+1) l
theorem numSk_ok:∀(l:List (Nat×SV)) (k:Nat),numSk k l=true→∀(s:SvT l),mkV l s=number k ((mkV l s).map (·.2))∧(mkV l s).length=l.length
 | [],_,_,s=>⟨rfl,rfl⟩
 | (m,v)::l,k,h,s=>by
  unfold numSk at h
  rw [Bool.and_eq_true]at h
  have e:=Nat.eq_of_beq_eq_true h.1
  subst e
  cases v with
  |pv t=>obtain⟨i1,i2⟩:=numSk_ok l _ h.2 s.2;exact⟨congrArg (_:: ·) i1,congrArg (· +1) i2⟩
  |d t=>obtain⟨i1,i2⟩:=numSk_ok l _ h.2 s.2;exact⟨congrArg (_:: ·) i1,congrArg (· +1) i2⟩
  |pre q=>obtain⟨i1,i2⟩:=numSk_ok l _ h.2 s.2;exact⟨congrArg (_:: ·) i1,congrArg (· +1) i2⟩
  |part q=>obtain⟨i1,i2⟩:=numSk_ok l _ h.2 s.2;exact⟨congrArg (_:: ·) i1,congrArg (· +1) i2⟩
  |cl f ts=>obtain⟨i1,i2⟩:=numSk_ok l _ h.2 s.2;exact⟨congrArg (_:: ·) i1,congrArg (· +1) i2⟩
  |f v=>obtain⟨i1,i2⟩:=numSk_ok l _ h.2 s;exact⟨congrArg (_:: ·) i1,congrArg (· +1) i2⟩
  |nv b t=>obtain⟨i1,i2⟩:=numSk_ok l _ h.2 s.2;exact⟨congrArg (_:: ·) i1,congrArg (· +1) i2⟩
def shapesOk (N:Nat) (fn:Func) (ask rsk:Sk):Bool:=numSk 0 ask.tm&&lentSk ask.bl&&(rsk.bl.all fun q=>Nat.blt q.1 10000)&&Nat.beq N (max fn.ntmps ask.tm.length)&& !(fn.name== "runtime.NumGoroutine")
def decW {R:Type} (rsk:Sk) (dec:rsk.T→R) (st:St):Option R:=match rsk.dec st with
 |some s=>some (dec s)
 |none=>none
theorem fe_ok {P:Program} {E:Env} (hE:EnvOk P E) (hm:P.follows .mixedOrders=true) {es:Nat→List FE} (hes:∀k e,e∈es k→FeOk P e) {N:Nat} {an:Ann} {fn:Func} {c:Code} {f:Nat} {ask rsk:Sk} {R:Type} {enc:R→rsk.T} {dec:rsk.T→R} (hed:∀s,enc (dec s)=s) {rms:List RM} {tbl:List Pos} (hf:P.funcs[f]?=some fn) (hb:fn.body=some c)
  (hs:shapesOk N fn ask rsk=true) (htb:posns an [] c=tbl) (les:Nat→List (LoE R)) (h0:∀e,e∈les 0→∀s,e.l s=none)
  (hst:∀k (s:SbT ask.bl),StepOk E (orcOf (es k)) N an (loOf (les k)) (retK E fn.results.toList rms (mkB ask.bl s) (decW rsk dec)) (les (k+1)) tbl)
  {F:Nat→ask.T→Option R} (heq:∀k s r,F k s=some r→evFn E (orcOf (es k)) an (loOf (les k)) N c fn.results.toList rms (ask.mk' s) (decW rsk dec)=some r) (k:Nat):FeOk P ⟨f,ask,rsk,R,F k,enc⟩:=by
 intro s o h v hv
 unfold shapesOk at hs
 simp only [Bool.and_eq_true,Bool.not_eq_true']at hs
 obtain⟨⟨⟨⟨s1,s2⟩,s3⟩,s4⟩,s5⟩:=hs
 obtain⟨n1,n2⟩:=numSk_ok ask.tm 0 s1 s.1
 replace h:evFn E (orcOf (es k)) an (loOf (les k)) N c fn.results.toList rms (ask.mk' s) (decW rsk dec)=some o:=heq k s o h
 have e1:ask.mk' s=⟨number 0 ((mkV ask.tm s.1).map (·.2)),mkB ask.bl s.2⟩:=by
  unfold Sk.mk'
  rw [←n1]
 rw [e1]at h
 refine fn_ct (st1:=rsk.mk' (enc o)) (K:=decW rsk dec) hE hm (orcOf_ok (es k) (hes k)) hf hb s5 ?_ (lentSk_ok _ s2 s.2) (fun w0 bl0 φ0 Q hKQ=>?_) h (fun st hst=>?_) (fun q hq=>?_) hv
 ·rw [List.length_map,n2];exact Nat.eq_of_beq_eq_true s4
 ·exact losQ_posns c [] fun q hq=>fuel_ok (Or.inl rfl) hE hm (fun k=>orcOf_ok (es k) (hes k)) hKQ htb h0 (fun k=>hst k _) k q (by rw [←htb];exact hq)
 ·unfold decW at hst
  split at hst
  ·rename_i s' hs'
   cases hst
   rw [hed];exact Sk.dec_ok hs'
  ·cases hst
 ·have:q.1∈(mkB rsk.bl (enc o).2).map (·.1):=List.mem_map.2 ⟨q,hq,rfl⟩
  rw [mkB_names]at this
  obtain⟨q',h1,h2⟩:=List.mem_map.1 this
  rw [List.all_eq_true]at s3
  have:=s3 q' h1
  rw [Nat.blt_eq]at this
  rw [←h2];exact this
theorem fe_nil {P:Program} {f:Nat} {t:Ty} {rsk:Sk} {R:Type} {enc:R→rsk.T} {F Fn Fm:(List t.T×Unit)×Unit→Option R} (hn:FeOk P ⟨f,⟨[(0, .nv true t)],[]⟩,rsk,R,Fn,enc⟩) (hm:FeOk P ⟨f,⟨[(0, .nv false t)],[]⟩,rsk,R,Fm,enc⟩)
  (hF:∀s r,F s=some r→Fm s=some r∧(s.1.1=[]→Fn s=some r)):FeOk P ⟨f,⟨[(0, .d (.li t))],[]⟩,rsk,R,F,enc⟩:=by
 intro s o h v hv
 obtain⟨h1,h2⟩:=hF s o h
 have cm:=hm s o h1 v hv
 refine⟨cm.1,fun w0 bl0 φ0 vs hl hme hr=>?_⟩
 cases hr with
 |cons hr hnil=>
  have hr2:=hr
  obtain⟨ad,cap,rfl,q2,q3⟩:=rep_li.1 hr2
  cases had:ad.isNone with
  |false=>exact cm.2 w0 bl0 φ0 _ hl hme (.cons ⟨hr,ad,_,cap,rfl,had⟩ hnil)
  |true=>
   have hx:s.1.1=[]:=by
    rcases q3 with q3| ⟨b,o',e,_⟩
    ·exact q3
    ·rw [e]at had;cases had
   exact(hn s o (h2 hx) v hv).2 w0 bl0 φ0 _ hl hme (.cons ⟨hr,ad,_,cap,rfl,had⟩ hnil)
theorem fc {α:Type _} {p:α→Prop} {a:α} {l:List α} (h:p a∧∀x,x∈l→p x):∀x,x∈a::l→p x:=List.forall_mem_cons.2 h
theorem fz {α:Type _} {p:α→Prop}:∀x,x∈([]:List α)→p x:=List.forall_mem_nil _
end Go.Proofs.YtfllafbphddooaaGreatE
set_option maxRecDepth 100000
namespace Go.Proofs.YtfllafbphddooaaGreatV
open Go Go.RowKit YtfllafbphddooaaGreatE YtfllafbphddooaaGreatW.PrintWords YtfllafbphddooaaGreatW.PrintLast YtfllafbphddooaaGreatW.PrintMore
noncomputable def E0:Env:=⟨[(3,(.it .i64)),(4, .bo),(5,(.it .u8)),(9, .st),(24, .st),(26,(.ag (.pr .bo .st))),(28,(.ag (.pr (.ag (.pr .bo .st)) (.ag (.pr .bo .st))))),(29,(.it .i64)),(34,(.ag (.pr (.ag (.pr .bo .st)) .st))),(45,(.li (.it .i64))),(68,(.li (.ag (.pr (.ag (.pr .bo .st)) .st)))),(69,(.li (.ag (.pr (.ag (.pr .bo .st)) .st)))),(76,(.ag (.li (.ag (.pr (.ag (.pr .bo .st)) .st))))),(90,(.ag (.pr (.ag (.pr .bo .st)) (.ag (.pr .bo .st))))),(97, .fu),(99,(.ag (.pr .fu (.it .i64)))),(124,(.it .u64)),(166,(.li (.ag (.pr .fu (.it .i64))))),(184,(.it .u64)),(185,(.li (.it .u64))),(212,(.li (.it .u8))),(224,(.li (.li (.it .i64))))],
 [(45,8),(68,40),(69,40),(166,16),(185,8),(212,1),(224,24)],
 [(3,[.d (.it .u8)]),(7,[.d (.it .i64)]),(8,[]),(9,[.d (.it .i64)]),(10,[.d (.ag (.pr .bo .st))]),(11,[.d (.it .i64), .d (.it .i64)]),(12,[.d (.ag (.pr (.ag (.pr .bo .st)) .st)), .d (.ag (.pr (.ag (.pr .bo .st)) .st))]),(13,[.d (.ag (.pr .bo .st))]),(14,[.d (.it .i64)]),(15,[.d (.ag (.pr (.ag (.pr .bo .st)) .st)), .d (.ag (.pr (.ag (.pr .bo .st)) .st)), .d (.ag (.pr (.ag (.pr .bo .st)) .st))]),(16,[.d (.ag (.pr (.ag (.pr .bo .st)) .st)), .d (.ag (.pr (.ag (.pr .bo .st)) .st))]),(17,[.d (.ag (.pr (.ag (.pr .bo .st)) .st)), .d (.ag (.pr (.ag (.pr .bo .st)) .st))]),(18,[.d (.ag (.pr (.ag (.pr .bo .st)) .st)), .d (.ag (.pr (.ag (.pr .bo .st)) .st)), .d (.ag (.pr (.ag (.pr .bo .st)) .st))]),(25,[.d (.it .i64)]),(40,[.d (.li (.ag (.pr (.ag (.pr .bo .st)) .st))), .d (.li (.ag (.pr (.ag (.pr .bo .st)) .st)))]),(43,[.d (.it .i64)]),(46,[.d (.li (.it .i64))]),(49,[.d (.it .i64)]),(50,[.d (.it .i64)]),(51,[.d (.it .i64), .d (.it .i64)]),(52,[.d (.li (.it .i64))]),(53,[.d (.it .i64)]),(54,[.d (.it .i64)]),(55,[.d (.ag (.pr .bo .st)), .d (.ag (.pr .bo .st))]),(56,[.d (.ag (.pr .bo .st)), .d (.ag (.pr .bo .st))]),(57,[.d (.it .i64)]),(58,[.d (.ag (.pr .bo .st))]),(59,[.d .st]),(60,[.d (.ag (.pr .bo .st)), .d (.ag (.pr .bo .st))]),(61,[.d (.ag (.pr .bo .st)), .d (.ag (.pr .bo .st))]),(62,[.d (.ag (.pr (.ag (.pr .bo .st)) .st))]),(63,[.d (.ag (.pr (.ag (.pr .bo .st)) .st)), .d (.ag (.pr (.ag (.pr .bo .st)) .st)), .d (.ag (.pr (.ag (.pr .bo .st)) .st)), .d (.li (.ag (.pr .fu (.it .i64))))]),(64,[]),(65,[]),(66,[]),(67,[]),(68,[.d (.it .i64)]),(69,[.d (.ag (.pr (.ag (.pr .bo .st)) .st))]),(70,[.d (.ag (.pr (.ag (.pr .bo .st)) .st)), .d (.ag (.pr (.ag (.pr .bo .st)) .st)), .d (.ag (.pr (.ag (.pr .bo .st)) .st))]),(71,[.d (.ag (.pr (.ag (.pr .bo .st)) .st))]),(72,[.d (.ag (.pr (.ag (.pr .bo .st)) .st)), .d (.ag (.pr (.ag (.pr .bo .st)) .st))]),(73,[.d (.ag (.pr (.ag (.pr .bo .st)) .st))]),(74,[.d (.ag (.pr (.ag (.pr .bo .st)) .st)), .d (.ag (.pr (.ag (.pr .bo .st)) .st))]),(75,[.d (.ag (.pr (.ag (.pr .bo .st)) .st)), .d (.ag (.pr (.ag (.pr .bo .st)) .st))]),(76,[.d (.ag (.pr .bo .st)), .d (.ag (.pr .bo .st))]),(77,[.d (.ag (.pr (.ag (.pr .bo .st)) .st))]),(78,[.d (.ag (.pr (.ag (.pr .bo .st)) .st))]),(79,[.d (.ag (.pr (.ag (.pr .bo .st)) .st)), .d (.ag (.pr (.ag (.pr .bo .st)) .st))]),(80,[.d (.ag (.pr (.ag (.pr .bo .st)) .st)), .d (.ag (.pr (.ag (.pr .bo .st)) .st)), .d (.ag (.pr (.ag (.pr .bo .st)) .st))]),(81,[.d (.ag (.pr (.ag (.pr .bo .st)) .st))]),(91,[.d .st]),(93,[.d (.it .u64)]),(108,[.d (.it .u64)]),(115,[.d (.it .i64), .d (.li (.it .i64))]),(117,[.d (.it .i64)]),(122,[.d (.it .i64)]),(123,[.d (.li (.ag (.pr (.ag (.pr .bo .st)) .st)))]),(132,[.d (.li (.ag (.pr (.ag (.pr .bo .st)) .st)))]),(136,[.d (.it .i64)]),(137,[.d (.it .i64)]),(138,[.d (.it .i64)]),(140,[.d (.it .i64)]),(141,[.d (.ag (.pr .bo .st)), .d (.ag (.pr .bo .st))]),(142,[.d (.ag (.pr .bo .st))]),(143,[.d .bo, .d .st]),(144,[.d .st, .d .st]),(145,[.d .st]),(146,[.d .st, .d .st]),(147,[.d .st, .d .st]),(148,[.d .bo, .d .st]),(149,[.d .st, .d .st]),(150,[.d (.ag (.pr (.ag (.pr .bo .st)) .st))]),(151,[.d (.ag (.pr (.ag (.pr .bo .st)) .st)), .d (.ag (.pr (.ag (.pr .bo .st)) .st)), .d (.ag (.pr (.ag (.pr .bo .st)) .st))]),(152,[.d (.ag (.pr (.ag (.pr .bo .st)) .st)), .d (.ag (.pr (.ag (.pr .bo .st)) .st)), .d (.ag (.pr (.ag (.pr .bo .st)) .st))]),(153,[.d (.ag (.pr (.ag (.pr .bo .st)) .st)), .d (.ag (.pr (.ag (.pr .bo .st)) .st)), .d (.ag (.pr (.ag (.pr .bo .st)) .st))]),(154,[.d (.ag (.pr (.ag (.pr .bo .st)) .st)), .d (.ag (.pr (.ag (.pr .bo .st)) .st)), .d (.ag (.pr (.ag (.pr .bo .st)) .st))]),(155,[.d (.ag (.pr .bo .st))]),(156,[.d (.ag (.pr (.ag (.pr .bo .st)) .st)), .d (.ag (.pr (.ag (.pr .bo .st)) .st))]),(157,[.d (.ag (.pr .bo .st))]),(158,[.d (.ag (.pr (.ag (.pr .bo .st)) .st))]),(159,[.d (.ag (.pr .bo .st))]),(160,[.d (.ag (.pr .bo .st)), .d (.ag (.pr .bo .st))]),(161,[.d .st, .d .st]),(162,[.d .st, .d .st]),(163,[.d .st, .d .st]),(164,[.d (.ag (.pr .bo .st))]),(165,[.d (.ag (.pr (.ag (.pr .bo .st)) .st))]),(166,[.d (.ag (.pr (.ag (.pr .bo .st)) .st)), .d (.ag (.pr (.ag (.pr .bo .st)) .st))]),(180,[.d (.li (.it .u64))]),(187,[.d .st, .d .st]),(188,[.d .st, .d (.it .i64)]),(189,[.d .st, .d .st]),(192,[.d (.li (.it .u64))]),(197,[.d (.it .i64)]),(200,[.d (.it .i64), .d (.it .i64)]),(201,[.d (.li (.it .i64))]),(202,[.d (.it .i64)]),(213,[.d (.ag (.pr (.ag (.pr .bo .st)) .st))]),(217,[.d .st, .d .st]),(218,[.d .st, .d .st]),(219,[.d (.li (.it .u64)), .d (.li (.it .u64))]),(220,[.d .st]),(221,[.d .st]),(222,[.bor, .d (.li (.it .u64))]),(223,[.d (.ag (.pr .bo .st))]),(224,[.d .st, .d .st]),(225,[.d .st, .d (.it .i64)]),(226,[.d (.ag (.pr .bo .st)), .d (.ag (.pr .bo .st))]),(232,[.d (.it .u64), .d (.it .u64), .d (.it .u64)]),(233,[.d (.li (.it .u64)), .d (.li (.it .u64))]),(234,[.bor]),(240,[.d (.li (.it .i64)), .d (.li (.li (.it .i64)))]),(248,[.d (.ag (.pr .bo .st))]),(251,[.d (.it .u64), .d (.it .u64), .d (.it .u64)]),(252,[.d (.it .u64), .d (.it .u64)]),(253,[.bor]),(254,[]),(255,[.d .st]),(256,[.d (.it .i64)]),(259,[.d (.li (.it .u64)), .d (.li (.it .u64))]),(260,[.d (.it .u64), .d (.it .u64), .d (.it .u64)]),(261,[.d (.it .u64)]),(262,[.d (.li (.it .u64)), .d (.it .i64)]),(263,[.bor, .d (.li (.it .u64))]),(268,[.d (.li (.it .i64))]),(271,[.d (.it .u8)]),(272,[.d (.it .u64)])],
 [(3,[.d .bo]),(7,[.d .bo]),(8,[.d .bo]),(9,[.d (.ag (.pr (.ag (.pr .bo .st)) (.ag (.pr .bo .st)))), .d (.it .i64), .d (.it .i64)]),(10,[.d .bo]),(11,[.d (.ag (.pr (.ag (.pr .bo .st)) .st))]),(12,[.d (.ag (.pr (.ag (.pr .bo .st)) .st))]),(13,[.d (.ag (.pr (.ag (.pr .bo .st)) .st))]),(14,[.d (.ag (.pr (.ag (.pr .bo .st)) .st))]),(15,[.d (.ag (.pr (.ag (.pr .bo .st)) .st)), .d (.ag (.pr (.ag (.pr .bo .st)) .st)), .d (.it .i64)]),(16,[.d (.ag (.pr (.ag (.pr .bo .st)) .st))]),(17,[.d (.ag (.pr (.ag (.pr .bo .st)) .st))]),(18,[.d (.ag (.pr (.ag (.pr .bo .st)) .st)), .d (.ag (.pr (.ag (.pr .bo .st)) .st)), .d (.it .i64)]),(25,[.d (.ag (.pr .bo .st))]),(40,[.d .bo]),(43,[.d (.ag (.li (.ag (.pr (.ag (.pr .bo .st)) .st)))), .d (.it .i64)]),(46,[.d (.li (.ag (.pr (.ag (.pr .bo .st)) .st)))]),(49,[.d (.it .i64)]),(50,[.d (.it .i64), .d (.it .i64)]),(51,[.d (.it .i64)]),(52,[.d (.it .i64)]),(53,[.d .bo]),(54,[.fn]),(55,[.d (.ag (.pr .bo .st))]),(56,[.d (.ag (.pr .bo .st))]),(57,[.d (.ag (.pr .bo .st))]),(58,[.d (.it .i64), .d .bo]),(59,[.d .bo]),(60,[.d (.ag (.pr (.ag (.pr .bo .st)) .st))]),(61,[.d (.ag (.pr .bo .st))]),(62,[.d (.ag (.pr .bo .st))]),(63,[.d (.it .i64)]),(64,[.d (.ag (.pr .fu (.it .i64)))]),(65,[.d (.ag (.pr .fu (.it .i64)))]),(66,[.d (.ag (.pr .fu (.it .i64)))]),(67,[.d (.ag (.pr .fu (.it .i64)))]),(68,[.d (.ag (.pr (.ag (.pr .bo .st)) .st)), .d (.ag (.pr (.ag (.pr .bo .st)) .st)), .d (.it .i64)]),(69,[.d (.ag (.pr (.ag (.pr .bo .st)) .st)), .d .bo]),(70,[.d (.ag (.pr (.ag (.pr .bo .st)) .st))]),(71,[.d (.it .i64)]),(72,[.d (.ag (.pr (.ag (.pr .bo .st)) .st)), .d (.ag (.pr (.ag (.pr .bo .st)) .st)), .d (.it .i64)]),(73,[.d (.ag (.pr (.ag (.pr .bo .st)) .st))]),(74,[.d (.ag (.pr (.ag (.pr .bo .st)) .st))]),(75,[.d (.ag (.pr (.ag (.pr .bo .st)) .st))]),(76,[.d (.ag (.pr .bo .st))]),(77,[.d (.ag (.pr (.ag (.pr .bo .st)) .st))]),(78,[.d .bo]),(79,[.d (.ag (.pr (.ag (.pr .bo .st)) .st))]),(80,[.d (.it .i64)]),(81,[.d (.ag (.pr (.ag (.pr .bo .st)) .st))]),(91,[.d (.it .i64)]),(93,[.d .st]),(108,[.d .st]),(115,[.d (.it .i64)]),(117,[.d (.ag (.li (.ag (.pr (.ag (.pr .bo .st)) .st))))]),(122,[.d (.ag (.pr (.ag (.pr .bo .st)) .st))]),(123,[.d (.li (.ag (.pr (.ag (.pr .bo .st)) .st)))]),(132,[.d (.li (.ag (.pr (.ag (.pr .bo .st)) .st)))]),(136,[.d (.it .i64)]),(137,[.d (.it .i64)]),(138,[.d (.it .i64), .d (.it .i64)]),(140,[.d (.it .i64)]),(141,[.d (.ag (.pr .bo .st))]),(142,[.d (.ag (.pr .bo .st))]),(143,[.d (.ag (.pr .bo .st))]),(144,[.d .st]),(145,[.d (.it .u64), .d .bo]),(146,[.d .st]),(147,[.d .st, .d .st]),(148,[.d (.ag (.pr .bo .st))]),(149,[.d .st]),(150,[.d (.it .i64)]),(151,[.d .bo]),(152,[.d .bo]),(153,[.d .bo]),(154,[.d .bo]),(155,[.d (.ag (.pr .bo .st)), .d .bo]),(156,[.d (.ag (.pr (.ag (.pr .bo .st)) .st))]),(157,[.d (.it .i64)]),(158,[.d .bo]),(159,[.d (.ag (.pr (.ag (.pr .bo .st)) .st))]),(160,[.d (.ag (.pr (.ag (.pr .bo .st)) .st))]),(161,[.d .st]),(162,[.d (.it .i64)]),(163,[.d .st]),(164,[.d (.ag (.pr .bo .st))]),(165,[.d (.ag (.pr (.ag (.pr .bo .st)) .st))]),(166,[.d (.it .i64)]),(180,[.d .st]),(187,[.d .st]),(188,[.d .st]),(189,[.d .st, .d .st]),(192,[.d .st]),(197,[.d (.li (.it .i64))]),(200,[.d (.it .i64)]),(201,[.d (.li (.ag (.pr (.ag (.pr .bo .st)) .st)))]),(202,[.d (.li (.it .i64))]),(213,[.d (.it .i64)]),(217,[.d .st]),(218,[.d (.it .i64)]),(219,[.d (.li (.it .u64))]),(220,[.own (.it .u64)]),(221,[.own (.it .u64)]),(222,[.d .bo]),(223,[.d (.it .i64)]),(224,[.d .st]),(225,[.d .st]),(226,[.d (.it .i64)]),(232,[.d (.it .u64), .d (.it .u64)]),(233,[.d (.li (.it .u64)), .d (.li (.it .u64))]),(234,[.sh]),(240,[.d (.li (.it .i64))]),(248,[.d (.it .i64)]),(251,[.d (.it .u64), .d (.it .u64)]),(252,[.d (.it .u64), .d (.it .u64)]),(253,[.sh]),(254,[.d (.ag (.pr .bo .st))]),(255,[.d (.it .i64)]),(256,[.d .st]),(259,[.d (.it .i64)]),(260,[.d (.it .u64), .d (.it .u64)]),(261,[.d (.it .i64)]),(262,[.own (.it .u64)]),(263,[.d (.it .u64)]),(268,[.own (.it .i64)]),(271,[.d (.it .i64)]),(272,[.d (.it .i64)])],
 [],[176],[151,152,153,154]⟩
noncomputable def ask3:Sk:=⟨[(0, .d (.it .u8))],[]⟩
noncomputable def rsk3:Sk:=⟨[(0, .d .bo)],[]⟩
abbrev R3:Type:=Bool
noncomputable def enc3:R3→rsk3.T:=fun o=>((o,()),())
noncomputable def dec3:rsk3.T→R3:=fun s=>s.1.1
noncomputable def fe3 (F:Int→Option R3):FE:=⟨3,ask3,rsk3,R3,fun s=>F s.1.1,enc3⟩
noncomputable def ask7:Sk:=⟨[(0, .d (.it .i64))],[]⟩
noncomputable def rsk7:Sk:=⟨[(0, .d .bo)],[]⟩
abbrev R7:Type:=Bool
noncomputable def enc7:R7→rsk7.T:=fun o=>((o,()),())
noncomputable def dec7:rsk7.T→R7:=fun s=>s.1.1
noncomputable def fe7 (F:Int→Option R7):FE:=⟨7,ask7,rsk7,R7,fun s=>F s.1.1,enc7⟩
noncomputable def ask8:Sk:=⟨[],[]⟩
noncomputable def rsk8:Sk:=⟨[(0, .d .bo)],[]⟩
abbrev R8:Type:=Bool
noncomputable def enc8:R8→rsk8.T:=fun o=>((o,()),())
noncomputable def dec8:rsk8.T→R8:=fun s=>s.1.1
noncomputable def fe8 (F:Option R8):FE:=⟨8,ask8,rsk8,R8,fun s=>F,enc8⟩
noncomputable def ask9:Sk:=⟨[(0, .d (.it .i64))],[]⟩
noncomputable def rsk9:Sk:=⟨[(0, .d (.ag (.pr (.ag (.pr .bo .st)) (.ag (.pr .bo .st))))),(1, .d (.it .i64)),(2, .d (.it .i64))],[]⟩
abbrev R9:Type:=(TI×TI×Int×Int)
noncomputable def enc9:R9→rsk9.T:=fun o=>(((o.1,o.2.1),o.2.2.1,o.2.2.2,()),())
noncomputable def dec9:rsk9.T→R9:=fun s=>(s.1.1.1,s.1.1.2,s.1.2.1,s.1.2.2.1)
noncomputable def fe9 (F:Int→Option R9):FE:=⟨9,ask9,rsk9,R9,fun s=>F s.1.1,enc9⟩
noncomputable def ask10:Sk:=⟨[(0, .d (.ag (.pr .bo .st)))],[]⟩
noncomputable def rsk10:Sk:=⟨[(0, .d .bo)],[]⟩
abbrev R10:Type:=Bool
noncomputable def enc10:R10→rsk10.T:=fun o=>((o,()),())
noncomputable def dec10:rsk10.T→R10:=fun s=>s.1.1
noncomputable def fe10 (F:TI→Option R10):FE:=⟨10,ask10,rsk10,R10,fun s=>F s.1.1,enc10⟩
noncomputable def ask11:Sk:=⟨[(0, .d (.it .i64)),(1, .d (.it .i64))],[]⟩
noncomputable def rsk11:Sk:=⟨[(0, .d (.ag (.pr (.ag (.pr .bo .st)) .st)))],[]⟩
abbrev R11:Type:=TQ
noncomputable def enc11:R11→rsk11.T:=fun o=>(((o.1,o.2),()),())
noncomputable def dec11:rsk11.T→R11:=fun s=>(s.1.1.1,s.1.1.2)
noncomputable def fe11 (F:Int→Int→Option R11):FE:=⟨11,ask11,rsk11,R11,fun s=>F s.1.1 s.1.2.1,enc11⟩
noncomputable def ask12:Sk:=⟨[(0, .d (.ag (.pr (.ag (.pr .bo .st)) .st))),(1, .d (.ag (.pr (.ag (.pr .bo .st)) .st)))],[]⟩
noncomputable def rsk12:Sk:=⟨[(0, .d (.ag (.pr (.ag (.pr .bo .st)) .st)))],[]⟩
abbrev R12:Type:=TQ
noncomputable def enc12:R12→rsk12.T:=fun o=>(((o.1,o.2),()),())
noncomputable def dec12:rsk12.T→R12:=fun s=>(s.1.1.1,s.1.1.2)
noncomputable def fe12 (F:TQ→TQ→Option R12):FE:=⟨12,ask12,rsk12,R12,fun s=>F s.1.1 s.1.2.1,enc12⟩
noncomputable def ask13:Sk:=⟨[(0, .d (.ag (.pr .bo .st)))],[]⟩
noncomputable def rsk13:Sk:=⟨[(0, .d (.ag (.pr (.ag (.pr .bo .st)) .st)))],[]⟩
abbrev R13:Type:=TQ
noncomputable def enc13:R13→rsk13.T:=fun o=>(((o.1,o.2),()),())
noncomputable def dec13:rsk13.T→R13:=fun s=>(s.1.1.1,s.1.1.2)
noncomputable def fe13 (F:TI→Option R13):FE:=⟨13,ask13,rsk13,R13,fun s=>F s.1.1,enc13⟩
noncomputable def ask14:Sk:=⟨[(0, .d (.it .i64))],[]⟩
noncomputable def rsk14:Sk:=⟨[(0, .d (.ag (.pr (.ag (.pr .bo .st)) .st)))],[]⟩
abbrev R14:Type:=TQ
noncomputable def enc14:R14→rsk14.T:=fun o=>(((o.1,o.2),()),())
noncomputable def dec14:rsk14.T→R14:=fun s=>(s.1.1.1,s.1.1.2)
noncomputable def fe14 (F:Int→Option R14):FE:=⟨14,ask14,rsk14,R14,fun s=>F s.1.1,enc14⟩
noncomputable def ask15:Sk:=⟨[(0, .d (.ag (.pr (.ag (.pr .bo .st)) .st))),(1, .d (.ag (.pr (.ag (.pr .bo .st)) .st))),(2, .d (.ag (.pr (.ag (.pr .bo .st)) .st)))],[]⟩
noncomputable def rsk15:Sk:=⟨[(0, .d (.ag (.pr (.ag (.pr .bo .st)) .st))),(1, .d (.ag (.pr (.ag (.pr .bo .st)) .st))),(2, .d (.it .i64))],[]⟩
abbrev R15:Type:=(TI×ByteArray×TI×ByteArray×Int)
noncomputable def enc15:R15→rsk15.T:=fun o=>(((o.1,o.2.1),(o.2.2.1,o.2.2.2.1),o.2.2.2.2,()),())
noncomputable def dec15:rsk15.T→R15:=fun s=>(s.1.1.1,s.1.1.2,s.1.2.1.1,s.1.2.1.2,s.1.2.2.1)
noncomputable def fe15 (F:TQ→TQ→TQ→Option R15):FE:=⟨15,ask15,rsk15,R15,fun s=>F s.1.1 s.1.2.1 s.1.2.2.1,enc15⟩
noncomputable def ask16:Sk:=⟨[(0, .d (.ag (.pr (.ag (.pr .bo .st)) .st))),(1, .d (.ag (.pr (.ag (.pr .bo .st)) .st)))],[]⟩
noncomputable def rsk16:Sk:=⟨[(0, .d (.ag (.pr (.ag (.pr .bo .st)) .st)))],[]⟩
abbrev R16:Type:=TQ
noncomputable def enc16:R16→rsk16.T:=fun o=>(((o.1,o.2),()),())
noncomputable def dec16:rsk16.T→R16:=fun s=>(s.1.1.1,s.1.1.2)
noncomputable def fe16 (F:TQ→TQ→Option R16):FE:=⟨16,ask16,rsk16,R16,fun s=>F s.1.1 s.1.2.1,enc16⟩
noncomputable def ask17:Sk:=⟨[(0, .d (.ag (.pr (.ag (.pr .bo .st)) .st))),(1, .d (.ag (.pr (.ag (.pr .bo .st)) .st)))],[]⟩
noncomputable def rsk17:Sk:=⟨[(0, .d (.ag (.pr (.ag (.pr .bo .st)) .st)))],[]⟩
abbrev R17:Type:=TQ
noncomputable def enc17:R17→rsk17.T:=fun o=>(((o.1,o.2),()),())
noncomputable def dec17:rsk17.T→R17:=fun s=>(s.1.1.1,s.1.1.2)
noncomputable def fe17 (F:TQ→TQ→Option R17):FE:=⟨17,ask17,rsk17,R17,fun s=>F s.1.1 s.1.2.1,enc17⟩
noncomputable def ask18:Sk:=⟨[(0, .d (.ag (.pr (.ag (.pr .bo .st)) .st))),(1, .d (.ag (.pr (.ag (.pr .bo .st)) .st))),(2, .d (.ag (.pr (.ag (.pr .bo .st)) .st)))],[]⟩
noncomputable def rsk18:Sk:=⟨[(0, .d (.ag (.pr (.ag (.pr .bo .st)) .st))),(1, .d (.ag (.pr (.ag (.pr .bo .st)) .st))),(2, .d (.it .i64))],[]⟩
abbrev R18:Type:=(TI×ByteArray×TI×ByteArray×Int)
noncomputable def enc18:R18→rsk18.T:=fun o=>(((o.1,o.2.1),(o.2.2.1,o.2.2.2.1),o.2.2.2.2,()),())
noncomputable def dec18:rsk18.T→R18:=fun s=>(s.1.1.1,s.1.1.2,s.1.2.1.1,s.1.2.1.2,s.1.2.2.1)
noncomputable def fe18 (F:TQ→TQ→TQ→Option R18):FE:=⟨18,ask18,rsk18,R18,fun s=>F s.1.1 s.1.2.1 s.1.2.2.1,enc18⟩
noncomputable def ask25:Sk:=⟨[(0, .d (.it .i64))],[]⟩
noncomputable def rsk25:Sk:=⟨[(0, .d (.ag (.pr .bo .st)))],[]⟩
abbrev R25:Type:=TI
noncomputable def enc25:R25→rsk25.T:=fun o=>(((o.1,o.2),()),())
noncomputable def dec25:rsk25.T→R25:=fun s=>(s.1.1.1,s.1.1.2)
noncomputable def fe25 (F:Int→Option R25):FE:=⟨25,ask25,rsk25,R25,fun s=>F s.1.1,enc25⟩
noncomputable def ask40:Sk:=⟨[(0, .d (.li (.ag (.pr (.ag (.pr .bo .st)) .st)))),(1, .d (.li (.ag (.pr (.ag (.pr .bo .st)) .st))))],[]⟩
noncomputable def rsk40:Sk:=⟨[(0, .d .bo)],[]⟩
abbrev R40:Type:=Bool
noncomputable def enc40:R40→rsk40.T:=fun o=>((o,()),())
noncomputable def dec40:rsk40.T→R40:=fun s=>s.1.1
noncomputable def fe40 (F:(List TQ)→(List TQ)→Option R40):FE:=⟨40,ask40,rsk40,R40,fun s=>F s.1.1 s.1.2.1,enc40⟩
noncomputable def ask43:Sk:=⟨[(0, .d (.it .i64))],[]⟩
noncomputable def rsk43:Sk:=⟨[(0, .d (.ag (.li (.ag (.pr (.ag (.pr .bo .st)) .st))))),(1, .d (.it .i64))],[]⟩
abbrev R43:Type:=((List TQ)×Int)
noncomputable def enc43:R43→rsk43.T:=fun o=>(((o.1),o.2,()),())
noncomputable def dec43:rsk43.T→R43:=fun s=>(s.1.1,s.1.2.1)
noncomputable def fe43 (F:Int→Option R43):FE:=⟨43,ask43,rsk43,R43,fun s=>F s.1.1,enc43⟩
noncomputable def ask46:Sk:=⟨[(0, .d (.li (.it .i64)))],[]⟩
noncomputable def rsk46:Sk:=⟨[(0, .d (.li (.ag (.pr (.ag (.pr .bo .st)) .st))))],[]⟩
abbrev R46:Type:=(List TQ)
noncomputable def enc46:R46→rsk46.T:=fun o=>((o,()),())
noncomputable def dec46:rsk46.T→R46:=fun s=>s.1.1
noncomputable def fe46 (F:(List Int)→Option R46):FE:=⟨46,ask46,rsk46,R46,fun s=>F s.1.1,enc46⟩
noncomputable def ask49:Sk:=⟨[(0, .d (.it .i64))],[]⟩
noncomputable def rsk49:Sk:=⟨[(0, .d (.it .i64))],[]⟩
abbrev R49:Type:=Int
noncomputable def enc49:R49→rsk49.T:=fun o=>((o,()),())
noncomputable def dec49:rsk49.T→R49:=fun s=>s.1.1
noncomputable def fe49 (F:Int→Option R49):FE:=⟨49,ask49,rsk49,R49,fun s=>F s.1.1,enc49⟩
noncomputable def ask50:Sk:=⟨[(0, .d (.it .i64))],[]⟩
noncomputable def rsk50:Sk:=⟨[(0, .d (.it .i64)),(1, .d (.it .i64))],[]⟩
abbrev R50:Type:=(Int×Int)
noncomputable def enc50:R50→rsk50.T:=fun o=>((o.1,o.2,()),())
noncomputable def dec50:rsk50.T→R50:=fun s=>(s.1.1,s.1.2.1)
noncomputable def fe50 (F:Int→Option R50):FE:=⟨50,ask50,rsk50,R50,fun s=>F s.1.1,enc50⟩
noncomputable def ask51:Sk:=⟨[(0, .d (.it .i64)),(1, .d (.it .i64))],[]⟩
noncomputable def rsk51:Sk:=⟨[(0, .d (.it .i64))],[]⟩
abbrev R51:Type:=Int
noncomputable def enc51:R51→rsk51.T:=fun o=>((o,()),())
noncomputable def dec51:rsk51.T→R51:=fun s=>s.1.1
noncomputable def fe51 (F:Int→Int→Option R51):FE:=⟨51,ask51,rsk51,R51,fun s=>F s.1.1 s.1.2.1,enc51⟩
noncomputable def ask52:Sk:=⟨[(0, .d (.li (.it .i64)))],[]⟩
noncomputable def rsk52:Sk:=⟨[(0, .d (.it .i64))],[]⟩
abbrev R52:Type:=Int
noncomputable def enc52:R52→rsk52.T:=fun o=>((o,()),())
noncomputable def dec52:rsk52.T→R52:=fun s=>s.1.1
noncomputable def fe52 (F:(List Int)→Option R52):FE:=⟨52,ask52,rsk52,R52,fun s=>F s.1.1,enc52⟩
noncomputable def ask53:Sk:=⟨[(0, .d (.it .i64))],[]⟩
noncomputable def rsk53:Sk:=⟨[(0, .d .bo)],[]⟩
abbrev R53:Type:=Bool
noncomputable def enc53:R53→rsk53.T:=fun o=>((o,()),())
noncomputable def dec53:rsk53.T→R53:=fun s=>s.1.1
noncomputable def fe53 (F:Int→Option R53):FE:=⟨53,ask53,rsk53,R53,fun s=>F s.1.1,enc53⟩
noncomputable def ask54:Sk:=⟨[(0, .d (.it .i64))],[]⟩
noncomputable def rsk54:Sk:=⟨[(0, .cl 139 [(.it .i64)])],[]⟩
abbrev R54:Type:=(Int×Unit)
noncomputable def enc54:R54→rsk54.T:=fun o=>((o,()),())
noncomputable def dec54:rsk54.T→R54:=fun s=>s.1.1
noncomputable def fe54 (F:Int→Option R54):FE:=⟨54,ask54,rsk54,R54,fun s=>F s.1.1,enc54⟩
noncomputable def ask55:Sk:=⟨[(0, .d (.ag (.pr .bo .st))),(1, .d (.ag (.pr .bo .st)))],[]⟩
noncomputable def rsk55:Sk:=⟨[(0, .d (.ag (.pr .bo .st)))],[]⟩
abbrev R55:Type:=TI
noncomputable def enc55:R55→rsk55.T:=fun o=>(((o.1,o.2),()),())
noncomputable def dec55:rsk55.T→R55:=fun s=>(s.1.1.1,s.1.1.2)
noncomputable def fe55 (F:TI→TI→Option R55):FE:=⟨55,ask55,rsk55,R55,fun s=>F s.1.1 s.1.2.1,enc55⟩
noncomputable def ask56:Sk:=⟨[(0, .d (.ag (.pr .bo .st))),(1, .d (.ag (.pr .bo .st)))],[]⟩
noncomputable def rsk56:Sk:=⟨[(0, .d (.ag (.pr .bo .st)))],[]⟩
abbrev R56:Type:=TI
noncomputable def enc56:R56→rsk56.T:=fun o=>(((o.1,o.2),()),())
noncomputable def dec56:rsk56.T→R56:=fun s=>(s.1.1.1,s.1.1.2)
noncomputable def fe56 (F:TI→TI→Option R56):FE:=⟨56,ask56,rsk56,R56,fun s=>F s.1.1 s.1.2.1,enc56⟩
noncomputable def ask57:Sk:=⟨[(0, .d (.it .i64))],[]⟩
noncomputable def rsk57:Sk:=⟨[(0, .d (.ag (.pr .bo .st)))],[]⟩
abbrev R57:Type:=TI
noncomputable def enc57:R57→rsk57.T:=fun o=>(((o.1,o.2),()),())
noncomputable def dec57:rsk57.T→R57:=fun s=>(s.1.1.1,s.1.1.2)
noncomputable def fe57 (F:Int→Option R57):FE:=⟨57,ask57,rsk57,R57,fun s=>F s.1.1,enc57⟩
noncomputable def ask58:Sk:=⟨[(0, .d (.ag (.pr .bo .st)))],[]⟩
noncomputable def rsk58:Sk:=⟨[(0, .d (.it .i64)),(1, .d .bo)],[]⟩
abbrev R58:Type:=(Int×Bool)
noncomputable def enc58:R58→rsk58.T:=fun o=>((o.1,o.2,()),())
noncomputable def dec58:rsk58.T→R58:=fun s=>(s.1.1,s.1.2.1)
noncomputable def fe58 (F:TI→Option R58):FE:=⟨58,ask58,rsk58,R58,fun s=>F s.1.1,enc58⟩
noncomputable def ask59:Sk:=⟨[(0, .d .st)],[]⟩
noncomputable def rsk59:Sk:=⟨[(0, .d .bo)],[]⟩
abbrev R59:Type:=Bool
noncomputable def enc59:R59→rsk59.T:=fun o=>((o,()),())
noncomputable def dec59:rsk59.T→R59:=fun s=>s.1.1
noncomputable def fe59 (F:ByteArray→Option R59):FE:=⟨59,ask59,rsk59,R59,fun s=>F s.1.1,enc59⟩
noncomputable def ask60:Sk:=⟨[(0, .d (.ag (.pr .bo .st))),(1, .d (.ag (.pr .bo .st)))],[]⟩
noncomputable def rsk60:Sk:=⟨[(0, .d (.ag (.pr (.ag (.pr .bo .st)) .st)))],[]⟩
abbrev R60:Type:=TQ
noncomputable def enc60:R60→rsk60.T:=fun o=>(((o.1,o.2),()),())
noncomputable def dec60:rsk60.T→R60:=fun s=>(s.1.1.1,s.1.1.2)
noncomputable def fe60 (F:TI→TI→Option R60):FE:=⟨60,ask60,rsk60,R60,fun s=>F s.1.1 s.1.2.1,enc60⟩
noncomputable def ask61:Sk:=⟨[(0, .d (.ag (.pr .bo .st))),(1, .d (.ag (.pr .bo .st)))],[]⟩
noncomputable def rsk61:Sk:=⟨[(0, .d (.ag (.pr .bo .st)))],[]⟩
abbrev R61:Type:=TI
noncomputable def enc61:R61→rsk61.T:=fun o=>(((o.1,o.2),()),())
noncomputable def dec61:rsk61.T→R61:=fun s=>(s.1.1.1,s.1.1.2)
noncomputable def fe61 (F:TI→TI→Option R61):FE:=⟨61,ask61,rsk61,R61,fun s=>F s.1.1 s.1.2.1,enc61⟩
noncomputable def ask62:Sk:=⟨[(0, .d (.ag (.pr (.ag (.pr .bo .st)) .st)))],[]⟩
noncomputable def rsk62:Sk:=⟨[(0, .d (.ag (.pr .bo .st)))],[]⟩
abbrev R62:Type:=TI
noncomputable def enc62:R62→rsk62.T:=fun o=>(((o.1,o.2),()),())
noncomputable def dec62:rsk62.T→R62:=fun s=>(s.1.1.1,s.1.1.2)
noncomputable def fe62 (F:TQ→Option R62):FE:=⟨62,ask62,rsk62,R62,fun s=>F s.1.1,enc62⟩
noncomputable def ask63:Sk:=⟨[(0, .d (.ag (.pr (.ag (.pr .bo .st)) .st))),(1, .d (.ag (.pr (.ag (.pr .bo .st)) .st))),(2, .d (.ag (.pr (.ag (.pr .bo .st)) .st))),(3, .d (.li (.ag (.pr .fu (.it .i64)))))],[]⟩
noncomputable def rsk63:Sk:=⟨[(0, .d (.it .i64))],[]⟩
abbrev R63:Type:=Int
noncomputable def enc63:R63→rsk63.T:=fun o=>((o,()),())
noncomputable def dec63:rsk63.T→R63:=fun s=>s.1.1
noncomputable def fe63 (F:TQ→TQ→TQ→(List (Int×Int))→Option R63):FE:=⟨63,ask63,rsk63,R63,fun s=>F s.1.1 s.1.2.1 s.1.2.2.1 s.1.2.2.2.1,enc63⟩
noncomputable def ask64:Sk:=⟨[],[]⟩
noncomputable def rsk64:Sk:=⟨[(0, .d (.ag (.pr .fu (.it .i64))))],[]⟩
abbrev R64:Type:=(Int×Int)
noncomputable def enc64:R64→rsk64.T:=fun o=>(((o.1,o.2),()),())
noncomputable def dec64:rsk64.T→R64:=fun s=>(s.1.1.1,s.1.1.2)
noncomputable def fe64 (F:Option R64):FE:=⟨64,ask64,rsk64,R64,fun s=>F,enc64⟩
noncomputable def ask65:Sk:=⟨[],[]⟩
noncomputable def rsk65:Sk:=⟨[(0, .d (.ag (.pr .fu (.it .i64))))],[]⟩
abbrev R65:Type:=(Int×Int)
noncomputable def enc65:R65→rsk65.T:=fun o=>(((o.1,o.2),()),())
noncomputable def dec65:rsk65.T→R65:=fun s=>(s.1.1.1,s.1.1.2)
noncomputable def fe65 (F:Option R65):FE:=⟨65,ask65,rsk65,R65,fun s=>F,enc65⟩
noncomputable def ask66:Sk:=⟨[],[]⟩
noncomputable def rsk66:Sk:=⟨[(0, .d (.ag (.pr .fu (.it .i64))))],[]⟩
abbrev R66:Type:=(Int×Int)
noncomputable def enc66:R66→rsk66.T:=fun o=>(((o.1,o.2),()),())
noncomputable def dec66:rsk66.T→R66:=fun s=>(s.1.1.1,s.1.1.2)
noncomputable def fe66 (F:Option R66):FE:=⟨66,ask66,rsk66,R66,fun s=>F,enc66⟩
noncomputable def ask67:Sk:=⟨[],[]⟩
noncomputable def rsk67:Sk:=⟨[(0, .d (.ag (.pr .fu (.it .i64))))],[]⟩
abbrev R67:Type:=(Int×Int)
noncomputable def enc67:R67→rsk67.T:=fun o=>(((o.1,o.2),()),())
noncomputable def dec67:rsk67.T→R67:=fun s=>(s.1.1.1,s.1.1.2)
noncomputable def fe67 (F:Option R67):FE:=⟨67,ask67,rsk67,R67,fun s=>F,enc67⟩
noncomputable def ask68:Sk:=⟨[(0, .d (.it .i64))],[]⟩
noncomputable def rsk68:Sk:=⟨[(0, .d (.ag (.pr (.ag (.pr .bo .st)) .st))),(1, .d (.ag (.pr (.ag (.pr .bo .st)) .st))),(2, .d (.it .i64))],[]⟩
abbrev R68:Type:=(TI×ByteArray×TI×ByteArray×Int)
noncomputable def enc68:R68→rsk68.T:=fun o=>(((o.1,o.2.1),(o.2.2.1,o.2.2.2.1),o.2.2.2.2,()),())
noncomputable def dec68:rsk68.T→R68:=fun s=>(s.1.1.1,s.1.1.2,s.1.2.1.1,s.1.2.1.2,s.1.2.2.1)
noncomputable def fe68 (F:Int→Option R68):FE:=⟨68,ask68,rsk68,R68,fun s=>F s.1.1,enc68⟩
noncomputable def ask69:Sk:=⟨[(0, .d (.ag (.pr (.ag (.pr .bo .st)) .st)))],[]⟩
noncomputable def rsk69:Sk:=⟨[(0, .d (.ag (.pr (.ag (.pr .bo .st)) .st))),(1, .d .bo)],[]⟩
abbrev R69:Type:=(TI×ByteArray×Bool)
noncomputable def enc69:R69→rsk69.T:=fun o=>(((o.1,o.2.1),o.2.2,()),())
noncomputable def dec69:rsk69.T→R69:=fun s=>(s.1.1.1,s.1.1.2,s.1.2.1)
noncomputable def fe69 (F:TQ→Option R69):FE:=⟨69,ask69,rsk69,R69,fun s=>F s.1.1,enc69⟩
noncomputable def ask70:Sk:=⟨[(0, .d (.ag (.pr (.ag (.pr .bo .st)) .st))),(1, .d (.ag (.pr (.ag (.pr .bo .st)) .st))),(2, .d (.ag (.pr (.ag (.pr .bo .st)) .st)))],[]⟩
noncomputable def rsk70:Sk:=⟨[(0, .d (.ag (.pr (.ag (.pr .bo .st)) .st)))],[]⟩
abbrev R70:Type:=TQ
noncomputable def enc70:R70→rsk70.T:=fun o=>(((o.1,o.2),()),())
noncomputable def dec70:rsk70.T→R70:=fun s=>(s.1.1.1,s.1.1.2)
noncomputable def fe70 (F:TQ→TQ→TQ→Option R70):FE:=⟨70,ask70,rsk70,R70,fun s=>F s.1.1 s.1.2.1 s.1.2.2.1,enc70⟩
noncomputable def ask71:Sk:=⟨[(0, .d (.ag (.pr (.ag (.pr .bo .st)) .st)))],[]⟩
noncomputable def rsk71:Sk:=⟨[(0, .d (.it .i64))],[]⟩
abbrev R71:Type:=Int
noncomputable def enc71:R71→rsk71.T:=fun o=>((o,()),())
noncomputable def dec71:rsk71.T→R71:=fun s=>s.1.1
noncomputable def fe71 (F:TQ→Option R71):FE:=⟨71,ask71,rsk71,R71,fun s=>F s.1.1,enc71⟩
noncomputable def ask72:Sk:=⟨[(0, .d (.ag (.pr (.ag (.pr .bo .st)) .st))),(1, .d (.ag (.pr (.ag (.pr .bo .st)) .st)))],[]⟩
noncomputable def rsk72:Sk:=⟨[(0, .d (.ag (.pr (.ag (.pr .bo .st)) .st))),(1, .d (.ag (.pr (.ag (.pr .bo .st)) .st))),(2, .d (.it .i64))],[]⟩
abbrev R72:Type:=(TI×ByteArray×TI×ByteArray×Int)
noncomputable def enc72:R72→rsk72.T:=fun o=>(((o.1,o.2.1),(o.2.2.1,o.2.2.2.1),o.2.2.2.2,()),())
noncomputable def dec72:rsk72.T→R72:=fun s=>(s.1.1.1,s.1.1.2,s.1.2.1.1,s.1.2.1.2,s.1.2.2.1)
noncomputable def fe72 (F:TQ→TQ→Option R72):FE:=⟨72,ask72,rsk72,R72,fun s=>F s.1.1 s.1.2.1,enc72⟩
noncomputable def ask73:Sk:=⟨[(0, .d (.ag (.pr (.ag (.pr .bo .st)) .st)))],[]⟩
noncomputable def rsk73:Sk:=⟨[(0, .d (.ag (.pr (.ag (.pr .bo .st)) .st)))],[]⟩
abbrev R73:Type:=TQ
noncomputable def enc73:R73→rsk73.T:=fun o=>(((o.1,o.2),()),())
noncomputable def dec73:rsk73.T→R73:=fun s=>(s.1.1.1,s.1.1.2)
noncomputable def fe73 (F:TQ→Option R73):FE:=⟨73,ask73,rsk73,R73,fun s=>F s.1.1,enc73⟩
noncomputable def ask74:Sk:=⟨[(0, .d (.ag (.pr (.ag (.pr .bo .st)) .st))),(1, .d (.ag (.pr (.ag (.pr .bo .st)) .st)))],[]⟩
noncomputable def rsk74:Sk:=⟨[(0, .d (.ag (.pr (.ag (.pr .bo .st)) .st)))],[]⟩
abbrev R74:Type:=TQ
noncomputable def enc74:R74→rsk74.T:=fun o=>(((o.1,o.2),()),())
noncomputable def dec74:rsk74.T→R74:=fun s=>(s.1.1.1,s.1.1.2)
noncomputable def fe74 (F:TQ→TQ→Option R74):FE:=⟨74,ask74,rsk74,R74,fun s=>F s.1.1 s.1.2.1,enc74⟩
noncomputable def ask75:Sk:=⟨[(0, .d (.ag (.pr (.ag (.pr .bo .st)) .st))),(1, .d (.ag (.pr (.ag (.pr .bo .st)) .st)))],[]⟩
noncomputable def rsk75:Sk:=⟨[(0, .d (.ag (.pr (.ag (.pr .bo .st)) .st)))],[]⟩
abbrev R75:Type:=TQ
noncomputable def enc75:R75→rsk75.T:=fun o=>(((o.1,o.2),()),())
noncomputable def dec75:rsk75.T→R75:=fun s=>(s.1.1.1,s.1.1.2)
noncomputable def fe75 (F:TQ→TQ→Option R75):FE:=⟨75,ask75,rsk75,R75,fun s=>F s.1.1 s.1.2.1,enc75⟩
noncomputable def ask76:Sk:=⟨[(0, .d (.ag (.pr .bo .st))),(1, .d (.ag (.pr .bo .st)))],[]⟩
noncomputable def rsk76:Sk:=⟨[(0, .d (.ag (.pr .bo .st)))],[]⟩
abbrev R76:Type:=TI
noncomputable def enc76:R76→rsk76.T:=fun o=>(((o.1,o.2),()),())
noncomputable def dec76:rsk76.T→R76:=fun s=>(s.1.1.1,s.1.1.2)
noncomputable def fe76 (F:TI→TI→Option R76):FE:=⟨76,ask76,rsk76,R76,fun s=>F s.1.1 s.1.2.1,enc76⟩
noncomputable def ask77:Sk:=⟨[(0, .d (.ag (.pr (.ag (.pr .bo .st)) .st)))],[]⟩
noncomputable def rsk77:Sk:=⟨[(0, .d (.ag (.pr (.ag (.pr .bo .st)) .st)))],[]⟩
abbrev R77:Type:=TQ
noncomputable def enc77:R77→rsk77.T:=fun o=>(((o.1,o.2),()),())
noncomputable def dec77:rsk77.T→R77:=fun s=>(s.1.1.1,s.1.1.2)
noncomputable def fe77 (F:TQ→Option R77):FE:=⟨77,ask77,rsk77,R77,fun s=>F s.1.1,enc77⟩
noncomputable def ask78:Sk:=⟨[(0, .d (.ag (.pr (.ag (.pr .bo .st)) .st)))],[]⟩
noncomputable def rsk78:Sk:=⟨[(0, .d .bo)],[]⟩
abbrev R78:Type:=Bool
noncomputable def enc78:R78→rsk78.T:=fun o=>((o,()),())
noncomputable def dec78:rsk78.T→R78:=fun s=>s.1.1
noncomputable def fe78 (F:TQ→Option R78):FE:=⟨78,ask78,rsk78,R78,fun s=>F s.1.1,enc78⟩
noncomputable def ask79:Sk:=⟨[(0, .d (.ag (.pr (.ag (.pr .bo .st)) .st))),(1, .d (.ag (.pr (.ag (.pr .bo .st)) .st)))],[]⟩
noncomputable def rsk79:Sk:=⟨[(0, .d (.ag (.pr (.ag (.pr .bo .st)) .st)))],[]⟩
abbrev R79:Type:=TQ
noncomputable def enc79:R79→rsk79.T:=fun o=>(((o.1,o.2),()),())
noncomputable def dec79:rsk79.T→R79:=fun s=>(s.1.1.1,s.1.1.2)
noncomputable def fe79 (F:TQ→TQ→Option R79):FE:=⟨79,ask79,rsk79,R79,fun s=>F s.1.1 s.1.2.1,enc79⟩
noncomputable def ask80:Sk:=⟨[(0, .d (.ag (.pr (.ag (.pr .bo .st)) .st))),(1, .d (.ag (.pr (.ag (.pr .bo .st)) .st))),(2, .d (.ag (.pr (.ag (.pr .bo .st)) .st)))],[]⟩
noncomputable def rsk80:Sk:=⟨[(0, .d (.it .i64))],[]⟩
abbrev R80:Type:=Int
noncomputable def enc80:R80→rsk80.T:=fun o=>((o,()),())
noncomputable def dec80:rsk80.T→R80:=fun s=>s.1.1
noncomputable def fe80 (F:TQ→TQ→TQ→Option R80):FE:=⟨80,ask80,rsk80,R80,fun s=>F s.1.1 s.1.2.1 s.1.2.2.1,enc80⟩
noncomputable def ask81:Sk:=⟨[(0, .d (.ag (.pr (.ag (.pr .bo .st)) .st)))],[]⟩
noncomputable def rsk81:Sk:=⟨[(0, .d (.ag (.pr (.ag (.pr .bo .st)) .st)))],[]⟩
abbrev R81:Type:=TQ
noncomputable def enc81:R81→rsk81.T:=fun o=>(((o.1,o.2),()),())
noncomputable def dec81:rsk81.T→R81:=fun s=>(s.1.1.1,s.1.1.2)
noncomputable def fe81 (F:TQ→Option R81):FE:=⟨81,ask81,rsk81,R81,fun s=>F s.1.1,enc81⟩
noncomputable def ask91:Sk:=⟨[(0, .d .st)],[]⟩
noncomputable def rsk91:Sk:=⟨[(0, .d (.it .i64))],[]⟩
abbrev R91:Type:=Int
noncomputable def enc91:R91→rsk91.T:=fun o=>((o,()),())
noncomputable def dec91:rsk91.T→R91:=fun s=>s.1.1
noncomputable def fe91 (F:ByteArray→Option R91):FE:=⟨91,ask91,rsk91,R91,fun s=>F s.1.1,enc91⟩
noncomputable def ask93:Sk:=⟨[(0, .d (.it .u64))],[]⟩
noncomputable def rsk93:Sk:=⟨[(0, .d .st)],[]⟩
abbrev R93:Type:=ByteArray
noncomputable def enc93:R93→rsk93.T:=fun o=>((o,()),())
noncomputable def dec93:rsk93.T→R93:=fun s=>s.1.1
noncomputable def fe93 (F:Int→Option R93):FE:=⟨93,ask93,rsk93,R93,fun s=>F s.1.1,enc93⟩
noncomputable def ask108:Sk:=⟨[(0, .d (.it .u64))],[]⟩
noncomputable def rsk108:Sk:=⟨[(0, .d .st)],[]⟩
abbrev R108:Type:=ByteArray
noncomputable def enc108:R108→rsk108.T:=fun o=>((o,()),())
noncomputable def dec108:rsk108.T→R108:=fun s=>s.1.1
noncomputable def fe108 (F:Int→Option R108):FE:=⟨108,ask108,rsk108,R108,fun s=>F s.1.1,enc108⟩
noncomputable def ask115:Sk:=⟨[(0, .d (.it .i64)),(1, .d (.li (.it .i64)))],[]⟩
noncomputable def rsk115:Sk:=⟨[(0, .d (.it .i64))],[]⟩
abbrev R115:Type:=Int
noncomputable def enc115:R115→rsk115.T:=fun o=>((o,()),())
noncomputable def dec115:rsk115.T→R115:=fun s=>s.1.1
noncomputable def fe115 (F:Int→(List Int)→Option R115):FE:=⟨115,ask115,rsk115,R115,fun s=>F s.1.1 s.1.2.1,enc115⟩
noncomputable def ask117:Sk:=⟨[(0, .d (.it .i64))],[]⟩
noncomputable def rsk117:Sk:=⟨[(0, .d (.ag (.li (.ag (.pr (.ag (.pr .bo .st)) .st)))))],[]⟩
abbrev R117:Type:=(List TQ)
noncomputable def enc117:R117→rsk117.T:=fun o=>(((o),()),())
noncomputable def dec117:rsk117.T→R117:=fun s=>s.1.1
noncomputable def fe117 (F:Int→Option R117):FE:=⟨117,ask117,rsk117,R117,fun s=>F s.1.1,enc117⟩
noncomputable def ask122:Sk:=⟨[(0, .d (.it .i64))],[]⟩
noncomputable def rsk122:Sk:=⟨[(0, .d (.ag (.pr (.ag (.pr .bo .st)) .st)))],[]⟩
abbrev R122:Type:=TQ
noncomputable def enc122:R122→rsk122.T:=fun o=>(((o.1,o.2),()),())
noncomputable def dec122:rsk122.T→R122:=fun s=>(s.1.1.1,s.1.1.2)
noncomputable def fe122 (F:Int→Option R122):FE:=⟨122,ask122,rsk122,R122,fun s=>F s.1.1,enc122⟩
noncomputable def ask123:Sk:=⟨[(0, .d (.li (.ag (.pr (.ag (.pr .bo .st)) .st))))],[]⟩
noncomputable def rsk123:Sk:=⟨[(0, .d (.li (.ag (.pr (.ag (.pr .bo .st)) .st))))],[]⟩
abbrev R123:Type:=(List TQ)
noncomputable def enc123:R123→rsk123.T:=fun o=>((o,()),())
noncomputable def dec123:rsk123.T→R123:=fun s=>s.1.1
noncomputable def fe123 (F:(List TQ)→Option R123):FE:=⟨123,ask123,rsk123,R123,fun s=>F s.1.1,enc123⟩
noncomputable def ask132:Sk:=⟨[(0, .d (.li (.ag (.pr (.ag (.pr .bo .st)) .st))))],[]⟩
noncomputable def rsk132:Sk:=⟨[(0, .d (.li (.ag (.pr (.ag (.pr .bo .st)) .st))))],[]⟩
abbrev R132:Type:=(List TQ)
noncomputable def enc132:R132→rsk132.T:=fun o=>((o,()),())
noncomputable def dec132:rsk132.T→R132:=fun s=>s.1.1
noncomputable def fe132 (F:(List TQ)→Option R132):FE:=⟨132,ask132,rsk132,R132,fun s=>F s.1.1,enc132⟩
noncomputable def ask136:Sk:=⟨[(0, .d (.it .i64))],[]⟩
noncomputable def rsk136:Sk:=⟨[(0, .d (.it .i64))],[]⟩
abbrev R136:Type:=Int
noncomputable def enc136:R136→rsk136.T:=fun o=>((o,()),())
noncomputable def dec136:rsk136.T→R136:=fun s=>s.1.1
noncomputable def fe136 (F:Int→Option R136):FE:=⟨136,ask136,rsk136,R136,fun s=>F s.1.1,enc136⟩
noncomputable def ask137:Sk:=⟨[(0, .d (.it .i64))],[]⟩
noncomputable def rsk137:Sk:=⟨[(0, .d (.it .i64))],[]⟩
abbrev R137:Type:=Int
noncomputable def enc137:R137→rsk137.T:=fun o=>((o,()),())
noncomputable def dec137:rsk137.T→R137:=fun s=>s.1.1
noncomputable def fe137 (F:Int→Option R137):FE:=⟨137,ask137,rsk137,R137,fun s=>F s.1.1,enc137⟩
noncomputable def ask138:Sk:=⟨[(0, .d (.it .i64))],[]⟩
noncomputable def rsk138:Sk:=⟨[(0, .d (.it .i64)),(1, .d (.it .i64))],[]⟩
abbrev R138:Type:=(Int×Int)
noncomputable def enc138:R138→rsk138.T:=fun o=>((o.1,o.2,()),())
noncomputable def dec138:rsk138.T→R138:=fun s=>(s.1.1,s.1.2.1)
noncomputable def fe138 (F:Int→Option R138):FE:=⟨138,ask138,rsk138,R138,fun s=>F s.1.1,enc138⟩
noncomputable def ask140:Sk:=⟨[(0, .d (.it .i64))],[]⟩
noncomputable def rsk140:Sk:=⟨[(0, .d (.it .i64))],[]⟩
abbrev R140:Type:=Int
noncomputable def enc140:R140→rsk140.T:=fun o=>((o,()),())
noncomputable def dec140:rsk140.T→R140:=fun s=>s.1.1
noncomputable def fe140 (F:Int→Option R140):FE:=⟨140,ask140,rsk140,R140,fun s=>F s.1.1,enc140⟩
noncomputable def ask141:Sk:=⟨[(0, .d (.ag (.pr .bo .st))),(1, .d (.ag (.pr .bo .st)))],[]⟩
noncomputable def rsk141:Sk:=⟨[(0, .d (.ag (.pr .bo .st)))],[]⟩
abbrev R141:Type:=TI
noncomputable def enc141:R141→rsk141.T:=fun o=>(((o.1,o.2),()),())
noncomputable def dec141:rsk141.T→R141:=fun s=>(s.1.1.1,s.1.1.2)
noncomputable def fe141 (F:TI→TI→Option R141):FE:=⟨141,ask141,rsk141,R141,fun s=>F s.1.1 s.1.2.1,enc141⟩
noncomputable def ask142:Sk:=⟨[(0, .d (.ag (.pr .bo .st)))],[]⟩
noncomputable def rsk142:Sk:=⟨[(0, .d (.ag (.pr .bo .st)))],[]⟩
abbrev R142:Type:=TI
noncomputable def enc142:R142→rsk142.T:=fun o=>(((o.1,o.2),()),())
noncomputable def dec142:rsk142.T→R142:=fun s=>(s.1.1.1,s.1.1.2)
noncomputable def fe142 (F:TI→Option R142):FE:=⟨142,ask142,rsk142,R142,fun s=>F s.1.1,enc142⟩
noncomputable def ask143:Sk:=⟨[(0, .d .bo),(1, .d .st)],[]⟩
noncomputable def rsk143:Sk:=⟨[(0, .d (.ag (.pr .bo .st)))],[]⟩
abbrev R143:Type:=TI
noncomputable def enc143:R143→rsk143.T:=fun o=>(((o.1,o.2),()),())
noncomputable def dec143:rsk143.T→R143:=fun s=>(s.1.1.1,s.1.1.2)
noncomputable def fe143 (F:Bool→ByteArray→Option R143):FE:=⟨143,ask143,rsk143,R143,fun s=>F s.1.1 s.1.2.1,enc143⟩
noncomputable def ask144:Sk:=⟨[(0, .d .st),(1, .d .st)],[]⟩
noncomputable def rsk144:Sk:=⟨[(0, .d .st)],[]⟩
abbrev R144:Type:=ByteArray
noncomputable def enc144:R144→rsk144.T:=fun o=>((o,()),())
noncomputable def dec144:rsk144.T→R144:=fun s=>s.1.1
noncomputable def fe144 (F:ByteArray→ByteArray→Option R144):FE:=⟨144,ask144,rsk144,R144,fun s=>F s.1.1 s.1.2.1,enc144⟩
noncomputable def ask145:Sk:=⟨[(0, .d .st)],[]⟩
noncomputable def rsk145:Sk:=⟨[(0, .d (.it .u64)),(1, .d .bo)],[]⟩
abbrev R145:Type:=(Int×Bool)
noncomputable def enc145:R145→rsk145.T:=fun o=>((o.1,o.2,()),())
noncomputable def dec145:rsk145.T→R145:=fun s=>(s.1.1,s.1.2.1)
noncomputable def fe145 (F:ByteArray→Option R145):FE:=⟨145,ask145,rsk145,R145,fun s=>F s.1.1,enc145⟩
noncomputable def ask146:Sk:=⟨[(0, .d .st),(1, .d .st)],[]⟩
noncomputable def rsk146:Sk:=⟨[(0, .d .st)],[]⟩
abbrev R146:Type:=ByteArray
noncomputable def enc146:R146→rsk146.T:=fun o=>((o,()),())
noncomputable def dec146:rsk146.T→R146:=fun s=>s.1.1
noncomputable def fe146 (F:ByteArray→ByteArray→Option R146):FE:=⟨146,ask146,rsk146,R146,fun s=>F s.1.1 s.1.2.1,enc146⟩
noncomputable def ask147:Sk:=⟨[(0, .d .st),(1, .d .st)],[]⟩
noncomputable def rsk147:Sk:=⟨[(0, .d .st),(1, .d .st)],[]⟩
abbrev R147:Type:=(ByteArray×ByteArray)
noncomputable def enc147:R147→rsk147.T:=fun o=>((o.1,o.2,()),())
noncomputable def dec147:rsk147.T→R147:=fun s=>(s.1.1,s.1.2.1)
noncomputable def fe147 (F:ByteArray→ByteArray→Option R147):FE:=⟨147,ask147,rsk147,R147,fun s=>F s.1.1 s.1.2.1,enc147⟩
noncomputable def ask148:Sk:=⟨[(0, .d .bo),(1, .d .st)],[]⟩
noncomputable def rsk148:Sk:=⟨[(0, .d (.ag (.pr .bo .st)))],[]⟩
abbrev R148:Type:=TI
noncomputable def enc148:R148→rsk148.T:=fun o=>(((o.1,o.2),()),())
noncomputable def dec148:rsk148.T→R148:=fun s=>(s.1.1.1,s.1.1.2)
noncomputable def fe148 (F:Bool→ByteArray→Option R148):FE:=⟨148,ask148,rsk148,R148,fun s=>F s.1.1 s.1.2.1,enc148⟩
noncomputable def ask149:Sk:=⟨[(0, .d .st),(1, .d .st)],[]⟩
noncomputable def rsk149:Sk:=⟨[(0, .d .st)],[]⟩
abbrev R149:Type:=ByteArray
noncomputable def enc149:R149→rsk149.T:=fun o=>((o,()),())
noncomputable def dec149:rsk149.T→R149:=fun s=>s.1.1
noncomputable def fe149 (F:ByteArray→ByteArray→Option R149):FE:=⟨149,ask149,rsk149,R149,fun s=>F s.1.1 s.1.2.1,enc149⟩
noncomputable def ask150:Sk:=⟨[(0, .d (.ag (.pr (.ag (.pr .bo .st)) .st)))],[]⟩
noncomputable def rsk150:Sk:=⟨[(0, .d (.it .i64))],[]⟩
abbrev R150:Type:=Int
noncomputable def enc150:R150→rsk150.T:=fun o=>((o,()),())
noncomputable def dec150:rsk150.T→R150:=fun s=>s.1.1
noncomputable def fe150 (F:TQ→Option R150):FE:=⟨150,ask150,rsk150,R150,fun s=>F s.1.1,enc150⟩
noncomputable def ask151:Sk:=⟨[(0, .d (.ag (.pr (.ag (.pr .bo .st)) .st))),(1, .d (.ag (.pr (.ag (.pr .bo .st)) .st))),(2, .d (.ag (.pr (.ag (.pr .bo .st)) .st)))],[]⟩
noncomputable def rsk151:Sk:=⟨[(0, .d .bo)],[]⟩
abbrev R151:Type:=Bool
noncomputable def enc151:R151→rsk151.T:=fun o=>((o,()),())
noncomputable def dec151:rsk151.T→R151:=fun s=>s.1.1
noncomputable def fe151 (F:TQ→TQ→TQ→Option R151):FE:=⟨151,ask151,rsk151,R151,fun s=>F s.1.1 s.1.2.1 s.1.2.2.1,enc151⟩
noncomputable def ask152:Sk:=⟨[(0, .d (.ag (.pr (.ag (.pr .bo .st)) .st))),(1, .d (.ag (.pr (.ag (.pr .bo .st)) .st))),(2, .d (.ag (.pr (.ag (.pr .bo .st)) .st)))],[]⟩
noncomputable def rsk152:Sk:=⟨[(0, .d .bo)],[]⟩
abbrev R152:Type:=Bool
noncomputable def enc152:R152→rsk152.T:=fun o=>((o,()),())
noncomputable def dec152:rsk152.T→R152:=fun s=>s.1.1
noncomputable def fe152 (F:TQ→TQ→TQ→Option R152):FE:=⟨152,ask152,rsk152,R152,fun s=>F s.1.1 s.1.2.1 s.1.2.2.1,enc152⟩
noncomputable def ask153:Sk:=⟨[(0, .d (.ag (.pr (.ag (.pr .bo .st)) .st))),(1, .d (.ag (.pr (.ag (.pr .bo .st)) .st))),(2, .d (.ag (.pr (.ag (.pr .bo .st)) .st)))],[]⟩
noncomputable def rsk153:Sk:=⟨[(0, .d .bo)],[]⟩
abbrev R153:Type:=Bool
noncomputable def enc153:R153→rsk153.T:=fun o=>((o,()),())
noncomputable def dec153:rsk153.T→R153:=fun s=>s.1.1
noncomputable def fe153 (F:TQ→TQ→TQ→Option R153):FE:=⟨153,ask153,rsk153,R153,fun s=>F s.1.1 s.1.2.1 s.1.2.2.1,enc153⟩
noncomputable def ask154:Sk:=⟨[(0, .d (.ag (.pr (.ag (.pr .bo .st)) .st))),(1, .d (.ag (.pr (.ag (.pr .bo .st)) .st))),(2, .d (.ag (.pr (.ag (.pr .bo .st)) .st)))],[]⟩
noncomputable def rsk154:Sk:=⟨[(0, .d .bo)],[]⟩
abbrev R154:Type:=Bool
noncomputable def enc154:R154→rsk154.T:=fun o=>((o,()),())
noncomputable def dec154:rsk154.T→R154:=fun s=>s.1.1
noncomputable def fe154 (F:TQ→TQ→TQ→Option R154):FE:=⟨154,ask154,rsk154,R154,fun s=>F s.1.1 s.1.2.1 s.1.2.2.1,enc154⟩
noncomputable def ask155:Sk:=⟨[(0, .d (.ag (.pr .bo .st)))],[]⟩
noncomputable def rsk155:Sk:=⟨[(0, .d (.ag (.pr .bo .st))),(1, .d .bo)],[]⟩
abbrev R155:Type:=(Bool×ByteArray×Bool)
noncomputable def enc155:R155→rsk155.T:=fun o=>(((o.1,o.2.1),o.2.2,()),())
noncomputable def dec155:rsk155.T→R155:=fun s=>(s.1.1.1,s.1.1.2,s.1.2.1)
noncomputable def fe155 (F:TI→Option R155):FE:=⟨155,ask155,rsk155,R155,fun s=>F s.1.1,enc155⟩
noncomputable def ask156:Sk:=⟨[(0, .d (.ag (.pr (.ag (.pr .bo .st)) .st))),(1, .d (.ag (.pr (.ag (.pr .bo .st)) .st)))],[]⟩
noncomputable def rsk156:Sk:=⟨[(0, .d (.ag (.pr (.ag (.pr .bo .st)) .st)))],[]⟩
abbrev R156:Type:=TQ
noncomputable def enc156:R156→rsk156.T:=fun o=>(((o.1,o.2),()),())
noncomputable def dec156:rsk156.T→R156:=fun s=>(s.1.1.1,s.1.1.2)
noncomputable def fe156 (F:TQ→TQ→Option R156):FE:=⟨156,ask156,rsk156,R156,fun s=>F s.1.1 s.1.2.1,enc156⟩
noncomputable def ask157:Sk:=⟨[(0, .d (.ag (.pr .bo .st)))],[]⟩
noncomputable def rsk157:Sk:=⟨[(0, .d (.it .i64))],[]⟩
abbrev R157:Type:=Int
noncomputable def enc157:R157→rsk157.T:=fun o=>((o,()),())
noncomputable def dec157:rsk157.T→R157:=fun s=>s.1.1
noncomputable def fe157 (F:TI→Option R157):FE:=⟨157,ask157,rsk157,R157,fun s=>F s.1.1,enc157⟩
noncomputable def ask158:Sk:=⟨[(0, .d (.ag (.pr (.ag (.pr .bo .st)) .st)))],[]⟩
noncomputable def rsk158:Sk:=⟨[(0, .d .bo)],[]⟩
abbrev R158:Type:=Bool
noncomputable def enc158:R158→rsk158.T:=fun o=>((o,()),())
noncomputable def dec158:rsk158.T→R158:=fun s=>s.1.1
noncomputable def fe158 (F:TQ→Option R158):FE:=⟨158,ask158,rsk158,R158,fun s=>F s.1.1,enc158⟩
noncomputable def ask159:Sk:=⟨[(0, .d (.ag (.pr .bo .st)))],[]⟩
noncomputable def rsk159:Sk:=⟨[(0, .d (.ag (.pr (.ag (.pr .bo .st)) .st)))],[]⟩
abbrev R159:Type:=TQ
noncomputable def enc159:R159→rsk159.T:=fun o=>(((o.1,o.2),()),())
noncomputable def dec159:rsk159.T→R159:=fun s=>(s.1.1.1,s.1.1.2)
noncomputable def fe159 (F:TI→Option R159):FE:=⟨159,ask159,rsk159,R159,fun s=>F s.1.1,enc159⟩
noncomputable def ask160:Sk:=⟨[(0, .d (.ag (.pr .bo .st))),(1, .d (.ag (.pr .bo .st)))],[]⟩
noncomputable def rsk160:Sk:=⟨[(0, .d (.ag (.pr (.ag (.pr .bo .st)) .st)))],[]⟩
abbrev R160:Type:=TQ
noncomputable def enc160:R160→rsk160.T:=fun o=>(((o.1,o.2),()),())
noncomputable def dec160:rsk160.T→R160:=fun s=>(s.1.1.1,s.1.1.2)
noncomputable def fe160 (F:TI→TI→Option R160):FE:=⟨160,ask160,rsk160,R160,fun s=>F s.1.1 s.1.2.1,enc160⟩
noncomputable def ask161:Sk:=⟨[(0, .d .st),(1, .d .st)],[]⟩
noncomputable def rsk161:Sk:=⟨[(0, .d .st)],[]⟩
abbrev R161:Type:=ByteArray
noncomputable def enc161:R161→rsk161.T:=fun o=>((o,()),())
noncomputable def dec161:rsk161.T→R161:=fun s=>s.1.1
noncomputable def fe161 (F:ByteArray→ByteArray→Option R161):FE:=⟨161,ask161,rsk161,R161,fun s=>F s.1.1 s.1.2.1,enc161⟩
noncomputable def ask162:Sk:=⟨[(0, .d .st),(1, .d .st)],[]⟩
noncomputable def rsk162:Sk:=⟨[(0, .d (.it .i64))],[]⟩
abbrev R162:Type:=Int
noncomputable def enc162:R162→rsk162.T:=fun o=>((o,()),())
noncomputable def dec162:rsk162.T→R162:=fun s=>s.1.1
noncomputable def fe162 (F:ByteArray→ByteArray→Option R162):FE:=⟨162,ask162,rsk162,R162,fun s=>F s.1.1 s.1.2.1,enc162⟩
noncomputable def ask163:Sk:=⟨[(0, .d .st),(1, .d .st)],[]⟩
noncomputable def rsk163:Sk:=⟨[(0, .d .st)],[]⟩
abbrev R163:Type:=ByteArray
noncomputable def enc163:R163→rsk163.T:=fun o=>((o,()),())
noncomputable def dec163:rsk163.T→R163:=fun s=>s.1.1
noncomputable def fe163 (F:ByteArray→ByteArray→Option R163):FE:=⟨163,ask163,rsk163,R163,fun s=>F s.1.1 s.1.2.1,enc163⟩
noncomputable def ask164:Sk:=⟨[(0, .d (.ag (.pr .bo .st)))],[]⟩
noncomputable def rsk164:Sk:=⟨[(0, .d (.ag (.pr .bo .st)))],[]⟩
abbrev R164:Type:=TI
noncomputable def enc164:R164→rsk164.T:=fun o=>(((o.1,o.2),()),())
noncomputable def dec164:rsk164.T→R164:=fun s=>(s.1.1.1,s.1.1.2)
noncomputable def fe164 (F:TI→Option R164):FE:=⟨164,ask164,rsk164,R164,fun s=>F s.1.1,enc164⟩
noncomputable def ask165:Sk:=⟨[(0, .d (.ag (.pr (.ag (.pr .bo .st)) .st)))],[]⟩
noncomputable def rsk165:Sk:=⟨[(0, .d (.ag (.pr (.ag (.pr .bo .st)) .st)))],[]⟩
abbrev R165:Type:=TQ
noncomputable def enc165:R165→rsk165.T:=fun o=>(((o.1,o.2),()),())
noncomputable def dec165:rsk165.T→R165:=fun s=>(s.1.1.1,s.1.1.2)
noncomputable def fe165 (F:TQ→Option R165):FE:=⟨165,ask165,rsk165,R165,fun s=>F s.1.1,enc165⟩
noncomputable def ask166:Sk:=⟨[(0, .d (.ag (.pr (.ag (.pr .bo .st)) .st))),(1, .d (.ag (.pr (.ag (.pr .bo .st)) .st)))],[]⟩
noncomputable def rsk166:Sk:=⟨[(0, .d (.it .i64))],[]⟩
abbrev R166:Type:=Int
noncomputable def enc166:R166→rsk166.T:=fun o=>((o,()),())
noncomputable def dec166:rsk166.T→R166:=fun s=>s.1.1
noncomputable def fe166 (F:TQ→TQ→Option R166):FE:=⟨166,ask166,rsk166,R166,fun s=>F s.1.1 s.1.2.1,enc166⟩
noncomputable def ask180:Sk:=⟨[(0, .d (.li (.it .u64)))],[]⟩
noncomputable def rsk180:Sk:=⟨[(0, .d .st)],[]⟩
abbrev R180:Type:=ByteArray
noncomputable def enc180:R180→rsk180.T:=fun o=>((o,()),())
noncomputable def dec180:rsk180.T→R180:=fun s=>s.1.1
noncomputable def fe180 (F:(List Int)→Option R180):FE:=⟨180,ask180,rsk180,R180,fun s=>F s.1.1,enc180⟩
noncomputable def ask187:Sk:=⟨[(0, .d .st),(1, .d .st)],[]⟩
noncomputable def rsk187:Sk:=⟨[(0, .d .st)],[]⟩
abbrev R187:Type:=ByteArray
noncomputable def enc187:R187→rsk187.T:=fun o=>((o,()),())
noncomputable def dec187:rsk187.T→R187:=fun s=>s.1.1
noncomputable def fe187 (F:ByteArray→ByteArray→Option R187):FE:=⟨187,ask187,rsk187,R187,fun s=>F s.1.1 s.1.2.1,enc187⟩
noncomputable def ask188:Sk:=⟨[(0, .d .st),(1, .d (.it .i64))],[]⟩
noncomputable def rsk188:Sk:=⟨[(0, .d .st)],[]⟩
abbrev R188:Type:=ByteArray
noncomputable def enc188:R188→rsk188.T:=fun o=>((o,()),())
noncomputable def dec188:rsk188.T→R188:=fun s=>s.1.1
noncomputable def fe188 (F:ByteArray→Int→Option R188):FE:=⟨188,ask188,rsk188,R188,fun s=>F s.1.1 s.1.2.1,enc188⟩
noncomputable def ask189:Sk:=⟨[(0, .d .st),(1, .d .st)],[]⟩
noncomputable def rsk189:Sk:=⟨[(0, .d .st),(1, .d .st)],[]⟩
abbrev R189:Type:=(ByteArray×ByteArray)
noncomputable def enc189:R189→rsk189.T:=fun o=>((o.1,o.2,()),())
noncomputable def dec189:rsk189.T→R189:=fun s=>(s.1.1,s.1.2.1)
noncomputable def fe189 (F:ByteArray→ByteArray→Option R189):FE:=⟨189,ask189,rsk189,R189,fun s=>F s.1.1 s.1.2.1,enc189⟩
noncomputable def ask192:Sk:=⟨[(0, .d (.li (.it .u64)))],[]⟩
noncomputable def rsk192:Sk:=⟨[(0, .d .st)],[]⟩
abbrev R192:Type:=ByteArray
noncomputable def enc192:R192→rsk192.T:=fun o=>((o,()),())
noncomputable def dec192:rsk192.T→R192:=fun s=>s.1.1
noncomputable def fe192 (F:(List Int)→Option R192):FE:=⟨192,ask192,rsk192,R192,fun s=>F s.1.1,enc192⟩
noncomputable def ask197:Sk:=⟨[(0, .d (.it .i64))],[]⟩
noncomputable def rsk197:Sk:=⟨[(0, .d (.li (.it .i64)))],[]⟩
abbrev R197:Type:=(List Int)
noncomputable def enc197:R197→rsk197.T:=fun o=>((o,()),())
noncomputable def dec197:rsk197.T→R197:=fun s=>s.1.1
noncomputable def fe197 (F:Int→Option R197):FE:=⟨197,ask197,rsk197,R197,fun s=>F s.1.1,enc197⟩
noncomputable def ask200:Sk:=⟨[(0, .d (.it .i64)),(1, .d (.it .i64))],[]⟩
noncomputable def rsk200:Sk:=⟨[(0, .d (.it .i64))],[]⟩
abbrev R200:Type:=Int
noncomputable def enc200:R200→rsk200.T:=fun o=>((o,()),())
noncomputable def dec200:rsk200.T→R200:=fun s=>s.1.1
noncomputable def fe200 (F:Int→Int→Option R200):FE:=⟨200,ask200,rsk200,R200,fun s=>F s.1.1 s.1.2.1,enc200⟩
noncomputable def ask201:Sk:=⟨[(0, .d (.li (.it .i64)))],[]⟩
noncomputable def rsk201:Sk:=⟨[(0, .d (.li (.ag (.pr (.ag (.pr .bo .st)) .st))))],[]⟩
abbrev R201:Type:=(List TQ)
noncomputable def enc201:R201→rsk201.T:=fun o=>((o,()),())
noncomputable def dec201:rsk201.T→R201:=fun s=>s.1.1
noncomputable def fe201 (F:(List Int)→Option R201):FE:=⟨201,ask201,rsk201,R201,fun s=>F s.1.1,enc201⟩
noncomputable def ask202:Sk:=⟨[(0, .d (.it .i64))],[]⟩
noncomputable def rsk202:Sk:=⟨[(0, .d (.li (.it .i64)))],[]⟩
abbrev R202:Type:=(List Int)
noncomputable def enc202:R202→rsk202.T:=fun o=>((o,()),())
noncomputable def dec202:rsk202.T→R202:=fun s=>s.1.1
noncomputable def fe202 (F:Int→Option R202):FE:=⟨202,ask202,rsk202,R202,fun s=>F s.1.1,enc202⟩
noncomputable def ask213:Sk:=⟨[(0, .d (.ag (.pr (.ag (.pr .bo .st)) .st)))],[]⟩
noncomputable def rsk213:Sk:=⟨[(0, .d (.it .i64))],[]⟩
abbrev R213:Type:=Int
noncomputable def enc213:R213→rsk213.T:=fun o=>((o,()),())
noncomputable def dec213:rsk213.T→R213:=fun s=>s.1.1
noncomputable def fe213 (F:TQ→Option R213):FE:=⟨213,ask213,rsk213,R213,fun s=>F s.1.1,enc213⟩
noncomputable def ask217:Sk:=⟨[(0, .d .st),(1, .d .st)],[]⟩
noncomputable def rsk217:Sk:=⟨[(0, .d .st)],[]⟩
abbrev R217:Type:=ByteArray
noncomputable def enc217:R217→rsk217.T:=fun o=>((o,()),())
noncomputable def dec217:rsk217.T→R217:=fun s=>s.1.1
noncomputable def fe217 (F:ByteArray→ByteArray→Option R217):FE:=⟨217,ask217,rsk217,R217,fun s=>F s.1.1 s.1.2.1,enc217⟩
noncomputable def ask218:Sk:=⟨[(0, .d .st),(1, .d .st)],[]⟩
noncomputable def rsk218:Sk:=⟨[(0, .d (.it .i64))],[]⟩
abbrev R218:Type:=Int
noncomputable def enc218:R218→rsk218.T:=fun o=>((o,()),())
noncomputable def dec218:rsk218.T→R218:=fun s=>s.1.1
noncomputable def fe218 (F:ByteArray→ByteArray→Option R218):FE:=⟨218,ask218,rsk218,R218,fun s=>F s.1.1 s.1.2.1,enc218⟩
noncomputable def ask219:Sk:=⟨[(0, .d (.li (.it .u64))),(1, .d (.li (.it .u64)))],[]⟩
noncomputable def rsk219:Sk:=⟨[(0, .d (.li (.it .u64)))],[]⟩
abbrev R219:Type:=(List Int)
noncomputable def enc219:R219→rsk219.T:=fun o=>((o,()),())
noncomputable def dec219:rsk219.T→R219:=fun s=>s.1.1
noncomputable def fe219 (F:(List Int)→(List Int)→Option R219):FE:=⟨219,ask219,rsk219,R219,fun s=>F s.1.1 s.1.2.1,enc219⟩
noncomputable def ask220:Sk:=⟨[(0, .d .st)],[]⟩
noncomputable def rsk220:Sk:=⟨[(0, .f (.a (.ref 3000)))],[(3000, .own (.it .u64) true)]⟩
abbrev R220:Type:=(List Int)
noncomputable def enc220:R220→rsk220.T:=fun o=>((),(o,()))
noncomputable def dec220:rsk220.T→R220:=fun s=>s.2.1
noncomputable def fe220 (F:ByteArray→Option R220):FE:=⟨220,ask220,rsk220,R220,fun s=>F s.1.1,enc220⟩
noncomputable def ask221:Sk:=⟨[(0, .d .st)],[]⟩
noncomputable def rsk221:Sk:=⟨[(0, .f (.a (.ref 3000)))],[(3000, .own (.it .u64) true)]⟩
abbrev R221:Type:=(List Int)
noncomputable def enc221:R221→rsk221.T:=fun o=>((),(o,()))
noncomputable def dec221:rsk221.T→R221:=fun s=>s.2.1
noncomputable def fe221 (F:ByteArray→Option R221):FE:=⟨221,ask221,rsk221,R221,fun s=>F s.1.1,enc221⟩
noncomputable def ask222:Sk:=⟨[(0, .f (.a (.ref 2000))),(1, .d (.li (.it .u64)))],[(2000, .own (.it .u64) false)]⟩
noncomputable def rsk222:Sk:=⟨[(0, .d .bo)],[(2000, .own (.it .u64) false)]⟩
abbrev R222:Type:=(Bool×(List Int))
noncomputable def enc222:R222→rsk222.T:=fun o=>((o.1,()),(o.2,()))
noncomputable def dec222:rsk222.T→R222:=fun s=>(s.1.1,s.2.1)
noncomputable def fe222 (F:(List Int)→(List Int)→Option R222):FE:=⟨222,ask222,rsk222,R222,fun s=>F s.1.1 s.2.1,enc222⟩
noncomputable def ask223:Sk:=⟨[(0, .d (.ag (.pr .bo .st)))],[]⟩
noncomputable def rsk223:Sk:=⟨[(0, .d (.it .i64))],[]⟩
abbrev R223:Type:=Int
noncomputable def enc223:R223→rsk223.T:=fun o=>((o,()),())
noncomputable def dec223:rsk223.T→R223:=fun s=>s.1.1
noncomputable def fe223 (F:TI→Option R223):FE:=⟨223,ask223,rsk223,R223,fun s=>F s.1.1,enc223⟩
noncomputable def ask224:Sk:=⟨[(0, .d .st),(1, .d .st)],[]⟩
noncomputable def rsk224:Sk:=⟨[(0, .d .st)],[]⟩
abbrev R224:Type:=ByteArray
noncomputable def enc224:R224→rsk224.T:=fun o=>((o,()),())
noncomputable def dec224:rsk224.T→R224:=fun s=>s.1.1
noncomputable def fe224 (F:ByteArray→ByteArray→Option R224):FE:=⟨224,ask224,rsk224,R224,fun s=>F s.1.1 s.1.2.1,enc224⟩
noncomputable def ask225:Sk:=⟨[(0, .d .st),(1, .d (.it .i64))],[]⟩
noncomputable def rsk225:Sk:=⟨[(0, .d .st)],[]⟩
abbrev R225:Type:=ByteArray
noncomputable def enc225:R225→rsk225.T:=fun o=>((o,()),())
noncomputable def dec225:rsk225.T→R225:=fun s=>s.1.1
noncomputable def fe225 (F:ByteArray→Int→Option R225):FE:=⟨225,ask225,rsk225,R225,fun s=>F s.1.1 s.1.2.1,enc225⟩
noncomputable def ask226:Sk:=⟨[(0, .d (.ag (.pr .bo .st))),(1, .d (.ag (.pr .bo .st)))],[]⟩
noncomputable def rsk226:Sk:=⟨[(0, .d (.it .i64))],[]⟩
abbrev R226:Type:=Int
noncomputable def enc226:R226→rsk226.T:=fun o=>((o,()),())
noncomputable def dec226:rsk226.T→R226:=fun s=>s.1.1
noncomputable def fe226 (F:TI→TI→Option R226):FE:=⟨226,ask226,rsk226,R226,fun s=>F s.1.1 s.1.2.1,enc226⟩
noncomputable def ask232:Sk:=⟨[(0, .d (.it .u64)),(1, .d (.it .u64)),(2, .d (.it .u64))],[]⟩
noncomputable def rsk232:Sk:=⟨[(0, .d (.it .u64)),(1, .d (.it .u64))],[]⟩
abbrev R232:Type:=(Int×Int)
noncomputable def enc232:R232→rsk232.T:=fun o=>((o.1,o.2,()),())
noncomputable def fe232 (F:Int→Int→Int→Option R232):FE:=⟨232,ask232,rsk232,R232,fun s=>F s.1.1 s.1.2.1 s.1.2.2.1,enc232⟩
noncomputable def ask233:Sk:=⟨[(0, .d (.li (.it .u64))),(1, .d (.li (.it .u64)))],[]⟩
noncomputable def rsk233:Sk:=⟨[(0, .d (.li (.it .u64))),(1, .d (.li (.it .u64)))],[]⟩
abbrev R233:Type:=((List Int)×(List Int))
noncomputable def enc233:R233→rsk233.T:=fun o=>((o.1,o.2,()),())
noncomputable def dec233:rsk233.T→R233:=fun s=>(s.1.1,s.1.2.1)
noncomputable def fe233 (F:(List Int)→(List Int)→Option R233):FE:=⟨233,ask233,rsk233,R233,fun s=>F s.1.1 s.1.2.1,enc233⟩
noncomputable def ask234:Sk:=⟨[(0, .f (.a (.ref 2000)))],[(2000, .own (.it .u64) false)]⟩
noncomputable def rsk234:Sk:=⟨[(0, .pre 2000)],[(2000, .own (.it .u64) false)]⟩
abbrev R234:Type:=(Int×(List Int))
noncomputable def enc234:R234→rsk234.T:=fun o=>((o.1,()),(o.2,()))
noncomputable def dec234:rsk234.T→R234:=fun s=>(s.1.1,s.2.1)
noncomputable def fe234 (F:(List Int)→Option R234):FE:=⟨234,ask234,rsk234,R234,fun s=>F s.2.1,enc234⟩
noncomputable def ask234v:Sk:=⟨[(0, .d (.li (.it .u64)))],[]⟩
noncomputable def rsk234v:Sk:=⟨[(0, .d (.li (.it .u64)))],[]⟩
abbrev R234v:Type:=(List Int)
noncomputable def enc234v:R234v→rsk234v.T:=fun o=>((o,()),())
noncomputable def dec234v:rsk234v.T→R234v:=fun s=>s.1.1
noncomputable def fe234v (F:(List Int)→Option R234v):FE:=⟨234,ask234v,rsk234v,R234v,fun s=>F s.1.1,enc234v⟩
noncomputable def ask240:Sk:=⟨[(0, .d (.li (.it .i64))),(1, .d (.li (.li (.it .i64))))],[]⟩
noncomputable def rsk240:Sk:=⟨[(0, .d (.li (.it .i64)))],[]⟩
abbrev R240:Type:=(List Int)
noncomputable def enc240:R240→rsk240.T:=fun o=>((o,()),())
noncomputable def dec240:rsk240.T→R240:=fun s=>s.1.1
noncomputable def fe240 (F:(List Int)→(List (List Int))→Option R240):FE:=⟨240,ask240,rsk240,R240,fun s=>F s.1.1 s.1.2.1,enc240⟩
noncomputable def ask248:Sk:=⟨[(0, .d (.ag (.pr .bo .st)))],[]⟩
noncomputable def rsk248:Sk:=⟨[(0, .d (.it .i64))],[]⟩
abbrev R248:Type:=Int
noncomputable def enc248:R248→rsk248.T:=fun o=>((o,()),())
noncomputable def dec248:rsk248.T→R248:=fun s=>s.1.1
noncomputable def fe248 (F:TI→Option R248):FE:=⟨248,ask248,rsk248,R248,fun s=>F s.1.1,enc248⟩
noncomputable def ask251:Sk:=⟨[(0, .d (.it .u64)),(1, .d (.it .u64)),(2, .d (.it .u64))],[]⟩
noncomputable def rsk251:Sk:=⟨[(0, .d (.it .u64)),(1, .d (.it .u64))],[]⟩
abbrev R251:Type:=(Int×Int)
noncomputable def enc251:R251→rsk251.T:=fun o=>((o.1,o.2,()),())
noncomputable def fe251 (F:Int→Int→Int→Option R251):FE:=⟨251,ask251,rsk251,R251,fun s=>F s.1.1 s.1.2.1 s.1.2.2.1,enc251⟩
noncomputable def ask252:Sk:=⟨[(0, .d (.it .u64)),(1, .d (.it .u64))],[]⟩
noncomputable def rsk252:Sk:=⟨[(0, .d (.it .u64)),(1, .d (.it .u64))],[]⟩
abbrev R252:Type:=(Int×Int)
noncomputable def enc252:R252→rsk252.T:=fun o=>((o.1,o.2,()),())
noncomputable def dec252:rsk252.T→R252:=fun s=>(s.1.1,s.1.2.1)
noncomputable def fe252 (F:Int→Int→Option R252):FE:=⟨252,ask252,rsk252,R252,fun s=>F s.1.1 s.1.2.1,enc252⟩
noncomputable def ask253:Sk:=⟨[(0, .f (.a (.ref 2000)))],[(2000, .own (.it .u64) false)]⟩
noncomputable def rsk253:Sk:=⟨[(0, .pre 2000)],[(2000, .own (.it .u64) false)]⟩
abbrev R253:Type:=(Int×(List Int))
noncomputable def enc253:R253→rsk253.T:=fun o=>((o.1,()),(o.2,()))
noncomputable def dec253:rsk253.T→R253:=fun s=>(s.1.1,s.2.1)
noncomputable def fe253 (F:(List Int)→Option R253):FE:=⟨253,ask253,rsk253,R253,fun s=>F s.2.1,enc253⟩
noncomputable def ask254:Sk:=⟨[],[]⟩
noncomputable def rsk254:Sk:=⟨[(0, .d (.ag (.pr .bo .st)))],[]⟩
abbrev R254:Type:=TI
noncomputable def enc254:R254→rsk254.T:=fun o=>(((o.1,o.2),()),())
noncomputable def dec254:rsk254.T→R254:=fun s=>(s.1.1.1,s.1.1.2)
noncomputable def fe254 (F:Option R254):FE:=⟨254,ask254,rsk254,R254,fun s=>F,enc254⟩
noncomputable def ask255:Sk:=⟨[(0, .d .st)],[]⟩
noncomputable def rsk255:Sk:=⟨[(0, .d (.it .i64))],[]⟩
abbrev R255:Type:=Int
noncomputable def enc255:R255→rsk255.T:=fun o=>((o,()),())
noncomputable def dec255:rsk255.T→R255:=fun s=>s.1.1
noncomputable def fe255 (F:ByteArray→Option R255):FE:=⟨255,ask255,rsk255,R255,fun s=>F s.1.1,enc255⟩
noncomputable def ask256:Sk:=⟨[(0, .d (.it .i64))],[]⟩
noncomputable def rsk256:Sk:=⟨[(0, .d .st)],[]⟩
abbrev R256:Type:=ByteArray
noncomputable def enc256:R256→rsk256.T:=fun o=>((o,()),())
noncomputable def dec256:rsk256.T→R256:=fun s=>s.1.1
noncomputable def fe256 (F:Int→Option R256):FE:=⟨256,ask256,rsk256,R256,fun s=>F s.1.1,enc256⟩
noncomputable def ask259:Sk:=⟨[(0, .d (.li (.it .u64))),(1, .d (.li (.it .u64)))],[]⟩
noncomputable def rsk259:Sk:=⟨[(0, .d (.it .i64))],[]⟩
abbrev R259:Type:=Int
noncomputable def enc259:R259→rsk259.T:=fun o=>((o,()),())
noncomputable def dec259:rsk259.T→R259:=fun s=>s.1.1
noncomputable def fe259 (F:(List Int)→(List Int)→Option R259):FE:=⟨259,ask259,rsk259,R259,fun s=>F s.1.1 s.1.2.1,enc259⟩
noncomputable def ask260:Sk:=⟨[(0, .d (.it .u64)),(1, .d (.it .u64)),(2, .d (.it .u64))],[]⟩
noncomputable def rsk260:Sk:=⟨[(0, .d (.it .u64)),(1, .d (.it .u64))],[]⟩
abbrev R260:Type:=(Int×Int)
noncomputable def enc260:R260→rsk260.T:=fun o=>((o.1,o.2,()),())
noncomputable def dec260:rsk260.T→R260:=fun s=>(s.1.1,s.1.2.1)
noncomputable def fe260 (F:Int→Int→Int→Option R260):FE:=⟨260,ask260,rsk260,R260,fun s=>F s.1.1 s.1.2.1 s.1.2.2.1,enc260⟩
noncomputable def ask261:Sk:=⟨[(0, .d (.it .u64))],[]⟩
noncomputable def rsk261:Sk:=⟨[(0, .d (.it .i64))],[]⟩
abbrev R261:Type:=Int
noncomputable def enc261:R261→rsk261.T:=fun o=>((o,()),())
noncomputable def dec261:rsk261.T→R261:=fun s=>s.1.1
noncomputable def fe261 (F:Int→Option R261):FE:=⟨261,ask261,rsk261,R261,fun s=>F s.1.1,enc261⟩
noncomputable def ask262:Sk:=⟨[(0, .d (.li (.it .u64))),(1, .d (.it .i64))],[]⟩
noncomputable def rsk262:Sk:=⟨[(0, .f (.a (.ref 3000)))],[(3000, .own (.it .u64) true)]⟩
abbrev R262:Type:=(List Int)
noncomputable def enc262:R262→rsk262.T:=fun o=>((),(o,()))
noncomputable def dec262:rsk262.T→R262:=fun s=>s.2.1
noncomputable def fe262 (F:(List Int)→Int→Option R262):FE:=⟨262,ask262,rsk262,R262,fun s=>F s.1.1 s.1.2.1,enc262⟩
noncomputable def ask263:Sk:=⟨[(0, .f (.a (.ref 2000))),(1, .d (.li (.it .u64)))],[(2000, .own (.it .u64) false)]⟩
noncomputable def rsk263:Sk:=⟨[(0, .d (.it .u64))],[(2000, .own (.it .u64) false)]⟩
abbrev R263:Type:=(Int×(List Int))
noncomputable def enc263:R263→rsk263.T:=fun o=>((o.1,()),(o.2,()))
noncomputable def dec263:rsk263.T→R263:=fun s=>(s.1.1,s.2.1)
noncomputable def fe263 (F:(List Int)→(List Int)→Option R263):FE:=⟨263,ask263,rsk263,R263,fun s=>F s.1.1 s.2.1,enc263⟩
noncomputable def ask268:Sk:=⟨[(0, .d (.li (.it .i64)))],[]⟩
noncomputable def rsk268:Sk:=⟨[(0, .f (.a (.ref 3000)))],[(3000, .own (.it .i64) true)]⟩
abbrev R268:Type:=(List Int)
noncomputable def enc268:R268→rsk268.T:=fun o=>((),(o,()))
noncomputable def fe268 (F:(List Int)→Option R268):FE:=⟨268,ask268,rsk268,R268,fun s=>F s.1.1,enc268⟩
noncomputable def ask268m:Sk:=⟨[(0, .nv false (.it .i64))],[]⟩
noncomputable def rsk268m:Sk:=⟨[(0, .f (.a (.ref 3000)))],[(3000, .own (.it .i64) true)]⟩
abbrev R268m:Type:=(List Int)
noncomputable def enc268m:R268m→rsk268m.T:=fun o=>((),(o,()))
noncomputable def dec268m:rsk268m.T→R268m:=fun s=>s.2.1
noncomputable def fe268m (F:(List Int)→Option R268m):FE:=⟨268,ask268m,rsk268m,R268m,fun s=>F s.1.1,enc268m⟩
noncomputable def ask268n:Sk:=⟨[(0, .nv true (.it .i64))],[]⟩
noncomputable def rsk268n:Sk:=⟨[(0, .f (.a (.ref 3000)))],[(3000, .own (.it .i64) true)]⟩
abbrev R268n:Type:=(List Int)
noncomputable def enc268n:R268n→rsk268n.T:=fun o=>((),(o,()))
noncomputable def dec268n:rsk268n.T→R268n:=fun s=>s.2.1
noncomputable def fe268n (F:(List Int)→Option R268n):FE:=⟨268,ask268n,rsk268n,R268n,fun s=>F s.1.1,enc268n⟩
noncomputable def ask271:Sk:=⟨[(0, .d (.it .u8))],[]⟩
noncomputable def rsk271:Sk:=⟨[(0, .d (.it .i64))],[]⟩
abbrev R271:Type:=Int
noncomputable def enc271:R271→rsk271.T:=fun o=>((o,()),())
noncomputable def dec271:rsk271.T→R271:=fun s=>s.1.1
noncomputable def fe271 (F:Int→Option R271):FE:=⟨271,ask271,rsk271,R271,fun s=>F s.1.1,enc271⟩
noncomputable def ask272:Sk:=⟨[(0, .d (.it .u64))],[]⟩
noncomputable def rsk272:Sk:=⟨[(0, .d (.it .i64))],[]⟩
abbrev R272:Type:=Int
noncomputable def enc272:R272→rsk272.T:=fun o=>((o,()),())
noncomputable def dec272:rsk272.T→R272:=fun s=>s.1.1
noncomputable def fe272 (F:Int→Option R272):FE:=⟨272,ask272,rsk272,R272,fun s=>F s.1.1,enc272⟩
noncomputable def an49:Ann:=⟨[],[],[]⟩
noncomputable def cd49:Code:=(Tryz.f49.body).getD .skip
noncomputable def rm49:List RM:=[.d (.it .i64)]
noncomputable def les49:List (LoE R49):=[]
noncomputable def fes49:List FE:=[]
noncomputable def B49 (x0:Int):Option R49:=if x0>100000 then(some 4)else(if x0<(-100000)then(some 4)else(some 0))
theorem e49 (s:ask49.T):evFn E0 (orcOf (fes49)) an49 (loOf (les49)) 9 cd49 Tryz.f49.results.toList rm49 (ask49.mk' s) (decW rsk49 dec49)=B49 s.1.1:=by kernel_rfl
noncomputable def an136:Ann:=⟨[],[],[]⟩
noncomputable def cd136:Code:=(Tryz.f136.body).getD .skip
noncomputable def rm136:List RM:=[.d (.it .i64)]
noncomputable def les136:List (LoE R136):=[]
noncomputable def fes136:List FE:=[]
noncomputable def B136 (x0:Int):Option R136:=some (mx x0 (wrap64 (0-x0)))
theorem e136 (s:ask136.T):evFn E0 (orcOf (fes136)) an136 (loOf (les136)) 7 cd136 Tryz.f136.results.toList rm136 (ask136.mk' s) (decW rsk136 dec136)=B136 s.1.1:=by kernel_rfl
noncomputable def an50:Ann:=⟨[(3,[(4, .any),(5, .any),(6, .any)]),(5,[(4, .any),(5, .any),(6, .any)])],[],[]⟩
noncomputable def cd50:Code:=(Tryz.f50.body).getD .skip
noncomputable def p50:List Pos:=posns an50 [] cd50
noncomputable def rm50:List RM:=[.d (.it .i64), .d (.it .i64)]
noncomputable def rk50 (s0:SbT ask50.bl):KX R50:=retK E0 Tryz.f50.results.toList rm50 (mkB ask50.bl s0) (decW rsk50 dec50)
noncomputable def k50l0:Sk:=⟨[(4, .d (.it .i64)),(5, .d (.it .i64)),(6, .d (.it .i64))],[]⟩
noncomputable def k50l1:Sk:=⟨[(4, .d (.it .i64)),(5, .d (.it .i64)),(6, .d (.it .i64))],[]⟩
noncomputable def les50 (gl0:Int→Int→Int→Option R50) (gl1:Int→Int→Int→Option R50):List (LoE R50):=[⟨3,k50l0,fun s=>gl0 s.1.1 s.1.2.1 s.1.2.2.1⟩,⟨5,k50l1,fun s=>gl1 s.1.1 s.1.2.1 s.1.2.2.1⟩]
noncomputable def fes50 (c136:Int→Option R136):List FE:=[(fe136 c136)]
section
variable (gl0:Int→Int→Int→Option R50) (gl1:Int→Int→Int→Option R50) (c136:Int→Option R136)
noncomputable def B50l0 (x4:Int) (x5:Int) (x6:Int):Option R50:=(c136 x4).bind fun r1=>(if wrap64 (x6*x6)≤r1 then(gl1 x4 x5 x6)else(some (x4,x5)))
theorem e50l0 (s0:SbT ask50.bl) (s:k50l0.T):evPos E0 (orcOf (fes50 c136)) 32 an50 (loOf (les50 gl0 gl1)) (rk50 s0) (p50.getD 0 ⟨0,[], .skip⟩) (k50l0.mk' s)=B50l0 gl1 c136 s.1.1 s.1.2.1 s.1.2.2.1:=by kernel_rfl
noncomputable def B50l1 (x4:Int) (x5:Int) (x6:Int):Option R50:=if wrap64 (x6*x6)=0 then(none)else(if Int.tmod x4 (wrap64 (x6*x6))=0 then(if wrap64 (x6*x6)=0 then(none)else(gl1 (wrap64 (Int.tdiv x4 (wrap64 (x6*x6)))) (wrap64 (x5*x6)) x6))else(gl0 x4 x5 (wrap64 (x6+1))))
theorem e50l1 (s0:SbT ask50.bl) (s:k50l1.T):evPos E0 (orcOf (fes50 c136)) 32 an50 (loOf (les50 gl0 gl1)) (rk50 s0) (p50.getD 1 ⟨0,[], .skip⟩) (k50l1.mk' s)=B50l1 gl0 gl1 s.1.1 s.1.2.1 s.1.2.2.1:=by kernel_rfl
noncomputable def B50 (x0:Int):Option R50:=gl0 x0 1 2
theorem e50 (s:ask50.T):evFn E0 (orcOf (fes50 c136)) an50 (loOf (les50 gl0 gl1)) 32 cd50 Tryz.f50.results.toList rm50 (ask50.mk' s) (decW rsk50 dec50)=B50 gl0 s.1.1:=by kernel_rfl
end
noncomputable def an51:Ann:=⟨[],[],[]⟩
noncomputable def cd51:Code:=(Tryz.f51.body).getD .skip
noncomputable def rm51:List RM:=[.d (.it .i64)]
noncomputable def les51:List (LoE R51):=[]
noncomputable def fes51:List FE:=[]
noncomputable def B51 (x0:Int) (x1:Int):Option R51:=if x1=0 then(none)else(if x1=0 then(none)else(some (Int.tmod (wrap64 ((Int.tmod x0 x1)+x1)) x1)))
theorem e51 (s:ask51.T):evFn E0 (orcOf (fes51)) an51 (loOf (les51)) 12 cd51 Tryz.f51.results.toList rm51 (ask51.mk' s) (decW rsk51 dec51)=B51 s.1.1 s.1.2.1:=by kernel_rfl
noncomputable def an7:Ann:=⟨[],[],[]⟩
noncomputable def cd7:Code:=(Tryz.f7.body).getD .skip
noncomputable def rm7:List RM:=[.d .bo]
noncomputable def les7:List (LoE R7):=[]
noncomputable def fes7 (c49:Int→Option R49) (c50:Int→Option R50) (c51:Int→Int→Option R51):List FE:=[(fe49 c49),(fe50 c50),(fe51 c51)]
section
variable (c49:Int→Option R49) (c50:Int→Option R50) (c51:Int→Int→Option R51)
noncomputable def B7 (x0:Int):Option R7:=(c49 x0).bind fun r1=>(if r1≠0 then(some false)else(if x0=0 then(some false)else(if x0=1 then(some false)else((c50 x0).bind fun r2=>((c51 x0 4).bind fun r3=>(if r3=1 then(some (decide (r2.2=1)))else((c51 x0 4).bind fun r4=>(if r4≠0 then(some false)else(if(4:Int)=0 then(none)else((c50 (wrap64 (Int.tdiv x0 4))).bind fun r5=>(if r5.2=1 then((c51 r5.1 4).bind fun r6=>(some (decide (r6≠1))))else(some false))))))))))))
theorem e7 (s:ask7.T):evFn E0 (orcOf (fes7 c49 c50 c51)) an7 (loOf (les7)) 44 cd7 Tryz.f7.results.toList rm7 (ask7.mk' s) (decW rsk7 dec7)=B7 c49 c50 c51 s.1.1:=by kernel_rfl
end
noncomputable def an40:Ann:=⟨[(4,[(0, .any),(1, .any),(12, .any),(13, .any)])],[],[]⟩
noncomputable def cd40:Code:=(Tryz.f40.body).getD .skip
noncomputable def p40:List Pos:=posns an40 [] cd40
noncomputable def rm40:List RM:=[.d .bo]
noncomputable def rk40 (s0:SbT ask40.bl):KX R40:=retK E0 Tryz.f40.results.toList rm40 (mkB ask40.bl s0) (decW rsk40 dec40)
noncomputable def k40l0:Sk:=⟨[(0, .d (.li (.ag (.pr (.ag (.pr .bo .st)) .st)))),(1, .d (.li (.ag (.pr (.ag (.pr .bo .st)) .st)))),(12, .d (.it .i64)),(13, .d (.it .i64))],[]⟩
noncomputable def les40 (gl0:(List TQ)→(List TQ)→Int→Int→Option R40):List (LoE R40):=[⟨4,k40l0,fun s=>gl0 s.1.1 s.1.2.1 s.1.2.2.1 s.1.2.2.2.1⟩]
noncomputable def fes40:List FE:=[]
section
variable (gl0:(List TQ)→(List TQ)→Int→Int→Option R40)
noncomputable def B40l0 (x0:(List TQ)) (x1:(List TQ)) (x12:Int) (x13:Int):Option R40:=if x13<x12 then(if 0≤x13 then(if x13<(x0.length:Int)then(if 0≤x13 then(if x13<(x1.length:Int)then(cnd ((!((((((rdOf ((false,(⟨#[]⟩:ByteArray)),(⟨#[]⟩:ByteArray)) x0 x13).1).1)==(((rdOf ((false,(⟨#[]⟩:ByteArray)),(⟨#[]⟩:ByteArray)) x1 x13).1).1))&&(eqS (((rdOf ((false,(⟨#[]⟩:ByteArray)),(⟨#[]⟩:ByteArray)) x0 x13).1).2) (((rdOf ((false,(⟨#[]⟩:ByteArray)),(⟨#[]⟩:ByteArray)) x1 x13).1).2)))&&(eqS ((rdOf ((false,(⟨#[]⟩:ByteArray)),(⟨#[]⟩:ByteArray)) x0 x13).2) ((rdOf ((false,(⟨#[]⟩:ByteArray)),(⟨#[]⟩:ByteArray)) x1 x13).2))))) (some false) (gl0 x0 x1 x12 (wrap64 (x13+1))))else(none))else(none))else(none))else(none))else(some true)
theorem e40l0 (s0:SbT ask40.bl) (s:k40l0.T):evPos E0 (orcOf (fes40)) 26 an40 (loOf (les40 gl0)) (rk40 s0) (p40.getD 0 ⟨0,[], .skip⟩) (k40l0.mk' s)=B40l0 gl0 s.1.1 s.1.2.1 s.1.2.2.1 s.1.2.2.2.1:=by kernel_rfl
noncomputable def B40 (x0:(List TQ)) (x1:(List TQ)):Option R40:=if(x0.length:Int)≠(x1.length:Int)then(some false)else(gl0 x0 x1 (x0.length:Int) 0)
theorem e40 (s:ask40.T):evFn E0 (orcOf (fes40)) an40 (loOf (les40 gl0)) 26 cd40 Tryz.f40.results.toList rm40 (ask40.mk' s) (decW rsk40 dec40)=B40 gl0 s.1.1 s.1.2.1:=by kernel_rfl
end
end Go.Proofs.YtfllafbphddooaaGreatV
