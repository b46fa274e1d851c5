/- Part of the proof of the statement FieldpolyShifts: lemmas on the model's steps, Lean functions that say what the program's functions compute, and proofs that the calls do just that. No hypothesis is added. -/
import Derived.Test.YtijohnkgomcdbaaGreatKFieldpolyShifts0
import Derived.Test.YtijohnkgomcdbaaGreatKFieldpolyShiftsb
import Derived.Laws.Externs
import Derived.Shelf.Spec.BitsCarry
import Derived.Lib.Strings
import Derived.Lib.Slices
import Derived.Lib.Small
import Derived.Lib.Walk
import Derived.Lib.BitFns
import Derived.Test.YtijohnkgomcdbaaGreatProg
import Derived.Laws.BitsLemmas
import Derived.Lib.ItoaNum
import Derived.Orders
import Derived.RowKit
import Derived.Laws.Entries
import Derived.Below
import Derived.Laws.IdiomCopy
import Derived.Laws.Cells
import Derived.Laws.World
import Derived.Laws.StructEq
import Derived.Laws.Append
import Derived.Laws.MakeOwn
import Derived.Laws.BytesArg
import Derived.ArgAppend
import Derived.Laws.Strings
import Derived.Great.BuildSlice
import Derived.OrdersIn
import Derived.ControlIn
import Derived.Scope
import Derived.KernelRfl
import Derived.Lib.Bytealg
import Derived.Test.YtijohnkgomcdbaaGreatChecked
import Derived.Lib.SmallJoins
import Derived.ChangeSame
import Derived.Deep.Slices
import Derived.ProofKit
import Derived.WalkKit
import Derived.OpenShut
import Derived.ShutString
import Derived.ChangeOld
import Derived.SizedLaws
import Derived.WideKeyArgs
set_option linter.all false
namespace Go.Proofs.YtijohnkgomcdbaaGreatX
open Go.RowKit Go.Proofs.YtijohnkgomcdbaaGreatW.PrintWords Go.Proofs.YtijohnkgomcdbaaGreatW.PrintLast Go.Proofs.YtijohnkgomcdbaaGreatW.PrintMore
def C7m (P:Program) (f:FuncId) (args:Array Value) (w:World) (R:Ending→World→Prop):Prop:=
  ∃v w',(callFunc f args).run P w= .ok (.value v) w'∧R (.returned v) w'
theorem C7m.mono {P:Program} {f:FuncId} {args:Array Value} {w:World} {R R':Ending→World→Prop} (h:C7m P f args w R) (hi:∀e w',R e w'→R' e w'):C7m P f args w R':=by
  obtain⟨v,w',h1,h2⟩:=h
  exact⟨v,w',h1,hi _ _ h2⟩
def Kd.G (pre post:List Int) (co:Nat) (e:Nat) (w:World) (base:Nat) (ok:Nat→Prop) (v:Value) (xs:List Int):Prop:=
  ∃g c,v= .slice (some ⟨g,pre.length,none⟩) xs.length c∧0<xs.length∧xs.length≤c∧(Kd.int .u64).R e w base ok (.slice (some ⟨g,0,none⟩) (pre++xs++post).length co) (pre++xs++post)
section
variable {pre post:List Int} {co:Nat} {e:Nat} {w w1:World} {base:Nat} {ok ok':Nat→Prop} {v:Value} {xs:List Int}
def D5L (u:Value) (xs:List Int) (lo hi:Nat) (A:Option Addr) (n c:Nat):Prop:=∃Ao co,u= .slice Ao xs.length co∧A=(if co=lo then Ao else Ao.map (·.add (lo*1)))∧n=hi-lo∧n≤c∧lo≤hi∧hi≤xs.length
theorem D5L.mk {Ao A:Option Addr} {co c lo hi n:Nat} {xs:List Int} (h1:A=(if co=lo then Ao else Ao.map (·.add (lo*1)))) (h2:n=hi-lo) (h3:n≤c) (h4:lo≤hi) (h5:hi≤xs.length):D5L (.slice Ao xs.length co) xs lo hi A n c:=⟨Ao,co,rfl,h1,h2,h3,h4,h5⟩
end
end Go.Proofs.YtijohnkgomcdbaaGreatX
namespace Go.Proofs.YtijohnkgomcdbaaGreatN
open Go.Proofs.YtijohnkgomcdbaaGreatW.PrintWords
def vB (B:Int):List Int→Int
 | []=>0
 |x::xs=>x+B*vB B xs
def B7 (B:Int) (l:List Int):Prop:=∀x,x∈l→0≤x∧x<B
def A0e (l:List Int):Prop:=0<l.length→rd l (l.length-1:Nat)≠0
theorem v3 (B x:Int) (xs:List Int):vB B (x::xs)=x+B*vB B xs:=rfl
theorem A4M (B:Int):B7 B []:=fun _ h=>absurd h (List.not_mem_nil)
theorem A1P {B x:Int} {xs:List Int}:B7 B (x::xs)↔(0≤x∧x<B)∧B7 B xs:=by
 constructor
 ·intro h
  exact⟨h x (List.mem_cons_self),fun y hy=>h y (List.mem_cons_of_mem _ hy)⟩
 ·rintro⟨h1,h2⟩ y hy
  rcases List.mem_cons.1 hy with rfl|hy
  ·exact h1
  ·exact h2 y hy
theorem B3z {B:Int} {xs ys:List Int} (hx:B7 B xs) (hy:B7 B ys):B7 B (xs++ys):=by
 intro z hz
 rcases List.mem_append.1 hz with h|h
 ·exact hx z h
 ·exact hy z h
theorem O2 {B:Int} {xs:List Int} (h:B7 B xs) (n:Nat):B7 B (xs.take n):=fun z hz=>h z (List.mem_of_mem_take hz)
theorem j8 {B:Int} {xs:List Int} (h:B7 B xs) (n:Nat):B7 B (xs.drop n):=fun z hz=>h z (List.mem_of_mem_drop hz)
theorem S8 {B:Int} {xs:List Int} (h:B7 B xs) (n:Nat) {v:Int} (h0:0≤v) (h1:v<B):B7 B (xs.set n v):=by
 intro z hz
 rcases List.mem_or_eq_of_mem_set hz with hz|rfl
 ·exact h z hz
 ·exact⟨h0,h1⟩
theorem A4G {B:Int} (hB:0<B) (n:Nat):B7 B (List.replicate n 0):=by
 intro z hz
 rw [List.eq_of_mem_replicate hz]
 exact⟨Int.le_refl _,hB⟩
theorem A9d {B:Int} {xs:List Int} (h:B7 B xs):B7 B xs.reverse:=fun z hz=>h z (List.mem_reverse.1 hz)
theorem u6 (xs:List Int) (n:Nat):rd xs (n:Int)=xs.getD n 0:=by simp [rd]
theorem A0l (xs:List Int) (n:Nat) (h:n<xs.length):rd xs (n:Int)=xs[n]:=by
 rw [u6,List.getD_eq_getElem?_getD,List.getElem?_eq_getElem h]
 rfl
theorem D9 {B:Int} {xs:List Int} (h:B7 B xs) (n:Nat) (hn:n<xs.length):0≤rd xs (n:Int)∧rd xs (n:Int)<B:=by
 rw [A0l xs n hn]
 exact h _ (List.getElem_mem hn)
theorem A6f {B:Int} (hB:0<B) {xs:List Int} (h:B7 B xs) (n:Nat):0≤rd xs (n:Int)∧rd xs (n:Int)<B:=by
 rcases Nat.lt_or_ge n xs.length with hn|hn
 ·exact D9 h n hn
 ·rw [u6,List.getD_eq_getElem?_getD,List.getElem?_eq_none hn]
  exact⟨Int.le_refl _,hB⟩
theorem A3L (B:Int) (xs ys:List Int):vB B (xs++ys)=vB B xs+B^xs.length*vB B ys:=by
 induction xs with
 |nil=>simp [vB]
 |cons x xs ih=>
  rw [List.cons_append,v3,ih,v3,List.length_cons,Int.pow_succ,Int.mul_add,←Int.add_assoc,←Int.mul_assoc,Int.mul_comm B (B^xs.length)]
theorem A8x (B:Int) (n:Nat):vB B (List.replicate n 0)=0:=by
 induction n with
 |zero=>rfl
 |succ n ih=>rw [List.replicate_succ,v3,ih];simp
theorem I6 {B:Int} (hB:0≤B) {l:List Int} (h:B7 B l):0≤vB B l:=by
 induction l with
 |nil=>exact Int.le_refl _
 |cons x xs ih=>
  have:=A1P.1 h
  rw [v3]
  exact Int.add_nonneg this.1.1 (Int.mul_nonneg hB (ih this.2))
theorem P2 {B:Int} (hB:0<B) {l:List Int} (h:B7 B l):vB B l<B^l.length:=by
 induction l with
 |nil=>simp [vB]
 |cons x xs ih=>
  have hd:=A1P.1 h
  have h1:=ih hd.2
  rw [v3,List.length_cons,Int.pow_succ,Int.mul_comm (B^xs.length) B]
  have h2:B*(vB B xs+1)≤B*B^xs.length:=Int.mul_le_mul_of_nonneg_left (by omega) (by omega)
  rw [Int.mul_add,Int.mul_one]at h2
  omega
theorem m9 (B:Int) (l:List Int) (n:Nat) (h:n≤l.length):vB B l=vB B (l.take n)+B^n*vB B (l.drop n):=by
 conv=>lhs;rw [←List.take_append_drop n l]
 rw [A3L,List.length_take,Nat.min_eq_left h]
theorem C4T (B:Int) (l:List Int) (n:Nat) (h:n<l.length):vB B (l.take (n+1))=vB B (l.take n)+B^n*rd l (n:Int):=by
 rw [List.take_succ_eq_append_getElem h,A3L,List.length_take,Nat.min_eq_left (by omega),A0l l n h]
 simp [vB]
theorem X4 (B:Int) (l:List Int) (n:Nat) (v:Int) (h:n<l.length):vB B (l.set n v)=vB B l+B^n*(v-rd l (n:Int)):=by
 induction l generalizing n with
 |nil=>simp at h
 |cons x xs ih=>
  cases n with
  |zero=>simp [vB,rd];omega
  |succ n=>
   have h':n<xs.length:=by simpa using h
   rw [List.set_cons_succ,v3,ih n h',v3]
   have:rd (x::xs) ((n+1:Nat):Int)=rd xs (n:Int):=by rw [u6,u6];simp
   rw [this,Int.pow_succ,Int.mul_add,←Int.add_assoc,←Int.mul_assoc,Int.mul_comm B (B^n)]
theorem F6g (l:List Int) (n:Nat) (h:n<l.length):l.set n (rd l (n:Int))=l:=by
 rw [A0l l n h,List.set_getElem_self]
theorem A4y (l:List Int) (n:Nat) (v:Int) (h:n<l.length):rd (l.set n v) (n:Int)=v:=by
 rw [A0l _ n (by simpa using h),List.getElem_set_self]
theorem v6 (l:List Int) (n m:Nat) (v:Int) (h:n≠m):rd (l.set n v) (m:Int)=rd l (m:Int):=by
 rw [u6,u6,List.getD_eq_getElem?_getD,List.getD_eq_getElem?_getD,List.getElem?_set_ne h]
theorem A9i (xs:List Int) (n m:Nat) (h:m<n):rd (xs.take n) (m:Int)=rd xs (m:Int):=by
 rw [u6,u6,List.getD_eq_getElem?_getD,List.getD_eq_getElem?_getD,List.getElem?_take_of_lt h]
theorem D1P (xs:List Int) (n m:Nat):rd (xs.drop n) (m:Int)=rd xs ((n+m:Nat):Int):=by
 rw [u6,u6,List.getD_eq_getElem?_getD,List.getD_eq_getElem?_getD,List.getElem?_drop]
theorem A5B (n m:Nat):rd (List.replicate n 0) (m:Int)=0:=by
 rw [u6,List.getD_eq_getElem?_getD,List.getElem?_replicate]
 split<;>rfl
theorem D2G {B:Int} (hB:0<B):∀{l m:List Int},B7 B l→B7 B m→l.length=m.length→vB B l=vB B m→l=m
 | [],[],_,_,_,_=>rfl
 | [],y::ys,_,_,h,_=>by simp at h
 |x::xs,[],_,_,h,_=>by simp at h
 |x::xs,y::ys,hl,hm,h,hv=>by
  have h1:=A1P.1 hl
  have h2:=A1P.1 hm
  rw [v3,v3]at hv
  have hx:x=y:=by
   have e1:(x+B*vB B xs)%B=x:=by rw [Int.add_mul_emod_self_left,Int.emod_eq_of_lt h1.1.1 h1.1.2]
   have e2:(y+B*vB B ys)%B=y:=by rw [Int.add_mul_emod_self_left,Int.emod_eq_of_lt h2.1.1 h2.1.2]
   rw [←e1,←e2,hv]
  subst hx
  have hv':B*vB B xs=B*vB B ys:=by omega
  have:=Int.eq_of_mul_eq_mul_left (by omega) hv'
  rw [D2G hB h1.2 h2.2 (by simpa using h) this]
theorem B7Z {B:Int} (hB:0<B) {l:List Int} (h:B7 B l) (ht:A0e l) (hp:0<l.length):B^(l.length-1)≤vB B l:=by
 have e:l.take (l.length-1+1)=l:=List.take_of_length_le (by omega)
 have h1:=C4T B l (l.length-1) (by omega)
 rw [e]at h1
 rw [h1]
 have h2:=I6 (Int.le_of_lt hB) (O2 h (l.length-1))
 have h3:=(D9 h (l.length-1) (by omega)).1
 have h4:1≤rd l ((l.length-1:Nat):Int):=by have:=ht hp;omega
 have h5:B^(l.length-1)*1≤B^(l.length-1)*rd l ((l.length-1:Nat):Int):=Int.mul_le_mul_of_nonneg_left h4 (Int.le_of_lt (Int.pow_pos hB))
 rw [Int.mul_one]at h5
 omega
theorem A9j {B:Int} (hB:0<B) {m n:Nat} (h:m≤n):B^m≤B^n:=by
 obtain⟨j,rfl⟩:∃j,n=m+j:=⟨n-m,by omega⟩
 rw [Int.pow_add]
 have h1:1≤B^j:=by have:0<B^j:=Int.pow_pos hB;omega
 have h2:B^m*1≤B^m*B^j:=Int.mul_le_mul_of_nonneg_left h1 (Int.le_of_lt (Int.pow_pos hB))
 rwa [Int.mul_one]at h2
theorem A8w {B:Int} (hB:0<B) {l m:List Int} (hl:B7 B l) (hm:B7 B m) (ht:A0e m) (h:l.length<m.length):vB B l<vB B m:=by
 have h1:=P2 hB hl
 have h2:=B7Z hB hm ht (by omega)
 have h3:=A9j hB (show l.length≤m.length-1 by omega)
 omega
theorem E3B {B:Int} (hB:0<B) {l m:List Int} (hl:B7 B l) (hm:B7 B m) (tl:A0e l) (tm:A0e m) (hv:vB B l=vB B m):l=m:=by
 rcases Nat.lt_trichotomy l.length m.length with h|h|h
 ·have:=A8w hB hl hm tm h;omega
 ·exact D2G hB hl hm h hv
 ·have:=A8w hB hm hl tl h;omega
def U9 (b:Nat) (n:Nat):List Int:=
 if h:n=0 then []else((n%(b+2):Nat):Int)::U9 b (n/(b+2))
termination_by n
decreasing_by exact Nat.div_lt_self (by omega) (by omega)
theorem A7x (b:Nat):U9 b 0=[]:=by rw [U9];simp
theorem C9c (b n:Nat) (h:n≠0):U9 b n=((n%(b+2):Nat):Int)::U9 b (n/(b+2)):=by rw [U9];simp [h]
theorem A1T (b:Nat):∀n,B7 (b+2:Nat) (U9 b n)∧A0e (U9 b n)∧vB (b+2:Nat) (U9 b n)=n:=by
 intro n
 induction n using Nat.strongRecOn with
 |_ n ih=>
  by_cases h:n=0
  ·subst h
   rw [A7x]
   exact⟨A4M _,fun h=>absurd h (by simp),rfl⟩
  ·obtain⟨h1,h2,h3⟩:=ih (n/(b+2)) (Nat.div_lt_self (by omega) (by omega))
   rw [C9c b n h]
   have hm:=Nat.mod_lt n (show 0<b+2 by omega)
   have hd:=Nat.div_add_mod n (b+2)
   refine⟨A1P.2 ⟨⟨by omega,by omega⟩,h1⟩,?_,?_⟩
   ·intro _
    by_cases hz:n/(b+2)=0
    ·rw [hz,A7x]
     show rd [((n%(b+2):Nat):Int)] ((0:Nat):Int)≠0
     rw [hz]at hd
     have:((n%(b+2):Nat):Int)≠0:=by omega
     simpa [rd]using this
    ·have hl:0<(U9 b (n/(b+2))).length:=by rw [C9c _ _ hz];simp
     have:=h2 hl
     rw [List.length_cons,Nat.add_sub_cancel]
     obtain⟨q,hq⟩:∃q,(U9 b (n/(b+2))).length=q+1:=⟨(U9 b (n/(b+2))).length-1,by omega⟩
     rw [hq]at this⊢
     rw [u6]at this⊢
     simpa using this
   ·rw [v3,h3]
    have:((b+2:Nat):Int)*((n/(b+2):Nat):Int)+((n%(b+2):Nat):Int)=n:=by exact_mod_cast hd
    omega
theorem C4U {b:Nat} {l:List Int} {n:Nat} (hl:B7 (b+2:Nat) l) (ht:A0e l) (hv:vB (b+2:Nat) l=n):l=U9 b n:=by
 obtain⟨h1,h2,h3⟩:=A1T b n
 exact E3B (by omega) hl h1 ht h2 (by rw [hv,h3])
theorem A6p {b n k:Nat} (h:n<(b+2)^k):(U9 b n).length≤k:=by
 obtain⟨h1,h2,h3⟩:=A1T b n
 rcases Nat.lt_or_ge k (U9 b n).length with hk|hk
 ·have h4:=B7Z (by omega) h1 h2 (by omega)
  rw [h3]at h4
  have h5:=A9j (B:=((b+2:Nat):Int)) (by omega) (show k≤(U9 b n).length-1 by omega)
  have h6:((n:Nat):Int)<((b+2:Nat):Int)^k:=by exact_mod_cast h
  omega
 ·exact hk
theorem C2T (b n:Nat):n<(b+2)^(U9 b n).length:=by
 obtain⟨h1,h2,h3⟩:=A1T b n
 have:=P2 (by omega) h1
 rw [h3]at this
 exact_mod_cast this
end Go.Proofs.YtijohnkgomcdbaaGreatN
namespace Go.Proofs.YtijohnkgomcdbaaGreat.All
open Go.RowKit Go.Proofs.YtijohnkgomcdbaaGreatW.PrintWords Go.Proofs.YtijohnkgomcdbaaGreatW.PrintLast Go.Proofs.YtijohnkgomcdbaaGreatW.PrintMore
abbrev S24:=Bool×ByteArray
def z24:S24:=(false,(⟨#[]⟩:ByteArray))
abbrev S24.f0 (x:S24):Bool:=x.1
abbrev S24.f1 (x:S24):ByteArray:=x.2
def rd_T24 (xs:List S24) (i:Int):S24:=xs.getD i.toNat z24
def integer_zero.f:Option (Bool×ByteArray):=some (false,(⟨#[]⟩:ByteArray))
def natural_Check.j0:Nat→ByteArray→Bool→Option (Int)
  |0,_,_=>none
  |k+1,x0,x10=>if x10=true then(some 1)else(if(x0.size:Int)>1024 then(some 4)else(some 0))
def natural_Check.f (k:Nat) (a0:ByteArray):Option (Int):=if(a0.size:Int)>0 then(if 0<(a0.size:Int)then(natural_Check.j0 k a0 ((bt a0 0)==0))else(none))else(natural_Check.j0 k a0 false)
theorem natural_Check.U1 {g:Prop} (h:g:=by
  with_reducible repeat' first
  |exact ih0 _ _
  |exact A0.refl _
  |exact A0.none _
  |refine A0.ite ?_ ?_
  |refine A0.bind ?_ (fun _=>?_)):g:=h
theorem natural_Check.mono_l:∀k,(∀y0 y1,A0 (natural_Check.j0 k y0 y1) (natural_Check.j0 (k+1) y0 y1))
  |0=>fun _ _ r h=>by simp [natural_Check.j0]at h
  | k+1=>by
    have ih0:=natural_Check.mono_l k
    · intro y0 y1
      unfold natural_Check.j0
      exact natural_Check.U1
def integer_Check.f (k:Nat) (a0_0:Bool) (a0_1:ByteArray):Option (Int):=(natural_Check.f k a0_1).bind fun t103=>(if t103=1 then(some t103)else((integer_zero.f).bind fun bt104=>(if(!(a0_0==bt104.1)||(!(a0_1.toList==bt104.2.toList)))=true then(if a0_1.toList=([]:List UInt8)then(some 1)else(some t103))else(some t103))))
def exact_compareWords.l0:Nat→List Int→List Int→Int→Option (Int)
  |0,_,_,_=>none
  |k+1,x0,x1,x5=>if x5≥0 then(if 0≤x5 then(if x5<(x0.length:Int)then(if x5<(x1.length:Int)then(if(rd x0 x5)=(rd x1 x5)then(exact_compareWords.l0 k x0 x1 (wrap64 (x5-1)))else(if(rd x0 x5)<(rd x1 x5)then(some (-1))else(some 1)))else(none))else(none))else(none))else(some 0)
def exact_compareWords.f (k:Nat) (l0:List Int) (l1:List Int):Option (Int):=if(l0.length:Int)=(l1.length:Int)then(exact_compareWords.l0 k l0 l1 (wrap64 ((l0.length:Int)-1)))else(if(l0.length:Int)<(l1.length:Int)then(some (-1))else(some 1))
def bits_Len64.f (a0:Int):Option (Int):=if 0≤a0∧a0≤18446744073709551615 then some (Lib.bitLen a0.toNat:Int)else none
def bits_LeadingZeros64.f (a0:Int):Option (Int):=(bits_Len64.f a0).bind fun t113=>(some (wrap64 (64-t113)))
mutual
def bits_Div64.j2:Nat→Int→Int→Int→Int→Int→Int→Int→Int→Option (Int×Int)
  |0,_,_,_,_,_,_,_,_=>none
  |k+1,x2,x8,x9,x10,x11,x13,x14,x15=>if x9=0 then(none)else(bits_Div64.l1 k x2 x8 x9 x10 x14 x15 (IntKind.u64.wrap ((IntKind.u64.wrap ((IntKind.u64.wrap ((IntKind.u64.wrap (x11*4294967296))+x13))-(IntKind.u64.wrap (x15*x2))))-(IntKind.u64.wrap ((IntKind.u64.wrap (Int.tdiv (IntKind.u64.wrap ((IntKind.u64.wrap ((IntKind.u64.wrap (x11*4294967296))+x13))-(IntKind.u64.wrap (x15*x2)))) x9))*x9)))) (IntKind.u64.wrap ((IntKind.u64.wrap ((IntKind.u64.wrap (x11*4294967296))+x13))-(IntKind.u64.wrap (x15*x2)))) (IntKind.u64.wrap (Int.tdiv (IntKind.u64.wrap ((IntKind.u64.wrap ((IntKind.u64.wrap (x11*4294967296))+x13))-(IntKind.u64.wrap (x15*x2)))) x9)))
def bits_Div64.l1:Nat→Int→Int→Int→Int→Int→Int→Int→Int→Int→Option (Int×Int)
  |0,_,_,_,_,_,_,_,_,_=>none
  |k+1,x2,x8,x9,x10,x14,x15,x16,x17,x18=>if x18≥4294967296 then(bits_Div64.j4 k x2 x8 x9 x10 x14 x15 x16 x17 x18 true)else(bits_Div64.j4 k x2 x8 x9 x10 x14 x15 x16 x17 x18 (decide ((IntKind.u64.wrap (x18*x10))>(IntKind.u64.wrap ((IntKind.u64.wrap (4294967296*x16))+x14)))))
def bits_Div64.j4:Nat→Int→Int→Int→Int→Int→Int→Int→Int→Int→Bool→Option (Int×Int)
  |0,_,_,_,_,_,_,_,_,_,_=>none
  |k+1,x2,x8,x9,x10,x14,x15,x16,x17,x18,x113=>if x113=true then(if(IntKind.u64.wrap (x16+x9))≥4294967296 then(if 0≤x8 then(some (IntKind.u64.wrap ((IntKind.u64.wrap (x15*4294967296))+(IntKind.u64.wrap (x18-1))),shr .u64 (IntKind.u64.wrap ((IntKind.u64.wrap ((IntKind.u64.wrap (x17*4294967296))+x14))-(IntKind.u64.wrap ((IntKind.u64.wrap (x18-1))*x2)))) x8))else(none))else(bits_Div64.l1 k x2 x8 x9 x10 x14 x15 (IntKind.u64.wrap (x16+x9)) x17 (IntKind.u64.wrap (x18-1))))else(if 0≤x8 then(some (IntKind.u64.wrap ((IntKind.u64.wrap (x15*4294967296))+x18),shr .u64 (IntKind.u64.wrap ((IntKind.u64.wrap ((IntKind.u64.wrap (x17*4294967296))+x14))-(IntKind.u64.wrap (x18*x2)))) x8))else(none))
def bits_Div64.l0:Nat→Int→Int→Int→Int→Int→Int→Int→Int→Int→Option (Int×Int)
  |0,_,_,_,_,_,_,_,_,_=>none
  |k+1,x2,x8,x9,x10,x11,x13,x14,x15,x16=>if x15≥4294967296 then(bits_Div64.j1 k x2 x8 x9 x10 x11 x13 x14 x15 x16 true)else(bits_Div64.j1 k x2 x8 x9 x10 x11 x13 x14 x15 x16 (decide ((IntKind.u64.wrap (x15*x10))>(IntKind.u64.wrap ((IntKind.u64.wrap (4294967296*x16))+x13)))))
def bits_Div64.j1:Nat→Int→Int→Int→Int→Int→Int→Int→Int→Int→Bool→Option (Int×Int)
  |0,_,_,_,_,_,_,_,_,_,_=>none
  |k+1,x2,x8,x9,x10,x11,x13,x14,x15,x16,x78=>if x78=true then(if(IntKind.u64.wrap (x16+x9))≥4294967296 then(bits_Div64.j2 k x2 x8 x9 x10 x11 x13 x14 (IntKind.u64.wrap (x15-1)))else(bits_Div64.l0 k x2 x8 x9 x10 x11 x13 x14 (IntKind.u64.wrap (x15-1)) (IntKind.u64.wrap (x16+x9))))else(bits_Div64.j2 k x2 x8 x9 x10 x11 x13 x14 x15)
end
def bits_Div64.f (k:Nat) (a0:Int) (a1:Int) (a2:Int):Option (Int×Int):=if a2=0 then(none)else(if a2≤a0 then(none)else(if a0=0 then(some (IntKind.u64.wrap (Int.tdiv a1 a2),Int.tmod a1 a2))else((bits_LeadingZeros64.f a2).bind fun t114=>(if 0≤(IntKind.u64.wrap (t114))then(if 0≤(IntKind.u64.wrap (64-(IntKind.u64.wrap (t114))))then(if((shl .u64 a2 (IntKind.u64.wrap (t114)))/4294967296)=0 then(none)else(bits_Div64.l0 k (shl .u64 a2 (IntKind.u64.wrap (t114))) (IntKind.u64.wrap (t114)) ((shl .u64 a2 (IntKind.u64.wrap (t114)))/4294967296) (Go.bits .and .u64 (shl .u64 a2 (IntKind.u64.wrap (t114))) 4294967295) (Go.bits .or .u64 (shl .u64 a0 (IntKind.u64.wrap (t114))) (shr .u64 a1 (IntKind.u64.wrap (64-(IntKind.u64.wrap (t114)))))) ((shl .u64 a1 (IntKind.u64.wrap (t114)))/4294967296) (Go.bits .and .u64 (shl .u64 a1 (IntKind.u64.wrap (t114))) 4294967295) (IntKind.u64.wrap (Int.tdiv (Go.bits .or .u64 (shl .u64 a0 (IntKind.u64.wrap (t114))) (shr .u64 a1 (IntKind.u64.wrap (64-(IntKind.u64.wrap (t114)))))) ((shl .u64 a2 (IntKind.u64.wrap (t114)))/4294967296))) (IntKind.u64.wrap ((Go.bits .or .u64 (shl .u64 a0 (IntKind.u64.wrap (t114))) (shr .u64 a1 (IntKind.u64.wrap (64-(IntKind.u64.wrap (t114))))))-(IntKind.u64.wrap ((IntKind.u64.wrap (Int.tdiv (Go.bits .or .u64 (shl .u64 a0 (IntKind.u64.wrap (t114))) (shr .u64 a1 (IntKind.u64.wrap (64-(IntKind.u64.wrap (t114)))))) ((shl .u64 a2 (IntKind.u64.wrap (t114)))/4294967296)))*((shl .u64 a2 (IntKind.u64.wrap (t114)))/4294967296)))))))else(none))else(none)))))
theorem bits_Div64.U1 {g:Prop} (h:g:=by
  with_reducible repeat' first
  |exact ih0 _ _ _ _ _ _ _ _
  |exact ih1 _ _ _ _ _ _ _ _ _
  |exact ih2 _ _ _ _ _ _ _ _ _ _
  |exact ih3 _ _ _ _ _ _ _ _ _
  |exact ih4 _ _ _ _ _ _ _ _ _ _
  |exact A0.refl _
  |exact A0.none _
  |refine A0.ite ?_ ?_
  |refine A0.bind ?_ (fun _=>?_)):g:=h
theorem bits_Div64.mono_l:∀k,(∀y0 y1 y2 y3 y4 y5 y6 y7,A0 (bits_Div64.j2 k y0 y1 y2 y3 y4 y5 y6 y7) (bits_Div64.j2 (k+1) y0 y1 y2 y3 y4 y5 y6 y7))∧(∀y0 y1 y2 y3 y4 y5 y6 y7 y8,A0 (bits_Div64.l1 k y0 y1 y2 y3 y4 y5 y6 y7 y8) (bits_Div64.l1 (k+1) y0 y1 y2 y3 y4 y5 y6 y7 y8))∧(∀y0 y1 y2 y3 y4 y5 y6 y7 y8 y9,A0 (bits_Div64.j4 k y0 y1 y2 y3 y4 y5 y6 y7 y8 y9) (bits_Div64.j4 (k+1) y0 y1 y2 y3 y4 y5 y6 y7 y8 y9))∧(∀y0 y1 y2 y3 y4 y5 y6 y7 y8,A0 (bits_Div64.l0 k y0 y1 y2 y3 y4 y5 y6 y7 y8) (bits_Div64.l0 (k+1) y0 y1 y2 y3 y4 y5 y6 y7 y8))∧(∀y0 y1 y2 y3 y4 y5 y6 y7 y8 y9,A0 (bits_Div64.j1 k y0 y1 y2 y3 y4 y5 y6 y7 y8 y9) (bits_Div64.j1 (k+1) y0 y1 y2 y3 y4 y5 y6 y7 y8 y9))
  |0=>⟨fun _ _ _ _ _ _ _ _ r h=>by simp [bits_Div64.j2]at h,fun _ _ _ _ _ _ _ _ _ r h=>by simp [bits_Div64.l1]at h,fun _ _ _ _ _ _ _ _ _ _ r h=>by simp [bits_Div64.j4]at h,fun _ _ _ _ _ _ _ _ _ r h=>by simp [bits_Div64.l0]at h,fun _ _ _ _ _ _ _ _ _ _ r h=>by simp [bits_Div64.j1]at h⟩
  | k+1=>by
    obtain⟨ih0,ih1,ih2,ih3,ih4⟩:=bits_Div64.mono_l k
    refine⟨?_,?_,?_,?_,?_⟩
    · intro y0 y1 y2 y3 y4 y5 y6 y7
      unfold bits_Div64.j2
      exact bits_Div64.U1
    · intro y0 y1 y2 y3 y4 y5 y6 y7 y8
      unfold bits_Div64.l1
      exact bits_Div64.U1
    · intro y0 y1 y2 y3 y4 y5 y6 y7 y8 y9
      unfold bits_Div64.j4
      exact bits_Div64.U1
    · intro y0 y1 y2 y3 y4 y5 y6 y7 y8
      unfold bits_Div64.l0
      exact bits_Div64.U1
    · intro y0 y1 y2 y3 y4 y5 y6 y7 y8 y9
      unfold bits_Div64.j1
      exact bits_Div64.U1
theorem bits_Div64.mono:∀a0 a1 a2 k,A0 (bits_Div64.f k a0 a1 a2) (bits_Div64.f (k+1) a0 a1 a2):=by
  intro a0 a1 a2 k
  obtain⟨ih0,ih1,ih2,ih3,ih4⟩:=bits_Div64.mono_l k
  unfold bits_Div64.f
  exact bits_Div64.U1
def exact_trim.l0:Nat→List Int→Int→Option (List Int)
  |0,_,_=>none
  |k+1,x0,x3=>if x3>0 then(if 0≤(wrap64 (x3-1))then(if(wrap64 (x3-1))<(x0.length:Int)then(if(rd x0 (wrap64 (x3-1)))=0 then(exact_trim.l0 k x0 (wrap64 (x3-1)))else(if 0≤x3 then(if x3≤(x0.length:Int)then(some (x0.take (x3:Int).toNat))else(none))else(none)))else(none))else(none))else(if 0≤x3 then(if x3≤(x0.length:Int)then(some (x0.take (x3:Int).toNat))else(none))else(none))
def exact_trim.f (k:Nat) (l0:List Int):Option (List Int):=exact_trim.l0 k l0 (l0.length:Int)
theorem exact_trim.U1 {g:Prop} (h:g:=by
  with_reducible repeat' first
  |exact ih0 _ _
  |exact A0.refl _
  |exact A0.none _
  |refine A0.ite ?_ ?_
  |refine A0.bind ?_ (fun _=>?_)):g:=h
theorem exact_trim.mono_l:∀k,(∀y0 y1,A0 (exact_trim.l0 k y0 y1) (exact_trim.l0 (k+1) y0 y1))
  |0=>fun _ _ r h=>by simp [exact_trim.l0]at h
  | k+1=>by
    have ih0:=exact_trim.mono_l k
    · intro y0 y1
      unfold exact_trim.l0
      exact exact_trim.U1
theorem exact_trim.mono:∀a0 k,A0 (exact_trim.f k a0) (exact_trim.f (k+1) a0):=by
  intro a0 k
  have ih0:=exact_trim.mono_l k
  unfold exact_trim.f
  exact exact_trim.U1
def exact_shiftUp.l0:Nat→Int→List Int→List Int→Int→Int→Option (List Int)
  |0,_,_,_,_,_=>none
  |k+1,x1,x5,x12,x13,x14=>if x14<x13 then(if 0≤x14 then(if x14<(x12.length:Int)then(if x14<(x5.length:Int)then(if 0≤x1 then((some (x5.set (x14:Int).toNat (Go.bits .or .u64 (rd x5 x14) (shl .u64 (rd x12 x14) x1)):List Int)).bind fun y127=>(if x1>0 then(if 0≤(wrap64 (64-x1))then(if 0≤(wrap64 (x14+1))then(if(wrap64 (x14+1))<(x5.length:Int)then(exact_shiftUp.l0 k x1 (y127.set ((wrap64 (x14+1)):Int).toNat (shr .u64 (rd x12 x14) (wrap64 (64-x1)))) x12 x13 (wrap64 (x14+1)))else(none))else(none))else(none))else(exact_shiftUp.l0 k x1 y127 x12 x13 (wrap64 (x14+1)))))else(none))else(none))else(none))else(none))else(some x5)
def exact_shiftUp.f (k:Nat) (l0:List Int) (a1:Int):Option (List Int):=if 0≤(wrap64 ((l0.length:Int)+1))then(if(wrap64 ((l0.length:Int)+1):Int).toNat≤35184372088832 then(exact_shiftUp.l0 k a1 (List.replicate (wrap64 ((l0.length:Int)+1):Int).toNat 0) l0 (l0.length:Int) 0)else(none))else(none)
def bits_Add64.f (a0:Int) (a1:Int) (a2:Int):Option (Int×Int):=if 0≤a0∧0≤a1∧0≤a2∧a2≤1 then some ((a0+a1+a2)%18446744073709551616,(a0+a1+a2)/18446744073709551616)else none
def bits_Sub64.f (a0:Int) (a1:Int) (a2:Int):Option (Int×Int):=if 0≤a0∧0≤a1∧a1≤18446744073709551615∧0≤a2∧a2≤1 then some ((a0-a1-a2)%18446744073709551616,if a0<a1+a2 then 1 else 0)else none
def bits_Mul64.f (a0:Int) (a1:Int):Option (Int×Int):=some (IntKind.u64.wrap ((IntKind.u64.wrap ((IntKind.u64.wrap ((a0/4294967296)*(a1/4294967296)))+((IntKind.u64.wrap ((IntKind.u64.wrap ((a0/4294967296)*(Go.bits .and .u64 a1 4294967295)))+((IntKind.u64.wrap ((Go.bits .and .u64 a0 4294967295)*(Go.bits .and .u64 a1 4294967295)))/4294967296)))/4294967296)))+((IntKind.u64.wrap ((Go.bits .and .u64 (IntKind.u64.wrap ((IntKind.u64.wrap ((a0/4294967296)*(Go.bits .and .u64 a1 4294967295)))+((IntKind.u64.wrap ((Go.bits .and .u64 a0 4294967295)*(Go.bits .and .u64 a1 4294967295)))/4294967296))) 4294967295)+(IntKind.u64.wrap ((Go.bits .and .u64 a0 4294967295)*(a1/4294967296)))))/4294967296)),IntKind.u64.wrap (a0*a1))
mutual
def exact_step.j0:Nat→List Int→List Int→Int→Int→Int→Int→Option (Int×List Int)
  |0,_,_,_,_,_,_=>none
  |k+1,x0,x1,x5,x6,x7,x8=>exact_step.l0 k x0 x1 x5 x6 x7 x8
def exact_step.j2:Nat→List Int→List Int→Int→Int→Option (Int×List Int)
  |0,_,_,_,_=>none
  |k+1,x0,x1,x5,x6=>exact_step.l1 k x0 x1 x5 x6 0 0 x5 0
def exact_step.l1:Nat→List Int→List Int→Int→Int→Int→Int→Int→Int→Option (Int×List Int)
  |0,_,_,_,_,_,_,_,_=>none
  |k+1,x0,x1,x5,x6,x11,x12,x104,x105=>if x105<x104 then(if 0≤x105 then(if x105<(x1.length:Int)then((bits_Mul64.f x6 (rd x1 x105)).bind fun bt151=>((bits_Add64.f bt151.2 x12 0).bind fun bt153=>(if x105<(x0.length:Int)then((bits_Sub64.f (rd x0 x105) bt153.1 x11).bind fun bt156=>(exact_step.l1 k (x0.set (x105:Int).toNat bt156.1) x1 x5 x6 bt156.2 (IntKind.u64.wrap (bt151.1+bt153.2)) x104 (wrap64 (x105+1))))else(none))))else(none))else(none))else(if 0≤x5 then(if x5<(x0.length:Int)then((bits_Sub64.f (rd x0 x5) x12 x11).bind fun bt160=>((some (x0.set (x5:Int).toNat bt160.1:List Int)).bind fun y162=>(if bt160.2=0 then(some (x6,y162))else(exact_step.l2 k y162 x1 x5 x6 0 x5 0))))else(none))else(none))
def exact_step.l2:Nat→List Int→List Int→Int→Int→Int→Int→Int→Option (Int×List Int)
  |0,_,_,_,_,_,_,_=>none
  |k+1,x0,x1,x5,x6,x17,x156,x157=>if x157<x156 then(if 0≤x157 then(if x157<(x0.length:Int)then(if x157<(x1.length:Int)then((bits_Add64.f (rd x0 x157) (rd x1 x157) x17).bind fun bt165=>(exact_step.l2 k (x0.set (x157:Int).toNat bt165.1) x1 x5 x6 bt165.2 x156 (wrap64 (x157+1))))else(none))else(none))else(none))else(if 0≤x5 then(if x5<(x0.length:Int)then(some (IntKind.u64.wrap (x6-1),(x0.set (x5:Int).toNat (IntKind.u64.wrap ((rd x0 x5)+x17)))))else(none))else(none))
def exact_step.l0:Nat→List Int→List Int→Int→Int→Int→Int→Option (Int×List Int)
  |0,_,_,_,_,_,_=>none
  |k+1,x0,x1,x5,x6,x7,x8=>if x8=0 then(if 0≤(wrap64 (x5-2))then(if(wrap64 (x5-2))<(x1.length:Int)then((bits_Mul64.f x6 (rd x1 (wrap64 (x5-2)))).bind fun bt141=>(if bt141.1<x7 then(exact_step.j2 k x0 x1 x5 x6)else(if bt141.1=x7 then(if(wrap64 (x5-2))<(x0.length:Int)then(if bt141.2≤(rd x0 (wrap64 (x5-2)))then(exact_step.j2 k x0 x1 x5 x6)else(if 0≤(wrap64 (x5-1))then(if(wrap64 (x5-1))<(x1.length:Int)then((bits_Add64.f x7 (rd x1 (wrap64 (x5-1))) 0).bind fun bt145=>(exact_step.l0 k x0 x1 x5 (IntKind.u64.wrap (x6-1)) bt145.1 bt145.2))else(none))else(none)))else(none))else(if 0≤(wrap64 (x5-1))then(if(wrap64 (x5-1))<(x1.length:Int)then((bits_Add64.f x7 (rd x1 (wrap64 (x5-1))) 0).bind fun bt148=>(exact_step.l0 k x0 x1 x5 (IntKind.u64.wrap (x6-1)) bt148.1 bt148.2))else(none))else(none)))))else(none))else(none))else(exact_step.j2 k x0 x1 x5 x6)
end
def exact_step.f (k:Nat) (l0:List Int) (l1:List Int):Option (Int×List Int):=if 0≤(l1.length:Int)then(if(l1.length:Int)<(l0.length:Int)then(if 0≤(wrap64 ((l1.length:Int)-1))then(if(wrap64 ((l1.length:Int)-1))<(l1.length:Int)then(if(rd l0 (l1.length:Int))≥(rd l1 (wrap64 ((l1.length:Int)-1)))then(if(wrap64 ((l1.length:Int)-1))<(l0.length:Int)then((bits_Add64.f (rd l0 (wrap64 ((l1.length:Int)-1))) (rd l1 (wrap64 ((l1.length:Int)-1))) 0).bind fun bt133=>(exact_step.j0 k l0 l1 (l1.length:Int) 18446744073709551615 bt133.1 bt133.2))else(none))else(if(wrap64 ((l1.length:Int)-1))<(l0.length:Int)then((bits_Div64.f k (rd l0 (l1.length:Int)) (rd l0 (wrap64 ((l1.length:Int)-1))) (rd l1 (wrap64 ((l1.length:Int)-1)))).bind fun bt138=>(exact_step.j0 k l0 l1 (l1.length:Int) bt138.1 bt138.2 0))else(none)))else(none))else(none))else(none))else(none)
theorem exact_step.U1 {g:Prop} (h:g:=by
  with_reducible repeat' first
  |exact ih0 _ _ _ _ _ _
  |exact ih1 _ _ _ _
  |exact ih2 _ _ _ _ _ _ _ _
  |exact ih3 _ _ _ _ _ _ _
  |exact ih4 _ _ _ _ _ _
  |exact bits_Div64.mono _ _ _ _
  |exact A0.refl _
  |exact A0.none _
  |refine A0.ite ?_ ?_
  |refine A0.bind ?_ (fun _=>?_)):g:=h
theorem exact_step.mono_l:∀k,(∀y0 y1 y2 y3 y4 y5,A0 (exact_step.j0 k y0 y1 y2 y3 y4 y5) (exact_step.j0 (k+1) y0 y1 y2 y3 y4 y5))∧(∀y0 y1 y2 y3,A0 (exact_step.j2 k y0 y1 y2 y3) (exact_step.j2 (k+1) y0 y1 y2 y3))∧(∀y0 y1 y2 y3 y4 y5 y6 y7,A0 (exact_step.l1 k y0 y1 y2 y3 y4 y5 y6 y7) (exact_step.l1 (k+1) y0 y1 y2 y3 y4 y5 y6 y7))∧(∀y0 y1 y2 y3 y4 y5 y6,A0 (exact_step.l2 k y0 y1 y2 y3 y4 y5 y6) (exact_step.l2 (k+1) y0 y1 y2 y3 y4 y5 y6))∧(∀y0 y1 y2 y3 y4 y5,A0 (exact_step.l0 k y0 y1 y2 y3 y4 y5) (exact_step.l0 (k+1) y0 y1 y2 y3 y4 y5))
  |0=>⟨fun _ _ _ _ _ _ r h=>by simp [exact_step.j0]at h,fun _ _ _ _ r h=>by simp [exact_step.j2]at h,fun _ _ _ _ _ _ _ _ r h=>by simp [exact_step.l1]at h,fun _ _ _ _ _ _ _ r h=>by simp [exact_step.l2]at h,fun _ _ _ _ _ _ r h=>by simp [exact_step.l0]at h⟩
  | k+1=>by
    obtain⟨ih0,ih1,ih2,ih3,ih4⟩:=exact_step.mono_l k
    refine⟨?_,?_,?_,?_,?_⟩
    · intro y0 y1 y2 y3 y4 y5
      unfold exact_step.j0
      exact exact_step.U1
    · intro y0 y1 y2 y3
      unfold exact_step.j2
      exact exact_step.U1
    · intro y0 y1 y2 y3 y4 y5 y6 y7
      unfold exact_step.l1
      exact exact_step.U1
    · intro y0 y1 y2 y3 y4 y5 y6
      unfold exact_step.l2
      exact exact_step.U1
    · intro y0 y1 y2 y3 y4 y5
      unfold exact_step.l0
      exact exact_step.U1
def exact_stepAt.f (k:Nat) (l0:List Int) (l1:List Int) (a2:Int) (a3:Int):Option (Int×List Int):=(exact_step.f k ((l0.take a3.toNat).drop a2.toNat) l1).bind fun bt=>(some (bt.1,l0.take a2.toNat++bt.2++l0.drop a3.toNat))
mutual
def exact_divide.l0:Nat→List Int→List Int→List Int→Int→Int→Option (List Int×List Int)
  |0,_,_,_,_,_=>none
  |k+1,x0,x1,x6,x7,x8=>if x8≥0 then(if 0≤x8 then(if x8<(x0.length:Int)then(if 0<(x1.length:Int)then((bits_Div64.f k x7 (rd x0 x8) (rd x1 0)).bind fun bt176=>(if x8<(x6.length:Int)then(exact_divide.l0 k x0 x1 (x6.set (x8:Int).toNat bt176.1) bt176.2 (wrap64 (x8-1)))else(none)))else(none))else(none))else(none))else((exact_trim.f k x6).bind fun t179=>((exact_trim.f k (([x7]:List Int))).bind fun t185=>(some (t179,t185))))
def exact_divide.l1:Nat→Int→List Int→List Int→Int→List Int→Int→Option (List Int×List Int)
  |0,_,_,_,_,_,_=>none
  |k+1,x9,x10,x11,x12,x13,x14=>if x14≥0 then(if 0≤x14 then(if x14≤(wrap64 ((wrap64 (x14+x12))+1))then(if(wrap64 ((wrap64 (x14+x12))+1))≤(x11.length:Int)then((exact_stepAt.f k x11 x10 x14 (wrap64 ((wrap64 (x14+x12))+1))).bind fun bt206=>(if x14<(x13.length:Int)then(exact_divide.l1 k x9 x10 bt206.2 x12 (x13.set (x14:Int).toNat bt206.1) (wrap64 (x14-1)))else(none)))else(none))else(none))else(none))else(exact_divide.l2 k x9 x11 x12 x13 x12 0)
def exact_divide.l2:Nat→Int→List Int→Int→List Int→Int→Int→Option (List Int×List Int)
  |0,_,_,_,_,_,_=>none
  |k+1,x9,x11,x12,x13,x96,x97=>if x97<x96 then(if 0≤x97 then(if x97<(x11.length:Int)then(if 0≤x9 then((some (x11.set (x97:Int).toNat (shr .u64 (rd x11 x97) x9):List Int)).bind fun y210=>(if x9>0 then(if(wrap64 (x97+1))<(x11.length:Int)then(if 0≤(wrap64 (x97+1))then(if 0≤(wrap64 (64-x9))then(exact_divide.l2 k x9 (y210.set (x97:Int).toNat (Go.bits .or .u64 (rd y210 x97) (shl .u64 (rd y210 (wrap64 (x97+1))) (wrap64 (64-x9))))) x12 x13 x96 (wrap64 (x97+1)))else(none))else(none))else(exact_divide.l2 k x9 y210 x12 x13 x96 (wrap64 (x97+1))))else(exact_divide.l2 k x9 y210 x12 x13 x96 (wrap64 (x97+1)))))else(none))else(none))else(none))else((exact_trim.f k x13).bind fun t214=>(if 0≤x12 then(if x12≤(x11.length:Int)then((exact_trim.f k (x11.take (x12:Int).toNat)).bind fun t220=>(some (t214,t220)))else(none))else(none)))
end
def exact_divide.f (k:Nat) (l0:List Int) (l1:List Int):Option (List Int×List Int):=(exact_compareWords.f k l0 l1).bind fun t170=>(if t170<0 then(some (([]:List Int),l0))else(if(l1.length:Int)=1 then(if 0≤(l0.length:Int)then(if((l0.length:Int):Int).toNat≤35184372088832 then(exact_divide.l0 k l0 l1 (List.replicate ((l0.length:Int):Int).toNat 0) 0 (wrap64 ((l0.length:Int)-1)))else(none))else(none))else(if 0≤(wrap64 ((l1.length:Int)-1))then(if(wrap64 ((l1.length:Int)-1))<(l1.length:Int)then((bits_LeadingZeros64.f (rd l1 (wrap64 ((l1.length:Int)-1)))).bind fun t189=>((exact_shiftUp.f k l1 t189).bind fun t190=>((exact_trim.f k t190).bind fun t193=>((exact_shiftUp.f k l0 t189).bind fun t196=>(if 0≤(wrap64 ((wrap64 ((l0.length:Int)-(t193.length:Int)))+1))then(if(wrap64 ((wrap64 ((l0.length:Int)-(t193.length:Int)))+1):Int).toNat≤35184372088832 then(exact_divide.l1 k t189 t193 t196 (t193.length:Int) (List.replicate (wrap64 ((wrap64 ((l0.length:Int)-(t193.length:Int)))+1):Int).toNat 0) (wrap64 ((l0.length:Int)-(t193.length:Int))))else(none))else(none))))))else(none))else(none))))
def exact_words.l0:Nat→ByteArray→List Int→Int→Int→Option (List Int)
  |0,_,_,_,_=>none
  |k+1,x0,x3,x12,x13=>if x13<x12 then(if 0≤(wrap64 (Int.tdiv (wrap64 ((wrap64 ((x0.size:Int)-1))-x13)) 8))then(if(wrap64 (Int.tdiv (wrap64 ((wrap64 ((x0.size:Int)-1))-x13)) 8))<(x3.length:Int)then(if 0≤x13 then(if x13<(x0.size:Int)then(if 0≤(wrap64 (8*(Int.tmod (wrap64 ((wrap64 ((x0.size:Int)-1))-x13)) 8)))then(exact_words.l0 k x0 (x3.set ((wrap64 (Int.tdiv (wrap64 ((wrap64 ((x0.size:Int)-1))-x13)) 8)):Int).toNat (Go.bits .or .u64 (rd x3 (wrap64 (Int.tdiv (wrap64 ((wrap64 ((x0.size:Int)-1))-x13)) 8))) (shl .u64 (IntKind.u64.wrap (bt x0 x13)) (wrap64 (8*(Int.tmod (wrap64 ((wrap64 ((x0.size:Int)-1))-x13)) 8)))))) x12 (wrap64 (x13+1)))else(none))else(none))else(none))else(none))else(none))else((exact_trim.f k x3).bind fun t228=>(some t228))
def exact_words.f (k:Nat) (a0:ByteArray):Option (List Int):=if 0≤(wrap64 (Int.tdiv (wrap64 ((a0.size:Int)+7)) 8))then(if(wrap64 (Int.tdiv (wrap64 ((a0.size:Int)+7)) 8):Int).toNat≤35184372088832 then(exact_words.l0 k a0 (List.replicate (wrap64 (Int.tdiv (wrap64 ((a0.size:Int)+7)) 8):Int).toNat 0) (a0.size:Int) 0)else(none))else(none)
theorem exact_words.U1 {g:Prop} (h:g:=by
  with_reducible repeat' first
  |exact ih0 _ _ _ _
  |exact exact_trim.mono _ _
  |exact A0.refl _
  |exact A0.none _
  |refine A0.ite ?_ ?_
  |refine A0.bind ?_ (fun _=>?_)):g:=h
theorem exact_words.mono_l:∀k,(∀y0 y1 y2 y3,A0 (exact_words.l0 k y0 y1 y2 y3) (exact_words.l0 (k+1) y0 y1 y2 y3))
  |0=>fun _ _ _ _ r h=>by simp [exact_words.l0]at h
  | k+1=>by
    have ih0:=exact_words.mono_l k
    · intro y0 y1 y2 y3
      unfold exact_words.l0
      exact exact_words.U1
theorem exact_words.mono:∀a0 k,A0 (exact_words.f k a0) (exact_words.f (k+1) a0):=by
  intro a0 k
  have ih0:=exact_words.mono_l k
  unfold exact_words.f
  exact exact_words.U1
mutual
def exact_pack.l0:Nat→List Int→List Int→Int→Int→Option (ByteArray)
  |0,_,_,_,_=>none
  |k+1,x3,x17,x18,x19=>if x19<x18 then(if 0≤x19 then(if x19<(x17.length:Int)then(exact_pack.l1 k x3 x19 (rd x17 x19) x17 x18 x19 0)else(none))else(none))else(exact_pack.l2 k x3 0)
def exact_pack.l1:Nat→List Int→Int→Int→List Int→Int→Int→Int→Option (ByteArray)
  |0,_,_,_,_,_,_,_=>none
  |k+1,x3,x4,x5,x17,x18,x19,x24=>if x24<8 then(if 0≤(wrap64 (8*x24))then(if 0≤(wrap64 ((wrap64 ((wrap64 ((x3.length:Int)-1))-(wrap64 (8*x4))))-x24))then(if(wrap64 ((wrap64 ((wrap64 ((x3.length:Int)-1))-(wrap64 (8*x4))))-x24))<(x3.length:Int)then(exact_pack.l1 k (x3.set ((wrap64 ((wrap64 ((wrap64 ((x3.length:Int)-1))-(wrap64 (8*x4))))-x24)):Int).toNat ((shr .u64 x5 (wrap64 (8*x24)))%256)) x4 x5 x17 x18 x19 (wrap64 (x24+1)))else(none))else(none))else(none))else(exact_pack.l0 k x3 x17 x18 (wrap64 (x19+1)))
def exact_pack.l2:Nat→List Int→Int→Option (ByteArray)
  |0,_,_=>none
  |k+1,x3,x7=>if 0≤x7 then(if x7<(x3.length:Int)then(if(rd x3 x7)=0 then(exact_pack.l2 k x3 (wrap64 (x7+1)))else(if x7≤(x3.length:Int)then(some (strOfNums (x3.drop (x7:Int).toNat)))else(none)))else(none))else(none)
end
def exact_pack.f (k:Nat) (l0:List Int):Option (ByteArray):=(exact_trim.f k l0).bind fun t231=>(if(t231.length:Int)=0 then(some (⟨#[]⟩:ByteArray))else(if 0≤(wrap64 (8*(t231.length:Int)))then(if(wrap64 (8*(t231.length:Int)):Int).toNat≤281474976710656 then(exact_pack.l0 k (List.replicate (wrap64 (8*(t231.length:Int)):Int).toNat 0) t231 (t231.length:Int) 0)else(none))else(none)))
theorem exact_pack.U1 {g:Prop} (h:g:=by
  with_reducible repeat' first
  |exact ih0 _ _ _ _
  |exact ih1 _ _ _ _ _ _ _
  |exact ih2 _ _
  |exact exact_trim.mono _ _
  |exact A0.refl _
  |exact A0.none _
  |refine A0.ite ?_ ?_
  |refine A0.bind ?_ (fun _=>?_)):g:=h
theorem exact_pack.mono_l:∀k,(∀y0 y1 y2 y3,A0 (exact_pack.l0 k y0 y1 y2 y3) (exact_pack.l0 (k+1) y0 y1 y2 y3))∧(∀y0 y1 y2 y3 y4 y5 y6,A0 (exact_pack.l1 k y0 y1 y2 y3 y4 y5 y6) (exact_pack.l1 (k+1) y0 y1 y2 y3 y4 y5 y6))∧(∀y0 y1,A0 (exact_pack.l2 k y0 y1) (exact_pack.l2 (k+1) y0 y1))
  |0=>⟨fun _ _ _ _ r h=>by simp [exact_pack.l0]at h,fun _ _ _ _ _ _ _ r h=>by simp [exact_pack.l1]at h,fun _ _ r h=>by simp [exact_pack.l2]at h⟩
  | k+1=>by
    obtain⟨ih0,ih1,ih2⟩:=exact_pack.mono_l k
    refine⟨?_,?_,?_⟩
    · intro y0 y1 y2 y3
      unfold exact_pack.l0
      exact exact_pack.U1
    · intro y0 y1 y2 y3 y4 y5 y6
      unfold exact_pack.l1
      exact exact_pack.U1
    · intro y0 y1
      unfold exact_pack.l2
      exact exact_pack.U1
theorem exact_pack.mono:∀a0 k,A0 (exact_pack.f k a0) (exact_pack.f (k+1) a0):=by
  intro a0 k
  obtain⟨ih0,ih1,ih2⟩:=exact_pack.mono_l k
  unfold exact_pack.f
  exact exact_pack.U1
def exact_NatDivMod.f (k:Nat) (a0:ByteArray) (a1:ByteArray):Option (ByteArray×ByteArray):=(exact_words.f k a0).bind fun t244=>((exact_words.f k a1).bind fun t247=>((exact_divide.f k t244 t247).bind fun bt250=>((exact_pack.f k bt250.1).bind fun t256=>((exact_pack.f k bt250.2).bind fun t257=>(some (t256,t257))))))
mutual
def exact_NatAdd.j0:Nat→List Int→List Int→Option (ByteArray)
  |0,_,_=>none
  |k+1,x5,x6=>if 0≤(wrap64 ((x5.length:Int)+1))then(if(wrap64 ((x5.length:Int)+1):Int).toNat≤35184372088832 then(exact_NatAdd.l0 k x5 x6 (List.replicate (wrap64 ((x5.length:Int)+1):Int).toNat 0) 0 (x5.length:Int) 0)else(none))else(none)
def exact_NatAdd.l0:Nat→List Int→List Int→List Int→Int→Int→Int→Option (ByteArray)
  |0,_,_,_,_,_,_=>none
  |k+1,x5,x6,x7,x8,x27,x28=>if x28<x27 then(if x28<(x6.length:Int)then(if 0≤x28 then(if x28<(x5.length:Int)then((bits_Add64.f (rd x5 x28) (rd x6 x28) x8).bind fun bt269=>(if x28<(x7.length:Int)then(exact_NatAdd.l0 k x5 x6 (x7.set (x28:Int).toNat bt269.1) bt269.2 x27 (wrap64 (x28+1)))else(none)))else(none))else(none))else(if 0≤x28 then(if x28<(x5.length:Int)then((bits_Add64.f (rd x5 x28) 0 x8).bind fun bt273=>(if x28<(x7.length:Int)then(exact_NatAdd.l0 k x5 x6 (x7.set (x28:Int).toNat bt273.1) bt273.2 x27 (wrap64 (x28+1)))else(none)))else(none))else(none)))else(if 0≤(x5.length:Int)then(if(x5.length:Int)<(x7.length:Int)then((exact_pack.f k (x7.set ((x5.length:Int):Int).toNat x8)).bind fun t277=>(some t277))else(none))else(none))
end
def exact_NatAdd.f (k:Nat) (a0:ByteArray) (a1:ByteArray):Option (ByteArray):=(exact_words.f k a0).bind fun t258=>((exact_words.f k a1).bind fun t261=>(if(t258.length:Int)<(t261.length:Int)then(exact_NatAdd.j0 k t261 t258)else(exact_NatAdd.j0 k t258 t261)))
theorem exact_NatAdd.U1 {g:Prop} (h:g:=by
  with_reducible repeat' first
  |exact ih0 _ _
  |exact ih1 _ _ _ _ _ _
  |exact exact_pack.mono _ _
  |exact exact_words.mono _ _
  |exact A0.refl _
  |exact A0.none _
  |refine A0.ite ?_ ?_
  |refine A0.bind ?_ (fun _=>?_)):g:=h
theorem exact_NatAdd.mono_l:∀k,(∀y0 y1,A0 (exact_NatAdd.j0 k y0 y1) (exact_NatAdd.j0 (k+1) y0 y1))∧(∀y0 y1 y2 y3 y4 y5,A0 (exact_NatAdd.l0 k y0 y1 y2 y3 y4 y5) (exact_NatAdd.l0 (k+1) y0 y1 y2 y3 y4 y5))
  |0=>⟨fun _ _ r h=>by simp [exact_NatAdd.j0]at h,fun _ _ _ _ _ _ r h=>by simp [exact_NatAdd.l0]at h⟩
  | k+1=>by
    obtain⟨ih0,ih1⟩:=exact_NatAdd.mono_l k
    refine⟨?_,?_⟩
    · intro y0 y1
      unfold exact_NatAdd.j0
      exact exact_NatAdd.U1
    · intro y0 y1 y2 y3 y4 y5
      unfold exact_NatAdd.l0
      exact exact_NatAdd.U1
def exact_NatOf.f (k:Nat) (a0:Int):Option (ByteArray):=(exact_pack.f k (([a0]:List Int))).bind fun t281=>(some t281)
def exact_NatSub.l0:Nat→List Int→List Int→Int→Int→Int→Option (ByteArray)
  |0,_,_,_,_,_=>none
  |k+1,x5,x6,x7,x15,x16=>if x16<x15 then(if x16<(x6.length:Int)then(if 0≤x16 then(if x16<(x5.length:Int)then((bits_Sub64.f (rd x5 x16) (rd x6 x16) x7).bind fun bt290=>(exact_NatSub.l0 k (x5.set (x16:Int).toNat bt290.1) x6 bt290.2 x15 (wrap64 (x16+1))))else(none))else(none))else(if 0≤x16 then(if x16<(x5.length:Int)then((bits_Sub64.f (rd x5 x16) 0 x7).bind fun bt294=>(exact_NatSub.l0 k (x5.set (x16:Int).toNat bt294.1) x6 bt294.2 x15 (wrap64 (x16+1))))else(none))else(none)))else((exact_pack.f k x5).bind fun t297=>(some t297))
def exact_NatSub.f (k:Nat) (a0:ByteArray) (a1:ByteArray):Option (ByteArray):=(exact_words.f k a0).bind fun t282=>((exact_words.f k a1).bind fun t285=>(exact_NatSub.l0 k t282 t285 0 (t282.length:Int) 0))
def exact_IntMake.f (a0:Bool) (a1:ByteArray):Option (Bool×ByteArray):=if a0=true then(some ((!a1.toList.isEmpty),a1))else(some (false,a1))
def exact_NatGcd.l0:Nat→List Int→List Int→Option (ByteArray)
  |0,_,_=>none
  |k+1,x5,x6=>if(x6.length:Int)>0 then((exact_divide.f k x5 x6).bind fun bt318=>(exact_NatGcd.l0 k x6 bt318.2))else((exact_pack.f k x5).bind fun t324=>(some t324))
def exact_NatGcd.f (k:Nat) (a0:ByteArray) (a1:ByteArray):Option (ByteArray):=(exact_words.f k a0).bind fun t312=>((exact_words.f k a1).bind fun t315=>(exact_NatGcd.l0 k t312 t315))
def exact_IntOf.f (k:Nat) (a0:Int):Option (Bool×ByteArray):=if a0<0 then((exact_NatOf.f k (IntKind.u64.wrap (-(IntKind.u64.wrap (a0))))).bind fun t330=>(some (true,t330)))else((exact_NatOf.f k (IntKind.u64.wrap (a0))).bind fun t331=>(some (false,t331)))
mutual
def galoisref01_pack.l0:Nat→List Int→List Int→Int→Option (ByteArray)
  |0,_,_,_=>none
  |k+1,x0,x3,x4=>if x4≥0 then(galoisref01_pack.l1 k x0 x3 x4 24)else(some (strOfNums x3))
def galoisref01_pack.l1:Nat→List Int→List Int→Int→Int→Option (ByteArray)
  |0,_,_,_,_=>none
  |k+1,x0,x3,x4,x5=>if x5≥0 then(if 0≤x4 then(if x4<(x0.length:Int)then(if 0≤x5 then(if(x3.length:Int)>0 then(if x3.length<140737488355328 then(galoisref01_pack.l1 k x0 (x3++[(shr .u64 (rd x0 x4) x5)%256]) x4 (wrap64 (x5-8)))else(none))else(if((shr .u64 (rd x0 x4) x5)%256)>0 then(if x3.length<140737488355328 then(galoisref01_pack.l1 k x0 (x3++[(shr .u64 (rd x0 x4) x5)%256]) x4 (wrap64 (x5-8)))else(none))else(galoisref01_pack.l1 k x0 x3 x4 (wrap64 (x5-8)))))else(none))else(none))else(none))else(galoisref01_pack.l0 k x0 x3 (wrap64 (x4-1)))
end
def galoisref01_pack.f (k:Nat) (l0:List Int):Option (ByteArray):=galoisref01_pack.l0 k l0 ([]:List Int) (wrap64 ((l0.length:Int)-1))
theorem galoisref01_pack.U1 {g:Prop} (h:g:=by
  with_reducible repeat' first
  |exact ih0 _ _ _
  |exact ih1 _ _ _ _
  |exact A0.refl _
  |exact A0.none _
  |refine A0.ite ?_ ?_
  |refine A0.bind ?_ (fun _=>?_)):g:=h
theorem galoisref01_pack.mono_l:∀k,(∀y0 y1 y2,A0 (galoisref01_pack.l0 k y0 y1 y2) (galoisref01_pack.l0 (k+1) y0 y1 y2))∧(∀y0 y1 y2 y3,A0 (galoisref01_pack.l1 k y0 y1 y2 y3) (galoisref01_pack.l1 (k+1) y0 y1 y2 y3))
  |0=>⟨fun _ _ _ r h=>by simp [galoisref01_pack.l0]at h,fun _ _ _ _ r h=>by simp [galoisref01_pack.l1]at h⟩
  | k+1=>by
    obtain⟨ih0,ih1⟩:=galoisref01_pack.mono_l k
    refine⟨?_,?_⟩
    · intro y0 y1 y2
      unfold galoisref01_pack.l0
      exact galoisref01_pack.U1
    · intro y0 y1 y2 y3
      unfold galoisref01_pack.l1
      exact galoisref01_pack.U1
theorem galoisref01_pack.mono:∀a0 k,A0 (galoisref01_pack.f k a0) (galoisref01_pack.f (k+1) a0):=by
  intro a0 k
  obtain⟨ih0,ih1⟩:=galoisref01_pack.mono_l k
  unfold galoisref01_pack.f
  exact galoisref01_pack.U1
def galoisref01_Of.f (k:Nat) (a0:Int):Option (ByteArray):=(galoisref01_pack.f k (([Go.bits .and .u64 a0 4294967295,a0/4294967296]:List Int))).bind fun t345=>(some t345)
def galoisref02_FromInt.f (k:Nat) (a0:Int):Option (Bool×ByteArray):=if a0<0 then((galoisref01_Of.f k (IntKind.u64.wrap ((IntKind.u64.wrap (wrap64 (-(wrap64 (a0+1)))))+1))).bind fun t347=>(some (true,t347)))else((galoisref01_Of.f k (IntKind.u64.wrap (a0))).bind fun t348=>(some (false,t348)))
mutual
def exact_mulWords.l0:Nat→List Int→List Int→List Int→Int→Int→Option (List Int)
  |0,_,_,_,_,_=>none
  |k+1,x1,x5,x20,x21,x22=>if x22<x21 then(if 0≤x22 then(if x22<(x20.length:Int)then(exact_mulWords.l1 k x1 x5 x22 (rd x20 x22) 0 x20 x21 x22 x1 (x1.length:Int) 0)else(none))else(none))else((exact_trim.f k x5).bind fun t355=>(some t355))
def exact_mulWords.l1:Nat→List Int→List Int→Int→Int→Int→List Int→Int→Int→List Int→Int→Int→Option (List Int)
  |0,_,_,_,_,_,_,_,_,_,_,_=>none
  |k+1,x1,x5,x6,x7,x8,x20,x21,x22,x27,x28,x29=>if x29<x28 then(if 0≤x29 then(if x29<(x27.length:Int)then((bits_Mul64.f x7 (rd x27 x29)).bind fun bt360=>(if 0≤(wrap64 (x6+x29))then(if(wrap64 (x6+x29))<(x5.length:Int)then((bits_Add64.f bt360.2 (rd x5 (wrap64 (x6+x29))) 0).bind fun bt363=>((bits_Add64.f bt363.1 x8 0).bind fun bt365=>(exact_mulWords.l1 k x1 (x5.set ((wrap64 (x6+x29)):Int).toNat bt365.1) x6 x7 (IntKind.u64.wrap ((IntKind.u64.wrap (bt360.1+bt363.2))+bt365.2)) x20 x21 x22 x27 x28 (wrap64 (x29+1)))))else(none))else(none)))else(none))else(none))else(if 0≤(wrap64 (x6+(x1.length:Int)))then(if(wrap64 (x6+(x1.length:Int)))<(x5.length:Int)then(exact_mulWords.l0 k x1 (x5.set ((wrap64 (x6+(x1.length:Int))):Int).toNat x8) x20 x21 (wrap64 (x22+1)))else(none))else(none))
end
def exact_mulWords.f (k:Nat) (l0:List Int) (l1:List Int):Option (List Int):=if 0≤(wrap64 ((l0.length:Int)+(l1.length:Int)))then(if(wrap64 ((l0.length:Int)+(l1.length:Int)):Int).toNat≤35184372088832 then(exact_mulWords.l0 k l1 (List.replicate (wrap64 ((l0.length:Int)+(l1.length:Int)):Int).toNat 0) l0 (l0.length:Int) 0)else(none))else(none)
def exact_NatMul.f (k:Nat) (a0:ByteArray) (a1:ByteArray):Option (ByteArray):=(exact_words.f k a0).bind fun t369=>((exact_words.f k a1).bind fun t372=>((exact_mulWords.f k t369 t372).bind fun t375=>((exact_pack.f k t375).bind fun t378=>(some t378))))
def exact_NatPow.l0:Nat→Int→List Int→List Int→Option (ByteArray)
  |0,_,_,_=>none
  |k+1,x1,x5,x6=>if x1>0 then(if(Go.bits .and .i64 x1 1)=1 then((exact_mulWords.f k x5 x6).bind fun t387=>((exact_mulWords.f k x6 x6).bind fun t390=>(exact_NatPow.l0 k (x1/2) t387 t390)))else((exact_mulWords.f k x6 x6).bind fun t393=>(exact_NatPow.l0 k (x1/2) x5 t393)))else((exact_pack.f k x5).bind fun t386=>(some t386))
def exact_NatPow.f (k:Nat) (a0:ByteArray) (a1:Int):Option (ByteArray):=(exact_words.f k a0).bind fun t383=>(exact_NatPow.l0 k a1 (([1]:List Int)) t383)
def exact_NatCmp.j0:Nat→ByteArray→ByteArray→Bool→Option (Int)
  |0,_,_,_=>none
  |k+1,x0,x1,x5=>if x5=true then(some (-1))else(if x0.toList=x1.toList then(some 0)else(some 1))
def exact_NatCmp.f (k:Nat) (a0:ByteArray) (a1:ByteArray):Option (Int):=if(a0.size:Int)<(a1.size:Int)then(exact_NatCmp.j0 k a0 a1 true)else(if(a0.size:Int)=(a1.size:Int)then(exact_NatCmp.j0 k a0 a1 (Op.bytesLess a0.toList a1.toList))else(exact_NatCmp.j0 k a0 a1 false))
theorem exact_NatCmp.U1 {g:Prop} (h:g:=by
  with_reducible repeat' first
  |exact ih0 _ _ _
  |exact A0.refl _
  |exact A0.none _
  |refine A0.ite ?_ ?_
  |refine A0.bind ?_ (fun _=>?_)):g:=h
theorem exact_NatCmp.mono_l:∀k,(∀y0 y1 y2,A0 (exact_NatCmp.j0 k y0 y1 y2) (exact_NatCmp.j0 (k+1) y0 y1 y2))
  |0=>fun _ _ _ r h=>by simp [exact_NatCmp.j0]at h
  | k+1=>by
    have ih0:=exact_NatCmp.mono_l k
    · intro y0 y1 y2
      unfold exact_NatCmp.j0
      exact exact_NatCmp.U1
def galoisref01_Valid.f (a0:ByteArray):Option (Bool):=if a0.toList=([]:List UInt8)then(some true)else(if 0<(a0.size:Int)then(some ((bt a0 0) !=0))else(none))
def galoisref02_Valid.f (a0_0:Bool) (a0_1:ByteArray):Option (Bool):=(galoisref01_Valid.f a0_1).bind fun t551=>(if t551=true then(if a0_0=true then(some (a0_1.toList !=([]:List UInt8)))else(some true))else(some false))
def galoisref01_Fits.f (a0:ByteArray):Option (Int):=if(a0.size:Int)>1024 then(some 4)else(some 0)
def galoisref02_Fits.f (a0_0:Bool) (a0_1:ByteArray):Option (Int):=(galoisref01_Fits.f a0_1).bind fun t490=>(some t490)
def galoisref01_trimV.l0:Nat→List Int→Option (List Int)
  |0,_=>none
  |k+1,x0=>if(x0.length:Int)>0 then(if 0≤(wrap64 ((x0.length:Int)-1))then(if(wrap64 ((x0.length:Int)-1))<(x0.length:Int)then(if(rd x0 (wrap64 ((x0.length:Int)-1)))=0 then(if(wrap64 ((x0.length:Int)-1))≤(x0.length:Int)then(galoisref01_trimV.l0 k (x0.take ((wrap64 ((x0.length:Int)-1)):Int).toNat))else(none))else(some x0))else(none))else(none))else(some x0)
def galoisref01_trimV.f (k:Nat) (l0:List Int):Option (List Int):=galoisref01_trimV.l0 k l0
def galoisref01_trim.l0:Nat→List Int→Option (List Int)
  |0,_=>none
  |k+1,x0=>if(x0.length:Int)>0 then(if 0≤(wrap64 ((x0.length:Int)-1))then(if(wrap64 ((x0.length:Int)-1))<(x0.length:Int)then(if(rd x0 (wrap64 ((x0.length:Int)-1)))=0 then(if(wrap64 ((x0.length:Int)-1))≤(x0.length:Int)then(galoisref01_trim.l0 k (x0.take ((wrap64 ((x0.length:Int)-1)):Int).toNat))else(none))else(some x0))else(none))else(none))else(some x0)
def galoisref01_trim.f (k:Nat) (l0:List Int):Option (List Int):=galoisref01_trim.l0 k l0
theorem galoisref01_trim.U1 {g:Prop} (h:g:=by
  with_reducible repeat' first
  |exact ih0 _
  |exact A0.refl _
  |exact A0.none _
  |refine A0.ite ?_ ?_
  |refine A0.bind ?_ (fun _=>?_)):g:=h
theorem galoisref01_trim.mono_l:∀k,(∀y0,A0 (galoisref01_trim.l0 k y0) (galoisref01_trim.l0 (k+1) y0))
  |0=>fun _ r h=>by simp [galoisref01_trim.l0]at h
  | k+1=>by
    have ih0:=galoisref01_trim.mono_l k
    · intro y0
      unfold galoisref01_trim.l0
      exact galoisref01_trim.U1
theorem galoisref01_trim.mono:∀a0 k,A0 (galoisref01_trim.f k a0) (galoisref01_trim.f (k+1) a0):=by
  intro a0 k
  have ih0:=galoisref01_trim.mono_l k
  unfold galoisref01_trim.f
  exact galoisref01_trim.U1
mutual
def galoisref01_limbs.l0:Nat→ByteArray→List Int→Int→Option (List Int)
  |0,_,_,_=>none
  |k+1,x0,x3,x4=>if x4>0 then(galoisref01_limbs.l1 k x0 x3 x4 0 (mx 0 (wrap64 (x4-4))))else((galoisref01_trim.f k x3).bind fun t513=>(some t513))
def galoisref01_limbs.l1:Nat→ByteArray→List Int→Int→Int→Int→Option (List Int)
  |0,_,_,_,_,_=>none
  |k+1,x0,x3,x4,x5,x6=>if x6<x4 then(if 0≤x6 then(if x6<(x0.size:Int)then(galoisref01_limbs.l1 k x0 x3 x4 (IntKind.u64.wrap ((IntKind.u64.wrap (x5*256))+(IntKind.u64.wrap (bt x0 x6)))) (wrap64 (x6+1)))else(none))else(none))else(if x3.length<17592186044416 then(galoisref01_limbs.l0 k x0 (x3++[x5]) (wrap64 (x4-4)))else(none))
end
def galoisref01_limbs.f (k:Nat) (a0:ByteArray):Option (List Int):=galoisref01_limbs.l0 k a0 ([]:List Int) (a0.size:Int)
theorem galoisref01_limbs.U1 {g:Prop} (h:g:=by
  with_reducible repeat' first
  |exact ih0 _ _ _
  |exact ih1 _ _ _ _ _
  |exact galoisref01_trim.mono _ _
  |exact A0.refl _
  |exact A0.none _
  |refine A0.ite ?_ ?_
  |refine A0.bind ?_ (fun _=>?_)):g:=h
theorem galoisref01_limbs.mono_l:∀k,(∀y0 y1 y2,A0 (galoisref01_limbs.l0 k y0 y1 y2) (galoisref01_limbs.l0 (k+1) y0 y1 y2))∧(∀y0 y1 y2 y3 y4,A0 (galoisref01_limbs.l1 k y0 y1 y2 y3 y4) (galoisref01_limbs.l1 (k+1) y0 y1 y2 y3 y4))
  |0=>⟨fun _ _ _ r h=>by simp [galoisref01_limbs.l0]at h,fun _ _ _ _ _ r h=>by simp [galoisref01_limbs.l1]at h⟩
  | k+1=>by
    obtain⟨ih0,ih1⟩:=galoisref01_limbs.mono_l k
    refine⟨?_,?_⟩
    · intro y0 y1 y2
      unfold galoisref01_limbs.l0
      exact galoisref01_limbs.U1
    · intro y0 y1 y2 y3 y4
      unfold galoisref01_limbs.l1
      exact galoisref01_limbs.U1
theorem galoisref01_limbs.mono:∀a0 k,A0 (galoisref01_limbs.f k a0) (galoisref01_limbs.f (k+1) a0):=by
  intro a0 k
  obtain⟨ih0,ih1⟩:=galoisref01_limbs.mono_l k
  unfold galoisref01_limbs.f
  exact galoisref01_limbs.U1
def galoisref01_below.l0:Nat→List Int→List Int→Int→Option (Bool)
  |0,_,_,_=>none
  |k+1,x0,x1,x5=>if x5≥0 then(if 0≤x5 then(if x5<(x0.length:Int)then(if x5<(x1.length:Int)then(if(rd x0 x5)=(rd x1 x5)then(galoisref01_below.l0 k x0 x1 (wrap64 (x5-1)))else(some (decide ((rd x0 x5)<(rd x1 x5)))))else(none))else(none))else(none))else(some false)
def galoisref01_below.f (k:Nat) (l0:List Int) (l1:List Int):Option (Bool):=(galoisref01_trimV.f k l0).bind fun t519=>(if(t519.length:Int)=(l1.length:Int)then(galoisref01_below.l0 k t519 l1 (wrap64 ((t519.length:Int)-1)))else(some (decide ((t519.length:Int)<(l1.length:Int)))))
mutual
def galoisref01_DivMod.l0:Nat→List Int→Int→List Int→List Int→Int→Option (ByteArray×ByteArray)
  |0,_,_,_,_,_=>none
  |k+1,x7,x8,x9,x10,x11=>if x11≥0 then(galoisref01_DivMod.l1 k x7 x8 x9 x10 x11)else((galoisref01_pack.f k x10).bind fun t538=>((galoisref01_pack.f k x9).bind fun t539=>(some (t538,t539))))
def galoisref01_DivMod.l1:Nat→List Int→Int→List Int→List Int→Int→Option (ByteArray×ByteArray)
  |0,_,_,_,_,_=>none
  |k+1,x7,x8,x9,x10,x11=>if 0≤x11 then(if x11≤(x9.length:Int)then((galoisref01_below.f k (x9.drop (x11:Int).toNat) x7).bind fun t544=>(if t544=true then(galoisref01_DivMod.l0 k x7 x8 x9 x10 (wrap64 (x11-1)))else(if 0≤(wrap64 (x11+x8))then(if(wrap64 (x11+x8))<(x9.length:Int)then(if 0≤(wrap64 ((wrap64 (x11+x8))-1))then(if(wrap64 ((wrap64 (x11+x8))-1))<(x9.length:Int)then(if 0≤(wrap64 (x8-1))then(if(wrap64 (x8-1))<(x7.length:Int)then(if(IntKind.u64.wrap ((rd x7 (wrap64 (x8-1)))+1))=0 then(none)else(if x11<(x10.length:Int)then(galoisref01_DivMod.l2 k x7 x8 x9 (x10.set (x11:Int).toNat (IntKind.u64.wrap ((rd x10 x11)+(mx 1 (IntKind.u64.wrap (Int.tdiv (IntKind.u64.wrap ((IntKind.u64.wrap ((rd x9 (wrap64 (x11+x8)))*4294967296))+(rd x9 (wrap64 ((wrap64 (x11+x8))-1))))) (IntKind.u64.wrap ((rd x7 (wrap64 (x8-1)))+1)))))))) x11 (mx 1 (IntKind.u64.wrap (Int.tdiv (IntKind.u64.wrap ((IntKind.u64.wrap ((rd x9 (wrap64 (x11+x8)))*4294967296))+(rd x9 (wrap64 ((wrap64 (x11+x8))-1))))) (IntKind.u64.wrap ((rd x7 (wrap64 (x8-1)))+1))))) 0 0)else(none)))else(none))else(none))else(none))else(none))else(none))else(none))))else(none))else(none)
def galoisref01_DivMod.l2:Nat→List Int→Int→List Int→List Int→Int→Int→Int→Int→Option (ByteArray×ByteArray)
  |0,_,_,_,_,_,_,_,_=>none
  |k+1,x7,x8,x9,x10,x11,x12,x13,x14=>if x14<x8 then(if 0≤x14 then(if x14<(x7.length:Int)then(if 0≤(wrap64 (x11+x14))then(if(wrap64 (x11+x14))<(x9.length:Int)then(if(rd x9 (wrap64 (x11+x14)))<(Go.bits .and .u64 (IntKind.u64.wrap ((IntKind.u64.wrap ((rd x7 x14)*x12))+x13)) 4294967295)then((some (x9.set ((wrap64 (x11+x14)):Int).toNat (IntKind.u64.wrap ((rd x9 (wrap64 (x11+x14)))+4294967296)):List Int)).bind fun y553=>(galoisref01_DivMod.l2 k x7 x8 (y553.set ((wrap64 (x11+x14)):Int).toNat (IntKind.u64.wrap ((rd y553 (wrap64 (x11+x14)))-(Go.bits .and .u64 (IntKind.u64.wrap ((IntKind.u64.wrap ((rd x7 x14)*x12))+x13)) 4294967295)))) x10 x11 x12 (IntKind.u64.wrap (((IntKind.u64.wrap ((IntKind.u64.wrap ((rd x7 x14)*x12))+x13))/4294967296)+1)) (wrap64 (x14+1))))else(galoisref01_DivMod.l2 k x7 x8 (x9.set ((wrap64 (x11+x14)):Int).toNat (IntKind.u64.wrap ((rd x9 (wrap64 (x11+x14)))-(Go.bits .and .u64 (IntKind.u64.wrap ((IntKind.u64.wrap ((rd x7 x14)*x12))+x13)) 4294967295)))) x10 x11 x12 ((IntKind.u64.wrap ((IntKind.u64.wrap ((rd x7 x14)*x12))+x13))/4294967296) (wrap64 (x14+1))))else(none))else(none))else(none))else(none))else(if 0≤(wrap64 (x11+x8))then(if(wrap64 (x11+x8))<(x9.length:Int)then(galoisref01_DivMod.l1 k x7 x8 (x9.set ((wrap64 (x11+x8)):Int).toNat (IntKind.u64.wrap ((rd x9 (wrap64 (x11+x8)))-x13))) x10 x11)else(none))else(none))
end
def galoisref01_DivMod.f (k:Nat) (a0:ByteArray) (a1:ByteArray):Option (ByteArray×ByteArray):=if a1.toList=([]:List UInt8)then(some ((⟨#[]⟩:ByteArray),(⟨#[]⟩:ByteArray)))else((galoisref01_limbs.f k a0).bind fun t526=>((galoisref01_limbs.f k a1).bind fun t529=>(if t526.length<17592186044416 then(if 0≤(mx 0 (wrap64 ((wrap64 ((t526.length:Int)-(t529.length:Int)))+1)))then(if(mx 0 (wrap64 ((wrap64 ((t526.length:Int)-(t529.length:Int)))+1)):Int).toNat≤35184372088832 then((some (List.replicate (mx 0 (wrap64 ((wrap64 ((t526.length:Int)-(t529.length:Int)))+1)):Int).toNat 0:List Int)).bind fun y535=>(galoisref01_DivMod.l0 k t529 (t529.length:Int) (t526++[0]) y535 (wrap64 ((y535.length:Int)-1))))else(none))else(none))else(none))))
mutual
def galoisref01_Add.l0:Nat→List Int→List Int→List Int→Int→Int→Option (ByteArray)
  |0,_,_,_,_,_=>none
  |k+1,x5,x6,x7,x8,x9=>if x9<(x5.length:Int)then(galoisref01_Add.j1 k x5 x6 x7 x8 x9 true)else(if x9<(x6.length:Int)then(galoisref01_Add.j1 k x5 x6 x7 x8 x9 true)else(galoisref01_Add.j1 k x5 x6 x7 x8 x9 (decide (x8>0))))
def galoisref01_Add.j1:Nat→List Int→List Int→List Int→Int→Int→Bool→Option (ByteArray)
  |0,_,_,_,_,_,_=>none
  |k+1,x5,x6,x7,x8,x9,x28=>if x28=true then(if x9<(x5.length:Int)then(if 0≤x9 then(if x9<(x6.length:Int)then(if x7.length<17592186044416 then(galoisref01_Add.l0 k x5 x6 (x7++[Go.bits .and .u64 (IntKind.u64.wrap ((IntKind.u64.wrap (x8+(rd x5 x9)))+(rd x6 x9))) 4294967295]) ((IntKind.u64.wrap ((IntKind.u64.wrap (x8+(rd x5 x9)))+(rd x6 x9)))/4294967296) (wrap64 (x9+1)))else(none))else(if x7.length<17592186044416 then(galoisref01_Add.l0 k x5 x6 (x7++[Go.bits .and .u64 (IntKind.u64.wrap (x8+(rd x5 x9))) 4294967295]) ((IntKind.u64.wrap (x8+(rd x5 x9)))/4294967296) (wrap64 (x9+1)))else(none)))else(none))else(if x9<(x6.length:Int)then(if 0≤x9 then(if x7.length<17592186044416 then(galoisref01_Add.l0 k x5 x6 (x7++[Go.bits .and .u64 (IntKind.u64.wrap (x8+(rd x6 x9))) 4294967295]) ((IntKind.u64.wrap (x8+(rd x6 x9)))/4294967296) (wrap64 (x9+1)))else(none))else(none))else(if x7.length<17592186044416 then(galoisref01_Add.l0 k x5 x6 (x7++[Go.bits .and .u64 x8 4294967295]) (x8/4294967296) (wrap64 (x9+1)))else(none))))else((galoisref01_pack.f k x7).bind fun t571=>(some t571))
end
def galoisref01_Add.f (k:Nat) (a0:ByteArray) (a1:ByteArray):Option (ByteArray):=(galoisref01_limbs.f k a0).bind fun t565=>((galoisref01_limbs.f k a1).bind fun t568=>(galoisref01_Add.l0 k t565 t568 ([]:List Int) 0 0))
theorem galoisref01_Add.U1 {g:Prop} (h:g:=by
  with_reducible repeat' first
  |exact ih0 _ _ _ _ _
  |exact ih1 _ _ _ _ _ _
  |exact galoisref01_limbs.mono _ _
  |exact galoisref01_pack.mono _ _
  |exact A0.refl _
  |exact A0.none _
  |refine A0.ite ?_ ?_
  |refine A0.bind ?_ (fun _=>?_)):g:=h
theorem galoisref01_Add.mono_l:∀k,(∀y0 y1 y2 y3 y4,A0 (galoisref01_Add.l0 k y0 y1 y2 y3 y4) (galoisref01_Add.l0 (k+1) y0 y1 y2 y3 y4))∧(∀y0 y1 y2 y3 y4 y5,A0 (galoisref01_Add.j1 k y0 y1 y2 y3 y4 y5) (galoisref01_Add.j1 (k+1) y0 y1 y2 y3 y4 y5))
  |0=>⟨fun _ _ _ _ _ r h=>by simp [galoisref01_Add.l0]at h,fun _ _ _ _ _ _ r h=>by simp [galoisref01_Add.j1]at h⟩
  | k+1=>by
    obtain⟨ih0,ih1⟩:=galoisref01_Add.mono_l k
    refine⟨?_,?_⟩
    · intro y0 y1 y2 y3 y4
      unfold galoisref01_Add.l0
      exact galoisref01_Add.U1
    · intro y0 y1 y2 y3 y4 y5
      unfold galoisref01_Add.j1
      exact galoisref01_Add.U1
def galoisref01_Compare.j0:Nat→ByteArray→ByteArray→Bool→Option (Int)
  |0,_,_,_=>none
  |k+1,x0,x1,x5=>if x5=true then(some (-1))else(if x0.toList=x1.toList then(some 0)else(some 1))
def galoisref01_Compare.f (k:Nat) (a0:ByteArray) (a1:ByteArray):Option (Int):=if(a0.size:Int)<(a1.size:Int)then(galoisref01_Compare.j0 k a0 a1 true)else(if(a0.size:Int)=(a1.size:Int)then(galoisref01_Compare.j0 k a0 a1 (Op.bytesLess a0.toList a1.toList))else(galoisref01_Compare.j0 k a0 a1 false))
theorem galoisref01_Compare.U1 {g:Prop} (h:g:=by
  with_reducible repeat' first
  |exact ih0 _ _ _
  |exact A0.refl _
  |exact A0.none _
  |refine A0.ite ?_ ?_
  |refine A0.bind ?_ (fun _=>?_)):g:=h
theorem galoisref01_Compare.mono_l:∀k,(∀y0 y1 y2,A0 (galoisref01_Compare.j0 k y0 y1 y2) (galoisref01_Compare.j0 (k+1) y0 y1 y2))
  |0=>fun _ _ _ r h=>by simp [galoisref01_Compare.j0]at h
  | k+1=>by
    have ih0:=galoisref01_Compare.mono_l k
    · intro y0 y1 y2
      unfold galoisref01_Compare.j0
      exact galoisref01_Compare.U1
def galoisref01_Sub.l0:Nat→List Int→List Int→Int→Int→Option (ByteArray)
  |0,_,_,_,_=>none
  |k+1,x5,x6,x7,x8=>if x8<(x5.length:Int)then(if x8<(x6.length:Int)then(if 0≤x8 then(if(rd x5 x8)<(IntKind.u64.wrap (x7+(rd x6 x8)))then((some (x5.set (x8:Int).toNat (IntKind.u64.wrap ((rd x5 x8)+4294967296)):List Int)).bind fun y598=>(galoisref01_Sub.l0 k (y598.set (x8:Int).toNat (IntKind.u64.wrap ((rd y598 x8)-(IntKind.u64.wrap (x7+(rd x6 x8)))))) x6 1 (wrap64 (x8+1))))else(galoisref01_Sub.l0 k (x5.set (x8:Int).toNat (IntKind.u64.wrap ((rd x5 x8)-(IntKind.u64.wrap (x7+(rd x6 x8)))))) x6 0 (wrap64 (x8+1))))else(none))else(if 0≤x8 then(if(rd x5 x8)<x7 then((some (x5.set (x8:Int).toNat (IntKind.u64.wrap ((rd x5 x8)+4294967296)):List Int)).bind fun y605=>(galoisref01_Sub.l0 k (y605.set (x8:Int).toNat (IntKind.u64.wrap ((rd y605 x8)-x7))) x6 1 (wrap64 (x8+1))))else(galoisref01_Sub.l0 k (x5.set (x8:Int).toNat (IntKind.u64.wrap ((rd x5 x8)-x7))) x6 0 (wrap64 (x8+1))))else(none)))else((galoisref01_pack.f k x5).bind fun t594=>(some t594))
def galoisref01_Sub.f (k:Nat) (a0:ByteArray) (a1:ByteArray):Option (ByteArray):=(galoisref01_Compare.f k a0 a1).bind fun t587=>(if t587<0 then(some (⟨#[]⟩:ByteArray))else((galoisref01_limbs.f k a0).bind fun t588=>((galoisref01_limbs.f k a1).bind fun t591=>(galoisref01_Sub.l0 k t588 t591 0 0))))
def galoisref02_Make.f (a0:Bool) (a1:ByteArray):Option (Bool×ByteArray):=if a0=true then(some ((!a1.toList.isEmpty),a1))else(some (false,a1))
def galoisref01_Gcd.l0:Nat→ByteArray→ByteArray→Option (ByteArray)
  |0,_,_=>none
  |k+1,x0,x1=>if x1.toList=([]:List UInt8)then(some x0)else((galoisref01_DivMod.f k x0 x1).bind fun bt624=>(galoisref01_Gcd.l0 k x1 bt624.2))
def galoisref01_Gcd.f (k:Nat) (a0:ByteArray) (a1:ByteArray):Option (ByteArray):=galoisref01_Gcd.l0 k a0 a1
mutual
def galoisref01_Mul.l0:Nat→List Int→List Int→List Int→Int→Option (ByteArray)
  |0,_,_,_,_=>none
  |k+1,x5,x6,x7,x8=>if x8<(x5.length:Int)then(galoisref01_Mul.l1 k x5 x6 x7 x8 0 0)else((galoisref01_pack.f k x7).bind fun t688=>(some t688))
def galoisref01_Mul.l1:Nat→List Int→List Int→List Int→Int→Int→Int→Option (ByteArray)
  |0,_,_,_,_,_,_=>none
  |k+1,x5,x6,x7,x8,x9,x10=>if x10<(x6.length:Int)then(if 0≤(wrap64 (x8+x10))then(if(wrap64 (x8+x10))<(x7.length:Int)then(if 0≤x8 then(if x8<(x5.length:Int)then(if 0≤x10 then(galoisref01_Mul.l1 k x5 x6 (x7.set ((wrap64 (x8+x10)):Int).toNat (Go.bits .and .u64 (IntKind.u64.wrap ((IntKind.u64.wrap ((rd x7 (wrap64 (x8+x10)))+(IntKind.u64.wrap ((rd x5 x8)*(rd x6 x10)))))+x9)) 4294967295)) x8 ((IntKind.u64.wrap ((IntKind.u64.wrap ((rd x7 (wrap64 (x8+x10)))+(IntKind.u64.wrap ((rd x5 x8)*(rd x6 x10)))))+x9))/4294967296) (wrap64 (x10+1)))else(none))else(none))else(none))else(none))else(none))else(if 0≤(wrap64 (x8+(x6.length:Int)))then(if(wrap64 (x8+(x6.length:Int)))<(x7.length:Int)then(galoisref01_Mul.l0 k x5 x6 (x7.set ((wrap64 (x8+(x6.length:Int))):Int).toNat x9) (wrap64 (x8+1)))else(none))else(none))
end
def galoisref01_Mul.f (k:Nat) (a0:ByteArray) (a1:ByteArray):Option (ByteArray):=(galoisref01_limbs.f k a0).bind fun t679=>((galoisref01_limbs.f k a1).bind fun t682=>(if 0≤(wrap64 ((t679.length:Int)+(t682.length:Int)))then(if(wrap64 ((t679.length:Int)+(t682.length:Int)):Int).toNat≤35184372088832 then(galoisref01_Mul.l0 k t679 t682 (List.replicate (wrap64 ((t679.length:Int)+(t682.length:Int)):Int).toNat 0) 0)else(none))else(none)))
def exact_IntMul.f (k:Nat) (a0_0:Bool) (a0_1:ByteArray) (a1_0:Bool) (a1_1:ByteArray):Option (Bool×ByteArray):=(exact_NatMul.f k a0_1 a1_1).bind fun t710=>((exact_IntMake.f (a0_0 !=a1_0) t710).bind fun bt711=>(some (bt711.1,bt711.2)))
def exact_IntAdd.f (k:Nat) (a0_0:Bool) (a0_1:ByteArray) (a1_0:Bool) (a1_1:ByteArray):Option (Bool×ByteArray):=if(a0_0==a1_0)=true then((exact_NatAdd.f k a0_1 a1_1).bind fun t716=>((exact_IntMake.f a0_0 t716).bind fun bt717=>(some (bt717.1,bt717.2))))else((exact_NatCmp.f k a0_1 a1_1).bind fun t719=>(if t719<0 then((exact_NatSub.f k a1_1 a0_1).bind fun t720=>((exact_IntMake.f a1_0 t720).bind fun bt721=>(some (bt721.1,bt721.2))))else((exact_NatSub.f k a0_1 a1_1).bind fun t723=>((exact_IntMake.f a0_0 t723).bind fun bt724=>(some (bt724.1,bt724.2))))))
def exact_IntNeg.f (a0_0:Bool) (a0_1:ByteArray):Option (Bool×ByteArray):=(exact_IntMake.f (!a0_0) a0_1).bind fun bt774=>(some (bt774.1,bt774.2))
def galoisref02_Sign.f (a0_0:Bool) (a0_1:ByteArray):Option (Int):=if a0_0=true then(some (-1))else(if a0_1.toList=([]:List UInt8)then(some 0)else(some 1))
def galoisref02_Add.f (k:Nat) (a0_0:Bool) (a0_1:ByteArray) (a1_0:Bool) (a1_1:ByteArray):Option (Bool×ByteArray):=if(a0_0==a1_0)=true then((galoisref01_Add.f k a0_1 a1_1).bind fun t793=>((galoisref02_Make.f a0_0 t793).bind fun bt794=>(some (bt794.1,bt794.2))))else((galoisref01_Compare.f k a0_1 a1_1).bind fun t796=>(if t796≥0 then((galoisref01_Sub.f k a0_1 a1_1).bind fun t797=>((galoisref02_Make.f a0_0 t797).bind fun bt798=>(some (bt798.1,bt798.2))))else((galoisref01_Sub.f k a1_1 a0_1).bind fun t800=>((galoisref02_Make.f a1_0 t800).bind fun bt801=>(some (bt801.1,bt801.2))))))
def galoisref02_Mul.f (k:Nat) (a0_0:Bool) (a0_1:ByteArray) (a1_0:Bool) (a1_1:ByteArray):Option (Bool×ByteArray):=(galoisref01_Mul.f k a0_1 a1_1).bind fun t817=>((galoisref02_Make.f (a0_0 !=a1_0) t817).bind fun bt818=>(some (bt818.1,bt818.2)))
end Go.Proofs.YtijohnkgomcdbaaGreat.All
namespace Go.Proofs.YtijohnkgomcdbaaGreatN
open Go.RowKit Go.Proofs.YtijohnkgomcdbaaGreat.All Go.Proofs.YtijohnkgomcdbaaGreatW.PrintWords Go.Proofs.YtijohnkgomcdbaaGreatW.PrintLast Go.Proofs.YtijohnkgomcdbaaGreatW.PrintMore
theorem D1 {x:Int} (h0: -9223372036854775808≤x) (h1:x<9223372036854775808):wrap64 x=x:=by unfold wrap64;omega
theorem u64 {x:Int} (h0:0≤x) (h1:x<18446744073709551616):IntKind.u64.wrap x=x:=by
 simp [IntKind.wrap,IntKind.bits,IntKind.signed]
 omega
theorem A1N (x:Int):IntKind.u64.wrap x=x%18446744073709551616:=by simp [IntKind.wrap,IntKind.bits,IntKind.signed]
abbrev A6:Int:=18446744073709551616
def B6 (n:Nat):List Int:=U9 18446744073709551614 n
theorem N6 (n:Nat):B7 A6 (B6 n):=(A1T 18446744073709551614 n).1
theorem B3x (n:Nat):A0e (B6 n):=(A1T 18446744073709551614 n).2.1
theorem P4 (n:Nat):vB A6 (B6 n)=n:=(A1T 18446744073709551614 n).2.2
theorem E9e {l:List Int} {n:Nat} (hl:B7 A6 l) (ht:A0e l) (hv:vB A6 l=n):l=B6 n:=C4U hl ht hv
theorem B8x:B6 0=[]:=A7x _
def d8 (n:Nat):List Int:=U9 254 n
theorem F2B (n:Nat):B7 256 (d8 n):=(A1T 254 n).1
theorem E3C (n:Nat):A0e (d8 n):=(A1T 254 n).2.1
theorem D8J (n:Nat):vB 256 (d8 n)=n:=(A1T 254 n).2.2
theorem D8I {l:List Int} {n:Nat} (hl:B7 256 l) (ht:A0e l) (hv:vB 256 l=n):l=d8 n:=C4U hl ht hv
def B2 (n:Nat):ByteArray:=strOfNums (d8 n).reverse
theorem F1y {l:List Int} (h:B7 256 l):O7 (strOfNums l)=l:=by
 unfold O7
 rw [strOfNums_data,List.map_map]
 conv=>rhs;rw [←List.map_id l]
 refine List.map_congr_left fun x hx=>?_
 have:=h x hx
 simp [UInt8.toNat_ofNat']
 omega
theorem D7e (s:ByteArray):strOfNums (O7 s)=s:=by
 unfold strOfNums O7
 rw [List.map_map]
 have:List.map ((fun n:Int=>UInt8.ofNat n.toNat)∘fun b:UInt8=>(b.toNat:Int)) s.data.toList=s.data.toList:=by
  conv=>rhs;rw [←List.map_id s.data.toList]
  refine List.map_congr_left fun x _=>?_
  simp
 rw [this]
theorem C5z (s:ByteArray):B7 256 (O7 s):=by
 intro x hx
 unfold O7 at hx
 obtain⟨b,_,rfl⟩:=List.mem_map.1 hx
 have:=b.toNat_lt
 omega
theorem E5Q {s t:ByteArray} (h:O7 s=O7 t):s=t:=by rw [←D7e s,h,D7e]
theorem D7B {s t:ByteArray}:s.toList=t.toList↔s=t:=by
 constructor
 ·intro h
  rw [ByteArray.toList_eq,ByteArray.toList_eq]at h
  cases s
  cases t
  congr
  exact Array.toList_inj.1 h
 ·rintro rfl;rfl
theorem A3u {s:ByteArray}:s.toList=[]↔s.size=0:=by
 rw [ByteArray.toList_eq,←List.length_eq_zero_iff,B3m]
theorem B9q (n:Nat):O7 (B2 n)=(d8 n).reverse:=F1y (A9d (F2B n))
theorem B4d (n:Nat):(B2 n).size=(d8 n).length:=by rw [←A3y,B9q,List.length_reverse]
def K9 (s:ByteArray):Int:=vB 256 (O7 s).reverse
theorem bval_nat (n:Nat):K9 (B2 n)=n:=by unfold K9;rw [B9q,List.reverse_reverse,D8J]
theorem F5a (s:ByteArray):0≤K9 s:=I6 (by decide) (A9d (C5z s))
theorem B0V {m n:Nat}:B2 m=B2 n↔m=n:=by
 constructor
 ·intro h
  have:=bval_nat m
  rw [h,bval_nat]at this
  omega
 ·rintro rfl;rfl
theorem B4U (l:List Int) (n:Nat) (h:n<l.length):rd l.reverse (n:Int)=rd l ((l.length-1-n:Nat):Int):=by
 rw [A0l _ n (by simpa using h),A0l _ _ (by omega),List.getElem_reverse]
theorem B9y (s:ByteArray) (i:Int):bt s i=rd (O7 s) i:=(E1y s i).symm
theorem E8X {s:ByteArray} (h:s.size=0∨bt s 0≠0):s=B2 (K9 s).toNat:=by
 apply E5Q
 rw [B9q]
 have ht:A0e (O7 s).reverse:=by
  intro hp
  rw [List.length_reverse]at hp⊢
  rw [B4U _ _ (by omega),B9y]at*
  rw [A3y]at hp
  have e:(O7 s).length-1-((O7 s).length-1)=0:=by omega
  rw [e]
  rcases h with h|h
  ·omega
  ·exact h
 have:=D8I (n:=(K9 s).toNat) (A9d (C5z s)) ht (by have:=F5a s;unfold K9 at this⊢;omega)
 rw [←this,List.reverse_reverse]
theorem E1I (n:Nat):(B2 n).size=0∨bt (B2 n) 0≠0:=by
 rcases Nat.eq_zero_or_pos (d8 n).length with h|h
 ·left;rw [B4d,h]
 ·right
  rw [B9y,B9q]
  have:=E3C n h
  have e:=B4U (d8 n) 0 (by omega)
  rw [show(d8 n).length-1-0=(d8 n).length-1 by omega]at e
  rw [←e]at this
  exact this
theorem C9f:B2 0=⟨#[]⟩:=by unfold B2 d8;rw [A7x];rfl
theorem A9Y {n:Nat}:(B2 n).size=0↔n=0:=by
 constructor
 ·intro h
  rw [B4d]at h
  have:=D8J n
  rw [List.eq_nil_of_length_eq_zero h]at this
  simp [vB]at this
  omega
 ·rintro rfl;rw [C9f];rfl
theorem A9p {n k:Nat}:(B2 n).size≤k↔n<256^k:=by
 rw [B4d]
 constructor
 ·intro h
  exact Nat.lt_of_lt_of_le (C2T 254 n) (Nat.pow_le_pow_right (by decide) h)
 ·intro h
  exact A6p h
theorem B4m (n:Nat):n<256^(B2 n).size:=A9p.1 (Nat.le_refl _)
theorem B5i (B:Int):∀{l:List Int},(∀j:Nat,j<l.length→rd l (j:Int)=0)→vB B l=0
 | [],_=>rfl
 |x::xs,h=>by
  have h0:x=0:=h 0 (by simp)
  have:=B5i B (l:=xs) (fun j hj=>by
   have:=h (j+1) (by simpa using hj)
   rw [u6]at this⊢
   simpa using this)
  rw [v3,h0,this]
  simp
theorem D4b (B:Int) {l:List Int} {n:Nat} (hn:n≤l.length) (h:∀j:Nat,n≤j→j<l.length→rd l (j:Int)=0):vB B l=vB B (l.take n):=by
 rw [m9 B l n hn,B5i B (l:=l.drop n) (fun j hj=>by rw [D1P];exact h _ (by omega) (by simp at hj;omega))]
 simp
theorem F2Q (l:List Int) (hd:B7 A6 l) (hl:l.length<9223372036854775808):∀n:Nat,n≤l.length→(∀j:Nat,n≤j→j<l.length→rd l (j:Int)=0)→Ev (fun k=>exact_trim.l0 k l (n:Int)) (B6 (vB A6 l).toNat):=by
 have hv:=I6 (by decide) hd
 intro n
 induction n with
 |zero=>
  intro hn h
  refine Ev.step (f:=fun _=>some (B6 (vB A6 l).toNat)) (fun k=>?_) (Ev.now _)
  simp only [exact_trim.l0]
  rw [if_neg (by omega),if_pos (by omega),if_pos (by omega)]
  have:=D4b A6 hn h
  rw [this]
  simp [vB,B8x]
 |succ n ih=>
  intro hn h
  have e1:wrap64 (((n+1:Nat):Int)-1)=(n:Int):=by rw [D1 (by omega) (by omega)];omega
  by_cases hz:rd l (n:Int)=0
  ·refine Ev.step (f:=fun k=>exact_trim.l0 k l (n:Int)) (fun k=>?_) (ih (by omega) (fun j hj hjl=>?_))
   ·simp only [exact_trim.l0,e1]
    rw [if_pos (by omega),if_pos (by omega),if_pos (by omega),if_pos hz]
   ·rcases Nat.lt_or_ge n j with hlt|hge
    ·exact h j hlt hjl
    ·have:j=n:=by omega
     subst this
     exact hz
  ·refine Ev.step (f:=fun _=>some (B6 (vB A6 l).toNat)) (fun k=>?_) (Ev.now _)
   simp only [exact_trim.l0,e1]
   rw [if_pos (by omega),if_pos (by omega),if_pos (by omega),if_neg hz,if_pos (by omega),if_pos (by omega)]
   congr 1
   have hlen:(l.take (n+1)).length=n+1:=by rw [List.length_take];omega
   refine E9e (O2 hd _) (fun _=>?_) ?_
   ·rw [Int.toNat_natCast,hlen,Nat.add_sub_cancel,A9i l _ _ (by omega)]
    exact hz
   ·rw [Int.toNat_natCast,←D4b A6 hn h]
    omega
theorem A5u {l:List Int} (hd:B7 A6 l) (hl:l.length<9223372036854775808):Ev (fun k=>exact_trim.f k l) (B6 (vB A6 l).toNat):=
 F2Q l hd hl l.length (Nat.le_refl _) (fun j h1 h2=>absurd h1 (by omega))
theorem B1c (n:Int) (h0:0≤n) (h1:n<2^64):IntKind.u64.wrap n=n:=u64 h0 (by simpa using h1)
theorem D5j (q r:Nat):(A6:Int)^q*256^r=256^(8*q+r):=by
 have e:(256:Int)^8=A6:=rfl
 rw [Int.pow_add,Int.pow_mul,e]
theorem E0t (s:ByteArray) (i:Nat) (h:i<s.size):vB 256 ((O7 s).take (i+1)).reverse=bt s i+256*vB 256 ((O7 s).take i).reverse:=by
 rw [List.take_succ_eq_append_getElem (by rw [A3y];exact h),List.reverse_append,B9y,A0l _ i (by rw [A3y];exact h)]
 rfl
theorem E4W (s:ByteArray):vB 256 ((O7 s).take s.size).reverse=K9 s:=by
 rw [List.take_of_length_le (by rw [A3y];exact Nat.le_refl _)]
 rfl
theorem F6P (x c:Int) (r:Nat) (hr:r<8) (hx0:0≤x) (hx1:x<A6) (hm:x%256^(r+1)=0) (hc0:0≤c) (hc1:c≤255):
  Go.bits .or .u64 x (shl .u64 (IntKind.u64.wrap c) (8*r:Nat))=x+c*256^r∧0≤x+c*256^r∧x+c*256^r<A6∧(x+c*256^r)%256^r=0:=by
 have h64:(A6:Int)=18446744073709551616:=rfl
 have hs:shl .u64 (IntKind.u64.wrap c) (8*r:Nat)=c*256^r:=by
  unfold shl
  rw [u64 hc0 (by omega),Int.toNat_natCast]
  have:min (8*r) IntKind.u64.bits=8*r:=Nat.min_eq_left (by show 8*r≤64;omega)
  rw [this,Int.pow_mul]
  have e:(2:Int)^8=256:=rfl
  rw [e]
  apply u64
  ·exact Int.mul_nonneg hc0 (Int.le_of_lt (Int.pow_pos (by decide)))
  ·have:r=0∨r=1∨r=2∨r=3∨r=4∨r=5∨r=6∨r=7:=by omega
   rcases this with rfl|rfl|rfl|rfl|rfl|rfl|rfl|rfl<;>omega
 rw [hs]
 have hb:0≤c*256^r∧c*256^r<256^(r+1)∧0≤x+c*256^r∧x+c*256^r<A6∧(x+c*256^r)%256^r=0∧c*256^r<2^64:=by
  have:r=0∨r=1∨r=2∨r=3∨r=4∨r=5∨r=6∨r=7:=by omega
  rcases this with rfl|rfl|rfl|rfl|rfl|rfl|rfl|rfl<;>(clear hs;simp only [A6]at hx1⊢;omega)
 refine⟨?_,hb.2.2.1,hb.2.2.2.1,hb.2.2.2.2.1⟩
 have hp:(2:Int)^(8*(r+1))=256^(r+1):=by rw [Int.pow_mul];rfl
 exact bits_join .u64 64 (by decide) B1c (8*(r+1)) x (c*256^r) hx0 (by rw [hp];exact hm) (by rw [h64]at hx1;simpa using hx1) hb.1 (by rw [hp];exact hb.2.1) hb.2.2.2.2.2
theorem F0c (s:ByteArray) (hs:s.size≤1099511627776):∀(d i:Nat) (w:List Int),i+d=s.size→w.length=(s.size+7)/8→B7 A6 w→vB A6 w=vB 256 ((O7 s).take i).reverse*256^d→
  (0<d→rd w ((d-1)/8:Nat)%256^((d-1)%8+1)=0∧∀q:Nat,q<(d-1)/8→rd w (q:Int)=0)→Ev (fun k=>exact_words.l0 k s w (s.size:Int) (i:Int)) (B6 (K9 s).toNat):=by
 intro d
 induction d with
 |zero=>
  intro i w hi hl hd hv _
  have hi:i=s.size:=by omega
  subst hi
  have hv':vB A6 w=K9 s:=by rw [hv,E4W];simp
  refine Ev.step (f:=fun k=>(exact_trim.f k w).bind fun t=>some t) (fun k=>?_) (Ev.bind (A5u hd (by omega)) ?_)
  ·simp only [exact_words.l0]
   rw [if_neg (by omega)]
  ·rw [hv']
   exact Ev.now _
 |succ d ih=>
  intro i w hi hl hd hv hz
  obtain⟨hz1,hz2⟩:=hz (by omega)
  rw [Nat.add_sub_cancel]at hz1 hz2
  have hq:d/8<w.length:=by omega
  have hr:d%8<8:=Nat.mod_lt _ (by decide)
  have e1:wrap64 (Int.tdiv (wrap64 (wrap64 ((s.size:Int)-1)-(i:Int))) 8)=((d/8:Nat):Int):=by
   rw [D1 (x:=(s.size:Int)-1) (by omega) (by omega),D1 (x:=(s.size:Int)-1-(i:Int)) (by omega) (by omega)]
   have:(s.size:Int)-1-(i:Int)=(d:Int):=by omega
   rw [this,Int.tdiv_eq_ediv_of_nonneg (by omega),D1 (by omega) (by omega)]
   omega
  have e2:wrap64 (8*Int.tmod (wrap64 (wrap64 ((s.size:Int)-1)-(i:Int))) 8)=((8*(d%8):Nat):Int):=by
   rw [D1 (x:=(s.size:Int)-1) (by omega) (by omega),D1 (x:=(s.size:Int)-1-(i:Int)) (by omega) (by omega)]
   have:(s.size:Int)-1-(i:Int)=(d:Int):=by omega
   rw [this,Int.tmod_eq_emod_of_nonneg (by omega),D1 (by omega) (by omega)]
   omega
  have e3:wrap64 ((i:Int)+1)=((i+1:Nat):Int):=by rw [D1 (by omega) (by omega)];omega
  have c1:(i:Int)<(s.size:Int):=by omega
  have c3:((d/8:Nat):Int)<(w.length:Int):=Int.ofNat_lt.2 hq
  have c4:0<(d/8:Nat)→d%8=0→(d-1)/8=d/8-1:=by omega
  have hi':i+1+d=s.size:=by omega
  obtain⟨hx0,hx1⟩:=D9 hd (d/8) hq
  obtain⟨hc0,hc1⟩:=D8U s (i:Int)
  obtain⟨ho,ho0,ho1,ho2⟩:=F6P (rd w ((d/8:Nat):Int)) (bt s (i:Int)) (d%8) hr hx0 hx1 hz1 hc0 hc1
  have hk:8*(d/8)+d%8=d:=Nat.div_add_mod d 8
  refine Ev.step (f:=fun k=>exact_words.l0 k s (w.set (d/8) (rd w ((d/8:Nat):Int)+bt s (i:Int)*256^(d%8))) (s.size:Int) ((i+1:Nat):Int)) (fun k=>?_) (ih (i+1) _ hi' (by rw [List.length_set];exact hl) (S8 hd _ ho0 ho1) ?_ ?_)
  ·simp only [exact_words.l0,e1,e2,e3]
   rw [if_pos c1,if_pos (Int.natCast_nonneg _),if_pos c3,if_pos (Int.natCast_nonneg _),if_pos c1,if_pos (Int.natCast_nonneg _),ho,Int.toNat_natCast]
  ·rw [X4 _ _ _ _ hq,hv,E0t s i (by omega)]
   have e:rd w ((d/8:Nat):Int)+bt s (i:Int)*256^(d%8)-rd w ((d/8:Nat):Int)=256^(d%8)*bt s (i:Int):=by
    rw [Int.mul_comm (256^(d%8))];omega
   rw [e,←Int.mul_assoc,D5j,hk,Int.pow_succ,Int.add_mul]
   generalize vB 256 ((O7 s).take i).reverse=H
   generalize(256:Int)^d=P
   generalize bt s (i:Int)=c
   rw [Int.mul_comm P c,Int.add_comm,Int.mul_assoc 256 H P,Int.mul_comm P 256,←Int.mul_assoc H 256 P,Int.mul_comm H 256,Int.mul_assoc 256 H P]
  ·intro hd0
   by_cases h0:d%8=0
   ·have h1:(d-1)/8=d/8-1:=by omega
    have h2:0<d/8:=by omega
    rw [h1]
    refine⟨?_,fun q hq'=>?_⟩
    ·rw [v6 _ _ _ _ (by omega),hz2 _ (by omega)]
     simp
    ·rw [v6 _ _ _ _ (by omega),hz2 _ (by omega)]
   ·have h1:(d-1)/8=d/8:=by omega
    have h2:(d-1)%8+1=d%8:=by omega
    rw [h1,h2]
    refine⟨?_,fun q hq'=>?_⟩
    ·rw [A4y _ _ _ hq]
     exact ho2
    ·rw [v6 _ _ _ _ (by omega),hz2 _ (by omega)]
theorem E1J (s:ByteArray) (hs:s.size≤1099511627776):Ev (fun k=>exact_words.f k s) (B6 (K9 s).toNat):=by
 have e1:wrap64 (Int.tdiv (wrap64 ((s.size:Int)+7)) 8)=(((s.size+7)/8:Nat):Int):=by
  rw [D1 (x:=(s.size:Int)+7) (by omega) (by omega),Int.tdiv_eq_ediv_of_nonneg (by omega),D1 (by omega) (by omega)]
  omega
 refine Ev.congr (f:=fun k=>exact_words.l0 k s (List.replicate ((s.size+7)/8) 0) (s.size:Int) ((0:Nat):Int)) (fun k=>?_) (F0c s hs s.size 0 _ (by omega) (by simp) (A4G (by decide) _) ?_ ?_)
 ·unfold exact_words.f
  rw [e1,if_pos (by omega),Int.toNat_natCast,if_pos (by omega)]
  rfl
 ·rw [A8x]
  simp [vB]
 ·intro _
  exact⟨by rw [A5B];simp,fun q _=>A5B _ _⟩
theorem A3M {n:Nat} (hs:(B2 n).size≤1099511627776):Ev (fun k=>exact_words.f k (B2 n)) (B6 n):=by
 have:=E1J (B2 n) hs
 rwa [bval_nat,Int.toNat_natCast]at this
theorem D2m (l:List Int) (p:Nat) (v:Int) (h:p<l.length):(l.set p v).reverse=l.reverse.set (l.length-1-p) v:=by
 apply List.ext_getElem?
 intro j
 rcases Nat.lt_or_ge j l.length with hj|hj
 ·rw [List.getElem?_reverse (by rw [List.length_set];exact hj),List.length_set,List.getElem?_set,List.getElem?_set,List.length_reverse]
  by_cases e:p=l.length-1-j
  ·have e':l.length-1-p=j:=by omega
   rw [if_pos e,if_pos h,if_pos e',if_pos (by omega)]
  ·have e':¬l.length-1-p=j:=by omega
   rw [if_neg e,if_neg e',List.getElem?_reverse hj]
 ·rw [List.getElem?_eq_none (by simp;omega),List.getElem?_eq_none (by simp;omega)]
theorem E4s (b:List Int) (hd:B7 256 b) (hb:b.length<9223372036854775807) (n:Nat) (hv:vB 256 b.reverse=n) (hn:n≠0):∀(d i:Nat),i+d=b.length→(∀j:Nat,j<i→rd b (j:Int)=0)→Ev (fun k=>exact_pack.l2 k b (i:Int)) (B2 n):=by
 intro d
 induction d with
 |zero=>
  intro i hi hz
  have:=B5i 256 (l:=b.reverse) (fun j hj=>by
   rw [List.length_reverse]at hj
   rw [B4U _ _ hj]
   exact hz _ (by omega))
  omega
 |succ d ih=>
  intro i hi hz
  by_cases h0:rd b (i:Int)=0
  ·have e1:wrap64 ((i:Int)+1)=((i+1:Nat):Int):=by rw [D1 (by omega) (by omega)];omega
   refine Ev.step (f:=fun k=>exact_pack.l2 k b ((i+1:Nat):Int)) (fun k=>?_) (ih (i+1) (by omega) (fun j hj=>?_))
   ·simp only [exact_pack.l2,e1]
    rw [if_pos (by omega),if_pos (by omega),if_pos h0]
   ·rcases Nat.lt_or_ge j i with h|h
    ·exact hz j h
    ·have:j=i:=by omega
     subst this
     exact h0
  ·refine Ev.step (f:=fun _=>some (B2 n)) (fun k=>?_) (Ev.now _)
   simp only [exact_pack.l2]
   rw [if_pos (by omega),if_pos (by omega),if_neg h0,if_pos (by omega),Int.toNat_natCast]
   congr 1
   unfold B2
   congr 1
   have hu:(b.drop i).reverse=d8 n:=by
    refine D8I (A9d (j8 hd _)) (fun hp=>?_) ?_
    ·rw [List.length_reverse]at hp⊢
     rw [B4U _ _ (by omega),D1P]
     have:i+((b.drop i).length-1-((b.drop i).length-1))=i:=by omega
     rw [this]
     exact h0
    ·rw [←hv]
     conv=>rhs;rw [←List.take_append_drop i b]
     rw [List.reverse_append,A3L,B5i 256 (l:=(b.take i).reverse) (fun j hj=>?_)]
     ·simp
     ·rw [List.length_reverse]at hj
      have hl:(b.take i).length=i:=by rw [List.length_take];omega
      rw [B4U _ _ hj,A9i _ _ _ (by omega)]
      exact hz _ (by omega)
   rw [←hu,List.reverse_reverse]
theorem E0V (x:Int) (s:Nat) (hs:s<8) (h0:0≤x) (h1:x<A6):shr .u64 x ((8*s:Nat):Int)%256=x/256^s%256:=by
 unfold shr
 rw [Int.toNat_natCast]
 have:min (8*s) IntKind.u64.bits=8*s:=Nat.min_eq_left (by show 8*s≤64;omega)
 rw [this,Int.pow_mul]
 rfl
theorem E8l (x:Int) (s:Nat) (hs:s<8) (h0:0≤x) (h1:x<A6):x%256^(s+1)=x%256^s+256^s*(x/256^s%256):=by
 have:s=0∨s=1∨s=2∨s=3∨s=4∨s=5∨s=6∨s=7:=by omega
 rcases this with rfl|rfl|rfl|rfl|rfl|rfl|rfl|rfl<;>simp<;>omega
def A8m (w b:List Int) (i s:Nat):Prop:=
 b.length=8*w.length∧B7 256 b∧vB 256 b.reverse=vB A6 (w.take i)+A6^i*(rd w (i:Int)%256^s)∧∀j:Nat,8*i+s≤j→rd b.reverse (j:Int)=0
theorem E4u {w b:List Int} {i s:Nat} (hw:B7 A6 w) (hi:i<w.length) (hs:s<8) (h:A8m w b i s):
  8*i+s<b.length∧A8m w (b.set (b.length-1-(8*i+s)) (rd w (i:Int)/256^s%256)) i (s+1):=by
 obtain⟨hl,hd,hv,hz⟩:=h
 obtain⟨hx0,hx1⟩:=D9 hw i hi
 have hlt:8*i+s<b.length:=by omega
 refine⟨hlt,by rw [List.length_set];exact hl,S8 hd _ (Int.emod_nonneg _ (by decide)) (Int.emod_lt_of_pos _ (by decide)),?_,fun j hj=>?_⟩
 ·rw [D2m _ _ _ (by omega)]
  have e:b.length-1-(b.length-1-(8*i+s))=8*i+s:=by omega
  rw [e,X4 _ _ _ _ (by rw [List.length_reverse];exact hlt),hz _ (Nat.le_refl _),hv,E8l _ s hs hx0 hx1,Int.sub_zero,Int.mul_add,←D5j,Int.mul_assoc,Int.add_assoc]
 ·rw [D2m _ _ _ (by omega)]
  have e:b.length-1-(b.length-1-(8*i+s))=8*i+s:=by omega
  rw [e,v6 _ _ _ _ (by omega)]
  exact hz j (by omega)
theorem F1R {w b:List Int} {i:Nat} (hw:B7 A6 w) (hi:i<w.length) (h:A8m w b i 8):A8m w b (i+1) 0:=by
 obtain⟨hl,hd,hv,hz⟩:=h
 obtain⟨hx0,hx1⟩:=D9 hw i hi
 refine⟨hl,hd,?_,fun j hj=>hz j (by omega)⟩
 rw [hv,C4T _ _ _ hi]
 have:rd w (i:Int)%256^8=rd w (i:Int):=Int.emod_eq_of_lt hx0 hx1
 rw [this]
 simp
theorem F1m (w:List Int) (hw:B7 A6 w) (hl:w.length≤1099511627776) (i:Nat) (hi:i<w.length) (r:ByteArray)
  (next:∀b,A8m w b (i+1) 0→Ev (fun k=>exact_pack.l0 k b w (w.length:Int) ((i+1:Nat):Int)) r):∀(d s:Nat) (b:List Int),s+d=8→A8m w b i s→
  Ev (fun k=>exact_pack.l1 k b (i:Int) (rd w (i:Int)) w (w.length:Int) (i:Int) (s:Int)) r:=by
 obtain⟨hx0,hx1⟩:=D9 hw i hi
 intro d
 induction d with
 |zero=>
  intro s b hs hp
  have hs:s=8:=by omega
  subst hs
  refine Ev.step (f:=fun k=>exact_pack.l0 k b w (w.length:Int) ((i+1:Nat):Int)) (fun k=>?_) (next b (F1R hw hi hp))
  have c1:¬((8:Nat):Int)<8:=by omega
  have e1:wrap64 ((i:Int)+1)=((i+1:Nat):Int):=by rw [D1 (by omega) (by omega)];omega
  simp only [exact_pack.l1,e1]
  rw [if_neg c1]
 |succ d ih=>
  intro s b hs hp
  have hlb:=hp.1
  obtain⟨hlt,hp'⟩:=E4u hw hi (by omega) hp
  refine Ev.step (f:=fun k=>exact_pack.l1 k (b.set (b.length-1-(8*i+s)) (rd w (i:Int)/256^s%256)) (i:Int) (rd w (i:Int)) w (w.length:Int) (i:Int) ((s+1:Nat):Int)) (fun k=>?_) (ih (s+1) _ (by omega) hp')
  have c1:((s:Nat):Int)<8:=by omega
  have c2:((b.length-1-(8*i+s):Nat):Int)<(b.length:Int):=by omega
  have e0:=E0V _ s (by omega) hx0 hx1
  have e1:wrap64 (8*(s:Int))=((8*s:Nat):Int):=by rw [D1 (by omega) (by omega)];omega
  have e2:wrap64 (wrap64 (wrap64 ((b.length:Int)-1)-((8*i:Nat):Int))-(s:Int))=((b.length-1-(8*i+s):Nat):Int):=by
   clear e1 e0
   rw [D1 (x:=(b.length:Int)-1) (by omega) (by omega),D1 (x:=(b.length:Int)-1-((8*i:Nat):Int)) (by omega) (by omega),D1 (by omega) (by omega)]
   omega
  have e4:wrap64 (8*(i:Int))=((8*i:Nat):Int):=by clear e0 e1 e2;rw [D1 (by omega) (by omega)];omega
  have e3:wrap64 ((s:Int)+1)=((s+1:Nat):Int):=by clear e0 e1 e2 e4;rw [D1 (by omega) (by omega)];omega
  simp only [exact_pack.l1,e1,e4,e2,e3]
  rw [if_pos c1,if_pos (Int.natCast_nonneg _),if_pos (Int.natCast_nonneg _),if_pos c2,Int.toNat_natCast,e0]
theorem E6f (w:List Int) (hw:B7 A6 w) (hl:w.length≤1099511627776) (n:Nat) (hv:vB A6 w=n) (hn:n≠0):∀(d i:Nat) (b:List Int),i+d=w.length→A8m w b i 0→Ev (fun k=>exact_pack.l0 k b w (w.length:Int) (i:Int)) (B2 n):=by
 intro d
 induction d with
 |zero=>
  intro i b hi hp
  obtain⟨h1,h2,h3,h4⟩:=hp
  have hi:i=w.length:=by omega
  subst hi
  have e:vB 256 b.reverse=n:=by
   rw [h3,List.take_of_length_le (Nat.le_refl _),hv]
   simp
  refine Ev.step (f:=fun k=>exact_pack.l2 k b ((0:Nat):Int)) (fun k=>?_) (E4s b h2 (by omega) n e hn b.length 0 (by omega) (fun j hj=>absurd hj (by omega)))
  simp only [exact_pack.l0]
  rw [if_neg (by omega)]
  rfl
 |succ d ih=>
  intro i b hi hp
  refine Ev.step (f:=fun k=>exact_pack.l1 k b (i:Int) (rd w (i:Int)) w (w.length:Int) (i:Int) ((0:Nat):Int)) (fun k=>?_) (F1m w hw hl i (by omega) (B2 n) (fun b' hp'=>ih (i+1) b' (by omega) hp') 8 0 b (by omega) hp)
  simp only [exact_pack.l0]
  rw [if_pos (by omega),if_pos (by omega),if_pos (by omega)]
  rfl
theorem A7l {l:List Int} (hd:B7 A6 l) (hl:l.length≤1099511627776):Ev (fun k=>exact_pack.f k l) (B2 (vB A6 l).toNat):=by
 have hv:=I6 (by decide) hd
 have ht:(B6 (vB A6 l).toNat).length≤l.length:=A6p (by
  have:=P2 (by decide) hd
  have h1:(((vB A6 l).toNat:Nat):Int)<((18446744073709551614+2:Nat):Int)^l.length:=by
   rw [Int.toNat_of_nonneg hv]
   exact this
  exact_mod_cast h1)
 refine Ev.congr (f:=fun k=>(exact_trim.f k l).bind fun t=>if(t.length:Int)=0 then some (⟨#[]⟩:ByteArray)else if 0≤wrap64 (8*(t.length:Int))then(if(wrap64 (8*(t.length:Int)):Int).toNat≤281474976710656 then exact_pack.l0 k (List.replicate (wrap64 (8*(t.length:Int)):Int).toNat 0) t (t.length:Int) 0 else none)else none) (fun k=>rfl) (Ev.bind (A5u hd (by omega)) ?_)
 generalize hn:(vB A6 l).toNat=n at*
 by_cases h0:n=0
 ·subst h0
  rw [B8x,C9f]
  exact Ev.now _
 ·have hne:(B6 n).length≠0:=by
   intro h
   have:=P4 n
   rw [List.eq_nil_of_length_eq_zero h]at this
   simp [vB]at this
   omega
  have e1:wrap64 (8*((B6 n).length:Int))=((8*(B6 n).length:Nat):Int):=by rw [D1 (by omega) (by omega)];omega
  refine Ev.congr (f:=fun k=>exact_pack.l0 k (List.replicate (8*(B6 n).length) 0) (B6 n) ((B6 n).length:Int) ((0:Nat):Int)) (fun k=>?_) (E6f (B6 n) (N6 n) (by omega) n (P4 n) h0 (B6 n).length 0 _ (by omega) ⟨by simp,A4G (by decide) _,?_,fun j _=>?_⟩)
  ·rw [e1,if_neg (by omega),if_pos (by omega),Int.toNat_natCast,if_pos (by omega)]
   rfl
  ·rw [List.reverse_replicate,A8x]
   simp [vB]
  ·rw [List.reverse_replicate,A5B]
theorem A2d {a b A B:Int} (a0:0≤a) (a1:a≤A) (b0:0≤b) (b1:b≤B):0≤a*b∧a*b≤A*B:=
 ⟨Int.mul_nonneg a0 b0,Int.le_trans (Int.mul_le_mul_of_nonneg_left b1 a0) (Int.mul_le_mul_of_nonneg_right a1 (by omega))⟩
theorem A9z {x:Int} (h0:0≤x) (h1:x<A6):Go.bits .and .u64 x 4294967295=x%4294967296:=
 bits_mask .u64 64 (by decide) B1c 32 (by decide) x h0 (by simpa using h1)
theorem B8j {x y:Int} (x0:0≤x) (x1:x<A6) (y0:0≤y) (y1:y<A6):bits_Mul64.f x y=some (x*y/A6,x*y%A6):=by
 have x1':x<18446744073709551616:=x1
 have y1':y<18446744073709551616:=y1
 show bits_Mul64.f x y=some (x*y/18446744073709551616,x*y%18446744073709551616)
 obtain⟨a,ha⟩:∃a,a=x/4294967296:=⟨_,rfl⟩
 obtain⟨b,hb⟩:∃b,b=x%4294967296:=⟨_,rfl⟩
 obtain⟨c,hc⟩:∃c,c=y/4294967296:=⟨_,rfl⟩
 obtain⟨d,hd⟩:∃d,d=y%4294967296:=⟨_,rfl⟩
 have hx:x=a*4294967296+b:=by omega
 have hy:y=c*4294967296+d:=by omega
 have a0:0≤a∧a≤4294967295:=by omega
 have b0:0≤b∧b≤4294967295:=by omega
 have c0:0≤c∧c≤4294967295:=by omega
 have d0:0≤d∧d≤4294967295:=by omega
 have hac:=A2d a0.1 a0.2 c0.1 c0.2
 have had:=A2d a0.1 a0.2 d0.1 d0.2
 have hbc:=A2d b0.1 b0.2 c0.1 c0.2
 have hbd:=A2d b0.1 b0.2 d0.1 d0.2
 have hp:x*y=a*c*18446744073709551616+(a*d+b*c)*4294967296+b*d:=by
  rw [hx,hy,Int.add_mul,Int.mul_add,Int.mul_add,Int.add_mul]
  have e1:a*4294967296*(c*4294967296)=a*c*18446744073709551616:=by
   rw [Int.mul_assoc,Int.mul_left_comm 4294967296 c,Int.mul_assoc a c]
   congr 1
  have e2:a*4294967296*d=a*d*4294967296:=by rw [Int.mul_assoc,Int.mul_comm 4294967296 d,←Int.mul_assoc]
  have e3:b*(c*4294967296)=b*c*4294967296:=by rw [Int.mul_assoc]
  rw [e1,e2,e3]
  omega
 unfold bits_Mul64.f
 rw [A9z x0 x1,A9z y0 y1,←ha,←hb,←hc,←hd,hp]
 generalize hA:a*c=p at*
 generalize hD:a*d=q at*
 generalize hC:b*c=r at*
 generalize hE:b*d=s at*
 clear hA hD hC hE hp hx hy ha hb hc hd x0 x1 y0 y1 x1' y1'
 have h1:(4294967295:Int)*4294967295=18446744065119617025:=rfl
 rw [h1]at*
 rw [u64 (x:=s) (by omega) (by omega),u64 (x:=q) (by omega) (by omega),u64 (x:=q+s/4294967296) (by omega) (by omega),A9z (x:=q+s/4294967296) (by omega) (by show _<(18446744073709551616:Int);omega),
  u64 (x:=r) (by omega) (by omega),u64 (x:=(q+s/4294967296)%4294967296+r) (by omega) (by omega),u64 (x:=p) (by omega) (by omega),
  u64 (x:=p+(q+s/4294967296)/4294967296) (by omega) (by omega)]
 have e:p+(q+s/4294967296)/4294967296+((q+s/4294967296)%4294967296+r)/4294967296=(p*18446744073709551616+(q+r)*4294967296+s)/18446744073709551616:=by omega
 rw [e,u64 (x:=(p*18446744073709551616+(q+r)*4294967296+s)/18446744073709551616) (by clear e;omega) (by clear e;omega),A1N]
theorem A8f {x y c:Int} (x0:0≤x) (y0:0≤y) (c0:0≤c) (c1:c≤1):bits_Add64.f x y c=some ((x+y+c)%A6,(x+y+c)/A6):=by
 unfold bits_Add64.f
 rw [if_pos ⟨x0,y0,c0,c1⟩]
theorem C4E {x y c:Int} (x0:0≤x) (x1:x<A6) (y0:0≤y) (y1:y<A6) (c0:0≤c) (c1:c≤1):∃d e,bits_Sub64.f x y c=some (d,e)∧0≤d∧d<A6∧0≤e∧e≤1∧d=x-y-c+A6*e:=by
 have x1':x<18446744073709551616:=x1
 have y1':y<18446744073709551616:=y1
 unfold bits_Sub64.f
 rw [if_pos ⟨x0,y0,by omega,c0,c1⟩]
 refine⟨_,_,rfl,Int.emod_nonneg _ (by decide),Int.emod_lt_of_pos _ (by decide),?_,?_,?_⟩
 ·split<;>decide
 ·split<;>decide
 ·show(x-y-c)%18446744073709551616=x-y-c+18446744073709551616*_
  split<;>omega
theorem mul_add {x y o c:Int} (x0:0≤x) (x1:x<A6) (y0:0≤y) (y1:y<A6) (o0:0≤o) (o1:o<A6) (c0:0≤c) (c1:c<A6):
  IntKind.u64.wrap (IntKind.u64.wrap (x*y/A6+(x*y%A6+o+0)/A6)+((x*y%A6+o+0)%A6+c+0)/A6)=(x*y+o+c)/A6∧((x*y%A6+o+0)%A6+c+0)%A6=(x*y+o+c)%A6∧0≤(x*y+o+c)/A6∧(x*y+o+c)/A6<A6:=by
 have x1':x<18446744073709551616:=x1
 have y1':y<18446744073709551616:=y1
 have o1':o<18446744073709551616:=o1
 have c1':c<18446744073709551616:=c1
 have hp:=A2d x0 (show x≤18446744073709551615 by omega) y0 (show y≤18446744073709551615 by omega)
 have h1:(18446744073709551615:Int)*18446744073709551615=340282366920938463426481119284349108225:=rfl
 rw [h1]at hp
 show IntKind.u64.wrap (IntKind.u64.wrap (x*y/18446744073709551616+(x*y%18446744073709551616+o+0)/18446744073709551616)+((x*y%18446744073709551616+o+0)%18446744073709551616+c+0)/18446744073709551616)=(x*y+o+c)/18446744073709551616∧((x*y%18446744073709551616+o+0)%18446744073709551616+c+0)%18446744073709551616=(x*y+o+c)%18446744073709551616∧0≤(x*y+o+c)/18446744073709551616∧(x*y+o+c)/18446744073709551616<18446744073709551616
 generalize x*y=p at*
 clear x0 x1 x1' y0 y1 y1' o1 c1 h1
 have a1:0≤p/18446744073709551616+(p%18446744073709551616+o+0)/18446744073709551616∧p/18446744073709551616+(p%18446744073709551616+o+0)/18446744073709551616<18446744073709551616:=by omega
 rw [u64 a1.1 a1.2]
 have a2:p/18446744073709551616+(p%18446744073709551616+o+0)/18446744073709551616+((p%18446744073709551616+o+0)%18446744073709551616+c+0)/18446744073709551616=(p+o+c)/18446744073709551616:=by omega
 have a3:0≤(p+o+c)/18446744073709551616∧(p+o+c)/18446744073709551616<18446744073709551616:=by omega
 rw [a2,u64 a3.1 a3.2]
 refine⟨rfl,by omega,a3.1,a3.2⟩
theorem O8 (B:Int) (l:List Int) (i:Nat):vB B (l.take (i+1))=vB B (l.take i)+B^i*rd l (i:Int):=by
 rcases Nat.lt_or_ge i l.length with h|h
 ·exact C4T B l i h
 ·rw [List.take_of_length_le (by omega),List.take_of_length_le h,u6,List.getD_eq_getElem?_getD,List.getElem?_eq_none h]
  simp
theorem A7W (l:List Int) (i:Nat) (h:l.length≤i):rd l (i:Int)=0:=by
 rw [u6,List.getD_eq_getElem?_getD,List.getElem?_eq_none h]
 rfl
theorem X2 (B:Int) (l:List Int) (i:Nat) (h:l.length≤i):vB B (l.take i)=vB B l:=by rw [List.take_of_length_le h]
def D1Z (a b out:List Int) (i:Nat):Prop:=
 out.length=a.length+b.length∧B7 A6 out∧vB A6 out=vB A6 (a.take i)*vB A6 b∧∀j:Nat,i+b.length≤j→rd out (j:Int)=0
def C2f (a b out:List Int) (i j:Nat) (c:Int):Prop:=
 out.length=a.length+b.length∧B7 A6 out∧(0≤c∧c<A6)∧vB A6 out+A6^(i+j)*c=vB A6 (a.take i)*vB A6 b+A6^i*(rd a (i:Int)*vB A6 (b.take j))∧∀n:Nat,i+b.length≤n→rd out (n:Int)=0
theorem E0s {a b out:List Int} {i j:Nat} {c:Int} (ha:B7 A6 a) (hb:B7 A6 b) (hi:i<a.length) (hj:j<b.length) (h:C2f a b out i j c):
  C2f a b (out.set (i+j) ((rd a (i:Int)*rd b (j:Int)+rd out ((i+j:Nat):Int)+c)%A6)) i (j+1) ((rd a (i:Int)*rd b (j:Int)+rd out ((i+j:Nat):Int)+c)/A6):=by
 obtain⟨hl,hd,hc,hv,hz⟩:=h
 obtain⟨x0,x1⟩:=D9 ha i hi
 obtain⟨y0,y1⟩:=D9 hb j hj
 obtain⟨o0,o1⟩:=D9 hd (i+j) (by omega)
 obtain⟨-, -,n0,n1⟩:=mul_add x0 x1 y0 y1 o0 o1 hc.1 hc.2
 refine⟨by rw [List.length_set];exact hl,S8 hd _ (Int.emod_nonneg _ (by decide)) (Int.emod_lt_of_pos _ (by decide)),⟨n0,n1⟩,?_,fun n hn=>?_⟩
 ·rw [X4 _ _ _ _ (by omega),O8,←Nat.add_assoc,Int.pow_succ]
  have e:=Int.emod_add_mul_ediv (rd a (i:Int)*rd b (j:Int)+rd out ((i+j:Nat):Int)+c) A6
  generalize(rd a (i:Int)*rd b (j:Int)+rd out ((i+j:Nat):Int)+c)/A6=q at*
  generalize(rd a (i:Int)*rd b (j:Int)+rd out ((i+j:Nat):Int)+c)%A6=r at*
  have er:r=rd a (i:Int)*rd b (j:Int)+rd out ((i+j:Nat):Int)+c-A6*q:=by omega
  rw [er]
  have ep:(A6:Int)^(i+j)=A6^i*A6^j:=Int.pow_add _ _ _
  rw [ep]at hv⊢
  clear ep
  generalize vB A6 out=V at*
  generalize vB A6 (List.take i a)*vB A6 b=W at*
  generalize vB A6 (List.take j b)=U at*
  generalize(A6:Int)^i=P at*
  generalize(A6:Int)^j=Q at*
  generalize rd a (i:Int)=x at*
  generalize rd b (j:Int)=y at*
  generalize rd out ((i+j:Nat):Int)=o at*
  have e1:P*Q*(x*y+o+c-A6*q-o)=P*Q*(x*y)+P*Q*c-P*Q*A6*q:=by
   rw [show x*y+o+c-A6*q-o=x*y+c-A6*q by omega,Int.mul_sub,Int.mul_add,Int.mul_assoc (P*Q) A6 q]
  have e2:P*(x*(U+Q*y))=P*(x*U)+P*Q*(x*y):=by
   rw [Int.mul_add x,Int.mul_add P,Int.mul_left_comm x Q y,Int.mul_assoc P Q]
  rw [e1,e2]
  omega
 ·rw [v6 _ _ _ _ (by omega)]
  exact hz n hn
theorem E8r (a b:List Int) (ha:B7 A6 a) (hb:B7 A6 b) (la:a.length≤1099511627776) (lb:b.length≤1099511627776) (i:Nat) (hi:i<a.length) (r:List Int)
  (next:∀out,D1Z a b out (i+1)→Ev (fun k=>exact_mulWords.l0 k b out a (a.length:Int) ((i+1:Nat):Int)) r):∀(d j:Nat) (out:List Int) (c:Int),j+d=b.length→C2f a b out i j c→
  Ev (fun k=>exact_mulWords.l1 k b out (i:Int) (rd a (i:Int)) c a (a.length:Int) (i:Int) b (b.length:Int) (j:Int)) r:=by
 intro d
 induction d with
 |zero=>
  intro j out c hj h
  have hj:j=b.length:=by omega
  subst hj
  have hl:=h.1
  have c1:i+b.length<out.length:=by omega
  have c2:((i+b.length:Nat):Int)<(out.length:Int):=Int.ofNat_lt.2 c1
  have e1:wrap64 ((i:Int)+(b.length:Int))=((i+b.length:Nat):Int):=by rw [D1 (by omega) (by omega)];omega
  have e2:wrap64 ((i:Int)+1)=((i+1:Nat):Int):=by clear e1;rw [D1 (by omega) (by omega)];omega
  obtain⟨-,hd,hc,hv,hz⟩:=h
  refine Ev.step (f:=fun k=>exact_mulWords.l0 k b (out.set (i+b.length) c) a (a.length:Int) ((i+1:Nat):Int)) (fun k=>?_) (next _ ⟨by rw [List.length_set];exact hl,S8 hd _ hc.1 hc.2,?_,fun j hj=>?_⟩)
  ·simp only [exact_mulWords.l1,e1,e2]
   rw [if_neg (Int.lt_irrefl _),if_pos (Int.natCast_nonneg _),if_pos c2,Int.toNat_natCast]
  ·rw [X4 _ _ _ _ c1,hz _ (Nat.le_refl _),Int.sub_zero,hv,O8,X2 _ _ _ (Nat.le_refl _),Int.add_mul,Int.mul_assoc]
  ·rw [v6 _ _ _ _ (by clear hv e1 e2;omega)]
   exact hz j (by clear hv e1 e2;omega)
 |succ d ih=>
  intro j out c hj h
  have hj':j<b.length:=by omega
  have hn:=E0s ha hb hi hj' h
  have hl:=h.1
  have c1:i+j<out.length:=by omega
  have c2:((i+j:Nat):Int)<(out.length:Int):=Int.ofNat_lt.2 c1
  have c3:(j:Int)<(b.length:Int):=Int.ofNat_lt.2 hj'
  have c4:j+1+d=b.length:=by omega
  have e1:wrap64 ((i:Int)+(j:Int))=((i+j:Nat):Int):=by rw [D1 (by omega) (by omega)];omega
  have e2:wrap64 ((j:Int)+1)=((j+1:Nat):Int):=by clear e1;rw [D1 (by omega) (by omega)];omega
  obtain⟨-,hd,hc, -, -⟩:=h
  obtain⟨x0,x1⟩:=D9 ha i hi
  obtain⟨y0,y1⟩:=D9 hb j hj'
  obtain⟨o0,o1⟩:=D9 hd (i+j) c1
  obtain⟨m0,m1, -, -⟩:=mul_add x0 x1 y0 y1 o0 o1 hc.1 hc.2
  have a1:=B8j x0 x1 y0 y1
  have a2:=A8f (Int.emod_nonneg (rd a (i:Int)*rd b (j:Int)) (show(A6:Int)≠0 by decide)) o0 (Int.le_refl 0) (by decide)
  have a3:=A8f (Int.emod_nonneg (rd a (i:Int)*rd b (j:Int)%A6+rd out ((i+j:Nat):Int)+0) (show(A6:Int)≠0 by decide)) hc.1 (Int.le_refl 0) (by decide)
  refine Ev.step (f:=fun k=>exact_mulWords.l1 k b (out.set (i+j) ((rd a (i:Int)*rd b (j:Int)+rd out ((i+j:Nat):Int)+c)%A6)) (i:Int) (rd a (i:Int)) ((rd a (i:Int)*rd b (j:Int)+rd out ((i+j:Nat):Int)+c)/A6) a (a.length:Int) (i:Int) b (b.length:Int) ((j+1:Nat):Int)) (fun k=>?_) (ih (j+1) _ _ c4 hn)
  simp only [exact_mulWords.l1,e1,e2]
  rw [if_pos c3,if_pos (Int.natCast_nonneg _),if_pos c3,a1,Option.bind_some,if_pos (Int.natCast_nonneg _),if_pos c2,a2,Option.bind_some,a3,Option.bind_some,m0,m1,Int.toNat_natCast]
theorem E5k (a b:List Int) (ha:B7 A6 a) (hb:B7 A6 b) (la:a.length≤1099511627776) (lb:b.length≤1099511627776):∀(d i:Nat) (out:List Int),i+d=a.length→D1Z a b out i→
  Ev (fun k=>exact_mulWords.l0 k b out a (a.length:Int) (i:Int)) (B6 (vB A6 a*vB A6 b).toNat):=by
 intro d
 induction d with
 |zero=>
  intro i out hi h
  have hi:i=a.length:=by omega
  subst hi
  obtain⟨hl,hd,hv,hz⟩:=h
  rw [X2 _ _ _ (Nat.le_refl _)]at hv
  refine Ev.step (f:=fun k=>(exact_trim.f k out).bind fun t=>some t) (fun k=>?_) (Ev.bind (A5u hd (by omega)) ?_)
  ·simp only [exact_mulWords.l0]
   rw [if_neg (Int.lt_irrefl _)]
  ·rw [hv]
   exact Ev.now _
 |succ d ih=>
  intro i out hi h
  have hi':i<a.length:=by omega
  have c1:(i:Int)<(a.length:Int):=Int.ofNat_lt.2 hi'
  obtain⟨hl,hd,hv,hz⟩:=h
  refine Ev.step (f:=fun k=>exact_mulWords.l1 k b out (i:Int) (rd a (i:Int)) 0 a (a.length:Int) (i:Int) b (b.length:Int) ((0:Nat):Int)) (fun k=>?_) (E8r a b ha hb la lb i hi' _ (fun out' h'=>ih (i+1) out' (by omega) h') b.length 0 out 0 (by omega) ⟨hl,hd,⟨by decide,by decide⟩,?_,hz⟩)
  ·simp only [exact_mulWords.l0]
   rw [if_pos c1,if_pos (Int.natCast_nonneg _),if_pos c1]
   rfl
  ·rw [hv]
   simp [vB]
theorem E7T {a b:List Int} (ha:B7 A6 a) (hb:B7 A6 b) (la:a.length≤1099511627776) (lb:b.length≤1099511627776):Ev (fun k=>exact_mulWords.f k a b) (B6 (vB A6 a*vB A6 b).toNat):=by
 have e1:wrap64 ((a.length:Int)+(b.length:Int))=((a.length+b.length:Nat):Int):=by rw [D1 (by omega) (by omega)];omega
 refine Ev.congr (f:=fun k=>exact_mulWords.l0 k b (List.replicate (a.length+b.length) 0) a (a.length:Int) ((0:Nat):Int)) (fun k=>?_) (E5k a b ha hb la lb a.length 0 _ (by omega) ⟨by simp,A4G (by decide) _,?_,fun j _=>A5B _ _⟩)
 ·unfold exact_mulWords.f
  rw [e1,if_pos (Int.natCast_nonneg _),Int.toNat_natCast,if_pos (by omega)]
  rfl
 ·rw [A8x]
  simp [vB]
theorem E5a {m n:Nat} (lm:(B6 m).length≤1099511627776) (ln:(B6 n).length≤1099511627776):Ev (fun k=>exact_mulWords.f k (B6 m) (B6 n)) (B6 (m*n)):=by
 have:=E7T (N6 m) (N6 n) lm ln
 rw [P4,P4]at this
 rwa [show((m:Int)*(n:Int)).toNat=m*n by rw [←Int.natCast_mul,Int.toNat_natCast]]at this
theorem A4g {m n:Nat} (h:m≤n):(B2 m).size≤(B2 n).size:=A9p.2 (Nat.lt_of_le_of_lt h (B4m n))
theorem E7b {m n:Nat}:(B2 (m*n)).size≤(B2 m).size+(B2 n).size:=by
 apply A9p.2
 rw [Nat.pow_add]
 have h1:=B4m m
 have h2:=B4m n
 exact Nat.lt_of_le_of_lt (Nat.mul_le_mul_right _ (Nat.le_of_lt h1)) (Nat.mul_lt_mul_of_pos_left h2 (Nat.lt_of_le_of_lt (Nat.zero_le _) h1))
theorem A4C (n:Nat):(B6 n).length≤((B2 n).size+7)/8:=by
 apply A6p
 have h1:=B4m n
 have h2:256^(B2 n).size≤256^(8*(((B2 n).size+7)/8)):=Nat.pow_le_pow_right (by decide) (by omega)
 rw [Nat.pow_mul]at h2
 exact Nat.lt_of_lt_of_le h1 h2
def C9U (x y out:List Int) (i:Nat) (c:Int):Prop:=
 out.length=x.length+1∧B7 A6 out∧(0≤c∧c≤1)∧vB A6 out+A6^i*c=vB A6 (x.take i)+vB A6 (y.take i)∧∀n:Nat,i≤n→rd out (n:Int)=0
theorem B5Z {x y c:Int} (x0:0≤x) (x1:x<A6) (y0:0≤y) (y1:y<A6) (c0:0≤c) (c1:c≤1):0≤(x+y+c)/A6∧(x+y+c)/A6≤1:=by
 have x1':x<18446744073709551616:=x1
 have y1':y<18446744073709551616:=y1
 show 0≤(x+y+c)/18446744073709551616∧(x+y+c)/18446744073709551616≤1
 omega
theorem E9O {x y out:List Int} {i:Nat} {c:Int} (hx:B7 A6 x) (hy:B7 A6 y) (hi:i<x.length) (h:C9U x y out i c):
  C9U x y (out.set i ((rd x (i:Int)+rd y (i:Int)+c)%A6)) (i+1) ((rd x (i:Int)+rd y (i:Int)+c)/A6):=by
 obtain⟨hl,hd,hc,hv,hz⟩:=h
 obtain⟨x0,x1⟩:=D9 hx i hi
 obtain⟨y0,y1⟩:=A6f (by decide) hy i
 refine⟨by rw [List.length_set];exact hl,S8 hd _ (Int.emod_nonneg _ (by decide)) (Int.emod_lt_of_pos _ (by decide)),B5Z x0 x1 y0 y1 hc.1 hc.2,?_,fun n hn=>?_⟩
 ·rw [X4 _ _ _ _ (by clear hv;omega),hz _ (Nat.le_refl _),Int.sub_zero,O8,O8,Int.pow_succ]
  have e:=Int.emod_add_mul_ediv (rd x (i:Int)+rd y (i:Int)+c) A6
  generalize(rd x (i:Int)+rd y (i:Int)+c)/A6=q at*
  generalize(rd x (i:Int)+rd y (i:Int)+c)%A6=r at*
  have er:r=rd x (i:Int)+rd y (i:Int)+c-A6*q:=by clear hv;omega
  rw [er,Int.mul_sub,Int.mul_add,Int.mul_add,Int.mul_assoc (A6^i) A6 q]
  generalize(A6:Int)^i=P at*
  omega
 ·rw [v6 _ _ _ _ (by clear hv;omega)]
  exact hz n (by clear hv;omega)
theorem E5B (x y:List Int) (hx:B7 A6 x) (hy:B7 A6 y) (lx:x.length≤1099511627775) (hyx:y.length≤x.length) (n:Nat) (hn:vB A6 x+vB A6 y=n):∀(d i:Nat) (out:List Int) (c:Int),i+d=x.length→C9U x y out i c→
  Ev (fun k=>exact_NatAdd.l0 k x y out c (x.length:Int) (i:Int)) (B2 n):=by
 intro d
 induction d with
 |zero=>
  intro i out c hi h
  have hi:i=x.length:=by omega
  subst hi
  have hl:=h.1
  have c1:(x.length:Int)<(out.length:Int):=by omega
  have c2:x.length<out.length:=by omega
  have c3:out.length≤1099511627776:=by omega
  obtain⟨-,hd,hc,hv,hz⟩:=h
  have hd':B7 A6 (out.set x.length c):=S8 hd _ hc.1 (by have:=hc.2;exact Int.lt_of_le_of_lt this (by decide))
  have hv':vB A6 (out.set x.length c)=n:=by
   rw [X4 _ _ _ _ c2,hz _ (Nat.le_refl _),Int.sub_zero,hv,X2 _ _ _ (Nat.le_refl _),X2 _ _ _ hyx,hn]
  have:=A7l hd' (by rw [List.length_set];exact c3)
  rw [hv',Int.toNat_natCast]at this
  refine Ev.step (f:=fun k=>(exact_pack.f k (out.set x.length c)).bind fun t=>some t) (fun k=>?_) (Ev.bind this (Ev.now _))
  simp only [exact_NatAdd.l0]
  rw [if_neg (Int.lt_irrefl _),if_pos (Int.natCast_nonneg _),if_pos c1,Int.toNat_natCast]
 |succ d ih=>
  intro i out c hi h
  have hi':i<x.length:=by omega
  have c0:i+1+d=x.length:=by omega
  have c1:(i:Int)<(x.length:Int):=Int.ofNat_lt.2 hi'
  have hl:=h.1
  have c2:(i:Int)<(out.length:Int):=by omega
  have c3:¬(i:Int)<(y.length:Int)→rd y (i:Int)=0:=fun h=>A7W y i (by omega)
  have e1:wrap64 ((i:Int)+1)=((i+1:Nat):Int):=by clear c3;rw [D1 (by omega) (by omega)];omega
  have hn':=E9O hx hy hi' h
  obtain⟨-,hd,hc, -, -⟩:=h
  obtain⟨x0,x1⟩:=D9 hx i hi'
  obtain⟨y0,y1⟩:=A6f (by decide) hy i
  have ea:=A8f x0 y0 hc.1 hc.2
  refine Ev.step (f:=fun k=>exact_NatAdd.l0 k x y (out.set i ((rd x (i:Int)+rd y (i:Int)+c)%A6)) ((rd x (i:Int)+rd y (i:Int)+c)/A6) (x.length:Int) ((i+1:Nat):Int)) (fun k=>?_) (ih (i+1) _ _ c0 hn')
  simp only [exact_NatAdd.l0,e1]
  rw [if_pos c1]
  by_cases hy':(i:Int)<(y.length:Int)
  ·rw [if_pos hy',if_pos (Int.natCast_nonneg _),if_pos c1,ea,Option.bind_some,if_pos c2,Int.toNat_natCast]
  ·rw [c3 hy']at ea
   rw [if_neg hy',if_pos (Int.natCast_nonneg _),if_pos c1,ea,Option.bind_some,if_pos c2,Int.toNat_natCast,c3 hy']
theorem D1i {m n:Nat} (hm:(B6 m).length≤1099511627775) (h:(B6 n).length≤(B6 m).length):Ev (fun k=>exact_NatAdd.j0 k (B6 m) (B6 n)) (B2 (m+n)):=by
 have e1:wrap64 (((B6 m).length:Int)+1)=(((B6 m).length+1:Nat):Int):=by rw [D1 (by omega) (by omega)];omega
 refine Ev.step (f:=fun k=>exact_NatAdd.l0 k (B6 m) (B6 n) (List.replicate ((B6 m).length+1) 0) 0 ((B6 m).length:Int) ((0:Nat):Int)) (fun k=>?_) (E5B (B6 m) (B6 n) (N6 m) (N6 n) hm h (m+n) (by rw [P4,P4,Int.natCast_add]) (B6 m).length 0 _ _ (Nat.zero_add _) ⟨by simp,A4G (by decide) _,⟨by decide,by decide⟩,?_,fun j _=>A5B _ _⟩)
 ·simp only [exact_NatAdd.j0,e1]
  rw [if_pos (Int.natCast_nonneg _),Int.toNat_natCast,if_pos (by omega)]
  rfl
 ·rw [A8x]
  simp [vB]
theorem E2H {m n:Nat} (hm:(B2 m).size≤1099511627776) (hn:(B2 n).size≤1099511627776):Ev (fun k=>exact_NatAdd.f k (B2 m) (B2 n)) (B2 (m+n)):=by
 have lm:=A4C m
 have ln:=A4C n
 refine Ev.bind (f:=fun k t318=>(exact_words.f k (B2 n)).bind fun t321=>(if(t318.length:Int)<(t321.length:Int)then(exact_NatAdd.j0 k t321 t318)else(exact_NatAdd.j0 k t318 t321))) (A3M hm) (Ev.bind (A3M hn) ?_)
 by_cases h:((B6 m).length:Int)<((B6 n).length:Int)
 ·refine Ev.congr (f:=fun k=>exact_NatAdd.j0 k (B6 n) (B6 m)) (fun k=>if_pos h) ?_
  rw [Nat.add_comm m n]
  exact D1i (by omega) (by omega)
 ·refine Ev.congr (f:=fun k=>exact_NatAdd.j0 k (B6 m) (B6 n)) (fun k=>if_neg h) ?_
  exact D1i (by omega) (by omega)
def C2X (x y z:List Int) (i:Nat) (c:Int):Prop:=
 z.length=x.length∧B7 A6 z∧(0≤c∧c≤1)∧vB A6 z+vB A6 (y.take i)=vB A6 x+A6^i*c
theorem F4T {x y z:List Int} {i:Nat} {c d e:Int} (hi:i<x.length) (h:C2X x y z i c) (d0:0≤d) (d1:d<A6) (e0:0≤e) (e1:e≤1) (he:d=rd z (i:Int)-rd y (i:Int)-c+A6*e):
  C2X x y (z.set i d) (i+1) e:=by
 obtain⟨hl,hd,hc,hv⟩:=h
 refine⟨by rw [List.length_set];exact hl,S8 hd _ d0 d1,⟨e0,e1⟩,?_⟩
 rw [X4 _ _ _ _ (by clear hv;omega),O8,Int.pow_succ,he]
 have:rd z (i:Int)-rd y (i:Int)-c+A6*e-rd z (i:Int)=A6*e-rd y (i:Int)-c:=by clear hv;omega
 rw [this,Int.mul_sub,Int.mul_sub,Int.mul_assoc (A6^i) A6 e]
 generalize(A6:Int)^i=P at*
 omega
theorem E4Q (x y:List Int) (hx:B7 A6 x) (hy:B7 A6 y) (lx:x.length≤1099511627775) (hyx:y.length≤x.length) (n:Nat) (hn:vB A6 x=vB A6 y+n):∀(d i:Nat) (z:List Int) (c:Int),i+d=x.length→C2X x y z i c→
  Ev (fun k=>exact_NatSub.l0 k z y c (x.length:Int) (i:Int)) (B2 n):=by
 intro d
 induction d with
 |zero=>
  intro i z c hi h
  have hi:i=x.length:=by omega
  subst hi
  have hl:=h.1
  have c3:z.length≤1099511627776:=by omega
  obtain⟨-,hd,hc,hv⟩:=h
  have hv':vB A6 z=n:=by
   have h1:=P2 (by decide) hd
   rw [X2 _ _ _ hyx,hn]at hv
   rw [hl]at h1
   have h2:c=0∨c=1:=by clear h1 hv;omega
   rcases h2 with rfl|rfl
   ·rw [Int.mul_zero]at hv
    clear h1
    omega
   ·rw [Int.mul_one]at hv
    generalize(A6:Int)^x.length=P at*
    omega
  have:=A7l hd c3
  rw [hv',Int.toNat_natCast]at this
  refine Ev.step (f:=fun k=>(exact_pack.f k z).bind fun t=>some t) (fun k=>?_) (Ev.bind this (Ev.now _))
  simp only [exact_NatSub.l0]
  rw [if_neg (Int.lt_irrefl _)]
 |succ d ih=>
  intro i z c hi h
  have hi':i<x.length:=by omega
  have c0:i+1+d=x.length:=by omega
  have hl:=h.1
  have c1:(i:Int)<(x.length:Int):=Int.ofNat_lt.2 hi'
  have c2:(i:Int)<(z.length:Int):=by omega
  have c3:¬(i:Int)<(y.length:Int)→rd y (i:Int)=0:=fun h=>A7W y i (by omega)
  have e1:wrap64 ((i:Int)+1)=((i+1:Nat):Int):=by clear c3;rw [D1 (by omega) (by omega)];omega
  have h':=h
  obtain⟨-,hd,hc, -⟩:=h
  obtain⟨x0,x1⟩:=D9 hd i (by rw [hl];exact hi')
  obtain⟨y0,y1⟩:=A6f (by decide) hy i
  obtain⟨d,e,ea,d0,d1,b0,b1,he⟩:=C4E x0 x1 y0 y1 hc.1 hc.2
  refine Ev.step (f:=fun k=>exact_NatSub.l0 k (z.set i d) y e (x.length:Int) ((i+1:Nat):Int)) (fun k=>?_) (ih (i+1) _ _ c0 (F4T hi' h' d0 d1 b0 b1 he))
  simp only [exact_NatSub.l0,e1]
  rw [if_pos c1]
  by_cases hy':(i:Int)<(y.length:Int)
  ·rw [if_pos hy',if_pos (Int.natCast_nonneg _),if_pos c2,ea,Option.bind_some,Int.toNat_natCast]
  ·rw [c3 hy']at ea
   rw [if_neg hy',if_pos (Int.natCast_nonneg _),if_pos c2,ea,Option.bind_some,Int.toNat_natCast]
theorem B1N {m n:Nat} (h:m≤n):(B6 m).length≤(B6 n).length:=A6p (Nat.lt_of_le_of_lt h (C2T 18446744073709551614 n))
theorem D0H {m n:Nat} (hm:(B2 m).size≤1099511627776) (h:n≤m):Ev (fun k=>exact_NatSub.f k (B2 m) (B2 n)) (B2 (m-n)):=by
 have lm:=A4C m
 have hn:(B2 n).size≤1099511627776:=Nat.le_trans (A4g h) hm
 refine Ev.bind (f:=fun k t367=>(exact_words.f k (B2 n)).bind fun t370=>exact_NatSub.l0 k t367 t370 0 (t367.length:Int) 0) (A3M hm) (Ev.bind (A3M hn) ?_)
 exact E4Q (B6 m) (B6 n) (N6 m) (N6 n) (by omega) (B1N h) (m-n) (by rw [P4,P4];omega) (B6 m).length 0 _ _ (Nat.zero_add _) ⟨rfl,N6 m,⟨by decide,by decide⟩,by simp [vB]⟩
theorem B3k {m n:Nat} (hm:(B2 m).size≤1099511627776) (hn:(B2 n).size≤1099511627776):Ev (fun k=>exact_NatMul.f k (B2 m) (B2 n)) (B2 (m*n)):=by
 have lm:=A4C m
 have ln:=A4C n
 have hl:(B6 (m*n)).length≤1099511627776:=by
  have h1:=A4C (m*n)
  have h2:=E7b (m:=m) (n:=n)
  omega
 refine Ev.bind (f:=fun k t422=>(exact_words.f k (B2 n)).bind fun t425=>((exact_mulWords.f k t422 t425).bind fun t428=>((exact_pack.f k t428).bind fun t431=>(some t431)))) (A3M hm) (Ev.bind (f:=fun k t425=>((exact_mulWords.f k (B6 m) t425).bind fun t428=>((exact_pack.f k t428).bind fun t431=>(some t431)))) (A3M hn) (Ev.bind (f:=fun k t428=>((exact_pack.f k t428).bind fun t431=>(some t431))) (E5a (by omega) (by omega)) ?_))
 have:=A7l (N6 (m*n)) hl
 rw [P4,Int.toNat_natCast]at this
 exact Ev.bind this (Ev.now _)
def L5 (m n:Nat):Int:=if m<n then -1 else if m=n then 0 else 1
def bv (l:List UInt8):Int:=vB 256 (l.map fun b=>(b.toNat:Int)).reverse
theorem D7O (a:UInt8) (l:List UInt8):bv (a::l)=bv l+256^l.length*(a.toNat:Int):=by
 unfold bv
 rw [List.map_cons,List.reverse_cons,A3L]
 simp [vB]
theorem D3d (l:List UInt8):0≤bv l∧bv l<256^l.length:=by
 have hd:B7 256 (l.map fun b=>(b.toNat:Int)).reverse:=by
  apply A9d
  intro x hx
  obtain⟨b,_,rfl⟩:=List.mem_map.1 hx
  have:=b.toNat_lt
  omega
 refine⟨I6 (by decide) hd,?_⟩
 have:=P2 (by decide) hd
 rw [List.length_reverse,List.length_map]at this
 exact this
theorem D5z:∀(x y:List UInt8),x.length=y.length→(Op.bytesLess x y=true↔bv x<bv y)
 | [],[],_=>by simp [Op.bytesLess]
 | [],_::_,h=>by simp at h
 |_::_,[],h=>by simp at h
 |a::x,b::y,h=>by
  have h':x.length=y.length:=by simpa using h
  have ih:=D5z x y h'
  obtain⟨a0,a1⟩:=D3d x
  obtain⟨b0,b1⟩:=D3d y
  rw [D7O,D7O,h']at*
  have hP:(0:Int)<256^y.length:=Int.pow_pos (by decide)
  generalize(256:Int)^y.length=P at*
  simp only [Op.bytesLess,Bool.or_eq_true,Bool.and_eq_true,decide_eq_true_eq,beq_iff_eq,ih]
  have hlt:a<b↔a.toNat<b.toNat:=UInt8.lt_iff_toNat_lt
  have heq:a=b↔a.toNat=b.toNat:=UInt8.toNat_inj.symm
  rw [hlt,heq]
  rcases Nat.lt_trichotomy a.toNat b.toNat with hc|hc|hc
  ·have:P*((a.toNat:Int)+1)≤P*(b.toNat:Int):=Int.mul_le_mul_of_nonneg_left (by omega) (by omega)
   rw [Int.mul_add,Int.mul_one]at this
   constructor
   ·intro _;omega
   ·intro _;exact Or.inl hc
  ·rw [hc]
   constructor
   ·rintro(h| ⟨_,h⟩)
    ·omega
    ·omega
   ·intro h;exact Or.inr ⟨rfl,by omega⟩
  ·have:P*((b.toNat:Int)+1)≤P*(a.toNat:Int):=Int.mul_le_mul_of_nonneg_left (by omega) (by omega)
   rw [Int.mul_add,Int.mul_one]at this
   constructor
   ·rintro(h| ⟨h,_⟩)<;>omega
   ·intro h;omega
theorem D3G (s:ByteArray):bv s.toList=K9 s:=by
 unfold bv K9 O7
 rw [ByteArray.toList_eq]
theorem D8O (s:ByteArray):s.toList.length=s.size:=by
 rw [ByteArray.toList_eq,B3m]
theorem D0T {m n:Nat} (h:(B2 m).size=(B2 n).size):Op.bytesLess (B2 m).toList (B2 n).toList=decide (m<n):=by
 have:=D5z (B2 m).toList (B2 n).toList (by rw [D8O,D8O,h])
 rw [D3G,D3G,bval_nat,bval_nat,Int.ofNat_lt]at this
 rw [Bool.eq_iff_iff,this,decide_eq_true_iff]
theorem B8P {m n:Nat} (h:(B2 m).size<(B2 n).size):m<n:=by
 rcases Nat.lt_or_ge m n with h1|h1
 ·exact h1
 ·have:=A4g h1
  omega
theorem F1D (m n:Nat):Ev (fun k=>exact_NatCmp.f k (B2 m) (B2 n)) (L5 m n):=by
 have hj:∀b:Bool,b=decide (m<n)→Ev (fun k=>exact_NatCmp.j0 k (B2 m) (B2 n) b) (L5 m n):=by
  rintro b rfl
  refine Ev.step (f:=fun _=>some (L5 m n)) (fun k=>?_) (Ev.now _)
  simp only [exact_NatCmp.j0,D7B,B0V,decide_eq_true_eq,L5]
  split
  ·rfl
  ·split<;>rfl
 by_cases h1:(B2 m).size<(B2 n).size
 ·refine Ev.congr (f:=fun k=>exact_NatCmp.j0 k (B2 m) (B2 n) true) (fun k=>?_) (hj _ (by simp [B8P h1]))
  unfold exact_NatCmp.f
  rw [if_pos (by omega)]
 ·by_cases h2:(B2 m).size=(B2 n).size
  ·refine Ev.congr (f:=fun k=>exact_NatCmp.j0 k (B2 m) (B2 n) (Op.bytesLess (B2 m).toList (B2 n).toList)) (fun k=>?_) (hj _ (D0T h2))
   unfold exact_NatCmp.f
   rw [if_neg (by omega),if_pos (by omega)]
  ·refine Ev.congr (f:=fun k=>exact_NatCmp.j0 k (B2 m) (B2 n) false) (fun k=>?_) (hj _ (by
    have:n<m:=B8P (by omega)
    simp;omega))
   unfold exact_NatCmp.f
   rw [if_neg (by omega),if_neg (by omega)]
def I8 (s:ByteArray):Int:=if 0<s.size∧bt s 0=0 then 1 else if 1024<s.size then 4 else 0
theorem Check_ev (s:ByteArray):Ev (fun k=>natural_Check.f k s) (I8 s):=by
 have hj:∀b:Bool,(b=true↔0<s.size∧bt s 0=0)→Ev (fun k=>natural_Check.j0 k s b) (I8 s):=by
  intro b hb
  refine Ev.step (f:=fun _=>some (I8 s)) (fun k=>?_) (Ev.now _)
  unfold I8
  simp only [natural_Check.j0]
  by_cases h:b=true
  ·rw [if_pos h,if_pos (hb.1 h)]
  ·rw [if_neg h,if_neg (fun h'=>h (hb.2 h'))]
   by_cases h3:1024<s.size
   ·rw [if_pos (by omega),if_pos h3]
   ·rw [if_neg (by omega),if_neg h3]
 by_cases h:0<s.size
 ·refine Ev.congr (f:=fun k=>natural_Check.j0 k s (bt s 0==0)) (fun k=>?_) (hj _ (by simp [h]))
  unfold natural_Check.f
  rw [if_pos (by omega),if_pos (by omega)]
 ·refine Ev.congr (f:=fun k=>natural_Check.j0 k s false) (fun k=>?_) (hj _ (by simp [h]))
  unfold natural_Check.f
  rw [if_neg (by omega)]
theorem B7p {n:Nat} (h:(B2 n).size≤1024):I8 (B2 n)=0:=by
 unfold I8
 rw [if_neg,if_neg (by omega)]
 rintro⟨h1,h2⟩
 rcases E1I n with h3|h3
 ·omega
 ·exact h3 h2
theorem C5d {s:ByteArray} (h:I8 s=0):s=B2 (K9 s).toNat∧s.size≤1024:=by
 unfold I8 at h
 by_cases h1:0<s.size∧bt s 0=0
 ·rw [if_pos h1]at h;omega
 ·rw [if_neg h1]at h
  refine⟨E8X ?_,?_⟩
  ·rcases Nat.eq_zero_or_pos s.size with h2|h2
   ·exact Or.inl h2
   ·exact Or.inr (fun h3=>h1 ⟨h2,h3⟩)
  ·rcases Nat.lt_or_ge 1024 s.size with h2|h2
   ·rw [if_pos h2]at h;omega
   ·exact h2
def bnd (n:Nat):ByteArray×Int:=if 1024<(B2 n).size then(⟨#[]⟩,4)else(B2 n,0)
theorem A3N {α β:Type} {o:Option α} {f:Nat→α→Option β} {a:α} {r:β} (h:o=some a) (k:Ev (fun n=>f n a) r):Ev (fun n=>o.bind (f n)) r:=by subst h;exact k
theorem l7 {s:ByteArray} (h:I8 s=0):∃n,s=B2 n∧(B2 n).size≤1024:=by
 obtain⟨h1,h2⟩:=C5d h
 exact⟨_,h1,by rw [←h1];exact h2⟩
theorem B3K (x:Int) (s:Nat) (hs:s≤64):shl .u64 x (s:Int)=(x*2^s)%18446744073709551616:=by
 unfold shl
 rw [Int.toNat_natCast,A1N,show min s IntKind.u64.bits=s from Nat.min_eq_left hs]
theorem B5B (x:Int) (s:Nat) (hs:s≤64):shr .u64 x (s:Int)=x/2^s:=by
 unfold shr
 rw [Int.toNat_natCast,show min s IntKind.u64.bits=s from Nat.min_eq_left hs]
theorem D6A {y:Int} (y0:0<y) (y1:y<A6):∃s:Nat,s≤63∧bits_LeadingZeros64.f y=some (s:Int)∧9223372036854775808≤y*2^s∧y*2^s<18446744073709551616:=by
 have y1':y<18446744073709551616:=y1
 obtain⟨n,rfl⟩:=Int.eq_ofNat_of_zero_le (Int.le_of_lt y0)
 have hn:n<2^64:=by omega
 obtain⟨h1,h2,h3⟩:=Lib.bitLenAux_bounds 64 n hn (by omega)
 have h4:Lib.bitLen n≤64:=Lib.bitLen_le n 64 (by decide) hn
 have e:Lib.bitLenAux 64 n=Lib.bitLen n:=rfl
 rw [e]at h1 h2 h3
 generalize hL:Lib.bitLen n=L at*
 refine⟨64-L,by omega,?_,?_,?_⟩
 ·unfold bits_LeadingZeros64.f bits_Len64.f
  rw [if_pos (by omega),Option.bind_some,Int.toNat_natCast,hL,D1 (by omega) (by omega)]
  congr 1
  omega
 ·have h5:2^(L-1)*2^(64-L)=2^63:=by rw [←Nat.pow_add];congr 1;omega
  have h6:=Nat.mul_le_mul_right (2^(64-L)) h2
  rw [h5]at h6
  have e1:(n:Int)*2^(64-L)=((n*2^(64-L):Nat):Int):=by rw [Int.natCast_mul,Int.natCast_pow];rfl
  rw [e1]
  generalize n*2^(64-L)=M at*
  omega
 ·have h5:2^L*2^(64-L)=2^64:=by rw [←Nat.pow_add];congr 1;omega
  have h6:=Nat.mul_lt_mul_of_pos_right h3 (Nat.two_pow_pos (64-L))
  rw [h5]at h6
  have e1:(n:Int)*2^(64-L)=((n*2^(64-L):Nat):Int):=by rw [Int.natCast_mul,Int.natCast_pow];rfl
  rw [e1]
  generalize n*2^(64-L)=M at*
  omega
def B1q (y1 U Q q r:Int):Prop:=Q≤q∧q*y1+r=U∧0≤r∧r<4294967296∧q≤4294967297
theorem D7R {y1 y0 U u q r:Int} (hy:0<y1*4294967296+y0) (he:q*y1+r=U) (h:q*y0≤4294967296*r+u):q≤(U*4294967296+u)/(y1*4294967296+y0):=by
 apply Int.le_ediv_of_mul_le hy
 have:q*(y1*4294967296+y0)=q*y1*4294967296+q*y0:=by rw [Int.mul_add,Int.mul_assoc]
 omega
theorem C2b {y1 y0 U u q r:Int} (hy:0<y1*4294967296+y0) (he:q*y1+r=U) (h:4294967296*r+u<q*y0):(U*4294967296+u)/(y1*4294967296+y0)≤q-1:=by
 have:(U*4294967296+u)/(y1*4294967296+y0)<q:=by
  apply Int.ediv_lt_of_lt_mul hy
  have:q*(y1*4294967296+y0)=q*y1*4294967296+q*y0:=by rw [Int.mul_add,Int.mul_assoc]
  omega
 omega
theorem B2h {y1 y0 U u:Int} (hy:0<y1*4294967296+y0) (hU:U<y1*4294967296+y0) (u1:u<4294967296):(U*4294967296+u)/(y1*4294967296+y0)<4294967296:=by
 apply Int.ediv_lt_of_lt_mul hy
 omega
theorem D0D {y1 y0 U u:Int} (h1:2147483648≤y1) (h2:y1<4294967296) (h3:0≤y0) (h4:y0<4294967296) (U0:0≤U) (hU:U<y1*4294967296+y0) (u0:0≤u) (u1:u<4294967296):
  B1q y1 U ((U*4294967296+u)/(y1*4294967296+y0)) (U/y1) (U%y1)∧0≤U/y1:=by
 have hy:0<y1*4294967296+y0:=by omega
 have hQ0:0≤(U*4294967296+u)/(y1*4294967296+y0):=Int.ediv_nonneg (by omega) (by omega)
 have hq0:0≤U/y1:=Int.ediv_nonneg U0 (by omega)
 have e:=Int.emod_add_mul_ediv U y1
 have hr:=Int.emod_lt_of_pos U (show 0<y1 by omega)
 have hr0:=Int.emod_nonneg U (show y1≠0 by omega)
 refine⟨⟨?_,by rw [Int.mul_comm];omega,hr0,by omega,?_⟩,hq0⟩
 ·apply Int.le_ediv_of_mul_le (by omega)
  have h5:=Int.ediv_mul_le (U*4294967296+u) (show y1*4294967296+y0≠0 by omega)
  generalize(U*4294967296+u)/(y1*4294967296+y0)=Q at*
  rw [Int.mul_add,←Int.mul_assoc]at h5
  have h6:=Int.mul_nonneg hQ0 h3
  omega
 ·have:U/y1<4294967298:=by
   apply Int.ediv_lt_of_lt_mul (by omega)
   omega
  omega
theorem D3w {y1 y0 U u q r:Int} (h1:2147483648≤y1) (h2:y1<4294967296) (h3:0≤y0) (h4:y0<4294967296) (hU:U<y1*4294967296+y0) (u0:0≤u) (u1:u<4294967296)
  (h:B1q y1 U ((U*4294967296+u)/(y1*4294967296+y0)) q r) (ht:4294967296≤q∨4294967296*r+u<q*y0):
  (4294967296≤r+y1→q-1=(U*4294967296+u)/(y1*4294967296+y0))∧(r+y1<4294967296→B1q y1 U ((U*4294967296+u)/(y1*4294967296+y0)) (q-1) (r+y1)):=by
 obtain⟨a1,a2,a3,a4,a5⟩:=h
 have hy:0<y1*4294967296+y0:=by omega
 have b1:(U*4294967296+u)/(y1*4294967296+y0)≤q-1:=by
  rcases ht with ht|ht
  ·have:=B2h hy hU u1
   omega
  ·exact C2b hy a2 ht
 have b2:(q-1)*y1+(r+y1)=U:=by rw [Int.sub_mul,Int.one_mul];omega
 refine⟨fun h5=>?_,fun h5=>⟨b1,b2,by omega,h5,by omega⟩⟩
 have h6:(q-1)*y0≤4294967296*4294967295:=by
  refine Int.le_trans (Int.mul_le_mul_of_nonneg_right (show q-1≤4294967296 by omega) h3) ?_
  omega
 have b3:=D7R (u:=u) hy b2 (by omega)
 omega
theorem D0m {y1 y0 U u q r:Int} (hy:0<y1*4294967296+y0) (h:B1q y1 U ((U*4294967296+u)/(y1*4294967296+y0)) q r) (ht:¬4294967296*r+u<q*y0):q=(U*4294967296+u)/(y1*4294967296+y0):=by
 obtain⟨a1,a2,a3,a4,a5⟩:=h
 have:=D7R (u:=u) hy a2 (by omega)
 omega
theorem B5w {q y0 r u:Int} (q0:0≤q) (q1:q<4294967296) (h3:0≤y0) (h4:y0<4294967296) (r0:0≤r) (r1:r<4294967296) (u0:0≤u) (u1:u<4294967296):
  IntKind.u64.wrap (q*y0)=q*y0∧IntKind.u64.wrap (IntKind.u64.wrap (4294967296*r)+u)=4294967296*r+u:=by
 have h:=A2d q0 (show q≤4294967295 by omega) h3 (show y0≤4294967295 by omega)
 rw [u64 (x:=4294967296*r) (by omega) (by omega)]
 exact⟨u64 h.1 (by omega),u64 (by omega) (by omega)⟩
theorem F5U {y s y1 y0:Int} (h1:2147483648≤y1) (h2:y1<4294967296) (h3:0≤y0) (h4:y0<4294967296) (s0:0≤s) {U u Q1:Int} (U0:0≤U) (hU:U<y1*4294967296+y0) (u0:0≤u) (u1:u<4294967296):∀(d:Nat) (q r:Int),q=(U*4294967296+u)/(y1*4294967296+y0)+d→B1q y1 U ((U*4294967296+u)/(y1*4294967296+y0)) q r→
  Ev (fun k=>bits_Div64.l1 k y s y1 y0 u Q1 r U q) (IntKind.u64.wrap ((IntKind.u64.wrap (Q1*4294967296))+((U*4294967296+u)/(y1*4294967296+y0))),shr .u64 (IntKind.u64.wrap ((IntKind.u64.wrap ((IntKind.u64.wrap (U*4294967296))+u))-(IntKind.u64.wrap (((U*4294967296+u)/(y1*4294967296+y0))*y)))) s):=by
 have hy:0<y1*4294967296+y0:=by omega
 have hQ0:0≤(U*4294967296+u)/(y1*4294967296+y0):=Int.ediv_nonneg (by omega) (by omega)
 intro d
 induction d with
 |zero=>
  intro q r hq h
  have hq:q=(U*4294967296+u)/(y1*4294967296+y0):=by omega
  have hq1:=B2h hy hU u1
  rw [←hq]at hq1
  have ht:¬4294967296*r+u<q*y0:=by
   intro ht
   have:=C2b (u:=u) hy h.2.1 ht
   omega
  obtain⟨e1,e2⟩:=B5w (show 0≤q by omega) hq1 h3 h4 h.2.2.1 h.2.2.2.1 u0 u1
  have c1:¬q≥4294967296:=by omega
  rw [←hq]
  refine Ev.step (f:=fun k=>bits_Div64.j4 k y s y1 y0 u Q1 r U q false) (fun k=>?_) (Ev.step (f:=fun _=>some _) (fun k=>?_) (Ev.now _))
  ·simp only [bits_Div64.l1]
   rw [if_neg c1,e1,e2,decide_eq_false ht]
  ·simp only [bits_Div64.j4]
   rw [if_neg Bool.false_ne_true,if_pos s0]
 |succ d ih=>
  intro q r hq h
  have ht:4294967296≤q∨4294967296*r+u<q*y0:=by
   by_cases ht:4294967296*r+u<q*y0
   ·exact Or.inr ht
   ·have:=D0m hy h ht
    omega
  obtain⟨g1,g2⟩:=D3w h1 h2 h3 h4 hU u0 u1 h ht
  have r0:=h.2.2.1
  have r1:=h.2.2.2.1
  have q1:=h.2.2.2.2
  have w1:IntKind.u64.wrap (q-1)=q-1:=u64 (by omega) (by omega)
  have w2:IntKind.u64.wrap (r+y1)=r+y1:=u64 (by omega) (by omega)
  refine Ev.step (f:=fun k=>bits_Div64.j4 k y s y1 y0 u Q1 r U q true) (fun k=>?_) ?_
  ·simp only [bits_Div64.l1]
   by_cases c1:q≥4294967296
   ·rw [if_pos c1]
   ·rw [if_neg c1]
    have ht':4294967296*r+u<q*y0:=by
     rcases ht with ht|ht
     ·exact absurd ht c1
     ·exact ht
    obtain⟨e1,e2⟩:=B5w (show 0≤q by omega) (by omega) h3 h4 r0 r1 u0 u1
    rw [e1,e2,decide_eq_true ht']
  ·by_cases c2:r+y1≥4294967296
   ·refine Ev.step (f:=fun _=>some _) (fun k=>?_) (Ev.now _)
    simp only [bits_Div64.j4]
    rw [if_pos trivial,w1,w2,if_pos c2,if_pos s0,g1 c2]
   ·refine Ev.step (f:=fun k=>bits_Div64.l1 k y s y1 y0 u Q1 (r+y1) U (q-1)) (fun k=>?_) (ih (q-1) (r+y1) (by omega) (g2 (by omega)))
    simp only [bits_Div64.j4]
    rw [if_pos trivial,w1,w2,if_neg c2]
theorem E0k {y s y1 y0:Int} (h1:2147483648≤y1) (h2:y1<4294967296) (h3:0≤y0) (h4:y0<4294967296) {U u v:Int} (U0:0≤U) (hU:U<y1*4294967296+y0) (u0:0≤u) (u1:u<4294967296) {R:Int×Int}
  (next:Ev (fun k=>bits_Div64.j2 k y s y1 y0 U u v ((U*4294967296+u)/(y1*4294967296+y0))) R):∀(d:Nat) (q r:Int),q=(U*4294967296+u)/(y1*4294967296+y0)+d→B1q y1 U ((U*4294967296+u)/(y1*4294967296+y0)) q r→
  Ev (fun k=>bits_Div64.l0 k y s y1 y0 U u v q r) R:=by
 have hy:0<y1*4294967296+y0:=by omega
 have hQ0:0≤(U*4294967296+u)/(y1*4294967296+y0):=Int.ediv_nonneg (by omega) (by omega)
 intro d
 induction d with
 |zero=>
  intro q r hq h
  have hq:q=(U*4294967296+u)/(y1*4294967296+y0):=by omega
  have hq1:=B2h hy hU u1
  rw [←hq]at hq1
  have ht:¬4294967296*r+u<q*y0:=by
   intro ht
   have:=C2b (u:=u) hy h.2.1 ht
   omega
  obtain⟨e1,e2⟩:=B5w (show 0≤q by omega) hq1 h3 h4 h.2.2.1 h.2.2.2.1 u0 u1
  have c1:¬q≥4294967296:=by omega
  rw [←hq]at next
  refine Ev.step (f:=fun k=>bits_Div64.j1 k y s y1 y0 U u v q r false) (fun k=>?_) (Ev.step (f:=fun k=>bits_Div64.j2 k y s y1 y0 U u v q) (fun k=>?_) next)
  ·simp only [bits_Div64.l0]
   rw [if_neg c1,e1,e2,decide_eq_false ht]
  ·simp only [bits_Div64.j1]
   rw [if_neg Bool.false_ne_true]
 |succ d ih=>
  intro q r hq h
  have ht:4294967296≤q∨4294967296*r+u<q*y0:=by
   by_cases ht:4294967296*r+u<q*y0
   ·exact Or.inr ht
   ·have:=D0m hy h ht
    omega
  obtain⟨g1,g2⟩:=D3w h1 h2 h3 h4 hU u0 u1 h ht
  have r0:=h.2.2.1
  have r1:=h.2.2.2.1
  have q1:=h.2.2.2.2
  have w1:IntKind.u64.wrap (q-1)=q-1:=u64 (by omega) (by omega)
  have w2:IntKind.u64.wrap (r+y1)=r+y1:=u64 (by omega) (by omega)
  refine Ev.step (f:=fun k=>bits_Div64.j1 k y s y1 y0 U u v q r true) (fun k=>?_) ?_
  ·simp only [bits_Div64.l0]
   by_cases c1:q≥4294967296
   ·rw [if_pos c1]
   ·rw [if_neg c1]
    have ht':4294967296*r+u<q*y0:=by
     rcases ht with ht|ht
     ·exact absurd ht c1
     ·exact ht
    obtain⟨e1,e2⟩:=B5w (show 0≤q by omega) (by omega) h3 h4 r0 r1 u0 u1
    rw [e1,e2,decide_eq_true ht']
  ·by_cases c2:r+y1≥4294967296
   ·rw [←g1 c2]at next
    refine Ev.step (f:=fun k=>bits_Div64.j2 k y s y1 y0 U u v (q-1)) (fun k=>?_) next
    simp only [bits_Div64.j1]
    rw [if_pos trivial,w1,w2,if_pos c2]
   ·refine Ev.step (f:=fun k=>bits_Div64.l0 k y s y1 y0 U u v (q-1) (r+y1)) (fun k=>?_) (ih (q-1) (r+y1) (by omega) (g2 (by omega)))
    simp only [bits_Div64.j1]
    rw [if_pos trivial,w1,w2,if_neg c2]
theorem D6I {h l y:Int} (h0:0≤h) (hy:h<y) (y1:y<A6) (l0:0≤l) (l1:l<A6):Ev (fun k=>bits_Div64.f k h l y) ((h*A6+l)/y,(h*A6+l)%y):=by
 have y1':y<18446744073709551616:=y1
 have l1':l<18446744073709551616:=l1
 show Ev (fun k=>bits_Div64.f k h l y) ((h*18446744073709551616+l)/y,(h*18446744073709551616+l)%y)
 have yp:0<y:=by omega
 by_cases hz:h=0
 ·subst hz
  have hq:l/y<18446744073709551616:=Int.ediv_lt_of_lt_mul yp (by
   have:=Int.mul_le_mul_of_nonneg_left (show 1≤y by omega) (show(0:Int)≤18446744073709551616 by decide)
   omega)
  refine Ev.congr (f:=fun _=>some (l/y,l%y)) (fun k=>?_) (by rw [Int.zero_mul,Int.zero_add];exact Ev.now _)
  unfold bits_Div64.f
  rw [if_neg (by omega),if_neg (by omega),if_pos rfl,Int.tdiv_eq_ediv_of_nonneg l0,Int.tmod_eq_emod_of_nonneg l0,u64 (Int.ediv_nonneg l0 (by omega)) hq]
 ·obtain⟨s,s1,hs,n0,n1⟩:=D6A yp y1
  have hPR:(2:Int)^s*2^(64-s)=18446744073709551616:=by
   rw [←Int.pow_add]
   have:s+(64-s)=64:=by omega
   rw [this]
   rfl
  have hP:(0:Int)<2^s:=Int.pow_pos (by decide)
  have hR:(0:Int)<2^(64-s):=Int.pow_pos (by decide)
  have e1:IntKind.u64.wrap (s:Int)=(s:Int):=u64 (by omega) (by omega)
  have e2:IntKind.u64.wrap (64-(s:Int))=((64-s:Nat):Int):=by rw [u64 (by omega) (by omega)];omega
  have d1:shl .u64 y (s:Int)=y*2^s:=by rw [B3K _ _ (by omega),Int.emod_eq_of_lt (by omega) n1]
  have h2:0≤h*2^s:=Int.mul_nonneg h0 (Int.le_of_lt hP)
  have h3:h*2^s+2^s≤y*2^s:=by
   have:=Int.mul_le_mul_of_nonneg_right (show h+1≤y by omega) (Int.le_of_lt hP)
   rwa [Int.add_mul,Int.one_mul]at this
  have hl0:0≤l/2^(64-s):=Int.ediv_nonneg l0 (Int.le_of_lt hR)
  have hl1:l/2^(64-s)<2^s:=Int.ediv_lt_of_lt_mul hR (by rw [hPR];exact l1')
  have d2:Go.bits .or .u64 (shl .u64 h (s:Int)) (shr .u64 l ((64-s:Nat):Int))=h*2^s+l/2^(64-s):=by
   rw [B3K _ _ (by omega),B5B _ _ (by omega),Int.emod_eq_of_lt h2 (by omega)]
   exact bits_join .u64 64 (by decide) B1c s (h*2^s) (l/2^(64-s)) h2 (Int.mul_emod_left _ _) (by show _<(18446744073709551616:Int);omega) hl0 hl1 (by show _<(18446744073709551616:Int);omega)
  have d3:shl .u64 l (s:Int)=(l*2^s)%18446744073709551616:=B3K _ _ (by omega)
  have hm:l*2^s=l/2^(64-s)*18446744073709551616+(l*2^s)%18446744073709551616:=by
   have g:=Int.emod_add_mul_ediv l (2^(64-s))
   have g0:=Int.emod_nonneg l (show(2:Int)^(64-s)≠0 by omega)
   have g1:=Int.emod_lt_of_pos l hR
   have g2:l*2^s=l%2^(64-s)*2^s+18446744073709551616*(l/2^(64-s)):=by
    conv=>lhs;rw [←g]
    rw [Int.add_mul,Int.mul_right_comm,Int.mul_comm (2^(64-s)) (2^s),hPR]
   have g3:0≤l%2^(64-s)*2^s:=Int.mul_nonneg g0 (Int.le_of_lt hP)
   have g4:l%2^(64-s)*2^s<18446744073709551616:=by
    have:=Int.mul_lt_mul_of_pos_right g1 hP
    rwa [Int.mul_comm (2^(64-s)) (2^s),hPR]at this
   omega
  obtain⟨U,hU⟩:∃U,U=h*2^s+l/2^(64-s):=⟨_,rfl⟩
  obtain⟨L,hL⟩:∃L,L=(l*2^s)%18446744073709551616:=⟨_,rfl⟩
  obtain⟨Y,hY⟩:∃Y,Y=y*2^s:=⟨_,rfl⟩
  have L0:0≤L:=by rw [hL];exact Int.emod_nonneg _ (by decide)
  have L1:L<18446744073709551616:=by rw [hL];exact Int.emod_lt_of_pos _ (by decide)
  have U0:0≤U:=by omega
  have U1:U<Y:=by omega
  have key:(h*18446744073709551616+l)*2^s=U*18446744073709551616+L:=by
   rw [Int.add_mul,Int.mul_right_comm,hU,hL]
   rw [hm]at*
   omega
  rw [←hU]at d2
  rw [←hL]at d3
  rw [←hY]at d1
  rw [←hY]at n0 n1
  have hPle:(2:Int)^s≤2^s:=Int.le_refl _
  clear hm h3 hl0 hl1 h2 hPR hR
  have hYd:=Int.emod_add_mul_ediv Y 4294967296
  have a1:2147483648≤Y/4294967296:=by omega
  have a2:Y/4294967296<4294967296:=by omega
  have a3:0≤Y%4294967296:=by omega
  have a4:Y%4294967296<4294967296:=by omega
  have aY:Y/4294967296*4294967296+Y%4294967296=Y:=by omega
  have b1:0≤L/4294967296:=by omega
  have b2:L/4294967296<4294967296:=by omega
  have b3:0≤L%4294967296:=by omega
  have b4:L%4294967296<4294967296:=by omega
  have c1:=A9z (x:=Y) (by omega) n1
  have c2:=A9z (x:=L) L0 L1
  obtain⟨f1,f2⟩:=D0D a1 a2 a3 a4 U0 (by rw [aY];exact U1) b1 b2
  have q1:U/(Y/4294967296)<18446744073709551616:=by have:=f1.2.2.2.2;omega
  have w1:IntKind.u64.wrap (Int.tdiv U (Y/4294967296))=U/(Y/4294967296):=by rw [Int.tdiv_eq_ediv_of_nonneg U0,u64 f2 q1]
  have m1:=A2d f2 (show U/(Y/4294967296)≤4294967297 from f1.2.2.2.2) (show 0≤Y/4294967296 by omega) (show Y/4294967296≤4294967295 by omega)
  have r1:U-U/(Y/4294967296)*(Y/4294967296)=U%(Y/4294967296):=by have:=f1.2.1;omega
  have w2:IntKind.u64.wrap (U/(Y/4294967296)*(Y/4294967296))=U/(Y/4294967296)*(Y/4294967296):=u64 m1.1 (by omega)
  have w3:IntKind.u64.wrap (U%(Y/4294967296))=U%(Y/4294967296):=u64 f1.2.2.1 (by have:=f1.2.2.2.1;omega)
  refine Ev.congr (f:=fun k=>bits_Div64.l0 k Y (s:Int) (Y/4294967296) (Y%4294967296) U (L/4294967296) (L%4294967296) (U/(Y/4294967296)) (U%(Y/4294967296))) (fun k=>?_) ?_
  ·unfold bits_Div64.f
   rw [if_neg (by omega),if_neg (by omega),if_neg hz,hs,Option.bind_some,e1,if_pos (by omega),e2,if_pos (by omega),d1,d2,d3,c1,c2,if_neg (by omega),w1,w2,r1,w3]
  ·obtain⟨d,hd⟩:∃d:Nat,U/(Y/4294967296)=(U*4294967296+L/4294967296)/(Y/4294967296*4294967296+Y%4294967296)+d:=⟨(U/(Y/4294967296)-(U*4294967296+L/4294967296)/(Y/4294967296*4294967296+Y%4294967296)).toNat,by have:=f1.1;omega⟩
   refine E0k a1 a2 a3 a4 U0 (by rw [aY];exact U1) b1 b2 ?_ d _ _ hd f1
   clear d hd f1 f2 q1 w1 m1 r1 w2 w3
   rw [aY]
   obtain⟨Q,hQ⟩:∃Q,Q=(U*4294967296+L/4294967296)/Y:=⟨_,rfl⟩
   obtain⟨V,hV⟩:∃V,V=(U*4294967296+L/4294967296)%Y:=⟨_,rfl⟩
   have gQ:=Int.emod_add_mul_ediv (U*4294967296+L/4294967296) Y
   have V0:0≤V:=by rw [hV];exact Int.emod_nonneg _ (by omega)
   have V1:V<Y:=by rw [hV];exact Int.emod_lt_of_pos _ (by omega)
   have Q0:0≤Q:=by rw [hQ];exact Int.ediv_nonneg (by omega) (by omega)
   have Q1:Q<4294967296:=by
    have:=B2h (y1:=Y/4294967296) (y0:=Y%4294967296) (U:=U) (u:=L/4294967296) (by omega) (by omega) b2
    rwa [aY,←hQ]at this
   rw [←hQ,←hV]at gQ
   rw [←hQ]
   have w4:IntKind.u64.wrap (IntKind.u64.wrap (IntKind.u64.wrap (U*4294967296)+L/4294967296)-IntKind.u64.wrap (Q*Y))=V:=by
    rw [Int.mul_comm Y Q]at gQ
    generalize Q*Y=QY at*
    rw [A1N,A1N,A1N,A1N]
    omega
   obtain⟨f1,f2⟩:=D0D a1 a2 a3 a4 V0 (by rw [aY];exact V1) b3 b4
   have q1:V/(Y/4294967296)<18446744073709551616:=by have:=f1.2.2.2.2;omega
   have w1:IntKind.u64.wrap (Int.tdiv V (Y/4294967296))=V/(Y/4294967296):=by rw [Int.tdiv_eq_ediv_of_nonneg V0,u64 f2 q1]
   have m1:=A2d f2 (show V/(Y/4294967296)≤4294967297 from f1.2.2.2.2) (show 0≤Y/4294967296 by omega) (show Y/4294967296≤4294967295 by omega)
   have r1:V-V/(Y/4294967296)*(Y/4294967296)=V%(Y/4294967296):=by have:=f1.2.1;omega
   have w2:IntKind.u64.wrap (V/(Y/4294967296)*(Y/4294967296))=V/(Y/4294967296)*(Y/4294967296):=u64 m1.1 (by omega)
   have w3:IntKind.u64.wrap (V%(Y/4294967296))=V%(Y/4294967296):=u64 f1.2.2.1 (by have:=f1.2.2.2.1;omega)
   refine Ev.step (f:=fun k=>bits_Div64.l1 k Y (s:Int) (Y/4294967296) (Y%4294967296) (L%4294967296) Q (V%(Y/4294967296)) V (V/(Y/4294967296))) (fun k=>?_) ?_
   ·simp only [bits_Div64.j2]
    rw [if_neg (by omega),w4,w1,w2,r1,w3]
   ·obtain⟨d,hd⟩:∃d:Nat,V/(Y/4294967296)=(V*4294967296+L%4294967296)/(Y/4294967296*4294967296+Y%4294967296)+d:=⟨(V/(Y/4294967296)-(V*4294967296+L%4294967296)/(Y/4294967296*4294967296+Y%4294967296)).toNat,by have:=f1.1;omega⟩
    have fin:=F5U (y:=Y) (s:=(s:Int)) a1 a2 a3 a4 (by omega) V0 (by rw [aY];exact V1) b3 b4 (Q1:=Q) d _ _ hd f1
    rw [aY]at fin
    clear d hd f1 f2 q1 w1 m1 r1 w2 w3 w4
    obtain⟨q,hq⟩:∃q,q=(V*4294967296+L%4294967296)/Y:=⟨_,rfl⟩
    obtain⟨v,hv⟩:∃v,v=(V*4294967296+L%4294967296)%Y:=⟨_,rfl⟩
    have gq:=Int.emod_add_mul_ediv (V*4294967296+L%4294967296) Y
    have v0:0≤v:=by rw [hv];exact Int.emod_nonneg _ (by omega)
    have v1:v<Y:=by rw [hv];exact Int.emod_lt_of_pos _ (by omega)
    have q0:0≤q:=by rw [hq];exact Int.ediv_nonneg (by omega) (by omega)
    have q1:q<4294967296:=by
     have:=B2h (y1:=Y/4294967296) (y0:=Y%4294967296) (U:=V) (u:=L%4294967296) (by omega) (by omega) b4
     rwa [aY,←hq]at this
    rw [←hq,←hv]at gq
    rw [←hq]at fin
    have w5:IntKind.u64.wrap (IntKind.u64.wrap (IntKind.u64.wrap (V*4294967296)+L%4294967296)-IntKind.u64.wrap (q*Y))=v:=by
     rw [Int.mul_comm Y q]at gq
     generalize q*Y=QY at*
     rw [A1N,A1N,A1N,A1N]
     omega
    have w6:IntKind.u64.wrap (IntKind.u64.wrap (Q*4294967296)+q)=Q*4294967296+q:=by
     rw [u64 (x:=Q*4294967296) (by omega) (by omega),u64 (by omega) (by omega)]
    rw [w5,w6,B5B _ _ (by omega)]at fin
    have hN:(h*18446744073709551616+l)*2^s=(Q*4294967296+q)*Y+v:=by
     rw [key,Int.add_mul,Int.mul_right_comm Q]
     rw [Int.mul_comm Y Q]at gQ
     rw [Int.mul_comm Y q]at gq
     generalize Q*Y=QY at*
     generalize q*Y=qY at*
     omega
    rw [hY,←Int.mul_assoc]at hN
    have hv':v=(h*18446744073709551616+l-(Q*4294967296+q)*y)*2^s:=by rw [Int.sub_mul];omega
    have hv2:v/2^s=h*18446744073709551616+l-(Q*4294967296+q)*y:=by rw [hv',Int.mul_ediv_cancel _ (by omega)]
    have hv3:0≤v/2^s:=Int.ediv_nonneg v0 (by omega)
    have hv4:v/2^s<y:=Int.ediv_lt_of_lt_mul hP (by rw [←hY];exact v1)
    have e:(h*18446744073709551616+l)/y=Q*4294967296+q∧(h*18446744073709551616+l)%y=v/2^s:=by
     have:h*18446744073709551616+l=v/2^s+y*(Q*4294967296+q):=by rw [hv2,Int.mul_comm y];omega
     constructor
     ·rw [this,Int.add_mul_ediv_left _ _ (by omega),Int.ediv_eq_zero_of_lt hv3 hv4,Int.zero_add]
     ·rw [this,Int.add_mul_emod_self_left,Int.emod_eq_of_lt hv3 hv4]
    rw [e.1,e.2]
    exact fin
theorem D4j {x y:List Int} (hx:B7 A6 x) (hy:B7 A6 y) {i:Nat} (hi:i<x.length) (hi':i<y.length) (hd:vB A6 (x.drop (i+1))=vB A6 (y.drop (i+1))) (h:rd x (i:Int)<rd y (i:Int)):vB A6 x<vB A6 y:=by
 have hB:(0:Int)<A6:=by decide
 have hsx:=m9 A6 x (i+1) (by omega)
 have hsy:=m9 A6 y (i+1) (by omega)
 rw [O8]at hsx hsy
 have ax:=P2 hB (O2 hx i)
 rw [List.length_take,Nat.min_eq_left (by omega)]at ax
 have bb:=I6 (Int.le_of_lt hB) (O2 hy i)
 rw [hd]at hsx
 have hP:(0:Int)<A6^i:=Int.pow_pos hB
 rw [hsx,hsy]
 generalize vB A6 (x.take i)=X at*
 generalize vB A6 (y.take i)=Y at*
 generalize A6^(i+1)*vB A6 (y.drop (i+1))=Z at*
 generalize(A6:Int)^i=P at*
 generalize rd x (i:Int)=a at*
 generalize rd y (i:Int)=b at*
 have h1:=Int.mul_le_mul_of_nonneg_left (show a+1≤b by omega) (Int.le_of_lt hP)
 rw [Int.mul_add,Int.mul_one]at h1
 clear hsx hsy hd
 omega
theorem F4F (x y:List Int) (hx:B7 A6 x) (hy:B7 A6 y) (hl:x.length=y.length) (hs:x.length<9223372036854775808) {m n:Nat} (hm:vB A6 x=m) (hn:vB A6 y=n):∀i:Nat,i≤x.length→vB A6 (x.drop i)=vB A6 (y.drop i)→Ev (fun k=>exact_compareWords.l0 k x y ((i:Int)-1)) (L5 m n):=by
 have hB:(0:Int)<A6:=by decide
 intro i
 induction i with
 |zero=>
  intro _ hd
  rw [List.drop_zero,List.drop_zero,hm,hn]at hd
  have e:m=n:=by omega
  subst e
  refine Ev.step (f:=fun _=>some 0) (fun k=>?_) (by
   have:L5 m m=0:=by simp [L5]
   rw [this]
   exact Ev.now _)
  simp only [exact_compareWords.l0]
  rw [if_neg (by decide)]
 |succ i ih=>
  intro hi hd
  have e0:((i+1:Nat):Int)-1=(i:Int):=by omega
  have e1:wrap64 ((i:Int)-1)=(i:Int)-1:=D1 (by omega) (by omega)
  have c1:(i:Int)≥0:=by omega
  have c2:(i:Int)<(x.length:Int):=by omega
  have c3:(i:Int)<(y.length:Int):=by omega
  rw [e0]
  by_cases he:rd x (i:Int)=rd y (i:Int)
  ·refine Ev.step (f:=fun k=>exact_compareWords.l0 k x y ((i:Int)-1)) (fun k=>?_) (ih (by omega) ?_)
   ·simp only [exact_compareWords.l0,e1]
    rw [if_pos c1,if_pos c1,if_pos c2,if_pos c3,if_pos he]
   ·rw [List.drop_eq_getElem_cons (show i<x.length by omega),List.drop_eq_getElem_cons (show i<y.length by omega),v3,v3,hd,←A0l x i (by omega),←A0l y i (by omega),he]
  ·by_cases hab:rd x (i:Int)<rd y (i:Int)
   ·have h1:=D4j hx hy (by omega) (by omega) hd hab
    have h2:m<n:=by rw [hm,hn]at h1;omega
    refine Ev.step (f:=fun _=>some (-1)) (fun k=>?_) (by
     have:L5 m n= -1:=by unfold L5;rw [if_pos h2]
     rw [this]
     exact Ev.now _)
    simp only [exact_compareWords.l0,e1]
    rw [if_pos c1,if_pos c1,if_pos c2,if_pos c3,if_neg he,if_pos hab]
   ·have h1:=D4j hy hx (by omega) (by omega) hd.symm (show rd y (i:Int)<rd x (i:Int)by omega)
    have h2:n<m:=by rw [hm,hn]at h1;omega
    refine Ev.step (f:=fun _=>some 1) (fun k=>?_) (by
     have:L5 m n=1:=by unfold L5;rw [if_neg (by omega),if_neg (by omega)]
     rw [this]
     exact Ev.now _)
    simp only [exact_compareWords.l0,e1]
    rw [if_pos c1,if_pos c1,if_pos c2,if_pos c3,if_neg he,if_neg hab]
theorem E8c {m n:Nat} (hm:(B6 m).length≤1099511627776) (hn:(B6 n).length≤1099511627776):Ev (fun k=>exact_compareWords.f k (B6 m) (B6 n)) (L5 m n):=by
 by_cases h1:(B6 m).length=(B6 n).length
 ·have:=F4F (B6 m) (B6 n) (N6 m) (N6 n) h1 (by omega) (P4 m) (P4 n) (B6 m).length (Nat.le_refl _) (by
   rw [List.drop_of_length_le (Nat.le_refl _),List.drop_of_length_le (by omega)])
  refine Ev.congr (fun k=>?_) this
  unfold exact_compareWords.f
  rw [if_pos (by omega),D1 (by omega) (by omega)]
 ·by_cases h2:(B6 m).length<(B6 n).length
  ·have h3:=A8w (by decide) (N6 m) (N6 n) (B3x n) h2
   rw [P4,P4]at h3
   refine Ev.congr (f:=fun _=>some (-1)) (fun k=>?_) (by
    have:L5 m n= -1:=by unfold L5;rw [if_pos (by omega)]
    rw [this]
    exact Ev.now _)
   unfold exact_compareWords.f
   rw [if_neg (by omega),if_pos (by omega)]
  ·have h3:=A8w (by decide) (N6 n) (N6 m) (B3x m) (by omega)
   rw [P4,P4]at h3
   refine Ev.congr (f:=fun _=>some 1) (fun k=>?_) (by
    have:L5 m n=1:=by unfold L5;rw [if_neg (by omega),if_neg (by omega)]
    rw [this]
    exact Ev.now _)
   unfold exact_compareWords.f
   rw [if_neg (by omega),if_neg (by omega)]
theorem D7Z {x:Int} (x0:0≤x) (x1:x<A6) (s:Nat) (hs:s≤63):x*2^s=(x*2^s)%A6+A6*(x/2^(64-s))∧0≤x/2^(64-s)∧x/2^(64-s)<2^s∧((x*2^s)%A6)%2^s=0:=by
 have hP:(0:Int)<2^s:=Int.pow_pos (by decide)
 have hR:(0:Int)<2^(64-s):=Int.pow_pos (by decide)
 have hPR:(2:Int)^(64-s)*2^s=A6:=by
  rw [←Int.pow_add]
  have:64-s+s=64:=by omega
  rw [this]
  rfl
 have g:=Int.emod_add_mul_ediv x (2^(64-s))
 have g0:=Int.emod_nonneg x (show(2:Int)^(64-s)≠0 by omega)
 have g1:=Int.emod_lt_of_pos x hR
 have g2:x*2^s=x%2^(64-s)*2^s+A6*(x/2^(64-s)):=by
  conv=>lhs;rw [←g]
  rw [Int.add_mul,Int.mul_right_comm,hPR]
 have g3:0≤x%2^(64-s)*2^s:=Int.mul_nonneg g0 (Int.le_of_lt hP)
 have g4:x%2^(64-s)*2^s<A6:=by
  have:=Int.mul_lt_mul_of_pos_right g1 hP
  rwa [hPR]at this
 have g5:(x*2^s)%A6=x%2^(64-s)*2^s:=by
  rw [g2,Int.add_mul_emod_self_left,Int.emod_eq_of_lt g3 g4]
 refine⟨by rw [g5];exact g2,Int.ediv_nonneg x0 (Int.le_of_lt hR),Int.ediv_lt_of_lt_mul hR (by rw [Int.mul_comm,hPR];exact x1),by rw [g5];exact Int.mul_emod_left _ _⟩
theorem E9N {x y:Int} (x0:0≤x) (x1:x<2^64) (y0:0≤y) (y1:y<2^64):Go.bits .or .u64 x y=Go.bits .or .u64 y x:=by
 obtain⟨a,rfl⟩:=Int.eq_ofNat_of_zero_le x0
 obtain⟨b,rfl⟩:=Int.eq_ofNat_of_zero_le y0
 have ha:a<2^64:=by omega
 have hb:b<2^64:=by omega
 rw [(bits_nat .u64 64 (by decide) B1c a b ha hb).2,(bits_nat .u64 64 (by decide) B1c b a hb ha).2,Nat.or_comm]
theorem D1f (s:Nat) (hs:s≤64) {x y:Int} (x0:0≤x) (x1:x<2^s) (y0:0≤y) (y1:y<A6) (hy:y%2^s=0) (hxy:x+y<A6):Go.bits .or .u64 x y=x+y:=by
 have y1':y<2^64:=by simpa using y1
 have x2:x<2^64:=Int.lt_of_le_of_lt (by omega) hxy
 have:=bits_join .u64 64 (by decide) B1c s y x y0 hy y1' x0 x1 x2
 rw [Int.add_comm x y,←this]
 exact E9N x0 x2 y0 y1'
def C8d (w out:List Int) (s i:Nat):Prop:=
 out.length=w.length+1∧B7 A6 out∧vB A6 out=vB A6 (w.take i)*2^s∧(rd out (i:Int)<2^s)∧∀j:Nat,i<j→rd out (j:Int)=0
theorem E2q {w out:List Int} {s i:Nat} (hs:s≤63) (hw:B7 A6 w) (hi:i<w.length) (h:C8d w out s i):
  C8d w ((out.set i (rd out (i:Int)+(rd w (i:Int)*2^s)%A6)).set (i+1) (rd w (i:Int)/2^(64-s))) s (i+1)∧0≤rd out (i:Int)+(rd w (i:Int)*2^s)%A6∧rd out (i:Int)+(rd w (i:Int)*2^s)%A6<A6:=by
 obtain⟨hl,hd,hv,hr,hz⟩:=h
 obtain⟨x0,x1⟩:=D9 hw i hi
 obtain⟨o0,o1⟩:=D9 hd i (by omega)
 obtain⟨a1,a2,a3,a4⟩:=D7Z x0 x1 s hs
 have hP:(0:Int)<2^s:=Int.pow_pos (by decide)
 have m0:=Int.emod_nonneg (rd w (i:Int)*2^s) (show(A6:Int)≠0 by decide)
 have m1:=Int.emod_lt_of_pos (rd w (i:Int)*2^s) (show(0:Int)<A6 by decide)
 have hsum:rd out (i:Int)+(rd w (i:Int)*2^s)%A6<A6:=by
  obtain⟨c,hc⟩:∃c,c*2^s=A6:=⟨2^(64-s),by
   rw [←Int.pow_add]
   have:64-s+s=64:=by omega
   rw [this]
   rfl⟩
  have h1:=Int.emod_add_mul_ediv ((rd w (i:Int)*2^s)%A6) (2^s)
  rw [a4,Int.zero_add]at h1
  generalize((rd w (i:Int)*2^s)%A6)/2^s=e at*
  generalize(rd w (i:Int)*2^s)%A6=M at*
  rw [←h1,←hc]at m1
  have h2:e<c:=Int.lt_of_mul_lt_mul_right (by rwa [Int.mul_comm (2^s) e]at m1) (Int.le_of_lt hP)
  have h3:=Int.mul_le_mul_of_nonneg_right (show e+1≤c by omega) (Int.le_of_lt hP)
  rw [Int.add_mul,Int.one_mul,hc,Int.mul_comm e]at h3
  omega
 have hsum0:0≤rd out (i:Int)+(rd w (i:Int)*2^s)%A6:=by omega
 have hlt:rd w (i:Int)/2^(64-s)<A6:=by
  have:(2:Int)^s≤2^63:=A9j (by decide) hs
  have e:(2:Int)^63<A6:=by decide
  exact Int.lt_trans a3 (Int.lt_of_le_of_lt this e)
 refine⟨⟨by rw [List.length_set,List.length_set];exact hl,S8 (S8 hd _ hsum0 hsum) _ a2 hlt,?_,?_,fun j hj=>?_⟩,hsum0,hsum⟩
 ·have c1:i<out.length:=by omega
  have c2:i+1<(out.set i (rd out (i:Int)+(rd w (i:Int)*2^s)%A6)).length:=by rw [List.length_set];omega
  rw [X4 _ _ _ _ c2,v6 _ _ _ _ (by omega),hz (i+1) (by omega),X4 _ _ _ _ c1,hv,O8,Int.pow_succ,Int.sub_zero,Int.add_mul]
  have e1:rd out (i:Int)+rd w (i:Int)*2^s%A6-rd out (i:Int)=rd w (i:Int)*2^s%A6:=by omega
  rw [e1,Int.mul_assoc (A6^i) A6,Int.mul_assoc (A6^i) (rd w (i:Int)),a1,Int.mul_add,Int.add_assoc]
  congr 2
  rw [←a1]
 ·rw [A4y _ _ _ (by rw [List.length_set];omega)]
  exact a3
 ·rw [v6 _ _ _ _ (by omega),v6 _ _ _ _ (by omega)]
  exact hz j (by omega)
theorem E2i (w:List Int) (hw:B7 A6 w) (lw:w.length≤1099511627776) (s:Nat) (hs:s≤63):∀(d i:Nat) (out:List Int),i+d=w.length→C8d w out s i→
  ∃r,r.length=w.length+1∧B7 A6 r∧vB A6 r=vB A6 w*2^s∧Ev (fun k=>exact_shiftUp.l0 k (s:Int) out w (w.length:Int) (i:Int)) r:=by
 intro d
 induction d with
 |zero=>
  intro i out hi h
  obtain⟨hl,hd,hv,hr,hz⟩:=h
  have hi:i=w.length:=by omega
  subst hi
  refine⟨out,hl,hd,by rw [hv,X2 _ _ _ (Nat.le_refl _)],Ev.step (f:=fun _=>some out) (fun k=>?_) (Ev.now _)⟩
  simp only [exact_shiftUp.l0]
  rw [if_neg (Int.lt_irrefl _)]
 |succ d ih=>
  intro i out hi h
  have hi':i<w.length:=by omega
  obtain⟨hn,n0,n1⟩:=E2q hs hw hi' h
  have hl:=h.1
  have hr:=h.2.2.2.1
  obtain⟨o0,o1⟩:=D9 h.2.1 i (by omega)
  have hz:=h.2.2.2.2 (i+1) (by omega)
  obtain⟨x0,x1⟩:=D9 hw i hi'
  obtain⟨a1,a2,a3,a4⟩:=D7Z x0 x1 s hs
  have m0:=Int.emod_nonneg (rd w (i:Int)*2^s) (show(A6:Int)≠0 by decide)
  have m1:=Int.emod_lt_of_pos (rd w (i:Int)*2^s) (show(0:Int)<A6 by decide)
  have c1:(i:Int)<(w.length:Int):=Int.ofNat_lt.2 hi'
  have c2:(i:Int)<(out.length:Int):=by omega
  have c3:((i+1:Nat):Int)<(out.length:Int):=by omega
  have c4:i+1+d=w.length:=by omega
  obtain⟨r,r1,r2,r3,r4⟩:=ih (i+1) _ c4 hn
  refine⟨r,r1,r2,r3,Ev.step (f:=fun k=>exact_shiftUp.l0 k (s:Int) ((out.set i (rd out (i:Int)+(rd w (i:Int)*2^s)%A6)).set (i+1) (rd w (i:Int)/2^(64-s))) w (w.length:Int) ((i+1:Nat):Int)) (fun k=>?_) r4⟩
  have c5:¬(s:Int)>0→s=0:=by omega
  have g1:Go.bits .or .u64 (rd out (i:Int)) (shl .u64 (rd w (i:Int)) (s:Int))=rd out (i:Int)+(rd w (i:Int)*2^s)%A6:=by
   rw [B3K _ _ (by omega)]
   have:=D1f s (by omega) o0 hr m0 m1 a4 n1
   exact this
  have g2:shr .u64 (rd w (i:Int)) ((64-s:Nat):Int)=rd w (i:Int)/2^(64-s):=B5B _ _ (by omega)
  have e1:wrap64 ((i:Int)+1)=((i+1:Nat):Int):=by clear a1 g1 g2;rw [D1 (by omega) (by omega)];omega
  have e2:wrap64 (64-(s:Int))=((64-s:Nat):Int):=by clear a1 g1 g2 e1;rw [D1 (by omega) (by omega)];omega
  simp only [exact_shiftUp.l0,e1,e2,g1,g2,Int.toNat_natCast,Option.bind_some]
  rw [if_pos c1,if_pos (Int.natCast_nonneg _),if_pos c1,if_pos c2,if_pos (Int.natCast_nonneg _)]
  by_cases hs0:(s:Int)>0
  ·rw [if_pos hs0,if_pos (Int.natCast_nonneg _),if_pos (Int.natCast_nonneg _),if_pos c3]
  ·rw [if_neg hs0]
   have hs1:=c5 hs0
   subst hs1
   have hq:rd w (i:Int)/2^(64-0)=0:=Int.ediv_eq_zero_of_lt x0 x1
   rw [hq]
   have:=F6g (out.set i (rd out (i:Int)+(rd w (i:Int)*2^0)%A6)) (i+1) (by rw [List.length_set];clear a1 g1 g2 e1 e2;omega)
   rw [v6 _ _ _ _ (by clear a1 g1 g2 e1 e2;omega),hz]at this
   rw [this]
theorem D3B (w:List Int) (hw:B7 A6 w) (lw:w.length≤1099511627776) (s:Nat) (hs:s≤63):∃r,r.length=w.length+1∧B7 A6 r∧vB A6 r=vB A6 w*2^s∧Ev (fun k=>exact_shiftUp.f k w (s:Int)) r:=by
 obtain⟨r,r1,r2,r3,r4⟩:=E2i w hw lw s hs w.length 0 (List.replicate (w.length+1) 0) (Nat.zero_add _) ⟨by simp,A4G (by decide) _,by rw [A8x];simp [vB],by rw [A5B];exact Int.pow_pos (by decide),fun j _=>A5B _ _⟩
 refine⟨r,r1,r2,r3,Ev.congr (fun k=>?_) r4⟩
 unfold exact_shiftUp.f
 have e1:wrap64 ((w.length:Int)+1)=((w.length+1:Nat):Int):=by rw [D1 (by omega) (by omega)];omega
 rw [e1,if_pos (Int.natCast_nonneg _),Int.toNat_natCast,if_pos (by omega)]
 rfl
def B7X (u v z:List Int) (q:Int) (i:Nat) (b c:Int):Prop:=
 z.length=u.length∧B7 A6 z∧(0≤b∧b≤1)∧(0≤c∧c<A6)∧vB A6 z+q*vB A6 (v.take i)=vB A6 u+A6^i*(b+c)
theorem sub_mul {u v z:List Int} {q b c d e:Int} {i:Nat} (hz:i<z.length) (q0:0≤q) (q1:q<A6) (hv:B7 A6 v) (hi:i<v.length) (h:B7X u v z q i b c) (d0:0≤d) (d1:d<A6) (e0:0≤e) (e1:e≤1)
  (he:d=rd z (i:Int)-(q*rd v (i:Int)+0+c)%A6-b+A6*e):B7X u v (z.set i d) q (i+1) e ((q*rd v (i:Int)+0+c)/A6):=by
 obtain⟨hl,hd,hb,hc,hs⟩:=h
 obtain⟨y0,y1⟩:=D9 hv i hi
 obtain⟨-, -,n0,n1⟩:=mul_add q0 q1 y0 y1 (Int.le_refl 0) (by decide) hc.1 hc.2
 refine⟨by rw [List.length_set];exact hl,S8 hd _ d0 d1,⟨e0,e1⟩,⟨n0,n1⟩,?_⟩
 rw [X4 _ _ _ _ hz,O8,Int.pow_succ,he]
 have g:=Int.emod_add_mul_ediv (q*rd v (i:Int)+0+c) A6
 generalize(q*rd v (i:Int)+0+c)/A6=C at*
 generalize(q*rd v (i:Int)+0+c)%A6=l at*
 have er:l=q*rd v (i:Int)+c-A6*C:=by clear hs;omega
 have e2:rd z (i:Int)-l-b+A6*e-rd z (i:Int)=A6*e+A6*C-q*rd v (i:Int)-c-b:=by clear hs;omega
 rw [e2]
 generalize rd v (i:Int)=y at*
 generalize vB A6 (List.take i v)=T at*
 generalize(A6:Int)^i=P at*
 rw [Int.mul_add q,Int.mul_left_comm q P y,Int.mul_sub,Int.mul_sub,Int.mul_sub,Int.mul_add,Int.mul_assoc P A6,Int.mul_add A6,Int.mul_add P]
 rw [Int.mul_add]at hs
 generalize q*y=qy at*
 generalize P*qy=A at*
 generalize P*(A6*e)=A1 at*
 generalize P*(A6*C)=A2 at*
 generalize P*c=A3 at*
 generalize P*b=A4 at*
 omega
def B7q (u v z:List Int) (i:Nat) (c:Int):Prop:=
 z.length=u.length∧B7 A6 z∧(0≤c∧c≤1)∧vB A6 z+A6^i*c=vB A6 u+vB A6 (v.take i)
theorem F5E {u v z:List Int} {i:Nat} {c:Int} (hz:i<z.length) (hv:B7 A6 v) (hi:i<v.length) (h:B7q u v z i c):
  B7q u v (z.set i ((rd z (i:Int)+rd v (i:Int)+c)%A6)) (i+1) ((rd z (i:Int)+rd v (i:Int)+c)/A6):=by
 obtain⟨hl,hd,hc,hs⟩:=h
 obtain⟨x0,x1⟩:=D9 hd i hz
 obtain⟨y0,y1⟩:=D9 hv i hi
 refine⟨by rw [List.length_set];exact hl,S8 hd _ (Int.emod_nonneg _ (by decide)) (Int.emod_lt_of_pos _ (by decide)),B5Z x0 x1 y0 y1 hc.1 hc.2,?_⟩
 rw [X4 _ _ _ _ hz,O8,Int.pow_succ]
 have e:=Int.emod_add_mul_ediv (rd z (i:Int)+rd v (i:Int)+c) A6
 generalize(rd z (i:Int)+rd v (i:Int)+c)/A6=q at*
 generalize(rd z (i:Int)+rd v (i:Int)+c)%A6=r at*
 have er:r-rd z (i:Int)=rd v (i:Int)+c-A6*q:=by clear hs;omega
 rw [er,Int.mul_sub,Int.mul_add,Int.mul_assoc (A6^i) A6 q]
 generalize(A6:Int)^i=P at*
 omega
theorem E4j {u v z:List Int} {n:Nat} {c U q:Int} (hn:v.length=n) (hl:u.length=n+1) (h:B7q u v z n c) (hu:vB A6 u=U-q*vB A6 v+A6^(n+1)) (h0:0≤U-(q-1)*vB A6 v) (h1:U-(q-1)*vB A6 v<A6^(n+1)):
  vB A6 (z.set n (IntKind.u64.wrap (rd z (n:Int)+c)))=U-(q-1)*vB A6 v∧B7 A6 (z.set n (IntKind.u64.wrap (rd z (n:Int)+c))):=by
 obtain⟨hlz,hd,hc,hs⟩:=h
 have hz:n<z.length:=by omega
 obtain⟨x0,x1⟩:=D9 hd n hz
 have hdd:B7 A6 (z.set n (IntKind.u64.wrap (rd z (n:Int)+c))):=S8 hd _ (by rw [A1N];exact Int.emod_nonneg _ (by decide)) (by rw [A1N];exact Int.emod_lt_of_pos _ (by decide))
 refine⟨?_,hdd⟩
 have b0:=I6 (by decide) hdd
 have b1:=P2 (by decide) hdd
 rw [List.length_set,hlz,hl]at b1
 rw [X4 _ _ _ _ hz]at b0 b1⊢
 rw [X2 _ _ _ (by rw [hn];exact Nat.le_refl _)]at hs
 rw [A1N]at b0 b1⊢
 rw [Int.sub_mul,Int.one_mul]at h0 h1⊢
 have e:=Int.emod_add_mul_ediv (rd z (n:Int)+c) 18446744073709551616
 have x1':rd z (n:Int)<18446744073709551616:=x1
 have he:(rd z (n:Int)+c)/18446744073709551616=0∨(rd z (n:Int)+c)/18446744073709551616=1:=by clear hs hu h0 h1 b0 b1;omega
 have hBB:(A6:Int)^(n+1)=A6^n*18446744073709551616:=Int.pow_succ _ _
 rw [hBB]at hu h1 b1
 clear hBB hdd hd
 generalize(rd z (n:Int)+c)/18446744073709551616=E at*
 generalize(rd z (n:Int)+c)%18446744073709551616=r at*
 have er:r-rd z (n:Int)=c-18446744073709551616*E:=by clear hs hu h0 h1 b0 b1;omega
 rw [er,Int.mul_sub]at b0 b1⊢
 clear er e
 generalize(A6:Int)^n=P at*
 generalize q*vB A6 v=qV at*
 generalize P*c=Pc at*
 rcases he with rfl|rfl
 ·simp only [Int.mul_zero,Int.sub_zero]at b0 b1⊢
  omega
 ·simp only [Int.mul_one]at b0 b1⊢
  omega
theorem E8K {u v:List Int} {n:Nat} {q U:Int} (hn:v.length=n) (ln:n≤1099511627776) (hv:B7 A6 v) (hl:u.length=n+1) (hu:vB A6 u=U-q*vB A6 v+A6^(n+1)) (h0:0≤U-(q-1)*vB A6 v) (h1:U-(q-1)*vB A6 v<A6^(n+1)) (q0:1≤q) (q1:q<A6):
  ∀(d i:Nat) (z:List Int) (c:Int),i+d=n→B7q u v z i c→∃r,r.length=n+1∧B7 A6 r∧vB A6 r=U-(q-1)*vB A6 v∧Ev (fun k=>exact_step.l2 k z v (n:Int) q c (n:Int) (i:Int)) (q-1,r):=by
 intro d
 induction d with
 |zero=>
  intro i z c hi h
  have hi:i=n:=by omega
  subst hi
  obtain⟨g1,g2⟩:=E4j hn hl h hu h0 h1
  have hlz:=h.1
  have c1:(i:Int)<(z.length:Int):=by omega
  have q1':q<18446744073709551616:=q1
  have w1:IntKind.u64.wrap (q-1)=q-1:=by clear hu h0 h1 g1;exact u64 (by omega) (by omega)
  refine⟨_,by rw [List.length_set,hlz,hl],g2,g1,Ev.step (f:=fun _=>some _) (fun k=>?_) (Ev.now _)⟩
  simp only [exact_step.l2,w1]
  rw [if_neg (Int.lt_irrefl _),if_pos (Int.natCast_nonneg _),if_pos c1,Int.toNat_natCast]
 |succ d ih=>
  intro i z c hi h
  have hi':i<n:=by omega
  have hlz:=h.1
  have hiz:i<z.length:=by omega
  have c0:i+1+d=n:=by omega
  have c1:(i:Int)<(n:Int):=by omega
  have c2:(i:Int)<(z.length:Int):=by omega
  have c3:(i:Int)<(v.length:Int):=by omega
  obtain⟨x0,x1⟩:=D9 h.2.1 i hiz
  obtain⟨y0,y1⟩:=D9 hv i (by omega)
  have ea:=A8f x0 y0 h.2.2.1.1 h.2.2.1.2
  have e1:wrap64 ((i:Int)+1)=((i+1:Nat):Int):=by clear hu h0 h1;rw [D1 (by omega) (by omega)];omega
  obtain⟨r,r1,r2,r3,r4⟩:=ih (i+1) _ _ c0 (F5E hiz hv (by rw [hn];exact hi') h)
  refine⟨r,r1,r2,r3,Ev.step (fun k=>?_) r4⟩
  simp only [exact_step.l2,e1]
  rw [if_pos c1,if_pos (Int.natCast_nonneg _),if_pos c2,if_pos c3,ea,Option.bind_some,Int.toNat_natCast]
theorem E5Z {u v z:List Int} {n:Nat} {q b c d e:Int} (hn:v.length=n) (hl:u.length=n+1) (h:B7X u v z q n b c) (d0:0≤d) (d1:d<A6) (e0:0≤e) (e1:e≤1) (he:d=rd z (n:Int)-c-b+A6*e):
  (z.set n d).length=n+1∧B7 A6 (z.set n d)∧vB A6 (z.set n d)=vB A6 u-q*vB A6 v+A6^(n+1)*e:=by
 obtain⟨hlz,hd,hb,hc,hs⟩:=h
 refine⟨by rw [List.length_set,hlz,hl],S8 hd _ d0 d1,?_⟩
 rw [X4 _ _ _ _ (by omega),Int.pow_succ,he]
 rw [X2 _ _ _ (by rw [hn];exact Nat.le_refl _)]at hs
 have e2:rd z (n:Int)-c-b+A6*e-rd z (n:Int)=A6*e-c-b:=by clear hs;omega
 rw [e2,Int.mul_sub,Int.mul_sub,Int.mul_assoc (A6^n) A6]
 rw [Int.mul_add]at hs
 generalize(A6:Int)^n=P at*
 generalize P*(A6*e)=A1 at*
 generalize P*c=A3 at*
 generalize P*b=A4 at*
 omega
theorem F4a {u v:List Int} {n:Nat} {q:Int} (hn:v.length=n) (ln:n≤1099511627776) (hu:B7 A6 u) (hv:B7 A6 v) (hl:u.length=n+1) (hV:0<vB A6 v) (q0:0≤q) (q1:q<A6)
  (hq:vB A6 u/vB A6 v≤q) (hq':q≤vB A6 u/vB A6 v+1):∀(d i:Nat) (z:List Int) (b c:Int),i+d=n→B7X u v z q i b c→
  ∃r,r.length=n+1∧B7 A6 r∧vB A6 r=vB A6 u%vB A6 v∧Ev (fun k=>exact_step.l1 k z v (n:Int) q b c (n:Int) (i:Int)) (vB A6 u/vB A6 v,r):=by
 have hB:(0:Int)<A6:=by decide
 have hU0:=I6 (Int.le_of_lt hB) hu
 have hU1:=P2 hB hu
 have hV1:=P2 hB hv
 rw [hl]at hU1
 rw [hn]at hV1
 have hdm:=Int.emod_add_mul_ediv (vB A6 u) (vB A6 v)
 have hm0:=Int.emod_nonneg (vB A6 u) (show vB A6 v≠0 by omega)
 have hm1:=Int.emod_lt_of_pos (vB A6 u) hV
 have hp:=A9j hB (show n≤n+1 by omega)
 intro d
 induction d with
 |zero=>
  intro i z b c hi h
  have hi:i=n:=by omega
  subst hi
  have hlz:=h.1
  have c1:(i:Int)<(z.length:Int):=by clear hU1 hV1 hp;omega
  obtain⟨x0,x1⟩:=D9 h.2.1 i (by clear hU1 hV1 hp;omega)
  obtain⟨d,e,ea,d0,d1,b0,b1,he⟩:=C4E x0 x1 h.2.2.2.1.1 h.2.2.2.1.2 h.2.2.1.1 h.2.2.1.2
  obtain⟨g1,g2,g3⟩:=E5Z hn hl h d0 d1 b0 b1 he
  have hcase:e=0∨e=1:=by clear hU1 hV1 hp g3;omega
  rcases hcase with rfl|rfl
  ·rw [Int.mul_zero,Int.add_zero]at g3
   have g4:=I6 (Int.le_of_lt hB) g2
   rw [g3]at g4
   have hqe:q=vB A6 u/vB A6 v:=by
    have:q≤vB A6 u/vB A6 v:=Int.le_ediv_of_mul_le hV (by clear hU1 hV1 hp;omega)
    clear hU1 hV1 hp;omega
   refine⟨z.set i d,g1,g2,?_,Ev.step (f:=fun _=>some _) (fun k=>?_) (Ev.now _)⟩
   ·rw [g3,hqe]
    rw [Int.mul_comm]at hdm
    generalize vB A6 u/vB A6 v*vB A6 v=A at*
    clear hU1 hV1 hp;omega
   ·simp only [exact_step.l1]
    rw [if_neg (Int.lt_irrefl _),if_pos (Int.natCast_nonneg _),if_pos c1,ea,Option.bind_some,Option.bind_some,if_pos rfl,Int.toNat_natCast,←hqe]
  ·rw [Int.mul_one]at g3
   have g4:=P2 hB g2
   rw [g1,g3]at g4
   have hqe:vB A6 u/vB A6 v=q-1:=by
    have:vB A6 u/vB A6 v<q:=Int.ediv_lt_of_lt_mul hV (by
     generalize(A6:Int)^(i+1)=P at*
     omega)
    clear hU1 hV1 hp g4 g3;omega
   have hre:vB A6 u-(q-1)*vB A6 v=vB A6 u%vB A6 v:=by
    rw [hqe,Int.mul_comm]at hdm
    generalize(q-1)*vB A6 v=A at*
    clear hU1 hV1 hp g4 g3;omega
   have hq00:0≤vB A6 u/vB A6 v:=Int.ediv_nonneg hU0 (Int.le_of_lt hV)
   have hq01:1≤q:=by clear hU1 hV1 hp g4 g3;omega
   obtain⟨r,r1,r2,r3,r4⟩:=E8K (u:=z.set i d) (U:=vB A6 u) hn ln hv g1 g3 (by rw [hre];exact hm0) (by rw [hre];exact Int.lt_trans hm1 (Int.lt_of_lt_of_le hV1 hp)) hq01 q1 i 0 (z.set i d) 0 (Nat.zero_add _) ⟨rfl,g2,⟨by decide,by decide⟩,by simp [vB]⟩
   refine⟨r,r1,r2,by rw [r3,hre],?_⟩
   rw [hqe]
   refine Ev.step (f:=fun k=>exact_step.l2 k (z.set i d) v (i:Int) q 0 (i:Int) ((0:Nat):Int)) (fun k=>?_) r4
   simp only [exact_step.l1]
   rw [if_neg (Int.lt_irrefl _),if_pos (Int.natCast_nonneg _),if_pos c1,ea,Option.bind_some,Option.bind_some,if_neg (show¬(1:Int)=0 by decide),Int.toNat_natCast]
   rfl
 |succ d ih=>
  intro i z b c hi h
  have hlz:=h.1
  have hi':i<n:=by clear hU1 hV1 hp;omega
  have hiz:i<z.length:=by clear hU1 hV1 hp;omega
  have c0:i+1+d=n:=by clear hU1 hV1 hp;omega
  have c1:(i:Int)<(n:Int):=Int.ofNat_lt.2 hi'
  have c2:(i:Int)<(z.length:Int):=Int.ofNat_lt.2 hiz
  have c3:(i:Int)<(v.length:Int):=by rw [hn];exact c1
  have hiv:i<v.length:=by rw [hn];exact hi'
  obtain⟨x0,x1⟩:=D9 h.2.1 i hiz
  obtain⟨y0,y1⟩:=D9 hv i hiv
  have hc:=h.2.2.2.1
  have hb:=h.2.2.1
  obtain⟨m0,m1,n0,n1⟩:=mul_add q0 q1 y0 y1 (Int.le_refl 0) hB hc.1 hc.2
  have a1:=B8j q0 q1 y0 y1
  have a2:=A8f (Int.emod_nonneg (q*rd v (i:Int)) (show(A6:Int)≠0 by decide)) hc.1 (Int.le_refl 0) (by decide)
  have l0:=Int.emod_nonneg (q*rd v (i:Int)+0+c) (show(A6:Int)≠0 by decide)
  have l1:=Int.emod_lt_of_pos (q*rd v (i:Int)+0+c) (show(0:Int)<A6 by decide)
  obtain⟨d,e,ea,d0,d1,b0,b1,he⟩:=C4E x0 x1 l0 l1 hb.1 hb.2
  have e1:wrap64 ((i:Int)+1)=((i+1:Nat):Int):=by clear hU1 hV1 hp a1 a2 m0 m1 ea he hdm;rw [D1 (by omega) (by omega)];omega
  have e2:(q*rd v (i:Int)%A6+c+0)%A6=(q*rd v (i:Int)+0+c)%A6∧IntKind.u64.wrap (q*rd v (i:Int)/A6+(q*rd v (i:Int)%A6+c+0)/A6)=(q*rd v (i:Int)+0+c)/A6:=by
   clear hU1 hV1 hp a1 a2 ea he hdm m0 m1
   have hc2:c<18446744073709551616:=hc.2
   have n0':0≤(q*rd v (i:Int)+0+c)/18446744073709551616:=n0
   have n1':(q*rd v (i:Int)+0+c)/18446744073709551616<18446744073709551616:=n1
   have hc1:=hc.1
   show(q*rd v (i:Int)%18446744073709551616+c+0)%18446744073709551616=(q*rd v (i:Int)+0+c)%18446744073709551616∧IntKind.u64.wrap (q*rd v (i:Int)/18446744073709551616+(q*rd v (i:Int)%18446744073709551616+c+0)/18446744073709551616)=(q*rd v (i:Int)+0+c)/18446744073709551616
   generalize q*rd v (i:Int)=p at*
   have e3:p/18446744073709551616+(p%18446744073709551616+c+0)/18446744073709551616=(p+0+c)/18446744073709551616:=by omega
   rw [e3,u64 n0' n1']
   exact⟨by omega,rfl⟩
  obtain⟨r,r1,r2,r3,r4⟩:=ih (i+1) _ _ _ c0 (sub_mul hiz q0 q1 hv hiv h d0 d1 b0 b1 he)
  refine⟨r,r1,r2,r3,Ev.step (fun k=>?_) r4⟩
  simp only [exact_step.l1,e1]
  rw [if_pos c1,if_pos (Int.natCast_nonneg _),if_pos c3,a1,Option.bind_some,a2,Option.bind_some,if_pos c2,e2.1,ea,Option.bind_some,e2.2,Int.toNat_natCast]
theorem D4C {v:List Int} {n:Nat} (hv:B7 A6 v) (hn:v.length=n+2):∃l,0≤l∧l<A6^n∧vB A6 v=l+A6^n*(rd v (n:Int)+A6*rd v ((n+1:Nat):Int)):=by
 refine⟨vB A6 (v.take n),I6 (by decide) (O2 hv _),?_,?_⟩
 ·have:=P2 (by decide) (O2 hv n)
  rwa [List.length_take,Nat.min_eq_left (by omega)]at this
 ·have h:=X2 A6 v (n+1+1) (by omega)
  rw [←h,O8,O8,Int.pow_succ,Int.mul_add,Int.mul_assoc,Int.add_assoc]
theorem D7W {u:List Int} {n:Nat} (hu:B7 A6 u) (hn:u.length=n+3):∃l,0≤l∧l<A6^n∧vB A6 u=l+A6^n*(rd u (n:Int)+A6*(rd u ((n+1:Nat):Int)+A6*rd u ((n+2:Nat):Int))):=by
 refine⟨vB A6 (u.take n),I6 (by decide) (O2 hu _),?_,?_⟩
 ·have:=P2 (by decide) (O2 hu n)
  rwa [List.length_take,Nat.min_eq_left (by omega)]at this
 ·have h:=X2 A6 u (n+1+1+1) (by omega)
  have p1:(A6:Int)^(n+1)=A6^n*A6:=Int.pow_succ _ _
  have p2:(A6:Int)^(n+1+1)=A6^n*A6*A6:=by rw [Int.pow_succ,p1]
  rw [←h,O8,O8,O8,p2,p1,Int.mul_add A6,Int.mul_add (A6^n),Int.mul_add (A6^n),Int.mul_assoc (A6^n) A6 (rd u _),Int.mul_assoc (A6^n*A6) A6,Int.mul_assoc (A6^n) A6 (A6*_)]
  generalize A6^n*rd u (n:Int)=a
  generalize A6^n*(A6*rd u ((n+1:Nat):Int))=b
  generalize A6^n*(A6*(A6*rd u ((n+2:Nat):Int)))=c
  omega
section
theorem E8m {P lv lu W X q U V:Int} (hP:0<P) (lv0:0≤lv) (lv1:lv<P) (lu0:0≤lu) (hV:V=lv+P*W) (hU:U=lu+P*X) (hW:A6≤W) (q0:0≤q) (q1:q<A6) (h:q*W≤X):q≤U/V+1:=by
 have hV0:0<V:=by
  have:0<P*W:=Int.mul_pos hP (Int.lt_of_lt_of_le (by decide) hW)
  omega
 have h1:q*V<U+V:=by
  have e1:q*V=q*lv+P*(q*W):=by rw [hV,Int.mul_add,Int.mul_left_comm]
  have e2:P*(q*W)≤P*X:=Int.mul_le_mul_of_nonneg_left h (Int.le_of_lt hP)
  have e3:q*lv≤q*P:=Int.mul_le_mul_of_nonneg_left (Int.le_of_lt lv1) q0
  have e4:q*P<A6*P:=Int.mul_lt_mul_of_pos_right q1 hP
  have e5:P*A6≤P*W:=Int.mul_le_mul_of_nonneg_left hW (Int.le_of_lt hP)
  rw [Int.mul_comm A6 P]at e4
  omega
 have h2:(q-1)*V≤U:=by rw [Int.sub_mul,Int.one_mul];omega
 have:=Int.le_ediv_of_mul_le hV0 h2
 omega
theorem F4N {P lv lu W X q U V:Int} (hP:0<P) (lv0:0≤lv) (lu1:lu<P) (hV:V=lv+P*W) (hU:U=lu+P*X) (hV0:0<V) (q0:0≤q) (h:X<q*W):U/V≤q-1:=by
 have:U/V<q:=by
  apply Int.ediv_lt_of_lt_mul hV0
  have e1:q*V=q*lv+P*(q*W):=by rw [hV,Int.mul_add,Int.mul_left_comm]
  have e2:P*(X+1)≤P*(q*W):=Int.mul_le_mul_of_nonneg_left (by omega) (Int.le_of_lt hP)
  rw [Int.mul_add,Int.mul_one]at e2
  have e3:0≤q*lv:=Int.mul_nonneg q0 lv0
  omega
 omega
end
theorem D5V {u v:List Int} {n:Nat} {q r o:Int} (hn:v.length=n+2) (hl:u.length=n+3) (ew:wrap64 (((n+2:Nat):Int)-2)=((n:Nat):Int)) (q0:0≤q) (q1:q<A6) (w0:0≤rd v (n:Int)) (w1:rd v (n:Int)<A6) (t0:0≤rd u (n:Int)) (t1:rd u (n:Int)<A6)
  (h:o=1∨o=0∧q*rd v (n:Int)≤A6*r+rd u (n:Int)) (k:Nat):exact_step.l0 (k+1) u v ((n+2:Nat):Int) q r o=exact_step.j2 k u v ((n+2:Nat):Int) q:=by
 rcases h with rfl| ⟨rfl,h⟩
 ·simp only [exact_step.l0]
  rw [if_neg (show¬(1:Int)=0 by decide)]
 ·have c1:(n:Int)<(v.length:Int):=by clear h ew;omega
  have c2:(n:Int)<(u.length:Int):=by clear h ew;omega
  have t1':rd u (n:Int)<18446744073709551616:=t1
  have h':q*rd v (n:Int)≤18446744073709551616*r+rd u (n:Int):=h
  have e:=Int.emod_add_mul_ediv (q*rd v (n:Int)) 18446744073709551616
  have m0:=Int.emod_nonneg (q*rd v (n:Int)) (show(18446744073709551616:Int)≠0 by decide)
  have g:q*rd v (n:Int)/18446744073709551616<r∨q*rd v (n:Int)/18446744073709551616=r∧q*rd v (n:Int)%18446744073709551616≤rd u (n:Int):=by clear h ew;omega
  have a1:=B8j q0 q1 w0 w1
  simp only [exact_step.l0,ew]
  rw [if_pos trivial,if_pos (Int.natCast_nonneg _),if_pos c1,a1,Option.bind_some]
  rcases g with g| ⟨g1,g2⟩
  ·rw [if_pos g]
  ·rw [if_neg (show¬q*rd v (n:Int)/18446744073709551616<r by clear h ew;omega),if_pos g1,if_pos c2,if_pos g2]
theorem E7z {u v:List Int} {n:Nat} {q r:Int} (hn:v.length=n+2) (hl:u.length=n+3) (ew:wrap64 (((n+2:Nat):Int)-2)=((n:Nat):Int)) (ew1:wrap64 (((n+2:Nat):Int)-1)=((n+1:Nat):Int)) (q0:1≤q) (q1:q<A6) (r0:0≤r) (w0:0≤rd v (n:Int)) (w1:rd v (n:Int)<A6) (t0:0≤rd u (n:Int)) (t1:rd u (n:Int)<A6) (y0:0≤rd v ((n+1:Nat):Int))
  (h:¬q*rd v (n:Int)≤A6*r+rd u (n:Int)) (k:Nat):exact_step.l0 (k+1) u v ((n+2:Nat):Int) q r 0=exact_step.l0 k u v ((n+2:Nat):Int) (q-1) ((r+rd v ((n+1:Nat):Int)+0)%A6) ((r+rd v ((n+1:Nat):Int)+0)/A6):=by
 have c1:(n:Int)<(v.length:Int):=by clear h ew ew1;omega
 have c2:(n:Int)<(u.length:Int):=by clear h ew ew1;omega
 have c3:((n+1:Nat):Int)<(v.length:Int):=by clear h ew ew1;omega
 have t1':rd u (n:Int)<18446744073709551616:=t1
 have q1':q<18446744073709551616:=q1
 have h':¬q*rd v (n:Int)≤18446744073709551616*r+rd u (n:Int):=h
 have e:=Int.emod_add_mul_ediv (q*rd v (n:Int)) 18446744073709551616
 have m0:=Int.emod_lt_of_pos (q*rd v (n:Int)) (show(0:Int)<18446744073709551616 by decide)
 have g1:¬q*rd v (n:Int)/18446744073709551616<r:=by clear h ew ew1;omega
 have g2:q*rd v (n:Int)/18446744073709551616=r→¬q*rd v (n:Int)%18446744073709551616≤rd u (n:Int):=by clear h ew ew1;omega
 have a1:=B8j (show 0≤q by omega) q1 w0 w1
 have a2:=A8f r0 y0 (Int.le_refl 0) (by decide)
 have wq:IntKind.u64.wrap (q-1)=q-1:=by clear h h' ew ew1 g1 g2 e;exact u64 (by omega) (by omega)
 conv=>lhs;simp only [exact_step.l0,ew,ew1,wq]
 rw [if_pos trivial,if_pos (Int.natCast_nonneg _),if_pos c1,a1,Option.bind_some,if_neg g1]
 by_cases g3:q*rd v (n:Int)/18446744073709551616=r
 ·rw [if_pos g3,if_pos c2,if_neg (g2 g3),if_pos (Int.natCast_nonneg _),if_pos c3,a2,Option.bind_some]
 ·rw [if_neg g3,if_pos (Int.natCast_nonneg _),if_pos c3,a2,Option.bind_some]
theorem D8m {u v:List Int} {n:Nat} (hn:v.length=n+2) (ln:n≤1099511627000) (hu:B7 A6 u) (hv:B7 A6 v) (hl:u.length=n+3) (ht:rd v ((n+1:Nat):Int)≠0):
  ∀(d:Nat) (q r o:Int),q=vB A6 u/vB A6 v+d→0≤q→q<A6→0≤r→r<A6→(o=0∨o=1)→q*rd v ((n+1:Nat):Int)+(r+A6*o)=rd u ((n+1:Nat):Int)+A6*rd u ((n+2:Nat):Int)→
  ∃z,z.length=n+3∧B7 A6 z∧vB A6 z=vB A6 u%vB A6 v∧Ev (fun k=>exact_step.l0 k u v ((n+2:Nat):Int) q r o) (vB A6 u/vB A6 v,z):=by
 have hB:(0:Int)<A6:=by decide
 obtain⟨lv,lv0,lv1,eV⟩:=D4C hv hn
 obtain⟨lu,lu0,lu1,eU⟩:=D7W hu hl
 have hP:(0:Int)<A6^n:=Int.pow_pos hB
 obtain⟨y0,y1⟩:=D9 hv (n+1) (by clear lv1 lu1 eV eU;omega)
 obtain⟨w0,w1⟩:=D9 hv n (by clear lv1 lu1 eV eU;omega)
 obtain⟨t0,t1⟩:=D9 hu n (by clear lv1 lu1 eV eU;omega)
 have hW:A6≤rd v (n:Int)+A6*rd v ((n+1:Nat):Int):=by
  have:A6*1≤A6*rd v ((n+1:Nat):Int):=Int.mul_le_mul_of_nonneg_left (by clear lv1 lu1 eV eU;omega) (Int.le_of_lt hB)
  rw [Int.mul_one]at this
  clear lv1 lu1 eV eU;omega
 have hV0:0<vB A6 v:=by
  have:0<A6^n*(rd v (n:Int)+A6*rd v ((n+1:Nat):Int)):=Int.mul_pos hP (Int.lt_of_lt_of_le hB hW)
  generalize A6^n*(rd v (n:Int)+A6*rd v ((n+1:Nat):Int))=A at*
  clear lv1 lu1 eU;omega
 have hQ0:0≤vB A6 u/vB A6 v:=Int.ediv_nonneg (I6 (Int.le_of_lt hB) hu) (Int.le_of_lt hV0)
 have ew:wrap64 (((n+2:Nat):Int)-2)=((n:Nat):Int):=by clear lv1 lu1 eV eU;rw [D1 (by omega) (by omega)];omega
 have ew1:wrap64 (((n+2:Nat):Int)-1)=((n+1:Nat):Int):=by clear lv1 lu1 eV eU ew;rw [D1 (by omega) (by omega)];omega
 have done:∀q:Int,vB A6 u/vB A6 v≤q→0≤q→q<A6→q*(rd v (n:Int)+A6*rd v ((n+1:Nat):Int))≤rd u (n:Int)+A6*(rd u ((n+1:Nat):Int)+A6*rd u ((n+2:Nat):Int))→
   ∃z,z.length=n+3∧B7 A6 z∧vB A6 z=vB A6 u%vB A6 v∧Ev (fun k=>exact_step.j2 k u v ((n+2:Nat):Int) q) (vB A6 u/vB A6 v,z):=by
  intro q g1 q0 q1 g2
  have g3:=E8m hP lv0 lv1 lu0 eV eU hW q0 q1 g2
  obtain⟨z,z1,z2,z3,z4⟩:=F4a hn (by clear lv1 lu1 eV eU ew ew1;omega) hu hv hl hV0 q0 q1 g1 g3 (n+2) 0 u 0 0 (Nat.zero_add _) ⟨rfl,hu,⟨by decide,by decide⟩,⟨by decide,hB⟩,by simp [vB]⟩
  exact⟨z,z1,z2,z3,Ev.step (f:=fun k=>exact_step.l1 k u v ((n+2:Nat):Int) q 0 0 ((n+2:Nat):Int) ((0:Nat):Int)) (fun k=>rfl) z4⟩
 have test:∀q r:Int,q*rd v ((n+1:Nat):Int)+r=rd u ((n+1:Nat):Int)+A6*rd u ((n+2:Nat):Int)→(q*rd v (n:Int)≤A6*r+rd u (n:Int)↔q*(rd v (n:Int)+A6*rd v ((n+1:Nat):Int))≤rd u (n:Int)+A6*(rd u ((n+1:Nat):Int)+A6*rd u ((n+2:Nat):Int))):=by
  intro q r he
  rw [←he,Int.mul_add q,Int.mul_left_comm q A6,Int.mul_add A6]
  generalize q*rd v ((n+1:Nat):Int)=a
  generalize q*rd v (n:Int)=b
  clear lv1 lu1 eV eU ew ew1
  omega
 intro d
 induction d with
 |zero=>
  intro q r o hq q0 q1 r0 r1 ho he
  have hq:vB A6 u/vB A6 v=q:=by omega
  have hle:q*rd v (n:Int)≤A6*(r+A6*o)+rd u (n:Int):=by
   rw [test q (r+A6*o) he]
   rcases Int.lt_or_le (rd u (n:Int)+A6*(rd u ((n+1:Nat):Int)+A6*rd u ((n+2:Nat):Int))) (q*(rd v (n:Int)+A6*rd v ((n+1:Nat):Int)))with h|h
   ·have:=F4N hP lv0 lu1 eV eU hV0 q0 h
    omega
   ·exact h
  obtain⟨z,z1,z2,z3,z4⟩:=done q (by omega) q0 q1 ((test q _ he).1 hle)
  refine⟨z,z1,z2,z3,Ev.step (fun k=>D5V hn hl ew q0 q1 w0 w1 t0 t1 ?_ k) z4⟩
  rcases ho with rfl|rfl
  ·right
   rw [Int.mul_zero,Int.add_zero]at hle
   exact⟨rfl,hle⟩
  ·exact Or.inl rfl
 |succ d ih=>
  intro q r o hq q0 q1 r0 r1 ho he
  by_cases hp:o=1∨o=0∧q*rd v (n:Int)≤A6*r+rd u (n:Int)
  ·have hle:q*rd v (n:Int)≤A6*(r+A6*o)+rd u (n:Int):=by
    rcases hp with rfl| ⟨rfl,h⟩
    ·have q1':q<18446744073709551616:=q1
     have w1':rd v (n:Int)<18446744073709551616:=w1
     have h1:=A2d q0 (show q≤18446744073709551615 by omega) w0 (show rd v (n:Int)≤18446744073709551615 by omega)
     have h2:(18446744073709551615:Int)*18446744073709551615=340282366920938463426481119284349108225:=rfl
     have h3:(A6:Int)*(A6*1)=340282366920938463463374607431768211456:=rfl
     rw [h2]at h1
     rw [Int.mul_add,h3]
     have h4:0≤A6*r:=Int.mul_nonneg (by decide) r0
     clear lv1 lu1 eV eU ew ew1
     omega
    ·rw [Int.mul_zero,Int.add_zero]
     exact h
   obtain⟨z,z1,z2,z3,z4⟩:=done q (by omega) q0 q1 ((test q _ he).1 hle)
   exact⟨z,z1,z2,z3,Ev.step (fun k=>D5V hn hl ew q0 q1 w0 w1 t0 t1 hp k) z4⟩
  ·have ho:o=0:=by
    rcases ho with h|h
    ·exact h
    ·exact absurd (Or.inl h) hp
   subst ho
   have hp':¬q*rd v (n:Int)≤A6*r+rd u (n:Int):=fun h=>hp (Or.inr ⟨rfl,h⟩)
   have hov:=B5Z r0 r1 y0 y1 (Int.le_refl 0) (by decide)
   have he2:=Int.emod_add_mul_ediv (r+rd v ((n+1:Nat):Int)+0) A6
   obtain⟨z,z1,z2,z3,z4⟩:=ih (q-1) ((r+rd v ((n+1:Nat):Int)+0)%A6) ((r+rd v ((n+1:Nat):Int)+0)/A6) (by omega) (by omega) (by omega) (Int.emod_nonneg _ (by decide)) (Int.emod_lt_of_pos _ hB) (by omega) (by
    rw [he2,Int.sub_mul,Int.one_mul]
    rw [Int.mul_zero]at he
    clear lv1 lu1 eV eU ew ew1 hp hp' hov he2
    omega)
   exact⟨z,z1,z2,z3,Ev.step (fun k=>E7z hn hl ew ew1 (by omega) q1 r0 w0 w1 t0 t1 y0 hp' k) z4⟩
theorem F6E {u v:List Int} {n:Nat} (hn:v.length=n+2) (ln:n≤1099511627000) (hu:B7 A6 u) (hv:B7 A6 v) (hl:u.length=n+3) (ht:rd v ((n+1:Nat):Int)≠0) (hlt:vB A6 u<vB A6 v*A6):
  ∃z,z.length=n+3∧B7 A6 z∧vB A6 z=vB A6 u%vB A6 v∧Ev (fun k=>exact_step.f k u v) (vB A6 u/vB A6 v,z):=by
 have hB:(0:Int)<A6:=by decide
 obtain⟨lv,lv0,lv1,eV⟩:=D4C hv hn
 obtain⟨lu,lu0,lu1,eU⟩:=D7W hu hl
 have hP:(0:Int)<A6^n:=Int.pow_pos hB
 obtain⟨y0,y1⟩:=D9 hv (n+1) (by clear lv1 lu1 eV eU;omega)
 obtain⟨w0,w1⟩:=D9 hv n (by clear lv1 lu1 eV eU;omega)
 obtain⟨t0,t1⟩:=D9 hu n (by clear lv1 lu1 eV eU;omega)
 obtain⟨p0,p1⟩:=D9 hu (n+1) (by clear lv1 lu1 eV eU;omega)
 obtain⟨x0,x1⟩:=D9 hu (n+2) (by clear lv1 lu1 eV eU;omega)
 have y2:1≤rd v ((n+1:Nat):Int):=by clear lv1 lu1 eV eU;omega
 have hW:A6≤rd v (n:Int)+A6*rd v ((n+1:Nat):Int):=by
  have:A6*1≤A6*rd v ((n+1:Nat):Int):=Int.mul_le_mul_of_nonneg_left y2 (Int.le_of_lt hB)
  rw [Int.mul_one]at this
  clear lv1 lu1 eV eU;omega
 have hV0:0<vB A6 v:=by
  have:0<A6^n*(rd v (n:Int)+A6*rd v ((n+1:Nat):Int)):=Int.mul_pos hP (Int.lt_of_lt_of_le hB hW)
  generalize A6^n*(rd v (n:Int)+A6*rd v ((n+1:Nat):Int))=A at*
  clear lv1 lu1 eU;omega
 have hQ0:0≤vB A6 u/vB A6 v:=Int.ediv_nonneg (I6 (Int.le_of_lt hB) hu) (Int.le_of_lt hV0)
 have hQ1:vB A6 u/vB A6 v<A6:=Int.ediv_lt_of_lt_mul hV0 (by rw [Int.mul_comm];exact hlt)
 have hX:(vB A6 u/vB A6 v)*rd v ((n+1:Nat):Int)≤rd u ((n+1:Nat):Int)+A6*rd u ((n+2:Nat):Int):=by
  have h1:=Int.ediv_mul_le (vB A6 u) (show vB A6 v≠0 by clear lv1 lu1 eV eU;omega)
  generalize vB A6 u/vB A6 v=Q at*
  rw [eV,eU]at h1
  have e1:Q*(lv+A6^n*(rd v (n:Int)+A6*rd v ((n+1:Nat):Int)))=Q*lv+Q*(A6^n*rd v (n:Int))+A6^n*(A6*(Q*rd v ((n+1:Nat):Int))):=by
   rw [Int.mul_add Q,Int.mul_add (A6^n),Int.mul_add Q,Int.mul_left_comm Q (A6^n) (A6*_),Int.mul_left_comm Q A6,Int.add_assoc]
  rw [e1]at h1
  have h2:0≤Q*lv:=Int.mul_nonneg hQ0 lv0
  have h3:0≤Q*(A6^n*rd v (n:Int)):=Int.mul_nonneg hQ0 (Int.mul_nonneg (Int.le_of_lt hP) w0)
  rcases Int.lt_or_le (rd u ((n+1:Nat):Int)+A6*rd u ((n+2:Nat):Int)) (Q*rd v ((n+1:Nat):Int))with h|h
  ·exfalso
   have h4:A6*(rd u ((n+1:Nat):Int)+A6*rd u ((n+2:Nat):Int)+1)≤A6*(Q*rd v ((n+1:Nat):Int)):=Int.mul_le_mul_of_nonneg_left (by clear lv1 lu1 eV eU h1 e1;omega) (Int.le_of_lt hB)
   have h5:=Int.mul_le_mul_of_nonneg_left h4 (Int.le_of_lt hP)
   have h6:A6^n*(rd u (n:Int)+1)≤A6^n*A6:=Int.mul_le_mul_of_nonneg_left (by clear lv1 lu1 eV eU h1 e1 h5;omega) (Int.le_of_lt hP)
   rw [Int.mul_add A6,Int.mul_one,Int.mul_add (A6^n)]at h5
   rw [Int.mul_add (A6^n) (rd u (n:Int)),Int.mul_one]at h6
   rw [Int.mul_add (A6^n) (rd u (n:Int))]at h1
   generalize A6^n*(A6*(rd u ((n+1:Nat):Int)+A6*rd u ((n+2:Nat):Int)))=A at*
   generalize A6^n*(A6*(Q*rd v ((n+1:Nat):Int)))=A1 at*
   generalize A6^n*rd u (n:Int)=A2 at*
   generalize A6^n*A6=A3 at*
   generalize(A6:Int)^n=P at*
   clear eV eU e1 hV0 hQ1
   omega
  ·exact h
 have ew1:wrap64 (((n+2:Nat):Int)-1)=((n+1:Nat):Int):=by clear lv1 lu1 eV eU;rw [D1 (by omega) (by omega)];omega
 have c1:((n+2:Nat):Int)<(u.length:Int):=by clear lv1 lu1 eV eU ew1;omega
 have c2:((n+1:Nat):Int)<(v.length:Int):=by clear lv1 lu1 eV eU ew1;omega
 have c3:((n+1:Nat):Int)<(u.length:Int):=by clear lv1 lu1 eV eU ew1;omega
 have ev:(v.length:Int)=((n+2:Nat):Int):=by clear lv1 lu1 eV eU ew1;omega
 by_cases hc:rd u ((n+2:Nat):Int)≥rd v ((n+1:Nat):Int)
 ·
  have heq:rd u ((n+2:Nat):Int)=rd v ((n+1:Nat):Int):=by
   rcases Int.lt_or_le (rd v ((n+1:Nat):Int)) (rd u ((n+2:Nat):Int))with h|h
   ·exfalso
    have g1:A6*(rd v ((n+1:Nat):Int)+1)≤A6*rd u ((n+2:Nat):Int):=Int.mul_le_mul_of_nonneg_left (by clear lv1 lu1 eV eU;omega) (Int.le_of_lt hB)
    rw [Int.mul_add,Int.mul_one]at g1
    have g2:rd v (n:Int)+A6*rd v ((n+1:Nat):Int)+1≤rd u ((n+1:Nat):Int)+A6*rd u ((n+2:Nat):Int):=by clear lv1 lu1 eV eU;omega
    have g3:A6*(rd v (n:Int)+A6*rd v ((n+1:Nat):Int)+1)≤A6*(rd u ((n+1:Nat):Int)+A6*rd u ((n+2:Nat):Int)):=Int.mul_le_mul_of_nonneg_left g2 (Int.le_of_lt hB)
    have g4:=Int.mul_le_mul_of_nonneg_left g3 (Int.le_of_lt hP)
    rw [eV,eU,Int.add_mul,Int.mul_add (A6^n) (rd u (n:Int))]at hlt
    have g5:0≤A6^n*rd u (n:Int):=Int.mul_nonneg (Int.le_of_lt hP) t0
    have g6:lv*A6<A6^n*A6:=Int.mul_lt_mul_of_pos_right lv1 hB
    rw [Int.mul_add A6,Int.mul_one,Int.mul_add (A6^n)]at g4
    have e2:A6^n*(rd v (n:Int)+A6*rd v ((n+1:Nat):Int))*A6=A6^n*(A6*(rd v (n:Int)+A6*rd v ((n+1:Nat):Int))):=by rw [Int.mul_assoc,Int.mul_comm _ A6]
    rw [e2]at hlt
    generalize A6^n*(A6*(rd u ((n+1:Nat):Int)+A6*rd u ((n+2:Nat):Int)))=A at*
    generalize A6^n*(A6*(rd v (n:Int)+A6*rd v ((n+1:Nat):Int)))=A1 at*
    generalize A6^n*rd u (n:Int)=A2 at*
    generalize A6^n*A6=A3 at*
    generalize lv*A6=A4 at*
    clear eV eU e2 hV0 hQ1 hX lv1 lu1
    omega
   ·clear lv1 lu1 eV eU;omega
  have a2:=A8f p0 y0 (Int.le_refl 0) (by decide)
  have hov:=B5Z p0 p1 y0 y1 (Int.le_refl 0) (by decide)
  have he2:=Int.emod_add_mul_ediv (rd u ((n+1:Nat):Int)+rd v ((n+1:Nat):Int)+0) A6
  have hd:(18446744073709551615:Int)=vB A6 u/vB A6 v+((18446744073709551615-vB A6 u/vB A6 v).toNat:Nat):=by
   have:vB A6 u/vB A6 v<18446744073709551616:=hQ1
   clear lv1 lu1 eV eU;omega
  obtain⟨z,z1,z2,z3,z4⟩:=D8m hn ln hu hv hl ht _ 18446744073709551615 _ _ hd (by decide) (by decide) (Int.emod_nonneg _ (by decide)) (Int.emod_lt_of_pos _ hB) (show(rd u ((n+1:Nat):Int)+rd v ((n+1:Nat):Int)+0)/A6=0∨(rd u ((n+1:Nat):Int)+rd v ((n+1:Nat):Int)+0)/A6=1 by clear lv1 lu1 eV eU;omega) (by
   rw [he2,heq]
   show 18446744073709551615*rd v ((n+1:Nat):Int)+(rd u ((n+1:Nat):Int)+rd v ((n+1:Nat):Int)+0)=rd u ((n+1:Nat):Int)+18446744073709551616*rd v ((n+1:Nat):Int)
   clear lv1 lu1 eV eU;omega)
  refine⟨z,z1,z2,z3,Ev.congr (fun k=>?_) (Ev.step (f:=_) (fun k=>rfl) z4:Ev (fun k=>exact_step.j0 k u v ((n+2:Nat):Int) 18446744073709551615 ((rd u ((n+1:Nat):Int)+rd v ((n+1:Nat):Int)+0)%A6) ((rd u ((n+1:Nat):Int)+rd v ((n+1:Nat):Int)+0)/A6)) _)⟩
  unfold exact_step.f
  rw [ev,ew1,if_pos (Int.natCast_nonneg _),if_pos c1,if_pos (Int.natCast_nonneg _),if_pos (by rw [←ev];exact c2),if_pos hc,if_pos c3,a2,Option.bind_some]
 ·have hq:=D6I x0 (show rd u ((n+2:Nat):Int)<rd v ((n+1:Nat):Int)by clear lv1 lu1 eV eU;omega) y1 p0 p1
  have hyp:0<rd v ((n+1:Nat):Int):=by clear lv1 lu1 eV eU;omega
  have g:=Int.emod_add_mul_ediv (rd u ((n+2:Nat):Int)*A6+rd u ((n+1:Nat):Int)) (rd v ((n+1:Nat):Int))
  have r0:=Int.emod_nonneg (rd u ((n+2:Nat):Int)*A6+rd u ((n+1:Nat):Int)) (show rd v ((n+1:Nat):Int)≠0 from ht)
  have r1:=Int.emod_lt_of_pos (rd u ((n+2:Nat):Int)*A6+rd u ((n+1:Nat):Int)) hyp
  have q0:0≤(rd u ((n+2:Nat):Int)*A6+rd u ((n+1:Nat):Int))/rd v ((n+1:Nat):Int):=Int.ediv_nonneg (Int.add_nonneg (Int.mul_nonneg x0 (Int.le_of_lt hB)) p0) (Int.le_of_lt hyp)
  have q1:(rd u ((n+2:Nat):Int)*A6+rd u ((n+1:Nat):Int))/rd v ((n+1:Nat):Int)<A6:=Int.ediv_lt_of_lt_mul hyp (by
   have h1:=Int.mul_le_mul_of_nonneg_right (show rd u ((n+2:Nat):Int)+1≤rd v ((n+1:Nat):Int)by clear lv1 lu1 eV eU;omega) (Int.le_of_lt hB)
   rw [Int.add_mul,Int.one_mul,Int.mul_comm (rd v _)]at h1
   clear lv1 lu1 eV eU;omega)
  have hQq:vB A6 u/vB A6 v≤(rd u ((n+2:Nat):Int)*A6+rd u ((n+1:Nat):Int))/rd v ((n+1:Nat):Int):=Int.le_ediv_of_mul_le hyp (by rw [Int.mul_comm (rd u _) A6,Int.add_comm];exact hX)
  obtain⟨z,z1,z2,z3,z4⟩:=D8m hn ln hu hv hl ht ((rd u ((n+2:Nat):Int)*A6+rd u ((n+1:Nat):Int))/rd v ((n+1:Nat):Int)-vB A6 u/vB A6 v).toNat ((rd u ((n+2:Nat):Int)*A6+rd u ((n+1:Nat):Int))/rd v ((n+1:Nat):Int)) ((rd u ((n+2:Nat):Int)*A6+rd u ((n+1:Nat):Int))%rd v ((n+1:Nat):Int)) 0 (by clear lv1 lu1 eV eU;omega) q0 q1 r0 (Int.lt_trans r1 y1) (Or.inl rfl) (by
   rw [Int.mul_zero,Int.add_zero,Int.mul_comm]
   rw [Int.mul_comm (rd u _) A6]at g⊢
   clear lv1 lu1 eV eU;omega)
  refine⟨z,z1,z2,z3,Ev.congr (f:=fun k=>(bits_Div64.f k (rd u ((n+2:Nat):Int)) (rd u ((n+1:Nat):Int)) (rd v ((n+1:Nat):Int))).bind fun bt=>exact_step.j0 k u v ((n+2:Nat):Int) bt.1 bt.2 0) (fun k=>?_) (Ev.bind hq (Ev.step (f:=_) (fun k=>rfl) z4))⟩
  unfold exact_step.f
  rw [ev,ew1,if_pos (Int.natCast_nonneg _),if_pos c1,if_pos (Int.natCast_nonneg _),if_pos (by rw [←ev];exact c2),if_neg hc,if_pos c3]
theorem v9 (B:Int) (l:List Int) (i:Nat) (h:i<l.length):vB B (l.drop i)=rd l (i:Int)+B*vB B (l.drop (i+1)):=by
 rw [List.drop_eq_getElem_cons h,v3,A0l l i h]
theorem C4R (l:List Int) (i:Nat) (x:Int):(l.set i x).drop (i+1)=l.drop (i+1):=by
 apply List.ext_getElem?
 intro j
 rw [List.getElem?_drop,List.getElem?_drop,List.getElem?_set_ne (by omega)]
theorem B6D (B:Int) {l:List Int} {n:Nat} (h:l.length≤n):vB B (l.drop n)=0:=by rw [List.drop_of_length_le h];rfl
theorem D9U {a b:List Int} {y:Int} (ha:B7 A6 a) (la:a.length≤1099511627776) (hb:b.length=1) (hy:rd b 0=y) (y0:0<y) (y1:y<A6) {m n:Nat} (hm:vB A6 a=m) (hn:y=n):∀(i:Nat) (q:List Int) (r:Int),i≤a.length→q.length=a.length→B7 A6 q→0≤r→r<y→vB A6 (a.drop i)=y*vB A6 (q.drop i)+r→
  Ev (fun k=>exact_divide.l0 k a b q r ((i:Int)-1)) (B6 (m/n),B6 (m%n)):=by
 intro i
 induction i with
 |zero=>
  intro q r _ hl hd r0 r1 hv
  rw [List.drop_zero,List.drop_zero,hm,hn]at hv
  have hq0:=I6 (by decide) hd
  have e1:(vB A6 q).toNat=m/n:=by
   have:(vB A6 q)=((m/n:Nat):Int):=by
    rw [Int.natCast_ediv,hv,Int.add_comm,Int.add_mul_ediv_left _ _ (by omega),Int.ediv_eq_zero_of_lt r0 (by omega),Int.zero_add]
   rw [this,Int.toNat_natCast]
  have e2:(vB A6 [r]).toNat=m%n:=by
   have:(vB A6 [r])=((m%n:Nat):Int):=by
    rw [Int.natCast_emod,hv,Int.add_comm,Int.add_mul_emod_self_left,Int.emod_eq_of_lt r0 (by omega)]
    simp [vB]
   rw [this,Int.toNat_natCast]
  have t1:=A5u hd (by omega)
  have t2:=A5u (l:=[r]) (A1P.2 ⟨⟨r0,Int.lt_trans r1 y1⟩,A4M _⟩) (by simp)
  rw [e1]at t1
  rw [e2]at t2
  refine Ev.step (f:=fun k=>(exact_trim.f k q).bind fun t173=>((exact_trim.f k [r]).bind fun t179=>some (t173,t179))) (fun k=>?_) (Ev.bind t1 (Ev.bind (f:=fun _ t179=>some (B6 (m/n),t179)) t2 (Ev.now _)))
  simp only [exact_divide.l0]
  rw [if_neg (by decide)]
 |succ i ih=>
  intro q r hi hl hd r0 r1 hv
  have hi':i<a.length:=by omega
  obtain⟨x0,x1⟩:=D9 ha i hi'
  have hdv:=D6I r0 r1 y1 x0 x1
  have g:=Int.emod_add_mul_ediv (r*A6+rd a (i:Int)) y
  have g0:=Int.emod_nonneg (r*A6+rd a (i:Int)) (show y≠0 by omega)
  have g1:=Int.emod_lt_of_pos (r*A6+rd a (i:Int)) y0
  have d0:0≤(r*A6+rd a (i:Int))/y:=Int.ediv_nonneg (Int.add_nonneg (Int.mul_nonneg r0 (by decide)) x0) (by omega)
  have d1:(r*A6+rd a (i:Int))/y<A6:=Int.ediv_lt_of_lt_mul y0 (by
   have h1:=Int.mul_le_mul_of_nonneg_right (show r+1≤y by omega) (show(0:Int)≤A6 by decide)
   rw [Int.add_mul,Int.one_mul,Int.mul_comm y]at h1
   omega)
  have e0:((i+1:Nat):Int)-1=(i:Int):=by omega
  have e1:wrap64 ((i:Int)-1)=(i:Int)-1:=D1 (by omega) (by omega)
  have c1:(i:Int)≥0:=by omega
  have c2:(i:Int)<(a.length:Int):=by omega
  have c3:(0:Int)<(b.length:Int):=by omega
  have c4:(i:Int)<(q.length:Int):=by omega
  rw [e0]
  refine Ev.step (f:=fun k=>(bits_Div64.f k r (rd a (i:Int)) y).bind fun bt170=>exact_divide.l0 k a b (q.set i bt170.1) bt170.2 ((i:Int)-1)) (fun k=>?_) (Ev.bind hdv (ih _ _ (by omega) (by rw [List.length_set];exact hl) (S8 hd _ d0 d1) g0 g1 ?_))
  ·simp only [exact_divide.l0,e1]
   rw [if_pos c1,if_pos c1,if_pos c2,if_pos c3,hy]
   simp only [if_pos c4,Int.toNat_natCast]
  ·show vB A6 (a.drop i)=y*vB A6 ((q.set i ((r*A6+rd a (i:Int))/y)).drop i)+(r*A6+rd a (i:Int))%y
   rw [v9 A6 a i hi',v9 A6 (q.set i ((r*A6+rd a (i:Int))/y)) i (by rw [List.length_set];omega),A4y _ _ _ (by omega),C4R,hv]
   rw [Int.mul_add A6,Int.mul_add y,Int.mul_left_comm y A6]
   rw [Int.mul_comm r A6]at*
   generalize y*((A6*r+rd a (i:Int))/y)=A at*
   generalize(A6*r+rd a (i:Int))%y=A2 at*
   generalize A6*(y*vB A6 (q.drop (i+1)))=A3 at*
   generalize A6*r=A4 at*
   clear hdv hv
   omega
def C4G (u z:List Int) (s i:Nat):Prop:=
 z.length=u.length∧B7 A6 z∧(∀j:Nat,i≤j→rd z (j:Int)=rd u (j:Int))∧2^s*vB A6 (z.take i)=vB A6 (u.take i)+A6^i*(rd u (i:Int)%2^s)
theorem D1V {x y:Int} (x0:0≤x) (x1:x<A6) (y0:0≤y) (y1:y<A6) (s:Nat) (hs:s≤63):2^s*(x/2^s+(y*2^(64-s))%A6)=x-x%2^s+A6*(y%2^s)∧(y*2^(64-s))%A6%2^(64-s)=0∧x/2^s<2^(64-s)∧0≤x/2^s∧x/2^s+(y*2^(64-s))%A6<A6:=by
 have hP:(0:Int)<2^s:=Int.pow_pos (by decide)
 have hR:(0:Int)<2^(64-s):=Int.pow_pos (by decide)
 have hPR:(2:Int)^s*2^(64-s)=A6:=by
  rw [←Int.pow_add]
  have:s+(64-s)=64:=by omega
  rw [this]
  rfl
 have g:=Int.emod_add_mul_ediv y (2^s)
 have g0:=Int.emod_nonneg y (show(2:Int)^s≠0 by omega)
 have g1:=Int.emod_lt_of_pos y hP
 have g2:y*2^(64-s)=y%2^s*2^(64-s)+A6*(y/2^s):=by
  conv=>lhs;rw [←g]
  rw [Int.add_mul,Int.mul_right_comm,hPR]
 have g3:0≤y%2^s*2^(64-s):=Int.mul_nonneg g0 (Int.le_of_lt hR)
 have g4:y%2^s*2^(64-s)+2^(64-s)≤A6:=by
  have:=Int.mul_le_mul_of_nonneg_right (show y%2^s+1≤2^s by omega) (Int.le_of_lt hR)
  rwa [hPR,Int.add_mul,Int.one_mul]at this
 have g5:(y*2^(64-s))%A6=y%2^s*2^(64-s):=by
  rw [g2,Int.add_mul_emod_self_left,Int.emod_eq_of_lt g3 (by omega)]
 have k1:=Int.emod_add_mul_ediv x (2^s)
 have k2:x/2^s<2^(64-s):=Int.ediv_lt_of_lt_mul hP (by rw [Int.mul_comm,hPR];exact x1)
 refine⟨?_,by rw [g5];exact Int.mul_emod_left _ _,k2,Int.ediv_nonneg x0 (Int.le_of_lt hP),by rw [g5];omega⟩
 rw [g5,Int.mul_add,Int.mul_left_comm (2^s) (y%2^s),hPR,Int.mul_comm (y%2^s)]
 omega
theorem E7A {u z:List Int} {s i:Nat} (hs:s≤63) (hu:B7 A6 u) (hi:i+1<u.length) (h:C4G u z s i):C4G u (z.set i (rd u (i:Int)/2^s+(rd u ((i+1:Nat):Int)*2^(64-s))%A6)) s (i+1):=by
 obtain⟨hl,hd,hr,hv⟩:=h
 obtain⟨x0,x1⟩:=D9 hu i (by omega)
 obtain⟨y0,y1⟩:=D9 hu (i+1) hi
 obtain⟨a1,a2,a3,a4,a5⟩:=D1V x0 x1 y0 y1 s hs
 have a6:=Int.emod_nonneg (rd u ((i+1:Nat):Int)*2^(64-s)) (show(A6:Int)≠0 by decide)
 refine⟨by rw [List.length_set];exact hl,S8 hd _ (Int.add_nonneg a4 a6) a5,fun j hj=>?_,?_⟩
 ·rw [v6 _ _ _ _ (by omega)]
  exact hr j (by omega)
 ·rw [O8,O8,A4y _ _ _ (by omega),List.take_set_of_le (Nat.le_refl _),Int.mul_add,hv,Int.mul_left_comm (2^s),a1,Int.pow_succ,Int.mul_assoc (A6^i) A6,Int.mul_add (A6^i),Int.mul_sub]
  generalize A6^i*(rd u (i:Int)%2^s)=A
  generalize A6^i*rd u (i:Int)=A1
  generalize A6^i*(A6*(rd u ((i+1:Nat):Int)%2^s))=A2
  omega
theorem E5p {u q:List Int} {s N Q R:Nat} (hs:s≤63) (hu:B7 A6 u) (hN:N+1≤u.length) (lu:u.length≤1099511627780) (hq:B7 A6 q) (lq:q.length≤1099511627780) (hQ:vB A6 q=Q) (hR:vB A6 (u.take N)+A6^N*(rd u (N:Int)%2^s)=2^s*R):
  ∀(d i:Nat) (z:List Int),i+d=N→C4G u z s i→Ev (fun k=>exact_divide.l2 k (s:Int) z (N:Int) q (N:Int) (i:Int)) (B6 Q,B6 R):=by
 intro d
 induction d with
 |zero=>
  intro i z hi h
  have hi:i=N:=by omega
  subst hi
  have hl:=h.1
  have c1:(i:Int)≤(z.length:Int):=by omega
  have lz:z.length<9223372036854775808:=by omega
  have lz2:(z.take i).length<9223372036854775808:=by rw [List.length_take];omega
  have lq2:q.length<9223372036854775808:=by omega
  obtain⟨-,hd, -,hv⟩:=h
  rw [hR]at hv
  have hv':vB A6 (z.take i)=R:=Int.eq_of_mul_eq_mul_left (show(2:Int)^s≠0 from Int.ne_of_gt (Int.pow_pos (by decide))) hv
  have t1:=A5u hq lq2
  have t2:=A5u (O2 hd i) lz2
  rw [hQ,Int.toNat_natCast]at t1
  rw [hv',Int.toNat_natCast]at t2
  refine Ev.step (f:=fun k=>(exact_trim.f k q).bind fun t208=>(exact_trim.f k (z.take i)).bind fun t214=>some (t208,t214)) (fun k=>?_) (Ev.bind t1 (Ev.bind (f:=fun _ t214=>some (B6 Q,t214)) t2 (Ev.now _)))
  simp only [exact_divide.l2]
  rw [if_neg (Int.lt_irrefl _)]
  simp only [if_pos c1,if_pos (Int.natCast_nonneg i),Int.toNat_natCast]
 |succ d ih=>
  intro i z hi h
  have hi':i<N:=by omega
  have c0:i+1+d=N:=by omega
  have hl:=h.1
  have c1:(i:Int)<(N:Int):=by omega
  have c2:(i:Int)<(z.length:Int):=by omega
  have c3:((i+1:Nat):Int)<(z.length:Int):=by omega
  have c4:i<z.length:=by omega
  have c5:i+1<u.length:=by omega
  have hn:=E7A hs hu c5 h
  have e1:wrap64 ((i:Int)+1)=((i+1:Nat):Int):=by clear hR;rw [D1 (by omega) (by omega)];omega
  have e2:wrap64 (64-(s:Int))=((64-s:Nat):Int):=by clear hR e1;rw [D1 (by omega) (by omega)];omega
  have g0:=h.2.2.1 i (Nat.le_refl _)
  have g1:=h.2.2.1 (i+1) (by clear hR e1 e2;omega)
  obtain⟨x0,x1⟩:=D9 hu i (by clear hR e1 e2;omega)
  obtain⟨y0,y1⟩:=D9 hu (i+1) c5
  obtain⟨a1,a2,a3,a4,a5⟩:=D1V x0 x1 y0 y1 s hs
  have a6:=Int.emod_nonneg (rd u ((i+1:Nat):Int)*2^(64-s)) (show(A6:Int)≠0 by decide)
  have a7:=Int.emod_lt_of_pos (rd u ((i+1:Nat):Int)*2^(64-s)) (show(0:Int)<A6 by decide)
  have sh1:shr .u64 (rd z (i:Int)) (s:Int)=rd u (i:Int)/2^s:=by rw [g0];exact B5B _ _ (by clear hR e1 e2 a1;omega)
  have sh2:shl .u64 (rd u ((i+1:Nat):Int)) ((64-s:Nat):Int)=(rd u ((i+1:Nat):Int)*2^(64-s))%A6:=B3K _ _ (by clear hR e1 e2 a1;omega)
  have hor:=D1f (64-s) (by clear hR e1 e2 a1;omega) a4 a3 a6 a7 a2 a5
  have r1:rd (z.set i (rd u (i:Int)/2^s)) (i:Int)=rd u (i:Int)/2^s:=A4y _ _ _ c4
  have r2:rd (z.set i (rd u (i:Int)/2^s)) ((i+1:Nat):Int)=rd u ((i+1:Nat):Int):=by rw [v6 _ _ _ _ (by clear hR e1 e2 a1;omega)];exact g1
  refine Ev.step (fun k=>?_) (ih (i+1) _ c0 hn)
  simp only [exact_divide.l2,e1,e2,sh1,Int.toNat_natCast,Option.bind_some]
  rw [if_pos c1,if_pos (Int.natCast_nonneg _),if_pos c2,if_pos (Int.natCast_nonneg _)]
  by_cases hs0:(s:Int)>0
  ·rw [if_pos hs0,if_pos c3,if_pos (Int.natCast_nonneg _),if_pos (Int.natCast_nonneg _),r1,r2,sh2,hor,List.set_set]
  ·rw [if_neg hs0]
   have hs1:s=0:=by clear hR e1 e2 a1;omega
   subst hs1
   have:(rd u ((i+1:Nat):Int)*2^(64-0))%A6=0:=Int.mul_emod_left _ _
   rw [this,Int.add_zero]
def C0A (M V:Int) (L Lq:Nat) (u q:List Int) (J:Nat):Prop:=
 u.length=L∧B7 A6 u∧q.length=Lq∧B7 A6 q∧vB A6 (u.drop J)<V∧M=vB A6 u+V*(A6^J*vB A6 (q.drop J))
theorem E0I {M:Int} {L Lq N j:Nat} {u v q:List Int} (hv:B7 A6 v) (hN:v.length=N+2) (ln:N≤1099511627000) (ht:rd v ((N+1:Nat):Int)≠0) (hj:j+(N+2)+1≤L) (hjq:j<Lq) (h:C0A M (vB A6 v) L Lq u q (j+1)):
  ∃d u',C0A M (vB A6 v) L Lq u' (q.set j d) j∧Ev (fun k=>exact_stepAt.f k u v (j:Int) ((j+(N+2)+1:Nat):Int)) (d,u'):=by
 have hB:(0:Int)<A6:=by decide
 obtain⟨hl,hd,hlq,hdq,hlt,hM⟩:=h
 have hV1:=P2 hB hv
 rw [hN]at hV1
 have hVn:=I6 (Int.le_of_lt hB) hv
 obtain⟨w,hw⟩:∃w,w=(u.take (j+(N+2)+1)).drop j:=⟨_,rfl⟩
 have hwl:w.length=N+3:=by rw [hw,List.length_drop,List.length_take];omega
 have hwd:B7 A6 w:=by rw [hw];exact j8 (O2 hd _) _
 have hwt:w=(u.drop j).take (N+3):=by rw [hw,List.drop_take];congr 1;omega
 have hdl:(u.drop j).length=L-j:=by rw [List.length_drop,hl]
 have s1:=m9 A6 (u.drop j) (N+3) (by omega)
 rw [←hwt,List.drop_drop]at s1
 have s2:=m9 A6 (u.drop (j+1)) (N+2) (by rw [List.length_drop];omega)
 rw [List.drop_drop,show j+1+(N+2)=j+(N+3)by omega]at s2
 have p1:=I6 (Int.le_of_lt hB) (O2 (j8 hd (j+1)) (N+2))
 have p2:=I6 (Int.le_of_lt hB) (j8 hd (j+(N+3)))
 have hz:vB A6 (u.drop (j+(N+3)))=0:=by
  rcases Int.lt_or_le (vB A6 (u.drop (j+(N+3)))) 1 with h|h
  ·clear hV1 s1 s2 hM hlt;omega
  ·exfalso
   have:=Int.mul_le_mul_of_nonneg_left h (Int.le_of_lt (show(0:Int)<A6^(N+2)from Int.pow_pos hB))
   rw [Int.mul_one]at this
   generalize(A6:Int)^(N+2)=P at*
   generalize P*vB A6 (u.drop (j+(N+3)))=A at*
   clear hM s1
   omega
 rw [hz,Int.mul_zero,Int.add_zero]at s1
 have s3:=v9 A6 u j (by omega)
 obtain⟨x0,x1⟩:=D9 hd j (by omega)
 have hwlt:vB A6 w<vB A6 v*A6:=by
  rw [←s1,s3]
  have h1:=Int.mul_le_mul_of_nonneg_left (show vB A6 (u.drop (j+1))+1≤vB A6 v by clear hV1 s1 s2 hM s3;omega) (Int.le_of_lt hB)
  rw [Int.mul_add,Int.mul_one,Int.mul_comm A6 (vB A6 v)]at h1
  clear hV1 s1 s2 hM s3
  omega
 obtain⟨z,z1,z2,z3,z4⟩:=F6E hN ln hwd hv hwl ht hwlt
 have hV0:0<vB A6 v:=by
  rcases Int.lt_or_le 0 (vB A6 v)with h|h
  ·exact h
  ·exfalso
   have:vB A6 v=0:=by clear hV1 s1 s2 hM s3 hwlt;omega
   rw [this,Int.zero_mul]at hwlt
   have:=I6 (Int.le_of_lt hB) hwd
   clear hV1 s1 s2 hM s3;omega
 have q0:0≤vB A6 w/vB A6 v:=Int.ediv_nonneg (I6 (Int.le_of_lt hB) hwd) (Int.le_of_lt hV0)
 have q1:vB A6 w/vB A6 v<A6:=Int.ediv_lt_of_lt_mul hV0 (by rw [Int.mul_comm];exact hwlt)
 have hdm:=Int.emod_add_mul_ediv (vB A6 w) (vB A6 v)
 have m1:=Int.emod_lt_of_pos (vB A6 w) hV0
 have htj:(u.take j).length=j:=by rw [List.length_take];omega
 have hdrop:(u.take j++z++u.drop (j+(N+2)+1)).drop j=z++u.drop (j+(N+3)):=by
  rw [List.append_assoc,List.drop_append_of_le_length (by omega),List.drop_of_length_le (by omega),List.nil_append]
  rfl
 have hvz:vB A6 (z++u.drop (j+(N+3)))=vB A6 z:=by rw [A3L,hz,Int.mul_zero,Int.add_zero]
 refine⟨vB A6 w/vB A6 v,u.take j++z++u.drop (j+(N+2)+1),⟨?_,B3z (B3z (O2 hd _) z2) (j8 hd _),by rw [List.length_set];exact hlq,S8 hdq _ q0 q1,?_,?_⟩,?_⟩
 ·rw [List.length_append,List.length_append,htj,z1,List.length_drop]
  clear hV1 s1 s2 hM s3 hwlt hdm;omega
 ·rw [hdrop,hvz,z3]
  exact m1
 ·have t1:=m9 A6 u j (by clear hV1 s1 s2 hM s3 hwlt hdm;omega)
  have t2:vB A6 (u.take j++z++u.drop (j+(N+2)+1))=vB A6 (u.take j)+A6^j*vB A6 z:=by
   rw [List.append_assoc,A3L,htj]
   congr 2
  rw [t2,z3,v9 A6 (q.set j (vB A6 w/vB A6 v)) j (by rw [List.length_set,hlq];exact hjq),A4y _ _ _ (by rw [hlq];exact hjq),C4R,hM,t1,s1,Int.pow_succ]
  generalize vB A6 (u.take j)=A
  generalize vB A6 (q.drop (j+1))=C
  generalize vB A6 w/vB A6 v=D at*
  generalize vB A6 w%vB A6 v=E at*
  rw [←hdm]
  generalize vB A6 v=V
  generalize(A6:Int)^j=P
  rw [Int.mul_add P E,Int.mul_add P D,Int.mul_add V (P*D),Int.mul_left_comm P V D,Int.mul_assoc P A6 C,Int.add_assoc,Int.add_assoc,Int.add_assoc]
 ·refine Ev.congr (f:=fun k=>(exact_step.f k w v).bind fun bt=>some (bt.1,u.take j++bt.2++u.drop (j+(N+2)+1))) (fun k=>?_) (Ev.bind z4 (Ev.now _))
  unfold exact_stepAt.f
  rw [Int.toNat_natCast,Int.toNat_natCast,←hw]
theorem F0w {M:Int} {L Lq N s Q R:Nat} {v:List Int} (hv:B7 A6 v) (hN:v.length=N+2) (ln:N≤1099511627000) (ht:rd v ((N+1:Nat):Int)≠0) (hs:s≤63) (hL:L≤1099511627780) (hLq:Lq+(N+2)=L) (hLq1:1≤Lq)
  (hQ:M/vB A6 v=Q) (hR:M%vB A6 v=2^s*R):∀(J:Nat) (u q:List Int),J≤Lq→C0A M (vB A6 v) L Lq u q J→Ev (fun k=>exact_divide.l1 k (s:Int) v u ((N+2:Nat):Int) q ((J:Int)-1)) (B6 Q,B6 R):=by
 have hB:(0:Int)<A6:=by decide
 have hV1:=P2 hB hv
 rw [hN]at hV1
 intro J
 induction J with
 |zero=>
  intro u q hJ h
  obtain⟨hl,hd,hlq,hdq,hlt,hM⟩:=h
  rw [List.drop_zero]at hlt hM
  rw [Int.pow_zero,Int.one_mul]at hM
  have hu0:=I6 (Int.le_of_lt hB) hd
  have hV0:vB A6 v≠0:=by clear hV1;omega
  have eQ:vB A6 q=Q:=by
   rw [←hQ,hM,Int.add_mul_ediv_left _ _ hV0,Int.ediv_eq_zero_of_lt hu0 hlt,Int.zero_add]
  have eR:vB A6 u=2^s*R:=by
   rw [←hR,hM,Int.add_mul_emod_self_left,Int.emod_eq_of_lt hu0 hlt]
  have hNl:N+2+1≤u.length:=by clear hV1 hlt hM;omega
  have s1:=m9 A6 u (N+2) (by clear hV1 hlt hM;omega)
  have p1:=I6 (Int.le_of_lt hB) (O2 hd (N+2))
  have p2:=I6 (Int.le_of_lt hB) (j8 hd (N+2))
  have hz:vB A6 (u.drop (N+2))=0:=by
   rcases Int.lt_or_le (vB A6 (u.drop (N+2))) 1 with h|h
   ·clear hV1 s1 hM hlt;omega
   ·exfalso
    have:=Int.mul_le_mul_of_nonneg_left h (Int.le_of_lt (show(0:Int)<A6^(N+2)from Int.pow_pos hB))
    rw [Int.mul_one]at this
    generalize(A6:Int)^(N+2)=P at*
    generalize P*vB A6 (u.drop (N+2))=A at*
    clear hM eR
    omega
  have hz2:rd u ((N+2:Nat):Int)=0:=by
   have s3:=v9 A6 u (N+2) (by clear hV1 hlt hM s1;omega)
   obtain⟨x0,x1⟩:=D9 hd (N+2) (by clear hV1 hlt hM s1;omega)
   have p3:=Int.mul_nonneg (Int.le_of_lt hB) (I6 (Int.le_of_lt hB) (j8 hd (N+2+1)))
   rw [hz]at s3
   clear hV1 hlt hM s1;omega
  rw [hz,Int.mul_zero,Int.add_zero]at s1
  have c1:¬(((0:Nat):Int)-1≥0):=by decide
  refine Ev.step (f:=fun k=>exact_divide.l2 k (s:Int) u ((N+2:Nat):Int) q ((N+2:Nat):Int) ((0:Nat):Int)) (fun k=>?_) (E5p hs hd hNl (by clear hV1 hlt hM s1;omega) hdq (by clear hV1 hlt hM s1;omega) eQ (by rw [hz2,←s1,Int.zero_emod,Int.mul_zero,Int.add_zero];exact eR) (N+2) 0 u (Nat.zero_add _) ⟨rfl,hd,fun _ _=>rfl,?_⟩)
  ·simp only [exact_divide.l1]
   rw [if_neg c1]
   rfl
  ·have h0:rd u ((0:Nat):Int)%2^s=0:=by
    have s3:=v9 A6 u 0 (by clear hV1 hlt hM s1;omega)
    rw [List.drop_zero,eR]at s3
    obtain⟨c,hc⟩:∃c,c*2^s=A6:=⟨2^(64-s),by
     rw [←Int.pow_add]
     have:64-s+s=64:=by clear hV1 hlt hM s1;omega
     rw [this]
     rfl⟩
    have:rd u ((0:Nat):Int)=2^s*(R-c*vB A6 (u.drop 1)):=by
     rw [show 0+1=1 from rfl]at s3
     generalize vB A6 (u.drop 1)=X at*
     rw [←hc]at s3
     rw [Int.mul_sub,←Int.mul_assoc,Int.mul_comm (2^s) c]
     clear hV1 hlt hM s1;omega
    rw [this]
    exact Int.mul_emod_right _ _
   rw [h0]
   simp [vB]
 |succ j ih=>
  intro u q hJ h
  have hj:j+(N+2)+1≤L:=by clear hV1;omega
  have e0:((j+1:Nat):Int)-1=(j:Int):=by clear hV1;omega
  have hl:=h.1
  have hlq:=h.2.2.1
  have c1:(j:Int)≥0:=by clear hV1;omega
  have c2:(j:Int)≤((j+(N+2)+1:Nat):Int):=by clear hV1;omega
  have c3:((j+(N+2)+1:Nat):Int)≤(u.length:Int):=by clear hV1;omega
  have c4:(j:Int)<(q.length:Int):=by clear hV1;omega
  have e1:wrap64 ((j:Int)+((N+2:Nat):Int))=((j+(N+2):Nat):Int):=by clear hV1;rw [D1 (by omega) (by omega)];omega
  have e2:wrap64 (((j+(N+2):Nat):Int)+1)=((j+(N+2)+1:Nat):Int):=by clear hV1 e1;rw [D1 (by omega) (by omega)];omega
  have e3:wrap64 ((j:Int)-1)=(j:Int)-1:=by clear hV1 e1 e2;exact D1 (by omega) (by omega)
  obtain⟨d,u',h',hev⟩:=E0I hv hN ln ht hj (by clear hV1 e1 e2 e3;omega) h
  rw [e0]
  refine Ev.step (f:=fun k=>(exact_stepAt.f k u v (j:Int) ((j+(N+2)+1:Nat):Int)).bind fun bt200=>exact_divide.l1 k (s:Int) v bt200.2 ((N+2:Nat):Int) (q.set j bt200.1) ((j:Int)-1)) (fun k=>?_) (Ev.bind hev (ih u' _ (by clear hV1 e1 e2 e3;omega) h'))
  simp only [exact_divide.l1,e1,e2,e3]
  rw [if_pos c1,if_pos c1,if_pos c2,if_pos c3]
  simp only [if_pos c4,Int.toNat_natCast]
theorem D5u {m n:Nat} (hm:(B6 m).length≤1099511627000) (hn:(B6 n).length≤1099511627000) (n0:0<n):Ev (fun k=>exact_divide.f k (B6 m) (B6 n)) (B6 (m/n),B6 (m%n)):=by
 have hB:(0:Int)<A6:=by decide
 refine Ev.bind (E8c (by omega) (by omega)) ?_
 by_cases hlt:m<n
 ·refine Ev.congr (fun k=>if_pos (show L5 m n<0 by unfold L5;rw [if_pos hlt];decide)) ?_
  rw [Nat.div_eq_of_lt hlt,Nat.mod_eq_of_lt hlt,B8x]
  exact Ev.now _
 refine Ev.congr (fun k=>if_neg (show¬L5 m n<0 by unfold L5;rw [if_neg hlt];split<;>decide)) ?_
 have hpos:0<(B6 n).length:=by
  rcases Nat.eq_zero_or_pos (B6 n).length with h|h
  ·exfalso
   have:=P4 n
   rw [List.eq_nil_of_length_eq_zero h]at this
   simp [vB]at this
   omega
  ·exact h
 have hle:(B6 n).length≤(B6 m).length:=B1N (by omega)
 by_cases h1:(B6 n).length=1
 ·refine Ev.congr (fun k=>if_pos (show((B6 n).length:Int)=1 by omega)) ?_
  have hy:vB A6 (B6 n)=rd (B6 n) 0:=by
   have:=v9 A6 (B6 n) 0 (by omega)
   rw [List.drop_zero,B6D _ (by omega),Int.mul_zero,Int.add_zero]at this
   exact this
  rw [P4]at hy
  obtain⟨y0,y1⟩:=D9 (N6 n) 0 (by omega)
  have y0':0<rd (B6 n) 0:=by omega
  have e1:wrap64 (((B6 m).length:Int)-1)=((B6 m).length:Int)-1:=D1 (by omega) (by omega)
  refine Ev.congr (f:=fun k=>exact_divide.l0 k (B6 m) (B6 n) (List.replicate (B6 m).length 0) 0 (((B6 m).length:Int)-1)) (fun k=>?_) (D9U (N6 m) (by omega) h1 rfl y0' y1 (P4 m) hy.symm (B6 m).length _ 0 (Nat.le_refl _) (by simp) (A4G hB _) (Int.le_refl 0) y0' (by rw [B6D _ (Nat.le_refl _),B6D _ (by simp)];simp))
  rw [if_pos (Int.natCast_nonneg _),Int.toNat_natCast,if_pos (by omega),e1]
 ·refine Ev.congr (fun k=>if_neg (show¬((B6 n).length:Int)=1 by omega)) ?_
  obtain⟨N,hN⟩:∃N,(B6 n).length=N+2:=⟨(B6 n).length-2,by omega⟩
  have e1:wrap64 (((B6 n).length:Int)-1)=((N+1:Nat):Int):=by rw [D1 (by omega) (by omega)];omega
  have htop:=B3x n hpos
  rw [hN,show N+2-1=N+1 by omega]at htop
  obtain⟨t0,t1⟩:=D9 (N6 n) (N+1) (by omega)
  obtain⟨s,hs,hlz,n1,n2⟩:=D6A (show 0<rd (B6 n) ((N+1:Nat):Int)by omega) t1
  obtain⟨b,b1,b2,b3,b4⟩:=D3B (B6 n) (N6 n) (by omega) s hs
  obtain⟨a,a1,a2,a3,a4⟩:=D3B (B6 m) (N6 m) (by omega) s hs
  rw [P4]at a3 b3
  have hb:vB A6 b=((n*2^s:Nat):Int):=by rw [b3,Int.natCast_mul,Int.natCast_pow];rfl
  have tb:=A5u b2 (by omega)
  rw [hb,Int.toNat_natCast]at tb
  have hlen:(B6 (n*2^s)).length=N+2:=by
   have g1:(B6 n).length≤(B6 (n*2^s)).length:=B1N (Nat.le_mul_of_pos_right n (Nat.two_pow_pos s))
   have g2:(B6 (n*2^s)).length≤N+2:=by
    apply A6p
    have h2:vB A6 (B6 n)*2^s<A6^(N+2):=by
     have h3:=X2 A6 (B6 n) (N+1+1) (by omega)
     have hp:(A6:Int)^(N+2)=A6^(N+1)*A6:=Int.pow_succ _ _
     rw [←h3,O8,Int.add_mul,hp,Int.mul_assoc]
     have h4:=P2 hB (O2 (N6 n) (N+1))
     rw [List.length_take,Nat.min_eq_left (by omega)]at h4
     have hP:(0:Int)<2^s:=Int.pow_pos (by decide)
     obtain⟨c,hc⟩:∃c,c*2^s=A6:=⟨2^(64-s),by
      rw [←Int.pow_add]
      have:64-s+s=64:=by omega
      rw [this]
      rfl⟩
     have h5:rd (B6 n) ((N+1:Nat):Int)*2^s+2^s≤A6:=by
      have n2':rd (B6 n) ((N+1:Nat):Int)*2^s<A6:=n2
      rw [←hc]at n2'⊢
      have h6:rd (B6 n) ((N+1:Nat):Int)<c:=Int.lt_of_mul_lt_mul_right n2' (Int.le_of_lt hP)
      have h7:=Int.mul_le_mul_of_nonneg_right (show rd (B6 n) ((N+1:Nat):Int)+1≤c by omega) (Int.le_of_lt hP)
      rwa [Int.add_mul,Int.one_mul]at h7
     have h8:=Int.mul_lt_mul_of_pos_right h4 hP
     have h9:=Int.mul_le_mul_of_nonneg_left h5 (Int.le_of_lt (show(0:Int)<A6^(N+1)from Int.pow_pos hB))
     rw [Int.mul_add]at h9
     generalize vB A6 ((B6 n).take (N+1))*2^s=A at*
     generalize(A6:Int)^(N+1)*(rd (B6 n) ((N+1:Nat):Int)*2^s)=A1 at*
     generalize(A6:Int)^(N+1)*2^s=A2 at*
     generalize(A6:Int)^(N+1)*A6=A3 at*
     clear h4 h3
     omega
    rw [P4]at h2
    have h3:((n*2^s:Nat):Int)<((18446744073709551614+2:Nat):Int)^(N+2):=by rw [Int.natCast_mul,Int.natCast_pow];exact h2
    exact_mod_cast h3
   omega
  have hvt:=B3x (n*2^s) (by omega)
  rw [hlen,show N+2-1=N+1 by omega]at hvt
  have e2:wrap64 (((B6 m).length:Int)-((B6 (n*2^s)).length:Int))=(((B6 m).length-(N+2)+1:Nat):Int)-1:=by rw [D1 (by omega) (by omega)];omega
  have e3:wrap64 ((((B6 m).length-(N+2)+1:Nat):Int)-1+1)=(((B6 m).length-(N+2)+1:Nat):Int):=by rw [D1 (by omega) (by omega)];omega
  have hV:vB A6 (B6 (n*2^s))=(n:Int)*2^s:=by rw [P4,Int.natCast_mul,Int.natCast_pow];rfl
  have hP:(0:Int)<2^s:=Int.pow_pos (by decide)
  have dQ:(m:Int)*2^s/vB A6 (B6 (n*2^s))=((m/n:Nat):Int):=by rw [hV,Int.mul_ediv_mul_of_pos_left _ _ hP];rfl
  have dR:(m:Int)*2^s%vB A6 (B6 (n*2^s))=2^s*((m%n:Nat):Int):=by rw [hV,Int.mul_comm (m:Int),Int.mul_comm (n:Int),Int.mul_emod_mul_of_pos _ _ hP];rfl
  have start:C0A ((m:Int)*2^s) (vB A6 (B6 (n*2^s))) ((B6 m).length+1) ((B6 m).length-(N+2)+1) a (List.replicate ((B6 m).length-(N+2)+1) 0) ((B6 m).length-(N+2)+1):=by
   refine⟨a1,a2,by simp,A4G hB _,?_,?_⟩
   ·
    have h1:=m9 A6 a ((B6 m).length-(N+2)+1) (by omega)
    have h2:=I6 (Int.le_of_lt hB) (O2 a2 ((B6 m).length-(N+2)+1))
    have h3:=P2 hB (N6 m)
    have h4:=B7Z hB (N6 n) (B3x n) hpos
    rw [P4]at h3 h4
    rw [hN,show N+2-1=N+1 by omega]at h4
    rw [a3]at h1
    have h5:(A6:Int)^(B6 m).length=A6^((B6 m).length-(N+2)+1)*A6^(N+1):=by rw [←Int.pow_add];congr 1;omega
    rw [h5]at h3
    have h6:=Int.mul_lt_mul_of_pos_right h3 hP
    rw [Int.mul_assoc]at h6
    have h7:=Int.mul_le_mul_of_nonneg_right h4 (Int.le_of_lt hP)
    rw [hV]
    have hC:(0:Int)<A6^((B6 m).length-(N+2)+1):=Int.pow_pos hB
    have h8:A6^((B6 m).length-(N+2)+1)*vB A6 (a.drop ((B6 m).length-(N+2)+1))<A6^((B6 m).length-(N+2)+1)*(A6^(N+1)*2^s):=by
     generalize A6^((B6 m).length-(N+2)+1)*vB A6 (a.drop ((B6 m).length-(N+2)+1))=A at*
     generalize A6^((B6 m).length-(N+2)+1)*(A6^(N+1)*2^s)=A1 at*
     generalize(m:Int)*2^s=A2 at*
     clear h5 h7 hC h4 h3
     omega
    exact Int.lt_of_lt_of_le (Int.lt_of_mul_lt_mul_left h8 (Int.le_of_lt hC)) h7
   ·rw [a3,B6D _ (by simp),Int.mul_zero,Int.mul_zero,Int.add_zero]
  have key:=F0w (N6 (n*2^s)) hlen (by omega) hvt hs (by omega) (by omega) (by omega) dQ dR _ _ _ (Nat.le_refl _) start
  refine Ev.congr (f:=fun k=>(exact_shiftUp.f k (B6 n) (s:Int)).bind fun t184=>((exact_trim.f k t184).bind fun t187=>((exact_shiftUp.f k (B6 m) (s:Int)).bind fun t190=>(if 0≤(wrap64 ((wrap64 (((B6 m).length:Int)-(t187.length:Int)))+1))then(if(wrap64 ((wrap64 (((B6 m).length:Int)-(t187.length:Int)))+1):Int).toNat≤35184372088832 then(exact_divide.l1 k (s:Int) t187 t190 (t187.length:Int) (List.replicate (wrap64 ((wrap64 (((B6 m).length:Int)-(t187.length:Int)))+1):Int).toNat 0) (wrap64 (((B6 m).length:Int)-(t187.length:Int))))else(none))else(none))))) (fun k=>?_) (Ev.bind b4 (Ev.bind tb (Ev.bind a4 ?_)))
  ·rw [e1,if_pos (Int.natCast_nonneg _),if_pos (by omega),hlz,Option.bind_some]
  ·refine Ev.congr (fun k=>?_) key
   rw [e2,e3,if_pos (Int.natCast_nonneg _),Int.toNat_natCast,if_pos (by omega)]
   rw [show((B6 (n*2^s)).length:Int)=((N+2:Nat):Int)by omega]
theorem D2e {m n:Nat} (hm:(B2 m).size≤1099511627776) (hn:(B2 n).size≤1099511627776) (n0:0<n):Ev (fun k=>exact_NatDivMod.f k (B2 m) (B2 n)) (B2 (m/n),B2 (m%n)):=by
 have lm:=A4C m
 have ln:=A4C n
 have h1:(B6 (m/n)).length≤(B6 m).length:=B1N (Nat.div_le_self _ _)
 have h2:(B6 (m%n)).length≤(B6 n).length:=B1N (Nat.le_of_lt (Nat.mod_lt _ n0))
 have p1:=A7l (N6 (m/n)) (by omega)
 have p2:=A7l (N6 (m%n)) (by omega)
 rw [P4,Int.toNat_natCast]at p1 p2
 exact Ev.bind (A3M hm) (Ev.bind (A3M hn) (Ev.bind (D5u (by omega) (by omega) n0) (Ev.bind p1 (Ev.bind p2 (Ev.now _)))))
theorem E2R:∀(n m:Nat),(B6 m).length≤1099511627000→(B6 n).length≤1099511627000→Ev (fun k=>exact_NatGcd.l0 k (B6 m) (B6 n)) (B2 (Nat.gcd m n)):=by
 intro n
 induction n using Nat.strongRecOn with
 |_ n ih=>
  intro m hm hn
  by_cases h:n=0
  ·subst h
   have p:=A7l (N6 m) (by omega)
   rw [P4,Int.toNat_natCast]at p
   rw [Nat.gcd_zero_right]
   refine Ev.step (f:=fun k=>(exact_pack.f k (B6 m)).bind fun t=>some t) (fun k=>?_) (Ev.bind p (Ev.now _))
   simp only [exact_NatGcd.l0]
   rw [B8x,if_neg (by decide)]
  ·have hpos:0<(B6 n).length:=by
    rcases Nat.eq_zero_or_pos (B6 n).length with h1|h1
    ·exfalso
     have:=P4 n
     rw [List.eq_nil_of_length_eq_zero h1]at this
     simp [vB]at this
     omega
    ·exact h1
   have hlt:=Nat.mod_lt m (Nat.pos_of_ne_zero h)
   have hl:(B6 (m%n)).length≤(B6 n).length:=B1N (Nat.le_of_lt hlt)
   have e:Nat.gcd m n=Nat.gcd n (m%n):=by rw [Nat.gcd_comm m n,Nat.gcd_rec n m,Nat.gcd_comm]
   rw [e]
   refine Ev.step (f:=fun k=>(exact_divide.f k (B6 m) (B6 n)).bind fun bt264=>exact_NatGcd.l0 k (B6 n) bt264.2) (fun k=>?_) (Ev.bind (D5u hm hn (Nat.pos_of_ne_zero h)) (ih (m%n) hlt n hn (by omega)))
   simp only [exact_NatGcd.l0]
   rw [if_pos (by omega)]
theorem D7z {m n:Nat} (hm:(B2 m).size≤1099511627776) (hn:(B2 n).size≤1099511627776):Ev (fun k=>exact_NatGcd.f k (B2 m) (B2 n)) (B2 (Nat.gcd m n)):=by
 have lm:=A4C m
 have ln:=A4C n
 exact Ev.bind (A3M hm) (Ev.bind (A3M hn) (E2R n m (by omega) (by omega)))
theorem A8R {n:Nat}:(B2 n).toList=([]:List UInt8)↔n=0:=by rw [A3u,A9Y]
def bl (n:Nat):Nat:=if n=0 then 0 else n.log2+1
abbrev A7:Int:=4294967296
def D0 (n:Nat):List Int:=U9 4294967294 n
theorem U2 (n:Nat):B7 A7 (D0 n):=(A1T 4294967294 n).1
theorem B9l (n:Nat):A0e (D0 n):=(A1T 4294967294 n).2.1
theorem W3 (n:Nat):vB A7 (D0 n)=n:=(A1T 4294967294 n).2.2
theorem F3t {l:List Int} {n:Nat} (hl:B7 A7 l) (ht:A0e l) (hv:vB A7 l=n):l=D0 n:=C4U hl ht hv
theorem E3i:D0 0=[]:=A7x _
theorem E4A {m n:Nat} (h:m≤n):(D0 m).length≤(D0 n).length:=A6p (Nat.lt_of_le_of_lt h (C2T 4294967294 n))
theorem A8X (n:Nat):(D0 n).length≤((B2 n).size+3)/4:=by
 apply A6p
 have h1:=B4m n
 have h2:256^(B2 n).size≤256^(4*(((B2 n).size+3)/4)):=Nat.pow_le_pow_right (by decide) (by omega)
 rw [Nat.pow_mul]at h2
 exact Nat.lt_of_lt_of_le h1 h2
theorem D4z:∀(n:Nat) (l:List Int),l.length=n→n<9223372036854775808→B7 A7 l→Ev (fun k=>galoisref01_trim.f k l) (D0 (vB A7 l).toNat):=by
 intro n
 induction n with
 |zero=>
  intro l hl _ hd
  rw [List.eq_nil_of_length_eq_zero hl]
  refine Ev.step (f:=fun _=>some []) (fun k=>?_) (by
   show Ev (fun _=>some []) (D0 0)
   rw [E3i]
   exact Ev.now _)
  simp [galoisref01_trim.f,galoisref01_trim.l0]
 |succ n ih=>
  intro l hl hn hd
  have hv:=I6 (by decide) hd
  have e1:wrap64 ((l.length:Int)-1)=(n:Int):=by rw [D1 (by omega) (by omega)];omega
  have hvs:=O8 A7 l n
  rw [X2 _ _ _ (by omega)]at hvs
  by_cases hz:rd l (n:Int)=0
  ·rw [hz,Int.mul_zero,Int.add_zero]at hvs
   rw [hvs]
   refine Ev.step (f:=fun k=>galoisref01_trim.f k (l.take n)) (fun k=>?_) (ih _ (by rw [List.length_take];omega) (by omega) (O2 hd _))
   simp only [galoisref01_trim.f,galoisref01_trim.l0,e1]
   rw [if_pos (by omega),if_pos (by omega),if_pos (by omega),if_pos hz,if_pos (by omega),Int.toNat_natCast]
  ·have:l=D0 (vB A7 l).toNat:=F3t hd (fun _=>by rw [hl,Nat.add_sub_cancel];exact hz) (by omega)
   rw [←this]
   refine Ev.step (f:=fun _=>some l) (fun k=>?_) (Ev.now _)
   simp only [galoisref01_trim.f,galoisref01_trim.l0,e1]
   rw [if_pos (by omega),if_pos (by omega),if_pos (by omega),if_neg hz]
theorem C0G:∀(k:Nat) (l:List Int),galoisref01_trimV.l0 k l=galoisref01_trim.l0 k l:=by
 intro k
 induction k with
 |zero=>intro l;rfl
 |succ k ih=>intro l;simp only [galoisref01_trimV.l0,galoisref01_trim.l0,ih]
theorem E7U {l:List Int} (hn:l.length<9223372036854775808) (hd:B7 A7 l):Ev (fun k=>galoisref01_trimV.f k l) (D0 (vB A7 l).toNat):=
 Ev.congr (fun k=>C0G k l) (D4z _ l rfl hn hd)
def N9 (s:ByteArray) (a b:Nat):Int:=vB 256 (((O7 s).take b).drop a).reverse
theorem C3j (s:ByteArray) (a:Nat):N9 s a a=0:=by
 unfold N9
 rw [List.drop_of_length_le (by rw [List.length_take];omega)]
 rfl
theorem C5F (s:ByteArray) (a b:Nat) (hab:a≤b) (hb:b<s.size):N9 s a (b+1)=N9 s a b*256+bt s (b:Int):=by
 unfold N9
 rw [List.take_succ_eq_append_getElem (by rw [A3y];exact hb),List.drop_append_of_le_length (by rw [List.length_take,A3y];omega),List.reverse_append,List.reverse_singleton,List.singleton_append,v3,B9y,A0l _ b (by rw [A3y];exact hb)]
 omega
theorem D2q (s:ByteArray) (a b:Nat) (hab:a≤b) (hb:b≤s.size):0≤N9 s a b∧N9 s a b<256^(b-a):=by
 have hd:B7 256 (((O7 s).take b).drop a).reverse:=A9d (j8 (O2 (C5z s) _) _)
 refine⟨I6 (by decide) hd,?_⟩
 have:=P2 (by decide) hd
 rw [List.length_reverse,List.length_drop,List.length_take,A3y,Nat.min_eq_left hb]at this
 exact this
theorem E0X (s:ByteArray) (a b c:Nat) (hab:a≤b) (hbc:b≤c) (hc:c≤s.size):N9 s a c=N9 s b c+256^(c-b)*N9 s a b:=by
 obtain⟨d,rfl⟩:∃d,c=b+d:=⟨c-b,by omega⟩
 induction d with
 |zero=>
  rw [Nat.add_zero,C3j,Nat.sub_self,Int.pow_zero,Int.one_mul,Int.zero_add]
 |succ d ih=>
  rw [←Nat.add_assoc,C5F s a _ (by omega) (by omega),C5F s b _ (by omega) (by omega),ih (by omega) (by omega)]
  rw [show b+d+1-b=(b+d-b)+1 by omega,Int.pow_succ,Int.mul_right_comm]
  generalize 256^(b+d-b)*N9 s a b=X
  omega
theorem D6f (s:ByteArray):N9 s 0 s.size=K9 s:=by
 unfold N9 K9
 rw [List.drop_zero,List.take_of_length_le (by rw [A3y];exact Nat.le_refl _)]
theorem E2J (s:ByteArray) (hs:s.size≤1099511627776) (out:List Int) (lo:Nat) (hlo:out.length≤1099511627776) (e:Nat) (he:e≤s.size) (hle:lo≤e) (h4:e≤lo+4) (r:List Int)
  (next:Ev (fun k=>galoisref01_limbs.l0 k s (out++[N9 s lo e]) ((e:Int)-4)) r):∀(d i:Nat),i+d=e→lo≤i→Ev (fun k=>galoisref01_limbs.l1 k s out (e:Int) (N9 s lo i) (i:Int)) r:=by
 intro d
 induction d with
 |zero=>
  intro i hi hl
  have hi:i=e:=by omega
  subst hi
  have e1:wrap64 ((i:Int)-4)=(i:Int)-4:=D1 (by omega) (by omega)
  refine Ev.step (fun k=>?_) next
  simp only [galoisref01_limbs.l1,e1]
  rw [if_neg (Int.lt_irrefl _),if_pos (by omega)]
 |succ d ih=>
  intro i hi hl
  have c1:(i:Int)<(e:Int):=by omega
  have c2:(i:Int)<(s.size:Int):=by omega
  have e1:wrap64 ((i:Int)+1)=((i+1:Nat):Int):=by rw [D1 (by omega) (by omega)];omega
  obtain⟨w0,w1⟩:=D2q s lo i hl (by omega)
  have w2:N9 s lo i<16777216:=by
   refine Int.lt_of_lt_of_le w1 ?_
   exact A9j (B:=256) (by decide) (show i-lo≤3 by omega)
  obtain⟨b0,b1⟩:=D8U s (i:Int)
  have e2:IntKind.u64.wrap (IntKind.u64.wrap (N9 s lo i*256)+IntKind.u64.wrap (bt s (i:Int)))=N9 s lo (i+1):=by
   rw [C5F s lo i hl (by omega),u64 (x:=N9 s lo i*256) (by omega) (by omega),u64 (x:=bt s (i:Int)) (by omega) (by omega),u64 (by omega) (by omega)]
  refine Ev.step (f:=fun k=>galoisref01_limbs.l1 k s out (e:Int) (N9 s lo (i+1)) ((i+1:Nat):Int)) (fun k=>?_) (ih (i+1) (by omega) (by omega))
  simp only [galoisref01_limbs.l1,e1,e2]
  rw [if_pos c1,if_pos (Int.natCast_nonneg _),if_pos c2]
theorem D8e (s:ByteArray) (out:List Int) (hd:B7 A7 out) (hl:out.length≤1099511627776) (hv:vB A7 out=K9 s) (x:Int) (hx:¬x>0):Ev (fun k=>galoisref01_limbs.l0 k s out x) (D0 (K9 s).toNat):=by
 have h:=D4z out.length out rfl (by omega) hd
 rw [hv]at h
 refine Ev.step (f:=fun k=>(galoisref01_trim.f k out).bind fun t=>some t) (fun k=>?_) (Ev.bind h (Ev.now _))
 simp only [galoisref01_limbs.l0]
 rw [if_neg hx]
theorem F0B (s:ByteArray) (hs:s.size≤1099511627776):∀(e:Nat) (out:List Int),e≤s.size→4*out.length=s.size-e→B7 A7 out→vB A7 out=N9 s e s.size→Ev (fun k=>galoisref01_limbs.l0 k s out (e:Int)) (D0 (K9 s).toNat):=by
 intro e
 induction e using Nat.strongRecOn with
 |_ e ih=>
  intro out he hl hd hv
  by_cases h0:e=0
  ·subst h0
   exact D8e s out hd (by omega) (by rw [hv,D6f]) _ (by omega)
  ·have hmx:mx 0 (wrap64 ((e:Int)-4))=((e-4:Nat):Int):=by
    rw [D1 (by omega) (by omega)]
    unfold mx
    split<;>omega
   have hw:=D2q s (e-4) e (by omega) he
   have hw1:N9 s (e-4) e<A7:=by
    refine Int.lt_of_lt_of_le hw.2 ?_
    exact A9j (B:=256) (by decide) (show e-(e-4)≤4 by omega)
   have hd':B7 A7 (out++[N9 s (e-4) e]):=B3z hd (A1P.2 ⟨⟨hw.1,hw1⟩,A4M _⟩)
   have hpow:(A7:Int)^out.length=256^(s.size-e):=by
    rw [←hl,Int.pow_mul]
    rfl
   have hv':vB A7 (out++[N9 s (e-4) e])=N9 s (e-4) s.size:=by
    rw [A3L,hpow,hv,E0X s (e-4) e s.size (by omega) he (Nat.le_refl _)]
    simp [vB]
   refine Ev.step (f:=fun k=>galoisref01_limbs.l1 k s out (e:Int) (N9 s (e-4) (e-4)) ((e-4:Nat):Int)) (fun k=>?_) (E2J s hs out (e-4) (by omega) e he (by omega) (by omega) _ ?_ (e-(e-4)) (e-4) (by omega) (Nat.le_refl _))
   ·simp only [galoisref01_limbs.l0,hmx]
    rw [if_pos (by omega),C3j]
   ·by_cases h4:e≤4
    ·refine D8e s _ hd' (by rw [List.length_append];simp;omega) ?_ _ (by omega)
     rw [hv',show e-4=0 by omega,D6f]
    ·have:=ih (e-4) (by omega) (out++[N9 s (e-4) e]) (by omega) (by rw [List.length_append];simp;omega) hd' hv'
     rwa [show((e-4:Nat):Int)=(e:Int)-4 by omega]at this
theorem E0d (s:ByteArray) (hs:s.size≤1099511627776):Ev (fun k=>galoisref01_limbs.f k s) (D0 (K9 s).toNat):=
 F0B s hs s.size [] (Nat.le_refl _) (by simp) (A4M _) (by rw [C3j];rfl)
theorem A6d {n:Nat} (hs:(B2 n).size≤1099511627776):Ev (fun k=>galoisref01_limbs.f k (B2 n)) (D0 n):=by
 have:=E0d (B2 n) hs
 rwa [bval_nat,Int.toNat_natCast]at this
theorem F1t {N x:Nat} (hx:x<256) (h:N*256+x≠0):d8 (N*256+x)=(x:Int)::d8 N:=by
 unfold d8
 rw [C9c _ _ h,show(N*256+x)%(254+2)=x by omega,show(N*256+x)/(254+2)=N by omega]
theorem F1G {N x:Nat} (hx:x<256):(if(((d8 N).reverse.length:Int)>0)then(d8 N).reverse++[(x:Int)]else if(x:Int)>0 then(d8 N).reverse++[(x:Int)]else(d8 N).reverse)=(d8 (N*256+x)).reverse:=by
 by_cases h:N*256+x=0
 ·have hN:N=0:=by omega
  have hx0:x=0:=by omega
  subst hN hx0
  have:d8 0=[]:=A7x _
  rw [show 0*256+0=0 from rfl,this]
  simp
 ·rw [F1t hx h,List.reverse_cons]
  by_cases h1:((d8 N).reverse.length:Int)>0
  ·rw [if_pos h1]
  ·rw [if_neg h1,if_pos]
   have:N=0:=by
    rcases Nat.eq_zero_or_pos N with h2|h2
    ·exact h2
    ·exfalso
     have h3:(B2 N).size≠0:=fun h4=>by have:=A9Y.1 h4;omega
     rw [B4d]at h3
     rw [List.length_reverse]at h1
     omega
   omega
theorem E2G {l:List Int} {V:Nat} (hd:B7 A7 l) (hl:l.length≤1099511627776) (hV:(B2 V).size≤4398046511104) {i H D:Nat} (hi:i<l.length) (hD:rd l (i:Int)=D) (hle:H*4294967296+D≤V) {r:ByteArray}
  (next:Ev (fun k=>galoisref01_pack.l0 k l (d8 (H*4294967296+D)).reverse ((i:Int)-1)) r):∀(c N:Nat),c≤4→N=H*256^(4-c)+D/256^c→Ev (fun k=>galoisref01_pack.l1 k l (d8 N).reverse (i:Int) (8*(c:Int)-8)) r:=by
 have hD32:D<4294967296:=by
  have h:=(D9 hd i hi).2
  rw [hD]at h
  exact Int.ofNat_lt.1 h
 intro c
 induction c with
 |zero=>
  intro N _ hN
  have hN:N=H*4294967296+D:=by simpa using hN
  rw [hN]
  have e1:wrap64 ((i:Int)-1)=(i:Int)-1:=D1 (by omega) (by omega)
  refine Ev.step (fun k=>?_) next
  simp only [galoisref01_pack.l1,e1]
  rw [if_neg (by decide)]
 |succ c ih=>
  intro N hc hN
  have hcase:c=0∨c=1∨c=2∨c=3:=by omega
  have hNV:N≤V:=by
   refine Nat.le_trans ?_ hle
   rw [hN]
   exact Nat.add_le_add (Nat.mul_le_mul_left H (Nat.pow_le_pow_right (show 0<256 by decide) (show 4-(c+1)≤4 from Nat.sub_le _ _))) (Nat.div_le_self _ _)
  have hb:∃x:Nat,x<256∧(shr .u64 (rd l (i:Int)) (8*((c+1:Nat):Int)-8))%256=(x:Int)∧N*256+x=H*256^(4-c)+D/256^c:=by
   refine⟨D/256^c%256,Nat.mod_lt _ (by decide),?_,?_⟩
   ·rw [show 8*((c+1:Nat):Int)-8=((8*c:Nat):Int)by omega,B5B _ _ (by omega),hD]
    rcases hcase with rfl|rfl|rfl|rfl<;>simp<;>omega
   ·rw [hN]
    rcases hcase with rfl|rfl|rfl|rfl<;>simp<;>omega
  obtain⟨x,x1,x2,x3⟩:=hb
  have hsz:(d8 N).reverse.length<140737488355328:=by
   have:=A4g hNV
   rw [B4d]at this
   rw [List.length_reverse]
   omega
  have e1:wrap64 (8*((c+1:Nat):Int)-8-8)=8*(c:Int)-8:=by rw [D1 (by omega) (by omega)];omega
  refine Ev.step (f:=fun k=>galoisref01_pack.l1 k l (d8 (N*256+x)).reverse (i:Int) (8*(c:Int)-8)) (fun k=>?_) (ih (N*256+x) (by omega) x3)
  rw [←F1G x1]
  simp only [galoisref01_pack.l1,e1,x2]
  rw [if_pos (by omega),if_pos (by omega),if_pos (by omega),if_pos (by omega)]
  by_cases h1:((d8 N).reverse.length:Int)>0
  ·rw [if_pos h1,if_pos hsz,if_pos h1]
  ·rw [if_neg h1,if_neg h1]
   by_cases h2:(x:Int)>0
   ·rw [if_pos h2,if_pos hsz,if_pos h2]
   ·rw [if_neg h2,if_neg h2]
theorem E8S {l:List Int} {V:Nat} (hd:B7 A7 l) (hl:l.length≤1099511627776) (hV:(B2 V).size≤4398046511104) (hv:vB A7 l=V):∀(J H:Nat),J≤l.length→vB A7 (l.drop J)=H→Ev (fun k=>galoisref01_pack.l0 k l (d8 H).reverse ((J:Int)-1)) (B2 V):=by
 intro J
 induction J with
 |zero=>
  intro H _ hH
  rw [List.drop_zero,hv]at hH
  have e:H=V:=by omega
  subst e
  refine Ev.step (f:=fun _=>some (B2 H)) (fun k=>?_) (Ev.now _)
  simp only [galoisref01_pack.l0]
  rw [if_neg (by decide)]
  rfl
 |succ i ih=>
  intro H hJ hH
  have hi:i<l.length:=by omega
  obtain⟨D,hD⟩:=Int.eq_ofNat_of_zero_le (D9 hd i hi).1
  have hds:=v9 A7 l i hi
  rw [hH,hD]at hds
  have hds':vB A7 (l.drop i)=((H*4294967296+D:Nat):Int):=by
   rw [hds]
   show(D:Int)+4294967296*(H:Int)=_
   omega
  have hle:H*4294967296+D≤V:=by
   have h1:=m9 A7 l i (by omega)
   have h2:=I6 (show(0:Int)≤A7 by decide) (O2 hd i)
   have h3:(1:Int)≤A7^i:=by have:(0:Int)<A7^i:=Int.pow_pos (by decide);omega
   have h4:=Int.mul_le_mul_of_nonneg_right h3 (show 0≤vB A7 (l.drop i)from I6 (by decide) (j8 hd i))
   rw [Int.one_mul]at h4
   rw [hv]at h1
   rw [hds']at h1 h4
   generalize A7^i*((H*4294967296+D:Nat):Int)=X at*
   clear h3
   omega
  refine Ev.congr (f:=fun k=>galoisref01_pack.l0 k l (d8 H).reverse (i:Int)) (fun k=>by rw [show((i+1:Nat):Int)-1=(i:Int)by omega]) ?_
  refine Ev.step (f:=fun k=>galoisref01_pack.l1 k l (d8 H).reverse (i:Int) (8*((4:Nat):Int)-8)) (fun k=>?_) (E2G hd hl hV hi hD hle (ih _ (by omega) hds') 4 H (Nat.le_refl _) ?_)
  ·simp only [galoisref01_pack.l0]
   rw [if_pos (by omega)]
   rfl
  ·have hD32:D<4294967296:=by
    have h:=(D9 hd i hi).2
    rw [hD]at h
    exact Int.ofNat_lt.1 h
   simp
   omega
theorem A9V {l:List Int} (hd:B7 A7 l) (hl:l.length≤1099511627776):Ev (fun k=>galoisref01_pack.f k l) (B2 (vB A7 l).toNat):=by
 have hv:=I6 (show(0:Int)≤A7 by decide) hd
 have hV:(B2 (vB A7 l).toNat).size≤4398046511104:=by
  have h:(B2 (vB A7 l).toNat).size≤4*l.length:=by
   apply A9p.2
   have h1:=P2 (show(0:Int)<A7 by decide) hd
   rw [Nat.pow_mul]
   have h2:(((vB A7 l).toNat:Nat):Int)<((4294967296^l.length:Nat):Int):=by
    rw [Int.toNat_of_nonneg hv,Int.natCast_pow]
    exact h1
   exact Int.ofNat_lt.1 h2
  omega
 have e1:wrap64 ((l.length:Int)-1)=(l.length:Int)-1:=D1 (by omega) (by omega)
 have:=E8S hd hl hV (show vB A7 l=(((vB A7 l).toNat:Nat):Int)by omega) l.length 0 (Nat.le_refl _) (by rw [List.drop_of_length_le (Nat.le_refl _)];rfl)
 refine Ev.congr (fun k=>?_) this
 unfold galoisref01_pack.f
 rw [e1,show d8 0=[]from A7x _]
 rfl
theorem B7j {x:Int} (h0:0≤x) (h1:x<18446744073709551616):Go.bits .and .u64 x 4294967295=x%A7:=A9z h0 h1
theorem D4T (m n:Nat):Ev (fun k=>galoisref01_Compare.f k (B2 m) (B2 n)) (L5 m n):=by
 have hj:∀b:Bool,b=decide (m<n)→Ev (fun k=>galoisref01_Compare.j0 k (B2 m) (B2 n) b) (L5 m n):=by
  rintro b rfl
  refine Ev.step (f:=fun _=>some (L5 m n)) (fun k=>?_) (Ev.now _)
  simp only [galoisref01_Compare.j0,D7B,B0V,decide_eq_true_eq,L5]
  split
  ·rfl
  ·split<;>rfl
 by_cases h1:(B2 m).size<(B2 n).size
 ·refine Ev.congr (f:=fun k=>galoisref01_Compare.j0 k (B2 m) (B2 n) true) (fun k=>?_) (hj _ (by simp [B8P h1]))
  unfold galoisref01_Compare.f
  rw [if_pos (by omega)]
 ·by_cases h2:(B2 m).size=(B2 n).size
  ·refine Ev.congr (f:=fun k=>galoisref01_Compare.j0 k (B2 m) (B2 n) (Op.bytesLess (B2 m).toList (B2 n).toList)) (fun k=>?_) (hj _ (D0T h2))
   unfold galoisref01_Compare.f
   rw [if_neg (by omega),if_pos (by omega)]
  ·refine Ev.congr (f:=fun k=>galoisref01_Compare.j0 k (B2 m) (B2 n) false) (fun k=>?_) (hj _ (by
    have:n<m:=B8P (by omega)
    simp;omega))
   unfold galoisref01_Compare.f
   rw [if_neg (by omega),if_neg (by omega)]
def B2b (x y out:List Int) (i:Nat) (c:Int):Prop:=
 out.length=i∧B7 A7 out∧(0≤c∧c≤1)∧vB A7 out+A7^i*c=vB A7 (x.take i)+vB A7 (y.take i)
theorem D0e {x y out:List Int} {i:Nat} {c:Int} (hx:B7 A7 x) (hy:B7 A7 y) (h:B2b x y out i c):
  B2b x y (out++[(c+rd x (i:Int)+rd y (i:Int))%A7]) (i+1) ((c+rd x (i:Int)+rd y (i:Int))/A7):=by
 obtain⟨hl,hd,hc,hv⟩:=h
 obtain⟨x0,x1⟩:=A6f (by decide) hx i
 obtain⟨y0,y1⟩:=A6f (by decide) hy i
 have x1':rd x (i:Int)<4294967296:=x1
 have y1':rd y (i:Int)<4294967296:=y1
 refine⟨by rw [List.length_append,hl];rfl,B3z hd (A1P.2 ⟨⟨Int.emod_nonneg _ (by decide),Int.emod_lt_of_pos _ (by decide)⟩,A4M _⟩),?_,?_⟩
 ·show 0≤(c+rd x (i:Int)+rd y (i:Int))/4294967296∧(c+rd x (i:Int)+rd y (i:Int))/4294967296≤1
  clear hv
  omega
 ·rw [A3L,hl,O8,O8,Int.pow_succ]
  have e:=Int.emod_add_mul_ediv (c+rd x (i:Int)+rd y (i:Int)) A7
  generalize(c+rd x (i:Int)+rd y (i:Int))/A7=q at*
  generalize(c+rd x (i:Int)+rd y (i:Int))%A7=r at*
  have er:r=c+rd x (i:Int)+rd y (i:Int)-A7*q:=by clear hv;omega
  have e2:vB A7 [r]=r:=by simp [vB]
  rw [e2,er,Int.mul_sub,Int.mul_add,Int.mul_add,Int.mul_assoc (A7^i) A7 q]
  generalize(A7:Int)^i=P at*
  omega
theorem D6b {x y out:List Int} {i:Nat} {c:Int} {r:ByteArray} (hx:B7 A7 x) (hy:B7 A7 y) (li:i≤1099511627776) (h:B2b x y out i c) (ht:i<x.length∨i<y.length∨c>0)
  (next:Ev (fun k=>galoisref01_Add.l0 k x y (out++[(c+rd x (i:Int)+rd y (i:Int))%A7]) ((c+rd x (i:Int)+rd y (i:Int))/A7) ((i+1:Nat):Int)) r):Ev (fun k=>galoisref01_Add.l0 k x y out c (i:Int)) r:=by
 have hl:=h.1
 have hc:=h.2.2.1
 have c4:out.length<17592186044416:=by omega
 obtain⟨x0,x1⟩:=A6f (by decide) hx i
 obtain⟨y0,y1⟩:=A6f (by decide) hy i
 have x1':rd x (i:Int)<4294967296:=x1
 have y1':rd y (i:Int)<4294967296:=y1
 have fx:¬(i:Int)<(x.length:Int)→rd x (i:Int)=0:=fun h=>A7W x i (by omega)
 have fy:¬(i:Int)<(y.length:Int)→rd y (i:Int)=0:=fun h=>A7W y i (by omega)
 have e1:wrap64 ((i:Int)+1)=((i+1:Nat):Int):=by rw [D1 (by omega) (by omega)];omega
 have e2:IntKind.u64.wrap (c+rd x (i:Int))=c+rd x (i:Int):=by clear e1;exact u64 (by omega) (by omega)
 have e3:IntKind.u64.wrap (c+rd x (i:Int)+rd y (i:Int))=c+rd x (i:Int)+rd y (i:Int):=by clear e1 e2;exact u64 (by omega) (by omega)
 have e4:IntKind.u64.wrap (c+rd y (i:Int))=c+rd y (i:Int):=by clear e1 e2 e3;exact u64 (by omega) (by omega)
 have a3:=B7j (x:=c+rd x (i:Int)+rd y (i:Int)) (by clear e1 e2 e3 e4;omega) (by clear e1 e2 e3 e4;omega)
 refine Ev.step (f:=fun k=>galoisref01_Add.j1 k x y out c (i:Int) true) (fun k=>?_) (Ev.step (fun k=>?_) next)
 ·simp only [galoisref01_Add.l0]
  by_cases hx':(i:Int)<(x.length:Int)
  ·rw [if_pos hx']
  ·rw [if_neg hx']
   by_cases hy':(i:Int)<(y.length:Int)
   ·rw [if_pos hy']
   ·rw [if_neg hy',decide_eq_true (show c>0 by clear e1 e2 e3 e4 a3;omega)]
 ·simp only [galoisref01_Add.j1,e1]
  rw [if_pos trivial]
  by_cases hx':(i:Int)<(x.length:Int)
  ·rw [if_pos hx',if_pos (Int.natCast_nonneg _)]
   by_cases hy':(i:Int)<(y.length:Int)
   ·rw [if_pos hy',if_pos c4,e2,e3,a3]
   ·have z:=fy hy'
    rw [z,Int.add_zero]at a3
    rw [if_neg hy',if_pos c4,e2,a3,z,Int.add_zero]
  ·have z:=fx hx'
   rw [if_neg hx']
   by_cases hy':(i:Int)<(y.length:Int)
   ·rw [z,Int.add_zero]at a3
    rw [if_pos hy',if_pos (Int.natCast_nonneg _),if_pos c4,e4,a3,z,Int.add_zero]
   ·have z2:=fy hy'
    rw [z,z2,Int.add_zero,Int.add_zero]at a3
    rw [if_neg hy',if_pos c4,a3,z,z2,Int.add_zero,Int.add_zero]
theorem D0n {x y out:List Int} {i n:Nat} (lx:x.length≤i) (ly:y.length≤i) (li:i≤1099511627776) (hn:vB A7 x+vB A7 y=n) (h:B2b x y out i 0):Ev (fun k=>galoisref01_Add.l0 k x y out 0 (i:Int)) (B2 n):=by
 obtain⟨hl,hd, -,hv⟩:=h
 rw [Int.mul_zero,Int.add_zero,X2 _ _ _ lx,X2 _ _ _ ly,hn]at hv
 have p:=A9V hd (by omega)
 rw [hv,Int.toNat_natCast]at p
 refine Ev.step (f:=fun k=>galoisref01_Add.j1 k x y out 0 (i:Int) false) (fun k=>?_) (Ev.step (f:=fun k=>(galoisref01_pack.f k out).bind fun t=>some t) (fun k=>?_) (Ev.bind p (Ev.now _)))
 ·simp only [galoisref01_Add.l0]
  rw [if_neg (by omega),if_neg (by omega),decide_eq_false (by decide)]
 ·simp only [galoisref01_Add.j1]
  rw [if_neg Bool.false_ne_true]
theorem E9u {x y:List Int} (hx:B7 A7 x) (hy:B7 A7 y) (M:Nat) (lx:x.length≤M) (ly:y.length≤M) (hM:M=x.length∨M=y.length) (lM:M≤1099511627775) (n:Nat) (hn:vB A7 x+vB A7 y=n):∀(d i:Nat) (out:List Int) (c:Int),i+d=M→B2b x y out i c→
  Ev (fun k=>galoisref01_Add.l0 k x y out c (i:Int)) (B2 n):=by
 intro d
 induction d with
 |zero=>
  intro i out c hi h
  have hi:i=M:=by omega
  subst hi
  have hc:=h.2.2.1
  have hcase:c=0∨c=1:=by omega
  rcases hcase with rfl|rfl
  ·exact D0n lx ly (by omega) hn h
  ·have hs:=D0e hx hy h
   have zx:=A7W x i lx
   have zy:=A7W y i ly
   rw [zx,zy]at hs
   refine D6b hx hy (by omega) h (Or.inr (Or.inr (by decide))) ?_
   rw [zx,zy]
   exact D0n (by omega) (by omega) (by omega) hn hs
 |succ d ih=>
  intro i out c hi h
  exact D6b hx hy (by omega) h (by omega) (ih (i+1) _ _ (by omega) (D0e hx hy h))
theorem D9i {m n:Nat} (hm:(B2 m).size≤1099511627776) (hn:(B2 n).size≤1099511627776):Ev (fun k=>galoisref01_Add.f k (B2 m) (B2 n)) (B2 (m+n)):=by
 have lm:=A8X m
 have ln:=A8X n
 exact Ev.bind (A6d hm) (Ev.bind (A6d hn) (E9u (U2 m) (U2 n) (max (D0 m).length (D0 n).length) (Nat.le_max_left _ _) (Nat.le_max_right _ _) (by omega) (by omega) (m+n) (by rw [W3,W3,Int.natCast_add]) (max (D0 m).length (D0 n).length) 0 [] 0 (Nat.zero_add _) ⟨rfl,A4M _,⟨by decide,by decide⟩,by simp [vB]⟩))
def C4c (x y z:List Int) (i:Nat) (c:Int):Prop:=
 z.length=x.length∧B7 A7 z∧(0≤c∧c≤1)∧vB A7 z+vB A7 (y.take i)=vB A7 x+A7^i*c
theorem D1T {x y z:List Int} {i:Nat} {c d e:Int} (hi:i<x.length) (h:C4c x y z i c) (d0:0≤d) (d1:d<A7) (e0:0≤e) (e1:e≤1) (he:d=rd z (i:Int)-rd y (i:Int)-c+A7*e):
  C4c x y (z.set i d) (i+1) e:=by
 obtain⟨hl,hd,hc,hv⟩:=h
 refine⟨by rw [List.length_set];exact hl,S8 hd _ d0 d1,⟨e0,e1⟩,?_⟩
 rw [X4 _ _ _ _ (by clear hv;omega),O8,Int.pow_succ,he]
 have:rd z (i:Int)-rd y (i:Int)-c+A7*e-rd z (i:Int)=A7*e-rd y (i:Int)-c:=by clear hv;omega
 rw [this,Int.mul_sub,Int.mul_sub,Int.mul_assoc (A7^i) A7 e]
 generalize(A7:Int)^i=P at*
 omega
theorem E0w (x y:List Int) (hx:B7 A7 x) (hy:B7 A7 y) (lx:x.length≤1099511627775) (hyx:y.length≤x.length) (n:Nat) (hn:vB A7 x=vB A7 y+n):∀(d i:Nat) (z:List Int) (c:Int),i+d=x.length→C4c x y z i c→
  Ev (fun k=>galoisref01_Sub.l0 k z y c (i:Int)) (B2 n):=by
 intro d
 induction d with
 |zero=>
  intro i z c hi h
  have hi:i=x.length:=by omega
  subst hi
  have hl:=h.1
  have c3:z.length≤1099511627776:=by omega
  have c5:¬(x.length:Int)<(z.length:Int):=by omega
  obtain⟨-,hd,hc,hv⟩:=h
  have hv':vB A7 z=n:=by
   have h1:=P2 (show(0:Int)<A7 by decide) hd
   rw [X2 _ _ _ hyx,hn]at hv
   rw [hl]at h1
   have h2:c=0∨c=1:=by clear h1 hv;omega
   rcases h2 with rfl|rfl
   ·rw [Int.mul_zero]at hv
    clear h1
    omega
   ·rw [Int.mul_one]at hv
    generalize(A7:Int)^x.length=P at*
    omega
  have p:=A9V hd c3
  rw [hv',Int.toNat_natCast]at p
  refine Ev.step (f:=fun k=>(galoisref01_pack.f k z).bind fun t=>some t) (fun k=>?_) (Ev.bind p (Ev.now _))
  simp only [galoisref01_Sub.l0]
  rw [if_neg c5]
 |succ d ih=>
  intro i z c hi h
  have hi':i<x.length:=by omega
  have c0:i+1+d=x.length:=by omega
  have hl:=h.1
  have c2:(i:Int)<(z.length:Int):=by omega
  have c4:i<z.length:=by omega
  have c3:¬(i:Int)<(y.length:Int)→rd y (i:Int)=0:=fun h=>A7W y i (by omega)
  have h':=h
  obtain⟨-,hd,hc, -⟩:=h
  obtain⟨x0,x1⟩:=D9 hd i c4
  obtain⟨y0,y1⟩:=A6f (by decide) hy i
  have x1':rd z (i:Int)<4294967296:=x1
  have y1':rd y (i:Int)<4294967296:=y1
  have e1:wrap64 ((i:Int)+1)=((i+1:Nat):Int):=by clear c3;rw [D1 (by omega) (by omega)];omega
  have e2:IntKind.u64.wrap (c+rd y (i:Int))=c+rd y (i:Int):=by clear e1;exact u64 (by omega) (by omega)
  have e3:IntKind.u64.wrap (rd z (i:Int)+4294967296)=rd z (i:Int)+4294967296:=by clear e1 e2;exact u64 (by omega) (by omega)
  by_cases hb:rd z (i:Int)<c+rd y (i:Int)
  ·have e4:IntKind.u64.wrap (rd z (i:Int)+4294967296-(c+rd y (i:Int)))=rd z (i:Int)+4294967296-(c+rd y (i:Int)):=by clear e1 e2 e3;exact u64 (by omega) (by omega)
   have hs:=D1T (d:=rd z (i:Int)+4294967296-(c+rd y (i:Int))) (e:=1) hi' h' (by clear e1 e2 e3 e4;omega) (by show _<(4294967296:Int);clear e1 e2 e3 e4;omega) (by decide) (by decide) (by show _=rd z (i:Int)-rd y (i:Int)-c+4294967296*1;clear e1 e2 e3 e4;omega)
   have r1:rd (z.set i (rd z (i:Int)+4294967296)) (i:Int)=rd z (i:Int)+4294967296:=A4y _ _ _ c4
   refine Ev.step (f:=fun k=>galoisref01_Sub.l0 k (z.set i (rd z (i:Int)+4294967296-(c+rd y (i:Int)))) y 1 ((i+1:Nat):Int)) (fun k=>?_) (ih (i+1) _ _ c0 hs)
   simp only [galoisref01_Sub.l0,e1,Int.toNat_natCast,Option.bind_some]
   rw [if_pos c2]
   by_cases hy':(i:Int)<(y.length:Int)
   ·rw [if_pos hy',if_pos (Int.natCast_nonneg _),e2,if_pos hb,e3,r1,e4,List.set_set]
   ·have z:=c3 hy'
    rw [z,Int.add_zero]at hb e4⊢
    rw [if_neg hy',if_pos (Int.natCast_nonneg _),if_pos hb,e3,r1,e4,List.set_set]
  ·have e4:IntKind.u64.wrap (rd z (i:Int)-(c+rd y (i:Int)))=rd z (i:Int)-(c+rd y (i:Int)):=by clear e1 e2 e3;exact u64 (by omega) (by omega)
   have hs:=D1T (d:=rd z (i:Int)-(c+rd y (i:Int))) (e:=0) hi' h' (by clear e1 e2 e3 e4;omega) (by show _<(4294967296:Int);clear e1 e2 e3 e4;omega) (by decide) (by decide) (by clear e1 e2 e3 e4;omega)
   refine Ev.step (f:=fun k=>galoisref01_Sub.l0 k (z.set i (rd z (i:Int)-(c+rd y (i:Int)))) y 0 ((i+1:Nat):Int)) (fun k=>?_) (ih (i+1) _ _ c0 hs)
   simp only [galoisref01_Sub.l0,e1,Int.toNat_natCast,Option.bind_some]
   rw [if_pos c2]
   by_cases hy':(i:Int)<(y.length:Int)
   ·rw [if_pos hy',if_pos (Int.natCast_nonneg _),e2,if_neg hb,e4]
   ·have z:=c3 hy'
    rw [z,Int.add_zero]at hb e4⊢
    rw [if_neg hy',if_pos (Int.natCast_nonneg _),if_neg hb,e4]
theorem D1Q {m n:Nat} (hm:(B2 m).size≤1099511627776):Ev (fun k=>galoisref01_Sub.f k (B2 m) (B2 n)) (if m<n then⟨#[]⟩else B2 (m-n)):=by
 refine Ev.bind (D4T m n) ?_
 by_cases hlt:m<n
 ·rw [if_pos hlt]
  exact Ev.congr (fun k=>if_pos (show L5 m n<0 by unfold L5;rw [if_pos hlt];decide)) (Ev.now _)
 ·rw [if_neg hlt]
  refine Ev.congr (fun k=>if_neg (show¬L5 m n<0 by unfold L5;rw [if_neg hlt];split<;>decide)) ?_
  have lm:=A8X m
  have hn:(B2 n).size≤1099511627776:=Nat.le_trans (A4g (Nat.le_of_not_lt hlt)) hm
  exact Ev.bind (A6d hm) (Ev.bind (A6d hn) (E0w (D0 m) (D0 n) (U2 m) (U2 n) (by omega) (E4A (by omega)) (m-n) (by rw [W3,W3];omega) (D0 m).length 0 _ _ (Nat.zero_add _) ⟨rfl,U2 m,⟨by decide,by decide⟩,by simp [vB]⟩))
theorem D0v {x y o c:Int} (x0:0≤x) (x1:x<A7) (y0:0≤y) (y1:y<A7) (o0:0≤o) (o1:o<A7) (c0:0≤c) (c1:c<A7):
  0≤(x*y+o+c)/A7∧(x*y+o+c)/A7<A7∧IntKind.u64.wrap (IntKind.u64.wrap (o+IntKind.u64.wrap (x*y))+c)=x*y+o+c∧Go.bits .and .u64 (x*y+o+c) 4294967295=(x*y+o+c)%A7:=by
 have x1':x<4294967296:=x1
 have y1':y<4294967296:=y1
 have o1':o<4294967296:=o1
 have c1':c<4294967296:=c1
 have hp:=A2d x0 (show x≤4294967295 by omega) y0 (show y≤4294967295 by omega)
 have h1:(4294967295:Int)*4294967295=18446744065119617025:=rfl
 rw [h1]at hp
 rw [B7j (x:=x*y+o+c) (by omega) (by omega)]
 show 0≤(x*y+o+c)/4294967296∧(x*y+o+c)/4294967296<4294967296∧IntKind.u64.wrap (IntKind.u64.wrap (o+IntKind.u64.wrap (x*y))+c)=x*y+o+c∧(x*y+o+c)%4294967296=(x*y+o+c)%4294967296
 generalize x*y=p at*
 clear x0 x1 x1' y0 y1 y1' o1 c1 h1
 rw [u64 (x:=p) (by omega) (by omega),u64 (x:=o+p) (by omega) (by omega),u64 (x:=o+p+c) (by omega) (by omega)]
 omega
def D2s (a b out:List Int) (i:Nat):Prop:=
 out.length=a.length+b.length∧B7 A7 out∧vB A7 out=vB A7 (a.take i)*vB A7 b∧∀j:Nat,i+b.length≤j→rd out (j:Int)=0
def C9p (a b out:List Int) (i j:Nat) (c:Int):Prop:=
 out.length=a.length+b.length∧B7 A7 out∧(0≤c∧c<A7)∧vB A7 out+A7^(i+j)*c=vB A7 (a.take i)*vB A7 b+A7^i*(rd a (i:Int)*vB A7 (b.take j))∧∀n:Nat,i+b.length≤n→rd out (n:Int)=0
theorem E2c {a b out:List Int} {i j:Nat} {c:Int} (ha:B7 A7 a) (hb:B7 A7 b) (hi:i<a.length) (hj:j<b.length) (h:C9p a b out i j c):
  C9p a b (out.set (i+j) ((rd a (i:Int)*rd b (j:Int)+rd out ((i+j:Nat):Int)+c)%A7)) i (j+1) ((rd a (i:Int)*rd b (j:Int)+rd out ((i+j:Nat):Int)+c)/A7):=by
 obtain⟨hl,hd,hc,hv,hz⟩:=h
 obtain⟨x0,x1⟩:=D9 ha i hi
 obtain⟨y0,y1⟩:=D9 hb j hj
 obtain⟨o0,o1⟩:=D9 hd (i+j) (by omega)
 obtain⟨n0,n1, -⟩:=D0v x0 x1 y0 y1 o0 o1 hc.1 hc.2
 refine⟨by rw [List.length_set];exact hl,S8 hd _ (Int.emod_nonneg _ (by decide)) (Int.emod_lt_of_pos _ (by decide)),⟨n0,n1⟩,?_,fun n hn=>?_⟩
 ·rw [X4 _ _ _ _ (by omega),O8,←Nat.add_assoc,Int.pow_succ]
  have e:=Int.emod_add_mul_ediv (rd a (i:Int)*rd b (j:Int)+rd out ((i+j:Nat):Int)+c) A7
  generalize(rd a (i:Int)*rd b (j:Int)+rd out ((i+j:Nat):Int)+c)/A7=q at*
  generalize(rd a (i:Int)*rd b (j:Int)+rd out ((i+j:Nat):Int)+c)%A7=r at*
  have er:r=rd a (i:Int)*rd b (j:Int)+rd out ((i+j:Nat):Int)+c-A7*q:=by omega
  rw [er]
  have ep:(A7:Int)^(i+j)=A7^i*A7^j:=Int.pow_add _ _ _
  rw [ep]at hv⊢
  clear ep
  generalize vB A7 out=V at*
  generalize vB A7 (List.take i a)*vB A7 b=W at*
  generalize vB A7 (List.take j b)=U at*
  generalize(A7:Int)^i=P at*
  generalize(A7:Int)^j=Q at*
  generalize rd a (i:Int)=x at*
  generalize rd b (j:Int)=y at*
  generalize rd out ((i+j:Nat):Int)=o at*
  have e1:P*Q*(x*y+o+c-A7*q-o)=P*Q*(x*y)+P*Q*c-P*Q*A7*q:=by
   rw [show x*y+o+c-A7*q-o=x*y+c-A7*q by omega,Int.mul_sub,Int.mul_add,Int.mul_assoc (P*Q) A7 q]
  have e2:P*(x*(U+Q*y))=P*(x*U)+P*Q*(x*y):=by
   rw [Int.mul_add x,Int.mul_add P,Int.mul_left_comm x Q y,Int.mul_assoc P Q]
  rw [e1,e2]
  omega
 ·rw [v6 _ _ _ _ (by omega)]
  exact hz n hn
theorem F3N (a b:List Int) (ha:B7 A7 a) (hb:B7 A7 b) (la:a.length≤1099511627776) (lb:b.length≤1099511627776) (i:Nat) (hi:i<a.length) (r:ByteArray)
  (next:∀out,D2s a b out (i+1)→Ev (fun k=>galoisref01_Mul.l0 k a b out ((i+1:Nat):Int)) r):∀(d j:Nat) (out:List Int) (c:Int),j+d=b.length→C9p a b out i j c→
  Ev (fun k=>galoisref01_Mul.l1 k a b out (i:Int) c (j:Int)) r:=by
 intro d
 induction d with
 |zero=>
  intro j out c hj h
  have hj:j=b.length:=by omega
  subst hj
  have hl:=h.1
  have c1:i+b.length<out.length:=by omega
  have c2:((i+b.length:Nat):Int)<(out.length:Int):=Int.ofNat_lt.2 c1
  have e1:wrap64 ((i:Int)+(b.length:Int))=((i+b.length:Nat):Int):=by rw [D1 (by omega) (by omega)];omega
  have e2:wrap64 ((i:Int)+1)=((i+1:Nat):Int):=by clear e1;rw [D1 (by omega) (by omega)];omega
  obtain⟨-,hd,hc,hv,hz⟩:=h
  refine Ev.step (f:=fun k=>galoisref01_Mul.l0 k a b (out.set (i+b.length) c) ((i+1:Nat):Int)) (fun k=>?_) (next _ ⟨by rw [List.length_set];exact hl,S8 hd _ hc.1 hc.2,?_,fun j hj=>?_⟩)
  ·simp only [galoisref01_Mul.l1,e1,e2]
   rw [if_neg (Int.lt_irrefl _),if_pos (Int.natCast_nonneg _),if_pos c2,Int.toNat_natCast]
  ·rw [X4 _ _ _ _ c1,hz _ (Nat.le_refl _),Int.sub_zero,hv,O8,X2 _ _ _ (Nat.le_refl _),Int.add_mul,Int.mul_assoc]
  ·rw [v6 _ _ _ _ (by clear hv e1 e2;omega)]
   exact hz j (by clear hv e1 e2;omega)
 |succ d ih=>
  intro j out c hj h
  have hj':j<b.length:=by omega
  have hn:=E2c ha hb hi hj' h
  have hl:=h.1
  have c1:i+j<out.length:=by omega
  have c2:((i+j:Nat):Int)<(out.length:Int):=Int.ofNat_lt.2 c1
  have c3:(j:Int)<(b.length:Int):=Int.ofNat_lt.2 hj'
  have c5:(i:Int)<(a.length:Int):=Int.ofNat_lt.2 hi
  have c4:j+1+d=b.length:=by omega
  have e1:wrap64 ((i:Int)+(j:Int))=((i+j:Nat):Int):=by rw [D1 (by omega) (by omega)];omega
  have e2:wrap64 ((j:Int)+1)=((j+1:Nat):Int):=by clear e1;rw [D1 (by omega) (by omega)];omega
  obtain⟨-,hd,hc, -, -⟩:=h
  obtain⟨x0,x1⟩:=D9 ha i hi
  obtain⟨y0,y1⟩:=D9 hb j hj'
  obtain⟨o0,o1⟩:=D9 hd (i+j) c1
  obtain⟨-, -,m0,m1⟩:=D0v x0 x1 y0 y1 o0 o1 hc.1 hc.2
  refine Ev.step (fun k=>?_) (ih (j+1) _ _ c4 hn)
  simp only [galoisref01_Mul.l1,e1,e2]
  rw [if_pos c3,if_pos (Int.natCast_nonneg _),if_pos c2,if_pos (Int.natCast_nonneg _),if_pos c5,if_pos (Int.natCast_nonneg _),m0,m1,Int.toNat_natCast]
theorem F6O (a b:List Int) (ha:B7 A7 a) (hb:B7 A7 b) (la:a.length≤549755813888) (lb:b.length≤549755813888) (n:Nat) (hn:vB A7 a*vB A7 b=n):∀(d i:Nat) (out:List Int),i+d=a.length→D2s a b out i→
  Ev (fun k=>galoisref01_Mul.l0 k a b out (i:Int)) (B2 n):=by
 intro d
 induction d with
 |zero=>
  intro i out hi h
  have hi:i=a.length:=by omega
  subst hi
  obtain⟨hl,hd,hv,hz⟩:=h
  rw [X2 _ _ _ (Nat.le_refl _),hn]at hv
  have p:=A9V hd (by omega)
  rw [hv,Int.toNat_natCast]at p
  refine Ev.step (f:=fun k=>(galoisref01_pack.f k out).bind fun t=>some t) (fun k=>?_) (Ev.bind p (Ev.now _))
  simp only [galoisref01_Mul.l0]
  rw [if_neg (Int.lt_irrefl _)]
 |succ d ih=>
  intro i out hi h
  have hi':i<a.length:=by omega
  have c1:(i:Int)<(a.length:Int):=Int.ofNat_lt.2 hi'
  obtain⟨hl,hd,hv,hz⟩:=h
  refine Ev.step (f:=fun k=>galoisref01_Mul.l1 k a b out (i:Int) 0 ((0:Nat):Int)) (fun k=>?_) (F3N a b ha hb (by omega) (by omega) i hi' _ (fun out' h'=>ih (i+1) out' (by omega) h') b.length 0 out 0 (Nat.zero_add _) ⟨hl,hd,⟨by decide,by decide⟩,?_,hz⟩)
  ·simp only [galoisref01_Mul.l0]
   rw [if_pos c1]
   rfl
  ·rw [hv]
   simp [vB]
theorem E5D {m n:Nat} (hm:(B2 m).size≤1099511627776) (hn:(B2 n).size≤1099511627776):Ev (fun k=>galoisref01_Mul.f k (B2 m) (B2 n)) (B2 (m*n)):=by
 have lm:=A8X m
 have ln:=A8X n
 refine Ev.bind (A6d hm) (Ev.bind (A6d hn) ?_)
 have e1:wrap64 (((D0 m).length:Int)+((D0 n).length:Int))=(((D0 m).length+(D0 n).length:Nat):Int):=by rw [D1 (by omega) (by omega)];omega
 refine Ev.congr (f:=fun k=>galoisref01_Mul.l0 k (D0 m) (D0 n) (List.replicate ((D0 m).length+(D0 n).length) 0) ((0:Nat):Int)) (fun k=>?_) (F6O (D0 m) (D0 n) (U2 m) (U2 n) (by omega) (by omega) (m*n) (by rw [W3,W3,Int.natCast_mul]) (D0 m).length 0 _ (Nat.zero_add _) ⟨by simp,A4G (by decide) _,?_,fun j _=>A5B _ _⟩)
 ·rw [e1,if_pos (Int.natCast_nonneg _),Int.toNat_natCast,if_pos (by omega)]
  rfl
 ·rw [A8x]
  simp [vB]
theorem F5Y:(⟨#[]⟩:ByteArray).toList=([]:List UInt8):=A3u.2 rfl
def d10 (n:Nat):List Int:=U9 8 n
def txt (D:List Int):List Int:=D.map (fun x=>48+x)
def dec (n:Nat):ByteArray:=if n=0 then⟨#[48]⟩else strOfNums (txt (d10 n)).reverse
def C4l (s:ByteArray) (i:Nat):Prop:=48≤bt s (i:Int)∧bt s (i:Int)≤57
instance (s:ByteArray) (i:Nat):Decidable (C4l s i):=by unfold C4l;infer_instance
def dv (s:ByteArray):Nat→Nat
 |0=>0
 |i+1=>dv s i*10+(bt s (i:Int)-48).toNat
def D5C (s:ByteArray):Prop:=∀i:Nat,i<s.size→C4l s i
instance (s:ByteArray):Decidable (D5C s):=by unfold D5C;infer_instance
def D1F (s:ByteArray):Prop:=s.size=0∨(1<s.size∧bt s 0=48)
instance (s:ByteArray):Decidable (D1F s):=by unfold D1F;infer_instance
theorem C6V {x y:List Int} (h:x.length=y.length) (h2:∀p:Nat,p<x.length→rd x (p:Int)=rd y (p:Int)):x=y:=by
 refine List.ext_getElem h (fun p p1 p2=>?_)
 have:=h2 p p1
 rwa [A0l x p p1,A0l y p p2]at this
theorem D7i {u:Nat} (hu:u<18446744073709551616):Ev (fun k=>galoisref01_Of.f k (u:Int)) (B2 u):=by
 have a1:=B7j (x:=(u:Int)) (by omega) (by omega)
 have hd:B7 A7 [(u:Int)%A7,(u:Int)/4294967296]:=A1P.2 ⟨⟨Int.emod_nonneg _ (by decide),Int.emod_lt_of_pos _ (by decide)⟩,A1P.2 ⟨⟨by omega,by show _<(4294967296:Int);omega⟩,A4M _⟩⟩
 have p:=A9V hd (by simp)
 have hv:vB A7 [(u:Int)%A7,(u:Int)/4294967296]=u:=by
  show(u:Int)%4294967296+4294967296*((u:Int)/4294967296+4294967296*0)=u
  omega
 rw [hv,Int.toNat_natCast]at p
 refine Ev.congr (f:=fun k=>(galoisref01_pack.f k [(u:Int)%A7,(u:Int)/4294967296]).bind fun t=>some t) (fun k=>?_) (Ev.bind p (Ev.now _))
 unfold galoisref01_Of.f
 rw [a1]
theorem D5b {x y:List Int} (hx:B7 A7 x) (hy:B7 A7 y) {i:Nat} (hi:i<x.length) (hi':i<y.length) (hd:vB A7 (x.drop (i+1))=vB A7 (y.drop (i+1))) (h:rd x (i:Int)<rd y (i:Int)):vB A7 x<vB A7 y:=by
 have hB:(0:Int)<A7:=by decide
 have hsx:=m9 A7 x (i+1) (by omega)
 have hsy:=m9 A7 y (i+1) (by omega)
 rw [O8]at hsx hsy
 have ax:=P2 hB (O2 hx i)
 rw [List.length_take,Nat.min_eq_left (by omega)]at ax
 have bb:=I6 (Int.le_of_lt hB) (O2 hy i)
 rw [hd]at hsx
 have hP:(0:Int)<A7^i:=Int.pow_pos hB
 rw [hsx,hsy]
 generalize vB A7 (x.take i)=X at*
 generalize vB A7 (y.take i)=Y at*
 generalize A7^(i+1)*vB A7 (y.drop (i+1))=Z at*
 generalize(A7:Int)^i=P at*
 generalize rd x (i:Int)=a at*
 generalize rd y (i:Int)=b at*
 have h1:=Int.mul_le_mul_of_nonneg_left (show a+1≤b by omega) (Int.le_of_lt hP)
 rw [Int.mul_add,Int.mul_one]at h1
 clear hsx hsy hd
 omega
theorem D9L (x y:List Int) (hx:B7 A7 x) (hy:B7 A7 y) (hl:x.length=y.length) (hs:x.length<9223372036854775808) {m n:Nat} (hm:vB A7 x=m) (hn:vB A7 y=n):∀i:Nat,i≤x.length→vB A7 (x.drop i)=vB A7 (y.drop i)→Ev (fun k=>galoisref01_below.l0 k x y ((i:Int)-1)) (decide (m<n)):=by
 intro i
 induction i with
 |zero=>
  intro _ hd
  rw [List.drop_zero,List.drop_zero,hm,hn]at hd
  have e:¬m<n:=by omega
  rw [decide_eq_false e]
  refine Ev.step (f:=fun _=>some false) (fun k=>?_) (Ev.now _)
  simp only [galoisref01_below.l0]
  rw [if_neg (by decide)]
 |succ i ih=>
  intro hi hd
  have e0:((i+1:Nat):Int)-1=(i:Int):=by omega
  have e1:wrap64 ((i:Int)-1)=(i:Int)-1:=D1 (by omega) (by omega)
  have c1:(i:Int)≥0:=by omega
  have c2:(i:Int)<(x.length:Int):=by omega
  have c3:(i:Int)<(y.length:Int):=by omega
  rw [e0]
  by_cases he:rd x (i:Int)=rd y (i:Int)
  ·refine Ev.step (f:=fun k=>galoisref01_below.l0 k x y ((i:Int)-1)) (fun k=>?_) (ih (by omega) ?_)
   ·simp only [galoisref01_below.l0,e1]
    rw [if_pos c1,if_pos c1,if_pos c2,if_pos c3,if_pos he]
   ·rw [v9 A7 x i (by omega),v9 A7 y i (by omega),hd,he]
  ·have hdec:decide (rd x (i:Int)<rd y (i:Int))=decide (m<n):=by
    by_cases hab:rd x (i:Int)<rd y (i:Int)
    ·have h1:=D5b hx hy (by omega) (by omega) hd hab
     rw [decide_eq_true hab,decide_eq_true (by rw [hm,hn]at h1;omega)]
    ·have h1:=D5b hy hx (by omega) (by omega) hd.symm (show rd y (i:Int)<rd x (i:Int)by omega)
     rw [decide_eq_false hab,decide_eq_false (by rw [hm,hn]at h1;omega)]
   refine Ev.step (f:=fun _=>some (decide (m<n))) (fun k=>?_) (Ev.now _)
   simp only [galoisref01_below.l0,e1]
   rw [if_pos c1,if_pos c1,if_pos c2,if_pos c3,if_neg he,hdec]
theorem F1S {l:List Int} {n R:Nat} (hd:B7 A7 l) (hl:l.length<9223372036854775808) (hR:vB A7 l=R) (hn:(D0 n).length<9223372036854775808):Ev (fun k=>galoisref01_below.f k l (D0 n)) (decide (R<n)):=by
 have ht:=E7U hl hd
 rw [hR,Int.toNat_natCast]at ht
 have hRl:(D0 R).length<9223372036854775808:=by
  have:(D0 R).length≤l.length:=A6p (by
   have h1:=P2 (show(0:Int)<A7 by decide) hd
   rw [hR]at h1
   have h2:((R:Nat):Int)<((4294967294+2:Nat):Int)^l.length:=h1
   rw [←Int.natCast_pow]at h2
   exact Int.ofNat_lt.1 h2)
  omega
 refine Ev.bind ht ?_
 by_cases h1:(D0 R).length=(D0 n).length
 ·have:=D9L (D0 R) (D0 n) (U2 R) (U2 n) h1 hRl (W3 R) (W3 n) (D0 R).length (Nat.le_refl _) (by
   rw [List.drop_of_length_le (Nat.le_refl _),List.drop_of_length_le (by omega)])
  refine Ev.congr (fun k=>?_) this
  rw [if_pos (by omega),D1 (by omega) (by omega)]
 ·have hdec:decide (((D0 R).length:Int)<((D0 n).length:Int))=decide (R<n):=by
   by_cases h2:(D0 R).length<(D0 n).length
   ·have h3:=A8w (by decide) (U2 R) (U2 n) (B9l n) h2
    rw [W3,W3]at h3
    rw [decide_eq_true (by omega),decide_eq_true (by omega)]
   ·have h3:=A8w (by decide) (U2 n) (U2 R) (B9l R) (by omega)
    rw [W3,W3]at h3
    rw [decide_eq_false (by omega),decide_eq_false (by omega)]
  refine Ev.congr (f:=fun _=>some (decide (R<n))) (fun k=>?_) (Ev.now _)
  rw [if_neg (by omega),hdec]
def RSm (u y z:List Int) (g:Int) (K i:Nat) (c:Int):Prop:=
 z.length=u.length∧B7 A7 z∧(0≤c∧c<A7)∧z.take K=u.take K∧z.drop (K+i)=u.drop (K+i)∧vB A7 z+A7^K*(g*vB A7 (y.take i))=vB A7 u+A7^(K+i)*c
theorem C4C {l:List Int} {K j:Nat} (h:K≤j) (x:Int):(l.set j x).take K=l.take K:=List.take_set_of_le h
theorem E7V {z y g c:Int} (z0:0≤z) (z1:z<A7) (y0:0≤y) (y1:y<A7) (g0:0≤g) (g1:g<A7) (c0:0≤c) (c1:c<A7):
  IntKind.u64.wrap (IntKind.u64.wrap (y*g)+c)=y*g+c∧Go.bits .and .u64 (y*g+c) 4294967295=(y*g+c)%A7∧0≤(y*g+c)/A7∧(y*g+c)/A7<A7∧0≤(y*g+c)%A7∧(y*g+c)%A7<A7∧(z<(y*g+c)%A7→(y*g+c)/A7+1<A7):=by
 have z1':z<4294967296:=z1
 have y1':y<4294967296:=y1
 have g1':g<4294967296:=g1
 have c1':c<4294967296:=c1
 have hp:=A2d y0 (show y≤4294967295 by omega) g0 (show g≤4294967295 by omega)
 have h1:(4294967295:Int)*4294967295=18446744065119617025:=rfl
 rw [h1]at hp
 rw [B7j (x:=y*g+c) (by omega) (by omega)]
 show IntKind.u64.wrap (IntKind.u64.wrap (y*g)+c)=y*g+c∧(y*g+c)%4294967296=(y*g+c)%4294967296∧0≤(y*g+c)/4294967296∧(y*g+c)/4294967296<4294967296∧0≤(y*g+c)%4294967296∧(y*g+c)%4294967296<4294967296∧(z<(y*g+c)%4294967296→(y*g+c)/4294967296+1<4294967296)
 generalize y*g=p at*
 clear y0 y1 y1' g0 g1 g1' z1 c1 h1
 rw [u64 (x:=p) (by omega) (by omega),u64 (x:=p+c) (by omega) (by omega)]
 omega
theorem D1w {u y z:List Int} {g c d e:Int} {K i:Nat} (hj:K+i<z.length) (h:RSm u y z g K i c) (d0:0≤d) (d1:d<A7) (he:0≤(rd y (i:Int)*g+c)/A7+e) (he1:(rd y (i:Int)*g+c)/A7+e<A7)
  (hd:d=rd z ((K+i:Nat):Int)-(rd y (i:Int)*g+c)%A7+A7*e):RSm u y (z.set (K+i) d) g K (i+1) ((rd y (i:Int)*g+c)/A7+e):=by
 obtain⟨hl,hdg,hc,ht,hdr,hv⟩:=h
 refine⟨by rw [List.length_set];exact hl,S8 hdg _ d0 d1,⟨he,he1⟩,by rw [C4C (by omega)];exact ht,?_,?_⟩
 ·rw [←Nat.add_assoc,C4R,←List.drop_drop,hdr,List.drop_drop]
 ·rw [X4 _ _ _ _ hj,O8,←Nat.add_assoc,Int.pow_succ,hd]
  have em:=Int.emod_add_mul_ediv (rd y (i:Int)*g+c) A7
  generalize(rd y (i:Int)*g+c)/A7=q at*
  generalize(rd y (i:Int)*g+c)%A7=r at*
  have er:rd z ((K+i:Nat):Int)-r+A7*e-rd z ((K+i:Nat):Int)=A7*(q+e)-rd y (i:Int)*g-c:=by
   rw [Int.mul_add]
   clear hv
   omega
  have ep:(A7:Int)^(K+i)=A7^K*A7^i:=Int.pow_add _ _ _
  rw [er,Int.mul_sub,Int.mul_sub,Int.mul_assoc (A7^(K+i)) A7]
  have e3:A7^K*(g*(vB A7 (y.take i)+A7^i*rd y (i:Int)))=A7^K*(g*vB A7 (y.take i))+A7^(K+i)*(rd y (i:Int)*g):=by
   rw [ep,Int.mul_add g,Int.mul_add (A7^K),Int.mul_left_comm g (A7^i),←Int.mul_assoc (A7^K) (A7^i),Int.mul_comm g (rd y _)]
  rw [e3]
  generalize A7^(K+i)*(A7*(q+e))=A1 at*
  generalize A7^(K+i)*(rd y (i:Int)*g)=A2 at*
  generalize A7^(K+i)*c=A3 at*
  generalize A7^K*(g*vB A7 (y.take i))=A4 at*
  clear ep er em
  omega
end Go.Proofs.YtijohnkgomcdbaaGreatN
