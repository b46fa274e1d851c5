/- Part of the proof of the statement IntegerPowers: lemmas on the model's steps, Lean functions that say what the program's functions compute, and proofs that the calls do just that. No hypothesis is added. -/
import Derived.Test.YtdhdfcjpeflinaaKIntegerPowers3
set_option linter.all false
set_option linter.unusedVariables false
set_option linter.unusedSimpArgs false
set_option maxRecDepth 100000
namespace Go.Proofs.YtdhdfcjpeflinaaV
open Go Go.RowKit Go.Proofs.Ytdhdfcjpeflinaa Go.Proofs.YtdhdfcjpeflinaaE Go.Proofs.YtdhdfcjpeflinaaW.PrintWords Go.Proofs.YtdhdfcjpeflinaaW.PrintLast Go.Proofs.YtdhdfcjpeflinaaW.PrintMore
theorem b70 (k : Nat) (x0 : ByteArray) (x1 : Int) (x2 : Int) : LeO (FX70 k x0 x1 x2) (B70 (GX70l0 k) (FX63 k) x0 x1 x2) := by
 show LeO (All.galoisref01_PowWithin.f k x0 x1 x2) _
 unfold All.galoisref01_PowWithin.f
 unfold B70
 (try simp only [GX70l0, FX63, FX83, All.integer_zero.f, All.exact_stepAt.f, All.S24.f0, All.S24.f1, All.rd_T24, All.z24])
 (try simp only [List.take_append_drop, List.drop_length, List.append_nil, Int.zero_sub, Int.toNat_natCast, Int.reduceToNat, Int.zero_add, List.take_zero, List.nil_append, List.append_assoc, List.length_set, ite_bind_, List.take_left, BAe, bne, decide_int_eq, decide_not, wrap_mod, if_true, if_false, Bool.false_eq_true, bind_assoc_, slice_def, List.drop_zero, List.take_length, wrap_u8, bind_some_, cnd_eq_if, rdOf, ite_not, Bool.and_eq_true, Bool.or_eq_true, Bool.not_eq_true', bfalse, Bool.not_eq_false', beq_iff_eq, decide_eq_true_eq, isEmpty_eq, ite_and_, ite_or_, ne_eq, toList_mk, List.toList_toArray])
 repeat' first
 | (with_reducible refine LeO.trans ((All.galoisref01_PowWithin.mono_l k).2 _ _ _ _ _ _) ?_; rw [All.galoisref01_PowWithin.j1]; (try simp only [if_true, if_false, decide_eq_true_eq, Bool.false_eq_true, decide_not, ite_not, bne, decide_int_eq, beq_iff_eq, Bool.not_eq_true', bfalse, toList_mk, List.toList_toArray, ite_and_, ite_or_, Bool.and_eq_true, Bool.or_eq_true, isEmpty_eq, wrap_mod, wrap_u8, All.integer_zero.f, bind_some_, Int.toNat_natCast, Int.reduceToNat, Int.zero_sub, BAe]))
 | (with_reducible exact LeO.none _)
 | (with_reducible exact LeO.refl _)
 | (with_reducible refine LeO.posR (by with_reducible assumption) ?_)
 | (with_reducible refine LeO.negR (by with_reducible assumption) ?_)
 | (with_reducible refine LeO.bindR (by with_reducible assumption) ?_)
 | (with_reducible refine LeO.posL (by with_reducible assumption) ?_)
 | (with_reducible refine LeO.negL (by with_reducible assumption) ?_)
 | (with_reducible refine LeO.iteL (fun _ => ?_) (fun _ => ?_))
 | (with_reducible refine LeO.bindK (by with_reducible assumption) ?_)
 | (with_reducible refine LeO.bindL (fun _ _ => ?_))
 | (refine LeO.posR (by first | decide | exact Int.le_refl _ | omega | assumption) ?_)
 | (refine LeO.negR (by first | decide | omega) ?_)
theorem ok70 (k : Nat) : FeOk Go.Proofs.Try.prog (fe70 (FX70 k)) :=
 fe_ok EOK HM (es := fun k => fes70 (FX63 k) (FX83 k)) (fun k => List.forall_mem_cons.2 ⟨ok63 k, List.forall_mem_cons.2 ⟨ok83 k, List.forall_mem_nil _⟩⟩) (N := 34) (an := an70) (c := cd70) (f := 70) (fn := Go.Proofs.Try.f70) (rms := rm70) (ask := ask70) (rsk := rsk70) (enc := enc70) (dec := dec70) (tbl := [p70.getD 0 ⟨0, [], .skip⟩]) (fun s => rfl) Go.Proofs.Try.func70 (by kernel_rfl) (by kernel_rfl) (by kernel_rfl) (fun k => les70 (GX70l0 k))
  (List.forall_mem_cons.2 ⟨fun s => rfl, List.forall_mem_nil _⟩) (fun k s0 => .cons (by kernel_rfl) (by kernel_rfl) (fun s r h => (e70l0 (GX70l0 k) (FX63 k) (FX83 k) s0 s).trans (b70l0 k s.1.1 s.1.2.1 s.1.2.2.1 s.1.2.2.2.1 s.1.2.2.2.2.1 r h)) (.nil))
  (F := fun k s => FX70 k s.1.1 s.1.2.1 s.1.2.2.1) (fun k s r h => (e70 (GX70l0 k) (FX63 k) (FX83 k) s).trans (b70 k s.1.1 s.1.2.1 s.1.2.2.1 r h)) k
theorem b24 (k : Nat) (x0 : (Bool × ByteArray)) (x1 : Int) (x2 : Int) : LeO (FX24 k x0 x1 x2) (B24 (FX65 k) (FX70 k) x0 x1 x2) := by
 show LeO (All.galoisref02_PowWithin.f k x0.1 x0.2 x1 x2) _
 unfold All.galoisref02_PowWithin.f; unfold B24; (try simp only [FX65, FX70, All.integer_zero.f, All.exact_stepAt.f, All.S24.f0, All.S24.f1, All.rd_T24, All.z24]); exact BR
theorem ok24 (k : Nat) : FeOk Go.Proofs.Try.prog (fe24 (FX24 k)) :=
 fe_ok EOK HM (es := fun k => fes24 (FX65 k) (FX70 k)) (fun k => List.forall_mem_cons.2 ⟨ok65 k, List.forall_mem_cons.2 ⟨ok70 k, List.forall_mem_nil _⟩⟩) (N := 28) (an := an24) (c := cd24) (f := 24) (fn := Go.Proofs.Try.f24) (rms := rm24) (ask := ask24) (rsk := rsk24) (enc := enc24) (dec := dec24) (tbl := []) (fun s => rfl) Go.Proofs.Try.func24 (by kernel_rfl) (by kernel_rfl) (by kernel_rfl) (fun k => les24)
  (List.forall_mem_nil _) (fun k s0 => .nil)
  (F := fun k s => FX24 k s.1.1 s.1.2.1 s.1.2.2.1) (fun k s r h => (e24 (FX65 k) (FX70 k) s).trans (b24 k s.1.1 s.1.2.1 s.1.2.2.1 r h)) k
end Go.Proofs.YtdhdfcjpeflinaaV
set_option linter.unusedVariables false
set_option linter.unusedSimpArgs false
set_option maxRecDepth 100000
namespace Go.Proofs.YtdhdfcjpeflinaaV
open Go Go.RowKit Go.Proofs.Ytdhdfcjpeflinaa Go.Proofs.YtdhdfcjpeflinaaE Go.Proofs.YtdhdfcjpeflinaaW.PrintWords Go.Proofs.YtdhdfcjpeflinaaW.PrintLast Go.Proofs.YtdhdfcjpeflinaaW.PrintMore
end Go.Proofs.YtdhdfcjpeflinaaV
set_option linter.unusedVariables false
set_option linter.unusedSimpArgs false
set_option maxRecDepth 100000
namespace Go.Proofs.YtdhdfcjpeflinaaV
open Go Go.RowKit Go.Proofs.Ytdhdfcjpeflinaa Go.Proofs.YtdhdfcjpeflinaaE Go.Proofs.YtdhdfcjpeflinaaW.PrintWords Go.Proofs.YtdhdfcjpeflinaaW.PrintLast Go.Proofs.YtdhdfcjpeflinaaW.PrintMore
end Go.Proofs.YtdhdfcjpeflinaaV
set_option linter.unusedVariables false
namespace Go.Proofs.YtdhdfcjpeflinaaE
open Go.RowKit
theorem calls_of_ct {P : Program} {f : Nat} {fn : Func} {c : Code} (hf : P.funcs[f]? = some fn) (hname : (fn.name == "runtime.NumGoroutine") = false) (hb : fn.body = some c) {asx : List V} {r : V} {us : Bl} (h : Ct P f asx [] r us) {vs : List Value}
  (hv : ∀ w bl φ, RepVs w bl φ asx vs) (hr : ∀ w bl φ v, RepV w bl φ r v → v = .bool true) (w : World) : Calls P f vs.toArray w fun e w' => e = .returned (.bool true) ∧ Below w.heap.size w w' := by
 have hm : Mem w (lentBo [] (fun _ => ⟨0, 0, some 0⟩)) (fun _ => .fresh) (fun _ => ⟨0, 0, some 0⟩) w :=
  ⟨fun n => trivial, (fun n m h => by obtain ⟨_, _, _, e⟩ := h; cases e), (fun n t l tl _ h => by cases h), Frame'.refl _ _⟩
 rcases h.2 w (fun _ => .fresh) (fun _ => ⟨0, 0, some 0⟩) vs (fun n _ => rfl) hm (hv _ _ _) with ⟨_, h1⟩ | ⟨v, w', h1, _⟩
 ·refine h1.mono fun e w' => ?_
  rintro ⟨v, rfl, φ', st, rv⟩
  have fr := st.mem.fr
  refine ⟨by rw [hr _ _ _ _ rv], fr.os, fr.tape, fr.output, fr.size, fun b hb => fr.block b hb fun o h => ?_⟩
  obtain ⟨n, t, l, tl, _, e, _⟩ := h
  cases e
 ·exfalso
  have e : (callFunc f vs.toArray).run P w = .ok (.enter f vs.toArray) w := by simp only [callFunc, Sem.run_bind, run_program, Result.andThen_ok, hf, hname, hb, Option.isNone_some, Bool.false_eq_true, if_false, Sem.run_pure]
  rw [e] at h1; cases h1
section
variable {w : World} {bl : Nat → Blk} {φ : Nat → Addr}
theorem rep_int {k : IntKind} {x : Int} : RepV w bl φ (.a (.v (.it k) x)) (.int k x) := ⟨[.int k x], rfl, rfl⟩
theorem rep_bs {x : Bool} {y : ByteArray} : RepV w bl φ (.a (.v (.ag (.pr .bo .st)) (x, y))) (.agg #[.bool x, .string y]) := ⟨[.bool x, .string y], ⟨[.bool x], [.string y], rfl, rfl, rfl⟩, rfl⟩
theorem rep_true {v : Value} (h : RepV w bl φ (.a (.v .bo true)) v) : v = .bool true := by
 obtain ⟨cs, h1, h2⟩ := h
 have h1 : cs = [.bool true] := h1
 subst h1
 have h2 : [Value.bool true] = [v] := h2
 cases h2; rfl
end
end Go.Proofs.YtdhdfcjpeflinaaE
namespace Go.Proofs.YtdhdfcjpeflinaaN
open Go Go.RowKit Go.Proofs.Ytdhdfcjpeflinaa.All Go.Proofs.YtdhdfcjpeflinaaW.PrintWords Go.Proofs.YtdhdfcjpeflinaaW.PrintLast Go.Proofs.YtdhdfcjpeflinaaW.PrintMore
theorem awake_at : galoislaw02_awake.f 70 = some true := by kernel_rfl
theorem awake_ev : Ev (fun k => galoislaw02_awake.f k) true := Ev.of (fun k => galoislaw02_awake.mono k) awake_at
end Go.Proofs.YtdhdfcjpeflinaaN
set_option linter.unusedVariables false
set_option linter.unusedSimpArgs false
set_option maxRecDepth 100000
namespace Go.Proofs.YtdhdfcjpeflinaaV
open Go Go.RowKit Go.Proofs.Ytdhdfcjpeflinaa Go.Proofs.YtdhdfcjpeflinaaE Go.Proofs.YtdhdfcjpeflinaaW.PrintWords Go.Proofs.YtdhdfcjpeflinaaW.PrintLast Go.Proofs.YtdhdfcjpeflinaaW.PrintMore
@[reducible] noncomputable def FX4 (k : Nat) (x0 : (Bool × ByteArray)) (x1 : Int) : Option R4 := B4 (FX12 k) (FX17 k) (FX19 k) (FX23 k) (FX24 k) x0 x1
theorem b4 (k : Nat) (x0 : (Bool × ByteArray)) (x1 : Int) : LeO (FX4 k x0 x1) (B4 (FX12 k) (FX17 k) (FX19 k) (FX23 k) (FX24 k) x0 x1) := by exact LeO.refl _
theorem ok4 (k : Nat) : FeOk Go.Proofs.Try.prog (fe4 (FX4 k)) :=
 fe_ok EOK HM (es := fun k => fes4 (FX12 k) (FX17 k) (FX19 k) (FX23 k) (FX24 k)) (fun k => List.forall_mem_cons.2 ⟨ok12 k, List.forall_mem_cons.2 ⟨ok17 k, List.forall_mem_cons.2 ⟨ok19 k, List.forall_mem_cons.2 ⟨ok23 k, List.forall_mem_cons.2 ⟨ok24 k, List.forall_mem_nil _⟩⟩⟩⟩⟩) (N := 60) (an := an4) (c := cd4) (f := 4) (fn := Go.Proofs.Try.f4) (rms := rm4) (ask := ask4) (rsk := rsk4) (enc := enc4) (dec := dec4) (tbl := []) (fun s => rfl) Go.Proofs.Try.func4 (by kernel_rfl) (by kernel_rfl) (by kernel_rfl) (fun k => les4)
  (List.forall_mem_nil _) (fun k s0 => .nil)
  (F := fun k s => FX4 k s.1.1 s.1.2.1) (fun k s r h => (e4 (FX12 k) (FX17 k) (FX19 k) (FX23 k) (FX24 k) s).trans (b4 k s.1.1 s.1.2.1 r h)) k
theorem calls4 (a0 : Bool) (a1 : ByteArray) (p : Int) (h : ∃ k, FX4 k (a0, a1) p = some true) (w : World) :
  Calls Go.Proofs.Try.prog 4 #[.agg #[.bool a0, .string a1], .int .i64 p] w fun e w' => e = .returned (.bool true) ∧ Below w.heap.size w w' := by
 obtain ⟨k, hk⟩ := h
 have hc := ok4 k (((a0, a1), (p, ())), ()) true hk (.a (.v .bo true)) rfl
 exact calls_of_ct (vs := [.agg #[.bool a0, .string a1], .int .i64 p]) Go.Proofs.Try.func4 (by kernel_rfl) (c := cd4) (by kernel_rfl) hc (fun w bl φ => .cons rep_bs (.cons rep_int (.nil))) (fun w bl φ v h => rep_true h) w
end Go.Proofs.YtdhdfcjpeflinaaV
set_option linter.unusedVariables false
namespace Go.Proofs.YtdhdfcjpeflinaaN
open Go.Proofs.YtdhdfcjpeflinaaW.PrintWords
def vB (B : Int) : List Int → Int
 | [] => 0
 | x :: xs => x + B * vB B xs
def Dig (B : Int) (l : List Int) : Prop := ∀ x, x ∈ l → 0 ≤ x ∧ x < B
def Trim (l : List Int) : Prop := 0 < l.length → rd l (l.length - 1 : Nat) ≠ 0
theorem vB_cons (B x : Int) (xs : List Int) : vB B (x :: xs) = x + B * vB B xs := rfl
theorem Dig_nil (B : Int) : Dig B [] := fun _ h => absurd h (List.not_mem_nil)
theorem Dig_cons {B x : Int} {xs : List Int} : Dig B (x :: xs) ↔ (0 ≤ x ∧ x < B) ∧ Dig B xs := by
 constructor
 ·intro h
  exact ⟨h x (List.mem_cons_self), fun y hy => h y (List.mem_cons_of_mem _ hy)⟩
 ·rintro ⟨h1, h2⟩ y hy
  rcases List.mem_cons.1 hy with rfl | hy
  ·exact h1
  ·exact h2 y hy
theorem Dig_append {B : Int} {xs ys : List Int} (hx : Dig B xs) (hy : Dig B ys) : Dig B (xs ++ ys) := by
 intro z hz
 rcases List.mem_append.1 hz with h | h
 ·exact hx z h
 ·exact hy z h
theorem Dig_take {B : Int} {xs : List Int} (h : Dig B xs) (n : Nat) : Dig B (xs.take n) := fun z hz => h z (List.mem_of_mem_take hz)
theorem Dig_drop {B : Int} {xs : List Int} (h : Dig B xs) (n : Nat) : Dig B (xs.drop n) := fun z hz => h z (List.mem_of_mem_drop hz)
theorem Dig_set {B : Int} {xs : List Int} (h : Dig B xs) (n : Nat) {v : Int} (h0 : 0 ≤ v) (h1 : v < B) : Dig B (xs.set n v) := by
 intro z hz
 rcases List.mem_or_eq_of_mem_set hz with hz | rfl
 ·exact h z hz
 ·exact ⟨h0, h1⟩
theorem Dig_replicate {B : Int} (hB : 0 < B) (n : Nat) : Dig B (List.replicate n 0) := by
 intro z hz
 rw [List.eq_of_mem_replicate hz]
 exact ⟨Int.le_refl _, hB⟩
theorem Dig_reverse {B : Int} {xs : List Int} (h : Dig B xs) : Dig B xs.reverse := fun z hz => h z (List.mem_reverse.1 hz)
theorem rd_nat (xs : List Int) (n : Nat) : rd xs (n : Int) = xs.getD n 0 := by simp [rd]
theorem rd_get (xs : List Int) (n : Nat) (h : n < xs.length) : rd xs (n : Int) = xs[n] := by
 rw [rd_nat, List.getD_eq_getElem?_getD, List.getElem?_eq_getElem h]
 rfl
theorem Dig_rd {B : Int} {xs : List Int} (h : Dig B xs) (n : Nat) (hn : n < xs.length) : 0 ≤ rd xs (n : Int) ∧ rd xs (n : Int) < B := by
 rw [rd_get xs n hn]
 exact h _ (List.getElem_mem hn)
theorem vB_append (B : Int) (xs ys : List Int) : vB B (xs ++ ys) = vB B xs + B ^ xs.length * vB B ys := by
 induction xs with
 | nil => simp [vB]
 | cons x xs ih =>
  rw [List.cons_append, vB_cons, ih, vB_cons, List.length_cons, Int.pow_succ, Int.mul_add, ← Int.add_assoc, ← Int.mul_assoc, Int.mul_comm B (B ^ xs.length)]
theorem vB_replicate (B : Int) (n : Nat) : vB B (List.replicate n 0) = 0 := by
 induction n with
 | zero => rfl
 | succ n ih => rw [List.replicate_succ, vB_cons, ih]; simp
theorem vB_nonneg {B : Int} (hB : 0 ≤ B) {l : List Int} (h : Dig B l) : 0 ≤ vB B l := by
 induction l with
 | nil => exact Int.le_refl _
 | cons x xs ih =>
  have := Dig_cons.1 h
  rw [vB_cons]
  exact Int.add_nonneg this.1.1 (Int.mul_nonneg hB (ih this.2))
theorem vB_lt {B : Int} (hB : 0 < B) {l : List Int} (h : Dig B l) : vB B l < B ^ l.length := by
 induction l with
 | nil => simp [vB]
 | cons x xs ih =>
  have hd := Dig_cons.1 h
  have h1 := ih hd.2
  rw [vB_cons, List.length_cons, Int.pow_succ, Int.mul_comm (B ^ xs.length) B]
  have h2 : B * (vB B xs + 1) ≤ B * B ^ xs.length := Int.mul_le_mul_of_nonneg_left (by omega) (by omega)
  rw [Int.mul_add, Int.mul_one] at h2
  omega
theorem vB_split (B : Int) (l : List Int) (n : Nat) (h : n ≤ l.length) : vB B l = vB B (l.take n) + B ^ n * vB B (l.drop n) := by
 conv => lhs; rw [← List.take_append_drop n l]
 rw [vB_append, List.length_take, Nat.min_eq_left h]
theorem vB_take_succ (B : Int) (l : List Int) (n : Nat) (h : n < l.length) : vB B (l.take (n + 1)) = vB B (l.take n) + B ^ n * rd l (n : Int) := by
 rw [List.take_succ_eq_append_getElem h, vB_append, List.length_take, Nat.min_eq_left (by omega), rd_get l n h]
 simp [vB]
theorem vB_set (B : Int) (l : List Int) (n : Nat) (v : Int) (h : n < l.length) : vB B (l.set n v) = vB B l + B ^ n * (v - rd l (n : Int)) := by
 induction l generalizing n with
 | nil => simp at h
 | cons x xs ih =>
  cases n with
  | zero => simp [vB, rd]; omega
  | succ n =>
   have h' : n < xs.length := by simpa using h
   rw [List.set_cons_succ, vB_cons, ih n h', vB_cons]
   have : rd (x :: xs) ((n + 1 : Nat) : Int) = rd xs (n : Int) := by rw [rd_nat, rd_nat]; simp
   rw [this, Int.pow_succ, Int.mul_add, ← Int.add_assoc, ← Int.mul_assoc, Int.mul_comm B (B ^ n)]
theorem rd_set_self (l : List Int) (n : Nat) (v : Int) (h : n < l.length) : rd (l.set n v) (n : Int) = v := by
 rw [rd_get _ n (by simpa using h), List.getElem_set_self]
theorem rd_set_ne (l : List Int) (n m : Nat) (v : Int) (h : n ≠ m) : rd (l.set n v) (m : Int) = rd l (m : Int) := by
 rw [rd_nat, rd_nat, List.getD_eq_getElem?_getD, List.getD_eq_getElem?_getD, List.getElem?_set_ne h]
theorem rd_take (xs : List Int) (n m : Nat) (h : m < n) : rd (xs.take n) (m : Int) = rd xs (m : Int) := by
 rw [rd_nat, rd_nat, List.getD_eq_getElem?_getD, List.getD_eq_getElem?_getD, List.getElem?_take_of_lt h]
theorem rd_drop (xs : List Int) (n m : Nat) : rd (xs.drop n) (m : Int) = rd xs ((n + m : Nat) : Int) := by
 rw [rd_nat, rd_nat, List.getD_eq_getElem?_getD, List.getD_eq_getElem?_getD, List.getElem?_drop]
theorem rd_replicate (n m : Nat) : rd (List.replicate n 0) (m : Int) = 0 := by
 rw [rd_nat, List.getD_eq_getElem?_getD, List.getElem?_replicate]
 split <;> rfl
theorem dig_inj {B : Int} (hB : 0 < B) : ∀ {l m : List Int}, Dig B l → Dig B m → l.length = m.length → vB B l = vB B m → l = m
 | [], [], _, _, _, _ => rfl
 | [], y :: ys, _, _, h, _ => by simp at h
 | x :: xs, [], _, _, h, _ => by simp at h
 | x :: xs, y :: ys, hl, hm, h, hv => by
  have h1 := Dig_cons.1 hl
  have h2 := Dig_cons.1 hm
  rw [vB_cons, vB_cons] at hv
  have hx : x = y := by
   have e1 : (x + B * vB B xs) % B = x := by rw [Int.add_mul_emod_self_left, Int.emod_eq_of_lt h1.1.1 h1.1.2]
   have e2 : (y + B * vB B ys) % B = y := by rw [Int.add_mul_emod_self_left, Int.emod_eq_of_lt h2.1.1 h2.1.2]
   rw [← e1, ← e2, hv]
  subst hx
  have hv' : B * vB B xs = B * vB B ys := by omega
  have := Int.eq_of_mul_eq_mul_left (by omega) hv'
  rw [dig_inj hB h1.2 h2.2 (by simpa using h) this]
theorem trim_le {B : Int} (hB : 0 < B) {l : List Int} (h : Dig B l) (ht : Trim l) (hp : 0 < l.length) : B ^ (l.length - 1) ≤ vB B l := by
 have e : l.take (l.length - 1 + 1) = l := List.take_of_length_le (by omega)
 have h1 := vB_take_succ B l (l.length - 1) (by omega)
 rw [e] at h1
 rw [h1]
 have h2 := vB_nonneg (Int.le_of_lt hB) (Dig_take h (l.length - 1))
 have h3 := (Dig_rd h (l.length - 1) (by omega)).1
 have h4 : 1 ≤ rd l ((l.length - 1 : Nat) : Int) := by have := ht hp; omega
 have h5 : B ^ (l.length - 1) * 1 ≤ B ^ (l.length - 1) * rd l ((l.length - 1 : Nat) : Int) := Int.mul_le_mul_of_nonneg_left h4 (Int.le_of_lt (Int.pow_pos hB))
 rw [Int.mul_one] at h5
 omega
theorem pow_le_pow {B : Int} (hB : 0 < B) {m n : Nat} (h : m ≤ n) : B ^ m ≤ B ^ n := by
 obtain ⟨j, rfl⟩ : ∃ j, n = m + j := ⟨n - m, by omega⟩
 rw [Int.pow_add]
 have h1 : 1 ≤ B ^ j := by have : 0 < B ^ j := Int.pow_pos hB; omega
 have h2 : B ^ m * 1 ≤ B ^ m * B ^ j := Int.mul_le_mul_of_nonneg_left h1 (Int.le_of_lt (Int.pow_pos hB))
 rwa [Int.mul_one] at h2
theorem trim_len {B : Int} (hB : 0 < B) {l m : List Int} (hl : Dig B l) (hm : Dig B m) (ht : Trim m) (h : l.length < m.length) : vB B l < vB B m := by
 have h1 := vB_lt hB hl
 have h2 := trim_le hB hm ht (by omega)
 have h3 := pow_le_pow hB (show l.length ≤ m.length - 1 by omega)
 omega
theorem trim_inj {B : Int} (hB : 0 < B) {l m : List Int} (hl : Dig B l) (hm : Dig B m) (tl : Trim l) (tm : Trim m) (hv : vB B l = vB B m) : l = m := by
 rcases Nat.lt_trichotomy l.length m.length with h | h | h
 ·have := trim_len hB hl hm tm h; omega
 ·exact dig_inj hB hl hm h hv
 ·have := trim_len hB hm hl tl h; omega
def dgs (b : Nat) (n : Nat) : List Int :=
 if h : n = 0 then [] else ((n % (b + 2) : Nat) : Int) :: dgs b (n / (b + 2))
termination_by n
decreasing_by exact Nat.div_lt_self (by omega) (by omega)
theorem dgs_zero (b : Nat) : dgs b 0 = [] := by rw [dgs]; simp
theorem dgs_pos (b n : Nat) (h : n ≠ 0) : dgs b n = ((n % (b + 2) : Nat) : Int) :: dgs b (n / (b + 2)) := by rw [dgs]; simp [h]
theorem dgs_spec (b : Nat) : ∀ n, Dig (b + 2 : Nat) (dgs b n) ∧ Trim (dgs b n) ∧ vB (b + 2 : Nat) (dgs b n) = n := by
 intro n
 induction n using Nat.strongRecOn with
 | _ n ih =>
  by_cases h : n = 0
  ·subst h
   rw [dgs_zero]
   exact ⟨Dig_nil _, fun h => absurd h (by simp), rfl⟩
  ·obtain ⟨h1, h2, h3⟩ := ih (n / (b + 2)) (Nat.div_lt_self (by omega) (by omega))
   rw [dgs_pos b n h]
   have hm := Nat.mod_lt n (show 0 < b + 2 by omega)
   have hd := Nat.div_add_mod n (b + 2)
   refine ⟨Dig_cons.2 ⟨⟨by omega, by omega⟩, h1⟩, ?_, ?_⟩
   ·intro _
    by_cases hz : n / (b + 2) = 0
    ·rw [hz, dgs_zero]
     show rd [((n % (b + 2) : Nat) : Int)] ((0 : Nat) : Int) ≠ 0
     rw [hz] at hd
     have : ((n % (b + 2) : Nat) : Int) ≠ 0 := by omega
     simpa [rd] using this
    ·have hl : 0 < (dgs b (n / (b + 2))).length := by rw [dgs_pos _ _ hz]; simp
     have := h2 hl
     rw [List.length_cons, Nat.add_sub_cancel]
     obtain ⟨q, hq⟩ : ∃ q, (dgs b (n / (b + 2))).length = q + 1 := ⟨(dgs b (n / (b + 2))).length - 1, by omega⟩
     rw [hq] at this ⊢
     rw [rd_nat] at this ⊢
     simpa using this
   ·rw [vB_cons, h3]
    have : ((b + 2 : Nat) : Int) * ((n / (b + 2) : Nat) : Int) + ((n % (b + 2) : Nat) : Int) = n := by exact_mod_cast hd
    omega
theorem dgs_unique {b : Nat} {l : List Int} {n : Nat} (hl : Dig (b + 2 : Nat) l) (ht : Trim l) (hv : vB (b + 2 : Nat) l = n) : l = dgs b n := by
 obtain ⟨h1, h2, h3⟩ := dgs_spec b n
 exact trim_inj (by omega) hl h1 ht h2 (by rw [hv, h3])
theorem dgs_len {b n k : Nat} (h : n < (b + 2) ^ k) : (dgs b n).length ≤ k := by
 obtain ⟨h1, h2, h3⟩ := dgs_spec b n
 rcases Nat.lt_or_ge k (dgs b n).length with hk | hk
 ·have h4 := trim_le (by omega) h1 h2 (by omega)
  rw [h3] at h4
  have h5 := pow_le_pow (B := ((b + 2 : Nat) : Int)) (by omega) (show k ≤ (dgs b n).length - 1 by omega)
  have h6 : ((n : Nat) : Int) < ((b + 2 : Nat) : Int) ^ k := by exact_mod_cast h
  omega
 ·exact hk
theorem dgs_lt (b n : Nat) : n < (b + 2) ^ (dgs b n).length := by
 obtain ⟨h1, h2, h3⟩ := dgs_spec b n
 have := vB_lt (by omega) h1
 rw [h3] at this
 exact_mod_cast this
end Go.Proofs.YtdhdfcjpeflinaaN
set_option linter.unusedVariables false
namespace Go.Proofs.YtdhdfcjpeflinaaN
open Go.RowKit Go.Proofs.Ytdhdfcjpeflinaa.All Go.Proofs.YtdhdfcjpeflinaaW.PrintWords Go.Proofs.YtdhdfcjpeflinaaW.PrintLast Go.Proofs.YtdhdfcjpeflinaaW.PrintMore
theorem w64 {x : Int} (h0 : -9223372036854775808 ≤ x) (h1 : x < 9223372036854775808) : wrap64 x = x := by unfold wrap64; omega
theorem u64 {x : Int} (h0 : 0 ≤ x) (h1 : x < 18446744073709551616) : IntKind.u64.wrap x = x := by
 simp [IntKind.wrap, IntKind.bits, IntKind.signed]
 omega
theorem u64_mod (x : Int) : IntKind.u64.wrap x = x % 18446744073709551616 := by simp [IntKind.wrap, IntKind.bits, IntKind.signed]
abbrev B64 : Int := 18446744073709551616
def d64 (n : Nat) : List Int := dgs 18446744073709551614 n
theorem d64_dig (n : Nat) : Dig B64 (d64 n) := (dgs_spec 18446744073709551614 n).1
theorem d64_val (n : Nat) : vB B64 (d64 n) = n := (dgs_spec 18446744073709551614 n).2.2
theorem d64_unique {l : List Int} {n : Nat} (hl : Dig B64 l) (ht : Trim l) (hv : vB B64 l = n) : l = d64 n := dgs_unique hl ht hv
theorem d64_zero : d64 0 = [] := dgs_zero _
def d8 (n : Nat) : List Int := dgs 254 n
theorem d8_dig (n : Nat) : Dig 256 (d8 n) := (dgs_spec 254 n).1
theorem d8_trim (n : Nat) : Trim (d8 n) := (dgs_spec 254 n).2.1
theorem d8_val (n : Nat) : vB 256 (d8 n) = n := (dgs_spec 254 n).2.2
theorem d8_unique {l : List Int} {n : Nat} (hl : Dig 256 l) (ht : Trim l) (hv : vB 256 l = n) : l = d8 n := dgs_unique hl ht hv
def nat (n : Nat) : ByteArray := strOfNums (d8 n).reverse
theorem bytesOf_str {l : List Int} (h : Dig 256 l) : bytesOf (strOfNums l) = l := by
 unfold bytesOf
 rw [strOfNums_data, List.map_map]
 conv => rhs; rw [← List.map_id l]
 refine List.map_congr_left fun x hx => ?_
 have := h x hx
 simp [UInt8.toNat_ofNat']
 omega
theorem str_bytesOf (s : ByteArray) : strOfNums (bytesOf s) = s := by
 unfold strOfNums bytesOf
 rw [List.map_map]
 have : List.map ((fun n : Int => UInt8.ofNat n.toNat) ∘ fun b : UInt8 => (b.toNat : Int)) s.data.toList = s.data.toList := by
  conv => rhs; rw [← List.map_id s.data.toList]
  refine List.map_congr_left fun x _ => ?_
  simp
 rw [this]
theorem bytesOf_dig (s : ByteArray) : Dig 256 (bytesOf s) := by
 intro x hx
 unfold bytesOf at hx
 obtain ⟨b, _, rfl⟩ := List.mem_map.1 hx
 have := b.toNat_lt
 omega
theorem str_ext {s t : ByteArray} (h : bytesOf s = bytesOf t) : s = t := by rw [← str_bytesOf s, h, str_bytesOf]
theorem toList_ext {s t : ByteArray} : s.toList = t.toList ↔ s = t := by
 constructor
 ·intro h
  rw [ByteArray.toList_eq, ByteArray.toList_eq] at h
  cases s
  cases t
  congr
  exact Array.toList_inj.1 h
 ·rintro rfl; rfl
theorem toList_nil {s : ByteArray} : s.toList = [] ↔ s.size = 0 := by
 rw [ByteArray.toList_eq, ← List.length_eq_zero_iff, data_length]
theorem nat_bytes (n : Nat) : bytesOf (nat n) = (d8 n).reverse := bytesOf_str (Dig_reverse (d8_dig n))
theorem nat_size (n : Nat) : (nat n).size = (d8 n).length := by rw [← bytesOf_length, nat_bytes, List.length_reverse]
def bval (s : ByteArray) : Int := vB 256 (bytesOf s).reverse
theorem bval_nat (n : Nat) : bval (nat n) = n := by unfold bval; rw [nat_bytes, List.reverse_reverse, d8_val]
theorem bval_nonneg (s : ByteArray) : 0 ≤ bval s := vB_nonneg (by decide) (Dig_reverse (bytesOf_dig s))
theorem nat_inj {m n : Nat} : nat m = nat n ↔ m = n := by
 constructor
 ·intro h
  have := bval_nat m
  rw [h, bval_nat] at this
  omega
 ·rintro rfl; rfl
theorem rd_reverse (l : List Int) (n : Nat) (h : n < l.length) : rd l.reverse (n : Int) = rd l ((l.length - 1 - n : Nat) : Int) := by
 rw [rd_get _ n (by simpa using h), rd_get _ _ (by omega), List.getElem_reverse]
theorem bt_rd (s : ByteArray) (i : Int) : bt s i = rd (bytesOf s) i := (rd_bytesOf s i).symm
theorem wf_nat {s : ByteArray} (h : s.size = 0 ∨ bt s 0 ≠ 0) : s = nat (bval s).toNat := by
 apply str_ext
 rw [nat_bytes]
 have ht : Trim (bytesOf s).reverse := by
  intro hp
  rw [List.length_reverse] at hp ⊢
  rw [rd_reverse _ _ (by omega), bt_rd] at *
  rw [bytesOf_length] at hp
  have e : (bytesOf s).length - 1 - ((bytesOf s).length - 1) = 0 := by omega
  rw [e]
  rcases h with h | h
  ·omega
  ·exact h
 have := d8_unique (n := (bval s).toNat) (Dig_reverse (bytesOf_dig s)) ht (by have := bval_nonneg s; unfold bval at this ⊢; omega)
 rw [← this, List.reverse_reverse]
theorem nat_wf (n : Nat) : (nat n).size = 0 ∨ bt (nat n) 0 ≠ 0 := by
 rcases Nat.eq_zero_or_pos (d8 n).length with h | h
 ·left; rw [nat_size, h]
 ·right
  rw [bt_rd, nat_bytes]
  have := d8_trim n h
  have e := rd_reverse (d8 n) 0 (by omega)
  rw [show (d8 n).length - 1 - 0 = (d8 n).length - 1 by omega] at e
  rw [← e] at this
  exact this
theorem nat_zero : nat 0 = ⟨#[]⟩ := by unfold nat d8; rw [dgs_zero]; rfl
theorem nat_size_zero {n : Nat} : (nat n).size = 0 ↔ n = 0 := by
 constructor
 ·intro h
  rw [nat_size] at h
  have := d8_val n
  rw [List.eq_nil_of_length_eq_zero h] at this
  simp [vB] at this
  omega
 ·rintro rfl; rw [nat_zero]; rfl
theorem nat_size_le {n k : Nat} : (nat n).size ≤ k ↔ n < 256 ^ k := by
 rw [nat_size]
 constructor
 ·intro h
  exact Nat.lt_of_lt_of_le (dgs_lt 254 n) (Nat.pow_le_pow_right (by decide) h)
 ·intro h
  exact dgs_len h
theorem nat_lt_size (n : Nat) : n < 256 ^ (nat n).size := nat_size_le.1 (Nat.le_refl _)
theorem vB_zero (B : Int) : ∀ {l : List Int}, (∀ j : Nat, j < l.length → rd l (j : Int) = 0) → vB B l = 0
 | [], _ => rfl
 | x :: xs, h => by
  have h0 : x = 0 := h 0 (by simp)
  have := vB_zero B (l := xs) (fun j hj => by
   have := h (j + 1) (by simpa using hj)
   rw [rd_nat] at this ⊢
   simpa using this)
  rw [vB_cons, h0, this]
  simp
theorem vB_low (B : Int) {l : List Int} {n : Nat} (hn : n ≤ l.length) (h : ∀ j : Nat, n ≤ j → j < l.length → rd l (j : Int) = 0) : vB B l = vB B (l.take n) := by
 rw [vB_split B l n hn, vB_zero B (l := l.drop n) (fun j hj => by rw [rd_drop]; exact h _ (by omega) (by simp at hj; omega))]
 simp
theorem trim_l0 (l : List Int) (hd : Dig B64 l) (hl : l.length < 9223372036854775808) : ∀ n : Nat, n ≤ l.length → (∀ j : Nat, n ≤ j → j < l.length → rd l (j : Int) = 0) → Ev (fun k => exact_trim.l0 k l (n : Int)) (d64 (vB B64 l).toNat) := by
 have hv := vB_nonneg (by decide) hd
 intro n
 induction n with
 | zero =>
  intro hn h
  refine Ev.step (f := fun _ => some (d64 (vB B64 l).toNat)) (fun k => ?_) (Ev.now _)
  simp only [exact_trim.l0]
  rw [if_neg (by omega), if_pos (by omega), if_pos (by omega)]
  have := vB_low B64 hn h
  rw [this]
  simp [vB, d64_zero]
 | succ n ih =>
  intro hn h
  have e1 : wrap64 (((n + 1 : Nat) : Int) - 1) = (n : Int) := by rw [w64 (by omega) (by omega)]; omega
  by_cases hz : rd l (n : Int) = 0
  ·refine Ev.step (f := fun k => exact_trim.l0 k l (n : Int)) (fun k => ?_) (ih (by omega) (fun j hj hjl => ?_))
   ·simp only [exact_trim.l0, e1]
    rw [if_pos (by omega), if_pos (by omega), if_pos (by omega), if_pos hz]
   ·rcases Nat.lt_or_ge n j with hlt | hge
    ·exact h j hlt hjl
    ·have : j = n := by omega
     subst this
     exact hz
  ·refine Ev.step (f := fun _ => some (d64 (vB B64 l).toNat)) (fun k => ?_) (Ev.now _)
   simp only [exact_trim.l0, e1]
   rw [if_pos (by omega), if_pos (by omega), if_pos (by omega), if_neg hz, if_pos (by omega), if_pos (by omega)]
   congr 1
   have hlen : (l.take (n + 1)).length = n + 1 := by rw [List.length_take]; omega
   refine d64_unique (Dig_take hd _) (fun _ => ?_) ?_
   ·rw [Int.toNat_natCast, hlen, Nat.add_sub_cancel, rd_take l _ _ (by omega)]
    exact hz
   ·rw [Int.toNat_natCast, ← vB_low B64 hn h]
    omega
theorem trim_ev {l : List Int} (hd : Dig B64 l) (hl : l.length < 9223372036854775808) : Ev (fun k => exact_trim.f k l) (d64 (vB B64 l).toNat) :=
 trim_l0 l hd hl l.length (Nat.le_refl _) (fun j h1 h2 => absurd h1 (by omega))
end Go.Proofs.YtdhdfcjpeflinaaN
set_option linter.unusedVariables false
namespace Go.Proofs.YtdhdfcjpeflinaaN
open Go.RowKit Go.Proofs.Ytdhdfcjpeflinaa.All Go.Proofs.YtdhdfcjpeflinaaW.PrintWords Go.Proofs.YtdhdfcjpeflinaaW.PrintLast Go.Proofs.YtdhdfcjpeflinaaW.PrintMore
theorem wraps_u64 (n : Int) (h0 : 0 ≤ n) (h1 : n < 2 ^ 64) : IntKind.u64.wrap n = n := u64 h0 (by simpa using h1)
theorem pow8 (q r : Nat) : (B64 : Int) ^ q * 256 ^ r = 256 ^ (8 * q + r) := by
 have e : (256 : Int) ^ 8 = B64 := rfl
 rw [Int.pow_add, Int.pow_mul, e]
theorem high_succ (s : ByteArray) (i : Nat) (h : i < s.size) : vB 256 ((bytesOf s).take (i + 1)).reverse = bt s i + 256 * vB 256 ((bytesOf s).take i).reverse := by
 rw [List.take_succ_eq_append_getElem (by rw [bytesOf_length]; exact h), List.reverse_append, bt_rd, rd_get _ i (by rw [bytesOf_length]; exact h)]
 rfl
theorem high_all (s : ByteArray) : vB 256 ((bytesOf s).take s.size).reverse = bval s := by
 rw [List.take_of_length_le (by rw [bytesOf_length]; exact Nat.le_refl _)]
 rfl
theorem word_or (x c : Int) (r : Nat) (hr : r < 8) (hx0 : 0 ≤ x) (hx1 : x < B64) (hm : x % 256 ^ (r + 1) = 0) (hc0 : 0 ≤ c) (hc1 : c ≤ 255) :
  Go.bits .or .u64 x (shl .u64 (IntKind.u64.wrap c) (8 * r : Nat)) = x + c * 256 ^ r ∧ 0 ≤ x + c * 256 ^ r ∧ x + c * 256 ^ r < B64 ∧ (x + c * 256 ^ r) % 256 ^ r = 0 := by
 have h64 : (B64 : Int) = 18446744073709551616 := rfl
 have hs : shl .u64 (IntKind.u64.wrap c) (8 * r : Nat) = c * 256 ^ r := by
  unfold shl
  rw [u64 hc0 (by omega), Int.toNat_natCast]
  have : min (8 * r) IntKind.u64.bits = 8 * r := Nat.min_eq_left (by show 8 * r ≤ 64; omega)
  rw [this, Int.pow_mul]
  have e : (2 : Int) ^ 8 = 256 := rfl
  rw [e]
  apply u64
  ·exact Int.mul_nonneg hc0 (Int.le_of_lt (Int.pow_pos (by decide)))
  ·have : r = 0 ∨ r = 1 ∨ r = 2 ∨ r = 3 ∨ r = 4 ∨ r = 5 ∨ r = 6 ∨ r = 7 := by omega
   rcases this with rfl | rfl | rfl | rfl | rfl | rfl | rfl | rfl <;> omega
 rw [hs]
 have hb : 0 ≤ c * 256 ^ r ∧ c * 256 ^ r < 256 ^ (r + 1) ∧ 0 ≤ x + c * 256 ^ r ∧ x + c * 256 ^ r < B64 ∧ (x + c * 256 ^ r) % 256 ^ r = 0 ∧ c * 256 ^ r < 2 ^ 64 := by
  have : r = 0 ∨ r = 1 ∨ r = 2 ∨ r = 3 ∨ r = 4 ∨ r = 5 ∨ r = 6 ∨ r = 7 := by omega
  rcases this with rfl | rfl | rfl | rfl | rfl | rfl | rfl | rfl <;> (clear hs; simp only [B64] at hx1 ⊢; omega)
 refine ⟨?_, hb.2.2.1, hb.2.2.2.1, hb.2.2.2.2.1⟩
 have hp : (2 : Int) ^ (8 * (r + 1)) = 256 ^ (r + 1) := by rw [Int.pow_mul]; rfl
 exact bits_join .u64 64 (by decide) wraps_u64 (8 * (r + 1)) x (c * 256 ^ r) hx0 (by rw [hp]; exact hm) (by rw [h64] at hx1; simpa using hx1) hb.1 (by rw [hp]; exact hb.2.1) hb.2.2.2.2.2
theorem words_l0 (s : ByteArray) (hs : s.size ≤ 1099511627776) : ∀ (d i : Nat) (w : List Int), i + d = s.size → w.length = (s.size + 7) / 8 → Dig B64 w → vB B64 w = vB 256 ((bytesOf s).take i).reverse * 256 ^ d →
  (0 < d → rd w ((d - 1) / 8 : Nat) % 256 ^ ((d - 1) % 8 + 1) = 0 ∧ ∀ q : Nat, q < (d - 1) / 8 → rd w (q : Int) = 0) → Ev (fun k => exact_words.l0 k s w (s.size : Int) (i : Int)) (d64 (bval s).toNat) := by
 intro d
 induction d with
 | zero =>
  intro i w hi hl hd hv _
  have hi : i = s.size := by omega
  subst hi
  have hv' : vB B64 w = bval s := by rw [hv, high_all]; simp
  refine Ev.step (f := fun k => (exact_trim.f k w).bind fun t => some t) (fun k => ?_) (Ev.bind (trim_ev hd (by omega)) ?_)
  ·simp only [exact_words.l0]
   rw [if_neg (by omega)]
  ·rw [hv']
   exact Ev.now _
 | succ d ih =>
  intro i w hi hl hd hv hz
  obtain ⟨hz1, hz2⟩ := hz (by omega)
  rw [Nat.add_sub_cancel] at hz1 hz2
  have hq : d / 8 < w.length := by omega
  have hr : d % 8 < 8 := Nat.mod_lt _ (by decide)
  have e1 : wrap64 (Int.tdiv (wrap64 (wrap64 ((s.size : Int) - 1) - (i : Int))) 8) = ((d / 8 : Nat) : Int) := by
   rw [w64 (x := (s.size : Int) - 1) (by omega) (by omega), w64 (x := (s.size : Int) - 1 - (i : Int)) (by omega) (by omega)]
   have : (s.size : Int) - 1 - (i : Int) = (d : Int) := by omega
   rw [this, Int.tdiv_eq_ediv_of_nonneg (by omega), w64 (by omega) (by omega)]
   omega
  have e2 : wrap64 (8 * Int.tmod (wrap64 (wrap64 ((s.size : Int) - 1) - (i : Int))) 8) = ((8 * (d % 8) : Nat) : Int) := by
   rw [w64 (x := (s.size : Int) - 1) (by omega) (by omega), w64 (x := (s.size : Int) - 1 - (i : Int)) (by omega) (by omega)]
   have : (s.size : Int) - 1 - (i : Int) = (d : Int) := by omega
   rw [this, Int.tmod_eq_emod_of_nonneg (by omega), w64 (by omega) (by omega)]
   omega
  have e3 : wrap64 ((i : Int) + 1) = ((i + 1 : Nat) : Int) := by rw [w64 (by omega) (by omega)]; omega
  have c1 : (i : Int) < (s.size : Int) := by omega
  have c3 : ((d / 8 : Nat) : Int) < (w.length : Int) := Int.ofNat_lt.2 hq
  have c4 : 0 < (d / 8 : Nat) → d % 8 = 0 → (d - 1) / 8 = d / 8 - 1 := by omega
  have hi' : i + 1 + d = s.size := by omega
  obtain ⟨hx0, hx1⟩ := Dig_rd hd (d / 8) hq
  obtain ⟨hc0, hc1⟩ := bt_range s (i : Int)
  obtain ⟨ho, ho0, ho1, ho2⟩ := word_or (rd w ((d / 8 : Nat) : Int)) (bt s (i : Int)) (d % 8) hr hx0 hx1 hz1 hc0 hc1
  have hk : 8 * (d / 8) + d % 8 = d := Nat.div_add_mod d 8
  refine Ev.step (f := fun k => exact_words.l0 k s (w.set (d / 8) (rd w ((d / 8 : Nat) : Int) + bt s (i : Int) * 256 ^ (d % 8))) (s.size : Int) ((i + 1 : Nat) : Int)) (fun k => ?_) (ih (i + 1) _ hi' (by rw [List.length_set]; exact hl) (Dig_set hd _ ho0 ho1) ?_ ?_)
  ·simp only [exact_words.l0, e1, e2, e3]
   rw [if_pos c1, if_pos (Int.natCast_nonneg _), if_pos c3, if_pos (Int.natCast_nonneg _), if_pos c1, if_pos (Int.natCast_nonneg _), ho, Int.toNat_natCast]
  ·rw [vB_set _ _ _ _ hq, hv, high_succ s i (by omega)]
   have e : rd w ((d / 8 : Nat) : Int) + bt s (i : Int) * 256 ^ (d % 8) - rd w ((d / 8 : Nat) : Int) = 256 ^ (d % 8) * bt s (i : Int) := by
    rw [Int.mul_comm (256 ^ (d % 8))]; omega
   rw [e, ← Int.mul_assoc, pow8, hk, Int.pow_succ, Int.add_mul]
   generalize vB 256 ((bytesOf s).take i).reverse = H
   generalize (256 : Int) ^ d = P
   generalize bt s (i : Int) = c
   rw [Int.mul_comm P c, Int.add_comm, Int.mul_assoc 256 H P, Int.mul_comm P 256, ← Int.mul_assoc H 256 P, Int.mul_comm H 256, Int.mul_assoc 256 H P]
  ·intro hd0
   by_cases h0 : d % 8 = 0
   ·have h1 : (d - 1) / 8 = d / 8 - 1 := by omega
    have h2 : 0 < d / 8 := by omega
    rw [h1]
    refine ⟨?_, fun q hq' => ?_⟩
    ·rw [rd_set_ne _ _ _ _ (by omega), hz2 _ (by omega)]
     simp
    ·rw [rd_set_ne _ _ _ _ (by omega), hz2 _ (by omega)]
   ·have h1 : (d - 1) / 8 = d / 8 := by omega
    have h2 : (d - 1) % 8 + 1 = d % 8 := by omega
    rw [h1, h2]
    refine ⟨?_, fun q hq' => ?_⟩
    ·rw [rd_set_self _ _ _ hq]
     exact ho2
    ·rw [rd_set_ne _ _ _ _ (by omega), hz2 _ (by omega)]
theorem words_ev (s : ByteArray) (hs : s.size ≤ 1099511627776) : Ev (fun k => exact_words.f k s) (d64 (bval s).toNat) := by
 have e1 : wrap64 (Int.tdiv (wrap64 ((s.size : Int) + 7)) 8) = (((s.size + 7) / 8 : Nat) : Int) := by
  rw [w64 (x := (s.size : Int) + 7) (by omega) (by omega), Int.tdiv_eq_ediv_of_nonneg (by omega), w64 (by omega) (by omega)]
  omega
 refine Ev.congr (f := fun k => exact_words.l0 k s (List.replicate ((s.size + 7) / 8) 0) (s.size : Int) ((0 : Nat) : Int)) (fun k => ?_) (words_l0 s hs s.size 0 _ (by omega) (by simp) (Dig_replicate (by decide) _) ?_ ?_)
 ·unfold exact_words.f
  rw [e1, if_pos (by omega), Int.toNat_natCast, if_pos (by omega)]
  rfl
 ·rw [vB_replicate]
  simp [vB]
 ·intro _
  exact ⟨by rw [rd_replicate]; simp, fun q _ => rd_replicate _ _⟩
theorem words_nat {n : Nat} (hs : (nat n).size ≤ 1099511627776) : Ev (fun k => exact_words.f k (nat n)) (d64 n) := by
 have := words_ev (nat n) hs
 rwa [bval_nat, Int.toNat_natCast] at this
theorem set_reverse (l : List Int) (p : Nat) (v : Int) (h : p < l.length) : (l.set p v).reverse = l.reverse.set (l.length - 1 - p) v := by
 apply List.ext_getElem?
 intro j
 rcases Nat.lt_or_ge j l.length with hj | hj
 ·rw [List.getElem?_reverse (by rw [List.length_set]; exact hj), List.length_set, List.getElem?_set, List.getElem?_set, List.length_reverse]
  by_cases e : p = l.length - 1 - j
  ·have e' : l.length - 1 - p = j := by omega
   rw [if_pos e, if_pos h, if_pos e', if_pos (by omega)]
  ·have e' : ¬ l.length - 1 - p = j := by omega
   rw [if_neg e, if_neg e', List.getElem?_reverse hj]
 ·rw [List.getElem?_eq_none (by simp; omega), List.getElem?_eq_none (by simp; omega)]
theorem pack_l2 (b : List Int) (hd : Dig 256 b) (hb : b.length < 9223372036854775807) (n : Nat) (hv : vB 256 b.reverse = n) (hn : n ≠ 0) : ∀ (d i : Nat), i + d = b.length → (∀ j : Nat, j < i → rd b (j : Int) = 0) → Ev (fun k => exact_pack.l2 k b (i : Int)) (nat n) := by
 intro d
 induction d with
 | zero =>
  intro i hi hz
  have := vB_zero 256 (l := b.reverse) (fun j hj => by
   rw [List.length_reverse] at hj
   rw [rd_reverse _ _ hj]
   exact hz _ (by omega))
  omega
 | succ d ih =>
  intro i hi hz
  by_cases h0 : rd b (i : Int) = 0
  ·have e1 : wrap64 ((i : Int) + 1) = ((i + 1 : Nat) : Int) := by rw [w64 (by omega) (by omega)]; omega
   refine Ev.step (f := fun k => exact_pack.l2 k b ((i + 1 : Nat) : Int)) (fun k => ?_) (ih (i + 1) (by omega) (fun j hj => ?_))
   ·simp only [exact_pack.l2, e1]
    rw [if_pos (by omega), if_pos (by omega), if_pos h0]
   ·rcases Nat.lt_or_ge j i with h | h
    ·exact hz j h
    ·have : j = i := by omega
     subst this
     exact h0
  ·refine Ev.step (f := fun _ => some (nat n)) (fun k => ?_) (Ev.now _)
   simp only [exact_pack.l2]
   rw [if_pos (by omega), if_pos (by omega), if_neg h0, if_pos (by omega), Int.toNat_natCast]
   congr 1
   unfold nat
   congr 1
   have hu : (b.drop i).reverse = d8 n := by
    refine d8_unique (Dig_reverse (Dig_drop hd _)) (fun hp => ?_) ?_
    ·rw [List.length_reverse] at hp ⊢
     rw [rd_reverse _ _ (by omega), rd_drop]
     have : i + ((b.drop i).length - 1 - ((b.drop i).length - 1)) = i := by omega
     rw [this]
     exact h0
    ·rw [← hv]
     conv => rhs; rw [← List.take_append_drop i b]
     rw [List.reverse_append, vB_append, vB_zero 256 (l := (b.take i).reverse) (fun j hj => ?_)]
     ·simp
     ·rw [List.length_reverse] at hj
      have hl : (b.take i).length = i := by rw [List.length_take]; omega
      rw [rd_reverse _ _ hj, rd_take _ _ _ (by omega)]
      exact hz _ (by omega)
   rw [← hu, List.reverse_reverse]
theorem byte_of (x : Int) (s : Nat) (hs : s < 8) (h0 : 0 ≤ x) (h1 : x < B64) : shr .u64 x ((8 * s : Nat) : Int) % 256 = x / 256 ^ s % 256 := by
 unfold shr
 rw [Int.toNat_natCast]
 have : min (8 * s) IntKind.u64.bits = 8 * s := Nat.min_eq_left (by show 8 * s ≤ 64; omega)
 rw [this, Int.pow_mul]
 rfl
theorem byte_step (x : Int) (s : Nat) (hs : s < 8) (h0 : 0 ≤ x) (h1 : x < B64) : x % 256 ^ (s + 1) = x % 256 ^ s + 256 ^ s * (x / 256 ^ s % 256) := by
 have : s = 0 ∨ s = 1 ∨ s = 2 ∨ s = 3 ∨ s = 4 ∨ s = 5 ∨ s = 6 ∨ s = 7 := by omega
 rcases this with rfl | rfl | rfl | rfl | rfl | rfl | rfl | rfl <;> simp <;> omega
def Packed (w b : List Int) (i s : Nat) : Prop :=
 b.length = 8 * w.length ∧ Dig 256 b ∧ vB 256 b.reverse = vB B64 (w.take i) + B64 ^ i * (rd w (i : Int) % 256 ^ s) ∧ ∀ j : Nat, 8 * i + s ≤ j → rd b.reverse (j : Int) = 0
theorem packed_step {w b : List Int} {i s : Nat} (hw : Dig B64 w) (hi : i < w.length) (hs : s < 8) (h : Packed w b i s) :
  8 * i + s < b.length ∧ Packed w (b.set (b.length - 1 - (8 * i + s)) (rd w (i : Int) / 256 ^ s % 256)) i (s + 1) := by
 obtain ⟨hl, hd, hv, hz⟩ := h
 obtain ⟨hx0, hx1⟩ := Dig_rd hw i hi
 have hlt : 8 * i + s < b.length := by omega
 refine ⟨hlt, by rw [List.length_set]; exact hl, Dig_set hd _ (Int.emod_nonneg _ (by decide)) (Int.emod_lt_of_pos _ (by decide)), ?_, fun j hj => ?_⟩
 ·rw [set_reverse _ _ _ (by omega)]
  have e : b.length - 1 - (b.length - 1 - (8 * i + s)) = 8 * i + s := by omega
  rw [e, vB_set _ _ _ _ (by rw [List.length_reverse]; exact hlt), hz _ (Nat.le_refl _), hv, byte_step _ s hs hx0 hx1, Int.sub_zero, Int.mul_add, ← pow8, Int.mul_assoc, Int.add_assoc]
 ·rw [set_reverse _ _ _ (by omega)]
  have e : b.length - 1 - (b.length - 1 - (8 * i + s)) = 8 * i + s := by omega
  rw [e, rd_set_ne _ _ _ _ (by omega)]
  exact hz j (by omega)
theorem packed_word {w b : List Int} {i : Nat} (hw : Dig B64 w) (hi : i < w.length) (h : Packed w b i 8) : Packed w b (i + 1) 0 := by
 obtain ⟨hl, hd, hv, hz⟩ := h
 obtain ⟨hx0, hx1⟩ := Dig_rd hw i hi
 refine ⟨hl, hd, ?_, fun j hj => hz j (by omega)⟩
 rw [hv, vB_take_succ _ _ _ hi]
 have : rd w (i : Int) % 256 ^ 8 = rd w (i : Int) := Int.emod_eq_of_lt hx0 hx1
 rw [this]
 simp
theorem pack_l1 (w : List Int) (hw : Dig B64 w) (hl : w.length ≤ 1099511627776) (i : Nat) (hi : i < w.length) (r : ByteArray)
  (next : ∀ b, Packed w b (i + 1) 0 → Ev (fun k => exact_pack.l0 k b w (w.length : Int) ((i + 1 : Nat) : Int)) r) : ∀ (d s : Nat) (b : List Int), s + d = 8 → Packed w b i s →
  Ev (fun k => exact_pack.l1 k b (i : Int) (rd w (i : Int)) w (w.length : Int) (i : Int) (s : Int)) r := by
 obtain ⟨hx0, hx1⟩ := Dig_rd hw i hi
 intro d
 induction d with
 | zero =>
  intro s b hs hp
  have hs : s = 8 := by omega
  subst hs
  refine Ev.step (f := fun k => exact_pack.l0 k b w (w.length : Int) ((i + 1 : Nat) : Int)) (fun k => ?_) (next b (packed_word hw hi hp))
  have c1 : ¬ ((8 : Nat) : Int) < 8 := by omega
  have e1 : wrap64 ((i : Int) + 1) = ((i + 1 : Nat) : Int) := by rw [w64 (by omega) (by omega)]; omega
  simp only [exact_pack.l1, e1]
  rw [if_neg c1]
 | succ d ih =>
  intro s b hs hp
  have hlb := hp.1
  obtain ⟨hlt, hp'⟩ := packed_step hw hi (by omega) hp
  refine Ev.step (f := fun k => exact_pack.l1 k (b.set (b.length - 1 - (8 * i + s)) (rd w (i : Int) / 256 ^ s % 256)) (i : Int) (rd w (i : Int)) w (w.length : Int) (i : Int) ((s + 1 : Nat) : Int)) (fun k => ?_) (ih (s + 1) _ (by omega) hp')
  have c1 : ((s : Nat) : Int) < 8 := by omega
  have c2 : ((b.length - 1 - (8 * i + s) : Nat) : Int) < (b.length : Int) := by omega
  have e0 := byte_of _ s (by omega) hx0 hx1
  have e1 : wrap64 (8 * (s : Int)) = ((8 * s : Nat) : Int) := by rw [w64 (by omega) (by omega)]; omega
  have e2 : wrap64 (wrap64 (wrap64 ((b.length : Int) - 1) - ((8 * i : Nat) : Int)) - (s : Int)) = ((b.length - 1 - (8 * i + s) : Nat) : Int) := by
   clear e1 e0
   rw [w64 (x := (b.length : Int) - 1) (by omega) (by omega), w64 (x := (b.length : Int) - 1 - ((8 * i : Nat) : Int)) (by omega) (by omega), w64 (by omega) (by omega)]
   omega
  have e4 : wrap64 (8 * (i : Int)) = ((8 * i : Nat) : Int) := by clear e0 e1 e2; rw [w64 (by omega) (by omega)]; omega
  have e3 : wrap64 ((s : Int) + 1) = ((s + 1 : Nat) : Int) := by clear e0 e1 e2 e4; rw [w64 (by omega) (by omega)]; omega
  simp only [exact_pack.l1, e1, e4, e2, e3]
  rw [if_pos c1, if_pos (Int.natCast_nonneg _), if_pos (Int.natCast_nonneg _), if_pos c2, Int.toNat_natCast, e0]
theorem pack_l0 (w : List Int) (hw : Dig B64 w) (hl : w.length ≤ 1099511627776) (n : Nat) (hv : vB B64 w = n) (hn : n ≠ 0) : ∀ (d i : Nat) (b : List Int), i + d = w.length → Packed w b i 0 → Ev (fun k => exact_pack.l0 k b w (w.length : Int) (i : Int)) (nat n) := by
 intro d
 induction d with
 | zero =>
  intro i b hi hp
  obtain ⟨h1, h2, h3, h4⟩ := hp
  have hi : i = w.length := by omega
  subst hi
  have e : vB 256 b.reverse = n := by
   rw [h3, List.take_of_length_le (Nat.le_refl _), hv]
   simp
  refine Ev.step (f := fun k => exact_pack.l2 k b ((0 : Nat) : Int)) (fun k => ?_) (pack_l2 b h2 (by omega) n e hn b.length 0 (by omega) (fun j hj => absurd hj (by omega)))
  simp only [exact_pack.l0]
  rw [if_neg (by omega)]
  rfl
 | succ d ih =>
  intro i b hi hp
  refine Ev.step (f := fun k => exact_pack.l1 k b (i : Int) (rd w (i : Int)) w (w.length : Int) (i : Int) ((0 : Nat) : Int)) (fun k => ?_) (pack_l1 w hw hl i (by omega) (nat n) (fun b' hp' => ih (i + 1) b' (by omega) hp') 8 0 b (by omega) hp)
  simp only [exact_pack.l0]
  rw [if_pos (by omega), if_pos (by omega), if_pos (by omega)]
  rfl
theorem pack_ev {l : List Int} (hd : Dig B64 l) (hl : l.length ≤ 1099511627776) : Ev (fun k => exact_pack.f k l) (nat (vB B64 l).toNat) := by
 have hv := vB_nonneg (by decide) hd
 have ht : (d64 (vB B64 l).toNat).length ≤ l.length := dgs_len (by
  have := vB_lt (by decide) hd
  have h1 : (((vB B64 l).toNat : Nat) : Int) < ((18446744073709551614 + 2 : Nat) : Int) ^ l.length := by
   rw [Int.toNat_of_nonneg hv]
   exact this
  exact_mod_cast h1)
 refine Ev.congr (f := fun k => (exact_trim.f k l).bind fun t => if (t.length : Int) = 0 then some (⟨#[]⟩ : ByteArray) else if 0 ≤ wrap64 (8 * (t.length : Int)) then (if (wrap64 (8 * (t.length : Int)) : Int).toNat ≤ 281474976710656 then exact_pack.l0 k (List.replicate (wrap64 (8 * (t.length : Int)) : Int).toNat 0) t (t.length : Int) 0 else none) else none) (fun k => rfl) (Ev.bind (trim_ev hd (by omega)) ?_)
 generalize hn : (vB B64 l).toNat = n at *
 by_cases h0 : n = 0
 ·subst h0
  rw [d64_zero, nat_zero]
  exact Ev.now _
 ·have hne : (d64 n).length ≠ 0 := by
   intro h
   have := d64_val n
   rw [List.eq_nil_of_length_eq_zero h] at this
   simp [vB] at this
   omega
  have e1 : wrap64 (8 * ((d64 n).length : Int)) = ((8 * (d64 n).length : Nat) : Int) := by rw [w64 (by omega) (by omega)]; omega
  refine Ev.congr (f := fun k => exact_pack.l0 k (List.replicate (8 * (d64 n).length) 0) (d64 n) ((d64 n).length : Int) ((0 : Nat) : Int)) (fun k => ?_) (pack_l0 (d64 n) (d64_dig n) (by omega) n (d64_val n) h0 (d64 n).length 0 _ (by omega) ⟨by simp, Dig_replicate (by decide) _, ?_, fun j _ => ?_⟩)
  ·rw [e1, if_neg (by omega), if_pos (by omega), Int.toNat_natCast, if_pos (by omega)]
   rfl
  ·rw [List.reverse_replicate, vB_replicate]
   simp [vB]
  ·rw [List.reverse_replicate, rd_replicate]
end Go.Proofs.YtdhdfcjpeflinaaN
set_option linter.unusedVariables false
namespace Go.Proofs.YtdhdfcjpeflinaaN
open Go.RowKit Go.Proofs.Ytdhdfcjpeflinaa.All Go.Proofs.YtdhdfcjpeflinaaW.PrintWords Go.Proofs.YtdhdfcjpeflinaaW.PrintLast Go.Proofs.YtdhdfcjpeflinaaW.PrintMore
theorem mul_range {a b A B : Int} (a0 : 0 ≤ a) (a1 : a ≤ A) (b0 : 0 ≤ b) (b1 : b ≤ B) : 0 ≤ a * b ∧ a * b ≤ A * B :=
 ⟨Int.mul_nonneg a0 b0, Int.le_trans (Int.mul_le_mul_of_nonneg_left b1 a0) (Int.mul_le_mul_of_nonneg_right a1 (by omega))⟩
theorem and_low {x : Int} (h0 : 0 ≤ x) (h1 : x < B64) : Go.bits .and .u64 x 4294967295 = x % 4294967296 :=
 bits_mask .u64 64 (by decide) wraps_u64 32 (by decide) x h0 (by simpa using h1)
theorem mul64_eq {x y : Int} (x0 : 0 ≤ x) (x1 : x < B64) (y0 : 0 ≤ y) (y1 : y < B64) : bits_Mul64.f x y = some (x * y / B64, x * y % B64) := by
 have x1' : x < 18446744073709551616 := x1
 have y1' : y < 18446744073709551616 := y1
 show bits_Mul64.f x y = some (x * y / 18446744073709551616, x * y % 18446744073709551616)
 obtain ⟨a, ha⟩ : ∃ a, a = x / 4294967296 := ⟨_, rfl⟩
 obtain ⟨b, hb⟩ : ∃ b, b = x % 4294967296 := ⟨_, rfl⟩
 obtain ⟨c, hc⟩ : ∃ c, c = y / 4294967296 := ⟨_, rfl⟩
 obtain ⟨d, hd⟩ : ∃ d, d = y % 4294967296 := ⟨_, rfl⟩
 have hx : x = a * 4294967296 + b := by omega
 have hy : y = c * 4294967296 + d := by omega
 have a0 : 0 ≤ a ∧ a ≤ 4294967295 := by omega
 have b0 : 0 ≤ b ∧ b ≤ 4294967295 := by omega
 have c0 : 0 ≤ c ∧ c ≤ 4294967295 := by omega
 have d0 : 0 ≤ d ∧ d ≤ 4294967295 := by omega
 have hac := mul_range a0.1 a0.2 c0.1 c0.2
 have had := mul_range a0.1 a0.2 d0.1 d0.2
 have hbc := mul_range b0.1 b0.2 c0.1 c0.2
 have hbd := mul_range b0.1 b0.2 d0.1 d0.2
 have hp : x * y = a * c * 18446744073709551616 + (a * d + b * c) * 4294967296 + b * d := by
  rw [hx, hy, Int.add_mul, Int.mul_add, Int.mul_add, Int.add_mul]
  have e1 : a * 4294967296 * (c * 4294967296) = a * c * 18446744073709551616 := by
   rw [Int.mul_assoc, Int.mul_left_comm 4294967296 c, Int.mul_assoc a c]
   congr 1
  have e2 : a * 4294967296 * d = a * d * 4294967296 := by rw [Int.mul_assoc, Int.mul_comm 4294967296 d, ← Int.mul_assoc]
  have e3 : b * (c * 4294967296) = b * c * 4294967296 := by rw [Int.mul_assoc]
  rw [e1, e2, e3]
  omega
 unfold bits_Mul64.f
 rw [and_low x0 x1, and_low y0 y1, ← ha, ← hb, ← hc, ← hd, hp]
 generalize hA : a * c = p at *
 generalize hD : a * d = q at *
 generalize hC : b * c = r at *
 generalize hE : b * d = s at *
 clear hA hD hC hE hp hx hy ha hb hc hd x0 x1 y0 y1 x1' y1'
 have h1 : (4294967295 : Int) * 4294967295 = 18446744065119617025 := rfl
 rw [h1] at *
 rw [u64 (x := s) (by omega) (by omega), u64 (x := q) (by omega) (by omega), u64 (x := q + s / 4294967296) (by omega) (by omega), and_low (x := q + s / 4294967296) (by omega) (by show _ < (18446744073709551616 : Int); omega),
  u64 (x := r) (by omega) (by omega), u64 (x := (q + s / 4294967296) % 4294967296 + r) (by omega) (by omega), u64 (x := p) (by omega) (by omega),
  u64 (x := p + (q + s / 4294967296) / 4294967296) (by omega) (by omega)]
 have e : p + (q + s / 4294967296) / 4294967296 + ((q + s / 4294967296) % 4294967296 + r) / 4294967296 = (p * 18446744073709551616 + (q + r) * 4294967296 + s) / 18446744073709551616 := by omega
 rw [e, u64 (x := (p * 18446744073709551616 + (q + r) * 4294967296 + s) / 18446744073709551616) (by clear e; omega) (by clear e; omega), u64_mod]
theorem add64_eq {x y c : Int} (x0 : 0 ≤ x) (y0 : 0 ≤ y) (c0 : 0 ≤ c) (c1 : c ≤ 1) : bits_Add64.f x y c = some ((x + y + c) % B64, (x + y + c) / B64) := by
 unfold bits_Add64.f
 rw [if_pos ⟨x0, y0, c0, c1⟩]
theorem mul_add {x y o c : Int} (x0 : 0 ≤ x) (x1 : x < B64) (y0 : 0 ≤ y) (y1 : y < B64) (o0 : 0 ≤ o) (o1 : o < B64) (c0 : 0 ≤ c) (c1 : c < B64) :
  IntKind.u64.wrap (IntKind.u64.wrap (x * y / B64 + (x * y % B64 + o + 0) / B64) + ((x * y % B64 + o + 0) % B64 + c + 0) / B64) = (x * y + o + c) / B64 ∧ ((x * y % B64 + o + 0) % B64 + c + 0) % B64 = (x * y + o + c) % B64 ∧ 0 ≤ (x * y + o + c) / B64 ∧ (x * y + o + c) / B64 < B64 := by
 have x1' : x < 18446744073709551616 := x1
 have y1' : y < 18446744073709551616 := y1
 have o1' : o < 18446744073709551616 := o1
 have c1' : c < 18446744073709551616 := c1
 have hp := mul_range x0 (show x ≤ 18446744073709551615 by omega) y0 (show y ≤ 18446744073709551615 by omega)
 have h1 : (18446744073709551615 : Int) * 18446744073709551615 = 340282366920938463426481119284349108225 := rfl
 rw [h1] at hp
 show IntKind.u64.wrap (IntKind.u64.wrap (x * y / 18446744073709551616 + (x * y % 18446744073709551616 + o + 0) / 18446744073709551616) + ((x * y % 18446744073709551616 + o + 0) % 18446744073709551616 + c + 0) / 18446744073709551616) = (x * y + o + c) / 18446744073709551616 ∧ ((x * y % 18446744073709551616 + o + 0) % 18446744073709551616 + c + 0) % 18446744073709551616 = (x * y + o + c) % 18446744073709551616 ∧ 0 ≤ (x * y + o + c) / 18446744073709551616 ∧ (x * y + o + c) / 18446744073709551616 < 18446744073709551616
 generalize x * y = p at *
 clear x0 x1 x1' y0 y1 y1' o1 c1 h1
 have a1 : 0 ≤ p / 18446744073709551616 + (p % 18446744073709551616 + o + 0) / 18446744073709551616 ∧ p / 18446744073709551616 + (p % 18446744073709551616 + o + 0) / 18446744073709551616 < 18446744073709551616 := by omega
 rw [u64 a1.1 a1.2]
 have a2 : p / 18446744073709551616 + (p % 18446744073709551616 + o + 0) / 18446744073709551616 + ((p % 18446744073709551616 + o + 0) % 18446744073709551616 + c + 0) / 18446744073709551616 = (p + o + c) / 18446744073709551616 := by omega
 have a3 : 0 ≤ (p + o + c) / 18446744073709551616 ∧ (p + o + c) / 18446744073709551616 < 18446744073709551616 := by omega
 rw [a2, u64 a3.1 a3.2]
 refine ⟨rfl, by omega, a3.1, a3.2⟩
theorem take_succ (B : Int) (l : List Int) (i : Nat) : vB B (l.take (i + 1)) = vB B (l.take i) + B ^ i * rd l (i : Int) := by
 rcases Nat.lt_or_ge i l.length with h | h
 ·exact vB_take_succ B l i h
 ·rw [List.take_of_length_le (by omega), List.take_of_length_le h, rd_nat, List.getD_eq_getElem?_getD, List.getElem?_eq_none h]
  simp
theorem vB_all (B : Int) (l : List Int) (i : Nat) (h : l.length ≤ i) : vB B (l.take i) = vB B l := by rw [List.take_of_length_le h]
def MulOut (a b out : List Int) (i : Nat) : Prop :=
 out.length = a.length + b.length ∧ Dig B64 out ∧ vB B64 out = vB B64 (a.take i) * vB B64 b ∧ ∀ j : Nat, i + b.length ≤ j → rd out (j : Int) = 0
def MulIn (a b out : List Int) (i j : Nat) (c : Int) : Prop :=
 out.length = a.length + b.length ∧ Dig B64 out ∧ (0 ≤ c ∧ c < B64) ∧ vB B64 out + B64 ^ (i + j) * c = vB B64 (a.take i) * vB B64 b + B64 ^ i * (rd a (i : Int) * vB B64 (b.take j)) ∧ ∀ n : Nat, i + b.length ≤ n → rd out (n : Int) = 0
theorem mul_in {a b out : List Int} {i j : Nat} {c : Int} (ha : Dig B64 a) (hb : Dig B64 b) (hi : i < a.length) (hj : j < b.length) (h : MulIn a b out i j c) :
  MulIn a b (out.set (i + j) ((rd a (i : Int) * rd b (j : Int) + rd out ((i + j : Nat) : Int) + c) % B64)) i (j + 1) ((rd a (i : Int) * rd b (j : Int) + rd out ((i + j : Nat) : Int) + c) / B64) := by
 obtain ⟨hl, hd, hc, hv, hz⟩ := h
 obtain ⟨x0, x1⟩ := Dig_rd ha i hi
 obtain ⟨y0, y1⟩ := Dig_rd hb j hj
 obtain ⟨o0, o1⟩ := Dig_rd hd (i + j) (by omega)
 obtain ⟨-, -, n0, n1⟩ := mul_add x0 x1 y0 y1 o0 o1 hc.1 hc.2
 refine ⟨by rw [List.length_set]; exact hl, Dig_set hd _ (Int.emod_nonneg _ (by decide)) (Int.emod_lt_of_pos _ (by decide)), ⟨n0, n1⟩, ?_, fun n hn => ?_⟩
 ·rw [vB_set _ _ _ _ (by omega), take_succ, ← Nat.add_assoc, Int.pow_succ]
  have e := Int.emod_add_mul_ediv (rd a (i : Int) * rd b (j : Int) + rd out ((i + j : Nat) : Int) + c) B64
  generalize (rd a (i : Int) * rd b (j : Int) + rd out ((i + j : Nat) : Int) + c) / B64 = q at *
  generalize (rd a (i : Int) * rd b (j : Int) + rd out ((i + j : Nat) : Int) + c) % B64 = r at *
  have er : r = rd a (i : Int) * rd b (j : Int) + rd out ((i + j : Nat) : Int) + c - B64 * q := by omega
  rw [er]
  have ep : (B64 : Int) ^ (i + j) = B64 ^ i * B64 ^ j := Int.pow_add _ _ _
  rw [ep] at hv ⊢
  clear ep
  generalize vB B64 out = V at *
  generalize vB B64 (List.take i a) * vB B64 b = W at *
  generalize vB B64 (List.take j b) = U at *
  generalize (B64 : Int) ^ i = P at *
  generalize (B64 : Int) ^ j = Q at *
  generalize rd a (i : Int) = x at *
  generalize rd b (j : Int) = y at *
  generalize rd out ((i + j : Nat) : Int) = o at *
  have e1 : P * Q * (x * y + o + c - B64 * q - o) = P * Q * (x * y) + P * Q * c - P * Q * B64 * q := by
   rw [show x * y + o + c - B64 * q - o = x * y + c - B64 * q by omega, Int.mul_sub, Int.mul_add, Int.mul_assoc (P * Q) B64 q]
  have e2 : P * (x * (U + Q * y)) = P * (x * U) + P * Q * (x * y) := by
   rw [Int.mul_add x, Int.mul_add P, Int.mul_left_comm x Q y, Int.mul_assoc P Q]
  rw [e1, e2]
  omega
 ·rw [rd_set_ne _ _ _ _ (by omega)]
  exact hz n hn
theorem mulWords_l1 (a b : List Int) (ha : Dig B64 a) (hb : Dig B64 b) (la : a.length ≤ 1099511627776) (lb : b.length ≤ 1099511627776) (i : Nat) (hi : i < a.length) (r : List Int)
  (next : ∀ out, MulOut a b out (i + 1) → Ev (fun k => exact_mulWords.l0 k b out a (a.length : Int) ((i + 1 : Nat) : Int)) r) : ∀ (d j : Nat) (out : List Int) (c : Int), j + d = b.length → MulIn a b out i j c →
  Ev (fun k => exact_mulWords.l1 k b out (i : Int) (rd a (i : Int)) c a (a.length : Int) (i : Int) b (b.length : Int) (j : Int)) r := by
 intro d
 induction d with
 | zero =>
  intro j out c hj h
  have hj : j = b.length := by omega
  subst hj
  have hl := h.1
  have c1 : i + b.length < out.length := by omega
  have c2 : ((i + b.length : Nat) : Int) < (out.length : Int) := Int.ofNat_lt.2 c1
  have e1 : wrap64 ((i : Int) + (b.length : Int)) = ((i + b.length : Nat) : Int) := by rw [w64 (by omega) (by omega)]; omega
  have e2 : wrap64 ((i : Int) + 1) = ((i + 1 : Nat) : Int) := by clear e1; rw [w64 (by omega) (by omega)]; omega
  obtain ⟨-, hd, hc, hv, hz⟩ := h
  refine Ev.step (f := fun k => exact_mulWords.l0 k b (out.set (i + b.length) c) a (a.length : Int) ((i + 1 : Nat) : Int)) (fun k => ?_) (next _ ⟨by rw [List.length_set]; exact hl, Dig_set hd _ hc.1 hc.2, ?_, fun j hj => ?_⟩)
  ·simp only [exact_mulWords.l1, e1, e2]
   rw [if_neg (Int.lt_irrefl _), if_pos (Int.natCast_nonneg _), if_pos c2, Int.toNat_natCast]
  ·rw [vB_set _ _ _ _ c1, hz _ (Nat.le_refl _), Int.sub_zero, hv, take_succ, vB_all _ _ _ (Nat.le_refl _), Int.add_mul, Int.mul_assoc]
  ·rw [rd_set_ne _ _ _ _ (by clear hv e1 e2; omega)]
   exact hz j (by clear hv e1 e2; omega)
 | succ d ih =>
  intro j out c hj h
  have hj' : j < b.length := by omega
  have hn := mul_in ha hb hi hj' h
  have hl := h.1
  have c1 : i + j < out.length := by omega
  have c2 : ((i + j : Nat) : Int) < (out.length : Int) := Int.ofNat_lt.2 c1
  have c3 : (j : Int) < (b.length : Int) := Int.ofNat_lt.2 hj'
  have c4 : j + 1 + d = b.length := by omega
  have e1 : wrap64 ((i : Int) + (j : Int)) = ((i + j : Nat) : Int) := by rw [w64 (by omega) (by omega)]; omega
  have e2 : wrap64 ((j : Int) + 1) = ((j + 1 : Nat) : Int) := by clear e1; rw [w64 (by omega) (by omega)]; omega
  obtain ⟨-, hd, hc, -, -⟩ := h
  obtain ⟨x0, x1⟩ := Dig_rd ha i hi
  obtain ⟨y0, y1⟩ := Dig_rd hb j hj'
  obtain ⟨o0, o1⟩ := Dig_rd hd (i + j) c1
  obtain ⟨m0, m1, -, -⟩ := mul_add x0 x1 y0 y1 o0 o1 hc.1 hc.2
  have a1 := mul64_eq x0 x1 y0 y1
  have a2 := add64_eq (Int.emod_nonneg (rd a (i : Int) * rd b (j : Int)) (show (B64 : Int) ≠ 0 by decide)) o0 (Int.le_refl 0) (by decide)
  have a3 := add64_eq (Int.emod_nonneg (rd a (i : Int) * rd b (j : Int) % B64 + rd out ((i + j : Nat) : Int) + 0) (show (B64 : Int) ≠ 0 by decide)) hc.1 (Int.le_refl 0) (by decide)
  refine Ev.step (f := fun k => exact_mulWords.l1 k b (out.set (i + j) ((rd a (i : Int) * rd b (j : Int) + rd out ((i + j : Nat) : Int) + c) % B64)) (i : Int) (rd a (i : Int)) ((rd a (i : Int) * rd b (j : Int) + rd out ((i + j : Nat) : Int) + c) / B64) a (a.length : Int) (i : Int) b (b.length : Int) ((j + 1 : Nat) : Int)) (fun k => ?_) (ih (j + 1) _ _ c4 hn)
  simp only [exact_mulWords.l1, e1, e2]
  rw [if_pos c3, if_pos (Int.natCast_nonneg _), if_pos c3, a1, Option.bind_some, if_pos (Int.natCast_nonneg _), if_pos c2, a2, Option.bind_some, a3, Option.bind_some, m0, m1, Int.toNat_natCast]
theorem mulWords_l0 (a b : List Int) (ha : Dig B64 a) (hb : Dig B64 b) (la : a.length ≤ 1099511627776) (lb : b.length ≤ 1099511627776) : ∀ (d i : Nat) (out : List Int), i + d = a.length → MulOut a b out i →
  Ev (fun k => exact_mulWords.l0 k b out a (a.length : Int) (i : Int)) (d64 (vB B64 a * vB B64 b).toNat) := by
 intro d
 induction d with
 | zero =>
  intro i out hi h
  have hi : i = a.length := by omega
  subst hi
  obtain ⟨hl, hd, hv, hz⟩ := h
  rw [vB_all _ _ _ (Nat.le_refl _)] at hv
  refine Ev.step (f := fun k => (exact_trim.f k out).bind fun t => some t) (fun k => ?_) (Ev.bind (trim_ev hd (by omega)) ?_)
  ·simp only [exact_mulWords.l0]
   rw [if_neg (Int.lt_irrefl _)]
  ·rw [hv]
   exact Ev.now _
 | succ d ih =>
  intro i out hi h
  have hi' : i < a.length := by omega
  have c1 : (i : Int) < (a.length : Int) := Int.ofNat_lt.2 hi'
  obtain ⟨hl, hd, hv, hz⟩ := h
  refine Ev.step (f := fun k => exact_mulWords.l1 k b out (i : Int) (rd a (i : Int)) 0 a (a.length : Int) (i : Int) b (b.length : Int) ((0 : Nat) : Int)) (fun k => ?_) (mulWords_l1 a b ha hb la lb i hi' _ (fun out' h' => ih (i + 1) out' (by omega) h') b.length 0 out 0 (by omega) ⟨hl, hd, ⟨by decide, by decide⟩, ?_, hz⟩)
  ·simp only [exact_mulWords.l0]
   rw [if_pos c1, if_pos (Int.natCast_nonneg _), if_pos c1]
   rfl
  ·rw [hv]
   simp [vB]
theorem mulWords_ev {a b : List Int} (ha : Dig B64 a) (hb : Dig B64 b) (la : a.length ≤ 1099511627776) (lb : b.length ≤ 1099511627776) : Ev (fun k => exact_mulWords.f k a b) (d64 (vB B64 a * vB B64 b).toNat) := by
 have e1 : wrap64 ((a.length : Int) + (b.length : Int)) = ((a.length + b.length : Nat) : Int) := by rw [w64 (by omega) (by omega)]; omega
 refine Ev.congr (f := fun k => exact_mulWords.l0 k b (List.replicate (a.length + b.length) 0) a (a.length : Int) ((0 : Nat) : Int)) (fun k => ?_) (mulWords_l0 a b ha hb la lb a.length 0 _ (by omega) ⟨by simp, Dig_replicate (by decide) _, ?_, fun j _ => rd_replicate _ _⟩)
 ·unfold exact_mulWords.f
  rw [e1, if_pos (Int.natCast_nonneg _), Int.toNat_natCast, if_pos (by omega)]
  rfl
 ·rw [vB_replicate]
  simp [vB]
theorem mulWords_d64 {m n : Nat} (lm : (d64 m).length ≤ 1099511627776) (ln : (d64 n).length ≤ 1099511627776) : Ev (fun k => exact_mulWords.f k (d64 m) (d64 n)) (d64 (m * n)) := by
 have := mulWords_ev (d64_dig m) (d64_dig n) lm ln
 rw [d64_val, d64_val] at this
 rwa [show ((m : Int) * (n : Int)).toNat = m * n by rw [← Int.natCast_mul, Int.toNat_natCast]] at this
end Go.Proofs.YtdhdfcjpeflinaaN
set_option linter.unusedVariables false
namespace Go.Proofs.YtdhdfcjpeflinaaN
open Go.RowKit Go.Proofs.Ytdhdfcjpeflinaa.All Go.Proofs.YtdhdfcjpeflinaaW.PrintWords Go.Proofs.YtdhdfcjpeflinaaW.PrintLast Go.Proofs.YtdhdfcjpeflinaaW.PrintMore
theorem size_mono {m n : Nat} (h : m ≤ n) : (nat m).size ≤ (nat n).size := nat_size_le.2 (Nat.lt_of_le_of_lt h (nat_lt_size n))
theorem words_len (n : Nat) : (d64 n).length ≤ ((nat n).size + 7) / 8 := by
 apply dgs_len
 have h1 := nat_lt_size n
 have h2 : 256 ^ (nat n).size ≤ 256 ^ (8 * (((nat n).size + 7) / 8)) := Nat.pow_le_pow_right (by decide) (by omega)
 rw [Nat.pow_mul] at h2
 exact Nat.lt_of_lt_of_le h1 h2
def chk (s : ByteArray) : Int := if 0 < s.size ∧ bt s 0 = 0 then 1 else if 1024 < s.size then 4 else 0
theorem Check_ev (s : ByteArray) : Ev (fun k => natural_Check.f k s) (chk s) := by
 have hj : ∀ b : Bool, (b = true ↔ 0 < s.size ∧ bt s 0 = 0) → Ev (fun k => natural_Check.j0 k s b) (chk s) := by
  intro b hb
  refine Ev.step (f := fun _ => some (chk s)) (fun k => ?_) (Ev.now _)
  unfold chk
  simp only [natural_Check.j0]
  by_cases h : b = true
  ·rw [if_pos h, if_pos (hb.1 h)]
  ·rw [if_neg h, if_neg (fun h' => h (hb.2 h'))]
   by_cases h3 : 1024 < s.size
   ·rw [if_pos (by omega), if_pos h3]
   ·rw [if_neg (by omega), if_neg h3]
 by_cases h : 0 < s.size
 ·refine Ev.congr (f := fun k => natural_Check.j0 k s (bt s 0 == 0)) (fun k => ?_) (hj _ (by simp [h]))
  unfold natural_Check.f
  rw [if_pos (by omega), if_pos (by omega)]
 ·refine Ev.congr (f := fun k => natural_Check.j0 k s false) (fun k => ?_) (hj _ (by simp [h]))
  unfold natural_Check.f
  rw [if_neg (by omega)]
theorem chk_nat {n : Nat} (h : (nat n).size ≤ 1024) : chk (nat n) = 0 := by
 unfold chk
 rw [if_neg, if_neg (by omega)]
 rintro ⟨h1, h2⟩
 rcases nat_wf n with h3 | h3
 ·omega
 ·exact h3 h2
theorem chk_zero {s : ByteArray} (h : chk s = 0) : s = nat (bval s).toNat ∧ s.size ≤ 1024 := by
 unfold chk at h
 by_cases h1 : 0 < s.size ∧ bt s 0 = 0
 ·rw [if_pos h1] at h; omega
 ·rw [if_neg h1] at h
  refine ⟨wf_nat ?_, ?_⟩
  ·rcases Nat.eq_zero_or_pos s.size with h2 | h2
   ·exact Or.inl h2
   ·exact Or.inr (fun h3 => h1 ⟨h2, h3⟩)
  ·rcases Nat.lt_or_ge 1024 s.size with h2 | h2
   ·rw [if_pos h2] at h; omega
   ·exact h2
def bnd (n : Nat) : ByteArray × Int := if 1024 < (nat n).size then (⟨#[]⟩, 4) else (nat n, 0)
end Go.Proofs.YtdhdfcjpeflinaaN
set_option linter.unusedVariables false
namespace Go.Proofs.YtdhdfcjpeflinaaN
open Go.RowKit Go.Proofs.Ytdhdfcjpeflinaa.All Go.Proofs.YtdhdfcjpeflinaaW.PrintWords Go.Proofs.YtdhdfcjpeflinaaW.PrintLast Go.Proofs.YtdhdfcjpeflinaaW.PrintMore
theorem ev_some {α β : Type} {o : Option α} {f : Nat → α → Option β} {a : α} {r : β} (h : o = some a) (k : Ev (fun n => f n a) r) : Ev (fun n => o.bind (f n)) r := by subst h; exact k
theorem number {s : ByteArray} (h : chk s = 0) : ∃ n, s = nat n ∧ (nat n).size ≤ 1024 := by
 obtain ⟨h1, h2⟩ := chk_zero h
 exact ⟨_, h1, by rw [← h1]; exact h2⟩
end Go.Proofs.YtdhdfcjpeflinaaN
set_option linter.unusedVariables false
namespace Go.Proofs.YtdhdfcjpeflinaaN
open Go.RowKit Go.Proofs.Ytdhdfcjpeflinaa.All Go.Proofs.YtdhdfcjpeflinaaW.PrintWords Go.Proofs.YtdhdfcjpeflinaaW.PrintLast Go.Proofs.YtdhdfcjpeflinaaW.PrintMore
theorem shr_eq (x : Int) (s : Nat) (hs : s ≤ 64) : shr .u64 x (s : Int) = x / 2 ^ s := by
 unfold shr
 rw [Int.toNat_natCast, show min s IntKind.u64.bits = s from Nat.min_eq_left hs]
end Go.Proofs.YtdhdfcjpeflinaaN
set_option linter.unusedVariables false
namespace Go.Proofs.YtdhdfcjpeflinaaN
open Go.RowKit Go.Proofs.Ytdhdfcjpeflinaa.All Go.Proofs.YtdhdfcjpeflinaaW.PrintWords Go.Proofs.YtdhdfcjpeflinaaW.PrintLast Go.Proofs.YtdhdfcjpeflinaaW.PrintMore
end Go.Proofs.YtdhdfcjpeflinaaN
set_option linter.unusedVariables false
namespace Go.Proofs.YtdhdfcjpeflinaaN
open Go.RowKit Go.Proofs.Ytdhdfcjpeflinaa.All Go.Proofs.YtdhdfcjpeflinaaW.PrintWords Go.Proofs.YtdhdfcjpeflinaaW.PrintLast Go.Proofs.YtdhdfcjpeflinaaW.PrintMore
end Go.Proofs.YtdhdfcjpeflinaaN
set_option linter.unusedVariables false
namespace Go.Proofs.YtdhdfcjpeflinaaN
open Go.RowKit Go.Proofs.Ytdhdfcjpeflinaa.All Go.Proofs.YtdhdfcjpeflinaaW.PrintWords Go.Proofs.YtdhdfcjpeflinaaW.PrintLast Go.Proofs.YtdhdfcjpeflinaaW.PrintMore
end Go.Proofs.YtdhdfcjpeflinaaN
set_option linter.unusedVariables false
namespace Go.Proofs.YtdhdfcjpeflinaaN
open Go.RowKit Go.Proofs.Ytdhdfcjpeflinaa.All Go.Proofs.YtdhdfcjpeflinaaW.PrintWords Go.Proofs.YtdhdfcjpeflinaaW.PrintLast Go.Proofs.YtdhdfcjpeflinaaW.PrintMore
theorem drop_succ (B : Int) (l : List Int) (i : Nat) (h : i < l.length) : vB B (l.drop i) = rd l (i : Int) + B * vB B (l.drop (i + 1)) := by
 rw [List.drop_eq_getElem_cons h, vB_cons, rd_get l i h]
end Go.Proofs.YtdhdfcjpeflinaaN
set_option linter.unusedVariables false
namespace Go.Proofs.YtdhdfcjpeflinaaN
open Go.RowKit Go.Proofs.Ytdhdfcjpeflinaa.All Go.Proofs.YtdhdfcjpeflinaaW.PrintWords Go.Proofs.YtdhdfcjpeflinaaW.PrintLast Go.Proofs.YtdhdfcjpeflinaaW.PrintMore
end Go.Proofs.YtdhdfcjpeflinaaN
set_option linter.unusedVariables false
namespace Go.Proofs.YtdhdfcjpeflinaaN
open Go.RowKit Go.Proofs.Ytdhdfcjpeflinaa.All Go.Proofs.YtdhdfcjpeflinaaW.PrintWords Go.Proofs.YtdhdfcjpeflinaaW.PrintLast Go.Proofs.YtdhdfcjpeflinaaW.PrintMore
theorem nat_empty {n : Nat} : (nat n).toList = ([] : List UInt8) ↔ n = 0 := by rw [toList_nil, nat_size_zero]
end Go.Proofs.YtdhdfcjpeflinaaN
set_option linter.unusedVariables false
namespace Go.Proofs.YtdhdfcjpeflinaaN
open Go.RowKit Go.Proofs.Ytdhdfcjpeflinaa.All Go.Proofs.YtdhdfcjpeflinaaW.PrintWords Go.Proofs.YtdhdfcjpeflinaaW.PrintLast Go.Proofs.YtdhdfcjpeflinaaW.PrintMore
theorem len_mul (m n : Nat) : (d64 (m * n)).length ≤ (d64 m).length + (d64 n).length := by
 apply dgs_len
 have h1 := dgs_lt 18446744073709551614 m
 have h2 := dgs_lt 18446744073709551614 n
 rw [Nat.pow_add]
 exact Nat.lt_of_le_of_lt (Nat.mul_le_mul_right _ (Nat.le_of_lt h1)) (Nat.mul_lt_mul_of_pos_left h2 (Nat.lt_of_le_of_lt (Nat.zero_le _) h1))
theorem d64_one : d64 1 = [1] := by
 unfold d64
 rw [dgs_pos _ _ (by decide), show 1 / (18446744073709551614 + 2) = 0 from rfl, dgs_zero]
 rfl
theorem wraps_i64 (n : Int) (h0 : 0 ≤ n) (h1 : n < 2 ^ 63) : IntKind.i64.wrap n = n := by rw [IntKind.wrap_i64]; omega
theorem odd_bit (e : Nat) (h : e < 9223372036854775808) : Go.bits .and .i64 (e : Int) 1 = ((e % 2 : Nat) : Int) := by
 have := bits_mask .i64 63 (by decide) wraps_i64 1 (by decide) (e : Int) (by omega) (by omega)
 have e1 : (2 : Int) ^ 1 - 1 = 1 := rfl
 rw [e1] at this
 rw [this]
 omega
theorem NatPow_l0 : ∀ (e A X : Nat), e < 9223372036854775808 → (d64 A).length + 2 * e * (d64 X).length ≤ 1000000000000 → (d64 X).length ≤ 1000000000000 → Ev (fun k => exact_NatPow.l0 k (e : Int) (d64 A) (d64 X)) (nat (A * X ^ e)) := by
 intro e
 induction e using Nat.strongRecOn with
 | _ e ih =>
  intro A X he hl hx
  by_cases h : e = 0
  ·subst h
   have p := pack_ev (d64_dig A) (by omega)
   rw [d64_val, Int.toNat_natCast] at p
   rw [Nat.pow_zero, Nat.mul_one]
   refine Ev.step (f := fun k => (exact_pack.f k (d64 A)).bind fun t => some t) (fun k => ?_) (Ev.bind p (Ev.now _))
   simp only [exact_NatPow.l0]
   rw [if_neg (by decide)]
  ·have c1 : (e : Int) > 0 := by omega
   have hb := odd_bit e he
   have e2 : (e : Int) / 2 = ((e / 2 : Nat) : Int) := by omega
   have lXX := len_mul X X
   have lAX := len_mul A X
   have hX : (d64 X).length ≤ e * (d64 X).length := Nat.le_mul_of_pos_left _ (Nat.pos_of_ne_zero h)
   have h2 : 2 * e * (d64 X).length = 2 * (e * (d64 X).length) := Nat.mul_assoc _ _ _
   have hhalf : 2 * (e / 2) * (d64 (X * X)).length ≤ 4 * (e / 2 * (d64 X).length) := by
    have := Nat.mul_le_mul_left (2 * (e / 2)) lXX
    have e3 : 2 * (e / 2) * ((d64 X).length + (d64 X).length) = 4 * (e / 2 * (d64 X).length) := by
     rw [Nat.mul_add, Nat.mul_assoc]
     omega
    omega
   have hcut : 2 * (e / 2 * (d64 X).length) + e % 2 * (d64 X).length = e * (d64 X).length := by
    rw [← Nat.mul_assoc, ← Nat.add_mul]
    congr 1
    omega
   rw [h2] at hl
   have sq := mulWords_d64 (m := X) (n := X) (by omega) (by omega)
   by_cases ho : e % 2 = 1
   ·rw [ho, Nat.one_mul] at hcut
    have ax := mulWords_d64 (m := A) (n := X) (by omega) (by omega)
    have hp : A * X ^ e = A * X * (X * X) ^ (e / 2) := by
     have : X ^ e = X * (X * X) ^ (e / 2) := by
      rw [← Nat.pow_two, ← Nat.pow_mul, Nat.mul_comm X, ← Nat.pow_succ]
      congr 1
      omega
     rw [this, Nat.mul_assoc]
    rw [hp]
    refine Ev.step (f := fun k => (exact_mulWords.f k (d64 A) (d64 X)).bind fun t301 => ((exact_mulWords.f k (d64 X) (d64 X)).bind fun t304 => exact_NatPow.l0 k ((e / 2 : Nat) : Int) t301 t304)) (fun k => ?_) (Ev.bind ax (Ev.bind sq (ih (e / 2) (by omega) _ _ (by omega) (by omega) (by omega))))
    simp only [exact_NatPow.l0, hb, e2]
    rw [if_pos c1, if_pos (by rw [ho]; rfl)]
   ·have ho' : e % 2 = 0 := by omega
    rw [ho', Nat.zero_mul, Nat.add_zero] at hcut
    have hp : A * X ^ e = A * (X * X) ^ (e / 2) := by
     have : X ^ e = (X * X) ^ (e / 2) := by
      rw [← Nat.pow_two, ← Nat.pow_mul]
      congr 1
      omega
     rw [this]
    rw [hp]
    refine Ev.step (f := fun k => (exact_mulWords.f k (d64 X) (d64 X)).bind fun t307 => exact_NatPow.l0 k ((e / 2 : Nat) : Int) (d64 A) t307) (fun k => ?_) (Ev.bind sq (ih (e / 2) (by omega) _ _ (by omega) (by omega) (by omega)))
    simp only [exact_NatPow.l0, hb, e2]
    rw [if_pos c1, if_neg (by rw [ho']; decide)]
theorem NatPow_ev {m e : Nat} (hm : (nat m).size ≤ 100000) (he : e ≤ 100000) : Ev (fun k => exact_NatPow.f k (nat m) (e : Int)) (nat (m ^ e)) := by
 have lm := words_len m
 refine Ev.bind (words_nat (by omega)) ?_
 have h1 : 2 * e * (d64 m).length ≤ 200000 * 100000 := Nat.mul_le_mul (by omega) (by omega)
 have := NatPow_l0 e 1 m (by omega) (by rw [d64_one]; show 1 + _ ≤ _; omega) (by omega)
 rw [d64_one, Nat.one_mul] at this
 exact this
def bl (n : Nat) : Nat := if n = 0 then 0 else n.log2 + 1
theorem bl_lt (n : Nat) : n < 2 ^ bl n := by
 unfold bl
 split
 ·subst_vars; decide
 ·exact Nat.lt_log2_self
theorem bl_le {n : Nat} (h : n ≠ 0) : 1 ≤ bl n ∧ 2 ^ (bl n - 1) ≤ n := by
 unfold bl
 rw [if_neg h]
 exact ⟨by omega, by simpa using Nat.log2_self_le h⟩
theorem bl_unique {n b : Nat} (h : n ≠ 0) (hb : 1 ≤ b) (h1 : 2 ^ (b - 1) ≤ n) (h2 : n < 2 ^ b) : bl n = b := by
 obtain ⟨g1, g2⟩ := bl_le h
 have g3 := bl_lt n
 have k1 : b - 1 < bl n := (Nat.pow_lt_pow_iff_right (by decide : 1 < 2)).1 (Nat.lt_of_le_of_lt h1 g3)
 have k2 : bl n - 1 < b := (Nat.pow_lt_pow_iff_right (by decide : 1 < 2)).1 (Nat.lt_of_le_of_lt g2 h2)
 omega
theorem bl_size {n : Nat} : bl n ≤ 8 * (nat n).size := by
 by_cases h : n = 0
 ·subst h; simp [bl]
 ·have h1 := nat_lt_size n
  obtain ⟨g1, g2⟩ := bl_le h
  have e : 256 ^ (nat n).size = 2 ^ (8 * (nat n).size) := by rw [Nat.pow_mul]
  rw [e] at h1
  have k2 : bl n - 1 < 8 * (nat n).size := (Nat.pow_lt_pow_iff_right (by decide : 1 < 2)).1 (Nat.lt_of_le_of_lt g2 h1)
  omega
theorem NatBits_eq {n : Nat} (hn : (nat n).size ≤ 1099511627776) : exact_NatBits.f (nat n) = some (bl n : Int) := by
 unfold exact_NatBits.f
 by_cases h : n = 0
 ·rw [if_pos (nat_empty.2 h), h]
  rfl
 ·have hp : 0 < (nat n).size := Nat.pos_of_ne_zero fun h0 => h (nat_size_zero.1 h0)
  have hl := nat_size n
  rw [if_neg (fun h0 => h (nat_empty.1 h0)), if_pos (by omega)]
  have ht : bt (nat n) 0 = rd (d8 n) (((nat n).size - 1 : Nat) : Int) := by
   have := rd_reverse (d8 n) 0 (by omega)
   rw [bt_rd, nat_bytes]
   rw [show (d8 n).length - 1 - 0 = (nat n).size - 1 by omega] at this
   exact this
  have hne : bt (nat n) 0 ≠ 0 := by
   rcases nat_wf n with h1 | h1
   ·omega
   ·exact h1
  obtain ⟨b0, b1⟩ := bt_range (nat n) 0
  obtain ⟨t, ht2⟩ := Int.eq_ofNat_of_zero_le b0
  rw [ht2] at ht hne b1 ⊢
  have hv := vB_all 256 (d8 n) ((nat n).size - 1 + 1) (by omega)
  rw [take_succ, d8_val, ← ht] at hv
  have lo0 := vB_nonneg (show (0 : Int) ≤ 256 by decide) (Dig_take (d8_dig n) ((nat n).size - 1))
  have lo1 := vB_lt (show (0 : Int) < 256 by decide) (Dig_take (d8_dig n) ((nat n).size - 1))
  rw [List.length_take, Nat.min_eq_left (by omega)] at lo1
  obtain ⟨l, hlo⟩ := Int.eq_ofNat_of_zero_le lo0
  rw [hlo] at hv lo1
  have hv' : l + 256 ^ ((nat n).size - 1) * t = n := by
   apply Int.ofNat_inj.1
   rw [Int.natCast_add, Int.natCast_mul, Int.natCast_pow]
   exact hv
  have lo1' : l < 256 ^ ((nat n).size - 1) := by
   apply Int.ofNat_lt.1
   rw [Int.natCast_pow]
   exact lo1
  obtain ⟨h1, h2, h3⟩ := Lib.bitLenAux_bounds 64 t (by omega) (by omega)
  have h4 : Lib.bitLen t ≤ 8 := Lib.bitLen_le t 8 (by decide) (by omega)
  have eb : Lib.bitLenAux 64 t = Lib.bitLen t := rfl
  rw [eb] at h1 h2 h3
  generalize hL : Lib.bitLen t = L at *
  have hb : bl n = 8 * ((nat n).size - 1) + L := by
   have e8 : 256 ^ ((nat n).size - 1) = 2 ^ (8 * ((nat n).size - 1)) := by rw [Nat.pow_mul]
   rw [e8] at hv' lo1'
   apply bl_unique h (by omega)
   ·rw [show 8 * ((nat n).size - 1) + L - 1 = 8 * ((nat n).size - 1) + (L - 1) by omega, Nat.pow_add]
    have := Nat.mul_le_mul_left (2 ^ (8 * ((nat n).size - 1))) h2
    omega
   ·rw [Nat.pow_add]
    have := Nat.mul_le_mul_left (2 ^ (8 * ((nat n).size - 1))) (show t + 1 ≤ 2 ^ L by omega)
    rw [Nat.mul_add, Nat.mul_one] at this
    omega
  unfold bits_Len8.f
  rw [if_pos (by omega), Option.bind_some, Int.toNat_natCast, hL, hb]
  clear hv' lo1' hv lo1 h2 h3 hb
  rw [w64 (x := ((nat n).size : Int) - 1) (by omega) (by omega), w64 (x := 8 * (((nat n).size : Int) - 1)) (by omega) (by omega), w64 (by omega) (by omega)]
  congr 1
  omega
end Go.Proofs.YtdhdfcjpeflinaaN
set_option linter.unusedVariables false
namespace Go.Proofs.YtdhdfcjpeflinaaN
open Go.RowKit Go.Proofs.Ytdhdfcjpeflinaa.All Go.Proofs.YtdhdfcjpeflinaaW.PrintWords Go.Proofs.YtdhdfcjpeflinaaW.PrintLast Go.Proofs.YtdhdfcjpeflinaaW.PrintMore
theorem size_two {m a s : Nat} (h : (nat m).size ≤ s) (h2 : 2 ^ a ≤ m) : a < 8 * s := by
 have h1 := nat_size_le.1 h
 have e8 : (256 : Nat) ^ s = 2 ^ (8 * s) := by rw [Nat.pow_mul]
 rw [e8] at h1
 exact (Nat.pow_lt_pow_iff_right (by decide : 1 < 2)).1 (Nat.lt_of_le_of_lt h2 h1)
end Go.Proofs.YtdhdfcjpeflinaaN
set_option linter.unusedVariables false
namespace Go.Proofs.YtdhdfcjpeflinaaN
open Go.RowKit Go.Proofs.Ytdhdfcjpeflinaa.All Go.Proofs.YtdhdfcjpeflinaaW.PrintWords Go.Proofs.YtdhdfcjpeflinaaW.PrintLast Go.Proofs.YtdhdfcjpeflinaaW.PrintMore
abbrev B32 : Int := 4294967296
def d32 (n : Nat) : List Int := dgs 4294967294 n
theorem d32_dig (n : Nat) : Dig B32 (d32 n) := (dgs_spec 4294967294 n).1
theorem d32_val (n : Nat) : vB B32 (d32 n) = n := (dgs_spec 4294967294 n).2.2
theorem d32_unique {l : List Int} {n : Nat} (hl : Dig B32 l) (ht : Trim l) (hv : vB B32 l = n) : l = d32 n := dgs_unique hl ht hv
theorem d32_zero : d32 0 = [] := dgs_zero _
theorem limbs_len (n : Nat) : (d32 n).length ≤ ((nat n).size + 3) / 4 := by
 apply dgs_len
 have h1 := nat_lt_size n
 have h2 : 256 ^ (nat n).size ≤ 256 ^ (4 * (((nat n).size + 3) / 4)) := Nat.pow_le_pow_right (by decide) (by omega)
 rw [Nat.pow_mul] at h2
 exact Nat.lt_of_lt_of_le h1 h2
theorem rtrim_ev : ∀ (n : Nat) (l : List Int), l.length = n → n < 9223372036854775808 → Dig B32 l → Ev (fun k => galoisref01_trim.f k l) (d32 (vB B32 l).toNat) := by
 intro n
 induction n with
 | zero =>
  intro l hl _ hd
  rw [List.eq_nil_of_length_eq_zero hl]
  refine Ev.step (f := fun _ => some []) (fun k => ?_) (by
   show Ev (fun _ => some []) (d32 0)
   rw [d32_zero]
   exact Ev.now _)
  simp [galoisref01_trim.f, galoisref01_trim.l0]
 | succ n ih =>
  intro l hl hn hd
  have hv := vB_nonneg (by decide) hd
  have e1 : wrap64 ((l.length : Int) - 1) = (n : Int) := by rw [w64 (by omega) (by omega)]; omega
  have hvs := take_succ B32 l n
  rw [vB_all _ _ _ (by omega)] at hvs
  by_cases hz : rd l (n : Int) = 0
  ·rw [hz, Int.mul_zero, Int.add_zero] at hvs
   rw [hvs]
   refine Ev.step (f := fun k => galoisref01_trim.f k (l.take n)) (fun k => ?_) (ih _ (by rw [List.length_take]; omega) (by omega) (Dig_take hd _))
   simp only [galoisref01_trim.f, galoisref01_trim.l0, e1]
   rw [if_pos (by omega), if_pos (by omega), if_pos (by omega), if_pos hz, if_pos (by omega), Int.toNat_natCast]
  ·have : l = d32 (vB B32 l).toNat := d32_unique hd (fun _ => by rw [hl, Nat.add_sub_cancel]; exact hz) (by omega)
   rw [← this]
   refine Ev.step (f := fun _ => some l) (fun k => ?_) (Ev.now _)
   simp only [galoisref01_trim.f, galoisref01_trim.l0, e1]
   rw [if_pos (by omega), if_pos (by omega), if_pos (by omega), if_neg hz]
def win (s : ByteArray) (a b : Nat) : Int := vB 256 (((bytesOf s).take b).drop a).reverse
theorem win_self (s : ByteArray) (a : Nat) : win s a a = 0 := by
 unfold win
 rw [List.drop_of_length_le (by rw [List.length_take]; omega)]
 rfl
theorem win_succ (s : ByteArray) (a b : Nat) (hab : a ≤ b) (hb : b < s.size) : win s a (b + 1) = win s a b * 256 + bt s (b : Int) := by
 unfold win
 rw [List.take_succ_eq_append_getElem (by rw [bytesOf_length]; exact hb), List.drop_append_of_le_length (by rw [List.length_take, bytesOf_length]; omega), List.reverse_append, List.reverse_singleton, List.singleton_append, vB_cons, bt_rd, rd_get _ b (by rw [bytesOf_length]; exact hb)]
 omega
theorem win_range (s : ByteArray) (a b : Nat) (hab : a ≤ b) (hb : b ≤ s.size) : 0 ≤ win s a b ∧ win s a b < 256 ^ (b - a) := by
 have hd : Dig 256 (((bytesOf s).take b).drop a).reverse := Dig_reverse (Dig_drop (Dig_take (bytesOf_dig s) _) _)
 refine ⟨vB_nonneg (by decide) hd, ?_⟩
 have := vB_lt (by decide) hd
 rw [List.length_reverse, List.length_drop, List.length_take, bytesOf_length, Nat.min_eq_left hb] at this
 exact this
theorem win_join (s : ByteArray) (a b c : Nat) (hab : a ≤ b) (hbc : b ≤ c) (hc : c ≤ s.size) : win s a c = win s b c + 256 ^ (c - b) * win s a b := by
 obtain ⟨d, rfl⟩ : ∃ d, c = b + d := ⟨c - b, by omega⟩
 induction d with
 | zero =>
  rw [Nat.add_zero, win_self, Nat.sub_self, Int.pow_zero, Int.one_mul, Int.zero_add]
 | succ d ih =>
  rw [← Nat.add_assoc, win_succ s a _ (by omega) (by omega), win_succ s b _ (by omega) (by omega), ih (by omega) (by omega)]
  rw [show b + d + 1 - b = (b + d - b) + 1 by omega, Int.pow_succ, Int.mul_right_comm]
  generalize 256 ^ (b + d - b) * win s a b = X
  omega
theorem win_all (s : ByteArray) : win s 0 s.size = bval s := by
 unfold win bval
 rw [List.drop_zero, List.take_of_length_le (by rw [bytesOf_length]; exact Nat.le_refl _)]
theorem limbs_l1 (s : ByteArray) (hs : s.size ≤ 1099511627776) (out : List Int) (lo : Nat) (hlo : out.length ≤ 1099511627776) (e : Nat) (he : e ≤ s.size) (hle : lo ≤ e) (h4 : e ≤ lo + 4) (r : List Int)
  (next : Ev (fun k => galoisref01_limbs.l0 k s (out ++ [win s lo e]) ((e : Int) - 4)) r) : ∀ (d i : Nat), i + d = e → lo ≤ i → Ev (fun k => galoisref01_limbs.l1 k s out (e : Int) (win s lo i) (i : Int)) r := by
 intro d
 induction d with
 | zero =>
  intro i hi hl
  have hi : i = e := by omega
  subst hi
  have e1 : wrap64 ((i : Int) - 4) = (i : Int) - 4 := w64 (by omega) (by omega)
  refine Ev.step (fun k => ?_) next
  simp only [galoisref01_limbs.l1, e1]
  rw [if_neg (Int.lt_irrefl _), if_pos (by omega)]
 | succ d ih =>
  intro i hi hl
  have c1 : (i : Int) < (e : Int) := by omega
  have c2 : (i : Int) < (s.size : Int) := by omega
  have e1 : wrap64 ((i : Int) + 1) = ((i + 1 : Nat) : Int) := by rw [w64 (by omega) (by omega)]; omega
  obtain ⟨w0, w1⟩ := win_range s lo i hl (by omega)
  have w2 : win s lo i < 16777216 := by
   refine Int.lt_of_lt_of_le w1 ?_
   exact pow_le_pow (B := 256) (by decide) (show i - lo ≤ 3 by omega)
  obtain ⟨b0, b1⟩ := bt_range s (i : Int)
  have e2 : IntKind.u64.wrap (IntKind.u64.wrap (win s lo i * 256) + IntKind.u64.wrap (bt s (i : Int))) = win s lo (i + 1) := by
   rw [win_succ s lo i hl (by omega), u64 (x := win s lo i * 256) (by omega) (by omega), u64 (x := bt s (i : Int)) (by omega) (by omega), u64 (by omega) (by omega)]
  refine Ev.step (f := fun k => galoisref01_limbs.l1 k s out (e : Int) (win s lo (i + 1)) ((i + 1 : Nat) : Int)) (fun k => ?_) (ih (i + 1) (by omega) (by omega))
  simp only [galoisref01_limbs.l1, e1, e2]
  rw [if_pos c1, if_pos (Int.natCast_nonneg _), if_pos c2]
theorem limbs_end (s : ByteArray) (out : List Int) (hd : Dig B32 out) (hl : out.length ≤ 1099511627776) (hv : vB B32 out = bval s) (x : Int) (hx : ¬ x > 0) : Ev (fun k => galoisref01_limbs.l0 k s out x) (d32 (bval s).toNat) := by
 have h := rtrim_ev out.length out rfl (by omega) hd
 rw [hv] at h
 refine Ev.step (f := fun k => (galoisref01_trim.f k out).bind fun t => some t) (fun k => ?_) (Ev.bind h (Ev.now _))
 simp only [galoisref01_limbs.l0]
 rw [if_neg hx]
theorem limbs_l0 (s : ByteArray) (hs : s.size ≤ 1099511627776) : ∀ (e : Nat) (out : List Int), e ≤ s.size → 4 * out.length = s.size - e → Dig B32 out → vB B32 out = win s e s.size → Ev (fun k => galoisref01_limbs.l0 k s out (e : Int)) (d32 (bval s).toNat) := by
 intro e
 induction e using Nat.strongRecOn with
 | _ e ih =>
  intro out he hl hd hv
  by_cases h0 : e = 0
  ·subst h0
   exact limbs_end s out hd (by omega) (by rw [hv, win_all]) _ (by omega)
  ·have hmx : mx 0 (wrap64 ((e : Int) - 4)) = ((e - 4 : Nat) : Int) := by
    rw [w64 (by omega) (by omega)]
    unfold mx
    split <;> omega
   have hw := win_range s (e - 4) e (by omega) he
   have hw1 : win s (e - 4) e < B32 := by
    refine Int.lt_of_lt_of_le hw.2 ?_
    exact pow_le_pow (B := 256) (by decide) (show e - (e - 4) ≤ 4 by omega)
   have hd' : Dig B32 (out ++ [win s (e - 4) e]) := Dig_append hd (Dig_cons.2 ⟨⟨hw.1, hw1⟩, Dig_nil _⟩)
   have hpow : (B32 : Int) ^ out.length = 256 ^ (s.size - e) := by
    rw [← hl, Int.pow_mul]
    rfl
   have hv' : vB B32 (out ++ [win s (e - 4) e]) = win s (e - 4) s.size := by
    rw [vB_append, hpow, hv, win_join s (e - 4) e s.size (by omega) he (Nat.le_refl _)]
    simp [vB]
   refine Ev.step (f := fun k => galoisref01_limbs.l1 k s out (e : Int) (win s (e - 4) (e - 4)) ((e - 4 : Nat) : Int)) (fun k => ?_) (limbs_l1 s hs out (e - 4) (by omega) e he (by omega) (by omega) _ ?_ (e - (e - 4)) (e - 4) (by omega) (Nat.le_refl _))
   ·simp only [galoisref01_limbs.l0, hmx]
    rw [if_pos (by omega), win_self]
   ·by_cases h4 : e ≤ 4
    ·refine limbs_end s _ hd' (by rw [List.length_append]; simp; omega) ?_ _ (by omega)
     rw [hv', show e - 4 = 0 by omega, win_all]
    ·have := ih (e - 4) (by omega) (out ++ [win s (e - 4) e]) (by omega) (by rw [List.length_append]; simp; omega) hd' hv'
     rwa [show ((e - 4 : Nat) : Int) = (e : Int) - 4 by omega] at this
theorem limbs_ev (s : ByteArray) (hs : s.size ≤ 1099511627776) : Ev (fun k => galoisref01_limbs.f k s) (d32 (bval s).toNat) :=
 limbs_l0 s hs s.size [] (Nat.le_refl _) (by simp) (Dig_nil _) (by rw [win_self]; rfl)
theorem limbs_nat {n : Nat} (hs : (nat n).size ≤ 1099511627776) : Ev (fun k => galoisref01_limbs.f k (nat n)) (d32 n) := by
 have := limbs_ev (nat n) hs
 rwa [bval_nat, Int.toNat_natCast] at this
theorem d8_push {N x : Nat} (hx : x < 256) (h : N * 256 + x ≠ 0) : d8 (N * 256 + x) = (x : Int) :: d8 N := by
 unfold d8
 rw [dgs_pos _ _ h, show (N * 256 + x) % (254 + 2) = x by omega, show (N * 256 + x) / (254 + 2) = N by omega]
theorem rpack_byte {N x : Nat} (hx : x < 256) : (if (((d8 N).reverse.length : Int) > 0) then (d8 N).reverse ++ [(x : Int)] else if (x : Int) > 0 then (d8 N).reverse ++ [(x : Int)] else (d8 N).reverse) = (d8 (N * 256 + x)).reverse := by
 by_cases h : N * 256 + x = 0
 ·have hN : N = 0 := by omega
  have hx0 : x = 0 := by omega
  subst hN hx0
  have : d8 0 = [] := dgs_zero _
  rw [show 0 * 256 + 0 = 0 from rfl, this]
  simp
 ·rw [d8_push hx h, List.reverse_cons]
  by_cases h1 : ((d8 N).reverse.length : Int) > 0
  ·rw [if_pos h1]
  ·rw [if_neg h1, if_pos]
   have : N = 0 := by
    rcases Nat.eq_zero_or_pos N with h2 | h2
    ·exact h2
    ·exfalso
     have h3 : (nat N).size ≠ 0 := fun h4 => by have := nat_size_zero.1 h4; omega
     rw [nat_size] at h3
     rw [List.length_reverse] at h1
     omega
   omega
theorem rpack_l1 {l : List Int} {V : Nat} (hd : Dig B32 l) (hl : l.length ≤ 1099511627776) (hV : (nat V).size ≤ 4398046511104) {i H D : Nat} (hi : i < l.length) (hD : rd l (i : Int) = D) (hle : H * 4294967296 + D ≤ V) {r : ByteArray}
  (next : Ev (fun k => galoisref01_pack.l0 k l (d8 (H * 4294967296 + D)).reverse ((i : Int) - 1)) r) : ∀ (c N : Nat), c ≤ 4 → N = H * 256 ^ (4 - c) + D / 256 ^ c → Ev (fun k => galoisref01_pack.l1 k l (d8 N).reverse (i : Int) (8 * (c : Int) - 8)) r := by
 have hD32 : D < 4294967296 := by
  have h := (Dig_rd hd i hi).2
  rw [hD] at h
  exact Int.ofNat_lt.1 h
 intro c
 induction c with
 | zero =>
  intro N _ hN
  have hN : N = H * 4294967296 + D := by simpa using hN
  rw [hN]
  have e1 : wrap64 ((i : Int) - 1) = (i : Int) - 1 := w64 (by omega) (by omega)
  refine Ev.step (fun k => ?_) next
  simp only [galoisref01_pack.l1, e1]
  rw [if_neg (by decide)]
 | succ c ih =>
  intro N hc hN
  have hcase : c = 0 ∨ c = 1 ∨ c = 2 ∨ c = 3 := by omega
  have hNV : N ≤ V := by
   refine Nat.le_trans ?_ hle
   rw [hN]
   exact Nat.add_le_add (Nat.mul_le_mul_left H (Nat.pow_le_pow_right (show 0 < 256 by decide) (show 4 - (c + 1) ≤ 4 from Nat.sub_le _ _))) (Nat.div_le_self _ _)
  have hb : ∃ x : Nat, x < 256 ∧ (shr .u64 (rd l (i : Int)) (8 * ((c + 1 : Nat) : Int) - 8)) % 256 = (x : Int) ∧ N * 256 + x = H * 256 ^ (4 - c) + D / 256 ^ c := by
   refine ⟨D / 256 ^ c % 256, Nat.mod_lt _ (by decide), ?_, ?_⟩
   ·rw [show 8 * ((c + 1 : Nat) : Int) - 8 = ((8 * c : Nat) : Int) by omega, shr_eq _ _ (by omega), hD]
    rcases hcase with rfl | rfl | rfl | rfl <;> simp <;> omega
   ·rw [hN]
    rcases hcase with rfl | rfl | rfl | rfl <;> simp <;> omega
  obtain ⟨x, x1, x2, x3⟩ := hb
  have hsz : (d8 N).reverse.length < 140737488355328 := by
   have := size_mono hNV
   rw [nat_size] at this
   rw [List.length_reverse]
   omega
  have e1 : wrap64 (8 * ((c + 1 : Nat) : Int) - 8 - 8) = 8 * (c : Int) - 8 := by rw [w64 (by omega) (by omega)]; omega
  refine Ev.step (f := fun k => galoisref01_pack.l1 k l (d8 (N * 256 + x)).reverse (i : Int) (8 * (c : Int) - 8)) (fun k => ?_) (ih (N * 256 + x) (by omega) x3)
  rw [← rpack_byte x1]
  simp only [galoisref01_pack.l1, e1, x2]
  rw [if_pos (by omega), if_pos (by omega), if_pos (by omega), if_pos (by omega)]
  by_cases h1 : ((d8 N).reverse.length : Int) > 0
  ·rw [if_pos h1, if_pos hsz, if_pos h1]
  ·rw [if_neg h1, if_neg h1]
   by_cases h2 : (x : Int) > 0
   ·rw [if_pos h2, if_pos hsz, if_pos h2]
   ·rw [if_neg h2, if_neg h2]
theorem rpack_l0 {l : List Int} {V : Nat} (hd : Dig B32 l) (hl : l.length ≤ 1099511627776) (hV : (nat V).size ≤ 4398046511104) (hv : vB B32 l = V) : ∀ (J H : Nat), J ≤ l.length → vB B32 (l.drop J) = H → Ev (fun k => galoisref01_pack.l0 k l (d8 H).reverse ((J : Int) - 1)) (nat V) := by
 intro J
 induction J with
 | zero =>
  intro H _ hH
  rw [List.drop_zero, hv] at hH
  have e : H = V := by omega
  subst e
  refine Ev.step (f := fun _ => some (nat H)) (fun k => ?_) (Ev.now _)
  simp only [galoisref01_pack.l0]
  rw [if_neg (by decide)]
  rfl
 | succ i ih =>
  intro H hJ hH
  have hi : i < l.length := by omega
  obtain ⟨D, hD⟩ := Int.eq_ofNat_of_zero_le (Dig_rd hd i hi).1
  have hds := drop_succ B32 l i hi
  rw [hH, hD] at hds
  have hds' : vB B32 (l.drop i) = ((H * 4294967296 + D : Nat) : Int) := by
   rw [hds]
   show (D : Int) + 4294967296 * (H : Int) = _
   omega
  have hle : H * 4294967296 + D ≤ V := by
   have h1 := vB_split B32 l i (by omega)
   have h2 := vB_nonneg (show (0 : Int) ≤ B32 by decide) (Dig_take hd i)
   have h3 : (1 : Int) ≤ B32 ^ i := by have : (0 : Int) < B32 ^ i := Int.pow_pos (by decide); omega
   have h4 := Int.mul_le_mul_of_nonneg_right h3 (show 0 ≤ vB B32 (l.drop i) from vB_nonneg (by decide) (Dig_drop hd i))
   rw [Int.one_mul] at h4
   rw [hv] at h1
   rw [hds'] at h1 h4
   generalize B32 ^ i * ((H * 4294967296 + D : Nat) : Int) = X at *
   clear h3
   omega
  refine Ev.congr (f := fun k => galoisref01_pack.l0 k l (d8 H).reverse (i : Int)) (fun k => by rw [show ((i + 1 : Nat) : Int) - 1 = (i : Int) by omega]) ?_
  refine Ev.step (f := fun k => galoisref01_pack.l1 k l (d8 H).reverse (i : Int) (8 * ((4 : Nat) : Int) - 8)) (fun k => ?_) (rpack_l1 hd hl hV hi hD hle (ih _ (by omega) hds') 4 H (Nat.le_refl _) ?_)
  ·simp only [galoisref01_pack.l0]
   rw [if_pos (by omega)]
   rfl
  ·have hD32 : D < 4294967296 := by
    have h := (Dig_rd hd i hi).2
    rw [hD] at h
    exact Int.ofNat_lt.1 h
   simp
   omega
theorem rpack_ev {l : List Int} (hd : Dig B32 l) (hl : l.length ≤ 1099511627776) : Ev (fun k => galoisref01_pack.f k l) (nat (vB B32 l).toNat) := by
 have hv := vB_nonneg (show (0 : Int) ≤ B32 by decide) hd
 have hV : (nat (vB B32 l).toNat).size ≤ 4398046511104 := by
  have h : (nat (vB B32 l).toNat).size ≤ 4 * l.length := by
   apply nat_size_le.2
   have h1 := vB_lt (show (0 : Int) < B32 by decide) hd
   rw [Nat.pow_mul]
   have h2 : (((vB B32 l).toNat : Nat) : Int) < ((4294967296 ^ l.length : Nat) : Int) := by
    rw [Int.toNat_of_nonneg hv, Int.natCast_pow]
    exact h1
   exact Int.ofNat_lt.1 h2
  omega
 have e1 : wrap64 ((l.length : Int) - 1) = (l.length : Int) - 1 := w64 (by omega) (by omega)
 have := rpack_l0 hd hl hV (show vB B32 l = (((vB B32 l).toNat : Nat) : Int) by omega) l.length 0 (Nat.le_refl _) (by rw [List.drop_of_length_le (Nat.le_refl _)]; rfl)
 refine Ev.congr (fun k => ?_) this
 unfold galoisref01_pack.f
 rw [e1, show d8 0 = [] from dgs_zero _]
 rfl
end Go.Proofs.YtdhdfcjpeflinaaN
set_option linter.unusedVariables false
namespace Go.Proofs.YtdhdfcjpeflinaaN
open Go.RowKit Go.Proofs.Ytdhdfcjpeflinaa.All Go.Proofs.YtdhdfcjpeflinaaW.PrintWords Go.Proofs.YtdhdfcjpeflinaaW.PrintLast Go.Proofs.YtdhdfcjpeflinaaW.PrintMore
theorem and32 {x : Int} (h0 : 0 ≤ x) (h1 : x < 18446744073709551616) : Go.bits .and .u64 x 4294967295 = x % B32 := and_low h0 h1
end Go.Proofs.YtdhdfcjpeflinaaN
set_option linter.unusedVariables false
namespace Go.Proofs.YtdhdfcjpeflinaaN
open Go.RowKit Go.Proofs.Ytdhdfcjpeflinaa.All Go.Proofs.YtdhdfcjpeflinaaW.PrintWords Go.Proofs.YtdhdfcjpeflinaaW.PrintLast Go.Proofs.YtdhdfcjpeflinaaW.PrintMore
theorem rmul_add {x y o c : Int} (x0 : 0 ≤ x) (x1 : x < B32) (y0 : 0 ≤ y) (y1 : y < B32) (o0 : 0 ≤ o) (o1 : o < B32) (c0 : 0 ≤ c) (c1 : c < B32) :
  0 ≤ (x * y + o + c) / B32 ∧ (x * y + o + c) / B32 < B32 ∧ IntKind.u64.wrap (IntKind.u64.wrap (o + IntKind.u64.wrap (x * y)) + c) = x * y + o + c ∧ Go.bits .and .u64 (x * y + o + c) 4294967295 = (x * y + o + c) % B32 := by
 have x1' : x < 4294967296 := x1
 have y1' : y < 4294967296 := y1
 have o1' : o < 4294967296 := o1
 have c1' : c < 4294967296 := c1
 have hp := mul_range x0 (show x ≤ 4294967295 by omega) y0 (show y ≤ 4294967295 by omega)
 have h1 : (4294967295 : Int) * 4294967295 = 18446744065119617025 := rfl
 rw [h1] at hp
 rw [and32 (x := x * y + o + c) (by omega) (by omega)]
 show 0 ≤ (x * y + o + c) / 4294967296 ∧ (x * y + o + c) / 4294967296 < 4294967296 ∧ IntKind.u64.wrap (IntKind.u64.wrap (o + IntKind.u64.wrap (x * y)) + c) = x * y + o + c ∧ (x * y + o + c) % 4294967296 = (x * y + o + c) % 4294967296
 generalize x * y = p at *
 clear x0 x1 x1' y0 y1 y1' o1 c1 h1
 rw [u64 (x := p) (by omega) (by omega), u64 (x := o + p) (by omega) (by omega), u64 (x := o + p + c) (by omega) (by omega)]
 omega
def RMulOut (a b out : List Int) (i : Nat) : Prop :=
 out.length = a.length + b.length ∧ Dig B32 out ∧ vB B32 out = vB B32 (a.take i) * vB B32 b ∧ ∀ j : Nat, i + b.length ≤ j → rd out (j : Int) = 0
def RMulIn (a b out : List Int) (i j : Nat) (c : Int) : Prop :=
 out.length = a.length + b.length ∧ Dig B32 out ∧ (0 ≤ c ∧ c < B32) ∧ vB B32 out + B32 ^ (i + j) * c = vB B32 (a.take i) * vB B32 b + B32 ^ i * (rd a (i : Int) * vB B32 (b.take j)) ∧ ∀ n : Nat, i + b.length ≤ n → rd out (n : Int) = 0
theorem rmul_in {a b out : List Int} {i j : Nat} {c : Int} (ha : Dig B32 a) (hb : Dig B32 b) (hi : i < a.length) (hj : j < b.length) (h : RMulIn a b out i j c) :
  RMulIn a b (out.set (i + j) ((rd a (i : Int) * rd b (j : Int) + rd out ((i + j : Nat) : Int) + c) % B32)) i (j + 1) ((rd a (i : Int) * rd b (j : Int) + rd out ((i + j : Nat) : Int) + c) / B32) := by
 obtain ⟨hl, hd, hc, hv, hz⟩ := h
 obtain ⟨x0, x1⟩ := Dig_rd ha i hi
 obtain ⟨y0, y1⟩ := Dig_rd hb j hj
 obtain ⟨o0, o1⟩ := Dig_rd hd (i + j) (by omega)
 obtain ⟨n0, n1, -⟩ := rmul_add x0 x1 y0 y1 o0 o1 hc.1 hc.2
 refine ⟨by rw [List.length_set]; exact hl, Dig_set hd _ (Int.emod_nonneg _ (by decide)) (Int.emod_lt_of_pos _ (by decide)), ⟨n0, n1⟩, ?_, fun n hn => ?_⟩
 ·rw [vB_set _ _ _ _ (by omega), take_succ, ← Nat.add_assoc, Int.pow_succ]
  have e := Int.emod_add_mul_ediv (rd a (i : Int) * rd b (j : Int) + rd out ((i + j : Nat) : Int) + c) B32
  generalize (rd a (i : Int) * rd b (j : Int) + rd out ((i + j : Nat) : Int) + c) / B32 = q at *
  generalize (rd a (i : Int) * rd b (j : Int) + rd out ((i + j : Nat) : Int) + c) % B32 = r at *
  have er : r = rd a (i : Int) * rd b (j : Int) + rd out ((i + j : Nat) : Int) + c - B32 * q := by omega
  rw [er]
  have ep : (B32 : Int) ^ (i + j) = B32 ^ i * B32 ^ j := Int.pow_add _ _ _
  rw [ep] at hv ⊢
  clear ep
  generalize vB B32 out = V at *
  generalize vB B32 (List.take i a) * vB B32 b = W at *
  generalize vB B32 (List.take j b) = U at *
  generalize (B32 : Int) ^ i = P at *
  generalize (B32 : Int) ^ j = Q at *
  generalize rd a (i : Int) = x at *
  generalize rd b (j : Int) = y at *
  generalize rd out ((i + j : Nat) : Int) = o at *
  have e1 : P * Q * (x * y + o + c - B32 * q - o) = P * Q * (x * y) + P * Q * c - P * Q * B32 * q := by
   rw [show x * y + o + c - B32 * q - o = x * y + c - B32 * q by omega, Int.mul_sub, Int.mul_add, Int.mul_assoc (P * Q) B32 q]
  have e2 : P * (x * (U + Q * y)) = P * (x * U) + P * Q * (x * y) := by
   rw [Int.mul_add x, Int.mul_add P, Int.mul_left_comm x Q y, Int.mul_assoc P Q]
  rw [e1, e2]
  omega
 ·rw [rd_set_ne _ _ _ _ (by omega)]
  exact hz n hn
theorem rMul_l1 (a b : List Int) (ha : Dig B32 a) (hb : Dig B32 b) (la : a.length ≤ 1099511627776) (lb : b.length ≤ 1099511627776) (i : Nat) (hi : i < a.length) (r : ByteArray)
  (next : ∀ out, RMulOut a b out (i + 1) → Ev (fun k => galoisref01_Mul.l0 k a b out ((i + 1 : Nat) : Int)) r) : ∀ (d j : Nat) (out : List Int) (c : Int), j + d = b.length → RMulIn a b out i j c →
  Ev (fun k => galoisref01_Mul.l1 k a b out (i : Int) c (j : Int)) r := by
 intro d
 induction d with
 | zero =>
  intro j out c hj h
  have hj : j = b.length := by omega
  subst hj
  have hl := h.1
  have c1 : i + b.length < out.length := by omega
  have c2 : ((i + b.length : Nat) : Int) < (out.length : Int) := Int.ofNat_lt.2 c1
  have e1 : wrap64 ((i : Int) + (b.length : Int)) = ((i + b.length : Nat) : Int) := by rw [w64 (by omega) (by omega)]; omega
  have e2 : wrap64 ((i : Int) + 1) = ((i + 1 : Nat) : Int) := by clear e1; rw [w64 (by omega) (by omega)]; omega
  obtain ⟨-, hd, hc, hv, hz⟩ := h
  refine Ev.step (f := fun k => galoisref01_Mul.l0 k a b (out.set (i + b.length) c) ((i + 1 : Nat) : Int)) (fun k => ?_) (next _ ⟨by rw [List.length_set]; exact hl, Dig_set hd _ hc.1 hc.2, ?_, fun j hj => ?_⟩)
  ·simp only [galoisref01_Mul.l1, e1, e2]
   rw [if_neg (Int.lt_irrefl _), if_pos (Int.natCast_nonneg _), if_pos c2, Int.toNat_natCast]
  ·rw [vB_set _ _ _ _ c1, hz _ (Nat.le_refl _), Int.sub_zero, hv, take_succ, vB_all _ _ _ (Nat.le_refl _), Int.add_mul, Int.mul_assoc]
  ·rw [rd_set_ne _ _ _ _ (by clear hv e1 e2; omega)]
   exact hz j (by clear hv e1 e2; omega)
 | succ d ih =>
  intro j out c hj h
  have hj' : j < b.length := by omega
  have hn := rmul_in ha hb hi hj' h
  have hl := h.1
  have c1 : i + j < out.length := by omega
  have c2 : ((i + j : Nat) : Int) < (out.length : Int) := Int.ofNat_lt.2 c1
  have c3 : (j : Int) < (b.length : Int) := Int.ofNat_lt.2 hj'
  have c5 : (i : Int) < (a.length : Int) := Int.ofNat_lt.2 hi
  have c4 : j + 1 + d = b.length := by omega
  have e1 : wrap64 ((i : Int) + (j : Int)) = ((i + j : Nat) : Int) := by rw [w64 (by omega) (by omega)]; omega
  have e2 : wrap64 ((j : Int) + 1) = ((j + 1 : Nat) : Int) := by clear e1; rw [w64 (by omega) (by omega)]; omega
  obtain ⟨-, hd, hc, -, -⟩ := h
  obtain ⟨x0, x1⟩ := Dig_rd ha i hi
  obtain ⟨y0, y1⟩ := Dig_rd hb j hj'
  obtain ⟨o0, o1⟩ := Dig_rd hd (i + j) c1
  obtain ⟨-, -, m0, m1⟩ := rmul_add x0 x1 y0 y1 o0 o1 hc.1 hc.2
  refine Ev.step (fun k => ?_) (ih (j + 1) _ _ c4 hn)
  simp only [galoisref01_Mul.l1, e1, e2]
  rw [if_pos c3, if_pos (Int.natCast_nonneg _), if_pos c2, if_pos (Int.natCast_nonneg _), if_pos c5, if_pos (Int.natCast_nonneg _), m0, m1, Int.toNat_natCast]
theorem rMul_l0 (a b : List Int) (ha : Dig B32 a) (hb : Dig B32 b) (la : a.length ≤ 549755813888) (lb : b.length ≤ 549755813888) (n : Nat) (hn : vB B32 a * vB B32 b = n) : ∀ (d i : Nat) (out : List Int), i + d = a.length → RMulOut a b out i →
  Ev (fun k => galoisref01_Mul.l0 k a b out (i : Int)) (nat n) := by
 intro d
 induction d with
 | zero =>
  intro i out hi h
  have hi : i = a.length := by omega
  subst hi
  obtain ⟨hl, hd, hv, hz⟩ := h
  rw [vB_all _ _ _ (Nat.le_refl _), hn] at hv
  have p := rpack_ev hd (by omega)
  rw [hv, Int.toNat_natCast] at p
  refine Ev.step (f := fun k => (galoisref01_pack.f k out).bind fun t => some t) (fun k => ?_) (Ev.bind p (Ev.now _))
  simp only [galoisref01_Mul.l0]
  rw [if_neg (Int.lt_irrefl _)]
 | succ d ih =>
  intro i out hi h
  have hi' : i < a.length := by omega
  have c1 : (i : Int) < (a.length : Int) := Int.ofNat_lt.2 hi'
  obtain ⟨hl, hd, hv, hz⟩ := h
  refine Ev.step (f := fun k => galoisref01_Mul.l1 k a b out (i : Int) 0 ((0 : Nat) : Int)) (fun k => ?_) (rMul_l1 a b ha hb (by omega) (by omega) i hi' _ (fun out' h' => ih (i + 1) out' (by omega) h') b.length 0 out 0 (Nat.zero_add _) ⟨hl, hd, ⟨by decide, by decide⟩, ?_, hz⟩)
  ·simp only [galoisref01_Mul.l0]
   rw [if_pos c1]
   rfl
  ·rw [hv]
   simp [vB]
theorem rMul_ev {m n : Nat} (hm : (nat m).size ≤ 1099511627776) (hn : (nat n).size ≤ 1099511627776) : Ev (fun k => galoisref01_Mul.f k (nat m) (nat n)) (nat (m * n)) := by
 have lm := limbs_len m
 have ln := limbs_len n
 refine Ev.bind (limbs_nat hm) (Ev.bind (limbs_nat hn) ?_)
 have e1 : wrap64 (((d32 m).length : Int) + ((d32 n).length : Int)) = (((d32 m).length + (d32 n).length : Nat) : Int) := by rw [w64 (by omega) (by omega)]; omega
 refine Ev.congr (f := fun k => galoisref01_Mul.l0 k (d32 m) (d32 n) (List.replicate ((d32 m).length + (d32 n).length) 0) ((0 : Nat) : Int)) (fun k => ?_) (rMul_l0 (d32 m) (d32 n) (d32_dig m) (d32_dig n) (by omega) (by omega) (m * n) (by rw [d32_val, d32_val, Int.natCast_mul]) (d32 m).length 0 _ (Nat.zero_add _) ⟨by simp, Dig_replicate (by decide) _, ?_, fun j _ => rd_replicate _ _⟩)
 ·rw [e1, if_pos (Int.natCast_nonneg _), Int.toNat_natCast, if_pos (by omega)]
  rfl
 ·rw [vB_replicate]
  simp [vB]
end Go.Proofs.YtdhdfcjpeflinaaN
set_option linter.unusedVariables false
namespace Go.Proofs.YtdhdfcjpeflinaaN
open Go.RowKit Go.Proofs.Ytdhdfcjpeflinaa.All Go.Proofs.YtdhdfcjpeflinaaW.PrintWords Go.Proofs.YtdhdfcjpeflinaaW.PrintLast Go.Proofs.YtdhdfcjpeflinaaW.PrintMore
end Go.Proofs.YtdhdfcjpeflinaaN
set_option linter.unusedVariables false
namespace Go.Proofs.YtdhdfcjpeflinaaN
open Go.RowKit Go.Proofs.Ytdhdfcjpeflinaa.All Go.Proofs.YtdhdfcjpeflinaaW.PrintWords Go.Proofs.YtdhdfcjpeflinaaW.PrintLast Go.Proofs.YtdhdfcjpeflinaaW.PrintMore
def d10 (n : Nat) : List Int := dgs 8 n
def txt (D : List Int) : List Int := D.map (fun x => 48 + x)
def dec (n : Nat) : ByteArray := if n = 0 then ⟨#[48]⟩ else strOfNums (txt (d10 n)).reverse
def digit (s : ByteArray) (i : Nat) : Prop := 48 ≤ bt s (i : Int) ∧ bt s (i : Int) ≤ 57
instance (s : ByteArray) (i : Nat) : Decidable (digit s i) := by unfold digit; infer_instance
def digits (s : ByteArray) : Prop := ∀ i : Nat, i < s.size → digit s i
instance (s : ByteArray) : Decidable (digits s) := by unfold digits; infer_instance
def bad0 (s : ByteArray) : Prop := s.size = 0 ∨ (1 < s.size ∧ bt s 0 = 48)
instance (s : ByteArray) : Decidable (bad0 s) := by unfold bad0; infer_instance
end Go.Proofs.YtdhdfcjpeflinaaN
set_option linter.unusedVariables false
namespace Go.Proofs.YtdhdfcjpeflinaaN
open Go.RowKit Go.Proofs.Ytdhdfcjpeflinaa.All Go.Proofs.YtdhdfcjpeflinaaW.PrintWords Go.Proofs.YtdhdfcjpeflinaaW.PrintLast Go.Proofs.YtdhdfcjpeflinaaW.PrintMore
end Go.Proofs.YtdhdfcjpeflinaaN
set_option linter.unusedVariables false
namespace Go.Proofs.YtdhdfcjpeflinaaN
open Go.RowKit Go.Proofs.Ytdhdfcjpeflinaa.All Go.Proofs.YtdhdfcjpeflinaaW.PrintWords Go.Proofs.YtdhdfcjpeflinaaW.PrintLast Go.Proofs.YtdhdfcjpeflinaaW.PrintMore
theorem rOf_ev {u : Nat} (hu : u < 18446744073709551616) : Ev (fun k => galoisref01_Of.f k (u : Int)) (nat u) := by
 have a1 := and32 (x := (u : Int)) (by omega) (by omega)
 have hd : Dig B32 [(u : Int) % B32, (u : Int) / 4294967296] := Dig_cons.2 ⟨⟨Int.emod_nonneg _ (by decide), Int.emod_lt_of_pos _ (by decide)⟩, Dig_cons.2 ⟨⟨by omega, by show _ < (4294967296 : Int); omega⟩, Dig_nil _⟩⟩
 have p := rpack_ev hd (by simp)
 have hv : vB B32 [(u : Int) % B32, (u : Int) / 4294967296] = u := by
  show (u : Int) % 4294967296 + 4294967296 * ((u : Int) / 4294967296 + 4294967296 * 0) = u
  omega
 rw [hv, Int.toNat_natCast] at p
 refine Ev.congr (f := fun k => (galoisref01_pack.f k [(u : Int) % B32, (u : Int) / 4294967296]).bind fun t => some t) (fun k => ?_) (Ev.bind p (Ev.now _))
 unfold galoisref01_Of.f
 rw [a1]
end Go.Proofs.YtdhdfcjpeflinaaN
set_option linter.unusedVariables false
namespace Go.Proofs.YtdhdfcjpeflinaaN
open Go.RowKit Go.Proofs.Ytdhdfcjpeflinaa.All Go.Proofs.YtdhdfcjpeflinaaW.PrintWords Go.Proofs.YtdhdfcjpeflinaaW.PrintLast Go.Proofs.YtdhdfcjpeflinaaW.PrintMore
end Go.Proofs.YtdhdfcjpeflinaaN
set_option linter.unusedVariables false
namespace Go.Proofs.YtdhdfcjpeflinaaN
open Go.RowKit Go.Proofs.Ytdhdfcjpeflinaa.All Go.Proofs.YtdhdfcjpeflinaaW.PrintWords Go.Proofs.YtdhdfcjpeflinaaW.PrintLast Go.Proofs.YtdhdfcjpeflinaaW.PrintMore
end Go.Proofs.YtdhdfcjpeflinaaN
set_option linter.unusedVariables false
namespace Go.Proofs.YtdhdfcjpeflinaaN
open Go.RowKit Go.Proofs.Ytdhdfcjpeflinaa.All Go.Proofs.YtdhdfcjpeflinaaW.PrintWords Go.Proofs.YtdhdfcjpeflinaaW.PrintLast Go.Proofs.YtdhdfcjpeflinaaW.PrintMore
end Go.Proofs.YtdhdfcjpeflinaaN
set_option linter.unusedVariables false
namespace Go.Proofs.YtdhdfcjpeflinaaN
open Go.RowKit Go.Proofs.Ytdhdfcjpeflinaa.All Go.Proofs.YtdhdfcjpeflinaaW.PrintWords Go.Proofs.YtdhdfcjpeflinaaW.PrintLast Go.Proofs.YtdhdfcjpeflinaaW.PrintMore
end Go.Proofs.YtdhdfcjpeflinaaN
set_option linter.unusedVariables false
namespace Go.Proofs.YtdhdfcjpeflinaaN
open Go.RowKit Go.Proofs.Ytdhdfcjpeflinaa.All Go.Proofs.YtdhdfcjpeflinaaW.PrintWords Go.Proofs.YtdhdfcjpeflinaaW.PrintLast Go.Proofs.YtdhdfcjpeflinaaW.PrintMore
theorem nat_one_size : (nat 1).size = 1 := Nat.le_antisymm (nat_size_le.2 (by decide)) (Nat.pos_of_ne_zero fun h => absurd (nat_size_zero.1 h) (by decide))
theorem nat_is_one {a : Nat} : (nat a).toList = ([1] : List UInt8) ↔ a = 1 := by
 have h1 : (nat 1).toList = ([1] : List UInt8) := by
  have h2 : d8 1 = [1] := by
   unfold d8
   rw [dgs_pos _ _ (by decide), show 1 / (254 + 2) = 0 from rfl, dgs_zero]
   rfl
  unfold nat
  rw [h2, ByteArray.toList_eq]
  rfl
 constructor
 ·intro h
  rw [← h1] at h
  exact nat_inj.1 (toList_ext.1 h)
 ·rintro rfl
  exact h1
def powR (m e : Nat) : ByteArray × Bool := if (nat (m ^ e)).size ≤ 1024 then (nat (m ^ e), true) else (⟨#[]⟩, false)
theorem rPowWithin_l0 {m e : Nat} (hm : (nat m).size ≤ 1024) (he : e ≤ 1000000) : ∀ d i : Nat, i + d = e → (nat (m ^ i)).size ≤ 1024 → Ev (fun k => galoisref01_PowWithin.l0 k (nat m) (e : Int) 1024 (nat (m ^ i)) (i : Int)) (powR m e) := by
 intro d
 induction d with
 | zero =>
  intro i hi hs
  have hi : i = e := by omega
  subst hi
  refine Ev.step (fun k => galoisref01_PowWithin.l0.eq_2 ..) (Ev.congr (fun k => if_neg (Int.lt_irrefl _)) (Ev.step (fun k => galoisref01_PowWithin.j1.eq_2 ..) (Ev.congr (fun k => if_neg (by decide)) ?_)))
  unfold powR
  rw [if_pos hs, decide_eq_true (show ((nat (m ^ i)).size : Int) ≤ 1024 by omega)]
  exact Ev.now _
 | succ d ih =>
  intro i hi hs
  refine Ev.step (fun k => galoisref01_PowWithin.l0.eq_2 ..) (Ev.congr (fun k => if_pos (show (i : Int) < (e : Int) by omega)) (Ev.step (fun k => galoisref01_PowWithin.j1.eq_2 ..) ?_))
  by_cases h1 : m = 1
  ·have hf : ((nat m).toList != ([1] : List UInt8)) = false := by rw [nat_is_one.2 h1]; rfl
   rw [hf]
   refine Ev.congr (fun k => if_neg (by decide)) ?_
   subst h1
   unfold powR
   rw [Nat.one_pow, Nat.one_pow, nat_one_size, if_pos (by decide), decide_eq_true (by decide)]
   exact Ev.now _
  ·have hf : ((nat m).toList != ([1] : List UInt8)) = true := by
    rw [bne_iff_ne]
    exact fun h => h1 (nat_is_one.1 h)
   rw [hf]
   refine Ev.congr (fun k => if_pos rfl) (Ev.bind (rMul_ev (by omega) (by omega)) ?_)
   rw [← Nat.pow_succ]
   have e1 : wrap64 ((i : Int) + 1) = ((i + 1 : Nat) : Int) := by rw [w64 (by omega) (by omega)]; omega
   by_cases hb : ((nat (m ^ (i + 1))).size : Int) > 1024
   ·refine Ev.congr (fun k => if_pos hb) ?_
    have hm0 : 0 < m := by
     rcases Nat.eq_zero_or_pos m with h | h
     ·exfalso
      subst h
      rw [Nat.zero_pow (by omega), nat_size_zero.2 rfl] at hb
      exact absurd hb (by decide)
     ·exact h
    have hle := size_mono (Nat.pow_le_pow_right hm0 (show i + 1 ≤ e by omega))
    unfold powR
    rw [if_neg (by omega)]
    exact Ev.now _
   ·refine Ev.congr (fun k => if_neg hb) ?_
    by_cases h0 : m ^ (i + 1) = 0
    ·refine Ev.congr (fun k => if_pos (nat_empty.2 h0)) ?_
     have hm0 : m = 0 := by
      rcases Nat.eq_zero_or_pos m with h | h
      ·exact h
      ·exact absurd h0 (Nat.ne_of_gt (Nat.pow_pos h))
     unfold powR
     rw [hm0, Nat.zero_pow (by omega), if_pos (by rw [nat_size_zero.2 rfl]; decide), nat_zero]
     exact Ev.now _
    ·refine Ev.congr (fun k => if_neg (fun h => h0 (nat_empty.1 h))) ?_
     rw [e1]
     exact ih (i + 1) (by omega) (by omega)
theorem rPowWithin_ev {m e : Nat} (hm : (nat m).size ≤ 1024) (he : e ≤ 1000000) : Ev (fun k => galoisref01_PowWithin.f k (nat m) (e : Int) 1024) (powR m e) := by
 have h1 := rOf_ev (u := 1) (by decide)
 refine Ev.bind h1 ?_
 have := rPowWithin_l0 hm he e 0 (by omega) (by rw [Nat.pow_zero, nat_one_size]; decide)
 rwa [Nat.pow_zero] at this
end Go.Proofs.YtdhdfcjpeflinaaN
set_option linter.unusedVariables false
namespace Go.Proofs.YtdhdfcjpeflinaaN
open Go.RowKit Go.Proofs.Ytdhdfcjpeflinaa.All Go.Proofs.YtdhdfcjpeflinaaW.PrintWords Go.Proofs.YtdhdfcjpeflinaaW.PrintLast Go.Proofs.YtdhdfcjpeflinaaW.PrintMore
def ng (x : Int) : Bool := decide (x < 0)
def ab (x : Int) : ByteArray := nat x.natAbs
def sg (s : Bool) (n : Nat) : Int := if s then -(n : Int) else n
theorem sg_true (n : Nat) : sg true n = -(n : Int) := rfl
theorem sg_false (n : Nat) : sg false n = (n : Int) := rfl
theorem ng_sg (s : Bool) (n : Nat) : ng (sg s n) = (s && !decide (n = 0)) := by
 cases s
 ·exact decide_eq_false (by rw [sg_false]; omega)
 ·by_cases h : n = 0
  ·subst h
   rfl
  ·rw [decide_eq_false h]
   exact decide_eq_true (by rw [sg_true]; omega)
theorem ab_sg (s : Bool) (n : Nat) : ab (sg s n) = nat n := by
 unfold ab
 cases s
 ·rw [sg_false, Int.natAbs_natCast]
 ·rw [sg_true, Int.natAbs_neg, Int.natAbs_natCast]
theorem ng_pos {x : Int} (h : 0 ≤ x) : ng x = false := decide_eq_false (by omega)
theorem ng_neg {x : Int} (h : x < 0) : ng x = true := decide_eq_true h
theorem isEmpty_nat (n : Nat) : (nat n).toList.isEmpty = decide (n = 0) := by
 by_cases h : n = 0
 ·rw [decide_eq_true h, List.isEmpty_iff]
  exact nat_empty.2 h
 ·rw [decide_eq_false h, Bool.eq_false_iff]
  intro h'
  exact h (nat_empty.1 (List.isEmpty_iff.1 h'))
theorem ab_size_zero {x : Int} : (ab x).size = 0 ↔ x = 0 := by unfold ab; rw [nat_size_zero]; omega
theorem IMake_eq (s : Bool) (n : Nat) : exact_IntMake.f s (nat n) = some (ng (sg s n), ab (sg s n)) := by
 unfold exact_IntMake.f
 rw [ng_sg, ab_sg, isEmpty_nat]
 cases s
 ·rw [if_neg Bool.false_ne_true, Bool.false_and]
 ·rw [if_pos rfl, Bool.true_and]
end Go.Proofs.YtdhdfcjpeflinaaN
set_option linter.unusedVariables false
namespace Go.Proofs.YtdhdfcjpeflinaaN
open Go.RowKit Go.Proofs.Ytdhdfcjpeflinaa.All Go.Proofs.YtdhdfcjpeflinaaW.PrintWords Go.Proofs.YtdhdfcjpeflinaaW.PrintLast Go.Proofs.YtdhdfcjpeflinaaW.PrintMore
def ick (s : Bool) (a : ByteArray) : Int := if chk a = 1 then 1 else if s = true ∧ a.size = 0 then 1 else chk a
theorem rValid_eq (s : ByteArray) : galoisref01_Valid.f s = some (decide (s.size = 0 ∨ bt s 0 ≠ 0)) := by
 unfold galoisref01_Valid.f
 by_cases h : s.size = 0
 ·rw [if_pos (toList_nil.2 h)]
  simp [h]
 ·rw [if_neg (fun h' => h (toList_nil.1 h')), if_pos (by omega)]
  by_cases h2 : bt s 0 = 0 <;> simp [h, h2]
theorem chk_one {a : ByteArray} : chk a = 1 ↔ ¬ (a.size = 0 ∨ bt a 0 ≠ 0) := by
 unfold chk
 by_cases h : 0 < a.size ∧ bt a 0 = 0
 ·rw [if_pos h]
  refine ⟨fun _ h' => ?_, fun _ => rfl⟩
  rcases h' with h' | h'
  ·omega
  ·exact h' h.2
 ·rw [if_neg h]
  refine ⟨fun h' => ?_, fun h' => absurd ⟨Nat.pos_of_ne_zero fun h2 => h' (Or.inl h2), ?_⟩ h⟩
  ·split at h' <;> exact absurd h' (by decide)
  ·rcases Decidable.em (bt a 0 = 0) with h2 | h2
   ·exact h2
   ·exact absurd (Or.inr h2) h'
theorem chk_rest {a : ByteArray} (h : chk a ≠ 1) : chk a = if (a.size : Int) > 1024 then 4 else 0 := by
 have h1 : ¬ (0 < a.size ∧ bt a 0 = 0) := fun h' => h (by unfold chk; rw [if_pos h'])
 unfold chk
 rw [if_neg h1]
 by_cases h2 : 1024 < a.size
 ·rw [if_pos h2, if_pos (by omega)]
 ·rw [if_neg h2, if_neg (by omega)]
theorem rFits1_eq (a : ByteArray) : galoisref01_Fits.f a = some (if (a.size : Int) > 1024 then 4 else 0) := by
 unfold galoisref01_Fits.f
 by_cases h : (a.size : Int) > 1024
 ·rw [if_pos h, if_pos h]
 ·rw [if_neg h, if_neg h]
theorem rFits_eq (s : Bool) (a : ByteArray) : galoisref02_Fits.f s a = some (if (a.size : Int) > 1024 then 4 else 0) := by
 unfold galoisref02_Fits.f
 rw [rFits1_eq]
 rfl
theorem rValid2_eq (s : Bool) (a : ByteArray) : galoisref02_Valid.f s a = some (decide ((a.size = 0 ∨ bt a 0 ≠ 0) ∧ ¬ (s = true ∧ a.size = 0))) := by
 unfold galoisref02_Valid.f
 rw [rValid_eq, Option.bind_some]
 by_cases h : a.size = 0 ∨ bt a 0 ≠ 0
 ·rw [if_pos (decide_eq_true h)]
  cases s
  ·rw [if_neg Bool.false_ne_true]
   congr 1
   exact (decide_eq_true ⟨h, fun h' => Bool.false_ne_true h'.1⟩).symm
  ·rw [if_pos rfl]
   congr 1
   by_cases h2 : a.size = 0
   ·rw [decide_eq_false (fun h' => h'.2 ⟨rfl, h2⟩)]
    exact bne_eq_false_iff_eq.2 (toList_nil.2 h2)
   ·have e : (a.size = 0 ∨ bt a 0 ≠ 0) ∧ ¬ (true = true ∧ a.size = 0) := ⟨h, fun h' => h2 h'.2⟩
    rw [decide_eq_true e]
    exact bne_iff_ne.2 (fun h' => h2 (toList_nil.1 h'))
 ·rw [if_neg (by rw [decide_eq_true_eq]; exact h), decide_eq_false (fun h' => h h'.1)]
theorem rCheck_eq (s : Bool) (a : ByteArray) : galoisref02_Check.f s a = some (ick s a) := by
 unfold galoisref02_Check.f ick
 rw [rValid2_eq, Option.bind_some]
 by_cases h1 : chk a = 1
 ·rw [if_pos h1, if_neg (by rw [decide_eq_true_eq]; exact fun h' => chk_one.1 h1 h'.1)]
 ·have hv : a.size = 0 ∨ bt a 0 ≠ 0 := by
   rcases Decidable.em (a.size = 0 ∨ bt a 0 ≠ 0) with h | h
   ·exact h
   ·exact absurd (chk_one.2 h) h1
  rw [if_neg h1]
  by_cases h2 : s = true ∧ a.size = 0
  ·rw [if_pos h2, if_neg (by rw [decide_eq_true_eq]; exact fun h' => h'.2 h2)]
  ·rw [if_neg h2, if_pos (decide_eq_true ⟨hv, h2⟩), rFits_eq, chk_rest h1]
   rfl
theorem RMake_eq (s : Bool) (n : Nat) : galoisref02_Make.f s (nat n) = some (ng (sg s n), ab (sg s n)) := IMake_eq s n
end Go.Proofs.YtdhdfcjpeflinaaN
set_option linter.unusedVariables false
namespace Go.Proofs.YtdhdfcjpeflinaaN
open Go.RowKit Go.Proofs.Ytdhdfcjpeflinaa.All Go.Proofs.YtdhdfcjpeflinaaW.PrintWords Go.Proofs.YtdhdfcjpeflinaaW.PrintLast Go.Proofs.YtdhdfcjpeflinaaW.PrintMore
theorem ick_zero {s : Bool} {a : ByteArray} (h : ick s a = 0) : ∃ x : Int, s = ng x ∧ a = ab x ∧ (ab x).size ≤ 1024 := by
 unfold ick at h
 by_cases h1 : chk a = 1
 ·rw [if_pos h1] at h
  exact absurd h (by decide)
 ·rw [if_neg h1] at h
  by_cases h2 : s = true ∧ a.size = 0
  ·rw [if_pos h2] at h
   exact absurd h (by decide)
  ·rw [if_neg h2] at h
   obtain ⟨n, rfl, hn⟩ := number h
   refine ⟨sg s n, ?_, (ab_sg s n).symm, by rw [ab_sg]; exact hn⟩
   rw [ng_sg]
   cases s
   ·rfl
   ·rw [Bool.true_and, decide_eq_false (fun h3 => h2 ⟨rfl, by rw [h3, nat_zero]; rfl⟩)]
    rfl
theorem ick_int {x : Int} (h : (ab x).size ≤ 1024) : ick (ng x) (ab x) = 0 := by
 unfold ick
 have hc : chk (ab x) = 0 := chk_nat h
 rw [hc, if_neg (by decide), if_neg]
 rintro ⟨h1, h2⟩
 have := ab_size_zero.1 h2
 rw [this] at h1
 exact absurd h1 (by decide)
theorem empty_toList' : (⟨#[]⟩ : ByteArray).toList = ([] : List UInt8) := toList_nil.2 rfl
theorem iCheck_ev (s : Bool) (a : ByteArray) : Ev (fun k => integer_Check.f k s a) (ick s a) := by
 refine Ev.bind (Check_ev a) ?_
 by_cases h1 : chk a = 1
 ·have e : ick s a = chk a := by unfold ick; rw [if_pos h1, h1]
  rw [e]
  exact Ev.congr (fun k => if_pos h1) (Ev.now _)
 ·refine Ev.congr (fun k => if_neg h1) (ev_some (a := (false, (⟨#[]⟩ : ByteArray))) rfl ?_)
  by_cases h2 : a.size = 0
  ·have h3 : a.toList = ([] : List UInt8) := toList_nil.2 h2
   cases s
   ·have e : ick false a = chk a := by unfold ick; rw [if_neg h1, if_neg (fun h => Bool.false_ne_true h.1)]
    rw [e]
    exact Ev.congr (fun k => if_neg (by rw [h3, empty_toList']; decide)) (Ev.now _)
   ·have e : ick true a = 1 := by unfold ick; rw [if_neg h1, if_pos ⟨rfl, h2⟩]
    rw [e]
    exact Ev.congr (fun k => if_pos rfl) (Ev.congr (fun k => if_pos h3) (Ev.now _))
  ·have h3 : a.toList ≠ ([] : List UInt8) := fun h => h2 (toList_nil.1 h)
   have e : ick s a = chk a := by unfold ick; rw [if_neg h1, if_neg (fun h => h2 h.2)]
   rw [e]
   by_cases h4 : (!(s == false) || (!(a.toList == (⟨#[]⟩ : ByteArray).toList))) = true
   ·exact Ev.congr (fun k => if_pos h4) (Ev.congr (fun k => if_neg h3) (Ev.now _))
   ·exact Ev.congr (fun k => if_neg h4) (Ev.now _)
theorem wrap01 : wrap64 (0 + 1) = 1 := by unfold wrap64; omega
theorem ifirst1 (s : Bool) (a : ByteArray) : Ev (fun k => integer_first.f k [⟨s, a⟩]) (ick s a) := by
 show Ev (fun k => integer_first.l0 k [⟨s, a⟩] 1 0) _
 refine Ev.step (fun k => integer_first.l0.eq_2 ..) (Ev.congr (fun k => if_pos (by decide)) (Ev.congr (fun k => if_pos (by decide)) (Ev.congr (fun k => if_pos (show (0 : Int) < 1 by decide)) (Ev.bind (iCheck_ev s a) ?_))))
 by_cases h : ick s a = 0
 ·refine Ev.congr (fun k => if_pos h) ?_
  rw [wrap01, h]
  exact Ev.step (fun k => integer_first.l0.eq_2 ..) (Ev.congr (fun k => if_neg (by decide)) (Ev.now _))
 ·exact Ev.congr (fun k => if_neg h) (Ev.now _)
def ibnd (x : Int) : Bool × ByteArray × Int := if ((ab x).size : Int) > 1024 then (false, ⟨#[]⟩, 4) else (ng x, ab x, 0)
theorem bnd_some (x : Int) : (if ((ab x).size : Int) > 1024 then some (false, (⟨#[]⟩ : ByteArray), (4 : Int)) else some (ng x, ab x, 0)) = some (ibnd x) := by
 unfold ibnd
 by_cases h : ((ab x).size : Int) > 1024
 ·rw [if_pos h, if_pos h]
 ·rw [if_neg h, if_neg h]
section
variable {x y : Int} (hx : (ab x).size ≤ 1024) (hy : (ab y).size ≤ 1024)
include hx in
include hx in
include hx hy in
include hx hy in
include hx hy in
include hx hy in
include hx hy in
include hx in
include hx hy in
include hx in
end
theorem iright_err {e : Int} (h : e ≠ 0) (t : Bool) (w : ByteArray) : galoislaw02_right.f false ⟨#[]⟩ e e t w = some true := by
 unfold galoislaw02_right.f
 rw [if_neg h, if_pos (by rw [empty_toList']; rfl), beq_self_eq_true]
theorem iright_bnd (x : Int) : galoislaw02_right.f (ibnd x).1 (ibnd x).2.1 (ibnd x).2.2 0 (ng x) (ab x) = some true := by
 unfold galoislaw02_right.f ibnd
 rw [if_pos rfl, rFits_eq, Option.bind_some]
 by_cases h : ((ab x).size : Int) > 1024
 ·rw [if_pos h, if_pos h, if_neg (by decide), if_pos (by rw [empty_toList']; rfl)]
  rfl
 ·rw [if_neg h, if_neg h, if_pos rfl, if_pos (by rw [beq_self_eq_true, beq_self_eq_true]; rfl)]
  rfl
end Go.Proofs.YtdhdfcjpeflinaaN
set_option linter.unusedVariables false
namespace Go.Proofs.YtdhdfcjpeflinaaN
open Go.RowKit Go.Proofs.Ytdhdfcjpeflinaa.All Go.Proofs.YtdhdfcjpeflinaaW.PrintWords Go.Proofs.YtdhdfcjpeflinaaW.PrintLast Go.Proofs.YtdhdfcjpeflinaaW.PrintMore
end Go.Proofs.YtdhdfcjpeflinaaN
set_option linter.unusedVariables false
set_option linter.unusedSimpArgs false
set_option maxRecDepth 100000
namespace Go.Proofs.YtdhdfcjpeflinaaV
open Go Go.RowKit Go.Proofs.Ytdhdfcjpeflinaa Go.Proofs.YtdhdfcjpeflinaaE Go.Proofs.YtdhdfcjpeflinaaN Go.Proofs.Ytdhdfcjpeflinaa.All Go.Proofs.YtdhdfcjpeflinaaW.PrintWords Go.Proofs.YtdhdfcjpeflinaaW.PrintLast Go.Proofs.YtdhdfcjpeflinaaW.PrintMore
end Go.Proofs.YtdhdfcjpeflinaaV
set_option linter.unusedVariables false
set_option linter.unusedSimpArgs false
set_option maxRecDepth 100000
namespace Go.Proofs.YtdhdfcjpeflinaaV
open Go Go.RowKit Go.Proofs.Ytdhdfcjpeflinaa Go.Proofs.YtdhdfcjpeflinaaE Go.Proofs.YtdhdfcjpeflinaaN Go.Proofs.Ytdhdfcjpeflinaa.All Go.Proofs.YtdhdfcjpeflinaaW.PrintWords Go.Proofs.YtdhdfcjpeflinaaW.PrintLast Go.Proofs.YtdhdfcjpeflinaaW.PrintMore
theorem pow_par (n : Nat) : ∀ e : Nat, (e % 2 = 0 → (-(n : Int)) ^ e = ((n ^ e : Nat) : Int)) ∧ (e % 2 = 1 → (-(n : Int)) ^ e = -((n ^ e : Nat) : Int))
 | 0 => ⟨fun _ => by simp, fun h => by omega⟩
 | e + 1 => by
  obtain ⟨i1, i2⟩ := pow_par n e
  have e1 : ((n ^ (e + 1) : Nat) : Int) = ((n ^ e : Nat) : Int) * (n : Int) := by rw [Nat.pow_succ, Int.natCast_mul]
  constructor
  ·intro h
   rw [Int.pow_succ, i2 (by omega), e1, Int.neg_mul_neg]
  ·intro h
   rw [Int.pow_succ, i1 (by omega), e1, Int.mul_neg]
theorem sg_pow {x : Int} (h : x < 0) (e : Nat) : sg (decide (Int.tmod (e : Int) 2 = 1)) (x.natAbs ^ e) = x ^ e := by
 obtain ⟨i1, i2⟩ := pow_par x.natAbs e
 have hx : -((x.natAbs : Nat) : Int) = x := by omega
 rw [hx] at i1 i2
 have ht : Int.tmod (e : Int) 2 = ((e % 2 : Nat) : Int) := by rw [Int.tmod_eq_emod_of_nonneg (by omega)]; omega
 unfold sg
 by_cases hp : e % 2 = 1
 ·rw [ht, hp, i2 hp]; rfl
 ·rw [ht, show e % 2 = 0 by omega, i1 (by omega)]; rfl
theorem sg_pow0 {x : Int} (h : 0 ≤ x) (e : Nat) : sg false (x.natAbs ^ e) = x ^ e := by
 have hx : x = ((x.natAbs : Nat) : Int) := by omega
 show ((x.natAbs ^ e : Nat) : Int) = x ^ e
 rw [Int.natCast_pow, ← hx]
theorem IPow_ev {x : Int} {e : Nat} (hx : (ab x).size ≤ 1024) (he : e ≤ 4096) : Ev (fun k => FX69 k (ng x, ab x) (e : Int)) (ng (x ^ e), ab (x ^ e)) := by
 obtain ⟨K, h⟩ := NatPow_ev (m := x.natAbs) (e := e) (Nat.le_trans hx (by decide)) (by omega)
 refine ⟨K, fun k hk => ?_⟩
 replace h : exact_NatPow.f k (ab x) (e : Int) = some (nat (x.natAbs ^ e)) := h k hk
 show FX69 _ _ _ = _
 unfold FX69 B69
 by_cases hs : x < 0
 ·have hi := IMake_eq (decide (Int.tmod (e : Int) 2 = 1)) (x.natAbs ^ e)
  rw [sg_pow hs] at hi
  simp only [FX107, FX98, cnd_eq_if, ng_neg hs, if_true, Int.reduceEq, if_false, h, bind_some_, hi]
 ·have hi := IMake_eq false (x.natAbs ^ e)
  rw [sg_pow0 (by omega)] at hi
  simp only [FX107, FX98, cnd_eq_if, ng_pos (show 0 ≤ x by omega), Bool.false_eq_true, if_false, h, bind_some_, hi]
theorem big_pow {m e : Nat} (he : e ≤ 4096) (hm : (nat m).size ≤ 1024) (h : wrap64 (wrap64 ((bl m : Int) - 1) * (e : Int)) > 8192) : 1024 < (nat (m ^ e)).size := by
 by_cases h0 : m = 0
 ·exfalso
  subst h0
  have e0 : bl 0 = 0 := by decide +kernel
  have e1 : wrap64 (((0 : Nat) : Int) - 1) = -1 := by decide +kernel
  rw [e0, e1, w64 (by omega) (by omega)] at h
  omega
 ·have hb := bl_size (n := m)
  obtain ⟨g1, g2⟩ := bl_le h0
  have hle : (bl m - 1) * e ≤ 8191 * 4096 := Nat.mul_le_mul (by omega) he
  have e1 : wrap64 ((bl m : Int) - 1) = ((bl m - 1 : Nat) : Int) := by rw [w64 (by omega) (by omega)]; omega
  have e2 : wrap64 (((bl m - 1 : Nat) : Int) * (e : Int)) = (((bl m - 1) * e : Nat) : Int) := by
   rw [← Int.natCast_mul]
   generalize (bl m - 1) * e = A at *
   exact w64 (by omega) (by omega)
  rw [e1, e2] at h
  rcases Nat.lt_or_ge 1024 (nat (m ^ e)).size with h' | h'
  ·exact h'
  ·exfalso
   have h2 := Nat.pow_le_pow_left g2 e
   rw [← Nat.pow_mul] at h2
   have h3 := size_two h' h2
   clear h2
   omega
theorem ab_pow (x : Int) (e : Nat) : ab (x ^ e) = nat (x.natAbs ^ e) := by unfold ab; rw [Int.natAbs_pow]
theorem iPow_ev {x : Int} {e : Nat} (hx : (ab x).size ≤ 1024) (he : e ≤ 4096) : Ev (fun k => FX23 k (ng x, ab x) (e : Int)) (ibnd (x ^ e)) := by
 obtain ⟨K1, h1⟩ := iCheck_ev (ng x) (ab x)
 obtain ⟨K2, h2⟩ := ifirst1 (ng x) (ab x)
 obtain ⟨K3, h3⟩ := IPow_ev hx he
 rw [ick_int hx] at h1 h2
 refine ⟨K1 + K2 + K3, fun k hk => ?_⟩
 replace h1 := h1 k (by omega)
 replace h2 := h2 k (by omega)
 replace h3 := h3 k (by omega)
 have h4 : exact_NatBits.f (ab x) = some (bl x.natAbs : Int) := NatBits_eq (Nat.le_trans hx (by decide))
 have c1 : ¬ (e : Int) < 0 := by omega
 have c2 : ¬ (e : Int) > 4096 := by omega
 dsimp only at h1 h2 h3
 show FX23 _ _ _ = _
 by_cases hbig : wrap64 (wrap64 ((bl x.natAbs : Int) - 1) * (e : Int)) > 8192
 ·have hs := big_pow he hx hbig
  have hi : ibnd (x ^ e) = (false, ⟨#[]⟩, 4) := if_pos (by rw [ab_pow]; omega)
  rw [hi]
  unfold FX23 B23
  simp only [FX33, FX53, FX67, ite_not, ne_eq, h1, h4, bind_some_, if_true, if_neg c1, if_neg c2, if_pos hbig, integer_zero.f]
 ·unfold FX23 B23
  simp only [FX33, FX53, FX55, B55, FX67, FX99Pow, B99Pow, FX52, FX68, B68, ite_not, ne_eq, h1, h2, h4, bind_some_, if_true, if_neg c1, if_neg c2, if_neg hbig, integer_zero.f]
  rw [h3]
  simp only [bind_some_, ite_bind_]
  exact bnd_some _
theorem RPow_fit {x : Int} {e : Nat} (hx : (ab x).size ≤ 1024) (he : e ≤ 4096) (hf : (ab (x ^ e)).size ≤ 1024) : Ev (fun k => galoisref02_PowWithin.f k (ng x) (ab x) (e : Int) 1024) (ng (x ^ e), ab (x ^ e), true) := by
 obtain ⟨K, h⟩ := rPowWithin_ev (m := x.natAbs) (e := e) hx (by omega)
 refine ⟨K, fun k hk => ?_⟩
 replace h : galoisref01_PowWithin.f k (ab x) (e : Int) 1024 = some (powR x.natAbs e) := h k hk
 rw [show powR x.natAbs e = (nat (x.natAbs ^ e), true) from if_pos (by rw [← ab_pow]; exact hf)] at h
 show galoisref02_PowWithin.f _ _ _ _ _ = _
 unfold galoisref02_PowWithin.f
 by_cases hs : x < 0
 ·have hi := RMake_eq (decide (Int.tmod (e : Int) 2 = 1)) (x.natAbs ^ e)
  rw [sg_pow hs] at hi
  rw [h, bind_some_, if_pos (ng_neg hs)]
  rw [show (Int.tmod (e : Int) 2 == 1) = decide (Int.tmod (e : Int) 2 = 1) from rfl, hi, bind_some_]
 ·have hi := RMake_eq false (x.natAbs ^ e)
  rw [sg_pow0 (by omega)] at hi
  rw [h, bind_some_, if_neg (by rw [ng_pos (by omega)]; exact Bool.false_ne_true), hi, bind_some_]
theorem RPow_big {x : Int} {e : Nat} (hx : (ab x).size ≤ 1024) (he : e ≤ 4096) (hf : ¬ (ab (x ^ e)).size ≤ 1024) : ∃ s a, Ev (fun k => galoisref02_PowWithin.f k (ng x) (ab x) (e : Int) 1024) (s, a, false) := by
 obtain ⟨K, h⟩ := rPowWithin_ev (m := x.natAbs) (e := e) hx (by omega)
 have hp : powR x.natAbs e = (⟨#[]⟩, false) := if_neg (by rw [← ab_pow]; exact hf)
 by_cases hs : x < 0
 ·obtain ⟨⟨s, a⟩, hi⟩ : ∃ q, galoisref02_Make.f (decide (Int.tmod (e : Int) 2 = 1)) ⟨#[]⟩ = some q := by unfold galoisref02_Make.f; split <;> exact ⟨_, rfl⟩
  refine ⟨s, a, K, fun k hk => ?_⟩
  replace h : galoisref01_PowWithin.f k (ab x) (e : Int) 1024 = some (powR x.natAbs e) := h k hk
  show galoisref02_PowWithin.f _ _ _ _ _ = _
  unfold galoisref02_PowWithin.f
  rw [h, bind_some_, if_pos (ng_neg hs), hp]
  rw [show (Int.tmod (e : Int) 2 == 1) = decide (Int.tmod (e : Int) 2 = 1) from rfl, hi, bind_some_]
 ·obtain ⟨⟨s, a⟩, hi⟩ : ∃ q, galoisref02_Make.f false ⟨#[]⟩ = some q := ⟨_, rfl⟩
  refine ⟨s, a, K, fun k hk => ?_⟩
  replace h : galoisref01_PowWithin.f k (ab x) (e : Int) 1024 = some (powR x.natAbs e) := h k hk
  show galoisref02_PowWithin.f _ _ _ _ _ = _
  unfold galoisref02_PowWithin.f
  rw [h, bind_some_, if_neg (by rw [ng_pos (by omega)]; exact Bool.false_ne_true), hp, hi, bind_some_]
theorem iPow_err {s : Bool} {a : ByteArray} {p : Int} (h : ick s a ≠ 0) : Ev (fun k => FX23 k (s, a) p) (false, ⟨#[]⟩, ick s a) := by
 obtain ⟨K1, h1⟩ := iCheck_ev s a
 refine ⟨K1, fun k hk => ?_⟩
 replace h1 := h1 k hk
 dsimp only at h1
 show FX23 _ _ _ = _
 unfold FX23 B23
 simp only [FX33, FX53, ite_not, ne_eq, h1, bind_some_, if_neg h, integer_zero.f]
theorem iPow_range {x p : Int} (hx : (ab x).size ≤ 1024) (hp : p < 0 ∨ p > 4096) : Ev (fun k => FX23 k (ng x, ab x) p) (false, ⟨#[]⟩, 3) := by
 obtain ⟨K1, h1⟩ := iCheck_ev (ng x) (ab x)
 rw [ick_int hx] at h1
 refine ⟨K1, fun k hk => ?_⟩
 replace h1 := h1 k hk
 dsimp only at h1
 show FX23 _ _ _ = _
 unfold FX23 B23
 by_cases h0 : p < 0
 ·simp only [FX33, FX53, ite_not, ne_eq, h1, bind_some_, if_true, if_pos h0, integer_zero.f]
 ·have h2 : p > 4096 := by omega
  simp only [FX33, FX53, ite_not, ne_eq, h1, bind_some_, if_true, if_neg h0, if_pos h2, integer_zero.f]
theorem law4_ev (a0 : Bool) (a1 : ByteArray) (p : Int) (hp : (Lit.int .i64 p).wf = true) : Ev (fun k => FX4 k (a0, a1) p) true := by
 obtain ⟨K0, aw⟩ := awake_ev
 by_cases hs : (a1.size : Int) > 40
 ·refine ⟨K0, fun k hk => ?_⟩
  replace aw := aw k (by omega)
  dsimp only at *
  show FX4 _ _ _ = _
  unfold FX4 B4
  simp only [FX12, FX17, FX19, FX24, cnd_eq_if, bind_some_, toList_mk, List.toList_toArray, beq_iff_eq, if_true, if_false, ne_eq, not_true_eq_false, not_false_eq_true, Bool.not_true, Bool.not_false, Bool.false_eq_true, Int.reduceEq, reduceCtorEq, Bool.not_eq_true', bfalse, ite_not, eq_self, Bool.and_eq_true, Bool.or_eq_true, ite_and_, ite_or_, and_self, decide_true, decide_false, Bool.true_and, Bool.and_true, beq_self_eq_true, decide_eq_true_eq, gt_iff_lt, ge_iff_le, Int.neg_eq_zero, aw, hs]
 ·have hc := rCheck_eq a0 a1
  by_cases ha : ick a0 a1 = 0
  ·rw [ha] at hc
   obtain ⟨x, rfl, rfl, sx⟩ := ick_zero ha
   by_cases h0 : p < 0
   ·have h1 := iPow_range (p := p) sx (Or.inl h0)
    have f1 := iright_err (e := 3) (by decide)
    obtain ⟨K_h1, h1⟩ := h1
    refine ⟨K0 + K_h1, fun k hk => ?_⟩
    replace aw := aw k (by omega)
    replace h1 := h1 k (by omega)
    dsimp only at *
    show FX4 _ _ _ = _
    unfold FX4 B4
    simp only [FX12, FX17, FX19, FX24, cnd_eq_if, bind_some_, toList_mk, List.toList_toArray, beq_iff_eq, if_true, if_false, ne_eq, not_true_eq_false, not_false_eq_true, Bool.not_true, Bool.not_false, Bool.false_eq_true, Int.reduceEq, reduceCtorEq, Bool.not_eq_true', bfalse, ite_not, eq_self, Bool.and_eq_true, Bool.or_eq_true, ite_and_, ite_or_, and_self, decide_true, decide_false, Bool.true_and, Bool.and_true, beq_self_eq_true, decide_eq_true_eq, gt_iff_lt, ge_iff_le, Int.neg_eq_zero, aw, h1, hs, hc, h0, f1]
   ·by_cases h4 : p > 4096
    ·have h1 := iPow_range (p := p) sx (Or.inr h4)
     have f1 := iright_err (e := 3) (by decide)
     have h4' : 4096 < p := h4
     obtain ⟨K_h1, h1⟩ := h1
     refine ⟨K0 + K_h1, fun k hk => ?_⟩
     replace aw := aw k (by omega)
     replace h1 := h1 k (by omega)
     dsimp only at *
     show FX4 _ _ _ = _
     unfold FX4 B4
     simp only [FX12, FX17, FX19, FX24, cnd_eq_if, bind_some_, toList_mk, List.toList_toArray, beq_iff_eq, if_true, if_false, ne_eq, not_true_eq_false, not_false_eq_true, Bool.not_true, Bool.not_false, Bool.false_eq_true, Int.reduceEq, reduceCtorEq, Bool.not_eq_true', bfalse, ite_not, eq_self, Bool.and_eq_true, Bool.or_eq_true, ite_and_, ite_or_, and_self, decide_true, decide_false, Bool.true_and, Bool.and_true, beq_self_eq_true, decide_eq_true_eq, gt_iff_lt, ge_iff_le, Int.neg_eq_zero, aw, h1, hs, hc, h0, h4, h4', f1]
    ·obtain ⟨e, rfl⟩ := Int.eq_ofNat_of_zero_le (show 0 ≤ p by omega)
     have h4' : ¬ 4096 < (e : Int) := h4
     have h1 := iPow_ev (e := e) sx (by omega)
     by_cases hf : (ab (x ^ e)).size ≤ 1024
     ·have h2 := RPow_fit sx (show e ≤ 4096 by omega) hf
      have f1 := iright_bnd (x ^ e)
      obtain ⟨K_h1, h1⟩ := h1
      obtain ⟨K_h2, h2⟩ := h2
      refine ⟨K0 + K_h1 + K_h2, fun k hk => ?_⟩
      replace aw := aw k (by omega)
      replace h1 := h1 k (by omega)
      replace h2 := h2 k (by omega)
      dsimp only at *
      show FX4 _ _ _ = _
      unfold FX4 B4
      simp only [FX12, FX17, FX19, FX24, cnd_eq_if, bind_some_, toList_mk, List.toList_toArray, beq_iff_eq, if_true, if_false, ne_eq, not_true_eq_false, not_false_eq_true, Bool.not_true, Bool.not_false, Bool.false_eq_true, Int.reduceEq, reduceCtorEq, Bool.not_eq_true', bfalse, ite_not, eq_self, Bool.and_eq_true, Bool.or_eq_true, ite_and_, ite_or_, and_self, decide_true, decide_false, Bool.true_and, Bool.and_true, beq_self_eq_true, decide_eq_true_eq, gt_iff_lt, ge_iff_le, Int.neg_eq_zero, aw, h1, h2, hs, hc, h0, h4, h4', f1]
     ·obtain ⟨s, a, h2⟩ := RPow_big sx (show e ≤ 4096 by omega) hf
      rw [show ibnd (x ^ e) = (false, ⟨#[]⟩, 4) from if_pos (by omega)] at h1
      have f1 := iright_err (e := 4) (by decide)
      obtain ⟨K_h1, h1⟩ := h1
      obtain ⟨K_h2, h2⟩ := h2
      refine ⟨K0 + K_h1 + K_h2, fun k hk => ?_⟩
      replace aw := aw k (by omega)
      replace h1 := h1 k (by omega)
      replace h2 := h2 k (by omega)
      dsimp only at *
      show FX4 _ _ _ = _
      unfold FX4 B4
      simp only [FX12, FX17, FX19, FX24, cnd_eq_if, bind_some_, toList_mk, List.toList_toArray, beq_iff_eq, if_true, if_false, ne_eq, not_true_eq_false, not_false_eq_true, Bool.not_true, Bool.not_false, Bool.false_eq_true, Int.reduceEq, reduceCtorEq, Bool.not_eq_true', bfalse, ite_not, eq_self, Bool.and_eq_true, Bool.or_eq_true, ite_and_, ite_or_, and_self, decide_true, decide_false, Bool.true_and, Bool.and_true, beq_self_eq_true, decide_eq_true_eq, gt_iff_lt, ge_iff_le, Int.neg_eq_zero, aw, h1, h2, hs, hc, h0, h4, h4', f1]
  ·have h1 := iPow_err (p := p) ha
   have f1 := iright_err ha
   obtain ⟨K_h1, h1⟩ := h1
   refine ⟨K0 + K_h1, fun k hk => ?_⟩
   replace aw := aw k (by omega)
   replace h1 := h1 k (by omega)
   dsimp only at *
   show FX4 _ _ _ = _
   unfold FX4 B4
   simp only [FX12, FX17, FX19, FX24, cnd_eq_if, bind_some_, toList_mk, List.toList_toArray, beq_iff_eq, if_true, if_false, ne_eq, not_true_eq_false, not_false_eq_true, Bool.not_true, Bool.not_false, Bool.false_eq_true, Int.reduceEq, reduceCtorEq, Bool.not_eq_true', bfalse, ite_not, eq_self, Bool.and_eq_true, Bool.or_eq_true, ite_and_, ite_or_, and_self, decide_true, decide_false, Bool.true_and, Bool.and_true, beq_self_eq_true, decide_eq_true_eq, gt_iff_lt, ge_iff_le, Int.neg_eq_zero, aw, h1, hs, hc, ha, f1]
end Go.Proofs.YtdhdfcjpeflinaaV
set_option linter.unusedVariables false
namespace Go.Proofs.Ytdhdfcjpeflinaa.Pure
open Go Go.RowKit Go.Proofs.Ytdhdfcjpeflinaa.All Go.Proofs.YtdhdfcjpeflinaaN Go.Proofs.YtdhdfcjpeflinaaW.PrintWords Go.Proofs.YtdhdfcjpeflinaaW.PrintLast
theorem IntegerPowers (a0 : Bool) (a1 : ByteArray) (p : Int) (hp : (Lit.int .i64 p).wf = true) (w : World) :
    Calls Try.prog 4 #[.agg #[.bool a0, .string a1], .int .i64 p] w fun e w' => e = .returned (.bool true) ∧ Below w.heap.size w w' :=
  Go.Proofs.YtdhdfcjpeflinaaV.calls4 a0 a1 p (Go.Proofs.YtdhdfcjpeflinaaV.law4_ev a0 a1 p hp).rounds w
end Go.Proofs.Ytdhdfcjpeflinaa.Pure
