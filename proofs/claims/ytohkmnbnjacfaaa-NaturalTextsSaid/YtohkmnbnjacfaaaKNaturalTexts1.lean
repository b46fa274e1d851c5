/- Part of the proof of the statement NaturalTexts: lemmas on the model's steps, Lean functions that say what the program's functions compute, and proofs that the calls do just that. No hypothesis is added. -/
import Derived.Test.YtohkmnbnjacfaaaKNaturalTexts0
import Derived.Test.YtohkmnbnjacfaaaKNaturalTextsb
import Derived.Laws.Externs
import Derived.Shelf.Spec.BitsCarry
import Derived.Lib.Strings
import Derived.Lib.Slices
import Derived.Lib.Small
import Derived.Lib.Walk
import Derived.Lib.BitFns
import Derived.RowKit3
import Derived.Test.YtohkmnbnjacfaaaProg
import Derived.Below
import Derived.Deep.Draws
import Derived.Deep.AppendLies
import Derived.Maps.AppendAt
import Derived.OwnWalk
import Derived.Laws.BytesArg
import Derived.Laws.MakeOwn
import Derived.Laws.OwnMore
import Derived.Deep.OwnRows
import Derived.Tactics
import Derived.Lib.ConvBytes
import Derived.Laws.Slices
import Derived.WalkKit
import Derived.KernelRfl
import Derived.Deep.LoopGhost
import Derived.Deep.QuietTactic
import Derived.BigQuiet
import Derived.WideLaws
import Derived.Deep.DeepCutAuto
import Derived.Deep.CutBlock
import Derived.Deep.RegionHeld3
import Derived.Laws.Rows
import Derived.Lib.AppendStr
import Derived.ArgAppend
import Derived.Laws.IdiomCopy
import Derived.OrdersHeld
import Derived.Laws.BitsLemmas
import Derived.RowKit
import Derived.Lib.ItoaNum
import Derived.ProofKit
import Derived.OpenShut
import Derived.ShutString
import Derived.ChangeOld
import Derived.SizedLaws
set_option linter.all false
set_option linter.unusedVariables false
namespace Go.Proofs.YtohkmnbnjacfaaaX
open Go.RowKit Go.Proofs.YtohkmnbnjacfaaaW.PrintWords Go.Proofs.YtohkmnbnjacfaaaW.PrintLast Go.Proofs.YtohkmnbnjacfaaaW.PrintMore
def XCalls (P : Program) (f : FuncId) (args : Array Value) (w : World) (R : Ending → World → Prop) : Prop :=
  ∃ v w', (callFunc f args).run P w = .ok (.value v) w' ∧ R (.returned v) w'
theorem XCalls.mono {P : Program} {f : FuncId} {args : Array Value} {w : World} {R R' : Ending → World → Prop} (h : XCalls P f args w R) (hi : ∀ e w', R e w' → R' e w') : XCalls P f args w R' := by
  obtain ⟨v, w', h1, h2⟩ := h
  exact ⟨v, w', h1, hi _ _ h2⟩
section
variable {P : Program} {ops : Array Oper} {Q : Exit → Act → World → Prop}
theorem goesXL_ {rest : List Oper} {oi : Oper} {a : Act} {w : World} (N : Option Tmp) (hd : oi.dst = N) (hg : oi.guard = none) {f : FuncId} {fn : Func} {aops : Array Operand} {ts : Array TypeId} (hf : P.funcs[f]? = some fn) (hname : (fn.name == "runtime.NumGoroutine") = false) (args : Array Value)
    (hop : oi.op = .call { callee := .value (.func f), args := aops, argTypes := ts }) (hargs : aops.map a.eval = args)
    (h : XCalls P f args w fun e w' => ∃ v, e = .returned v ∧ wpList P ops Q rest (a.put N v) w') : wpList P ops Q (oi :: rest) a w := by
  refine wpList_plain hg fun K hK => ?_
  obtain ⟨v, w1, hr, v', he, hk⟩ := h
  cases he
  have hrun : (execOp a.eval oi).run P w = .ok (.value v) w1 := by
    unfold execOp
    simp [hop, resolve, Deferred.ofValue, invoke, Act.eval, hargs, hr]
  unfold Oper.wp
  rw [hrun, Oper.upon_value]
  subst hd
  exact hK _ _ hk
theorem goesX_ {oi : Oper} {N : Option Tmp} {a : Act} {w : World} {K : Act → World → Prop} {f : FuncId} {fn : Func} {aops : Array Operand} {ts : Array TypeId} (hf : P.funcs[f]? = some fn) (hname : (fn.name == "runtime.NumGoroutine") = false) (args : Array Value)
    (hw : Region.wanted oi (yielded ops a.tmps) = true) (hN : oi.dst = N) (hop : oi.op = .call { callee := .value (.func f), args := aops, argTypes := ts }) (hargs : aops.map a.eval = args)
    (h : XCalls P f args w fun e w' => ∃ v, e = .returned v ∧ K (a.put N v) w') : if Region.wanted oi (yielded ops a.tmps) = true then Oper.wp P oi a w K Q else K (a.put N undef) w := by
  rw [if_pos hw]
  subst hN
  obtain ⟨v, w1, hr, v', he, hk⟩ := h
  cases he
  have hrun : (execOp a.eval oi).run P w = .ok (.value v) w1 := by
    unfold execOp
    simp [hop, resolve, Deferred.ofValue, invoke, Act.eval, hargs, hr]
  unfold Oper.wp
  rw [hrun, Oper.upon_value]
  exact hk
end
def Kd.G (pre post : List Int) (co : Nat) (e : Nat) (w : World) (base : Nat) (ok : Nat → Prop) (v : Value) (xs : List Int) : Prop :=
  ∃ g c, v = .slice (some ⟨g, pre.length, none⟩) xs.length c ∧ 0 < xs.length ∧ xs.length ≤ c ∧ (Kd.int .u64).R e w base ok (.slice (some ⟨g, 0, none⟩) (pre ++ xs ++ post).length co) (pre ++ xs ++ post)
section
variable {pre post : List Int} {co : Nat} {e : Nat} {w w1 : World} {base : Nat} {ok ok' : Nat → Prop} {v : Value} {xs : List Int}
theorem Kd.G_mono (h : Kd.G pre post co e w base ok v xs) (hok : ∀ k, ok k → ok' k) : Kd.G pre post co e w base ok' v xs := by
  obtain ⟨g, c, h1, h2, h3, h4⟩ := h
  exact ⟨g, c, h1, h2, h3, Kd.R_mono h4 hok⟩
theorem Kd.G_alloc (h : Kd.G pre post co e w base ok v xs) (o : Obj) : Kd.G pre post co e (w.alloc o) base ok v xs := by
  obtain ⟨g, c, h1, h2, h3, h4⟩ := h
  exact ⟨g, c, h1, h2, h3, Kd.R_alloc h4 o⟩
theorem Kd.G_drew (h : Kd.G pre post co e w base ok v xs) : Kd.G pre post co e w.drew base ok v xs := by
  obtain ⟨g, c, h1, h2, h3, h4⟩ := h
  exact ⟨g, c, h1, h2, h3, Kd.R_drew h4⟩
theorem Kd.G_drewN (h : Kd.G pre post co e w base ok v xs) (m : Nat) : Kd.G pre post co e (w.drewN m) base ok v xs := by
  obtain ⟨g, c, h1, h2, h3, h4⟩ := h
  exact ⟨g, c, h1, h2, h3, Kd.R_drewN h4 m⟩
theorem Kd.G_slice (h : Kd.G pre post co e w base ok v xs) : ∃ A c, v = .slice A xs.length c := by
  obtain ⟨g, c, h1, h2, h3, h4⟩ := h
  exact ⟨_, c, h1⟩
theorem G_addr (g j i : Nat) : (⟨g, j, none⟩ : Addr).add i = ⟨g, j + i, none⟩ := by unfold Addr.add; split <;> simp_all
theorem Kd.G_reads' {A : Option Addr} {n c : Nat} (h : Kd.G pre post co e w base ok (.slice A n c) xs) : n = xs.length ∧ n ≤ c ∧ (Kd.int .u64).C w A xs.length xs := by
  obtain ⟨g, c', h1, h2, h3, h4⟩ := h
  injection h1 with h1 h5 h6
  subst h1 h5 h6
  refine ⟨rfl, h3, ?_⟩
  obtain ⟨_, hco, hC⟩ := Kd.R_reads' h4
  have hm := Kd.C_mid (lo := pre.length) (hi := pre.length + xs.length) (c := co) hC (by omega) (by simp) hco
  have hl : ((pre ++ xs ++ post).take (pre.length + xs.length)).drop pre.length = xs := by
    rw [List.take_left' (by simp), List.drop_left]
  rw [hl, if_neg (by simp at hco; omega)] at hm
  simpa [G_addr, Kd.int, Kd.scalar] using hm
theorem Kd.G_form (h : Kd.G pre post co e w base ok v xs) (_hp : 0 < xs.length) : ∃ g cap, v = .slice (some ⟨g, pre.length, none⟩) xs.length cap ∧ base ≤ g ∧ g < w.heap.size ∧ ∃ cells, w.heap[g]? = some (.cells cells e (0, 0)) := by
  obtain ⟨g, c, h1, h2, h3, h4⟩ := h
  obtain ⟨g', cap, he, hb, hl, hc⟩ := Kd.R_form h4 (by simp; omega)
  injection he with he
  injection he with he
  injection he with he
  subst he
  exact ⟨g, c, h1, hb, hl, hc⟩
theorem Kd.G_own (h : Kd.G pre post co e w base ok v xs) : ∀ k, v.ownBlock = some k → ok k := by
  obtain ⟨g, c, rfl, h2, h3, h4⟩ := h
  intro k hk
  exact h4.1 k (by simpa [Value.ownBlock] using hk)
theorem Kd.G_celln (_d : Int) {g n cap : Nat} (h : Kd.G pre post co e w base ok (.slice (some ⟨g, pre.length, none⟩) n cap) xs) (i : Int) (h0 : 0 ≤ i) (hi : i < n) : w.cell? ⟨g, pre.length + i.toNat, none⟩ = some (.int .u64 (rd xs i)) ∧ w.frozen? ⟨g, pre.length + i.toNat, none⟩ = false := by
  obtain ⟨g', c', h1, h2, h3, h4⟩ := h
  injection h1 with h1 h5 h6
  injection h1 with h1
  injection h1 with h1
  subst h1 h5 h6
  have hz := Kd.R_celln (0 : Int) h4 (pre.length + i) (by omega) (by simp; omega)
  have e1 : ((pre.length : Int) + i).toNat = pre.length + i.toNat := by omega
  rw [e1] at hz
  refine ⟨?_, hz.2⟩
  rw [hz.1]
  congr 2
  unfold rdOf rd
  rw [e1, List.append_assoc, List.getD_eq_getElem?_getD, List.getD_eq_getElem?_getD, List.getElem?_append_right (by omega), List.getElem?_append_left (by omega)]
  congr 2
  omega
theorem Kd.G_putg {g n cap : Nat} (h : Kd.G pre post co e w base ok (.slice (some ⟨g, pre.length, none⟩) n cap) xs) (i x : Int) (hi : i.toNat < n) : Kd.G pre post co e (w.setCell ⟨g, pre.length + i.toNat, none⟩ (.int .u64 x)) base ok (.slice (some ⟨g, pre.length, none⟩) n cap) (xs.set i.toNat x) ∧ w.grownBy (w.setCell ⟨g, pre.length + i.toNat, none⟩ (.int .u64 x)) (some g) := by
  obtain ⟨g', c', h1, h2, h3, h4⟩ := h
  injection h1 with h1 h5 h6
  injection h1 with h1
  injection h1 with h1
  subst h1 h5 h6
  have hz := Kd.R_putg h4 (pre.length + i.toNat : Nat) x
  rw [Int.toNat_natCast] at hz
  refine ⟨⟨g, cap, by rw [List.length_set], by rw [List.length_set]; exact h2, by rw [List.length_set]; exact h3, ?_⟩, hz.2⟩
  have e1 : (pre ++ xs ++ post).set (pre.length + i.toNat) x = pre ++ xs.set i.toNat x ++ post := by
    rw [List.append_assoc, List.set_append_right _ _ (by omega), List.set_append_left _ _ (by omega), List.append_assoc]
    congr 3
    omega
  rw [e1] at hz
  have e2 : (pre ++ xs ++ post).length = (pre ++ xs.set i.toNat x ++ post).length := by simp
  rw [← e2]
  exact hz.1
theorem Kd.G_putn {g n cap : Nat} (h : Kd.G pre post co e w base ok (.slice (some ⟨g, pre.length, none⟩) n cap) xs) (i x : Int) (hi : i.toNat < n) : Kd.G pre post co e (w.setCell ⟨g, pre.length + i.toNat, none⟩ (.int .u64 x)) base ok (.slice (some ⟨g, pre.length, none⟩) n cap) (xs.set i.toNat x) := (Kd.G_putg h i x hi).1
theorem G_lt {i : Int} {n : Nat} (h0 : 0 ≤ i) (h : i < n) : i.toNat < n := by omega
def CutIs (u : Value) (xs : List Int) (lo hi : Nat) (A : Option Addr) (n c : Nat) : Prop := ∃ Ao co, u = .slice Ao xs.length co ∧ A = (if co = lo then Ao else Ao.map (·.add (lo * 1))) ∧ n = hi - lo ∧ n ≤ c ∧ lo ≤ hi ∧ hi ≤ xs.length
theorem CutIs.mk {Ao A : Option Addr} {co c lo hi n : Nat} {xs : List Int} (h1 : A = (if co = lo then Ao else Ao.map (·.add (lo * 1)))) (h2 : n = hi - lo) (h3 : n ≤ c) (h4 : lo ≤ hi) (h5 : hi ≤ xs.length) : CutIs (.slice Ao xs.length co) xs lo hi A n c := ⟨Ao, co, rfl, h1, h2, h3, h4, h5⟩
theorem Kd.G_of_cut {u : Value} {lo hi n c co : Nat} {A : Option Addr} (hc : CutIs u xs lo hi A n c) (hlt : lo < hi) (hu : ∃ Ao, u = .slice Ao xs.length co) (h : (Kd.int .u64).R e w base ok u xs) :
    Kd.G (xs.take lo) (xs.drop hi) co e w base ok (.slice A n c) ((xs.take hi).drop lo) ∧ (Value.slice A n c).ownBlock = u.ownBlock := by
  obtain ⟨Ao2, hu⟩ := hu
  obtain ⟨Ao, co', rfl, rfl, rfl, h3, h4, h5⟩ := hc
  injection hu with _ _ hu
  subst hu
  obtain ⟨g, cap, he, hb, hl, hcc⟩ := Kd.R_form h (by omega)
  injection he with he _ he2
  subst he he2
  have hco := (Kd.R_reads' h).2.1
  have hl1 : ((xs.take hi).drop lo).length = hi - lo := by simp; omega
  have hl2 : (xs.take lo).length = lo := by simp; omega
  have hx : xs.take lo ++ (xs.take hi).drop lo ++ xs.drop hi = xs := by
    have : xs.take lo = (xs.take hi).take lo := by rw [List.take_take]; congr 1; omega
    rw [this, List.take_append_drop, List.take_append_drop]
  rw [if_neg (by omega)]
  refine ⟨⟨g, c, ?_, by omega, by omega, by rw [hx]; exact h⟩, ?_⟩
  · rw [hl1, hl2]
    simp [G_addr]
  · simp [Value.ownBlock, G_addr]
theorem Kd.R_of_G {u : Value} {lo hi n c co : Nat} {A : Option Addr} {ys : List Int} (hc : CutIs u xs lo hi A n c) (hlt : lo < hi) (hu : ∃ g, u = .slice (some ⟨g, 0, none⟩) xs.length co ∧ xs.length ≤ co) (h : Kd.G (xs.take lo) (xs.drop hi) co e w base ok (.slice A n c) ys) :
    (Kd.int .u64).R e w base ok u (xs.take lo ++ ys ++ xs.drop hi) ∧ ys.length = hi - lo := by
  obtain ⟨g, rfl, h7⟩ := hu
  obtain ⟨Ao, co2, he, hA, h2, h3, h4, h5⟩ := hc
  injection he with he _ he2
  subst he he2
  obtain ⟨g', c', h1, h8, h9, h10⟩ := h
  injection h1 with h1 h11 h12
  rw [if_neg (by omega)] at hA
  rw [hA] at h1
  have hl2 : (xs.take lo).length = lo := by simp; omega
  simp [G_addr] at h1
  have hg : g = g' := h1.1
  subst hg
  have hys : ys.length = hi - lo := by omega
  have hl : (xs.take lo ++ ys ++ xs.drop hi).length = xs.length := by simp; omega
  rw [hl] at h10
  exact ⟨h10, hys⟩
end
theorem add64_run {P : Program} {f : FuncId} {fn : Func} (hf : P.funcs[f]? = some fn) (hname : (fn.name == "runtime.NumGoroutine") = false)
    (hb : fn.body.isNone = true) (hn : Extern.findNext fn = none) (he : Extern.find fn = some add64Entry) (x y c : Int) (hx : 0 ≤ x) (hy : 0 ≤ y) (hc0 : 0 ≤ c) (hc : c ≤ 1) (w : World) :
    XCalls P f #[.int .u64 x, .int .u64 y, .int .u64 c] w fun e w' => e = .returned (.tuple #[.int .u64 ((x + y + c) % 18446744073709551616), .int .u64 ((x + y + c) / 18446744073709551616)]) ∧ Drawn0 w w' := by
  refine ⟨_, _, ?_, rfl, Drawn0.refl w⟩
  rw [run_callFunc_extern hf hname hb hn he, run_add64 x y c hx hy hc0 hc]
  rfl
theorem sub64_run {P : Program} {f : FuncId} {fn : Func} (hf : P.funcs[f]? = some fn) (hname : (fn.name == "runtime.NumGoroutine") = false)
    (hb : fn.body.isNone = true) (hn : Extern.findNext fn = none) (he : Extern.find fn = some sub64Entry) (x y c : Int) (hx : 0 ≤ x) (hy : 0 ≤ y) (hym : y ≤ 18446744073709551615) (hc0 : 0 ≤ c) (hc : c ≤ 1) (w : World) :
    XCalls P f #[.int .u64 x, .int .u64 y, .int .u64 c] w fun e w' => e = .returned (.tuple #[.int .u64 ((x - y - c) % 18446744073709551616), .int .u64 (if x < y + c then 1 else 0)]) ∧ Drawn0 w w' := by
  obtain ⟨X, rfl⟩ := Int.eq_ofNat_of_zero_le hx
  obtain ⟨Y, rfl⟩ := Int.eq_ofNat_of_zero_le hy
  obtain ⟨C, rfl⟩ := Int.eq_ofNat_of_zero_le hc0
  refine ⟨_, _, ?_, rfl, Drawn0.refl w⟩
  rw [run_callFunc_extern hf hname hb hn he, run_sub64 X Y C (by omega)]
  have e1 : (((X + 18446744073709551616 - Y - C) % 18446744073709551616 : Nat) : Int) = ((X : Int) - Y - C) % 18446744073709551616 := by omega
  have e2 : ((if X < Y + C then 1 else 0 : Nat) : Int) = if (X : Int) < Y + C then 1 else 0 := by split <;> split <;> omega
  rw [e1, e2]
  rfl
end Go.Proofs.YtohkmnbnjacfaaaX
set_option linter.all false
namespace Go.Proofs.YtohkmnbnjacfaaaX
open Go.RowKit Go.Proofs.YtohkmnbnjacfaaaW.PrintWords Go.Proofs.YtohkmnbnjacfaaaW.PrintLast Go.Proofs.YtohkmnbnjacfaaaW.PrintMore
theorem ZB {g : Prop} (h : g := by repeat (first | (with_reducible first | exact HB.out | apply below_alloc | apply pw_below_drewN | apply below_drew1) | exact HB.out)) : g := h
theorem ZK {g : Prop} (h : g := by repeat (first | (with_reducible first | exact HK.out | apply Kept.alloc | apply Kept.drewN | apply Kept.drew) | exact HK.out)) : g := h
theorem ZA {g : Prop} (h : g := by (try simp only [List.map_toArray, List.map_cons, List.map_nil]); first | done | rfl | (simp only [List.length_drop, List.length_take]; rfl)) : g := h
theorem ZD {g : Prop} (h : g := by first | (with_reducible assumption) | assumption) : g := h
theorem ZE {g : Prop} (h : g := by first | rfl | (simp [errW_none, errW_some] <;> rfl) | (simp [*, errW_none, errW_some] <;> rfl)) : g := h
theorem ZS {g : Prop} (h : g := by first | rfl | (simp; done) | (simp [*]; done)) : g := h
theorem ZN {g : Prop} (h : g := by first | omega | exact Nat.le_refl _) : g := h
theorem ZR {p g : Prop} (x : p) (h : p → g := by intro x_; (with_reducible repeat (first | apply Kd.R_alloc | apply Kd.R_drewN | apply Kd.R_drew)); exact x_) : g := h x
theorem ZG {p g : Prop} (x : p) (h : p → g := by intro x_; (with_reducible repeat (first | apply Kd.G_alloc | apply Kd.G_drewN | apply Kd.G_drew)); exact x_) : g := h x
theorem ZBS {g : Prop} (h : g := by repeat (first | (with_reducible first | exact HB.out | apply below_alloc | apply pw_below_drewN | apply below_drew1 | refine below_set ?_ (Aside0.out (by assumption))) | exact HB.out)) : g := h
theorem ZC {p g : Prop} (x : p) (h : p → g := by intro x_; repeat (first | exact x_ | (with_reducible refine Kd.C_alloc ?_ _) | (with_reducible refine Kd.C_drewN ?_ _) | (with_reducible refine Kd.C_drew ?_))) : g := h x
theorem ZO {α β : Type} {o : Option α} {f : α → Option β} {r : β} (h : o.bind f = some r) : ∃ a, Aside0 (o = some a) ∧ f a = some r := by
  obtain ⟨a, h1, h2⟩ := Option.bind_eq_some_iff.mp h
  exact ⟨a, ⟨h1⟩, h2⟩
theorem ZH {α : Type} {x y : α} {p q : Prop} (hy : y = x) (H : p) (h : y = x → p → q := by intro hy_ H_; first | (rw [hy_]; with_reducible exact H_) | (have H2_ := (Option.bind_some _ _).symm.trans H_; rw [hy_]; with_reducible exact H2_) | (have H2_ := (Option.bind_some _ _).symm.trans H_; with_reducible exact H2_) | with_reducible exact H_ | (rw [hy_]; exact H_) | exact H_) : q := h hy H
theorem ZI {α : Type} {c : Prop} [Decidable c] {x : Option α} {r : α} (h : (if c then x else none) = some r) : c ∧ x = some r := by
  by_cases hc : c
  · rw [if_pos hc] at h
    exact ⟨hc, h⟩
  · rw [if_neg hc] at h
    exact absurd h (by simp)
theorem ZJ {α : Type} {c : Prop} [Decidable c] {x : Option α} {r : α} (h : (if c then none else x) = some r) : ¬ c ∧ x = some r := by
  by_cases hc : c
  · rw [if_pos hc] at h
    exact absurd h (by simp)
  · rw [if_neg hc] at h
    exact ⟨hc, h⟩
theorem ZP {P : Program} {md : Region.Mode} {ops : Array Oper} {Q : Exit → Act → World → Prop} {S : World → Prop} {ds : List Nat} {oi : Oper} {v : Value} {fuel : Nat} {l : Array Bool} {a : Act} {w : World} {a' : Act} (i n : Nat) (l' : Array Bool) (h : wpAnyLast P md ops Q S ds fuel l' a' w)
    (hi : ops[i]? = some oi := by rfl) (hN : oi.dst = some n := by rfl) (hc : anyB md ops l l' i = true := by exact any_of HT_.out (by kernel_rfl)) (hQ : ∀ c a w, Q (.panic c) (a.put oi.dst v) w → Q (.panic c) a w := by exact fun _ _ _ h => h)
    (hy : Yields P ops oi v a := by refine Or.inl ⟨by rfl, ?_⟩; intro w'; go_simp; with_reducible rfl) (ha : a.put (some n) v = a' := by simp only [Act.put, List.setIfInBounds_toArray, List.set_cons_zero, List.set_cons_succ, i64_w, i32_w]; rfl) : wpAnyLast P md ops Q S ds (fuel + 1) l a w :=
  pure_ l' hi hN hc hQ hy ha h
end Go.Proofs.YtohkmnbnjacfaaaX
namespace Go.Proofs.Ytohkmnbnjacfaaa.All
open Go.Proofs.YtohkmnbnjacfaaaX
open Go.RowKit Go.Proofs.YtohkmnbnjacfaaaW.PrintWords Go.Proofs.YtohkmnbnjacfaaaW.PrintLast Go.Proofs.YtohkmnbnjacfaaaW.PrintMore
attribute [local go_sem] max2_int min2_int max_two min_two max_three min_three max_four min_four
set_option linter.unusedVariables false
set_option linter.unusedSimpArgs false
def errW : Option Int → Value
 | none => .nilIface
 | some c => .iface 0 (.int .i64 c)
theorem errW_none : errW none = .nilIface := rfl
theorem errW_some (c : Int) : errW (some c) = .iface 0 (.int .i64 c) := rfl
theorem info5 : (Try.prog.info? 5).map (fun i => (i.zero, i.size, i.bytes)) = some (some (.int .u8 0), 1, 1) := by kernel_rfl
theorem info49 : (Try.prog.info? 49).map (fun i => (i.zero, i.size, i.bytes)) = some (some (.int .u64 0), 1, 8) := by kernel_rfl
end Go.Proofs.Ytohkmnbnjacfaaa.All
namespace Go.Proofs.Ytohkmnbnjacfaaa.All
open Go.Proofs.YtohkmnbnjacfaaaX
open Go.RowKit Go.Proofs.YtohkmnbnjacfaaaW.PrintWords Go.Proofs.YtohkmnbnjacfaaaW.PrintLast Go.Proofs.YtohkmnbnjacfaaaW.PrintMore
attribute [local go_sem] max2_int min2_int max_two min_two max_three min_three max_four min_four
set_option linter.unusedVariables false
set_option linter.unusedSimpArgs false
def natural_Check.j0 : Nat → ByteArray → Bool → Option (Int)
 | 0, _, _ => none
 | k + 1, x0, x10 => if x10 = true then (some 1) else (if (x0.size : Int) > 1024 then (some 4) else (some 0))
def natural_Check.f (k : Nat) (a0 : ByteArray) : Option (Int) := if (a0.size : Int) > 0 then (if 0 < (a0.size : Int) then (natural_Check.j0 k a0 ((bt a0 0) == 0)) else (none)) else (natural_Check.j0 k a0 false)
theorem natural_Check.U1 {g : Prop} (h : g := by
 repeat' first
 | (with_reducible exact ih0 _ _)
 | (with_reducible exact LeO.refl _)
 | (with_reducible exact LeO.none _)
 | (with_reducible refine LeO.ite ?_ ?_)
 | (with_reducible refine LeO.bind ?_ (fun _ => ?_))) : g := h
theorem natural_Check.mono_l : ∀ k, (∀ y0 y1, LeO (natural_Check.j0 k y0 y1) (natural_Check.j0 (k + 1) y0 y1))
 | 0 => fun _ _ r h => by simp [natural_Check.j0] at h
 | k + 1 => by
  have ih0 := natural_Check.mono_l k
  ·intro y0 y1
   unfold natural_Check.j0
   exact natural_Check.U1
theorem natural_Check.mono : ∀ a0 k, LeO (natural_Check.f k a0) (natural_Check.f (k + 1) a0) := by
 intro a0 k
 have ih0 := natural_Check.mono_l k
 unfold natural_Check.f
 exact natural_Check.U1
theorem natural_Check.M1 {g : Prop} (h : g := by
 go_wp2
 go_ret
 exact ⟨by first | rfl | (simp; done) | (simp [*]; done), by repeat (first | exact Drawn0.refl _ | apply Drawn0.step)⟩) : g := h
set_option maxHeartbeats 8000000 in
set_option maxRecDepth 100000 in
theorem natural_Check.calls (k : Nat) (a0 : ByteArray) (r : Int) (w : World) (h : natural_Check.f k a0 = some r) :
  Calls Try.prog 38 #[.string a0] w fun e w' => e = .returned (.int .i64 r) ∧ Drawn0 w w' := by
 have H := h
 unfold natural_Check.f at H
 clear h
 have HC2 := Aside0.mk H
 clear H
 go_enter Try.func38, Try.ntmps38
 go_upto_region 1 with (fail)
 go_cut [10] (fun v10 wc => ∃ (kq : Nat) (x10_1 : Bool), v10 = .bool x10_1 ∧ Aside0 (natural_Check.j0 kq a0 x10_1 = some r) ∧ Aside0 (kq ≤ k) ∧ Drawn0 w wc)
 case first =>
  have H := HC2.out
  clear HC2
  by_cases c3 : (a0.size : Int) > 0
  ·rw [if_pos c3] at H
   have c3b0 : decide (0 < (a0.size : Int)) = true := decide_eq_true c3
   have c3b1 : decide (0 < a0.size) = true := decide_eq_true (by omega)
   clear c3
   (first | rw [c3b0] | rw [c3b1] | (simp only [i64_w, i32_w]; rw [c3b0]) | skip)
   obtain ⟨c4, H⟩ := ZI H
   have c4b0 : decide (0 < (a0.size : Int)) = true := decide_eq_true c4
   have c4b1 : decide (0 < a0.size) = true := decide_eq_true (by omega)
   clear c4
   have H' := Aside0.mk H
   clear H
   have p5 : 0 ≤ (0 : Int) := (by omega)
   have q5 : 0 < a0.size := (by have : (0 : Int) < (a0.size : Int) := of_decide_eq_true ZD; omega)
   have hx5 : ∀ h : 0 < a0.size, ((a0[0]'h).toNat : Int) = bt a0 0 := bt_at a0 0
   clear p5
   have qi5 : (0 < (a0.size : Int)) = True := eq_true (of_decide_eq_true ZD)
   replace q5 := eq_true q5
   go_wp2
   go_meet
   case rel => exact ⟨_, (((bt a0 0) == 0)), ZS, H', ⟨ZN⟩, by repeat (first | exact Drawn0.refl _ | apply Drawn0.step)⟩
  ·rw [if_neg c3] at H
   have c3b0 : decide (0 < (a0.size : Int)) = false := decide_eq_false c3
   have c3b1 : decide (0 < a0.size) = false := decide_eq_false (by omega)
   clear c3
   (first | rw [c3b0] | rw [c3b1] | (simp only [i64_w, i32_w]; rw [c3b0]) | skip)
   have H' := Aside0.mk H
   clear H
   go_wp2
   go_meet
   case rel => exact ⟨_, (false), ZS, H', ⟨ZN⟩, by repeat (first | exact Drawn0.refl _ | apply Drawn0.step)⟩
 case rest =>
  clear HC2
  obtain ⟨kq, x10_1, rfl, HA, HJ1, ⟨mc1, rfl⟩⟩ := hcut
  cases kq with
  | zero => exact absurd HA.out (by simp [natural_Check.j0])
  | succ kj1 =>
   have H := HA.out
   clear HA
   simp only [natural_Check.j0] at H
   by_cases c6 : x10_1 = true
   ·subst c6
    rw [if_pos rfl] at H
    obtain rfl := Option.some.inj H
    exact natural_Check.M1
   ·replace c6 := Bool.eq_false_iff.mpr c6
    subst c6
    rw [if_neg Bool.false_ne_true] at H
    by_cases c7 : (a0.size : Int) > 1024
    ·rw [if_pos c7] at H
     have c7b0 : decide (1024 < (a0.size : Int)) = true := decide_eq_true c7
     have c7b1 : decide (1024 < a0.size) = true := decide_eq_true (by omega)
     clear c7
     obtain rfl := Option.some.inj H
     exact natural_Check.M1
    ·rw [if_neg c7] at H
     have c7b0 : decide (1024 < (a0.size : Int)) = false := decide_eq_false c7
     have c7b1 : decide (1024 < a0.size) = false := decide_eq_false (by omega)
     clear c7
     obtain rfl := Option.some.inj H
     go_wp2
     go_ret
     exact ⟨by first | rfl | (simp; done) | (simp [*]; done), by repeat (first | exact Drawn0.refl _ | apply Drawn0.step)⟩
def natural_first.l0 : Nat → List ByteArray → Int → Int → Option (Int)
 | 0, _, _, _ => none
 | k + 1, x6, x7, x8 => if x8 < x7 then (if 0 ≤ x8 then (if x8 < (x6.length : Int) then ((natural_Check.f k (rdOf ByteArray.empty x6 x8)).bind fun t102 => (if t102 = 0 then (natural_first.l0 k x6 x7 (wrap64 (x8 + 1))) else (some t102))) else (none)) else (none)) else (some 0)
def natural_first.f (k : Nat) (l0 : List ByteArray) : Option (Int) := natural_first.l0 k l0 (l0.length : Int) 0
theorem natural_first.U1 {g : Prop} (h : g := by
 repeat' first
 | (with_reducible exact ih0 _ _ _)
 | (with_reducible exact natural_Check.mono _ _)
 | (with_reducible exact LeO.refl _)
 | (with_reducible exact LeO.none _)
 | (with_reducible refine LeO.ite ?_ ?_)
 | (with_reducible refine LeO.bind ?_ (fun _ => ?_))) : g := h
theorem natural_first.mono_l : ∀ k, (∀ y0 y1 y2, LeO (natural_first.l0 k y0 y1 y2) (natural_first.l0 (k + 1) y0 y1 y2))
 | 0 => fun _ _ _ r h => by simp [natural_first.l0] at h
 | k + 1 => by
  have ih0 := natural_first.mono_l k
  ·intro y0 y1 y2
   unfold natural_first.l0
   exact natural_first.U1
theorem natural_first.mono : ∀ a0 k, LeO (natural_first.f k a0) (natural_first.f (k + 1) a0) := by
 intro a0 k
 have ih0 := natural_first.mono_l k
 unfold natural_first.f
 exact natural_first.U1
theorem natural_first.M1 {g : Prop} (h : g := by
 go_wp2_with (first | ((with_reducible refine gate_callee (f := 38) rfl ?_); refine goesL_ (some 13) rfl rfl Try.func38 (by kernel_rfl) rfl #[.string (rdOf ByteArray.empty l0 x8_1)] rfl ZA ?_; (with_reducible refine (natural_Check.calls k1 (rdOf ByteArray.empty l0 x8_1) t102 _ A5.out).mono ?_); rintro e w' ⟨rfl, ⟨nd, rfl⟩⟩; refine ⟨_, rfl, ?_⟩))
 first
 | (go_roundg k1; (case measure => have := HK1.out; omega); (case rel => exact ⟨_, ZS, H', ⟨by have := HK1.out; omega⟩, by repeat (first | exact Drawn0.refl _ | apply Drawn0.step)⟩))
 | (go_ret; exact ⟨by first | rfl | (simp; done) | (simp [*]; done), by repeat (first | exact Drawn0.refl _ | apply Drawn0.step)⟩)) : g := h
set_option maxHeartbeats 8000000 in
set_option maxRecDepth 100000 in
theorem natural_first.calls (k : Nat) (A0 : Option Addr) (c0 : Nat) (l0 : List ByteArray) (r : Int) (w : World) (hr0 : Kd.C Kd.string w A0 l0.length l0) (hc0 : l0.length ≤ c0) (h : natural_first.f k l0 = some r) :
  Calls Try.prog 47 #[.slice A0 l0.length c0] w fun e w' => e = .returned (.int .i64 r) ∧ Drawn0 w w' := by
 have HR0 := Aside0.mk hr0
 have HC0 := Aside0.mk hc0
 clear hr0 hc0
 have H : (natural_first.l0 k l0 (l0.length : Int) 0) = some r := h
 clear h
 have H' := Aside0.mk H
 clear H
 go_enter Try.func47, Try.ntmps47
 go_wp2
 go_loopg [8] k (fun kq v8 w' => ∃ (x8_1 : Int), v8 = .int .i64 x8_1 ∧ Aside0 (natural_first.l0 kq l0 (l0.length : Int) x8_1 = some r) ∧ Aside0 (kq ≤ k) ∧ Drawn0 w w')
 case atStart => exact ⟨(0), ZS, H', ⟨Nat.le_refl _⟩, by repeat (first | exact Drawn0.refl _ | apply Drawn0.step)⟩
 case round =>
  clear H'
  obtain ⟨x8_1, rfl, HA, HK1, ⟨m1, rfl⟩⟩ := hrel
  cases gk with
  | zero => exact absurd HA.out (by simp [natural_first.l0])
  | succ k1 =>
   have H := HA.out
   clear HA
   simp only [natural_first.l0] at H
   by_cases c2 : x8_1 < (l0.length : Int)
   ·rw [if_pos c2] at H
    have c2b0 : decide (x8_1 < (l0.length : Int)) = true := decide_eq_true c2
    clear c2
    obtain ⟨c3, H⟩ := ZI H
    have c3b0 : decide (0 ≤ x8_1) = true := decide_eq_true c3
    clear c3
    obtain ⟨c4, H⟩ := ZI H
    have c4b0 : decide (x8_1 < (l0.length : Int)) = true := decide_eq_true c4
    clear c4
    obtain ⟨t102, A5, H⟩ := ZO H
    by_cases c6 : t102 = 0
    ·rw [if_pos c6] at H
     have c6b0 : (t102 == 0) = true := beq_iff_eq.mpr c6
     have c6b1 : (t102 != 0) = false := bne_eq_false_iff_eq.mpr c6
     clear c6
     have H' := Aside0.mk H
     clear H
     have p101 : 0 ≤ (x8_1 : Int) := of_decide_eq_true ZD
     have q101 : x8_1 < (l0.length : Int) := of_decide_eq_true ZD
     obtain ⟨ad101, e101, hx101_0⟩ := Kd.at_string HR0.out x8_1 p101 q101
     cases e101
     replace p101 := eq_true p101
     replace q101 := eq_true q101
     exact natural_first.M1
    ·rw [if_neg c6] at H
     have c6b0 : (t102 == 0) = false := beq_eq_false_iff_ne.mpr c6
     have c6b1 : (t102 != 0) = true := bne_iff_ne.mpr c6
     obtain rfl := Option.some.inj H
     have p101 : 0 ≤ (x8_1 : Int) := of_decide_eq_true ZD
     have q101 : x8_1 < (l0.length : Int) := of_decide_eq_true ZD
     obtain ⟨ad101, e101, hx101_0⟩ := Kd.at_string HR0.out x8_1 p101 q101
     cases e101
     replace p101 := eq_true p101
     replace q101 := eq_true q101
     exact natural_first.M1
   ·rw [if_neg c2] at H
    have c2b0 : decide (x8_1 < (l0.length : Int)) = false := decide_eq_false c2
    clear c2
    obtain rfl := Option.some.inj H
    go_wp2
    go_ret
    exact ⟨by first | rfl | (simp; done) | (simp [*]; done), by repeat (first | exact Drawn0.refl _ | apply Drawn0.step)⟩
def exact_compareWords.l0 : Nat → List Int → List Int → Int → Option (Int)
 | 0, _, _, _ => none
 | k + 1, x0, x1, x5 => if x5 ≥ 0 then (if 0 ≤ x5 then (if x5 < (x0.length : Int) then (if x5 < (x1.length : Int) then (if (rd x0 x5) = (rd x1 x5) then (exact_compareWords.l0 k x0 x1 (wrap64 (x5 - 1))) else (if (rd x0 x5) < (rd x1 x5) then (some (-1)) else (some 1))) else (none)) else (none)) else (none)) else (some 0)
def exact_compareWords.f (k : Nat) (l0 : List Int) (l1 : List Int) : Option (Int) := if (l0.length : Int) = (l1.length : Int) then (exact_compareWords.l0 k l0 l1 (wrap64 ((l0.length : Int) - 1))) else (if (l0.length : Int) < (l1.length : Int) then (some (-1)) else (some 1))
theorem exact_compareWords.U1 {g : Prop} (h : g := by
 repeat' first
 | (with_reducible exact ih0 _ _ _)
 | (with_reducible exact LeO.refl _)
 | (with_reducible exact LeO.none _)
 | (with_reducible refine LeO.ite ?_ ?_)
 | (with_reducible refine LeO.bind ?_ (fun _ => ?_))) : g := h
theorem exact_compareWords.mono_l : ∀ k, (∀ y0 y1 y2, LeO (exact_compareWords.l0 k y0 y1 y2) (exact_compareWords.l0 (k + 1) y0 y1 y2))
 | 0 => fun _ _ _ r h => by simp [exact_compareWords.l0] at h
 | k + 1 => by
  have ih0 := exact_compareWords.mono_l k
  ·intro y0 y1 y2
   unfold exact_compareWords.l0
   exact exact_compareWords.U1
theorem exact_compareWords.mono : ∀ a0 a1 k, LeO (exact_compareWords.f k a0 a1) (exact_compareWords.f (k + 1) a0 a1) := by
 intro a0 a1 k
 have ih0 := exact_compareWords.mono_l k
 unfold exact_compareWords.f
 exact exact_compareWords.U1
theorem exact_compareWords.M1 {g : Prop} (h : g := by
 go_wp2
 repeat (go_quiet (fail); try go_wp2)
 first
 | (go_roundg k1; (case measure => have := HK1.out; omega); (case rel => exact ⟨_, ZS, H', ⟨by have := HK1.out; omega⟩, by repeat (first | exact Drawn0.refl _ | apply Drawn0.step)⟩))
 | (go_ret; exact ⟨by first | rfl | (simp; done) | (simp [*]; done), by repeat (first | exact Drawn0.refl _ | apply Drawn0.step)⟩)) : g := h
set_option maxHeartbeats 8000000 in
set_option maxRecDepth 100000 in
theorem exact_compareWords.calls (k : Nat) (A0 : Option Addr) (c0 : Nat) (l0 : List Int) (A1 : Option Addr) (c1 : Nat) (l1 : List Int) (r : Int) (w : World) (hr0 : Kd.C (Kd.int .u64) w A0 l0.length l0) (hc0 : l0.length ≤ c0) (hr1 : Kd.C (Kd.int .u64) w A1 l1.length l1) (hc1 : l1.length ≤ c1) (h : exact_compareWords.f k l0 l1 = some r) :
  Calls Try.prog 77 #[.slice A0 l0.length c0, .slice A1 l1.length c1] w fun e w' => e = .returned (.int .i64 r) ∧ Drawn0 w w' := by
 have HR0 := Aside0.mk hr0
 have HC0 := Aside0.mk hc0
 clear hr0 hc0
 have HR1 := Aside0.mk hr1
 have HC1 := Aside0.mk hc1
 clear hr1 hc1
 have H := h
 unfold exact_compareWords.f at H
 clear h
 by_cases c3 : (l0.length : Int) = (l1.length : Int)
 ·rw [if_pos c3] at H
  have c3b0 : ((l0.length : Int) == (l1.length : Int)) = true := beq_iff_eq.mpr c3
  have c3b1 : ((l0.length : Int) != (l1.length : Int)) = false := bne_eq_false_iff_eq.mpr c3
  have c3b2 : (l0.length == l1.length) = true := by first | simpa using c3 | (simp at c3 ⊢; omega)
  clear c3
  have H' := Aside0.mk H
  clear H
  go_enter Try.func77, Try.ntmps77
  go_wp2
  repeat (go_quiet (fail); try go_wp2)
  go_loopg [5] k (fun kq v5 w' => ∃ (x5_1 : Int), v5 = .int .i64 x5_1 ∧ Aside0 (exact_compareWords.l0 kq l0 l1 x5_1 = some r) ∧ Aside0 (kq ≤ k) ∧ Drawn0 w w')
  case atStart => exact ⟨(wrap64 ((l0.length : Int) - 1)), ZS, H', ⟨Nat.le_refl _⟩, by repeat (first | exact Drawn0.refl _ | apply Drawn0.step)⟩
  case round =>
   clear H'
   try clear c1
   try clear c3
   try clear c3b0
   try clear c3b1
   try clear c3b2
   obtain ⟨x5_1, rfl, HA, HK1, ⟨m1, rfl⟩⟩ := hrel
   cases gk with
   | zero => exact absurd HA.out (by simp [exact_compareWords.l0])
   | succ k1 =>
    have H := HA.out
    clear HA
    simp only [exact_compareWords.l0] at H
    by_cases c4 : x5_1 ≥ 0
    ·rw [if_pos c4] at H
     have c4b0 : decide (0 ≤ x5_1) = true := decide_eq_true c4
     clear c4
     obtain ⟨c5, H⟩ := ZI H
     have c5b0 : decide (0 ≤ x5_1) = true := decide_eq_true c5
     clear c5
     obtain ⟨c6, H⟩ := ZI H
     have c6b0 : decide (x5_1 < (l0.length : Int)) = true := decide_eq_true c6
     clear c6
     obtain ⟨c7, H⟩ := ZI H
     have c7b0 : decide (x5_1 < (l1.length : Int)) = true := decide_eq_true c7
     clear c7
     by_cases c8 : (rd l0 x5_1) = (rd l1 x5_1)
     ·rw [if_pos c8] at H
      have c8b0 : ((rd l0 x5_1) == (rd l1 x5_1)) = true := beq_iff_eq.mpr c8
      have c8b1 : ((rd l0 x5_1) != (rd l1 x5_1)) = false := bne_eq_false_iff_eq.mpr c8
      clear c8
      have H' := Aside0.mk H
      clear H
      have p103 : 0 ≤ (x5_1 : Int) := of_decide_eq_true ZD
      have q103 : x5_1 < (l0.length : Int) := of_decide_eq_true ZD
      obtain ⟨ad103, e103, hx103_0⟩ := Kd.at_int HR0.out x5_1 p103 q103
      cases e103
      replace p103 := eq_true p103
      replace q103 := eq_true q103
      have p104 : 0 ≤ (x5_1 : Int) := of_decide_eq_true ZD
      have q104 : x5_1 < (l1.length : Int) := of_decide_eq_true ZD
      obtain ⟨ad104, e104, hx104_0⟩ := Kd.at_int HR1.out x5_1 p104 q104
      cases e104
      replace p104 := eq_true p104
      replace q104 := eq_true q104
      exact exact_compareWords.M1
     ·rw [if_neg c8] at H
      have c8b0 : ((rd l0 x5_1) == (rd l1 x5_1)) = false := beq_eq_false_iff_ne.mpr c8
      have c8b1 : ((rd l0 x5_1) != (rd l1 x5_1)) = true := bne_iff_ne.mpr c8
      by_cases c9 : (rd l0 x5_1) < (rd l1 x5_1)
      ·rw [if_pos c9] at H
       have c9b0 : decide ((rd l0 x5_1) < (rd l1 x5_1)) = true := decide_eq_true c9
       clear c9
       obtain rfl := Option.some.inj H
       have p103 : 0 ≤ (x5_1 : Int) := of_decide_eq_true ZD
       have q103 : x5_1 < (l0.length : Int) := of_decide_eq_true ZD
       obtain ⟨ad103, e103, hx103_0⟩ := Kd.at_int HR0.out x5_1 p103 q103
       cases e103
       replace p103 := eq_true p103
       replace q103 := eq_true q103
       have p104 : 0 ≤ (x5_1 : Int) := of_decide_eq_true ZD
       have q104 : x5_1 < (l1.length : Int) := of_decide_eq_true ZD
       obtain ⟨ad104, e104, hx104_0⟩ := Kd.at_int HR1.out x5_1 p104 q104
       cases e104
       replace p104 := eq_true p104
       replace q104 := eq_true q104
       have p105 : 0 ≤ (x5_1 : Int) := of_decide_eq_true ZD
       have q105 : x5_1 < (l0.length : Int) := of_decide_eq_true ZD
       obtain ⟨ad105, e105, hx105_0⟩ := Kd.at_int HR0.out x5_1 p105 q105
       obtain rfl : ad103 = ad105 := (by injection e105)
       replace p105 := eq_true p105
       replace q105 := eq_true q105
       have p106 : 0 ≤ (x5_1 : Int) := of_decide_eq_true ZD
       have q106 : x5_1 < (l1.length : Int) := of_decide_eq_true ZD
       obtain ⟨ad106, e106, hx106_0⟩ := Kd.at_int HR1.out x5_1 p106 q106
       obtain rfl : ad104 = ad106 := (by injection e106)
       replace p106 := eq_true p106
       replace q106 := eq_true q106
       exact exact_compareWords.M1
      ·rw [if_neg c9] at H
       have c9b0 : decide ((rd l0 x5_1) < (rd l1 x5_1)) = false := decide_eq_false c9
       clear c9
       obtain rfl := Option.some.inj H
       have p103 : 0 ≤ (x5_1 : Int) := of_decide_eq_true ZD
       have q103 : x5_1 < (l0.length : Int) := of_decide_eq_true ZD
       obtain ⟨ad103, e103, hx103_0⟩ := Kd.at_int HR0.out x5_1 p103 q103
       cases e103
       replace p103 := eq_true p103
       replace q103 := eq_true q103
       have p104 : 0 ≤ (x5_1 : Int) := of_decide_eq_true ZD
       have q104 : x5_1 < (l1.length : Int) := of_decide_eq_true ZD
       obtain ⟨ad104, e104, hx104_0⟩ := Kd.at_int HR1.out x5_1 p104 q104
       cases e104
       replace p104 := eq_true p104
       replace q104 := eq_true q104
       have p105 : 0 ≤ (x5_1 : Int) := of_decide_eq_true ZD
       have q105 : x5_1 < (l0.length : Int) := of_decide_eq_true ZD
       obtain ⟨ad105, e105, hx105_0⟩ := Kd.at_int HR0.out x5_1 p105 q105
       obtain rfl : ad103 = ad105 := (by injection e105)
       replace p105 := eq_true p105
       replace q105 := eq_true q105
       have p106 : 0 ≤ (x5_1 : Int) := of_decide_eq_true ZD
       have q106 : x5_1 < (l1.length : Int) := of_decide_eq_true ZD
       obtain ⟨ad106, e106, hx106_0⟩ := Kd.at_int HR1.out x5_1 p106 q106
       obtain rfl : ad104 = ad106 := (by injection e106)
       replace p106 := eq_true p106
       replace q106 := eq_true q106
       exact exact_compareWords.M1
    ·rw [if_neg c4] at H
     have c4b0 : decide (0 ≤ x5_1) = false := decide_eq_false c4
     clear c4
     obtain rfl := Option.some.inj H
     exact exact_compareWords.M1
 ·rw [if_neg c3] at H
  have c3b0 : ((l0.length : Int) == (l1.length : Int)) = false := beq_eq_false_iff_ne.mpr c3
  have c3b1 : ((l0.length : Int) != (l1.length : Int)) = true := bne_iff_ne.mpr c3
  have c3b2 : (l0.length == l1.length) = false := by first | simpa using c3 | (simp at c3 ⊢; omega)
  by_cases c10 : (l0.length : Int) < (l1.length : Int)
  ·rw [if_pos c10] at H
   have c10b0 : decide ((l0.length : Int) < (l1.length : Int)) = true := decide_eq_true c10
   have c10b1 : decide (l0.length < l1.length) = true := decide_eq_true (Int.ofNat_lt.mp c10)
   clear c10
   obtain rfl := Option.some.inj H
   go_enter Try.func77, Try.ntmps77
   go_wp2
   repeat (go_quiet (fail); try go_wp2)
   go_ret
   exact ⟨by first | rfl | (simp; done) | (simp [*]; done), by repeat (first | exact Drawn0.refl _ | apply Drawn0.step)⟩
  ·rw [if_neg c10] at H
   have c10b0 : decide ((l0.length : Int) < (l1.length : Int)) = false := decide_eq_false c10
   have c10b1 : decide (l0.length < l1.length) = false := decide_eq_false (fun h => c10 (Int.ofNat_lt.mpr h))
   clear c10
   obtain rfl := Option.some.inj H
   go_enter Try.func77, Try.ntmps77
   go_wp2
   repeat (go_quiet (fail); try go_wp2)
   go_ret
   exact ⟨by first | rfl | (simp; done) | (simp [*]; done), by repeat (first | exact Drawn0.refl _ | apply Drawn0.step)⟩
def bits_Len64.f (a0 : Int) : Option (Int) := if 0 ≤ a0 ∧ a0 ≤ 18446744073709551615 then some (Lib.bitLen a0.toNat : Int) else none
theorem bits_Len64.calls (a0 : Int) (r : Int) (w : World) (h : bits_Len64.f a0 = some r) :
  Calls Try.prog 84 #[.int .u64 a0] w fun e w' => e = .returned (.int .i64 r) ∧ Drawn0 w w' := by
 unfold bits_Len64.f at h
 by_cases c : 0 ≤ a0 ∧ a0 ≤ 18446744073709551615
 ·rw [if_pos c] at h
  obtain rfl := Option.some.inj h
  refine (len64_says a0 w c.1 c.2).mono ?_
  rintro e w' ⟨he, rfl⟩
  exact ⟨he, Drawn0.refl _⟩
 ·rw [if_neg c] at h
  exact absurd h (by simp)
def bits_LeadingZeros64.f (a0 : Int) : Option (Int) := (bits_Len64.f a0).bind fun t107 => (some (wrap64 (64 - t107)))
set_option maxHeartbeats 8000000 in
set_option maxRecDepth 100000 in
theorem bits_LeadingZeros64.calls (a0 : Int) (r : Int) (w : World) (h : bits_LeadingZeros64.f a0 = some r) :
  Calls Try.prog 80 #[.int .u64 a0] w fun e w' => e = .returned (.int .i64 r) ∧ Drawn0 w w' := by
 have H := h
 unfold bits_LeadingZeros64.f at H
 clear h
 obtain ⟨t107, A2, H⟩ := ZO H
 obtain rfl := Option.some.inj H
 go_enter Try.func80, Try.ntmps80
 go_wp2_with (first | ((with_reducible refine gate_callee (f := 84) rfl ?_); refine goesL_ (some 4) rfl rfl Try.func84 (by kernel_rfl) rfl #[.int .u64 a0] rfl ZA ?_; (with_reducible refine (bits_Len64.calls a0 t107 _ A2.out).mono ?_); rintro e w' ⟨rfl, ⟨nd, rfl⟩⟩; refine ⟨_, rfl, ?_⟩))
 go_ret
 exact ⟨by first | rfl | (simp; done) | (simp [*]; done), by repeat (first | exact Drawn0.refl _ | apply Drawn0.step)⟩
end Go.Proofs.Ytohkmnbnjacfaaa.All
namespace Go.Proofs.Ytohkmnbnjacfaaa.All
open Go.Proofs.YtohkmnbnjacfaaaX
open Go.RowKit Go.Proofs.YtohkmnbnjacfaaaW.PrintWords Go.Proofs.YtohkmnbnjacfaaaW.PrintLast Go.Proofs.YtohkmnbnjacfaaaW.PrintMore
attribute [local go_sem] max2_int min2_int max_two min_two max_three min_three max_four min_four
set_option linter.unusedVariables false
set_option linter.unusedSimpArgs false
mutual
def bits_Div64.j2 : Nat → Int → Int → Int → Int → Int → Int → Int → Int → Option (Int × Int)
 | 0, _, _, _, _, _, _, _, _ => none
 | k + 1, x2, x8, x9, x10, x11, x13, x14, x15 => if x9 = 0 then (none) else (bits_Div64.l1 k x2 x8 x9 x10 x14 x15 (IntKind.u64.wrap ((IntKind.u64.wrap ((IntKind.u64.wrap ((IntKind.u64.wrap (x11 * 4294967296)) + x13)) - (IntKind.u64.wrap (x15 * x2)))) - (IntKind.u64.wrap ((IntKind.u64.wrap (Int.tdiv (IntKind.u64.wrap ((IntKind.u64.wrap ((IntKind.u64.wrap (x11 * 4294967296)) + x13)) - (IntKind.u64.wrap (x15 * x2)))) x9)) * x9)))) (IntKind.u64.wrap ((IntKind.u64.wrap ((IntKind.u64.wrap (x11 * 4294967296)) + x13)) - (IntKind.u64.wrap (x15 * x2)))) (IntKind.u64.wrap (Int.tdiv (IntKind.u64.wrap ((IntKind.u64.wrap ((IntKind.u64.wrap (x11 * 4294967296)) + x13)) - (IntKind.u64.wrap (x15 * x2)))) x9)))
def bits_Div64.l1 : Nat → Int → Int → Int → Int → Int → Int → Int → Int → Int → Option (Int × Int)
 | 0, _, _, _, _, _, _, _, _, _ => none
 | k + 1, x2, x8, x9, x10, x14, x15, x16, x17, x18 => if x18 ≥ 4294967296 then (bits_Div64.j4 k x2 x8 x9 x10 x14 x15 x16 x17 x18 true) else (bits_Div64.j4 k x2 x8 x9 x10 x14 x15 x16 x17 x18 (decide ((IntKind.u64.wrap (x18 * x10)) > (IntKind.u64.wrap ((IntKind.u64.wrap (4294967296 * x16)) + x14)))))
def bits_Div64.j4 : Nat → Int → Int → Int → Int → Int → Int → Int → Int → Int → Bool → Option (Int × Int)
 | 0, _, _, _, _, _, _, _, _, _, _ => none
 | k + 1, x2, x8, x9, x10, x14, x15, x16, x17, x18, x113 => if x113 = true then (if (IntKind.u64.wrap (x16 + x9)) ≥ 4294967296 then (if 0 ≤ x8 then (some (IntKind.u64.wrap ((IntKind.u64.wrap (x15 * 4294967296)) + (IntKind.u64.wrap (x18 - 1))), shr .u64 (IntKind.u64.wrap ((IntKind.u64.wrap ((IntKind.u64.wrap (x17 * 4294967296)) + x14)) - (IntKind.u64.wrap ((IntKind.u64.wrap (x18 - 1)) * x2)))) x8)) else (none)) else (bits_Div64.l1 k x2 x8 x9 x10 x14 x15 (IntKind.u64.wrap (x16 + x9)) x17 (IntKind.u64.wrap (x18 - 1)))) else (if 0 ≤ x8 then (some (IntKind.u64.wrap ((IntKind.u64.wrap (x15 * 4294967296)) + x18), shr .u64 (IntKind.u64.wrap ((IntKind.u64.wrap ((IntKind.u64.wrap (x17 * 4294967296)) + x14)) - (IntKind.u64.wrap (x18 * x2)))) x8)) else (none))
def bits_Div64.l0 : Nat → Int → Int → Int → Int → Int → Int → Int → Int → Int → Option (Int × Int)
 | 0, _, _, _, _, _, _, _, _, _ => none
 | k + 1, x2, x8, x9, x10, x11, x13, x14, x15, x16 => if x15 ≥ 4294967296 then (bits_Div64.j1 k x2 x8 x9 x10 x11 x13 x14 x15 x16 true) else (bits_Div64.j1 k x2 x8 x9 x10 x11 x13 x14 x15 x16 (decide ((IntKind.u64.wrap (x15 * x10)) > (IntKind.u64.wrap ((IntKind.u64.wrap (4294967296 * x16)) + x13)))))
def bits_Div64.j1 : Nat → Int → Int → Int → Int → Int → Int → Int → Int → Int → Bool → Option (Int × Int)
 | 0, _, _, _, _, _, _, _, _, _, _ => none
 | k + 1, x2, x8, x9, x10, x11, x13, x14, x15, x16, x78 => if x78 = true then (if (IntKind.u64.wrap (x16 + x9)) ≥ 4294967296 then (bits_Div64.j2 k x2 x8 x9 x10 x11 x13 x14 (IntKind.u64.wrap (x15 - 1))) else (bits_Div64.l0 k x2 x8 x9 x10 x11 x13 x14 (IntKind.u64.wrap (x15 - 1)) (IntKind.u64.wrap (x16 + x9)))) else (bits_Div64.j2 k x2 x8 x9 x10 x11 x13 x14 x15)
end
def bits_Div64.f (k : Nat) (a0 : Int) (a1 : Int) (a2 : Int) : Option (Int × Int) := if a2 = 0 then (none) else (if a2 ≤ a0 then (none) else (if a0 = 0 then (some (IntKind.u64.wrap (Int.tdiv a1 a2), Int.tmod a1 a2)) else ((bits_LeadingZeros64.f a2).bind fun t108 => (if 0 ≤ (IntKind.u64.wrap (t108)) then (if 0 ≤ (IntKind.u64.wrap (64 - (IntKind.u64.wrap (t108)))) then (if ((shl .u64 a2 (IntKind.u64.wrap (t108))) / 4294967296) = 0 then (none) else (bits_Div64.l0 k (shl .u64 a2 (IntKind.u64.wrap (t108))) (IntKind.u64.wrap (t108)) ((shl .u64 a2 (IntKind.u64.wrap (t108))) / 4294967296) (Go.bits .and .u64 (shl .u64 a2 (IntKind.u64.wrap (t108))) 4294967295) (Go.bits .or .u64 (shl .u64 a0 (IntKind.u64.wrap (t108))) (shr .u64 a1 (IntKind.u64.wrap (64 - (IntKind.u64.wrap (t108)))))) ((shl .u64 a1 (IntKind.u64.wrap (t108))) / 4294967296) (Go.bits .and .u64 (shl .u64 a1 (IntKind.u64.wrap (t108))) 4294967295) (IntKind.u64.wrap (Int.tdiv (Go.bits .or .u64 (shl .u64 a0 (IntKind.u64.wrap (t108))) (shr .u64 a1 (IntKind.u64.wrap (64 - (IntKind.u64.wrap (t108)))))) ((shl .u64 a2 (IntKind.u64.wrap (t108))) / 4294967296))) (IntKind.u64.wrap ((Go.bits .or .u64 (shl .u64 a0 (IntKind.u64.wrap (t108))) (shr .u64 a1 (IntKind.u64.wrap (64 - (IntKind.u64.wrap (t108)))))) - (IntKind.u64.wrap ((IntKind.u64.wrap (Int.tdiv (Go.bits .or .u64 (shl .u64 a0 (IntKind.u64.wrap (t108))) (shr .u64 a1 (IntKind.u64.wrap (64 - (IntKind.u64.wrap (t108)))))) ((shl .u64 a2 (IntKind.u64.wrap (t108))) / 4294967296))) * ((shl .u64 a2 (IntKind.u64.wrap (t108))) / 4294967296))))))) else (none)) else (none)))))
theorem bits_Div64.U1 {g : Prop} (h : g := by
 repeat' first
 | (with_reducible exact ih0 _ _ _ _ _ _ _ _)
 | (with_reducible exact ih1 _ _ _ _ _ _ _ _ _)
 | (with_reducible exact ih2 _ _ _ _ _ _ _ _ _ _)
 | (with_reducible exact ih3 _ _ _ _ _ _ _ _ _)
 | (with_reducible exact ih4 _ _ _ _ _ _ _ _ _ _)
 | (with_reducible exact LeO.refl _)
 | (with_reducible exact LeO.none _)
 | (with_reducible refine LeO.ite ?_ ?_)
 | (with_reducible refine LeO.bind ?_ (fun _ => ?_))) : g := h
theorem bits_Div64.mono_l : ∀ k, (∀ y0 y1 y2 y3 y4 y5 y6 y7, LeO (bits_Div64.j2 k y0 y1 y2 y3 y4 y5 y6 y7) (bits_Div64.j2 (k + 1) y0 y1 y2 y3 y4 y5 y6 y7)) ∧ (∀ y0 y1 y2 y3 y4 y5 y6 y7 y8, LeO (bits_Div64.l1 k y0 y1 y2 y3 y4 y5 y6 y7 y8) (bits_Div64.l1 (k + 1) y0 y1 y2 y3 y4 y5 y6 y7 y8)) ∧ (∀ y0 y1 y2 y3 y4 y5 y6 y7 y8 y9, LeO (bits_Div64.j4 k y0 y1 y2 y3 y4 y5 y6 y7 y8 y9) (bits_Div64.j4 (k + 1) y0 y1 y2 y3 y4 y5 y6 y7 y8 y9)) ∧ (∀ y0 y1 y2 y3 y4 y5 y6 y7 y8, LeO (bits_Div64.l0 k y0 y1 y2 y3 y4 y5 y6 y7 y8) (bits_Div64.l0 (k + 1) y0 y1 y2 y3 y4 y5 y6 y7 y8)) ∧ (∀ y0 y1 y2 y3 y4 y5 y6 y7 y8 y9, LeO (bits_Div64.j1 k y0 y1 y2 y3 y4 y5 y6 y7 y8 y9) (bits_Div64.j1 (k + 1) y0 y1 y2 y3 y4 y5 y6 y7 y8 y9))
 | 0 => ⟨fun _ _ _ _ _ _ _ _ r h => by simp [bits_Div64.j2] at h, fun _ _ _ _ _ _ _ _ _ r h => by simp [bits_Div64.l1] at h, fun _ _ _ _ _ _ _ _ _ _ r h => by simp [bits_Div64.j4] at h, fun _ _ _ _ _ _ _ _ _ r h => by simp [bits_Div64.l0] at h, fun _ _ _ _ _ _ _ _ _ _ r h => by simp [bits_Div64.j1] at h⟩
 | k + 1 => by
  obtain ⟨ih0, ih1, ih2, ih3, ih4⟩ := bits_Div64.mono_l k
  refine ⟨?_, ?_, ?_, ?_, ?_⟩
  ·intro y0 y1 y2 y3 y4 y5 y6 y7
   unfold bits_Div64.j2
   exact bits_Div64.U1
  ·intro y0 y1 y2 y3 y4 y5 y6 y7 y8
   unfold bits_Div64.l1
   exact bits_Div64.U1
  ·intro y0 y1 y2 y3 y4 y5 y6 y7 y8 y9
   unfold bits_Div64.j4
   exact bits_Div64.U1
  ·intro y0 y1 y2 y3 y4 y5 y6 y7 y8
   unfold bits_Div64.l0
   exact bits_Div64.U1
  ·intro y0 y1 y2 y3 y4 y5 y6 y7 y8 y9
   unfold bits_Div64.j1
   exact bits_Div64.U1
theorem bits_Div64.mono : ∀ a0 a1 a2 k, LeO (bits_Div64.f k a0 a1 a2) (bits_Div64.f (k + 1) a0 a1 a2) := by
 intro a0 a1 a2 k
 obtain ⟨ih0, ih1, ih2, ih3, ih4⟩ := bits_Div64.mono_l k
 unfold bits_Div64.f
 exact bits_Div64.U1
theorem bits_Div64.M1 {g : Prop} (h : g := by
 have H' := Aside0.mk H
 clear H
 go_wp2
 repeat (go_quiet (fail); try go_wp2)
 first
 | (go_meet; (case rel => exact ⟨_, _, ZS, H', ⟨by have := HK1.out; first | omega | exact Nat.le_refl _⟩, by repeat (first | exact Drawn0.refl _ | apply Drawn0.step)⟩))
 | (go_meet; (case rel => exact ⟨_, (decide ((IntKind.u64.wrap (x15_1 * (Go.bits .and .u64 (ji10) 4294967295))) > (IntKind.u64.wrap ((IntKind.u64.wrap (4294967296 * x16_1)) + ((ji17) / 4294967296))))), (by first | rfl | (simp; done) | (simp only [← hji10, ← hji17] <;> (first | rfl | simp)) | (simp [*]; done)), H', ⟨by have := HK1.out; first | omega | exact Nat.le_refl _⟩, by repeat (first | exact Drawn0.refl _ | apply Drawn0.step)⟩))) : g := h
theorem bits_Div64.M2 {g : Prop} (h : g := by
 have H' := Aside0.mk H
 clear H
 go_wp2
 repeat (go_quiet (fail); try go_wp2)
 first
 | (go_meet; (case rel => exact ⟨_, _, ZS, H', ⟨by have := HK1.out; have := HJ19.out; first | omega | exact Nat.le_refl _⟩, by repeat (first | exact Drawn0.refl _ | apply Drawn0.step)⟩))
 | (go_roundg kj19; (case measure => have := HK1.out; have := HJ19.out; omega); (case rel => exact ⟨(IntKind.u64.wrap (x15_1 - 1)), (IntKind.u64.wrap (x16_1 + ((ji10) / 4294967296))), ZS, (by first | rfl | (simp; done) | (simp only [← hji10] <;> (first | rfl | simp)) | (simp [*]; done)), H', ⟨by have := HK1.out; have := HJ19.out; omega⟩, by repeat (first | exact Drawn0.refl _ | apply Drawn0.step)⟩))) : g := h
theorem bits_Div64.M3 {g : Prop} (h : g := by
 have H' := Aside0.mk H
 clear H
 go_wp2
 repeat (go_quiet (fail); try go_wp2)
 first
 | (go_meet; (case rel => exact ⟨_, _, ZS, H', ⟨by have := HJ18.out; have := HK2.out; first | omega | exact Nat.le_refl _⟩, by repeat (first | exact Drawn0.refl _ | apply Drawn0.step)⟩))
 | (go_meet; (case rel => exact ⟨_, (decide ((IntKind.u64.wrap (x18_2 * (Go.bits .and .u64 (ji10) 4294967295))) > (IntKind.u64.wrap ((IntKind.u64.wrap (4294967296 * x16_2)) + (Go.bits .and .u64 (ji17) 4294967295))))), (by first | rfl | (simp; done) | (simp only [← hji10, ← hji17] <;> (first | rfl | simp)) | (simp [*]; done)), H', ⟨by have := HJ18.out; have := HK2.out; first | omega | exact Nat.le_refl _⟩, by repeat (first | exact Drawn0.refl _ | apply Drawn0.step)⟩))) : g := h
set_option maxHeartbeats 8000000 in
set_option maxRecDepth 100000 in
theorem bits_Div64.calls (k : Nat) (a0 : Int) (a1 : Int) (a2 : Int) (r1 : Int) (r2 : Int) (w : World) (h : bits_Div64.f k a0 a1 a2 = some (r1, r2)) :
  Calls Try.prog 78 #[.int .u64 a0, .int .u64 a1, .int .u64 a2] w fun e w' => e = .returned (.tuple #[.int .u64 r1, .int .u64 r2]) ∧ Drawn0 w w' := by
 have H := h
 unfold bits_Div64.f at H
 clear h
 obtain ⟨c4, H⟩ := ZJ H
 have c4b0 : (a2 == 0) = false := beq_eq_false_iff_ne.mpr c4
 have c4b1 : (a2 != 0) = true := bne_iff_ne.mpr c4
 obtain ⟨c5, H⟩ := ZJ H
 have c5b0 : decide (a2 ≤ a0) = false := decide_eq_false c5
 clear c5
 by_cases c6 : a0 = 0
 ·rw [if_pos c6] at H
  have c6b0 : (a0 == 0) = true := beq_iff_eq.mpr c6
  have c6b1 : (a0 != 0) = false := bne_eq_false_iff_eq.mpr c6
  clear c6
  simp only [Option.some.injEq, Prod.mk.injEq] at H
  obtain ⟨rfl, rfl⟩ := H
  go_enter Try.func78, Try.ntmps78
  go_wp2
  repeat (go_quiet (fail); try go_wp2)
  go_ret2
  exact ⟨by first | rfl | (simp; done) | (simp [*]; done), by repeat (first | exact Drawn0.refl _ | apply Drawn0.step)⟩
 ·rw [if_neg c6] at H
  have c6b0 : (a0 == 0) = false := beq_eq_false_iff_ne.mpr c6
  have c6b1 : (a0 != 0) = true := bne_iff_ne.mpr c6
  obtain ⟨t108, A7, H⟩ := ZO H
  obtain ⟨ji8, hji8⟩ : ∃ j_ : Int, (IntKind.u64.wrap (t108)) = j_ := ⟨_, rfl⟩
  (first | rw [hji8] at H | simp only [hji8] at H)
  (try rw [hji8] at A7)
  by_cases c9 : 0 ≤ (ji8)
  ·rw [if_pos c9] at H
   have c9b0 := eq_true c9
   have c9b1 : decide (0 ≤ (ji8)) = true := decide_eq_true c9
   clear c9
   obtain ⟨ji10, hji10⟩ : ∃ j_ : Int, (shl .u64 a2 (ji8)) = j_ := ⟨_, rfl⟩
   (first | rw [hji10] at H | simp only [hji10] at H)
   (try rw [hji10] at A7)
   have hji10_ : (IntKind.u64.wrap (a2 * 2 ^ min (ji8).toNat 64)) = ji10 := hji10
   have hji10z : (ji8) ≤ 64 → (IntKind.u64.wrap (a2 * 2 ^ (ji8).toNat)) = ji10 := shl_small hji10
   have c11b0 := eq_true (of_decide_eq_true ZD : 0 ≤ (ji8))
   obtain ⟨ji12, hji12⟩ : ∃ j_ : Int, (shl .u64 a0 (ji8)) = j_ := ⟨_, rfl⟩
   (first | rw [hji12] at H | simp only [hji12] at H)
   (try rw [hji12] at A7)
   have hji12_ : (IntKind.u64.wrap (a0 * 2 ^ min (ji8).toNat 64)) = ji12 := hji12
   have hji12z : (ji8) ≤ 64 → (IntKind.u64.wrap (a0 * 2 ^ (ji8).toNat)) = ji12 := shl_small hji12
   obtain ⟨ji13, hji13⟩ : ∃ j_ : Int, (IntKind.u64.wrap (64 - (ji8))) = j_ := ⟨_, rfl⟩
   (first | rw [hji13] at H | simp only [hji13] at H)
   (try rw [hji13] at A7)
   obtain ⟨c14, H⟩ := ZI H
   have c14b0 := eq_true c14
   have c14b1 : decide (0 ≤ (ji13)) = true := decide_eq_true c14
   clear c14
   obtain ⟨ji15, hji15⟩ : ∃ j_ : Int, (shr .u64 a1 (ji13)) = j_ := ⟨_, rfl⟩
   (first | rw [hji15] at H | simp only [hji15] at H)
   (try rw [hji15] at A7)
   have hji15_ : (a1 / 2 ^ min (ji13).toNat 64) = ji15 := hji15
   have hji15z : (ji13) ≤ 64 → (a1 / 2 ^ (ji13).toNat) = ji15 := shr_small hji15
   have c16b0 := eq_true (of_decide_eq_true ZD : 0 ≤ (ji8))
   obtain ⟨ji17, hji17⟩ : ∃ j_ : Int, (shl .u64 a1 (ji8)) = j_ := ⟨_, rfl⟩
   (first | rw [hji17] at H | simp only [hji17] at H)
   (try rw [hji17] at A7)
   have hji17_ : (IntKind.u64.wrap (a1 * 2 ^ min (ji8).toNat 64)) = ji17 := hji17
   have hji17z : (ji8) ≤ 64 → (IntKind.u64.wrap (a1 * 2 ^ (ji8).toNat)) = ji17 := shl_small hji17
   obtain ⟨c18, H⟩ := ZJ H
   have c18b0 : (((ji10) / 4294967296) == 0) = false := beq_eq_false_iff_ne.mpr c18
   have c18b1 : (((ji10) / 4294967296) != 0) = true := bne_iff_ne.mpr c18
   have HC19 := Aside0.mk H
   clear H
   go_enter Try.func78, Try.ntmps78
   go_upto_block 0 with (first | (go_at_call 80; (with_reducible refine (bits_LeadingZeros64.calls a2 t108 _ A7.out).mono ?_); rintro e w' ⟨rfl, ⟨nd, rfl⟩⟩; (try first | exact ⟨rfl, _, World.drewN_drewN _ _ _⟩ | exact ⟨rfl, _, Eq.trans (World.drewN_drewN _ _ _) (congrArg (World.drewN _) (Nat.add_assoc _ _ _))⟩)))
   repeat (go_quiet (first | (go_at_call 80; (with_reducible refine (bits_LeadingZeros64.calls a2 t108 _ A7.out).mono ?_); rintro e w' ⟨rfl, ⟨nd, rfl⟩⟩; (try first | exact ⟨rfl, _, World.drewN_drewN _ _ _⟩ | exact ⟨rfl, _, Eq.trans (World.drewN_drewN _ _ _) (congrArg (World.drewN _) (Nat.add_assoc _ _ _))⟩))); go_upto_block 0 with (first | (go_at_call 80; (with_reducible refine (bits_LeadingZeros64.calls a2 t108 _ A7.out).mono ?_); rintro e w' ⟨rfl, ⟨nd, rfl⟩⟩; (try first | exact ⟨rfl, _, World.drewN_drewN _ _ _⟩ | exact ⟨rfl, _, Eq.trans (World.drewN_drewN _ _ _) (congrArg (World.drewN _) (Nat.add_assoc _ _ _))⟩))))
   (try simp only [Act.put, List.setIfInBounds_toArray, List.set_cons_zero, List.set_cons_succ])
   go_cut [15] (fun v15 wc => ∃ (kq : Nat) (x15_18 : Int), v15 = .int .u64 x15_18 ∧ Aside0 (bits_Div64.j2 kq ji10 ji8 ((ji10) / 4294967296) (Go.bits .and .u64 (ji10) 4294967295) (Go.bits .or .u64 (ji12) (ji15)) ((ji17) / 4294967296) (Go.bits .and .u64 (ji17) 4294967295) x15_18 = some (r1, r2)) ∧ Aside0 (kq ≤ k) ∧ Drawn0 w wc)
   case first =>
    have H := HC19.out
    clear HC19
    have H' := Aside0.mk H
    clear H
    go_wp2
    repeat (go_quiet (fail); try go_wp2)
    go_loopg [15, 16] k (fun kq v15 v16 w' => ∃ (x15_1 : Int) (x16_1 : Int), v15 = .int .u64 x15_1 ∧ v16 = .int .u64 x16_1 ∧ Aside0 (bits_Div64.l0 kq ji10 ji8 ((ji10) / 4294967296) (Go.bits .and .u64 (ji10) 4294967295) (Go.bits .or .u64 (ji12) (ji15)) ((ji17) / 4294967296) (Go.bits .and .u64 (ji17) 4294967295) x15_1 x16_1 = some (r1, r2)) ∧ Aside0 (kq ≤ k) ∧ Drawn0 w w')
    case atStart => exact ⟨(IntKind.u64.wrap (Int.tdiv (Go.bits .or .u64 (ji12) (ji15)) ((ji10) / 4294967296))), (IntKind.u64.wrap ((Go.bits .or .u64 (ji12) (ji15)) - (IntKind.u64.wrap ((IntKind.u64.wrap (Int.tdiv (Go.bits .or .u64 (ji12) (ji15)) ((ji10) / 4294967296))) * ((ji10) / 4294967296))))), (by first | rfl | (simp; done) | (simp only [← hji10, ← hji12, ← hji15] <;> (first | rfl | simp)) | (simp [*]; done)), (by first | rfl | (simp; done) | (simp only [← hji10, ← hji12, ← hji15] <;> (first | rfl | simp)) | (simp [*]; done)), H', ⟨Nat.le_refl _⟩, by repeat (first | exact Drawn0.refl _ | apply Drawn0.step)⟩
    case round =>
     clear H'
     try clear c4
     try clear c4b0
     try clear c4b1
     try clear c5
     try clear c5b0
     try clear c6
     try clear c6b0
     try clear c6b1
     try clear c9
     try clear c9b0
     try clear c9b1
     try clear c11b0
     try clear c14
     try clear c14b0
     try clear c14b1
     try clear c16b0
     try clear c18
     try clear c18b0
     try clear c18b1
     obtain ⟨x15_1, x16_1, rfl, rfl, HA, HK1, ⟨m1, rfl⟩⟩ := hrel
     cases gk with
     | zero => exact absurd HA.out (by simp [bits_Div64.l0])
     | succ k1 =>
      have H := HA.out
      clear HA
      simp only [bits_Div64.l0] at H
      have HC20 := Aside0.mk H
      clear H
      go_upto_region 17 with (fail)
      repeat (go_quiet (fail); go_upto_region 17 with (fail))
      go_cut [78] (fun v78 wc => ∃ (kq : Nat) (x78_19 : Bool), v78 = .bool x78_19 ∧ Aside0 (bits_Div64.j1 kq ji10 ji8 ((ji10) / 4294967296) (Go.bits .and .u64 (ji10) 4294967295) (Go.bits .or .u64 (ji12) (ji15)) ((ji17) / 4294967296) (Go.bits .and .u64 (ji17) 4294967295) x15_1 x16_1 x78_19 = some (r1, r2)) ∧ Aside0 (kq ≤ k1) ∧ Drawn0 w wc)
      case first =>
       have H := HC20.out
       clear HC20
       by_cases c21 : x15_1 ≥ 4294967296
       ·rw [if_pos c21] at H
        have c21b0 : decide (4294967296 ≤ x15_1) = true := decide_eq_true c21
        clear c21
        (first | rw [c21b0] | rw [c21b1] | (simp only [i64_w, i32_w]; rw [c21b0]) | skip)
        exact bits_Div64.M1
       ·rw [if_neg c21] at H
        have c21b0 : decide (4294967296 ≤ x15_1) = false := decide_eq_false c21
        clear c21
        (first | rw [c21b0] | rw [c21b1] | (simp only [i64_w, i32_w]; rw [c21b0]) | skip)
        exact bits_Div64.M1
      case rest =>
       clear HC20
       obtain ⟨kq, x78_19, rfl, HA, HJ19, ⟨mc19, rfl⟩⟩ := hcut
       cases kq with
       | zero => exact absurd HA.out (by simp [bits_Div64.j1])
       | succ kj19 =>
        have H := HA.out
        clear HA
        simp only [bits_Div64.j1] at H
        by_cases c22 : x78_19 = true
        ·subst c22
         rw [if_pos rfl] at H
         by_cases c23 : (IntKind.u64.wrap (x16_1 + ((ji10) / 4294967296))) ≥ 4294967296
         ·rw [if_pos c23] at H
          have c23b0 : decide (4294967296 ≤ (IntKind.u64.wrap (x16_1 + ((ji10) / 4294967296)))) = true := decide_eq_true c23
          clear c23
          exact bits_Div64.M2
         ·rw [if_neg c23] at H
          have c23b0 : decide (4294967296 ≤ (IntKind.u64.wrap (x16_1 + ((ji10) / 4294967296)))) = false := decide_eq_false c23
          clear c23
          exact bits_Div64.M2
        ·replace c22 := Bool.eq_false_iff.mpr c22
         subst c22
         rw [if_neg Bool.false_ne_true] at H
         exact bits_Div64.M2
   case rest =>
    clear HC19
    obtain ⟨kq, x15_18, rfl, HA, HJ18, ⟨mc18, rfl⟩⟩ := hcut
    cases kq with
    | zero => exact absurd HA.out (by simp [bits_Div64.j2])
    | succ kj18 =>
     have H := HA.out
     clear HA
     simp only [bits_Div64.j2] at H
     obtain ⟨c24, H⟩ := ZJ H
     have c24b0 : (((ji10) / 4294967296) == 0) = false := beq_eq_false_iff_ne.mpr c24
     have c24b1 : (((ji10) / 4294967296) != 0) = true := bne_iff_ne.mpr c24
     have H' := Aside0.mk H
     clear H
     go_wp2
     repeat (go_quiet (fail); try go_wp2)
     go_loopg [16, 18] kj18 (fun kq v16 v18 w' => ∃ (x16_2 : Int) (x18_2 : Int), v16 = .int .u64 x16_2 ∧ v18 = .int .u64 x18_2 ∧ Aside0 (bits_Div64.l1 kq ji10 ji8 ((ji10) / 4294967296) (Go.bits .and .u64 (ji10) 4294967295) (Go.bits .and .u64 (ji17) 4294967295) x15_18 x16_2 (IntKind.u64.wrap ((IntKind.u64.wrap ((IntKind.u64.wrap ((Go.bits .or .u64 (ji12) (ji15)) * 4294967296)) + ((ji17) / 4294967296))) - (IntKind.u64.wrap (x15_18 * ji10)))) x18_2 = some (r1, r2)) ∧ Aside0 (kq ≤ kj18) ∧ Drawn0 w w')
     case atStart => exact ⟨(IntKind.u64.wrap ((IntKind.u64.wrap ((IntKind.u64.wrap ((IntKind.u64.wrap ((Go.bits .or .u64 (ji12) (ji15)) * 4294967296)) + ((ji17) / 4294967296))) - (IntKind.u64.wrap (x15_18 * ji10)))) - (IntKind.u64.wrap ((IntKind.u64.wrap (Int.tdiv (IntKind.u64.wrap ((IntKind.u64.wrap ((IntKind.u64.wrap ((Go.bits .or .u64 (ji12) (ji15)) * 4294967296)) + ((ji17) / 4294967296))) - (IntKind.u64.wrap (x15_18 * ji10)))) ((ji10) / 4294967296))) * ((ji10) / 4294967296))))), (IntKind.u64.wrap (Int.tdiv (IntKind.u64.wrap ((IntKind.u64.wrap ((IntKind.u64.wrap ((Go.bits .or .u64 (ji12) (ji15)) * 4294967296)) + ((ji17) / 4294967296))) - (IntKind.u64.wrap (x15_18 * ji10)))) ((ji10) / 4294967296))), (by first | rfl | (simp; done) | (simp only [← hji10, ← hji12, ← hji15, ← hji17] <;> (first | rfl | simp)) | (simp [*]; done)), (by first | rfl | (simp; done) | (simp only [← hji10, ← hji12, ← hji15, ← hji17] <;> (first | rfl | simp)) | (simp [*]; done)), H', ⟨Nat.le_refl _⟩, by repeat (first | exact Drawn0.refl _ | apply Drawn0.step)⟩
     case round =>
      clear H'
      try clear c24
      try clear c24b0
      try clear c24b1
      obtain ⟨x16_2, x18_2, rfl, rfl, HA, HK2, ⟨m2, rfl⟩⟩ := hrel
      cases gk with
      | zero => exact absurd HA.out (by simp [bits_Div64.l1])
      | succ k2 =>
       have H := HA.out
       clear HA
       simp only [bits_Div64.l1] at H
       have HC25 := Aside0.mk H
       clear H
       go_upto_region 24 with (fail)
       repeat (go_quiet (fail); go_upto_region 24 with (fail))
       go_cut [113] (fun v113 wc => ∃ (kq : Nat) (x113_24 : Bool), v113 = .bool x113_24 ∧ Aside0 (bits_Div64.j4 kq ji10 ji8 ((ji10) / 4294967296) (Go.bits .and .u64 (ji10) 4294967295) (Go.bits .and .u64 (ji17) 4294967295) x15_18 x16_2 (IntKind.u64.wrap ((IntKind.u64.wrap ((IntKind.u64.wrap ((Go.bits .or .u64 (ji12) (ji15)) * 4294967296)) + ((ji17) / 4294967296))) - (IntKind.u64.wrap (x15_18 * ji10)))) x18_2 x113_24 = some (r1, r2)) ∧ Aside0 (kq ≤ k2) ∧ Drawn0 w wc)
       case first =>
        have H := HC25.out
        clear HC25
        by_cases c26 : x18_2 ≥ 4294967296
        ·rw [if_pos c26] at H
         have c26b0 : decide (4294967296 ≤ x18_2) = true := decide_eq_true c26
         clear c26
         (first | rw [c26b0] | rw [c26b1] | (simp only [i64_w, i32_w]; rw [c26b0]) | skip)
         exact bits_Div64.M3
        ·rw [if_neg c26] at H
         have c26b0 : decide (4294967296 ≤ x18_2) = false := decide_eq_false c26
         clear c26
         (first | rw [c26b0] | rw [c26b1] | (simp only [i64_w, i32_w]; rw [c26b0]) | skip)
         exact bits_Div64.M3
       case rest =>
        clear HC25
        obtain ⟨kq, x113_24, rfl, HA, HJ24, ⟨mc24, rfl⟩⟩ := hcut
        cases kq with
        | zero => exact absurd HA.out (by simp [bits_Div64.j4])
        | succ kj24 =>
         have H := HA.out
         clear HA
         simp only [bits_Div64.j4] at H
         by_cases c27 : x113_24 = true
         ·subst c27
          rw [if_pos rfl] at H
          by_cases c28 : (IntKind.u64.wrap (x16_2 + ((ji10) / 4294967296))) ≥ 4294967296
          ·rw [if_pos c28] at H
           have c28b0 : decide (4294967296 ≤ (IntKind.u64.wrap (x16_2 + ((ji10) / 4294967296)))) = true := decide_eq_true c28
           clear c28
           obtain ⟨c29, H⟩ := ZI H
           have c29b0 := eq_true c29
           have c29b1 : decide (0 ≤ ji8) = true := decide_eq_true c29
           clear c29
           obtain ⟨ji30, hji30⟩ : ∃ j_ : Int, (shr .u64 (IntKind.u64.wrap ((IntKind.u64.wrap ((IntKind.u64.wrap ((IntKind.u64.wrap ((IntKind.u64.wrap ((IntKind.u64.wrap ((Go.bits .or .u64 (ji12) (ji15)) * 4294967296)) + ((ji17) / 4294967296))) - (IntKind.u64.wrap (x15_18 * ji10)))) * 4294967296)) + (Go.bits .and .u64 (ji17) 4294967295))) - (IntKind.u64.wrap ((IntKind.u64.wrap (x18_2 - 1)) * ji10)))) ji8) = j_ := ⟨_, rfl⟩
           (first | rw [hji30] at H | simp only [hji30] at H)
           have hji30_ : ((IntKind.u64.wrap ((IntKind.u64.wrap ((IntKind.u64.wrap ((IntKind.u64.wrap ((IntKind.u64.wrap ((IntKind.u64.wrap ((Go.bits .or .u64 (ji12) (ji15)) * 4294967296)) + ((ji17) / 4294967296))) - (IntKind.u64.wrap (x15_18 * ji10)))) * 4294967296)) + (Go.bits .and .u64 (ji17) 4294967295))) - (IntKind.u64.wrap ((IntKind.u64.wrap (x18_2 - 1)) * ji10)))) / 2 ^ min ji8.toNat 64) = ji30 := hji30
           have hji30z : ji8 ≤ 64 → ((IntKind.u64.wrap ((IntKind.u64.wrap ((IntKind.u64.wrap ((IntKind.u64.wrap ((IntKind.u64.wrap ((IntKind.u64.wrap ((Go.bits .or .u64 (ji12) (ji15)) * 4294967296)) + ((ji17) / 4294967296))) - (IntKind.u64.wrap (x15_18 * ji10)))) * 4294967296)) + (Go.bits .and .u64 (ji17) 4294967295))) - (IntKind.u64.wrap ((IntKind.u64.wrap (x18_2 - 1)) * ji10)))) / 2 ^ ji8.toNat) = ji30 := shr_small hji30
           simp only [Option.some.injEq, Prod.mk.injEq] at H
           obtain ⟨rfl, rfl⟩ := H
           go_wp2
           repeat (go_quiet (fail); try go_wp2)
           go_ret2
           exact ⟨by first | rfl | (simp; done) | (simp only [← hji8, ← hji10, ← hji12, ← hji13, ← hji15, ← hji17, ← hji30] <;> (first | rfl | simp)) | (simp [*]; done), by repeat (first | exact Drawn0.refl _ | apply Drawn0.step)⟩
          ·rw [if_neg c28] at H
           have c28b0 : decide (4294967296 ≤ (IntKind.u64.wrap (x16_2 + ((ji10) / 4294967296)))) = false := decide_eq_false c28
           clear c28
           have H' := Aside0.mk H
           clear H
           go_wp2
           repeat (go_quiet (fail); try go_wp2)
           go_roundg kj24
           case measure => have := HJ18.out; have := HK2.out; have := HJ24.out; omega
           case rel => exact ⟨(IntKind.u64.wrap (x16_2 + ((ji10) / 4294967296))), (IntKind.u64.wrap (x18_2 - 1)), (by first | rfl | (simp; done) | (simp only [← hji10] <;> (first | rfl | simp)) | (simp [*]; done)), ZS, H', ⟨by have := HJ18.out; have := HK2.out; have := HJ24.out; omega⟩, by repeat (first | exact Drawn0.refl _ | apply Drawn0.step)⟩
         ·replace c27 := Bool.eq_false_iff.mpr c27
          subst c27
          rw [if_neg Bool.false_ne_true] at H
          obtain ⟨c31, H⟩ := ZI H
          have c31b0 := eq_true c31
          have c31b1 : decide (0 ≤ ji8) = true := decide_eq_true c31
          clear c31
          obtain ⟨ji32, hji32⟩ : ∃ j_ : Int, (shr .u64 (IntKind.u64.wrap ((IntKind.u64.wrap ((IntKind.u64.wrap ((IntKind.u64.wrap ((IntKind.u64.wrap ((IntKind.u64.wrap ((Go.bits .or .u64 (ji12) (ji15)) * 4294967296)) + ((ji17) / 4294967296))) - (IntKind.u64.wrap (x15_18 * ji10)))) * 4294967296)) + (Go.bits .and .u64 (ji17) 4294967295))) - (IntKind.u64.wrap (x18_2 * ji10)))) ji8) = j_ := ⟨_, rfl⟩
          (first | rw [hji32] at H | simp only [hji32] at H)
          have hji32_ : ((IntKind.u64.wrap ((IntKind.u64.wrap ((IntKind.u64.wrap ((IntKind.u64.wrap ((IntKind.u64.wrap ((IntKind.u64.wrap ((Go.bits .or .u64 (ji12) (ji15)) * 4294967296)) + ((ji17) / 4294967296))) - (IntKind.u64.wrap (x15_18 * ji10)))) * 4294967296)) + (Go.bits .and .u64 (ji17) 4294967295))) - (IntKind.u64.wrap (x18_2 * ji10)))) / 2 ^ min ji8.toNat 64) = ji32 := hji32
          have hji32z : ji8 ≤ 64 → ((IntKind.u64.wrap ((IntKind.u64.wrap ((IntKind.u64.wrap ((IntKind.u64.wrap ((IntKind.u64.wrap ((IntKind.u64.wrap ((Go.bits .or .u64 (ji12) (ji15)) * 4294967296)) + ((ji17) / 4294967296))) - (IntKind.u64.wrap (x15_18 * ji10)))) * 4294967296)) + (Go.bits .and .u64 (ji17) 4294967295))) - (IntKind.u64.wrap (x18_2 * ji10)))) / 2 ^ ji8.toNat) = ji32 := shr_small hji32
          simp only [Option.some.injEq, Prod.mk.injEq] at H
          obtain ⟨rfl, rfl⟩ := H
          go_wp2
          repeat (go_quiet (fail); try go_wp2)
          go_ret2
          exact ⟨by first | rfl | (simp; done) | (simp only [← hji8, ← hji10, ← hji12, ← hji13, ← hji15, ← hji17, ← hji32] <;> (first | rfl | simp)) | (simp [*]; done), by repeat (first | exact Drawn0.refl _ | apply Drawn0.step)⟩
  ·rw [if_neg c9] at H
   exact absurd H (by simp)
def exact_trim.l0 : Nat → List Int → Int → Option (List Int)
 | 0, _, _ => none
 | k + 1, x0, x3 => if x3 > 0 then (if 0 ≤ (wrap64 (x3 - 1)) then (if (wrap64 (x3 - 1)) < (x0.length : Int) then (if (rd x0 (wrap64 (x3 - 1))) = 0 then (exact_trim.l0 k x0 (wrap64 (x3 - 1))) else (if 0 ≤ x3 then (if x3 ≤ (x0.length : Int) then (some (x0.take (x3 : Int).toNat)) else (none)) else (none))) else (none)) else (none)) else (if 0 ≤ x3 then (if x3 ≤ (x0.length : Int) then (some (x0.take (x3 : Int).toNat)) else (none)) else (none))
def exact_trim.f (k : Nat) (l0 : List Int) : Option (List Int) := exact_trim.l0 k l0 (l0.length : Int)
theorem exact_trim.U1 {g : Prop} (h : g := by
 repeat' first
 | (with_reducible exact ih0 _ _)
 | (with_reducible exact LeO.refl _)
 | (with_reducible exact LeO.none _)
 | (with_reducible refine LeO.ite ?_ ?_)
 | (with_reducible refine LeO.bind ?_ (fun _ => ?_))) : g := h
theorem exact_trim.mono_l : ∀ k, (∀ y0 y1, LeO (exact_trim.l0 k y0 y1) (exact_trim.l0 (k + 1) y0 y1))
 | 0 => fun _ _ r h => by simp [exact_trim.l0] at h
 | k + 1 => by
  have ih0 := exact_trim.mono_l k
  ·intro y0 y1
   unfold exact_trim.l0
   exact exact_trim.U1
theorem exact_trim.mono : ∀ a0 k, LeO (exact_trim.f k a0) (exact_trim.f (k + 1) a0) := by
 intro a0 k
 have ih0 := exact_trim.mono_l k
 unfold exact_trim.f
 exact exact_trim.U1
set_option maxHeartbeats 8000000 in
set_option maxRecDepth 100000 in
theorem exact_trim.calls (k : Nat) (P0_ : Nat → Prop) (u9000_ : Value) (l0 : List Int) (r : List Int) (w0 w : World) (hB : Below w0.heap.size w0 w) (ho0 : Kd.R (Kd.int .u64) 49 w w0.heap.size P0_ u9000_ l0) (h : exact_trim.f k l0 = some r) :
  Calls Try.prog 79 #[u9000_] w fun e w' => ∃ v0_ : Value, e = .returned (v0_) ∧ Kd.R (Kd.int .u64) 49 w' w0.heap.size (fun k_ => (P0_ k_ ∨ w.heap.size ≤ k_)) v0_ r ∧ Below w0.heap.size w0 w' ∧ Kept w w' (fun k_ => P0_ k_) := by
 have HO0 := Aside0.mk (show Kd.R (Kd.int .u64) 49 w w0.heap.size (fun k_ => (P0_ k_ ∨ w.heap.size ≤ k_)) u9000_ l0 from Kd.R_mono ho0 (fun k_ hk => (.inl hk)))
 have HK := Aside0.mk (Kept.refl w (fun k_ => P0_ k_))
 have HW0 := Aside0.mk hB.size
 have HB := Aside0.mk hB
 clear hB
 have H : (exact_trim.l0 k l0 (l0.length : Int)) = some r := h
 clear h
 have H' := Aside0.mk H
 clear H
 obtain ⟨Ao2, co2, eo2⟩ := Kd.R_slice HO0.out
 subst eo2
 go_enter Try.func79, Try.ntmps79
 go_wp2
 go_loopg [3] k (fun kq v3 w' => ∃ (x3_1 : Int), v3 = .int .i64 x3_1 ∧ Aside0 (exact_trim.l0 kq l0 x3_1 = some r) ∧ Aside0 (kq ≤ k) ∧ Aside0 (Kd.R (Kd.int .u64) 49 w' w0.heap.size (fun k_ => (P0_ k_ ∨ w.heap.size ≤ k_)) (.slice Ao2 l0.length co2) l0) ∧ Aside0 (Kept w w' (fun k_ => P0_ k_)) ∧ Aside0 (Below w0.heap.size w0 w'))
 case atStart => exact ⟨((l0.length : Int)), ZS, H', ⟨Nat.le_refl _⟩, ⟨by (with_reducible repeat (first | apply Kd.R_alloc | apply Kd.R_drewN | apply Kd.R_drew)); exact HO0.out⟩, ⟨ZK⟩, ⟨ZB⟩⟩
 case round =>
  clear H'
  obtain ⟨x3_1, rfl, HA, HK1, HO_0, HK, HB⟩ := hrel
  cases gk with
  | zero => exact absurd HA.out (by simp [exact_trim.l0])
  | succ k1 =>
   have H := HA.out
   clear HA
   simp only [exact_trim.l0] at H
   by_cases c3 : x3_1 > 0
   ·rw [if_pos c3] at H
    have c3b0 : decide (0 < x3_1) = true := decide_eq_true c3
    clear c3
    obtain ⟨ji4, hji4⟩ : ∃ j_ : Int, (wrap64 (x3_1 - 1)) = j_ := ⟨_, rfl⟩
    (first | rw [hji4] at H | simp only [hji4] at H)
    have hji4w : (IntKind.i64.wrap (x3_1 - 1)) = ji4 := (i64_w _).trans hji4
    obtain ⟨c5, H⟩ := ZI H
    have c5b0 : decide (0 ≤ (ji4)) = true := decide_eq_true c5
    clear c5
    obtain ⟨c6, H⟩ := ZI H
    have c6b0 : decide ((ji4) < (l0.length : Int)) = true := decide_eq_true c6
    clear c6
    by_cases c7 : (rd l0 (ji4)) = 0
    ·rw [if_pos c7] at H
     have c7b0 : ((rd l0 (ji4)) == 0) = true := beq_iff_eq.mpr c7
     have c7b1 : ((rd l0 (ji4)) != 0) = false := bne_eq_false_iff_eq.mpr c7
     clear c7
     have H' := Aside0.mk H
     clear H
     have p109 : 0 ≤ ((ji4) : Int) := of_decide_eq_true ZD
     have q109 : (ji4) < (l0.length : Int) := of_decide_eq_true ZD
     obtain ⟨ad109, e109, hx109_0⟩ := Kd.at_int (Kd.R_reads' HO_0.out).2.2 (ji4) p109 q109
     cases e109
     replace p109 := eq_true p109
     replace q109 := eq_true q109
     go_wp2
     go_roundg k1
     case measure => have := HK1.out; omega
     case rel => exact ⟨(ji4), (by first | rfl | (simp; done) | (simp only [← hji4] <;> (first | rfl | simp)) | (simp [*]; done)), H', ⟨by have := HK1.out; omega⟩, ⟨by (with_reducible repeat (first | apply Kd.R_alloc | apply Kd.R_drewN | apply Kd.R_drew)); exact HO_0.out⟩, ⟨ZK⟩, ⟨ZB⟩⟩
    ·rw [if_neg c7] at H
     have c7b0 : ((rd l0 (ji4)) == 0) = false := beq_eq_false_iff_ne.mpr c7
     have c7b1 : ((rd l0 (ji4)) != 0) = true := bne_iff_ne.mpr c7
     obtain ⟨c8, H⟩ := ZI H
     have c8b0 := eq_true c8
     have c8b1 : decide (0 ≤ x3_1) = true := decide_eq_true c8
     clear c8
     obtain ⟨c9, H⟩ := ZI H
     have c9b0 := eq_true c9
     have c9b1 : decide (x3_1 ≤ (l0.length : Int)) = true := decide_eq_true c9
     clear c9
     obtain ⟨y110, hy110⟩ : ∃ y_ : List Int, y_ = (l0.take (x3_1 : Int).toNat) := ⟨_, rfl⟩
     replace H : (some y110) = some r := ZH hy110 H
     have Ny110 := Aside0.mk hy110
     clear hy110
     obtain rfl := Option.some.inj H
     have p109 : 0 ≤ ((ji4) : Int) := of_decide_eq_true ZD
     have q109 : (ji4) < (l0.length : Int) := of_decide_eq_true ZD
     obtain ⟨ad109, e109, hx109_0⟩ := Kd.at_int (Kd.R_reads' HO_0.out).2.2 (ji4) p109 q109
     cases e109
     replace p109 := eq_true p109
     replace q109 := eq_true q109
     have q10 : (x3_1 : Int) ≤ ((l0.length : Int) : Int) := of_decide_eq_true ZD
     obtain ⟨i010, hi010, _, hsz10, _⟩ := info_parts info49
     have hcut10 := cut_to (P := Try.prog) 68 49 .i64 Try.underlying68 hi010 (some ad109) l0.length co2 x3_1 (of_decide_eq_true ZD) q10 (Kd.R_reads' HO_0.out).2.1
     have hr10 := Kd.R_take (m := (x3_1 : Int).toNat) HO_0.out (by omega)
     have hy10 : y110.length = (x3_1 : Int).toNat := (by rw [Ny110.out, List.length_take]; omega)
     rw [← Ny110.out] at hr10
     rw [← hy10] at hr10 hcut10
     clear hy10 hi010 hsz10 HO_0
     have HO112 := Aside0.mk hr10
     clear hr10
     replace q10 := eq_true q10
     go_wp2
     go_ret
     exact ⟨_, by first | rfl | (simp [errW_none, errW_some] <;> rfl) | (simp only [← hji4]; first | rfl | (simp [errW_none, errW_some] <;> rfl)) | (simp [*, errW_none, errW_some] <;> rfl), by (with_reducible repeat (first | apply Kd.R_alloc | apply Kd.R_drewN | apply Kd.R_drew)); exact HO112.out, ZB, ZK⟩
   ·rw [if_neg c3] at H
    have c3b0 : decide (0 < x3_1) = false := decide_eq_false c3
    clear c3
    by_cases c11 : 0 ≤ x3_1
    ·rw [if_pos c11] at H
     have c11b0 := eq_true c11
     have c11b1 : decide (0 ≤ x3_1) = true := decide_eq_true c11
     clear c11
     obtain ⟨c12, H⟩ := ZI H
     have c12b0 := eq_true c12
     have c12b1 : decide (x3_1 ≤ (l0.length : Int)) = true := decide_eq_true c12
     clear c12
     obtain ⟨y113, hy113⟩ : ∃ y_ : List Int, y_ = (l0.take (x3_1 : Int).toNat) := ⟨_, rfl⟩
     replace H : (some y113) = some r := ZH hy113 H
     have Ny113 := Aside0.mk hy113
     clear hy113
     obtain rfl := Option.some.inj H
     have q13 : (x3_1 : Int) ≤ ((l0.length : Int) : Int) := of_decide_eq_true ZD
     obtain ⟨i013, hi013, _, hsz13, _⟩ := info_parts info49
     have hcut13 := cut_to (P := Try.prog) 68 49 .i64 Try.underlying68 hi013 Ao2 l0.length co2 x3_1 (of_decide_eq_true ZD) q13 (Kd.R_reads' HO_0.out).2.1
     have hr13 := Kd.R_take (m := (x3_1 : Int).toNat) HO_0.out (by omega)
     have hy13 : y113.length = (x3_1 : Int).toNat := (by rw [Ny113.out, List.length_take]; omega)
     rw [← Ny113.out] at hr13
     rw [← hy13] at hr13 hcut13
     clear hy13 hi013 hsz13 HO_0
     have HO115 := Aside0.mk hr13
     clear hr13
     replace q13 := eq_true q13
     go_wp2
     go_ret
     exact ⟨_, ZE, by (with_reducible repeat (first | apply Kd.R_alloc | apply Kd.R_drewN | apply Kd.R_drew)); exact HO115.out, ZB, ZK⟩
    ·rw [if_neg c11] at H
     exact absurd H (by simp)
end Go.Proofs.Ytohkmnbnjacfaaa.All
namespace Go.Proofs.Ytohkmnbnjacfaaa.All
open Go.Proofs.YtohkmnbnjacfaaaX
open Go.RowKit Go.Proofs.YtohkmnbnjacfaaaW.PrintWords Go.Proofs.YtohkmnbnjacfaaaW.PrintLast Go.Proofs.YtohkmnbnjacfaaaW.PrintMore
attribute [local go_sem] max2_int min2_int max_two min_two max_three min_three max_four min_four
set_option linter.unusedVariables false
set_option linter.unusedSimpArgs false
def exact_shiftUp.l0 : Nat → Int → List Int → List Int → Int → Int → Option (List Int)
 | 0, _, _, _, _, _ => none
 | k + 1, x1, x5, x12, x13, x14 => if x14 < x13 then (if 0 ≤ x14 then (if x14 < (x12.length : Int) then (if x14 < (x5.length : Int) then (if 0 ≤ x1 then ((some (x5.set (x14 : Int).toNat (Go.bits .or .u64 (rd x5 x14) (shl .u64 (rd x12 x14) x1)) : List Int)).bind fun y121 => (if x1 > 0 then (if 0 ≤ (wrap64 (64 - x1)) then (if 0 ≤ (wrap64 (x14 + 1)) then (if (wrap64 (x14 + 1)) < (x5.length : Int) then (exact_shiftUp.l0 k x1 (y121.set ((wrap64 (x14 + 1)) : Int).toNat (shr .u64 (rd x12 x14) (wrap64 (64 - x1)))) x12 x13 (wrap64 (x14 + 1))) else (none)) else (none)) else (none)) else (exact_shiftUp.l0 k x1 y121 x12 x13 (wrap64 (x14 + 1))))) else (none)) else (none)) else (none)) else (none)) else (some x5)
def exact_shiftUp.f (k : Nat) (l0 : List Int) (a1 : Int) : Option (List Int) := if 0 ≤ (wrap64 ((l0.length : Int) + 1)) then (if (wrap64 ((l0.length : Int) + 1) : Int).toNat ≤ 35184372088832 then (exact_shiftUp.l0 k a1 (List.replicate (wrap64 ((l0.length : Int) + 1) : Int).toNat 0) l0 (l0.length : Int) 0) else (none)) else (none)
theorem exact_shiftUp.U1 {g : Prop} (h : g := by
 repeat' first
 | (with_reducible exact ih0 _ _ _ _ _)
 | (with_reducible exact LeO.refl _)
 | (with_reducible exact LeO.none _)
 | (with_reducible refine LeO.ite ?_ ?_)
 | (with_reducible refine LeO.bind ?_ (fun _ => ?_))) : g := h
theorem exact_shiftUp.mono_l : ∀ k, (∀ y0 y1 y2 y3 y4, LeO (exact_shiftUp.l0 k y0 y1 y2 y3 y4) (exact_shiftUp.l0 (k + 1) y0 y1 y2 y3 y4))
 | 0 => fun _ _ _ _ _ r h => by simp [exact_shiftUp.l0] at h
 | k + 1 => by
  have ih0 := exact_shiftUp.mono_l k
  ·intro y0 y1 y2 y3 y4
   unfold exact_shiftUp.l0
   exact exact_shiftUp.U1
theorem exact_shiftUp.mono : ∀ a0 a1 k, LeO (exact_shiftUp.f k a0 a1) (exact_shiftUp.f (k + 1) a0 a1) := by
 intro a0 a1 k
 have ih0 := exact_shiftUp.mono_l k
 unfold exact_shiftUp.f
 exact exact_shiftUp.U1
def exact_shiftUp.T5 : Bool × List (List Nat × List Nat) := (true, [([], []), ([], []), ([0, 1], [0, 1]), ([2], [2]), ([], []), ([], []), ([4, 5], [4, 5]), ([3, 6], [3, 6]), ([0, 1, 0, 1, 2, 3, 4, 5, 6, 7], [0, 1]), ([8, 7, 0, 1, 2, 3, 4, 5, 6, 7], [7, 8])])
def exact_shiftUp.B5 : List Nat := [0, 0, 3, 7, 0, 0, 48, 127, 255, 511]
theorem exact_shiftUp.tab5 : rtab .any (opsOf Try.f81 5) = exact_shiftUp.T5 := by kernel_rfl
theorem exact_shiftUp.bits5 : waitsOk exact_shiftUp.T5.2 exact_shiftUp.B5 = true := by kernel_rfl
set_option maxHeartbeats 8000000 in
set_option maxRecDepth 100000 in
theorem exact_shiftUp.calls (k : Nat) (A0 : Option Addr) (c0 : Nat) (l0 : List Int) (a1 : Int) (r : List Int) (w : World) (hr0 : Kd.C (Kd.int .u64) w A0 l0.length l0) (hc0 : l0.length ≤ c0) (h : exact_shiftUp.f k l0 a1 = some r) :
  Calls Try.prog 81 #[.slice A0 l0.length c0, .int .i64 a1] w fun e w' => ∃ v0_ : Value, e = .returned (v0_) ∧ Kd.R (Kd.int .u64) 49 w' w.heap.size (fun _ => True) v0_ r ∧ Below w.heap.size w w' := by
 have HR0 := Aside0.mk hr0
 have HC0 := Aside0.mk hc0
 clear hr0 hc0
 have HB := Aside0.mk (Below.refl w.heap.size w)
 have H := h
 unfold exact_shiftUp.f at H
 clear h
 obtain ⟨ji3, hji3⟩ : ∃ j_ : Int, (wrap64 ((l0.length : Int) + 1)) = j_ := ⟨_, rfl⟩
 (first | rw [hji3] at H | simp only [hji3] at H)
 have hji3w : (IntKind.i64.wrap ((l0.length : Int) + 1)) = ji3 := (i64_w _).trans hji3
 by_cases c4 : 0 ≤ (ji3)
 ·rw [if_pos c4] at H
  have c4b0 := eq_true c4
  have c4b1 : decide (0 ≤ (ji3)) = true := decide_eq_true c4
  clear c4
  obtain ⟨c5, H⟩ := ZI H
  have c5b0 := eq_true c5
  have c5b1 : decide ((ji3 : Int).toNat ≤ 35184372088832) = true := decide_eq_true c5
  clear c5
  obtain ⟨y116, hy116⟩ : ∃ y_ : List Int, y_ = (List.replicate (ji3 : Int).toNat 0) := ⟨_, rfl⟩
  replace H : (exact_shiftUp.l0 k a1 y116 l0 (l0.length : Int) 0) = some r := ZH hy116 H
  have Ny116 := Aside0.mk hy116
  clear hy116
  have H' := Aside0.mk H
  clear H
  go_enter Try.func81, Try.ntmps81
  go_wp2_with (first | ((with_reducible refine gate_dst (N := 11) rfl ?_); refine Kd.R_make (Kd.int .u64) _ 49 rfl (N := 11) rfl 68 _ _ rfl ji3 rfl rfl Try.underlying68 (.int .u64 0) 8 info49 rfl (by decide) (by omega) 0 (ok := fun _ => True) (okp := fun _ => True) rfl (fun _ hk => hk) trivial (of_decide_eq_true ZD) (Nat.le_trans (Nat.mul_le_mul_right _ (of_decide_eq_true ZD : ji3.toNat ≤ 35184372088832)) (by omega)) (Below.refl _ _) (Nat.le_refl _) ?_; intro v117 w6 ho7 hb hg_ hnew_; clear hg_ hnew_; (first | rw [← Ny116.out] at ho7 | (simp only [Int.reduceToNat] at ho7; rw [← Ny116.out] at ho7)); have HO118 := Aside0.mk (Kd.R_lower ho7 (below_size ZB)); replace HB := Aside0.mk (below_step ZB hb); clear hb ho7))
  go_loopg [14] k (fun kq v14 w' => ∃ (x5_1 : List Int) (x14_1 : Int), v14 = .int .i64 x14_1 ∧ Aside0 (exact_shiftUp.l0 kq a1 x5_1 l0 (l0.length : Int) x14_1 = some r) ∧ Aside0 (kq ≤ k) ∧ Aside0 (Kd.R (Kd.int .u64) 49 w' w.heap.size (fun _ => True) v117 x5_1) ∧ Aside0 (Below w.heap.size w w'))
  case atStart => exact ⟨(y116), (0), ZS, H', ⟨Nat.le_refl _⟩, ⟨by (with_reducible repeat (first | apply Kd.R_alloc | apply Kd.R_drewN | apply Kd.R_drew)); exact HO118.out⟩, ⟨ZB⟩⟩
  case round =>
   clear H'
   try clear c4
   try clear c4b0
   try clear c4b1
   try clear c5
   try clear c5b0
   try clear c5b1
   obtain ⟨x5_1, x14_1, rfl, HA, HK1, HO_5, HB⟩ := hrel
   cases gk with
   | zero => exact absurd HA.out (by simp [exact_shiftUp.l0])
   | succ k1 =>
    have H := HA.out
    clear HA
    simp only [exact_shiftUp.l0] at H
    by_cases c8 : x14_1 < (l0.length : Int)
    ·rw [if_pos c8] at H
     have c8b0 : decide (x14_1 < (l0.length : Int)) = true := decide_eq_true c8
     clear c8
     obtain ⟨c9, H⟩ := ZI H
     have c9b0 : decide (0 ≤ x14_1) = true := decide_eq_true c9
     clear c9
     obtain ⟨c10, H⟩ := ZI H
     have c10b0 : decide (x14_1 < (l0.length : Int)) = true := decide_eq_true c10
     clear c10
     obtain ⟨c11, H⟩ := ZI H
     have c11b0 : decide (x14_1 < (x5_1.length : Int)) = true := decide_eq_true c11
     clear c11
     obtain ⟨c12, H⟩ := ZI H
     have c12b0 := eq_true c12
     have c12b1 : decide (0 ≤ a1) = true := decide_eq_true c12
     clear c12
     obtain ⟨ji13, hji13⟩ : ∃ j_ : Int, (shl .u64 (rd l0 x14_1) a1) = j_ := ⟨_, rfl⟩
     (first | rw [hji13] at H | simp only [hji13] at H)
     have hji13_ : (IntKind.u64.wrap ((rd l0 x14_1) * 2 ^ min a1.toNat 64)) = ji13 := hji13
     have hji13z : a1 ≤ 64 → (IntKind.u64.wrap ((rd l0 x14_1) * 2 ^ a1.toNat)) = ji13 := shl_small hji13
     obtain ⟨y121, hy121⟩ : ∃ y_ : List Int, y_ = (x5_1.set (x14_1 : Int).toNat (Go.bits .or .u64 (rd x5_1 x14_1) (ji13))) := ⟨_, rfl⟩
     replace H : (if a1 > 0 then (if 0 ≤ (wrap64 (64 - a1)) then (if 0 ≤ (wrap64 (x14_1 + 1)) then (if (wrap64 (x14_1 + 1)) < (x5_1.length : Int) then (exact_shiftUp.l0 k1 a1 (y121.set ((wrap64 (x14_1 + 1)) : Int).toNat (shr .u64 (rd l0 x14_1) (wrap64 (64 - a1)))) l0 (l0.length : Int) (wrap64 (x14_1 + 1))) else (none)) else (none)) else (none)) else (exact_shiftUp.l0 k1 a1 y121 l0 (l0.length : Int) (wrap64 (x14_1 + 1)))) = some r := ZH hy121 H
     have Ny121 := Aside0.mk hy121
     clear hy121
     have p119 : 0 ≤ (x14_1 : Int) := of_decide_eq_true ZD
     have q119 : x14_1 < (l0.length : Int) := of_decide_eq_true ZD
     obtain ⟨ad119, e119, hx119_0⟩ := Kd.at_int HR0.out x14_1 p119 q119
     cases e119
     replace hx119_0 := (HB.out.cell (World.block_lt_of_cell? w _ hx119_0)).trans hx119_0
     replace p119 := eq_true p119
     replace q119 := eq_true q119
     try go_wp2
     replace HO_5 := Aside0.mk (Kd.R_drew HO_5.out)
     replace HB := Aside0.mk (below_drew1 HB.out)
     obtain ⟨Ao24, co24, eo24⟩ := Kd.R_slice HO_5.out
     (first | subst eo24 | (injection eo24 with f1_ f2_ f3_; have f4_ := f1_.symm; have f5_ := f3_.symm; clear f1_ f2_ f3_; subst f4_; subst f5_))
     have p120 : 0 ≤ (x14_1 : Int) := of_decide_eq_true ZD
     have q120 : x14_1 < (x5_1.length : Int) := of_decide_eq_true ZD
     obtain ⟨ad120, e120, hx120_0⟩ := Kd.at_int (Kd.R_reads' HO_5.out).2.2 x14_1 p120 q120
     cases e120
     replace p120 := eq_true p120
     replace q120 := eq_true q120
     have p14 : 0 ≤ (x14_1 : Int) := of_decide_eq_true ZD
     have q14 : (x14_1 : Int) < ((x5_1.length : Int) : Int) := of_decide_eq_true ZD
     obtain ⟨go14, co14, eo14, gb14, gl14, cl14, HG14⟩ := Kd.R_form HO_5.out (by omega)
     (first | cases eo14 | (injection eo14 with ea_ en_ ec_; (first | subst ea_ | (injection ea_ with ea_; subst ea_)); subst ec_; clear en_))
     have GB14 := Aside0.mk gb14
     have GG14 := Aside0.mk HG14
     clear gb14 gl14 HG14
     (first | simp only [add_plain] at hx120_0 | skip)
     obtain ⟨hx14_0, hf14_0⟩ := Kd.R_celln 0 HO_5.out (x14_1 : Int) p14 q14; (try simp only [Int.toNat_natCast] at hx14_0 hf14_0)
     replace p14 := eq_true p14
     replace q14 := eq_true q14
     have HP25 := Kd.R_putn HO_5.out (x14_1 : Int) (Go.bits .or .u64 (rd x5_1 x14_1) (ji13))
     rw [← Ny121.out] at HP25
     have HQ25 := Aside0.mk HP25
     clear HP25
     refine start_ (n := 10) (S := fun w' => w'.cell? ⟨go14, (x14_1).toNat, none⟩ = some (.int .u64 (rd x5_1 x14_1))) (ds := [9]) #[false, false, false, false, false, false, false, false, false, false] (by kernel_rfl) rfl rfl (hx120_0) (fun hHeld => ?_); refine with_tabW exact_shiftUp.tab5 exact_shiftUp.bits5 (fun HT_ HW_ => ?_)
     generalize wr.drew = w23 at HO_5 HB GG14 HQ25 hf14_0 hx120_0 hx14_0 hHeld ⊢
     refine ZP 0 19 #[true, false, false, false, false, false, false, false, false, false] ?_
     refine ZP 1 20 #[true, true, false, false, false, false, false, false, false, false] ?_
     refine ZP 2 21 #[true, true, true, false, false, false, false, false, false, false] ?_
     refine ZP 4 23 #[true, true, true, false, true, false, false, false, false, false] ?_
     refine ZP 5 24 #[true, true, true, false, true, true, false, false, false, false] ?_
     refine ZP 6 25 #[true, true, true, false, true, true, true, false, false, false] ?_
     refine take_ (i := 3) (N := some 22) (v := ?_) (a' := ?_) #[true, true, true, true, true, true, true, false, false, false] rfl rfl (take_ofW HT_.out HW_.out (by kernel_rfl)) (fun _ _ _ h => h) (Or.inl ⟨by rfl, ?_⟩) hHeld ?_ ?_
     rotate_left
     ·intro w' s0
      go_simp
      with_reducible rfl
     rotate_left
     ·simp only [Act.put, List.setIfInBounds_toArray, List.set_cons_zero, List.set_cons_succ, i64_w, i32_w]
      rfl
     refine ZP 7 26 #[true, true, true, true, true, true, true, true, false, false] ?_
     refine ZP 8 27 #[true, true, true, true, true, true, true, true, true, false] ?_
     refine last_ (i := 9) (N := none) #[true, true, true, true, true, true, true, true, true, true] rfl rfl (one_of HT_.out (by kernel_rfl)) (by decide) (fun K hK => ?_)
     refine skip_ (w1 := ?_) (by rfl) rfl ?_ ?_
     rotate_left
     ·go_simp
      rfl
     refine hK.out _ _ ?_
     clear hK K
     refine done_ (done_of HT_.out (by kernel_rfl)) ?_
     by_cases c15 : a1 > 0
     ·rw [if_pos c15] at H
      have c15b0 : decide (0 < a1) = true := decide_eq_true c15
      clear c15
      obtain ⟨ji16, hji16⟩ : ∃ j_ : Int, (wrap64 (64 - a1)) = j_ := ⟨_, rfl⟩
      (first | rw [hji16] at H | simp only [hji16] at H)
      have hji16w : (IntKind.i64.wrap (64 - a1)) = ji16 := (i64_w _).trans hji16
      obtain ⟨c17, H⟩ := ZI H
      have c17b0 := eq_true c17
      have c17b1 : decide (0 ≤ (ji16)) = true := decide_eq_true c17
      clear c17
      obtain ⟨ji18, hji18⟩ : ∃ j_ : Int, (shr .u64 (rd l0 x14_1) (ji16)) = j_ := ⟨_, rfl⟩
      (first | rw [hji18] at H | simp only [hji18] at H)
      have hji18_ : ((rd l0 x14_1) / 2 ^ min (ji16).toNat 64) = ji18 := hji18
      have hji18z : (ji16) ≤ 64 → ((rd l0 x14_1) / 2 ^ (ji16).toNat) = ji18 := shr_small hji18
      obtain ⟨ji19, hji19⟩ : ∃ j_ : Int, (wrap64 (x14_1 + 1)) = j_ := ⟨_, rfl⟩
      (first | rw [hji19] at H | simp only [hji19] at H)
      have hji19w : (IntKind.i64.wrap (x14_1 + 1)) = ji19 := (i64_w _).trans hji19
      obtain ⟨c20, H⟩ := ZI H
      have c20b0 : decide (0 ≤ (ji19)) = true := decide_eq_true c20
      clear c20
      obtain ⟨c21, H⟩ := ZI H
      have c21b0 : decide ((ji19) < (x5_1.length : Int)) = true := decide_eq_true c21
      clear c21
      obtain ⟨y122, hy122⟩ : ∃ y_ : List Int, y_ = (y121.set ((ji19) : Int).toNat (ji18)) := ⟨_, rfl⟩
      replace H : (exact_shiftUp.l0 k1 a1 y122 l0 (l0.length : Int) ji19) = some r := ZH hy122 H
      have Ny122 := Aside0.mk hy122
      clear hy122
      have H' := Aside0.mk H
      clear H
      have n0_ : Aside0 (Kd.R (Kd.int .u64) 49 (w23.setCell ⟨go14, (x14_1 : Int).toNat, none⟩ (.int .u64 (Go.bits .or .u64 (rd x5_1 x14_1) (ji13)))) w.heap.size (fun _ => True) (.slice (some ⟨go14, 0, none⟩) x5_1.length co24) y121) := ⟨by (with_reducible repeat (first | apply Kd.R_alloc | apply Kd.R_drewN | apply Kd.R_drew)); exact HQ25.out⟩
      have n1_ : Aside0 (Below w.heap.size w (w23.setCell ⟨go14, (x14_1 : Int).toNat, none⟩ (.int .u64 (Go.bits .or .u64 (rd x5_1 x14_1) (ji13))))) := ⟨ZBS⟩
      (try clear HO_5)
      (try clear HB)
      generalize (w23.setCell ⟨go14, (x14_1 : Int).toNat, none⟩ (.int .u64 (Go.bits .or .u64 (rd x5_1 x14_1) (ji13)))) = w26 at n0_ n1_ ⊢
      have HO_5 := n0_
      have HB := n1_
      clear n0_ n1_
      have p22 : 0 ≤ ((ji19) : Int) := of_decide_eq_true ZD
      have q22 : ((ji19) : Int) < ((x5_1.length : Int) : Int) := of_decide_eq_true ZD
      obtain ⟨hx22_0, hf22_0⟩ := Kd.R_celln 0 HO_5.out ((ji19) : Int) p22 q22; (try simp only [Int.toNat_natCast] at hx22_0 hf22_0)
      replace p22 := eq_true p22
      replace q22 := eq_true q22
      obtain ⟨hy27_, hz27_⟩ := Kd.R_celln 0 HO_5.out ((ji19) : Int) (of_decide_eq_true ZD) (of_decide_eq_true ZD); (try simp only [Int.toNat_natCast] at hy27_ hz27_)
      have HP27 := Kd.R_putg HO_5.out ((ji19) : Int) ji18
      try go_wp2_with (first | ((with_reducible refine gate_store (t := 49) (p := 37) rfl ?_); refine store_event (t := 49) (p := 37) (v := ?vo_w28) (w1 := (w26.setCell ⟨go14, ((ji19) : Int).toNat, none⟩ (.int .u64 ji18))) ?hg ?ho ?hn ?hr ?_; (case ho => rfl); (case hg => rfl); (case hn => rfl); (case hr => first | (go_simp; done) | (go_simp; rfl)); intro w28 hw; have hg : w26.grownBy w28 (some go14) := (by rw [hw]; exact HP27.2); have hp_ : Kd.R (Kd.int .u64) 49 w28 w.heap.size (fun _ => True) (.slice (some ⟨go14, 0, none⟩) x5_1.length co24) y122 := (by rw [hw, Ny122.out]; exact HP27.1); clear HP27; replace HO_5 := Aside0.mk (hp_); replace HB := Aside0.mk ((by rw [hw]; exact below_set (HB.out) GB14.out : Below w.heap.size w w28)); clear hg hw hp_))
      go_roundg k1
      case measure => have := HK1.out; omega
      case rel => exact ⟨(y122), (ji19), (by first | rfl | (simp; done) | (simp only [← hji19] <;> (first | rfl | simp)) | (simp [*]; done)), H', ⟨by have := HK1.out; omega⟩, ⟨by (with_reducible repeat (first | apply Kd.R_alloc | apply Kd.R_drewN | apply Kd.R_drew)); exact HO_5.out⟩, ⟨ZB⟩⟩
     ·rw [if_neg c15] at H
      have c15b0 : decide (0 < a1) = false := decide_eq_false c15
      clear c15
      have H' := Aside0.mk H
      clear H
      try go_wp2
      go_roundg k1
      case measure => have := HK1.out; omega
      case rel => exact ⟨(y121), (wrap64 (x14_1 + 1)), ZS, H', ⟨by have := HK1.out; omega⟩, ⟨by (with_reducible repeat (first | apply Kd.R_alloc | apply Kd.R_drewN | apply Kd.R_drew)); exact HQ25.out⟩, ⟨ZBS⟩⟩
    ·rw [if_neg c8] at H
     have c8b0 : decide (x14_1 < (l0.length : Int)) = false := decide_eq_false c8
     clear c8
     obtain rfl := Option.some.inj H
     go_wp2
     go_ret
     exact ⟨_, by first | rfl | (simp [errW_none, errW_some] <;> rfl) | (simp only [← hji3]; first | rfl | (simp [errW_none, errW_some] <;> rfl)) | (simp [*, errW_none, errW_some] <;> rfl), by (with_reducible repeat (first | apply Kd.R_alloc | apply Kd.R_drewN | apply Kd.R_drew)); exact HO_5.out, ZB⟩
 ·rw [if_neg c4] at H
  exact absurd H (by simp)
def bits_Add64.f (a0 : Int) (a1 : Int) (a2 : Int) : Option (Int × Int) := if 0 ≤ a0 ∧ 0 ≤ a1 ∧ 0 ≤ a2 ∧ a2 ≤ 1 then some ((a0 + a1 + a2) % 18446744073709551616, (a0 + a1 + a2) / 18446744073709551616) else none
theorem bits_Add64.calls (a0 : Int) (a1 : Int) (a2 : Int) (r1 : Int) (r2 : Int) (w : World) (h : bits_Add64.f a0 a1 a2 = some (r1, r2)) :
  XCalls Try.prog 75 #[.int .u64 a0, .int .u64 a1, .int .u64 a2] w fun e w' => e = .returned (.tuple #[.int .u64 r1, .int .u64 r2]) ∧ Drawn0 w w' := by
 unfold bits_Add64.f at h
 by_cases c : 0 ≤ a0 ∧ 0 ≤ a1 ∧ 0 ≤ a2 ∧ a2 ≤ 1
 ·rw [if_pos c] at h
  simp only [Option.some.injEq, Prod.mk.injEq] at h
  obtain ⟨rfl, rfl⟩ := h
  exact add64_run Try.func75 (by kernel_rfl) (by kernel_rfl) (by kernel_rfl) (by kernel_rfl) a0 a1 a2 c.1 c.2.1 c.2.2.1 c.2.2.2 w
 ·rw [if_neg c] at h
  exact absurd h (by simp)
def bits_Sub64.f (a0 : Int) (a1 : Int) (a2 : Int) : Option (Int × Int) := if 0 ≤ a0 ∧ 0 ≤ a1 ∧ a1 ≤ 18446744073709551615 ∧ 0 ≤ a2 ∧ a2 ≤ 1 then some ((a0 - a1 - a2) % 18446744073709551616, if a0 < a1 + a2 then 1 else 0) else none
theorem bits_Sub64.calls (a0 : Int) (a1 : Int) (a2 : Int) (r1 : Int) (r2 : Int) (w : World) (h : bits_Sub64.f a0 a1 a2 = some (r1, r2)) :
  XCalls Try.prog 76 #[.int .u64 a0, .int .u64 a1, .int .u64 a2] w fun e w' => e = .returned (.tuple #[.int .u64 r1, .int .u64 r2]) ∧ Drawn0 w w' := by
 unfold bits_Sub64.f at h
 by_cases c : 0 ≤ a0 ∧ 0 ≤ a1 ∧ a1 ≤ 18446744073709551615 ∧ 0 ≤ a2 ∧ a2 ≤ 1
 ·rw [if_pos c] at h
  simp only [Option.some.injEq, Prod.mk.injEq] at h
  obtain ⟨rfl, rfl⟩ := h
  exact sub64_run Try.func76 (by kernel_rfl) (by kernel_rfl) (by kernel_rfl) (by kernel_rfl) a0 a1 a2 c.1 c.2.1 c.2.2.1 c.2.2.2.1 c.2.2.2.2 w
 ·rw [if_neg c] at h
  exact absurd h (by simp)
def bits_Mul64.f (a0 : Int) (a1 : Int) : Option (Int × Int) := some (IntKind.u64.wrap ((IntKind.u64.wrap ((IntKind.u64.wrap ((a0 / 4294967296) * (a1 / 4294967296))) + ((IntKind.u64.wrap ((IntKind.u64.wrap ((a0 / 4294967296) * (Go.bits .and .u64 a1 4294967295))) + ((IntKind.u64.wrap ((Go.bits .and .u64 a0 4294967295) * (Go.bits .and .u64 a1 4294967295))) / 4294967296))) / 4294967296))) + ((IntKind.u64.wrap ((Go.bits .and .u64 (IntKind.u64.wrap ((IntKind.u64.wrap ((a0 / 4294967296) * (Go.bits .and .u64 a1 4294967295))) + ((IntKind.u64.wrap ((Go.bits .and .u64 a0 4294967295) * (Go.bits .and .u64 a1 4294967295))) / 4294967296))) 4294967295) + (IntKind.u64.wrap ((Go.bits .and .u64 a0 4294967295) * (a1 / 4294967296))))) / 4294967296)), IntKind.u64.wrap (a0 * a1))
set_option maxHeartbeats 8000000 in
set_option maxRecDepth 100000 in
theorem bits_Mul64.calls (a0 : Int) (a1 : Int) (r1 : Int) (r2 : Int) (w : World) (h : bits_Mul64.f a0 a1 = some (r1, r2)) :
  Calls Try.prog 83 #[.int .u64 a0, .int .u64 a1] w fun e w' => e = .returned (.tuple #[.int .u64 r1, .int .u64 r2]) ∧ Drawn0 w w' := by
 have H := h
 unfold bits_Mul64.f at H
 clear h
 simp only [Option.some.injEq, Prod.mk.injEq] at H
 obtain ⟨rfl, rfl⟩ := H
 go_enter Try.func83, Try.ntmps83
 go_wp2
 go_ret2
 exact ⟨by first | rfl | (simp; done) | (simp [*]; done), by repeat (first | exact Drawn0.refl _ | apply Drawn0.step)⟩
end Go.Proofs.Ytohkmnbnjacfaaa.All
namespace Go.Proofs.Ytohkmnbnjacfaaa.All
open Go.Proofs.YtohkmnbnjacfaaaX
open Go.RowKit Go.Proofs.YtohkmnbnjacfaaaW.PrintWords Go.Proofs.YtohkmnbnjacfaaaW.PrintLast Go.Proofs.YtohkmnbnjacfaaaW.PrintMore
attribute [local go_sem] max2_int min2_int max_two min_two max_three min_three max_four min_four
set_option linter.unusedVariables false
set_option linter.unusedSimpArgs false
mutual
def exact_step.j0 : Nat → List Int → List Int → Int → Int → Int → Int → Option (Int × List Int)
 | 0, _, _, _, _, _, _ => none
 | k + 1, x0, x1, x5, x6, x7, x8 => exact_step.l0 k x0 x1 x5 x6 x7 x8
def exact_step.j2 : Nat → List Int → List Int → Int → Int → Option (Int × List Int)
 | 0, _, _, _, _ => none
 | k + 1, x0, x1, x5, x6 => exact_step.l1 k x0 x1 x5 x6 0 0 x5 0
def exact_step.l1 : Nat → List Int → List Int → Int → Int → Int → Int → Int → Int → Option (Int × List Int)
 | 0, _, _, _, _, _, _, _, _ => none
 | k + 1, x0, x1, x5, x6, x11, x12, x104, x105 => if x105 < x104 then (if 0 ≤ x105 then (if x105 < (x1.length : Int) then ((bits_Mul64.f x6 (rd x1 x105)).bind fun bt145 => ((bits_Add64.f bt145.2 x12 0).bind fun bt147 => (if x105 < (x0.length : Int) then ((bits_Sub64.f (rd x0 x105) bt147.1 x11).bind fun bt150 => (exact_step.l1 k (x0.set (x105 : Int).toNat bt150.1) x1 x5 x6 bt150.2 (IntKind.u64.wrap (bt145.1 + bt147.2)) x104 (wrap64 (x105 + 1)))) else (none)))) else (none)) else (none)) else (if 0 ≤ x5 then (if x5 < (x0.length : Int) then ((bits_Sub64.f (rd x0 x5) x12 x11).bind fun bt154 => ((some (x0.set (x5 : Int).toNat bt154.1 : List Int)).bind fun y156 => (if bt154.2 = 0 then (some (x6, y156)) else (exact_step.l2 k y156 x1 x5 x6 0 x5 0)))) else (none)) else (none))
def exact_step.l2 : Nat → List Int → List Int → Int → Int → Int → Int → Int → Option (Int × List Int)
 | 0, _, _, _, _, _, _, _ => none
 | k + 1, x0, x1, x5, x6, x17, x156, x157 => if x157 < x156 then (if 0 ≤ x157 then (if x157 < (x0.length : Int) then (if x157 < (x1.length : Int) then ((bits_Add64.f (rd x0 x157) (rd x1 x157) x17).bind fun bt159 => (exact_step.l2 k (x0.set (x157 : Int).toNat bt159.1) x1 x5 x6 bt159.2 x156 (wrap64 (x157 + 1)))) else (none)) else (none)) else (none)) else (if 0 ≤ x5 then (if x5 < (x0.length : Int) then (some (IntKind.u64.wrap (x6 - 1), (x0.set (x5 : Int).toNat (IntKind.u64.wrap ((rd x0 x5) + x17))))) else (none)) else (none))
def exact_step.l0 : Nat → List Int → List Int → Int → Int → Int → Int → Option (Int × List Int)
 | 0, _, _, _, _, _, _ => none
 | k + 1, x0, x1, x5, x6, x7, x8 => if x8 = 0 then (if 0 ≤ (wrap64 (x5 - 2)) then (if (wrap64 (x5 - 2)) < (x1.length : Int) then ((bits_Mul64.f x6 (rd x1 (wrap64 (x5 - 2)))).bind fun bt135 => (if bt135.1 < x7 then (exact_step.j2 k x0 x1 x5 x6) else (if bt135.1 = x7 then (if (wrap64 (x5 - 2)) < (x0.length : Int) then (if bt135.2 ≤ (rd x0 (wrap64 (x5 - 2))) then (exact_step.j2 k x0 x1 x5 x6) else (if 0 ≤ (wrap64 (x5 - 1)) then (if (wrap64 (x5 - 1)) < (x1.length : Int) then ((bits_Add64.f x7 (rd x1 (wrap64 (x5 - 1))) 0).bind fun bt139 => (exact_step.l0 k x0 x1 x5 (IntKind.u64.wrap (x6 - 1)) bt139.1 bt139.2)) else (none)) else (none))) else (none)) else (if 0 ≤ (wrap64 (x5 - 1)) then (if (wrap64 (x5 - 1)) < (x1.length : Int) then ((bits_Add64.f x7 (rd x1 (wrap64 (x5 - 1))) 0).bind fun bt142 => (exact_step.l0 k x0 x1 x5 (IntKind.u64.wrap (x6 - 1)) bt142.1 bt142.2)) else (none)) else (none))))) else (none)) else (none)) else (exact_step.j2 k x0 x1 x5 x6)
end
def exact_step.f (k : Nat) (l0 : List Int) (l1 : List Int) : Option (Int × List Int) := if 0 ≤ (l1.length : Int) then (if (l1.length : Int) < (l0.length : Int) then (if 0 ≤ (wrap64 ((l1.length : Int) - 1)) then (if (wrap64 ((l1.length : Int) - 1)) < (l1.length : Int) then (if (rd l0 (l1.length : Int)) ≥ (rd l1 (wrap64 ((l1.length : Int) - 1))) then (if (wrap64 ((l1.length : Int) - 1)) < (l0.length : Int) then ((bits_Add64.f (rd l0 (wrap64 ((l1.length : Int) - 1))) (rd l1 (wrap64 ((l1.length : Int) - 1))) 0).bind fun bt127 => (exact_step.j0 k l0 l1 (l1.length : Int) 18446744073709551615 bt127.1 bt127.2)) else (none)) else (if (wrap64 ((l1.length : Int) - 1)) < (l0.length : Int) then ((bits_Div64.f k (rd l0 (l1.length : Int)) (rd l0 (wrap64 ((l1.length : Int) - 1))) (rd l1 (wrap64 ((l1.length : Int) - 1)))).bind fun bt132 => (exact_step.j0 k l0 l1 (l1.length : Int) bt132.1 bt132.2 0)) else (none))) else (none)) else (none)) else (none)) else (none)
theorem exact_step.U1 {g : Prop} (h : g := by
 repeat' first
 | (with_reducible exact ih0 _ _ _ _ _ _)
 | (with_reducible exact ih1 _ _ _ _)
 | (with_reducible exact ih2 _ _ _ _ _ _ _ _)
 | (with_reducible exact ih3 _ _ _ _ _ _ _)
 | (with_reducible exact ih4 _ _ _ _ _ _)
 | (with_reducible exact bits_Div64.mono _ _ _ _)
 | (with_reducible exact LeO.refl _)
 | (with_reducible exact LeO.none _)
 | (with_reducible refine LeO.ite ?_ ?_)
 | (with_reducible refine LeO.bind ?_ (fun _ => ?_))) : g := h
theorem exact_step.mono_l : ∀ k, (∀ y0 y1 y2 y3 y4 y5, LeO (exact_step.j0 k y0 y1 y2 y3 y4 y5) (exact_step.j0 (k + 1) y0 y1 y2 y3 y4 y5)) ∧ (∀ y0 y1 y2 y3, LeO (exact_step.j2 k y0 y1 y2 y3) (exact_step.j2 (k + 1) y0 y1 y2 y3)) ∧ (∀ y0 y1 y2 y3 y4 y5 y6 y7, LeO (exact_step.l1 k y0 y1 y2 y3 y4 y5 y6 y7) (exact_step.l1 (k + 1) y0 y1 y2 y3 y4 y5 y6 y7)) ∧ (∀ y0 y1 y2 y3 y4 y5 y6, LeO (exact_step.l2 k y0 y1 y2 y3 y4 y5 y6) (exact_step.l2 (k + 1) y0 y1 y2 y3 y4 y5 y6)) ∧ (∀ y0 y1 y2 y3 y4 y5, LeO (exact_step.l0 k y0 y1 y2 y3 y4 y5) (exact_step.l0 (k + 1) y0 y1 y2 y3 y4 y5))
 | 0 => ⟨fun _ _ _ _ _ _ r h => by simp [exact_step.j0] at h, fun _ _ _ _ r h => by simp [exact_step.j2] at h, fun _ _ _ _ _ _ _ _ r h => by simp [exact_step.l1] at h, fun _ _ _ _ _ _ _ r h => by simp [exact_step.l2] at h, fun _ _ _ _ _ _ r h => by simp [exact_step.l0] at h⟩
 | k + 1 => by
  obtain ⟨ih0, ih1, ih2, ih3, ih4⟩ := exact_step.mono_l k
  refine ⟨?_, ?_, ?_, ?_, ?_⟩
  ·intro y0 y1 y2 y3 y4 y5
   unfold exact_step.j0
   exact exact_step.U1
  ·intro y0 y1 y2 y3
   unfold exact_step.j2
   exact exact_step.U1
  ·intro y0 y1 y2 y3 y4 y5 y6 y7
   unfold exact_step.l1
   exact exact_step.U1
  ·intro y0 y1 y2 y3 y4 y5 y6
   unfold exact_step.l2
   exact exact_step.U1
  ·intro y0 y1 y2 y3 y4 y5
   unfold exact_step.l0
   exact exact_step.U1
theorem exact_step.mono : ∀ a0 a1 k, LeO (exact_step.f k a0 a1) (exact_step.f (k + 1) a0 a1) := by
 intro a0 a1 k
 obtain ⟨ih0, ih1, ih2, ih3, ih4⟩ := exact_step.mono_l k
 unfold exact_step.f
 exact exact_step.U1
def exact_step.T4 : Bool × List (List Nat × List Nat) := (true, [([], []), ([], []), ([0, 1], [0, 1]), ([2], [2]), ([], []), ([], []), ([5], [5]), ([4, 6], [4, 6]), ([7], [7]), ([3, 8], [3, 8])])
def exact_step.B4 : List Nat := [0, 0, 3, 7, 0, 0, 32, 112, 240, 511]
theorem exact_step.tab4 : rtab .any (opsOf Try.f82 4) = exact_step.T4 := by kernel_rfl
theorem exact_step.bits4 : waitsOk exact_step.T4.2 exact_step.B4 = true := by kernel_rfl
def exact_step.T6 : Bool × List (List Nat × List Nat) := (true, [([], []), ([], []), ([1], [1]), ([0, 2], [0, 2]), ([3], [3]), ([], []), ([], []), ([6], [6]), ([5, 7], [5, 7]), ([8], [8]), ([4, 9], [4, 9]), ([10], [10]), ([11], [11]), ([11], [11]), ([12, 10, 0, 1, 2, 3, 4, 5, 6, 7, 8, 9, 10, 11, 12], [12]), ([13, 14, 0, 1, 2, 3, 4, 5, 6, 7, 8, 9, 10, 11, 12, 13, 14], [13])])
def exact_step.B6 : List Nat := [0, 0, 2, 7, 15, 0, 0, 64, 224, 480, 1023, 2047, 4095, 4095, 8191, 32767]
theorem exact_step.tab6 : rtab .any (opsOf Try.f82 6) = exact_step.T6 := by kernel_rfl
theorem exact_step.bits6 : waitsOk exact_step.T6.2 exact_step.B6 = true := by kernel_rfl
def exact_step.T7 : Bool × List (List Nat × List Nat) := (true, [([], []), ([], []), ([0, 1], [0, 1]), ([2], [2]), ([], []), ([], []), ([5], [5]), ([4, 6], [4, 6]), ([7], [7]), ([], []), ([], []), ([10], [10]), ([9, 11], [9, 11]), ([12], [12]), ([3, 8, 13], [3, 8, 13]), ([14], [14]), ([15], [15]), ([15], [15]), ([16, 14, 0, 1, 2, 3, 4, 5, 6, 7, 8, 9, 10, 11, 12, 13, 14, 15, 16], [16]), ([17, 18, 0, 1, 2, 3, 4, 5, 6, 7, 8, 9, 10, 11, 12, 13, 14, 15, 16, 17, 18], [17])])
def exact_step.B7 : List Nat := [0, 0, 3, 7, 0, 0, 32, 112, 240, 0, 0, 1024, 3584, 7680, 16383, 32767, 65535, 65535, 131071, 524287]
theorem exact_step.tab7 : rtab .any (opsOf Try.f82 7) = exact_step.T7 := by kernel_rfl
theorem exact_step.bits7 : waitsOk exact_step.T7.2 exact_step.B7 = true := by kernel_rfl
def exact_step.T30 : Bool × List (List Nat × List Nat) := (true, [([], []), ([], []), ([], []), ([], []), ([2, 3], [2, 3]), ([4], [4]), ([], []), ([], []), ([6, 7], [6, 7]), ([8], [8]), ([], []), ([5, 9, 10], [5, 9, 10]), ([11], [11]), ([12], [12]), ([12], [12]), ([0, 1, 0, 1, 2, 3, 4, 5, 6, 7, 8, 9, 10, 11, 12, 13], [0, 1]), ([15, 13, 11, 0, 1, 2, 3, 4, 5, 6, 7, 8, 9, 10, 11, 12, 13], [13, 15]), ([14, 16, 0, 1, 2, 3, 4, 5, 6, 7, 8, 9, 10, 11, 12, 13, 14, 15, 16], [10, 14])])
def exact_step.B30 : List Nat := [0, 0, 0, 0, 12, 28, 0, 0, 192, 448, 0, 2044, 4092, 8188, 8188, 16383, 49151, 131071]
theorem exact_step.tab30 : rtab .any (opsOf Try.f82 30) = exact_step.T30 := by kernel_rfl
theorem exact_step.bits30 : waitsOk exact_step.T30.2 exact_step.B30 = true := by kernel_rfl
set_option maxHeartbeats 8000000 in
set_option maxRecDepth 100000 in
theorem exact_step.seg (pre_ post_ : List Int) (co_ : Nat) (k : Nat) (P0_ : Nat → Prop) (u9000_ : Value) (l0 : List Int) (A1 : Option Addr) (c1 : Nat) (l1 : List Int) (r1 : Int) (r2 : List Int) (w0 w : World) (hB : Below w0.heap.size w0 w) (ho0 : Kd.G pre_ post_ co_ 49 w w0.heap.size P0_ u9000_ l0) (hr1 : ∀ W_, Kept w W_ (fun k_ => P0_ k_) → Kd.C (Kd.int .u64) W_ A1 l1.length l1) (hc1 : l1.length ≤ c1) (h : exact_step.f k l0 l1 = some (r1, r2)) :
  Calls Try.prog 82 #[u9000_, .slice A1 l1.length c1] w fun e w' => e = .returned (.int .u64 r1) ∧ Kd.G pre_ post_ co_ 49 w' w0.heap.size (fun k_ => (P0_ k_ ∨ w.heap.size ≤ k_)) u9000_ r2 ∧ Below w0.heap.size w0 w' ∧ Kept w w' (fun k_ => P0_ k_) := by
 have HO0 := Aside0.mk (show Kd.G pre_ post_ co_ 49 w w0.heap.size (fun k_ => (P0_ k_ ∨ w.heap.size ≤ k_)) u9000_ l0 from Kd.G_mono ho0 (fun k_ hk => (.inl hk)))
 have HR1 := Aside0.mk hr1
 have HC1 := Aside0.mk hc1
 clear hr1 hc1
 have HK := Aside0.mk (Kept.refl w (fun k_ => P0_ k_))
 have HW0 := Aside0.mk hB.size
 have HB := Aside0.mk hB
 clear hB
 have H : (if 0 ≤ (l1.length : Int) then (if (l1.length : Int) < (l0.length : Int) then (if 0 ≤ (wrap64 ((l1.length : Int) - 1)) then (if (wrap64 ((l1.length : Int) - 1)) < (l1.length : Int) then (if (rd l0 (l1.length : Int)) ≥ (rd l1 (wrap64 ((l1.length : Int) - 1))) then (if (wrap64 ((l1.length : Int) - 1)) < (l0.length : Int) then ((bits_Add64.f (rd l0 (wrap64 ((l1.length : Int) - 1))) (rd l1 (wrap64 ((l1.length : Int) - 1))) 0).bind fun bt127 => (exact_step.j0 k l0 l1 (l1.length : Int) 18446744073709551615 bt127.1 bt127.2)) else (none)) else (if (wrap64 ((l1.length : Int) - 1)) < (l0.length : Int) then ((bits_Div64.f k (rd l0 (l1.length : Int)) (rd l0 (wrap64 ((l1.length : Int) - 1))) (rd l1 (wrap64 ((l1.length : Int) - 1)))).bind fun bt132 => (exact_step.j0 k l0 l1 (l1.length : Int) bt132.1 bt132.2 0)) else (none))) else (none)) else (none)) else (none)) else (none)) = some (r1, r2) := h
 clear h
 by_cases c3 : 0 ≤ (l1.length : Int)
 ·rw [if_pos c3] at H
  have c3b0 : decide (0 ≤ (l1.length : Int)) = true := decide_eq_true c3
  have c3b1 : decide (0 ≤ l1.length) = true := decide_eq_true (by omega)
  clear c3
  obtain ⟨c4, H⟩ := ZI H
  have c4b0 : decide ((l1.length : Int) < (l0.length : Int)) = true := decide_eq_true c4
  have c4b1 : decide (l1.length < l0.length) = true := decide_eq_true (Int.ofNat_lt.mp c4)
  clear c4
  obtain ⟨ji5, hji5⟩ : ∃ j_ : Int, (wrap64 ((l1.length : Int) - 1)) = j_ := ⟨_, rfl⟩
  (first | rw [hji5] at H | simp only [hji5] at H)
  have hji5w : (IntKind.i64.wrap ((l1.length : Int) - 1)) = ji5 := (i64_w _).trans hji5
  obtain ⟨c6, H⟩ := ZI H
  have c6b0 : decide (0 ≤ (ji5)) = true := decide_eq_true c6
  clear c6
  obtain ⟨c7, H⟩ := ZI H
  have c7b0 : decide ((ji5) < (l1.length : Int)) = true := decide_eq_true c7
  clear c7
  have HC8 := Aside0.mk H
  clear H
  go_enter Try.func82, Try.ntmps82
  try go_wp2
  replace HO0 := Aside0.mk (Kd.G_drew HO0.out)
  replace HK := Aside0.mk (Kept.drew HK.out)
  replace HB := Aside0.mk (below_drew1 HB.out)
  obtain ⟨Ao10, co10, eo10⟩ := Kd.G_slice HO0.out
  (first | subst eo10 | (injection eo10 with f1_ f2_ f3_; have f4_ := f1_.symm; have f5_ := f3_.symm; clear f1_ f2_ f3_; subst f4_; subst f5_))
  have p123 : 0 ≤ ((l1.length : Int) : Int) := of_decide_eq_true ZD
  have q123 : (l1.length : Int) < (l0.length : Int) := of_decide_eq_true ZD
  obtain ⟨ad123, e123, hx123_0⟩ := Kd.at_int (Kd.G_reads' HO0.out).2.2 (l1.length : Int) p123 q123
  cases e123
  (try simp only [Go.IntWalk.toNatUp] at hx123_0)
  replace p123 := eq_true p123
  replace q123 := eq_true q123
  have p124 : 0 ≤ ((ji5) : Int) := of_decide_eq_true ZD
  have q124 : (ji5) < (l1.length : Int) := of_decide_eq_true ZD
  obtain ⟨ad124, e124, hx124_0⟩ := Kd.at_int (Kd.C_kept_now HR1.out HK.out) (ji5) p124 q124
  have hw124_0 := hx124_0
  cases e124
  replace p124 := eq_true p124
  replace q124 := eq_true q124
  refine start_ (n := 10) (S := fun w' => w'.cell? (ad123.add ((l1.length : Int)).toNat) = some (.int .u64 (rd l0 (l1.length : Int))) ∧ w'.cell? (ad124.add ((ji5)).toNat) = some (.int .u64 (rd l1 (ji5)))) (ds := []) #[false, false, false, false, false, false, false, false, false, false] (by kernel_rfl) rfl rfl ⟨hx123_0, (Kd.foot_int (HR1.out _ (by repeat (first | exact HK.out | apply Kept.alloc | apply Kept.drewN | apply Kept.drew))) (ji5) (of_eq_true p124) (of_eq_true q124))⟩ (fun hHeld => ?_); refine with_tabW exact_step.tab4 exact_step.bits4 (fun HT_ HW_ => ?_)
  generalize w.drew = w9 at HO0 HK HB hx123_0 hx124_0 hHeld ⊢
  refine ZP 0 21 #[true, false, false, false, false, false, false, false, false, false] ?_
  refine ZP 1 22 #[true, true, false, false, false, false, false, false, false, false] ?_
  refine ZP 2 23 #[true, true, true, false, false, false, false, false, false, false] ?_
  refine ZP 4 25 #[true, true, true, false, true, false, false, false, false, false] ?_
  refine ZP 5 26 #[true, true, true, false, true, true, false, false, false, false] ?_
  refine ZP 6 27 #[true, true, true, false, true, true, true, false, false, false] ?_
  refine ZP 7 28 #[true, true, true, false, true, true, true, true, false, false] ?_
  refine take_ (i := 3) (N := some 24) (v := ?_) (a' := ?_) #[true, true, true, true, true, true, true, true, false, false] rfl rfl (take_ofW HT_.out HW_.out (by kernel_rfl)) (fun _ _ _ h => h) (Or.inl ⟨by rfl, ?_⟩) hHeld ?_ ?_
  rotate_left
  ·rintro w' ⟨s0, s1⟩
   (try simp only [Int.toNat_natCast] at s0 s1)
   (try simp only [Int.toNat_natCast] at s0 s1)
   go_simp
   with_reducible rfl
  rotate_left
  ·simp only [Act.put, List.setIfInBounds_toArray, List.set_cons_zero, List.set_cons_succ, i64_w, i32_w]
   rfl
  refine take_ (i := 8) (N := some 29) (v := ?_) (a' := ?_) #[true, true, true, true, true, true, true, true, true, false] rfl rfl (take_ofW HT_.out HW_.out (by kernel_rfl)) (fun _ _ _ h => h) (Or.inl ⟨by rfl, ?_⟩) hHeld ?_ ?_
  rotate_left
  ·rintro w' ⟨s0, s1⟩
   (try simp only [Int.toNat_natCast] at s0 s1)
   (try simp only [Int.toNat_natCast] at s0 s1)
   go_simp
   with_reducible rfl
  rotate_left
  ·simp only [Act.put, List.setIfInBounds_toArray, List.set_cons_zero, List.set_cons_succ, i64_w, i32_w]
   rfl
  refine ZP 9 30 #[true, true, true, true, true, true, true, true, true, true] ?_
  refine done_ (done_of HT_.out (by kernel_rfl)) ?_
  go_upto_if 30 with (fail)
  go_cut [6, 7, 8] (fun v6 v7 v8 wc => ∃ (kq : Nat) (x6_7 : Int) (x7_7 : Int) (x8_7 : Int), v6 = .int .u64 x6_7 ∧ v7 = .int .u64 x7_7 ∧ v8 = .int .u64 x8_7 ∧ Aside0 (exact_step.j0 kq l0 l1 (l1.length : Int) x6_7 x7_7 x8_7 = some (r1, r2)) ∧ Aside0 (kq ≤ k) ∧ Aside0 (Kd.G pre_ post_ co_ 49 wc w0.heap.size (fun k_ => (P0_ k_ ∨ w.heap.size ≤ k_)) (.slice (some ad123) l0.length co10) l0) ∧ Aside0 (Kept w wc (fun k_ => P0_ k_)) ∧ Aside0 (Below w0.heap.size w0 wc))
  case first =>
   have H := HC8.out
   clear HC8
   by_cases c11 : (rd l0 (l1.length : Int)) ≥ (rd l1 (ji5))
   ·rw [if_pos c11] at H
    have c11b0 : decide ((rd l1 (ji5)) ≤ (rd l0 (l1.length : Int))) = true := decide_eq_true c11
    clear c11
    (first | rw [c11b0] | rw [c11b1] | rw [c11b1] | (simp only [i64_w, i32_w]; rw [c11b0]) | skip)
    obtain ⟨c12, H⟩ := ZI H
    have c12b0 : decide ((ji5) < (l0.length : Int)) = true := decide_eq_true c12
    clear c12
    obtain ⟨⟨t127, t128⟩, A13, H⟩ := ZO H
    (try dsimp only at H)
    have H' := Aside0.mk H
    clear H
    try go_wp2
    replace HO0 := Aside0.mk (Kd.G_drew HO0.out)
    replace HK := Aside0.mk (Kept.drew HK.out)
    replace HB := Aside0.mk (below_drew1 HB.out)
    have p125 : 0 ≤ ((ji5) : Int) := of_decide_eq_true ZD
    have q125 : (ji5) < (l0.length : Int) := of_decide_eq_true ZD
    obtain ⟨ad125, e125, hx125_0⟩ := Kd.at_int (Kd.G_reads' HO0.out).2.2 (ji5) p125 q125
    obtain rfl : ad123 = ad125 := (by injection e125)
    replace p125 := eq_true p125
    replace q125 := eq_true q125
    have p126 : 0 ≤ ((ji5) : Int) := of_decide_eq_true ZD
    have q126 : (ji5) < (l1.length : Int) := of_decide_eq_true ZD
    obtain ⟨ad126, e126, hx126_0⟩ := Kd.at_int (Kd.C_kept_now HR1.out HK.out) (ji5) p126 q126
    have hw126_0 := hx126_0
    obtain rfl : ad124 = ad126 := (by injection e126)
    replace p126 := eq_true p126
    replace q126 := eq_true q126
    refine start_ (n := 16) (S := fun w' => w'.cell? (ad123.add ((ji5)).toNat) = some (.int .u64 (rd l0 (ji5))) ∧ w'.cell? (ad124.add ((ji5)).toNat) = some (.int .u64 (rd l1 (ji5)))) (ds := []) #[false, false, false, false, false, false, false, false, false, false, false, false, false, false, false, false] (by kernel_rfl) rfl rfl ⟨hx125_0, (Kd.foot_int (HR1.out _ (by repeat (first | exact HK.out | apply Kept.alloc | apply Kept.drewN | apply Kept.drew))) (ji5) (of_eq_true p126) (of_eq_true q126))⟩ (fun hHeld => ?_); refine with_tabW exact_step.tab6 exact_step.bits6 (fun HT_ HW_ => ?_)
    generalize w9.drew = w14 at HO0 HK HB hx125_0 hx126_0 hHeld ⊢
    refine ZP 0 32 #[true, false, false, false, false, false, false, false, false, false, false, false, false, false, false, false] ?_
    refine ZP 1 33 #[true, true, false, false, false, false, false, false, false, false, false, false, false, false, false, false] ?_
    refine ZP 2 34 #[true, true, true, false, false, false, false, false, false, false, false, false, false, false, false, false] ?_
    refine ZP 3 35 #[true, true, true, true, false, false, false, false, false, false, false, false, false, false, false, false] ?_
    refine ZP 5 37 #[true, true, true, true, false, true, false, false, false, false, false, false, false, false, false, false] ?_
    refine ZP 6 38 #[true, true, true, true, false, true, true, false, false, false, false, false, false, false, false, false] ?_
    refine ZP 7 39 #[true, true, true, true, false, true, true, true, false, false, false, false, false, false, false, false] ?_
    refine ZP 8 40 #[true, true, true, true, false, true, true, true, true, false, false, false, false, false, false, false] ?_
    refine take_ (i := 4) (N := some 36) (v := ?_) (a' := ?_) #[true, true, true, true, true, true, true, true, true, false, false, false, false, false, false, false] rfl rfl (take_ofW HT_.out HW_.out (by kernel_rfl)) (fun _ _ _ h => h) (Or.inl ⟨by rfl, ?_⟩) hHeld ?_ ?_
    rotate_left
    ·rintro w' ⟨s0, s1⟩
     (try simp only [Int.toNat_natCast] at s0 s1)
     (try simp only [Int.toNat_natCast] at s0 s1)
     go_simp
     with_reducible rfl
    rotate_left
    ·simp only [Act.put, List.setIfInBounds_toArray, List.set_cons_zero, List.set_cons_succ, i64_w, i32_w]
     rfl
    refine take_ (i := 9) (N := some 41) (v := ?_) (a' := ?_) #[true, true, true, true, true, true, true, true, true, true, false, false, false, false, false, false] rfl rfl (take_ofW HT_.out HW_.out (by kernel_rfl)) (fun _ _ _ h => h) (Or.inl ⟨by rfl, ?_⟩) hHeld ?_ ?_
    rotate_left
    ·rintro w' ⟨s0, s1⟩
     (try simp only [Int.toNat_natCast] at s0 s1)
     (try simp only [Int.toNat_natCast] at s0 s1)
     go_simp
     with_reducible rfl
    rotate_left
    ·simp only [Act.put, List.setIfInBounds_toArray, List.set_cons_zero, List.set_cons_succ, i64_w, i32_w]
     rfl
    refine one_ (i := 10) (N := some 42) #[true, true, true, true, true, true, true, true, true, true, true, false, false, false, false, false] rfl rfl (one_of HT_.out (by kernel_rfl)) (by decide) (fun K hK => ?_)
    refine goesX_ Try.func75 (by kernel_rfl) #[.int .u64 (rd l0 (ji5)), .int .u64 (rd l1 (ji5)), .int .u64 0] (by rfl) rfl rfl (by (try simp only [List.map_toArray, List.map_cons, List.map_nil]); first | done | (simp only [hji5]; rfl) | rfl | (simp only [List.length_drop, List.length_take]; rfl)) ?_
    with_reducible refine (bits_Add64.calls (rd l0 (ji5)) (rd l1 (ji5)) 0 t127 t128 _ A13.out).mono ?_
    rintro e w' ⟨rfl, ⟨nd, rfl⟩⟩
    refine ⟨_, rfl, ?_⟩
    refine hK.out _ _ ⟨hHeld.1, (Kd.foot_int (HR1.out _ (by repeat (first | exact HK.out | apply Kept.alloc | apply Kept.drewN | apply Kept.drew))) (ji5) (of_eq_true p126) (of_eq_true q126))⟩ (fun hHeld => ?_)
    clear hK K
    refine norm_ (a' := ?_) ?_ ?_
    rotate_left
    ·show Act.put _ (some 42) _ = _
     simp only [Act.put, List.setIfInBounds_toArray, List.set_cons_zero, List.set_cons_succ, i64_w, i32_w]
     rfl
    refine ZP 11 31 #[true, true, true, true, true, true, true, true, true, true, true, true, false, false, false, false] ?_
    refine ZP 12 43 #[true, true, true, true, true, true, true, true, true, true, true, true, true, false, false, false] ?_
    refine ZP 13 44 #[true, true, true, true, true, true, true, true, true, true, true, true, true, true, false, false] ?_
    refine ZP 14 7 #[true, true, true, true, true, true, true, true, true, true, true, true, true, true, true, false] ?_
    refine ZP 15 8 #[true, true, true, true, true, true, true, true, true, true, true, true, true, true, true, true] ?_
    refine done_ (done_of HT_.out (by kernel_rfl)) ?_
    try go_wp2
    go_meet
    case rel => exact ⟨_, (18446744073709551615), (t127), (t128), ZS, ZS, ZS, H', ⟨ZN⟩, ⟨by (with_reducible repeat (first | apply Kd.G_alloc | apply Kd.G_drewN | apply Kd.G_drew)); exact HO0.out⟩, ⟨ZK⟩, ⟨ZB⟩⟩
   ·rw [if_neg c11] at H
    have c11b0 : decide ((rd l1 (ji5)) ≤ (rd l0 (l1.length : Int))) = false := decide_eq_false c11
    clear c11
    (first | rw [c11b0] | rw [c11b1] | rw [c11b1] | (simp only [i64_w, i32_w]; rw [c11b0]) | skip)
    obtain ⟨c15, H⟩ := ZI H
    have c15b0 : decide ((ji5) < (l0.length : Int)) = true := decide_eq_true c15
    clear c15
    obtain ⟨⟨t132, t133⟩, A16, H⟩ := ZO H
    (try dsimp only at H)
    have H' := Aside0.mk H
    clear H
    try go_wp2
    replace HO0 := Aside0.mk (Kd.G_drew HO0.out)
    replace HK := Aside0.mk (Kept.drew HK.out)
    replace HB := Aside0.mk (below_drew1 HB.out)
    have p129 : 0 ≤ ((l1.length : Int) : Int) := of_decide_eq_true ZD
    have q129 : (l1.length : Int) < (l0.length : Int) := of_decide_eq_true ZD
    obtain ⟨ad129, e129, hx129_0⟩ := Kd.at_int (Kd.G_reads' HO0.out).2.2 (l1.length : Int) p129 q129
    obtain rfl : ad123 = ad129 := (by injection e129)
    (try simp only [Go.IntWalk.toNatUp] at hx129_0)
    replace p129 := eq_true p129
    replace q129 := eq_true q129
    have p130 : 0 ≤ ((ji5) : Int) := of_decide_eq_true ZD
    have q130 : (ji5) < (l0.length : Int) := of_decide_eq_true ZD
    obtain ⟨ad130, e130, hx130_0⟩ := Kd.at_int (Kd.G_reads' HO0.out).2.2 (ji5) p130 q130
    obtain rfl : ad123 = ad130 := (by injection e130)
    replace p130 := eq_true p130
    replace q130 := eq_true q130
    have p131 : 0 ≤ ((ji5) : Int) := of_decide_eq_true ZD
    have q131 : (ji5) < (l1.length : Int) := of_decide_eq_true ZD
    obtain ⟨ad131, e131, hx131_0⟩ := Kd.at_int (Kd.C_kept_now HR1.out HK.out) (ji5) p131 q131
    have hw131_0 := hx131_0
    obtain rfl : ad124 = ad131 := (by injection e131)
    replace p131 := eq_true p131
    replace q131 := eq_true q131
    refine start_ (n := 20) (S := fun w' => w'.cell? (ad123.add ((l1.length : Int)).toNat) = some (.int .u64 (rd l0 (l1.length : Int))) ∧ w'.cell? (ad123.add ((ji5)).toNat) = some (.int .u64 (rd l0 (ji5))) ∧ w'.cell? (ad124.add ((ji5)).toNat) = some (.int .u64 (rd l1 (ji5)))) (ds := []) #[false, false, false, false, false, false, false, false, false, false, false, false, false, false, false, false, false, false, false, false] (by kernel_rfl) rfl rfl ⟨hx129_0, hx130_0, (Kd.foot_int (HR1.out _ (by repeat (first | exact HK.out | apply Kept.alloc | apply Kept.drewN | apply Kept.drew))) (ji5) (of_eq_true p131) (of_eq_true q131))⟩ (fun hHeld => ?_); refine with_tabW exact_step.tab7 exact_step.bits7 (fun HT_ HW_ => ?_)
    generalize w9.drew = w17 at HO0 HK HB hx129_0 hx130_0 hx131_0 hHeld ⊢
    refine ZP 0 46 #[true, false, false, false, false, false, false, false, false, false, false, false, false, false, false, false, false, false, false, false] ?_
    refine ZP 1 47 #[true, true, false, false, false, false, false, false, false, false, false, false, false, false, false, false, false, false, false, false] ?_
    refine ZP 2 48 #[true, true, true, false, false, false, false, false, false, false, false, false, false, false, false, false, false, false, false, false] ?_
    refine ZP 4 50 #[true, true, true, false, true, false, false, false, false, false, false, false, false, false, false, false, false, false, false, false] ?_
    refine ZP 5 51 #[true, true, true, false, true, true, false, false, false, false, false, false, false, false, false, false, false, false, false, false] ?_
    refine ZP 6 52 #[true, true, true, false, true, true, true, false, false, false, false, false, false, false, false, false, false, false, false, false] ?_
    refine ZP 7 53 #[true, true, true, false, true, true, true, true, false, false, false, false, false, false, false, false, false, false, false, false] ?_
    refine ZP 9 55 #[true, true, true, false, true, true, true, true, false, true, false, false, false, false, false, false, false, false, false, false] ?_
    refine ZP 10 56 #[true, true, true, false, true, true, true, true, false, true, true, false, false, false, false, false, false, false, false, false] ?_
    refine ZP 11 57 #[true, true, true, false, true, true, true, true, false, true, true, true, false, false, false, false, false, false, false, false] ?_
    refine ZP 12 58 #[true, true, true, false, true, true, true, true, false, true, true, true, true, false, false, false, false, false, false, false] ?_
    refine take_ (i := 3) (N := some 49) (v := ?_) (a' := ?_) #[true, true, true, true, true, true, true, true, false, true, true, true, true, false, false, false, false, false, false, false] rfl rfl (take_ofW HT_.out HW_.out (by kernel_rfl)) (fun _ _ _ h => h) (Or.inl ⟨by rfl, ?_⟩) hHeld ?_ ?_
    rotate_left
    ·rintro w' ⟨s0, s1, s2⟩
     (try simp only [Int.toNat_natCast] at s0 s1 s2)
     (try simp only [Int.toNat_natCast] at s0 s1 s2)
     go_simp
     with_reducible rfl
    rotate_left
    ·simp only [Act.put, List.setIfInBounds_toArray, List.set_cons_zero, List.set_cons_succ, i64_w, i32_w]
     rfl
    refine take_ (i := 8) (N := some 54) (v := ?_) (a' := ?_) #[true, true, true, true, true, true, true, true, true, true, true, true, true, false, false, false, false, false, false, false] rfl rfl (take_ofW HT_.out HW_.out (by kernel_rfl)) (fun _ _ _ h => h) (Or.inl ⟨by rfl, ?_⟩) hHeld ?_ ?_
    rotate_left
    ·rintro w' ⟨s0, s1, s2⟩
     (try simp only [Int.toNat_natCast] at s0 s1 s2)
     (try simp only [Int.toNat_natCast] at s0 s1 s2)
     go_simp
     with_reducible rfl
    rotate_left
    ·simp only [Act.put, List.setIfInBounds_toArray, List.set_cons_zero, List.set_cons_succ, i64_w, i32_w]
     rfl
    refine take_ (i := 13) (N := some 59) (v := ?_) (a' := ?_) #[true, true, true, true, true, true, true, true, true, true, true, true, true, true, false, false, false, false, false, false] rfl rfl (take_ofW HT_.out HW_.out (by kernel_rfl)) (fun _ _ _ h => h) (Or.inl ⟨by rfl, ?_⟩) hHeld ?_ ?_
    rotate_left
    ·rintro w' ⟨s0, s1, s2⟩
     (try simp only [Int.toNat_natCast] at s0 s1 s2)
     (try simp only [Int.toNat_natCast] at s0 s1 s2)
     go_simp
     with_reducible rfl
    rotate_left
    ·simp only [Act.put, List.setIfInBounds_toArray, List.set_cons_zero, List.set_cons_succ, i64_w, i32_w]
     rfl
    refine one_ (i := 14) (N := some 60) #[true, true, true, true, true, true, true, true, true, true, true, true, true, true, true, false, false, false, false, false] rfl rfl (one_of HT_.out (by kernel_rfl)) (by decide) (fun K hK => ?_)
    refine goes_ Try.func78 (by kernel_rfl) rfl #[.int .u64 (rd l0 (l1.length : Int)), .int .u64 (rd l0 (ji5)), .int .u64 (rd l1 (ji5))] (by rfl) rfl rfl (by (try simp only [List.map_toArray, List.map_cons, List.map_nil]); first | done | (simp only [hji5]; rfl) | rfl | (simp only [List.length_drop, List.length_take]; rfl)) ?_
    with_reducible refine (bits_Div64.calls k (rd l0 (l1.length : Int)) (rd l0 (ji5)) (rd l1 (ji5)) t132 t133 _ A16.out).mono ?_
    rintro e w' ⟨rfl, ⟨nd, rfl⟩⟩
    refine ⟨_, rfl, ?_⟩
    refine hK.out _ _ ⟨hHeld.1, hHeld.2.1, (Kd.foot_int (HR1.out _ (by repeat (first | exact HK.out | apply Kept.alloc | apply Kept.drewN | apply Kept.drew))) (ji5) (of_eq_true p131) (of_eq_true q131))⟩ (fun hHeld => ?_)
    clear hK K
    refine norm_ (a' := ?_) ?_ ?_
    rotate_left
    ·show Act.put _ (some 60) _ = _
     simp only [Act.put, List.setIfInBounds_toArray, List.set_cons_zero, List.set_cons_succ, i64_w, i32_w]
     rfl
    refine ZP 15 45 #[true, true, true, true, true, true, true, true, true, true, true, true, true, true, true, true, false, false, false, false] ?_
    refine ZP 16 61 #[true, true, true, true, true, true, true, true, true, true, true, true, true, true, true, true, true, false, false, false] ?_
    refine ZP 17 62 #[true, true, true, true, true, true, true, true, true, true, true, true, true, true, true, true, true, true, false, false] ?_
    refine ZP 18 6 #[true, true, true, true, true, true, true, true, true, true, true, true, true, true, true, true, true, true, true, false] ?_
    refine ZP 19 7 #[true, true, true, true, true, true, true, true, true, true, true, true, true, true, true, true, true, true, true, true] ?_
    refine done_ (done_of HT_.out (by kernel_rfl)) ?_
    try go_wp2
    go_meet
    case rel => exact ⟨_, (t132), (t133), (0), ZS, ZS, ZS, H', ⟨ZN⟩, ⟨by (with_reducible repeat (first | apply Kd.G_alloc | apply Kd.G_drewN | apply Kd.G_drew)); exact HO0.out⟩, ⟨ZK⟩, ⟨ZB⟩⟩
  case rest =>
   clear HC8
   try clear c1
   try clear c3
   try clear c3b0
   try clear c3b1
   try clear c4
   try clear c4b0
   try clear c4b1
   try clear c6
   try clear c6b0
   try clear c7
   try clear c7b0
   try clear hx123_0
   try clear hx124_0
   try clear p123
   try clear p124
   try clear q123
   try clear q124
   obtain ⟨kq, x6_7, x7_7, x8_7, rfl, rfl, rfl, HA, HJ7, HO_0, HK, HB⟩ := hcut
   cases kq with
   | zero => exact absurd HA.out (by simp [exact_step.j0])
   | succ kj7 =>
    have H := HA.out
    clear HA
    simp only [exact_step.j0] at H
    have HC18 := Aside0.mk H
    clear H
    go_upto_block 0 with (fail)
    go_cut [6] (fun v6 wc => ∃ (kq : Nat) (x6_17 : Int), v6 = .int .u64 x6_17 ∧ Aside0 (exact_step.j2 kq l0 l1 (l1.length : Int) x6_17 = some (r1, r2)) ∧ Aside0 (kq ≤ kj7) ∧ Aside0 (Kd.G pre_ post_ co_ 49 wc w0.heap.size (fun k_ => (P0_ k_ ∨ w.heap.size ≤ k_)) (.slice (some ad123) l0.length co10) l0) ∧ Aside0 (Kept w wc (fun k_ => P0_ k_)) ∧ Aside0 (Below w0.heap.size w0 wc))
    case first =>
     have H := HC18.out
     clear HC18
     have H' := Aside0.mk H
     clear H
     go_wp2
     go_loopg [6, 7, 8] kj7 (fun kq v6 v7 v8 w' => ∃ (x6_2 : Int) (x7_2 : Int) (x8_2 : Int), v6 = .int .u64 x6_2 ∧ v7 = .int .u64 x7_2 ∧ v8 = .int .u64 x8_2 ∧ Aside0 (exact_step.l0 kq l0 l1 (l1.length : Int) x6_2 x7_2 x8_2 = some (r1, r2)) ∧ Aside0 (kq ≤ kj7) ∧ Aside0 (Kd.G pre_ post_ co_ 49 w' w0.heap.size (fun k_ => (P0_ k_ ∨ w.heap.size ≤ k_)) (.slice (some ad123) l0.length co10) l0) ∧ Aside0 (Kept w w' (fun k_ => P0_ k_)) ∧ Aside0 (Below w0.heap.size w0 w'))
     case atStart => exact ⟨(x6_7), (x7_7), (x8_7), ZS, ZS, ZS, H', ⟨Nat.le_refl _⟩, ⟨by (with_reducible repeat (first | apply Kd.G_alloc | apply Kd.G_drewN | apply Kd.G_drew)); exact HO_0.out⟩, ⟨ZK⟩, ⟨ZB⟩⟩
     case round =>
      clear H'
      obtain ⟨x6_2, x7_2, x8_2, rfl, rfl, rfl, HA, HK2, HO_0, HK, HB⟩ := hrel
      cases gk with
      | zero => exact absurd HA.out (by simp [exact_step.l0])
      | succ k2 =>
       have H := HA.out
       clear HA
       simp only [exact_step.l0] at H
       by_cases c19 : x8_2 = 0
       ·rw [if_pos c19] at H
        have c19b0 : (x8_2 == 0) = true := beq_iff_eq.mpr c19
        have c19b1 : (x8_2 != 0) = false := bne_eq_false_iff_eq.mpr c19
        clear c19
        (first | rw [c19b0] | rw [c19b1] | rw [c19b1] | (simp only [i64_w, i32_w]; rw [c19b0]) | skip)
        obtain ⟨ji20, hji20⟩ : ∃ j_ : Int, (wrap64 ((l1.length : Int) - 2)) = j_ := ⟨_, rfl⟩
        (first | rw [hji20] at H | simp only [hji20] at H)
        have hji20w : (IntKind.i64.wrap ((l1.length : Int) - 2)) = ji20 := (i64_w _).trans hji20
        obtain ⟨c21, H⟩ := ZI H
        have c21b0 : decide (0 ≤ (ji20)) = true := decide_eq_true c21
        clear c21
        obtain ⟨c22, H⟩ := ZI H
        have c22b0 : decide ((ji20) < (l1.length : Int)) = true := decide_eq_true c22
        clear c22
        obtain ⟨⟨t135, t136⟩, A23, H⟩ := ZO H
        (try dsimp only at H)
        by_cases c24 : t135 < x7_2
        ·rw [if_pos c24] at H
         have c24b0 : decide (t135 < x7_2) = true := decide_eq_true c24
         clear c24
         have H' := Aside0.mk H
         clear H
         have p134 : 0 ≤ ((ji20) : Int) := of_decide_eq_true ZD
         have q134 : (ji20) < (l1.length : Int) := of_decide_eq_true ZD
         obtain ⟨ad134, e134, hx134_0⟩ := Kd.at_int (Kd.C_kept_now HR1.out HK.out) (ji20) p134 q134
         obtain rfl : ad124 = ad134 := (by injection e134)
         replace p134 := eq_true p134
         replace q134 := eq_true q134
         go_wp2_with (first | ((with_reducible refine gate_callee (f := 83) rfl ?_); refine goesL_ (some 72) rfl rfl Try.func83 (by kernel_rfl) rfl #[.int .u64 x6_2, .int .u64 (rd l1 (ji20))] rfl (by (try simp only [List.map_toArray, List.map_cons, List.map_nil]); first | done | (simp only [hji20]; rfl) | rfl | (simp only [List.length_drop, List.length_take]; rfl)) ?_; (with_reducible refine (bits_Mul64.calls x6_2 (rd l1 (ji20)) t135 t136 _ A23.out).mono ?_); rintro e w' ⟨rfl, ⟨nd, rfl⟩⟩; refine ⟨_, rfl, ?_⟩))
         go_meet
         case rel => exact ⟨_, (x6_2), ZS, H', ⟨by have := HJ7.out; have := HK2.out; first | omega | exact Nat.le_refl _⟩, ⟨by (with_reducible repeat (first | apply Kd.G_alloc | apply Kd.G_drewN | apply Kd.G_drew)); exact HO_0.out⟩, ⟨ZK⟩, ⟨ZB⟩⟩
        ·rw [if_neg c24] at H
         have c24b0 : decide (t135 < x7_2) = false := decide_eq_false c24
         clear c24
         by_cases c25 : t135 = x7_2
         ·rw [if_pos c25] at H
          have c25b0 : (t135 == x7_2) = true := beq_iff_eq.mpr c25
          have c25b1 : (t135 != x7_2) = false := bne_eq_false_iff_eq.mpr c25
          clear c25
          obtain ⟨c26, H⟩ := ZI H
          have c26b0 : decide ((ji20) < (l0.length : Int)) = true := decide_eq_true c26
          clear c26
          by_cases c27 : t136 ≤ (rd l0 (ji20))
          ·rw [if_pos c27] at H
           have c27b0 : decide (t136 ≤ (rd l0 (ji20))) = true := decide_eq_true c27
           clear c27
           have H' := Aside0.mk H
           clear H
           have p134 : 0 ≤ ((ji20) : Int) := of_decide_eq_true ZD
           have q134 : (ji20) < (l1.length : Int) := of_decide_eq_true ZD
           obtain ⟨ad134, e134, hx134_0⟩ := Kd.at_int (Kd.C_kept_now HR1.out HK.out) (ji20) p134 q134
           obtain rfl : ad124 = ad134 := (by injection e134)
           replace p134 := eq_true p134
           replace q134 := eq_true q134
           go_wp2_with (first | ((with_reducible refine gate_callee (f := 83) rfl ?_); refine goesL_ (some 72) rfl rfl Try.func83 (by kernel_rfl) rfl #[.int .u64 x6_2, .int .u64 (rd l1 (ji20))] rfl (by (try simp only [List.map_toArray, List.map_cons, List.map_nil]); first | done | (simp only [hji20]; rfl) | rfl | (simp only [List.length_drop, List.length_take]; rfl)) ?_; (with_reducible refine (bits_Mul64.calls x6_2 (rd l1 (ji20)) t135 t136 _ A23.out).mono ?_); rintro e w' ⟨rfl, ⟨nd, rfl⟩⟩; refine ⟨_, rfl, ?_⟩; have p137 : 0 ≤ ((ji20) : Int) := of_decide_eq_true ZD; have q137 : (ji20) < (l0.length : Int) := of_decide_eq_true ZD; obtain ⟨ad137, e137, hx137_0⟩ := Kd.at_int (Kd.G_reads' HO_0.out).2.2 (ji20) p137 q137; obtain rfl : ad123 = ad137 := (by injection e137); replace p137 := eq_true p137; replace q137 := eq_true q137))
           go_meet
           case rel => exact ⟨_, (x6_2), ZS, H', ⟨by have := HJ7.out; have := HK2.out; first | omega | exact Nat.le_refl _⟩, ⟨by (with_reducible repeat (first | apply Kd.G_alloc | apply Kd.G_drewN | apply Kd.G_drew)); exact HO_0.out⟩, ⟨ZK⟩, ⟨ZB⟩⟩
          ·rw [if_neg c27] at H
           have c27b0 : decide (t136 ≤ (rd l0 (ji20))) = false := decide_eq_false c27
           clear c27
           (first | rw [hji5] at H | simp only [hji5] at H)
           (try rw [hji5] at A23)
           obtain ⟨c29, H⟩ := ZI H
           have c29b0 : decide (0 ≤ (ji5)) = true := decide_eq_true c29
           clear c29
           obtain ⟨c30, H⟩ := ZI H
           have c30b0 : decide ((ji5) < (l1.length : Int)) = true := decide_eq_true c30
           clear c30
           obtain ⟨⟨t139, t140⟩, A31, H⟩ := ZO H
           (try dsimp only at H)
           have H' := Aside0.mk H
           clear H
           have p134 : 0 ≤ ((ji20) : Int) := of_decide_eq_true ZD
           have q134 : (ji20) < (l1.length : Int) := of_decide_eq_true ZD
           obtain ⟨ad134, e134, hx134_0⟩ := Kd.at_int (Kd.C_kept_now HR1.out HK.out) (ji20) p134 q134
           obtain rfl : ad124 = ad134 := (by injection e134)
           replace p134 := eq_true p134
           replace q134 := eq_true q134
           go_wp2_with (first | ((with_reducible refine gate_callee (f := 83) rfl ?_); refine goesL_ (some 72) rfl rfl Try.func83 (by kernel_rfl) rfl #[.int .u64 x6_2, .int .u64 (rd l1 (ji20))] rfl (by (try simp only [List.map_toArray, List.map_cons, List.map_nil]); first | done | (simp only [hji20]; rfl) | rfl | (simp only [List.length_drop, List.length_take]; rfl)) ?_; (with_reducible refine (bits_Mul64.calls x6_2 (rd l1 (ji20)) t135 t136 _ A23.out).mono ?_); rintro e w' ⟨rfl, ⟨nd, rfl⟩⟩; refine ⟨_, rfl, ?_⟩; have p137 : 0 ≤ ((ji20) : Int) := of_decide_eq_true ZD; have q137 : (ji20) < (l0.length : Int) := of_decide_eq_true ZD; obtain ⟨ad137, e137, hx137_0⟩ := Kd.at_int (Kd.G_reads' HO_0.out).2.2 (ji20) p137 q137; obtain rfl : ad123 = ad137 := (by injection e137); replace p137 := eq_true p137; replace q137 := eq_true q137; have p138 : 0 ≤ ((ji5) : Int) := of_decide_eq_true ZD; have q138 : (ji5) < (l1.length : Int) := of_decide_eq_true ZD; obtain ⟨ad138, e138, hx138_0⟩ := Kd.at_int (Kd.C_kept_now HR1.out HK.out) (ji5) p138 q138; obtain rfl : ad124 = ad138 := (by injection e138); replace p138 := eq_true p138; replace q138 := eq_true q138) | ((with_reducible refine gate_callee (f := 75) rfl ?_); refine goesXL_ (some 101) rfl rfl Try.func75 (by kernel_rfl) #[.int .u64 x7_2, .int .u64 (rd l1 (ji5)), .int .u64 0] rfl (by (try simp only [List.map_toArray, List.map_cons, List.map_nil]); first | done | (simp only [hji5]; rfl) | rfl | (simp only [List.length_drop, List.length_take]; rfl)) ?_; (with_reducible refine (bits_Add64.calls x7_2 (rd l1 (ji5)) 0 t139 t140 _ A31.out).mono ?_); rintro e w' ⟨rfl, ⟨nd, rfl⟩⟩; refine ⟨_, rfl, ?_⟩))
           go_roundg k2
           case measure => have := HJ7.out; have := HK2.out; omega
           case rel => exact ⟨(IntKind.u64.wrap (x6_2 - 1)), (t139), (t140), ZS, ZS, ZS, H', ⟨by have := HJ7.out; have := HK2.out; omega⟩, ⟨by (with_reducible repeat (first | apply Kd.G_alloc | apply Kd.G_drewN | apply Kd.G_drew)); exact HO_0.out⟩, ⟨ZK⟩, ⟨ZB⟩⟩
         ·rw [if_neg c25] at H
          have c25b0 : (t135 == x7_2) = false := beq_eq_false_iff_ne.mpr c25
          have c25b1 : (t135 != x7_2) = true := bne_iff_ne.mpr c25
          (first | rw [hji5] at H | simp only [hji5] at H)
          (try rw [hji5] at A23)
          obtain ⟨c33, H⟩ := ZI H
          have c33b0 : decide (0 ≤ (ji5)) = true := decide_eq_true c33
          clear c33
          obtain ⟨c34, H⟩ := ZI H
          have c34b0 : decide ((ji5) < (l1.length : Int)) = true := decide_eq_true c34
          clear c34
          obtain ⟨⟨t142, t143⟩, A35, H⟩ := ZO H
          (try dsimp only at H)
          have H' := Aside0.mk H
          clear H
          have p134 : 0 ≤ ((ji20) : Int) := of_decide_eq_true ZD
          have q134 : (ji20) < (l1.length : Int) := of_decide_eq_true ZD
          obtain ⟨ad134, e134, hx134_0⟩ := Kd.at_int (Kd.C_kept_now HR1.out HK.out) (ji20) p134 q134
          obtain rfl : ad124 = ad134 := (by injection e134)
          replace p134 := eq_true p134
          replace q134 := eq_true q134
          go_wp2_with (first | ((with_reducible refine gate_callee (f := 83) rfl ?_); refine goesL_ (some 72) rfl rfl Try.func83 (by kernel_rfl) rfl #[.int .u64 x6_2, .int .u64 (rd l1 (ji20))] rfl (by (try simp only [List.map_toArray, List.map_cons, List.map_nil]); first | done | (simp only [hji20]; rfl) | rfl | (simp only [List.length_drop, List.length_take]; rfl)) ?_; (with_reducible refine (bits_Mul64.calls x6_2 (rd l1 (ji20)) t135 t136 _ A23.out).mono ?_); rintro e w' ⟨rfl, ⟨nd, rfl⟩⟩; refine ⟨_, rfl, ?_⟩; have p141 : 0 ≤ ((ji5) : Int) := of_decide_eq_true ZD; have q141 : (ji5) < (l1.length : Int) := of_decide_eq_true ZD; obtain ⟨ad141, e141, hx141_0⟩ := Kd.at_int (Kd.C_kept_now HR1.out HK.out) (ji5) p141 q141; obtain rfl : ad124 = ad141 := (by injection e141); replace p141 := eq_true p141; replace q141 := eq_true q141) | ((with_reducible refine gate_callee (f := 75) rfl ?_); refine goesXL_ (some 101) rfl rfl Try.func75 (by kernel_rfl) #[.int .u64 x7_2, .int .u64 (rd l1 (ji5)), .int .u64 0] rfl (by (try simp only [List.map_toArray, List.map_cons, List.map_nil]); first | done | (simp only [hji5]; rfl) | rfl | (simp only [List.length_drop, List.length_take]; rfl)) ?_; (with_reducible refine (bits_Add64.calls x7_2 (rd l1 (ji5)) 0 t142 t143 _ A35.out).mono ?_); rintro e w' ⟨rfl, ⟨nd, rfl⟩⟩; refine ⟨_, rfl, ?_⟩))
          go_roundg k2
          case measure => have := HJ7.out; have := HK2.out; omega
          case rel => exact ⟨(IntKind.u64.wrap (x6_2 - 1)), (t142), (t143), ZS, ZS, ZS, H', ⟨by have := HJ7.out; have := HK2.out; omega⟩, ⟨by (with_reducible repeat (first | apply Kd.G_alloc | apply Kd.G_drewN | apply Kd.G_drew)); exact HO_0.out⟩, ⟨ZK⟩, ⟨ZB⟩⟩
       ·rw [if_neg c19] at H
        have c19b0 : (x8_2 == 0) = false := beq_eq_false_iff_ne.mpr c19
        have c19b1 : (x8_2 != 0) = true := bne_iff_ne.mpr c19
        (first | rw [c19b0] | rw [c19b1] | rw [c19b1] | (simp only [i64_w, i32_w]; rw [c19b0]) | skip)
        have H' := Aside0.mk H
        clear H
        go_wp2
        go_meet
        case rel => exact ⟨_, (x6_2), ZS, H', ⟨by have := HJ7.out; have := HK2.out; first | omega | exact Nat.le_refl _⟩, ⟨by (with_reducible repeat (first | apply Kd.G_alloc | apply Kd.G_drewN | apply Kd.G_drew)); exact HO_0.out⟩, ⟨ZK⟩, ⟨ZB⟩⟩
    case rest =>
     clear HC18
     obtain ⟨kq, x6_17, rfl, HA, HJ17, HO_0, HK, HB⟩ := hcut
     cases kq with
     | zero => exact absurd HA.out (by simp [exact_step.j2])
     | succ kj17 =>
      have H := HA.out
      clear HA
      simp only [exact_step.j2] at H
      have H' := Aside0.mk H
      clear H
      go_wp2
      go_loopg [11, 12, 105] kj17 (fun kq v11 v12 v105 w' => ∃ (x0_3 : List Int) (x11_3 : Int) (x12_3 : Int) (x105_3 : Int), v11 = .int .u64 x11_3 ∧ v12 = .int .u64 x12_3 ∧ v105 = .int .i64 x105_3 ∧ Aside0 (exact_step.l1 kq x0_3 l1 (l1.length : Int) x6_17 x11_3 x12_3 (l1.length : Int) x105_3 = some (r1, r2)) ∧ Aside0 (kq ≤ kj17) ∧ Aside0 (Kd.G pre_ post_ co_ 49 w' w0.heap.size (fun k_ => (P0_ k_ ∨ w.heap.size ≤ k_)) (.slice (some ad123) l0.length co10) x0_3) ∧ Aside0 (Kept w w' (fun k_ => P0_ k_)) ∧ Aside0 (Below w0.heap.size w0 w'))
      case atStart => exact ⟨(l0), (0), (0), (0), ZS, ZS, ZS, H', ⟨Nat.le_refl _⟩, ⟨by (with_reducible repeat (first | apply Kd.G_alloc | apply Kd.G_drewN | apply Kd.G_drew)); exact HO_0.out⟩, ⟨ZK⟩, ⟨ZB⟩⟩
      case round =>
       clear H'
       obtain ⟨x0_3, x11_3, x12_3, x105_3, rfl, rfl, rfl, HA, HK3, HO_0, HK, HB⟩ := hrel
       have hl0_3 := (Kd.G_reads' HO_0.out).1
       rw [hl0_3] at HO_0
       (try simp only [hl0_3])
       cases gk with
       | zero => exact absurd HA.out (by simp [exact_step.l1])
       | succ k3 =>
        have H := HA.out
        clear HA
        simp only [exact_step.l1] at H
        by_cases c36 : x105_3 < (l1.length : Int)
        ·rw [if_pos c36] at H
         have c36b0 : decide (x105_3 < (l1.length : Int)) = true := decide_eq_true c36
         (try (have c36b0y := c36b0; simp only [hl0_3] at c36b0y))
         (try (have c36b0y := c36b0; simp only [hl0_3] at c36b0y))
         clear c36
         obtain ⟨c37, H⟩ := ZI H
         have c37b0 : decide (0 ≤ x105_3) = true := decide_eq_true c37
         clear c37
         obtain ⟨c38, H⟩ := ZI H
         have c38b0 : decide (x105_3 < (l1.length : Int)) = true := decide_eq_true c38
         (try (have c38b0y := c38b0; simp only [hl0_3] at c38b0y))
         (try (have c38b0y := c38b0; simp only [hl0_3] at c38b0y))
         clear c38
         obtain ⟨⟨t145, t146⟩, A39, H⟩ := ZO H
         (try dsimp only at H)
         obtain ⟨⟨t147, t148⟩, A40, H⟩ := ZO H
         (try dsimp only at H)
         obtain ⟨c41, H⟩ := ZI H
         have c41b0 : decide (x105_3 < (x0_3.length : Int)) = true := decide_eq_true c41
         (try (have c41b0y := c41b0; simp only [hl0_3] at c41b0y))
         (try (have c41b0y := c41b0; simp only [hl0_3] at c41b0y))
         clear c41
         obtain ⟨⟨t150, t151⟩, A42, H⟩ := ZO H
         (try dsimp only at H)
         generalize hy152 : (x0_3.set (x105_3 : Int).toNat t150) = y152 at H
         have Ny152 := Aside0.mk hy152.symm
         clear hy152
         have H' := Aside0.mk H
         clear H
         have p144 : 0 ≤ (x105_3 : Int) := of_decide_eq_true ZD
         have q144 : x105_3 < (l1.length : Int) := of_decide_eq_true ZD
         obtain ⟨ad144, e144, hx144_0⟩ := Kd.at_int (Kd.C_kept_now HR1.out HK.out) x105_3 p144 q144
         obtain rfl : ad124 = ad144 := (by injection e144)
         replace p144 := eq_true p144
         replace q144 := eq_true q144
         go_wp2_with (first | ((with_reducible refine gate_callee (f := 83) rfl ?_); refine goesL_ (some 114) rfl rfl Try.func83 (by kernel_rfl) rfl #[.int .u64 x6_17, .int .u64 (rd l1 x105_3)] rfl ZA ?_; (with_reducible refine (bits_Mul64.calls x6_17 (rd l1 x105_3) t145 t146 _ A39.out).mono ?_); rintro e w' ⟨rfl, ⟨nd, rfl⟩⟩; refine ⟨_, rfl, ?_⟩; (try (rw [drewN_self wr]; generalize hq_ : World.drewN wr _ = wr; have n0_ : Aside0 (Kd.G pre_ post_ co_ 49 wr w0.heap.size (fun k_ => (P0_ k_ ∨ w.heap.size ≤ k_)) (.slice (some ad123) x0_3.length co10) x0_3) := ⟨by rw [← hq_]; exact (ZG HO_0.out)⟩; have n1_ : Aside0 (Kept w wr (fun k_ => P0_ k_)) := ⟨by rw [← hq_]; exact ZK⟩; have n2_ : Aside0 (Below w0.heap.size w0 wr) := ⟨by rw [← hq_]; exact ZB⟩; clear HO_0 HK HB hq_; have HO_0 := n0_; have HK := n1_; have HB := n2_; clear n0_ n1_ n2_))) | ((with_reducible refine gate_callee (f := 75) rfl ?_); refine goesXL_ (some 120) rfl rfl Try.func75 (by kernel_rfl) #[.int .u64 t146, .int .u64 x12_3, .int .u64 0] rfl ZA ?_; (with_reducible refine (bits_Add64.calls t146 x12_3 0 t147 t148 _ A40.out).mono ?_); rintro e w' ⟨rfl, ⟨nd, rfl⟩⟩; refine ⟨_, rfl, ?_⟩; (try (rw [drewN_self wr]; generalize hq_ : World.drewN wr _ = wr; have n0_ : Aside0 (Kd.G pre_ post_ co_ 49 wr w0.heap.size (fun k_ => (P0_ k_ ∨ w.heap.size ≤ k_)) (.slice (some ad123) x0_3.length co10) x0_3) := ⟨by rw [← hq_]; exact (ZG HO_0.out)⟩; have n1_ : Aside0 (Kept w wr (fun k_ => P0_ k_)) := ⟨by rw [← hq_]; exact ZK⟩; have n2_ : Aside0 (Below w0.heap.size w0 wr) := ⟨by rw [← hq_]; exact ZB⟩; clear HO_0 HK HB hq_; have HO_0 := n0_; have HK := n1_; have HB := n2_; clear n0_ n1_ n2_)); have p149 : 0 ≤ (x105_3 : Int) := of_decide_eq_true ZD; have q149 : x105_3 < (x0_3.length : Int) := of_decide_eq_true ZD; obtain ⟨ad149, e149, hx149_0⟩ := Kd.at_int (Kd.G_reads' HO_0.out).2.2 x105_3 p149 q149; obtain rfl : ad123 = ad149 := (by injection e149); replace p149 := eq_true p149; replace q149 := eq_true q149) | ((with_reducible refine gate_callee (f := 76) rfl ?_); refine goesXL_ (some 135) rfl rfl Try.func76 (by kernel_rfl) #[.int .u64 (rd x0_3 x105_3), .int .u64 t147, .int .u64 x11_3] rfl ZA ?_; (with_reducible refine (bits_Sub64.calls (rd x0_3 x105_3) t147 x11_3 t150 t151 _ A42.out).mono ?_); rintro e w' ⟨rfl, ⟨nd, rfl⟩⟩; refine ⟨_, rfl, ?_⟩; (try (rw [drewN_self wr]; generalize hq_ : World.drewN wr _ = wr; have n0_ : Aside0 (Kd.G pre_ post_ co_ 49 wr w0.heap.size (fun k_ => (P0_ k_ ∨ w.heap.size ≤ k_)) (.slice (some ad123) x0_3.length co10) x0_3) := ⟨by rw [← hq_]; exact (ZG HO_0.out)⟩; have n1_ : Aside0 (Kept w wr (fun k_ => P0_ k_)) := ⟨by rw [← hq_]; exact ZK⟩; have n2_ : Aside0 (Below w0.heap.size w0 wr) := ⟨by rw [← hq_]; exact ZB⟩; clear HO_0 HK HB hq_; have HO_0 := n0_; have HK := n1_; have HB := n2_; clear n0_ n1_ n2_)); have p43 : 0 ≤ (x105_3 : Int) := of_decide_eq_true ZD; have q43 : (x105_3 : Int) < ((x0_3.length : Int) : Int) := of_decide_eq_true ZD; obtain ⟨go43, co43, eo43, gb43, gl43, cl43, HG43⟩ := Kd.G_form HO_0.out (by omega); (first | cases eo43 | (injection eo43 with ea_ en_ ec_; (first | subst ea_ | (injection ea_ with ea_; subst ea_)); subst ec_; clear en_)); have GB43 := Aside0.mk gb43; have GG43 := Aside0.mk HG43; clear gb43 gl43 HG43; have HMgo43 := Aside0.mk (show (P0_ go43 ∨ w.heap.size ≤ go43) from (Kd.G_own HO_0.out _ rfl)); (first | simp only [add_plain] at hx123_0 | skip); (first | simp only [add_plain] at hx125_0 | skip); (first | simp only [add_plain] at hx129_0 | skip); (first | simp only [add_plain] at hx130_0 | skip); (first | simp only [add_plain] at hx137_0 | skip); (first | simp only [add_plain] at hx149_0 | skip); obtain ⟨hx43_0, hf43_0⟩ := Kd.G_celln 0 HO_0.out (x105_3 : Int) p43 q43; (try simp only [Int.toNat_natCast] at hx43_0 hf43_0); (try simp only [Int.toNat_natCast] at hx43_0 hf43_0); replace p43 := eq_true p43; replace q43 := eq_true q43; obtain ⟨hy44_, hz44_⟩ := Kd.G_celln 0 HO_0.out (x105_3 : Int) (of_decide_eq_true ZD) (of_decide_eq_true ZD); (try simp only [Int.toNat_natCast] at hy44_ hz44_); (try simp only [Int.toNat_natCast] at hy44_ hz44_); have HP44 := Kd.G_putg HO_0.out (x105_3 : Int) t150 (G_lt (by first | exact (of_decide_eq_true ZD) | (simp; done) | omega) (by first | exact (of_decide_eq_true ZD) | (simp; done) | omega))) | ((with_reducible refine gate_store (t := 49) (p := 138) rfl ?_); refine store_event (t := 49) (p := 138) (v := ?vo_w45) (w1 := (wr.setCell ⟨go43, pre_.length + (x105_3 : Int).toNat, none⟩ (.int .u64 t150))) ?hg ?ho ?hn ?hr ?_; (case ho => rfl); (case hg => rfl); (case hn => rfl); (case hr => first | (go_simp; done) | (go_simp; rfl)); intro w45 hw; have hg : wr.grownBy w45 (some go43) := (by rw [hw]; exact HP44.2); have hp_ : Kd.G pre_ post_ co_ 49 w45 w0.heap.size (fun k_ => (P0_ k_ ∨ w.heap.size ≤ k_)) (.slice (some ⟨go43, pre_.length, none⟩) x0_3.length co10) y152 := (by rw [hw, Ny152.out]; exact HP44.1); clear HP44; replace HB := Aside0.mk ((by rw [hw]; exact below_set (HB.out) GB43.out : Below w0.heap.size w0 w45)); replace HK := Aside0.mk (Kept.of_grown (S := (fun k_ => P0_ k_)) hg ZK (fun k_ e_ => (Kd.G_own HO_0.out k_ e_))); replace HO_0 := Aside0.mk (hp_); clear hg hw hp_))
         (try simp only [← hl0_3])
         go_roundg k3
         case measure => have := HJ7.out; have := HJ17.out; have := HK3.out; omega
         case rel => exact ⟨(y152), (t151), (IntKind.u64.wrap (t145 + t148)), (wrap64 (x105_3 + 1)), ZS, ZS, ZS, H', ⟨by have := HJ7.out; have := HJ17.out; have := HK3.out; omega⟩, ⟨by (try simp only [hl0_3]); (with_reducible repeat (first | apply Kd.G_alloc | apply Kd.G_drewN | apply Kd.G_drew)); exact HO_0.out⟩, ⟨ZK⟩, ⟨ZB⟩⟩
        ·rw [if_neg c36] at H
         have c36b0 : decide (x105_3 < (l1.length : Int)) = false := decide_eq_false c36
         (try (have c36b0y := c36b0; simp only [hl0_3] at c36b0y))
         (try (have c36b0y := c36b0; simp only [hl0_3] at c36b0y))
         clear c36
         obtain ⟨c46, H⟩ := ZI H
         have c46b0 : decide (0 ≤ (l1.length : Int)) = true := decide_eq_true c46
         (try (have c46b0y := c46b0; simp only [hl0_3] at c46b0y))
         (try (have c46b0y := c46b0; simp only [hl0_3] at c46b0y))
         have c46b1 : decide (0 ≤ l1.length) = true := decide_eq_true (by omega)
         (try (have c46b1y := c46b1; simp only [hl0_3] at c46b1y))
         (try (have c46b1y := c46b1; simp only [hl0_3] at c46b1y))
         clear c46
         obtain ⟨c47, H⟩ := ZI H
         have c47b0 : decide ((l1.length : Int) < (x0_3.length : Int)) = true := decide_eq_true c47
         (try (have c47b0y := c47b0; simp only [hl0_3] at c47b0y))
         (try (have c47b0y := c47b0; simp only [hl0_3] at c47b0y))
         have c47b1 : decide (l1.length < x0_3.length) = true := decide_eq_true (Int.ofNat_lt.mp c47)
         (try (have c47b1y := c47b1; simp only [hl0_3] at c47b1y))
         (try (have c47b1y := c47b1; simp only [hl0_3] at c47b1y))
         clear c47
         obtain ⟨⟨t154, t155⟩, A48, H⟩ := ZO H
         (try dsimp only at H)
         obtain ⟨y156, hy156⟩ : ∃ y_ : List Int, y_ = (x0_3.set ((l1.length : Int) : Int).toNat t154) := ⟨_, rfl⟩
         replace H : (if t155 = 0 then (some (x6_17, y156)) else (exact_step.l2 k3 y156 l1 (l1.length : Int) x6_17 0 (l1.length : Int) 0)) = some (r1, r2) := ZH hy156 H
         have Ny156 := Aside0.mk hy156
         clear hy156
         by_cases c50 : t155 = 0
         ·rw [if_pos c50] at H
          have c50b0 : (t155 == 0) = true := beq_iff_eq.mpr c50
          have c50b1 : (t155 != 0) = false := bne_eq_false_iff_eq.mpr c50
          clear c50
          simp only [Option.some.injEq, Prod.mk.injEq] at H
          obtain ⟨rfl, rfl⟩ := H
          have p153 : 0 ≤ ((l1.length : Int) : Int) := of_decide_eq_true ZD
          have q153 : (l1.length : Int) < (x0_3.length : Int) := of_decide_eq_true ZD
          obtain ⟨ad153, e153, hx153_0⟩ := Kd.at_int (Kd.G_reads' HO_0.out).2.2 (l1.length : Int) p153 q153
          obtain rfl : ad123 = ad153 := (by injection e153)
          (try simp only [Go.IntWalk.toNatUp] at hx153_0)
          (try simp only [hl0_3] at p153)
          (try simp only [hl0_3] at q153)
          (try simp only [hl0_3] at hx153_0)
          replace p153 := eq_true p153
          replace q153 := eq_true q153
          go_wp2_with (first | ((with_reducible refine gate_callee (f := 76) rfl ?_); refine goesXL_ (some 149) rfl rfl Try.func76 (by kernel_rfl) #[.int .u64 (rd x0_3 (l1.length : Int)), .int .u64 x12_3, .int .u64 x11_3] rfl ZA ?_; (with_reducible refine (bits_Sub64.calls (rd x0_3 (l1.length : Int)) x12_3 x11_3 t154 t155 _ A48.out).mono ?_); rintro e w' ⟨rfl, ⟨nd, rfl⟩⟩; refine ⟨_, rfl, ?_⟩; (try (rw [drewN_self wr]; generalize hq_ : World.drewN wr _ = wr; have n0_ : Aside0 (Kd.G pre_ post_ co_ 49 wr w0.heap.size (fun k_ => (P0_ k_ ∨ w.heap.size ≤ k_)) (.slice (some ad123) x0_3.length co10) x0_3) := ⟨by rw [← hq_]; exact (ZG HO_0.out)⟩; have n1_ : Aside0 (Kept w wr (fun k_ => P0_ k_)) := ⟨by rw [← hq_]; exact ZK⟩; have n2_ : Aside0 (Below w0.heap.size w0 wr) := ⟨by rw [← hq_]; exact ZB⟩; clear HO_0 HK HB hq_; have HO_0 := n0_; have HK := n1_; have HB := n2_; clear n0_ n1_ n2_)); have p49 : 0 ≤ ((l1.length : Int) : Int) := of_decide_eq_true ZD; have q49 : ((l1.length : Int) : Int) < ((x0_3.length : Int) : Int) := of_decide_eq_true ZD; obtain ⟨go49, co49, eo49, gb49, gl49, cl49, HG49⟩ := Kd.G_form HO_0.out (by omega); (first | cases eo49 | (injection eo49 with ea_ en_ ec_; (first | subst ea_ | (injection ea_ with ea_; subst ea_)); subst ec_; clear en_)); have GB49 := Aside0.mk gb49; have GG49 := Aside0.mk HG49; clear gb49 gl49 HG49; have HMgo49 := Aside0.mk (show (P0_ go49 ∨ w.heap.size ≤ go49) from (Kd.G_own HO_0.out _ rfl)); (first | simp only [add_plain] at hx153_0 | skip); obtain ⟨hx49_0, hf49_0⟩ := Kd.G_celln 0 HO_0.out ((l1.length : Int) : Int) p49 q49; (try simp only [Int.toNat_natCast] at hx49_0 hf49_0); (try simp only [Int.toNat_natCast] at hx49_0 hf49_0); replace p49 := eq_true p49; replace q49 := eq_true q49; obtain ⟨hy51_, hz51_⟩ := Kd.G_celln 0 HO_0.out ((l1.length : Int) : Int) (of_decide_eq_true ZD) (of_decide_eq_true ZD); (try simp only [Int.toNat_natCast] at hy51_ hz51_); (try simp only [Int.toNat_natCast] at hy51_ hz51_); (try simp only [Go.IntWalk.toNatUp] at hy51_ hz51_); have HP51 := Kd.G_putg HO_0.out ((l1.length : Int) : Int) t154 (G_lt (by first | exact (of_decide_eq_true ZD) | (simp; done) | omega) (by first | exact (of_decide_eq_true ZD) | (simp; done) | omega))) | ((with_reducible refine gate_store (t := 49) (p := 152) rfl ?_); refine store_event (t := 49) (p := 152) (v := ?vo_w52) (w1 := (wr.setCell ⟨go49, pre_.length + l1.length, none⟩ (.int .u64 t154))) ?hg ?ho ?hn ?hr ?_; (case ho => rfl); (case hg => rfl); (case hn => rfl); (case hr => first | (go_simp; done) | (go_simp; rfl)); intro w52 hw; have hg : wr.grownBy w52 (some go49) := (by rw [hw]; exact HP51.2); have hp_ : Kd.G pre_ post_ co_ 49 w52 w0.heap.size (fun k_ => (P0_ k_ ∨ w.heap.size ≤ k_)) (.slice (some ⟨go49, pre_.length, none⟩) x0_3.length co10) y156 := (by rw [hw, Ny156.out]; exact HP51.1); clear HP51; replace HB := Aside0.mk ((by rw [hw]; exact below_set (HB.out) GB49.out : Below w0.heap.size w0 w52)); replace HK := Aside0.mk (Kept.of_grown (S := (fun k_ => P0_ k_)) hg ZK (fun k_ e_ => (Kd.G_own HO_0.out k_ e_))); replace HO_0 := Aside0.mk (hp_); clear hg hw hp_))
          go_ret
          exact ⟨by first | rfl | (simp [errW_none, errW_some] <;> rfl) | (simp only [← hji5]; first | rfl | (simp [errW_none, errW_some] <;> rfl)) | (simp [*, errW_none, errW_some] <;> rfl), (by first | exact (ZG HO_0.out) | (simp only [hl0_3]; exact (ZG HO_0.out))), ZB, ZK⟩
         ·rw [if_neg c50] at H
          have c50b0 : (t155 == 0) = false := beq_eq_false_iff_ne.mpr c50
          have c50b1 : (t155 != 0) = true := bne_iff_ne.mpr c50
          have H' := Aside0.mk H
          clear H
          have p153 : 0 ≤ ((l1.length : Int) : Int) := of_decide_eq_true ZD
          have q153 : (l1.length : Int) < (x0_3.length : Int) := of_decide_eq_true ZD
          obtain ⟨ad153, e153, hx153_0⟩ := Kd.at_int (Kd.G_reads' HO_0.out).2.2 (l1.length : Int) p153 q153
          obtain rfl : ad123 = ad153 := (by injection e153)
          (try simp only [Go.IntWalk.toNatUp] at hx153_0)
          (try simp only [hl0_3] at p153)
          (try simp only [hl0_3] at q153)
          (try simp only [hl0_3] at hx153_0)
          replace p153 := eq_true p153
          replace q153 := eq_true q153
          go_wp2_with (first | ((with_reducible refine gate_callee (f := 76) rfl ?_); refine goesXL_ (some 149) rfl rfl Try.func76 (by kernel_rfl) #[.int .u64 (rd x0_3 (l1.length : Int)), .int .u64 x12_3, .int .u64 x11_3] rfl ZA ?_; (with_reducible refine (bits_Sub64.calls (rd x0_3 (l1.length : Int)) x12_3 x11_3 t154 t155 _ A48.out).mono ?_); rintro e w' ⟨rfl, ⟨nd, rfl⟩⟩; refine ⟨_, rfl, ?_⟩; (try (rw [drewN_self wr]; generalize hq_ : World.drewN wr _ = wr; have n0_ : Aside0 (Kd.G pre_ post_ co_ 49 wr w0.heap.size (fun k_ => (P0_ k_ ∨ w.heap.size ≤ k_)) (.slice (some ad123) x0_3.length co10) x0_3) := ⟨by rw [← hq_]; exact (ZG HO_0.out)⟩; have n1_ : Aside0 (Kept w wr (fun k_ => P0_ k_)) := ⟨by rw [← hq_]; exact ZK⟩; have n2_ : Aside0 (Below w0.heap.size w0 wr) := ⟨by rw [← hq_]; exact ZB⟩; clear HO_0 HK HB hq_; have HO_0 := n0_; have HK := n1_; have HB := n2_; clear n0_ n1_ n2_)); have p49 : 0 ≤ ((l1.length : Int) : Int) := of_decide_eq_true ZD; have q49 : ((l1.length : Int) : Int) < ((x0_3.length : Int) : Int) := of_decide_eq_true ZD; obtain ⟨go49, co49, eo49, gb49, gl49, cl49, HG49⟩ := Kd.G_form HO_0.out (by omega); (first | cases eo49 | (injection eo49 with ea_ en_ ec_; (first | subst ea_ | (injection ea_ with ea_; subst ea_)); subst ec_; clear en_)); have GB49 := Aside0.mk gb49; have GG49 := Aside0.mk HG49; clear gb49 gl49 HG49; have HMgo49 := Aside0.mk (show (P0_ go49 ∨ w.heap.size ≤ go49) from (Kd.G_own HO_0.out _ rfl)); (first | simp only [add_plain] at hx153_0 | skip); obtain ⟨hx49_0, hf49_0⟩ := Kd.G_celln 0 HO_0.out ((l1.length : Int) : Int) p49 q49; (try simp only [Int.toNat_natCast] at hx49_0 hf49_0); (try simp only [Int.toNat_natCast] at hx49_0 hf49_0); replace p49 := eq_true p49; replace q49 := eq_true q49; obtain ⟨hy53_, hz53_⟩ := Kd.G_celln 0 HO_0.out ((l1.length : Int) : Int) (of_decide_eq_true ZD) (of_decide_eq_true ZD); (try simp only [Int.toNat_natCast] at hy53_ hz53_); (try simp only [Int.toNat_natCast] at hy53_ hz53_); (try simp only [Go.IntWalk.toNatUp] at hy53_ hz53_); have HP53 := Kd.G_putg HO_0.out ((l1.length : Int) : Int) t154 (G_lt (by first | exact (of_decide_eq_true ZD) | (simp; done) | omega) (by first | exact (of_decide_eq_true ZD) | (simp; done) | omega))) | ((with_reducible refine gate_store (t := 49) (p := 152) rfl ?_); refine store_event (t := 49) (p := 152) (v := ?vo_w54) (w1 := (wr.setCell ⟨go49, pre_.length + l1.length, none⟩ (.int .u64 t154))) ?hg ?ho ?hn ?hr ?_; (case ho => rfl); (case hg => rfl); (case hn => rfl); (case hr => first | (go_simp; done) | (go_simp; rfl)); intro w54 hw; have hg : wr.grownBy w54 (some go49) := (by rw [hw]; exact HP53.2); have hp_ : Kd.G pre_ post_ co_ 49 w54 w0.heap.size (fun k_ => (P0_ k_ ∨ w.heap.size ≤ k_)) (.slice (some ⟨go49, pre_.length, none⟩) x0_3.length co10) y156 := (by rw [hw, Ny156.out]; exact HP53.1); clear HP53; replace HB := Aside0.mk ((by rw [hw]; exact below_set (HB.out) GB49.out : Below w0.heap.size w0 w54)); replace HK := Aside0.mk (Kept.of_grown (S := (fun k_ => P0_ k_)) hg ZK (fun k_ e_ => (Kd.G_own HO_0.out k_ e_))); replace HO_0 := Aside0.mk (hp_); clear hg hw hp_))
          go_loopg [17, 157] k3 (fun kq v17 v157 w' => ∃ (x0_4 : List Int) (x17_4 : Int) (x157_4 : Int), v17 = .int .u64 x17_4 ∧ v157 = .int .i64 x157_4 ∧ Aside0 (exact_step.l2 kq x0_4 l1 (l1.length : Int) x6_17 x17_4 (l1.length : Int) x157_4 = some (r1, r2)) ∧ Aside0 (kq ≤ k3) ∧ Aside0 (Kd.G pre_ post_ co_ 49 w' w0.heap.size (fun k_ => (P0_ k_ ∨ w.heap.size ≤ k_)) (.slice (some ⟨go49, pre_.length, none⟩) x0_3.length co10) x0_4) ∧ Aside0 (Kept w w' (fun k_ => P0_ k_)) ∧ Aside0 (Below w0.heap.size w0 w'))
          case atStart => exact ⟨(y156), (0), (0), ZS, ZS, H', ⟨Nat.le_refl _⟩, ⟨by (try simp only [hl0_3]); (with_reducible repeat (first | apply Kd.G_alloc | apply Kd.G_drewN | apply Kd.G_drew)); exact HO_0.out⟩, ⟨ZK⟩, ⟨ZB⟩⟩
          case round =>
           clear H'
           try clear c36
           try clear c36b0
           try clear c46
           try clear c46b0
           try clear c46b1
           try clear c47
           try clear c47b0
           try clear c47b1
           try clear p49
           try clear q49
           try clear c50
           try clear c50b0
           try clear c50b1
           try clear hx153_0
           try clear hx49_0
           try clear p153
           try clear q153
           obtain ⟨x0_4, x17_4, x157_4, rfl, rfl, HA, HK4, HO_0, HK, HB⟩ := hrel
           have hl0_4 := (Kd.G_reads' HO_0.out).1
           rw [hl0_4] at HO_0
           (try simp only [hl0_4])
           cases gk with
           | zero => exact absurd HA.out (by simp [exact_step.l2])
           | succ k4 =>
            have H := HA.out
            clear HA
            simp only [exact_step.l2] at H
            by_cases c55 : x157_4 < (l1.length : Int)
            ·rw [if_pos c55] at H
             have c55b0 : decide (x157_4 < (l1.length : Int)) = true := decide_eq_true c55
             (try (have c55b0y := c55b0; simp only [hl0_3, hl0_4] at c55b0y))
             (try (have c55b0y := c55b0; simp only [hl0_3, hl0_4] at c55b0y))
             clear c55
             obtain ⟨c56, H⟩ := ZI H
             have c56b0 : decide (0 ≤ x157_4) = true := decide_eq_true c56
             clear c56
             obtain ⟨c57, H⟩ := ZI H
             have c57b0 : decide (x157_4 < (x0_4.length : Int)) = true := decide_eq_true c57
             (try (have c57b0y := c57b0; simp only [hl0_3, hl0_4] at c57b0y))
             (try (have c57b0y := c57b0; simp only [hl0_3, hl0_4] at c57b0y))
             clear c57
             obtain ⟨c58, H⟩ := ZI H
             have c58b0 : decide (x157_4 < (l1.length : Int)) = true := decide_eq_true c58
             (try (have c58b0y := c58b0; simp only [hl0_3, hl0_4] at c58b0y))
             (try (have c58b0y := c58b0; simp only [hl0_3, hl0_4] at c58b0y))
             clear c58
             obtain ⟨⟨t159, t160⟩, A59, H⟩ := ZO H
             (try dsimp only at H)
             generalize hy161 : (x0_4.set (x157_4 : Int).toNat t159) = y161 at H
             have Ny161 := Aside0.mk hy161.symm
             clear hy161
             have H' := Aside0.mk H
             clear H
             try go_wp2
             replace HO_0 := Aside0.mk (Kd.G_drew HO_0.out)
             replace HK := Aside0.mk (Kept.drew HK.out)
             replace HB := Aside0.mk (below_drew1 HB.out)
             have p157 : 0 ≤ (x157_4 : Int) := of_decide_eq_true ZD
             have q157 : x157_4 < (x0_4.length : Int) := of_decide_eq_true ZD
             obtain ⟨ad157, e157, hx157_0⟩ := Kd.at_int (Kd.G_reads' HO_0.out).2.2 x157_4 p157 q157
             obtain rfl : (⟨go49, pre_.length, none⟩ : Addr) = ad157 := (by injection e157)
             (first | simp only [add_plain] at hx157_0 | simp only [add_at] at hx157_0 | simp only [Addr.add, Nat.zero_add] at hx157_0 | skip)
             replace p157 := eq_true p157
             replace q157 := eq_true q157
             have p158 : 0 ≤ (x157_4 : Int) := of_decide_eq_true ZD
             have q158 : x157_4 < (l1.length : Int) := of_decide_eq_true ZD
             obtain ⟨ad158, e158, hx158_0⟩ := Kd.at_int (Kd.C_kept_now HR1.out HK.out) x157_4 p158 q158
             have hw158_0 := hx158_0
             obtain rfl : ad124 = ad158 := (by injection e158)
             replace p158 := eq_true p158
             replace q158 := eq_true q158
             refine start_ (n := 18) (S := fun w' => w'.cell? ⟨go49, pre_.length + (x157_4).toNat, none⟩ = some (.int .u64 (rd x0_4 x157_4)) ∧ w'.cell? (ad124.add (x157_4).toNat) = some (.int .u64 (rd l1 x157_4))) (ds := [16]) #[false, false, false, false, false, false, false, false, false, false, false, false, false, false, false, false, false, false] (by kernel_rfl) rfl rfl ⟨hx157_0, (Kd.foot_int (HR1.out _ (by repeat (first | exact HK.out | apply Kept.alloc | apply Kept.drewN | apply Kept.drew | refine Kept.setCell ?_ HMgo49.out _))) x157_4 (of_eq_true p158) (of_eq_true q158))⟩ (fun hHeld => ?_); refine with_tabW exact_step.tab30 exact_step.bits30 (fun HT_ HW_ => ?_)
             generalize wr.drew = w61 at HO_0 HK HB hx157_0 hx158_0 hHeld ⊢
             refine ZP 0 161 #[true, false, false, false, false, false, false, false, false, false, false, false, false, false, false, false, false, false] ?_
             refine ZP 1 162 #[true, true, false, false, false, false, false, false, false, false, false, false, false, false, false, false, false, false] ?_
             refine ZP 2 163 #[true, true, true, false, false, false, false, false, false, false, false, false, false, false, false, false, false, false] ?_
             refine ZP 3 164 #[true, true, true, true, false, false, false, false, false, false, false, false, false, false, false, false, false, false] ?_
             refine ZP 4 165 #[true, true, true, true, true, false, false, false, false, false, false, false, false, false, false, false, false, false] ?_
             refine ZP 6 167 #[true, true, true, true, true, false, true, false, false, false, false, false, false, false, false, false, false, false] ?_
             refine ZP 7 168 #[true, true, true, true, true, false, true, true, false, false, false, false, false, false, false, false, false, false] ?_
             refine ZP 8 169 #[true, true, true, true, true, false, true, true, true, false, false, false, false, false, false, false, false, false] ?_
             refine ZP 10 171 #[true, true, true, true, true, false, true, true, true, false, true, false, false, false, false, false, false, false] ?_
             refine take_ (i := 5) (N := some 166) (v := ?_) (a' := ?_) #[true, true, true, true, true, true, true, true, true, false, true, false, false, false, false, false, false, false] rfl rfl (take_ofW HT_.out HW_.out (by kernel_rfl)) (fun _ _ _ h => h) (Or.inl ⟨by rfl, ?_⟩) hHeld ?_ ?_
             rotate_left
             ·rintro w' ⟨s0, s1⟩
              (try simp only [Int.toNat_natCast] at s0 s1)
              (try simp only [Int.toNat_natCast] at s0 s1)
              go_simp
              with_reducible rfl
             rotate_left
             ·simp only [Act.put, List.setIfInBounds_toArray, List.set_cons_zero, List.set_cons_succ, i64_w, i32_w]
              rfl
             refine take_ (i := 9) (N := some 170) (v := ?_) (a' := ?_) #[true, true, true, true, true, true, true, true, true, true, true, false, false, false, false, false, false, false] rfl rfl (take_ofW HT_.out HW_.out (by kernel_rfl)) (fun _ _ _ h => h) (Or.inl ⟨by rfl, ?_⟩) hHeld ?_ ?_
             rotate_left
             ·rintro w' ⟨s0, s1⟩
              (try simp only [Int.toNat_natCast] at s0 s1)
              (try simp only [Int.toNat_natCast] at s0 s1)
              go_simp
              with_reducible rfl
             rotate_left
             ·simp only [Act.put, List.setIfInBounds_toArray, List.set_cons_zero, List.set_cons_succ, i64_w, i32_w]
              rfl
             refine one_ (i := 11) (N := some 172) #[true, true, true, true, true, true, true, true, true, true, true, true, false, false, false, false, false, false] rfl rfl (one_of HT_.out (by kernel_rfl)) (by decide) (fun K hK => ?_)
             refine goesX_ Try.func75 (by kernel_rfl) #[.int .u64 (rd x0_4 x157_4), .int .u64 (rd l1 x157_4), .int .u64 x17_4] (by rfl) rfl rfl ZA ?_
             with_reducible refine (bits_Add64.calls (rd x0_4 x157_4) (rd l1 x157_4) x17_4 t159 t160 _ A59.out).mono ?_
             rintro e w' ⟨rfl, ⟨nd, rfl⟩⟩
             refine ⟨_, rfl, ?_⟩
             have p60 : 0 ≤ (x157_4 : Int) := of_decide_eq_true ZD
             have q60 : (x157_4 : Int) < ((x0_4.length : Int) : Int) := of_decide_eq_true ZD
             obtain ⟨hx60_0, hf60_0⟩ := Kd.G_celln 0 HO_0.out (x157_4 : Int) p60 q60; (try simp only [Int.toNat_natCast] at hx60_0 hf60_0); (try simp only [Int.toNat_natCast] at hx60_0 hf60_0)
             replace p60 := eq_true p60
             replace q60 := eq_true q60
             have HP62 := Kd.G_putn HO_0.out (x157_4 : Int) t159 (G_lt (by first | exact (of_decide_eq_true ZD) | (simp; done) | omega) (by first | exact (of_decide_eq_true ZD) | (simp; done) | omega))
             rw [← Ny161.out] at HP62
             have HQ62 := Aside0.mk HP62
             clear HP62
             refine hK.out _ _ ⟨hHeld.1, (Kd.foot_int (HR1.out _ (by repeat (first | exact HK.out | apply Kept.alloc | apply Kept.drewN | apply Kept.drew | refine Kept.setCell ?_ HMgo49.out _))) x157_4 (of_eq_true p158) (of_eq_true q158))⟩ (fun hHeld => ?_)
             clear hK K
             refine norm_ (a' := ?_) ?_ ?_
             rotate_left
             ·show Act.put _ (some 172) _ = _
              simp only [Act.put, List.setIfInBounds_toArray, List.set_cons_zero, List.set_cons_succ, i64_w, i32_w]
              rfl
             refine ZP 12 160 #[true, true, true, true, true, true, true, true, true, true, true, true, true, false, false, false, false, false] ?_
             refine ZP 13 173 #[true, true, true, true, true, true, true, true, true, true, true, true, true, true, false, false, false, false] ?_
             refine ZP 14 174 #[true, true, true, true, true, true, true, true, true, true, true, true, true, true, true, false, false, false] ?_
             refine ZP 15 175 #[true, true, true, true, true, true, true, true, true, true, true, true, true, true, true, true, false, false] ?_
             refine last_ (i := 16) (N := none) #[true, true, true, true, true, true, true, true, true, true, true, true, true, true, true, true, true, false] rfl rfl (one_of HT_.out (by kernel_rfl)) (by decide) (fun K hK => ?_)
             refine skip_ (w1 := ?_) (by rfl) rfl ?_ ?_
             rotate_left
             ·go_simp
              rfl
             refine hK.out _ _ ?_
             clear hK K
             refine ZP 17 17 #[true, true, true, true, true, true, true, true, true, true, true, true, true, true, true, true, true, true] ?_
             refine done_ (done_of HT_.out (by kernel_rfl)) ?_
             try go_wp2
             (try simp only [← hl0_4])
             go_roundg k4
             case measure => have := HJ7.out; have := HJ17.out; have := HK3.out; have := HK4.out; omega
             case rel => exact ⟨(y161), (t160), (wrap64 (x157_4 + 1)), ZS, ZS, H', ⟨by have := HJ7.out; have := HJ17.out; have := HK3.out; have := HK4.out; omega⟩, ⟨by (try simp only [hl0_3]); (try simp only [hl0_4]); (with_reducible repeat (first | apply Kd.G_alloc | apply Kd.G_drewN | apply Kd.G_drew)); exact HQ62.out⟩, ⟨by repeat (first | (with_reducible first | exact HK.out | apply Kept.alloc | apply Kept.drewN | apply Kept.drew | refine Kept.setCell ?_ HMgo49.out _) | exact HK.out)⟩, ⟨ZBS⟩⟩
            ·rw [if_neg c55] at H
             have c55b0 : decide (x157_4 < (l1.length : Int)) = false := decide_eq_false c55
             (try (have c55b0y := c55b0; simp only [hl0_3, hl0_4] at c55b0y))
             (try (have c55b0y := c55b0; simp only [hl0_3, hl0_4] at c55b0y))
             clear c55
             obtain ⟨c63, H⟩ := ZI H
             have c63b0 : decide (0 ≤ (l1.length : Int)) = true := decide_eq_true c63
             (try (have c63b0y := c63b0; simp only [hl0_3, hl0_4] at c63b0y))
             (try (have c63b0y := c63b0; simp only [hl0_3, hl0_4] at c63b0y))
             have c63b1 : decide (0 ≤ l1.length) = true := decide_eq_true (by omega)
             (try (have c63b1y := c63b1; simp only [hl0_3, hl0_4] at c63b1y))
             (try (have c63b1y := c63b1; simp only [hl0_3, hl0_4] at c63b1y))
             clear c63
             obtain ⟨c64, H⟩ := ZI H
             have c64b0 : decide ((l1.length : Int) < (x0_4.length : Int)) = true := decide_eq_true c64
             (try (have c64b0y := c64b0; simp only [hl0_3, hl0_4] at c64b0y))
             (try (have c64b0y := c64b0; simp only [hl0_3, hl0_4] at c64b0y))
             have c64b1 : decide (l1.length < x0_4.length) = true := decide_eq_true (Int.ofNat_lt.mp c64)
             (try (have c64b1y := c64b1; simp only [hl0_3, hl0_4] at c64b1y))
             (try (have c64b1y := c64b1; simp only [hl0_3, hl0_4] at c64b1y))
             clear c64
             obtain ⟨y163, hy163⟩ : ∃ y_ : List Int, y_ = (x0_4.set ((l1.length : Int) : Int).toNat (IntKind.u64.wrap ((rd x0_4 (l1.length : Int)) + x17_4))) := ⟨_, rfl⟩
             replace H : (some (IntKind.u64.wrap (x6_17 - 1), y163)) = some (r1, r2) := ZH hy163 H
             have Ny163 := Aside0.mk hy163
             clear hy163
             simp only [Option.some.injEq, Prod.mk.injEq] at H
             obtain ⟨rfl, rfl⟩ := H
             have p162 : 0 ≤ ((l1.length : Int) : Int) := of_decide_eq_true ZD
             have q162 : (l1.length : Int) < (x0_4.length : Int) := of_decide_eq_true ZD
             obtain ⟨ad162, e162, hx162_0⟩ := Kd.at_int (Kd.G_reads' HO_0.out).2.2 (l1.length : Int) p162 q162
             obtain rfl : (⟨go49, pre_.length, none⟩ : Addr) = ad162 := (by injection e162)
             (first | simp only [add_plain] at hx162_0 | simp only [add_at] at hx162_0 | simp only [Addr.add, Nat.zero_add] at hx162_0 | skip)
             (try simp only [Go.IntWalk.toNatUp] at hx162_0)
             (try simp only [hl0_3, hl0_4] at p162)
             (try simp only [hl0_3, hl0_4] at q162)
             (try simp only [hl0_3, hl0_4] at hx162_0)
             replace p162 := eq_true p162
             replace q162 := eq_true q162
             have p65 : 0 ≤ ((l1.length : Int) : Int) := of_decide_eq_true ZD
             have q65 : ((l1.length : Int) : Int) < ((x0_4.length : Int) : Int) := of_decide_eq_true ZD
             obtain ⟨hx65_0, hf65_0⟩ := Kd.G_celln 0 HO_0.out ((l1.length : Int) : Int) p65 q65; (try simp only [Int.toNat_natCast] at hx65_0 hf65_0); (try simp only [Int.toNat_natCast] at hx65_0 hf65_0)
             replace p65 := eq_true p65
             replace q65 := eq_true q65
             have HP66 := Kd.G_putg HO_0.out ((l1.length : Int) : Int) (IntKind.u64.wrap ((rd x0_4 (l1.length : Int)) + x17_4)) (G_lt (by first | exact (of_decide_eq_true ZD) | (simp; done) | omega) (by first | exact (of_decide_eq_true ZD) | (simp; done) | omega))
             go_wp2_with (first | ((with_reducible refine gate_store (t := 49) (p := 183) rfl ?_); refine store_event (t := 49) (p := 183) (v := ?vo_w67) (w1 := (wr.setCell ⟨go49, pre_.length + l1.length, none⟩ (.int .u64 (IntKind.u64.wrap ((rd x0_4 (l1.length : Int)) + x17_4))))) ?hg ?ho ?hn ?hr ?_; (case ho => rfl); (case hg => rfl); (case hn => rfl); (case hr => first | (go_simp; done) | (go_simp; rfl)); intro w67 hw; have hg : wr.grownBy w67 (some go49) := (by rw [hw]; exact HP66.2); have hp_ : Kd.G pre_ post_ co_ 49 w67 w0.heap.size (fun k_ => (P0_ k_ ∨ w.heap.size ≤ k_)) (.slice (some ⟨go49, pre_.length, none⟩) x0_4.length co10) y163 := (by rw [hw, Ny163.out]; exact HP66.1); clear HP66; replace HB := Aside0.mk ((by rw [hw]; exact below_set (HB.out) GB49.out : Below w0.heap.size w0 w67)); replace HK := Aside0.mk (Kept.of_grown (S := (fun k_ => P0_ k_)) hg ZK (fun k_ e_ => (Kd.G_own HO_0.out k_ e_))); replace HO_0 := Aside0.mk (hp_); clear hg hw hp_))
             go_ret
             exact ⟨by first | rfl | (simp [errW_none, errW_some] <;> rfl) | (simp only [← hji5]; first | rfl | (simp [errW_none, errW_some] <;> rfl)) | (simp [*, errW_none, errW_some] <;> rfl), (by first | exact (ZG HO_0.out) | (simp only [hl0_3, hl0_4]; exact (ZG HO_0.out))), ZB, ZK⟩
 ·rw [if_neg c3] at H
  exact absurd H (by simp)
def exact_stepAt.f (k : Nat) (l0 : List Int) (l1 : List Int) (a2 : Int) (a3 : Int) : Option (Int × List Int) := (exact_step.f k ((l0.take a3.toNat).drop a2.toNat) l1).bind fun bt => (some (bt.1, l0.take a2.toNat ++ bt.2 ++ l0.drop a3.toNat))
theorem exact_stepAt.mono : ∀ a0 a1 a2 a3 k, LeO (exact_stepAt.f k a0 a1 a2 a3) (exact_stepAt.f (k + 1) a0 a1 a2 a3) := fun a0 a1 a2 a3 k => LeO.bind (exact_step.mono _ _ _) (fun _ => LeO.refl _)
theorem exact_stepAt.calls (k : Nat) (P0_ : Nat → Prop) (u9000_ : Value) (l0 : List Int) (A1 : Option Addr) (c1 : Nat) (l1 : List Int) (a2 a3 : Int) (r1 : Int) (r2 : List Int) (w0 w : World) (hB : Below w0.heap.size w0 w) (ho0 : Kd.R (Kd.int .u64) 49 w w0.heap.size P0_ u9000_ l0) (hr1 : ∀ W_, Kept w W_ (fun k_ => P0_ k_) → Kd.C (Kd.int .u64) W_ A1 l1.length l1) (hc1 : l1.length ≤ c1) {A2 : Option Addr} {n2 c2 : Nat} (hcut : CutIs u9000_ l0 a2.toNat a3.toNat A2 n2 c2) (h : exact_stepAt.f k l0 l1 a2 a3 = some (r1, r2)) :
  Calls Try.prog 82 #[.slice A2 n2 c2, .slice A1 l1.length c1] w fun e w' => e = .returned (.int .u64 r1) ∧ Kd.R (Kd.int .u64) 49 w' w0.heap.size (fun k_ => (P0_ k_ ∨ w.heap.size ≤ k_)) u9000_ r2 ∧ Below w0.heap.size w0 w' ∧ Kept w w' (fun k_ => P0_ k_) := by
 unfold exact_stepAt.f at h
 obtain ⟨⟨q, m⟩, hs, he⟩ := Option.bind_eq_some_iff.mp h
 simp only [Option.some.injEq, Prod.mk.injEq] at he
 obtain ⟨rfl, rfl⟩ := he
 have hlt : a2.toNat < a3.toNat := by
  rcases Nat.lt_or_ge a2.toNat a3.toNat with hl | hl
  ·exact hl
  ·have hm : (l0.take a3.toNat).drop a2.toNat = [] := List.drop_eq_nil_of_le (by simp; omega)
   rw [hm] at hs
   unfold exact_step.f at hs
   rw [if_pos (by omega), if_neg (by simp)] at hs
   exact absurd hs (by simp)
 have hne : 0 < l0.length := by obtain ⟨_, _, _, _, _, _, _, h5⟩ := hcut; omega
 obtain ⟨g, cap, hu, _⟩ := Kd.R_form ho0 hne
 have hco := (Kd.R_reads' (hu ▸ ho0)).2.1
 have hG := (Kd.G_of_cut hcut hlt ⟨_, hu⟩ ho0).1
 refine (exact_step.seg (l0.take a2.toNat) (l0.drop a3.toNat) cap k P0_ (.slice A2 n2 c2) _ A1 c1 l1 q m w0 w hB hG hr1 hc1 hs).mono ?_
 rintro e w' ⟨rfl, hG', hB', hK⟩
 exact ⟨rfl, (Kd.R_of_G hcut hlt ⟨g, hu, hco⟩ hG').1, hB', hK⟩
end Go.Proofs.Ytohkmnbnjacfaaa.All
namespace Go.Proofs.Ytohkmnbnjacfaaa.All
open Go.Proofs.YtohkmnbnjacfaaaX
open Go.RowKit Go.Proofs.YtohkmnbnjacfaaaW.PrintWords Go.Proofs.YtohkmnbnjacfaaaW.PrintLast Go.Proofs.YtohkmnbnjacfaaaW.PrintMore
attribute [local go_sem] max2_int min2_int max_two min_two max_three min_three max_four min_four
set_option linter.unusedVariables false
set_option linter.unusedSimpArgs false
mutual
def exact_divide.l0 : Nat → List Int → List Int → List Int → Int → Int → Option (List Int × List Int)
 | 0, _, _, _, _, _ => none
 | k + 1, x0, x1, x6, x7, x8 => if x8 ≥ 0 then (if 0 ≤ x8 then (if x8 < (x0.length : Int) then (if 0 < (x1.length : Int) then ((bits_Div64.f k x7 (rd x0 x8) (rd x1 0)).bind fun bt170 => (if x8 < (x6.length : Int) then (exact_divide.l0 k x0 x1 (x6.set (x8 : Int).toNat bt170.1) bt170.2 (wrap64 (x8 - 1))) else (none))) else (none)) else (none)) else (none)) else ((exact_trim.f k x6).bind fun t173 => ((exact_trim.f k (([x7] : List Int))).bind fun t179 => (some (t173, t179))))
def exact_divide.l1 : Nat → Int → List Int → List Int → Int → List Int → Int → Option (List Int × List Int)
 | 0, _, _, _, _, _, _ => none
 | k + 1, x9, x10, x11, x12, x13, x14 => if x14 ≥ 0 then (if 0 ≤ x14 then (if x14 ≤ (wrap64 ((wrap64 (x14 + x12)) + 1)) then (if (wrap64 ((wrap64 (x14 + x12)) + 1)) ≤ (x11.length : Int) then ((exact_stepAt.f k x11 x10 x14 (wrap64 ((wrap64 (x14 + x12)) + 1))).bind fun bt200 => (if x14 < (x13.length : Int) then (exact_divide.l1 k x9 x10 bt200.2 x12 (x13.set (x14 : Int).toNat bt200.1) (wrap64 (x14 - 1))) else (none))) else (none)) else (none)) else (none)) else (exact_divide.l2 k x9 x11 x12 x13 x12 0)
def exact_divide.l2 : Nat → Int → List Int → Int → List Int → Int → Int → Option (List Int × List Int)
 | 0, _, _, _, _, _, _ => none
 | k + 1, x9, x11, x12, x13, x96, x97 => if x97 < x96 then (if 0 ≤ x97 then (if x97 < (x11.length : Int) then (if 0 ≤ x9 then ((some (x11.set (x97 : Int).toNat (shr .u64 (rd x11 x97) x9) : List Int)).bind fun y204 => (if x9 > 0 then (if (wrap64 (x97 + 1)) < (x11.length : Int) then (if 0 ≤ (wrap64 (x97 + 1)) then (if 0 ≤ (wrap64 (64 - x9)) then (exact_divide.l2 k x9 (y204.set (x97 : Int).toNat (Go.bits .or .u64 (rd y204 x97) (shl .u64 (rd y204 (wrap64 (x97 + 1))) (wrap64 (64 - x9))))) x12 x13 x96 (wrap64 (x97 + 1))) else (none)) else (none)) else (exact_divide.l2 k x9 y204 x12 x13 x96 (wrap64 (x97 + 1)))) else (exact_divide.l2 k x9 y204 x12 x13 x96 (wrap64 (x97 + 1))))) else (none)) else (none)) else (none)) else ((exact_trim.f k x13).bind fun t208 => (if 0 ≤ x12 then (if x12 ≤ (x11.length : Int) then ((exact_trim.f k (x11.take (x12 : Int).toNat)).bind fun t214 => (some (t208, t214))) else (none)) else (none)))
end
def exact_divide.f (k : Nat) (l0 : List Int) (l1 : List Int) : Option (List Int × List Int) := (exact_compareWords.f k l0 l1).bind fun t164 => (if t164 < 0 then (some (([] : List Int), l0)) else (if (l1.length : Int) = 1 then (if 0 ≤ (l0.length : Int) then (if ((l0.length : Int) : Int).toNat ≤ 35184372088832 then (exact_divide.l0 k l0 l1 (List.replicate ((l0.length : Int) : Int).toNat 0) 0 (wrap64 ((l0.length : Int) - 1))) else (none)) else (none)) else (if 0 ≤ (wrap64 ((l1.length : Int) - 1)) then (if (wrap64 ((l1.length : Int) - 1)) < (l1.length : Int) then ((bits_LeadingZeros64.f (rd l1 (wrap64 ((l1.length : Int) - 1)))).bind fun t183 => ((exact_shiftUp.f k l1 t183).bind fun t184 => ((exact_trim.f k t184).bind fun t187 => ((exact_shiftUp.f k l0 t183).bind fun t190 => (if 0 ≤ (wrap64 ((wrap64 ((l0.length : Int) - (t187.length : Int))) + 1)) then (if (wrap64 ((wrap64 ((l0.length : Int) - (t187.length : Int))) + 1) : Int).toNat ≤ 35184372088832 then (exact_divide.l1 k t183 t187 t190 (t187.length : Int) (List.replicate (wrap64 ((wrap64 ((l0.length : Int) - (t187.length : Int))) + 1) : Int).toNat 0) (wrap64 ((l0.length : Int) - (t187.length : Int)))) else (none)) else (none)))))) else (none)) else (none))))
theorem exact_divide.U1 {g : Prop} (h : g := by
 repeat' first
 | (with_reducible exact ih0 _ _ _ _ _)
 | (with_reducible exact ih1 _ _ _ _ _ _)
 | (with_reducible exact ih2 _ _ _ _ _ _)
 | (with_reducible exact bits_Div64.mono _ _ _ _)
 | (with_reducible exact exact_compareWords.mono _ _ _)
 | (with_reducible exact exact_shiftUp.mono _ _ _)
 | (with_reducible exact exact_step.mono _ _ _)
 | (with_reducible exact exact_stepAt.mono _ _ _ _ _)
 | (with_reducible exact exact_trim.mono _ _)
 | (with_reducible exact LeO.refl _)
 | (with_reducible exact LeO.none _)
 | (with_reducible refine LeO.ite ?_ ?_)
 | (with_reducible refine LeO.bind ?_ (fun _ => ?_))) : g := h
theorem exact_divide.mono_l : ∀ k, (∀ y0 y1 y2 y3 y4, LeO (exact_divide.l0 k y0 y1 y2 y3 y4) (exact_divide.l0 (k + 1) y0 y1 y2 y3 y4)) ∧ (∀ y0 y1 y2 y3 y4 y5, LeO (exact_divide.l1 k y0 y1 y2 y3 y4 y5) (exact_divide.l1 (k + 1) y0 y1 y2 y3 y4 y5)) ∧ (∀ y0 y1 y2 y3 y4 y5, LeO (exact_divide.l2 k y0 y1 y2 y3 y4 y5) (exact_divide.l2 (k + 1) y0 y1 y2 y3 y4 y5))
 | 0 => ⟨fun _ _ _ _ _ r h => by simp [exact_divide.l0] at h, fun _ _ _ _ _ _ r h => by simp [exact_divide.l1] at h, fun _ _ _ _ _ _ r h => by simp [exact_divide.l2] at h⟩
 | k + 1 => by
  obtain ⟨ih0, ih1, ih2⟩ := exact_divide.mono_l k
  refine ⟨?_, ?_, ?_⟩
  ·intro y0 y1 y2 y3 y4
   unfold exact_divide.l0
   exact exact_divide.U1
  ·intro y0 y1 y2 y3 y4 y5
   unfold exact_divide.l1
   exact exact_divide.U1
  ·intro y0 y1 y2 y3 y4 y5
   unfold exact_divide.l2
   exact exact_divide.U1
theorem exact_divide.mono : ∀ a0 a1 k, LeO (exact_divide.f k a0 a1) (exact_divide.f (k + 1) a0 a1) := by
 intro a0 a1 k
 obtain ⟨ih0, ih1, ih2⟩ := exact_divide.mono_l k
 unfold exact_divide.f
 exact exact_divide.U1
def exact_divide.T9 : Bool × List (List Nat × List Nat) := (true, [([], []), ([], []), ([], []), ([], []), ([], []), ([3, 4], [3, 4]), ([5], [5]), ([], []), ([7], [7]), ([8], [8]), ([2, 6, 9], [2, 6, 9]), ([10], [10]), ([11], [11]), ([11], [11]), ([0, 1, 0, 1, 2, 3, 4, 5, 6, 7, 8, 9, 10, 11, 12], [0, 1]), ([14, 12, 10, 0, 1, 2, 3, 4, 5, 6, 7, 8, 9, 10, 11, 12], [12, 14]), ([13, 15, 0, 1, 2, 3, 4, 5, 6, 7, 8, 9, 10, 11, 12, 13, 14, 15], [2, 13])])
def exact_divide.B9 : List Nat := [0, 0, 0, 0, 0, 24, 56, 0, 128, 384, 1020, 2044, 4092, 4092, 8191, 24575, 65535]
theorem exact_divide.tab9 : rtab .any (opsOf Try.f69 9) = exact_divide.T9 := by kernel_rfl
theorem exact_divide.bits9 : waitsOk exact_divide.T9.2 exact_divide.B9 = true := by kernel_rfl
def exact_divide.T25 : Bool × List (List Nat × List Nat) := (true, [([], []), ([], []), ([0, 1], [0, 1]), ([2], [2]), ([], []), ([], []), ([5], [5]), ([4, 6], [4, 6]), ([7], [7]), ([], []), ([9], [9]), ([8, 10], [8, 10]), ([3, 11], [3, 11]), ([0, 1, 0, 1, 2, 3, 4, 5, 6, 7, 8, 9, 10, 11, 12], [0, 1]), ([13, 12, 0, 1, 2, 3, 4, 5, 6, 7, 8, 9, 10, 11, 12], [12, 13])])
def exact_divide.B25 : List Nat := [0, 0, 3, 7, 0, 0, 32, 112, 240, 0, 512, 2032, 4095, 8191, 16383]
theorem exact_divide.tab25 : rtab .any (opsOf Try.f69 25) = exact_divide.T25 := by kernel_rfl
theorem exact_divide.bits25 : waitsOk exact_divide.T25.2 exact_divide.B25 = true := by kernel_rfl
def exact_divide.T27 : Bool × List (List Nat × List Nat) := (true, [([], []), ([0], [0]), ([], []), ([], []), ([2, 3], [2, 3]), ([4, 1], [4]), ([1, 5, 0, 1], [1]), ([5, 6, 0, 1, 2, 3, 4, 5, 6], [5])])
def exact_divide.B27 : List Nat := [0, 1, 0, 0, 12, 31, 63, 127]
theorem exact_divide.tab27 : rtab .any (opsOf Try.f69 27) = exact_divide.T27 := by kernel_rfl
theorem exact_divide.bits27 : waitsOk exact_divide.T27.2 exact_divide.B27 = true := by kernel_rfl
set_option maxHeartbeats 8000000 in
set_option maxRecDepth 100000 in
theorem exact_divide.calls (k : Nat) (P0_ : Nat → Prop) (u9000_ : Value) (l0 : List Int) (A1 : Option Addr) (c1 : Nat) (l1 : List Int) (r1 : List Int) (r2 : List Int) (w0 w : World) (hB : Below w0.heap.size w0 w) (ho0 : Kd.R (Kd.int .u64) 49 w w0.heap.size P0_ u9000_ l0) (hr1 : ∀ W_, Kept w W_ (fun k_ => P0_ k_) → Kd.C (Kd.int .u64) W_ A1 l1.length l1) (hc1 : l1.length ≤ c1) (h : exact_divide.f k l0 l1 = some (r1, r2)) :
  Calls Try.prog 69 #[u9000_, .slice A1 l1.length c1] w fun e w' => ∃ v0_ v1_ : Value, e = .returned (.tuple #[v0_, v1_]) ∧ Kd.R (Kd.int .u64) 49 w' w0.heap.size (fun k_ => (P0_ k_ ∨ w.heap.size ≤ k_) ∧ some k_ ≠ (v1_ : Value).ownBlock) v0_ r1 ∧ Kd.R (Kd.int .u64) 49 w' w0.heap.size (fun k_ => (P0_ k_ ∨ w.heap.size ≤ k_) ∧ some k_ ≠ (v0_ : Value).ownBlock) v1_ r2 ∧ Below w0.heap.size w0 w' ∧ Kept w w' (fun k_ => P0_ k_) := by
 have HO0 := Aside0.mk (show Kd.R (Kd.int .u64) 49 w w0.heap.size (fun k_ => (P0_ k_ ∨ w.heap.size ≤ k_)) u9000_ l0 from Kd.R_mono ho0 (fun k_ hk => (.inl hk)))
 have HR1 := Aside0.mk hr1
 have HC1 := Aside0.mk hc1
 clear hr1 hc1
 have HK := Aside0.mk (Kept.refl w (fun k_ => P0_ k_))
 have HW0 := Aside0.mk hB.size
 have HB := Aside0.mk hB
 clear hB
 have H := h
 unfold exact_divide.f at H
 clear h
 obtain ⟨t164, A3, H⟩ := ZO H
 by_cases c4 : t164 < 0
 ·rw [if_pos c4] at H
  have c4b0 : decide (t164 < 0) = true := decide_eq_true c4
  clear c4
  simp only [Option.some.injEq, Prod.mk.injEq] at H
  obtain ⟨rfl, rfl⟩ := H
  obtain ⟨Ao5, co5, eo5⟩ := Kd.R_slice HO0.out
  subst eo5
  go_enter Try.func69, Try.ntmps69
  go_wp2_with (first | ((with_reducible refine gate_callee (f := 77) rfl ?_); refine goesL_ (some 18) rfl rfl Try.func77 (by kernel_rfl) rfl #[.slice Ao5 l0.length co5, .slice A1 l1.length c1] rfl ZA ?_; (with_reducible refine (exact_compareWords.calls k _ _ l0 _ _ l1 t164 _ ?side1 ?side2 ?side3 ?side4 A3.out).mono ?_); (case side1 => exact ZC (Kd.R_reads' HO0.out).2.2); (case side2 => exact (Kd.R_reads' HO0.out).2.1); (case side3 => exact Kd.C_kept_now HR1.out ZK); (case side4 => exact HC1.out); rintro e w' ⟨rfl, ⟨nd, rfl⟩⟩; refine ⟨_, rfl, ?_⟩))
  go_ret2
  exact ⟨_, _, ZE, by first | exact Kd.R_nil _ _ _ _ _ | exact Kd.N_nil _ _ _ _ _ | exact Kd.V_nil _ _ _ _ _ | exact Kd.Q_nil _ _ _ _ _ | exact Kd.S_nil _ _ _ _ _, by (with_reducible repeat (first | apply Kd.R_alloc | apply Kd.R_drewN | apply Kd.R_drew)); exact Kd.R_mono HO0.out (fun _ hk => ⟨hk, (by simp [Value.ownBlock])⟩), ZB, ZK⟩
 ·rw [if_neg c4] at H
  have c4b0 : decide (t164 < 0) = false := decide_eq_false c4
  clear c4
  by_cases c6 : (l1.length : Int) = 1
  ·rw [if_pos c6] at H
   have c6b0 : ((l1.length : Int) == 1) = true := beq_iff_eq.mpr c6
   have c6b1 : ((l1.length : Int) != 1) = false := bne_eq_false_iff_eq.mpr c6
   clear c6
   obtain ⟨c7, H⟩ := ZI H
   have c7b0 := eq_true c7
   have c7b1 : decide (0 ≤ (l0.length : Int)) = true := decide_eq_true c7
   clear c7
   obtain ⟨c8, H⟩ := ZI H
   have c8b0 := eq_true c8
   have c8b1 : decide (((l0.length : Int) : Int).toNat ≤ 35184372088832) = true := decide_eq_true c8
   clear c8
   obtain ⟨y165, hy165⟩ : ∃ y_ : List Int, y_ = (List.replicate ((l0.length : Int) : Int).toNat 0) := ⟨_, rfl⟩
   replace H : (exact_divide.l0 k l0 l1 y165 0 (wrap64 ((l0.length : Int) - 1))) = some (r1, r2) := ZH hy165 H
   have Ny165 := Aside0.mk hy165
   clear hy165
   have H' := Aside0.mk H
   clear H
   obtain ⟨Ao9, co9, eo9⟩ := Kd.R_slice HO0.out
   subst eo9
   go_enter Try.func69, Try.ntmps69
   go_wp2_with (first | ((with_reducible refine gate_callee (f := 77) rfl ?_); refine goesL_ (some 18) rfl rfl Try.func77 (by kernel_rfl) rfl #[.slice Ao9 l0.length co9, .slice A1 l1.length c1] rfl ZA ?_; (with_reducible refine (exact_compareWords.calls k _ _ l0 _ _ l1 t164 _ ?side1 ?side2 ?side3 ?side4 A3.out).mono ?_); (case side1 => exact ZC (Kd.R_reads' HO0.out).2.2); (case side2 => exact (Kd.R_reads' HO0.out).2.1); (case side3 => exact Kd.C_kept_now HR1.out ZK); (case side4 => exact HC1.out); rintro e w' ⟨rfl, ⟨nd, rfl⟩⟩; refine ⟨_, rfl, ?_⟩) | ((with_reducible refine gate_dst (N := 26) rfl ?_); (try (refine gate_guard (by rfl) ?_; dsimp only)); refine Kd.R_make (Kd.int .u64) _ 49 rfl (N := 26) rfl 68 _ _ rfl (l0.length : Int) rfl rfl Try.underlying68 (.int .u64 0) 8 info49 rfl (by decide) (by omega) 0 (ok := fun _ => True) (okp := fun _ => True) rfl (fun _ hk => hk) trivial (of_decide_eq_true ZD) (Nat.le_trans (Nat.mul_le_mul_right _ (of_decide_eq_true ZD : (l0.length : Int).toNat ≤ 35184372088832)) (by omega)) (Below.refl _ _) (Nat.le_refl _) ?_; intro v166 w10 ho11 hb hg_ hnew_; clear hg_ hnew_; (first | rw [← Ny165.out] at ho11 | (simp only [Int.reduceToNat] at ho11; rw [← Ny165.out] at ho11)); have HO167 := Aside0.mk (Kd.R_lower (Kd.R_new' (Kd.R_newM (M := fun k_ => (P0_ k_ ∨ w.heap.size ≤ k_)) ho11 (by first | exact HK.out.1 | exact (show Kept w _ (fun k_ => P0_ k_) from ZK).1) (fun k_ h_ => .inr h_)) (Kd.R_lt (ZR HO0.out))) (below_size ZB)); replace HO0 := Aside0.mk (Kd.R_elder' (ZR HO0.out) (Kd.R_base ho11) hb); replace HK := Aside0.mk (Kept.below (S := (fun k_ => P0_ k_)) ZK hb); replace HB := Aside0.mk (below_step ZB hb); clear hb ho11))
   go_loopg [7, 8] k (fun kq v7 v8 w' => ∃ (x6_1 : List Int) (x7_1 : Int) (x8_1 : Int), v7 = .int .u64 x7_1 ∧ v8 = .int .i64 x8_1 ∧ Aside0 (exact_divide.l0 kq l0 l1 x6_1 x7_1 x8_1 = some (r1, r2)) ∧ Aside0 (kq ≤ k) ∧ Aside0 (Kd.R (Kd.int .u64) 49 w' w0.heap.size (fun k_ => (P0_ k_ ∨ w.heap.size ≤ k_) ∧ some k_ ≠ (v166 : Value).ownBlock) (.slice Ao9 l0.length co9) l0) ∧ Aside0 (Kd.R (Kd.int .u64) 49 w' w0.heap.size (fun k_ => (P0_ k_ ∨ w.heap.size ≤ k_) ∧ some k_ ≠ ((.slice Ao9 l0.length co9) : Value).ownBlock) v166 x6_1) ∧ Aside0 (Kept w w' (fun k_ => P0_ k_)) ∧ Aside0 (Below w0.heap.size w0 w'))
   case atStart => exact ⟨(y165), (0), (wrap64 ((l0.length : Int) - 1)), ZS, ZS, H', ⟨Nat.le_refl _⟩, ⟨by (with_reducible repeat (first | apply Kd.R_alloc | apply Kd.R_drewN | apply Kd.R_drew)); exact HO0.out⟩, ⟨by (with_reducible repeat (first | apply Kd.R_alloc | apply Kd.R_drewN | apply Kd.R_drew)); exact Kd.R_mono HO167.out (fun _ hk => ⟨hk.1.1, hk.2⟩)⟩, ⟨ZK⟩, ⟨ZB⟩⟩
   case round =>
    clear H'
    try clear c1
    try clear c4
    try clear c4b0
    try clear c6
    try clear c6b0
    try clear c6b1
    try clear c7
    try clear c7b0
    try clear c7b1
    try clear c8
    try clear c8b0
    try clear c8b1
    obtain ⟨x6_1, x7_1, x8_1, rfl, rfl, HA, HK1, HO_0, HO_6, HK, HB⟩ := hrel
    cases gk with
    | zero => exact absurd HA.out (by simp [exact_divide.l0])
    | succ k1 =>
     have H := HA.out
     clear HA
     simp only [exact_divide.l0] at H
     by_cases c12 : x8_1 ≥ 0
     ·rw [if_pos c12] at H
      have c12b0 : decide (0 ≤ x8_1) = true := decide_eq_true c12
      clear c12
      obtain ⟨c13, H⟩ := ZI H
      have c13b0 : decide (0 ≤ x8_1) = true := decide_eq_true c13
      clear c13
      obtain ⟨c14, H⟩ := ZI H
      have c14b0 : decide (x8_1 < (l0.length : Int)) = true := decide_eq_true c14
      clear c14
      obtain ⟨c15, H⟩ := ZI H
      have c15b0 : decide (0 < (l1.length : Int)) = true := decide_eq_true c15
      have c15b1 : decide (0 < l1.length) = true := decide_eq_true (by omega)
      clear c15
      obtain ⟨⟨t170, t171⟩, A16, H⟩ := ZO H
      (try dsimp only at H)
      obtain ⟨c17, H⟩ := ZI H
      have c17b0 : decide (x8_1 < (x6_1.length : Int)) = true := decide_eq_true c17
      clear c17
      obtain ⟨y172, hy172⟩ : ∃ y_ : List Int, y_ = (x6_1.set (x8_1 : Int).toNat t170) := ⟨_, rfl⟩
      replace H : (exact_divide.l0 k1 l0 l1 y172 t171 (wrap64 (x8_1 - 1))) = some (r1, r2) := ZH hy172 H
      have Ny172 := Aside0.mk hy172
      clear hy172
      have H' := Aside0.mk H
      clear H
      try go_wp2
      replace HO_0 := Aside0.mk (Kd.R_drew HO_0.out)
      replace HO_6 := Aside0.mk (Kd.R_drew HO_6.out)
      replace HK := Aside0.mk (Kept.drew HK.out)
      replace HB := Aside0.mk (below_drew1 HB.out)
      have p168 : 0 ≤ (x8_1 : Int) := of_decide_eq_true ZD
      have q168 : x8_1 < (l0.length : Int) := of_decide_eq_true ZD
      obtain ⟨ad168, e168, hx168_0⟩ := Kd.at_int (Kd.R_reads' HO_0.out).2.2 x8_1 p168 q168
      cases e168
      replace p168 := eq_true p168
      replace q168 := eq_true q168
      have p169 : 0 ≤ (0 : Int) := (by omega)
      have q169 : 0 < (l1.length : Int) := of_decide_eq_true ZD
      obtain ⟨ad169, e169, hx169_0⟩ := Kd.at_int (Kd.C_kept_now HR1.out HK.out) 0 p169 q169
      have hw169_0 := hx169_0
      (try rw [show ((0 : Int)).toNat = 0 from rfl] at hw169_0)
      (try rw [show 0 * 1 = 0 from rfl] at hw169_0)
      (try rw [Addr.add_zero'] at hw169_0)
      cases e169
      have qi169 : (0 < l1.length) = True := eq_true (by omega)
      (try rw [show ((0 : Int)).toNat = 0 from rfl] at hx169_0)
      (try rw [Addr.add_zero'] at hx169_0)
      replace p169 := eq_true p169
      replace q169 := eq_true q169
      refine start_ (n := 17) (S := fun w' => w'.cell? (ad168.add (x8_1).toNat) = some (.int .u64 (rd l0 x8_1)) ∧ w'.cell? ad169 = some (.int .u64 (rd l1 0))) (ds := [15]) #[false, false, false, false, false, false, false, false, false, false, false, false, false, false, false, false, false] (by kernel_rfl) rfl rfl ⟨hx168_0, (by have h_ := Kd.foot_int (HR1.out _ (by repeat (first | exact HK.out | apply Kept.alloc | apply Kept.drewN | apply Kept.drew | refine Kept.setCell ?_ HMgo18.out _))) (0 : Int) (of_eq_true p169) (of_eq_true q169); rw [show ((0 : Int)).toNat = 0 from rfl, Addr.add_zero'] at h_; exact h_)⟩ (fun hHeld => ?_); refine with_tabW exact_divide.tab9 exact_divide.bits9 (fun HT_ HW_ => ?_)
      generalize wr.drew = w19 at HO_0 HO_6 HK HB hx168_0 hx169_0 hHeld ⊢
      refine ZP 0 35 #[true, false, false, false, false, false, false, false, false, false, false, false, false, false, false, false, false] ?_
      refine ZP 1 36 #[true, true, false, false, false, false, false, false, false, false, false, false, false, false, false, false, false] ?_
      refine ZP 2 37 #[true, true, true, false, false, false, false, false, false, false, false, false, false, false, false, false, false] ?_
      refine ZP 3 38 #[true, true, true, true, false, false, false, false, false, false, false, false, false, false, false, false, false] ?_
      refine ZP 4 39 #[true, true, true, true, true, false, false, false, false, false, false, false, false, false, false, false, false] ?_
      refine ZP 5 40 #[true, true, true, true, true, true, false, false, false, false, false, false, false, false, false, false, false] ?_
      refine ZP 7 42 #[true, true, true, true, true, true, false, true, false, false, false, false, false, false, false, false, false] ?_
      refine ZP 8 43 #[true, true, true, true, true, true, false, true, true, false, false, false, false, false, false, false, false] ?_
      refine take_ (i := 6) (N := some 41) (v := ?_) (a' := ?_) #[true, true, true, true, true, true, true, true, true, false, false, false, false, false, false, false, false] rfl rfl (take_ofW HT_.out HW_.out (by kernel_rfl)) (fun _ _ _ h => h) (Or.inl ⟨by rfl, ?_⟩) hHeld ?_ ?_
      rotate_left
      ·rintro w' ⟨s0, s1⟩
       (try simp only [Int.toNat_natCast] at s0 s1)
       go_simp
       with_reducible rfl
      rotate_left
      ·simp only [Act.put, List.setIfInBounds_toArray, List.set_cons_zero, List.set_cons_succ, i64_w, i32_w]
       rfl
      refine take_ (i := 9) (N := some 44) (v := ?_) (a' := ?_) #[true, true, true, true, true, true, true, true, true, true, false, false, false, false, false, false, false] rfl rfl (take_ofW HT_.out HW_.out (by kernel_rfl)) (fun _ _ _ h => h) (Or.inl ⟨by rfl, ?_⟩) hHeld ?_ ?_
      rotate_left
      ·rintro w' ⟨s0, s1⟩
       (try simp only [Int.toNat_natCast] at s0 s1)
       go_simp
       with_reducible rfl
      rotate_left
      ·simp only [Act.put, List.setIfInBounds_toArray, List.set_cons_zero, List.set_cons_succ, i64_w, i32_w]
       rfl
      refine one_ (i := 10) (N := some 45) #[true, true, true, true, true, true, true, true, true, true, true, false, false, false, false, false, false] rfl rfl (one_of HT_.out (by kernel_rfl)) (by decide) (fun K hK => ?_)
      refine goes_ Try.func78 (by kernel_rfl) rfl #[.int .u64 x7_1, .int .u64 (rd l0 x8_1), .int .u64 (rd l1 0)] (by rfl) rfl rfl ZA ?_
      with_reducible refine (bits_Div64.calls k1 x7_1 (rd l0 x8_1) (rd l1 0) t170 t171 _ A16.out).mono ?_
      rintro e w' ⟨rfl, ⟨nd, rfl⟩⟩
      refine ⟨_, rfl, ?_⟩
      have p18 : 0 ≤ (x8_1 : Int) := of_decide_eq_true ZD
      have q18 : (x8_1 : Int) < ((x6_1.length : Int) : Int) := of_decide_eq_true ZD
      obtain ⟨go18, co18, eo18, gb18, gl18, cl18, HG18⟩ := Kd.R_form HO_6.out (by omega)
      (first | cases eo18 | (injection eo18 with ea_ en_ ec_; (first | subst ea_ | (injection ea_ with ea_; subst ea_)); subst ec_; clear en_))
      have GB18 := Aside0.mk gb18
      have GG18 := Aside0.mk HG18
      clear gb18 gl18 HG18
      have HMgo18 := Aside0.mk (show (P0_ go18 ∨ w.heap.size ≤ go18) from (HO_6.out.1 _ rfl).1)
      obtain ⟨hx18_0, hf18_0⟩ := Kd.R_celln 0 HO_6.out (x8_1 : Int) p18 q18; (try simp only [Int.toNat_natCast] at hx18_0 hf18_0)
      replace p18 := eq_true p18
      replace q18 := eq_true q18
      have HP20 := Kd.R_putn HO_6.out (x8_1 : Int) t170
      rw [← Ny172.out] at HP20
      have HQ20 := Aside0.mk HP20
      clear HP20
      refine hK.out _ _ ⟨hHeld.1, (by have h_ := Kd.foot_int (HR1.out _ (by repeat (first | exact HK.out | apply Kept.alloc | apply Kept.drewN | apply Kept.drew | refine Kept.setCell ?_ HMgo18.out _))) (0 : Int) (of_eq_true p169) (of_eq_true q169); rw [show ((0 : Int)).toNat = 0 from rfl, Addr.add_zero'] at h_; exact h_)⟩ (fun hHeld => ?_)
      clear hK K
      refine norm_ (a' := ?_) ?_ ?_
      rotate_left
      ·show Act.put _ (some 45) _ = _
       simp only [Act.put, List.setIfInBounds_toArray, List.set_cons_zero, List.set_cons_succ, i64_w, i32_w]
       rfl
      refine ZP 11 34 #[true, true, true, true, true, true, true, true, true, true, true, true, false, false, false, false, false] ?_
      refine ZP 12 46 #[true, true, true, true, true, true, true, true, true, true, true, true, true, false, false, false, false] ?_
      refine ZP 13 47 #[true, true, true, true, true, true, true, true, true, true, true, true, true, true, false, false, false] ?_
      refine ZP 14 48 #[true, true, true, true, true, true, true, true, true, true, true, true, true, true, true, false, false] ?_
      refine last_ (i := 15) (N := none) #[true, true, true, true, true, true, true, true, true, true, true, true, true, true, true, true, false] rfl rfl (one_of HT_.out (by kernel_rfl)) (by decide) (fun K hK => ?_)
      refine skip_ (w1 := ?_) (by rfl) rfl ?_ ?_
      rotate_left
      ·go_simp
       rfl
      refine hK.out _ _ ?_
      clear hK K
      refine ZP 16 7 #[true, true, true, true, true, true, true, true, true, true, true, true, true, true, true, true, true] ?_
      refine done_ (done_of HT_.out (by kernel_rfl)) ?_
      try go_wp2
      go_roundg k1
      case measure => have := HK1.out; omega
      case rel => exact ⟨(y172), (t171), (wrap64 (x8_1 - 1)), ZS, ZS, H', ⟨by have := HK1.out; omega⟩, ⟨by (with_reducible repeat (first | apply Kd.R_alloc | apply Kd.R_drewN | apply Kd.R_drew)); exact Kd.R_mono (Kd.R_far (p := ⟨go18, (x8_1 : Int).toNat, none⟩) (Kd.R_mono HO_0.out (fun k_ hk => (⟨hk, fun e_ => hk.2 (by rw [e_]; rfl)⟩ : _ ∧ k_ ≠ go18))) (fun _ hk => hk.2) (.int .u64 t170)) (fun _ hk => ⟨hk.1.1, hk.1.2⟩)⟩, ⟨by (with_reducible repeat (first | apply Kd.R_alloc | apply Kd.R_drewN | apply Kd.R_drew)); exact HQ20.out⟩, ⟨by repeat (first | (with_reducible first | exact HK.out | apply Kept.alloc | apply Kept.drewN | apply Kept.drew | refine Kept.setCell ?_ HMgo18.out _) | exact HK.out)⟩, ⟨ZBS⟩⟩
     ·rw [if_neg c12] at H
      have c12b0 : decide (0 ≤ x8_1) = false := decide_eq_false c12
      clear c12
      obtain ⟨t173, A21, H⟩ := ZO H
      generalize hy176 : (([x7_1] : List Int)) = y176 at H
      have Ny176 := Aside0.mk hy176.symm
      clear hy176
      obtain ⟨t179, A22, H⟩ := ZO H
      simp only [Option.some.injEq, Prod.mk.injEq] at H
      obtain ⟨rfl, rfl⟩ := H
      obtain ⟨Ao23, co23, eo23⟩ := Kd.R_slice HO_6.out
      subst eo23
      go_wp2_with (first | ((with_reducible refine gate_callee (f := 79) rfl ?_); refine goesL_ (some 50) rfl rfl Try.func79 (by kernel_rfl) rfl #[.slice Ao23 x6_1.length co23] rfl ZA ?_; (with_reducible refine (exact_trim.calls k1 (fun k_ => some k_ = (.slice Ao23 x6_1.length co23 : Value).ownBlock) (.slice Ao23 x6_1.length co23) x6_1 t173 w0 _ ?side1 ?side2 A21.out).mono ?_); (case side1 => repeat (first | (with_reducible first | exact HB.out | apply below_alloc | apply pw_below_drewN | apply below_drew1) | exact HB.out)); (case side2 => exact Kd.R_tight rfl HO_6.out); rintro e w24 ⟨v174, rfl, ho0, hb, hkp⟩; refine ⟨_, rfl, ?_⟩; have HO175 := Aside0.mk (Kd.R_mono (ok' := fun k_ => (P0_ k_ ∨ w.heap.size ≤ k_) ∧ some k_ ≠ (.slice Ao9 l0.length co9 : Value).ownBlock) ho0 (fun k_ hk_ => ⟨Or.elim hk_ (fun hs_ => (HO_6.out.1 k_ (hs_).symm).1) (fun hn_ => (.inr (Nat.le_trans (by first | exact HK.out.1 | exact (show Kept w _ (fun k_ => P0_ k_) from ZK).1) hn_))), Or.elim hk_ (fun hs_ => fun e_ => (((HO_0.out).1 k_ e_.symm).2) hs_) (fun hn_ => (Kd.fresh' (Kd.R_lt (ZR HO_0.out)) k_ hn_))⟩)); replace HO_0 := Aside0.mk (Kd.R_mono (ok' := fun k_ => (P0_ k_ ∨ w.heap.size ≤ k_) ∧ some k_ ≠ (v174 : Value).ownBlock) (Kd.R_keptB (HO_0.out) hkp (fun k_ hk_ hs_ => (hk_.2) hs_)) (fun k_ hk_ => ⟨hk_.1.1, fun e_ => Or.elim (ho0.1 k_ e_.symm) (fun hs_ => hk_.2.1 hs_) (fun hn_ => Nat.not_le.2 hk_.2.2 hn_)⟩)); replace HK := Aside0.mk (Kept.then_ (S := (fun k_ => P0_ k_)) ZK hkp (fun k_ hs_ => (fun e_ => (HO_6.out.1 k_ e_.symm).1) hs_)); replace HB := Aside0.mk (hb); clear HO_6; (try clear hb); (try clear hkp); (try clear ho0)) | ((with_reducible refine gate_dst (N := 52) rfl ?_); (try (refine gate_guard (by rfl) ?_; dsimp only)); refine Kd.R_lit (Kd.int .u64) _ 49 ?hg (N := 52) ?hd (xs := ([x7_1] : List Int)) (inner := [.int .u64 x7_1]) (ok := fun _ => True) (okp := fun _ => True) ?hr ?hp (fun _ hk => hk) trivial (Below.refl _ _) (Nat.le_refl _) (by simp) ?_; (case hd => rfl); (case hg => rfl); (case hr => first | (go_simp; done) | (go_simp; rfl)); (case hp => exact (Reps.one (show Kd.M (Kd.int .u64) _ _ _ x7_1 [.int .u64 x7_1] from rfl) (Reps.none _ _))); intro v177 w25 ho26 hb hg_ hnew_; clear hg_ hnew_; (first | rw [← Ny176.out] at ho26 | (simp only [Int.reduceToNat] at ho26; rw [← Ny176.out] at ho26)); have HO178 := Aside0.mk (Kd.R_lower (Kd.R_new' (Kd.R_new' (Kd.R_newM (M := fun k_ => (P0_ k_ ∨ w.heap.size ≤ k_)) ho26 (by first | exact HK.out.1 | exact (show Kept w _ (fun k_ => P0_ k_) from ZK).1) (fun k_ h_ => .inr h_)) (Kd.R_lt (ZR HO_0.out))) (Kd.R_lt (ZR HO175.out))) (below_size ZB)); replace HO_0 := Aside0.mk (Kd.R_elder' (ZR HO_0.out) (Kd.R_base ho26) hb); replace HO175 := Aside0.mk (Kd.R_elder' (ZR HO175.out) (Kd.R_base ho26) hb); replace HK := Aside0.mk (Kept.below (S := (fun k_ => P0_ k_)) ZK hb); replace HB := Aside0.mk (below_step ZB hb); clear hb ho26; obtain ⟨Ao27, co27, eo27⟩ := Kd.R_slice HO178.out; subst eo27) | ((with_reducible refine gate_callee (f := 79) rfl ?_); refine goesL_ (some 53) rfl rfl Try.func79 (by kernel_rfl) rfl #[.slice Ao27 y176.length co27] rfl ZA ?_; (with_reducible refine (exact_trim.calls k1 (fun k_ => some k_ = (.slice Ao27 y176.length co27 : Value).ownBlock) (.slice Ao27 y176.length co27) y176 t179 w0 _ ?side1 ?side2 A22.out).mono ?_); (case side1 => repeat (first | (with_reducible first | exact HB.out | apply below_alloc | apply pw_below_drewN | apply below_drew1) | exact HB.out)); (case side2 => exact Kd.R_tight rfl HO178.out); rintro e w28 ⟨v180, rfl, ho0, hb, hkp⟩; refine ⟨_, rfl, ?_⟩; have HO181 := Aside0.mk (Kd.R_mono (ok' := fun k_ => (P0_ k_ ∨ w.heap.size ≤ k_) ∧ some k_ ≠ (.slice Ao9 l0.length co9 : Value).ownBlock ∧ some k_ ≠ (v174 : Value).ownBlock) ho0 (fun k_ hk_ => ⟨Or.elim hk_ (fun hs_ => (HO178.out.1 k_ (hs_).symm).1.1.1) (fun hn_ => (.inr (Nat.le_trans (by first | exact HK.out.1 | exact (show Kept w _ (fun k_ => P0_ k_) from ZK).1) hn_))), Or.elim hk_ (fun hs_ => fun e_ => (((HO_0.out).1 k_ e_.symm).2) hs_) (fun hn_ => (Kd.fresh' (Kd.R_lt (ZR HO_0.out)) k_ hn_)), Or.elim hk_ (fun hs_ => fun e_ => (((HO175.out).1 k_ e_.symm).2) hs_) (fun hn_ => (Kd.fresh' (Kd.R_lt (ZR HO175.out)) k_ hn_))⟩)); replace HO_0 := Aside0.mk (Kd.R_mono (ok' := fun k_ => (P0_ k_ ∨ w.heap.size ≤ k_) ∧ some k_ ≠ (v174 : Value).ownBlock ∧ some k_ ≠ (v180 : Value).ownBlock) (Kd.R_keptB (HO_0.out) hkp (fun k_ hk_ hs_ => (hk_.2) hs_)) (fun k_ hk_ => ⟨hk_.1.1.1, hk_.1.1.2, fun e_ => Or.elim (ho0.1 k_ e_.symm) (fun hs_ => hk_.2.1 hs_) (fun hn_ => Nat.not_le.2 hk_.2.2 hn_)⟩)); replace HO175 := Aside0.mk (Kd.R_mono (ok' := fun k_ => (P0_ k_ ∨ w.heap.size ≤ k_) ∧ some k_ ≠ (.slice Ao9 l0.length co9 : Value).ownBlock ∧ some k_ ≠ (v180 : Value).ownBlock) (Kd.R_keptB (HO175.out) hkp (fun k_ hk_ hs_ => (hk_.2) hs_)) (fun k_ hk_ => ⟨hk_.1.1.1, hk_.1.1.2, fun e_ => Or.elim (ho0.1 k_ e_.symm) (fun hs_ => hk_.2.1 hs_) (fun hn_ => Nat.not_le.2 hk_.2.2 hn_)⟩)); replace HK := Aside0.mk (Kept.then_ (S := (fun k_ => P0_ k_)) ZK hkp (fun k_ hs_ => (fun e_ => (HO178.out.1 k_ e_.symm).1.1.1) hs_)); replace HB := Aside0.mk (hb); clear HO178; (try clear hb); (try clear hkp); (try clear ho0)))
      go_ret2
      exact ⟨_, _, ZE, by (with_reducible repeat (first | apply Kd.R_alloc | apply Kd.R_drewN | apply Kd.R_drew)); exact Kd.R_mono HO175.out (fun _ hk => ⟨hk.1, hk.2.2⟩), by (with_reducible repeat (first | apply Kd.R_alloc | apply Kd.R_drewN | apply Kd.R_drew)); exact Kd.R_mono HO181.out (fun _ hk => ⟨hk.1, hk.2.2⟩), ZB, ZK⟩
  ·rw [if_neg c6] at H
   have c6b0 : ((l1.length : Int) == 1) = false := beq_eq_false_iff_ne.mpr c6
   have c6b1 : ((l1.length : Int) != 1) = true := bne_iff_ne.mpr c6
   obtain ⟨ji29, hji29⟩ : ∃ j_ : Int, (wrap64 ((l1.length : Int) - 1)) = j_ := ⟨_, rfl⟩
   (first | rw [hji29] at H | simp only [hji29] at H)
   (try rw [hji29] at A3)
   have hji29w : (IntKind.i64.wrap ((l1.length : Int) - 1)) = ji29 := (i64_w _).trans hji29
   by_cases c30 : 0 ≤ (ji29)
   ·rw [if_pos c30] at H
    have c30b0 : decide (0 ≤ (ji29)) = true := decide_eq_true c30
    clear c30
    obtain ⟨c31, H⟩ := ZI H
    have c31b0 : decide ((ji29) < (l1.length : Int)) = true := decide_eq_true c31
    clear c31
    obtain ⟨t183, A32, H⟩ := ZO H
    obtain ⟨t184, A33, H⟩ := ZO H
    obtain ⟨t187, A34, H⟩ := ZO H
    obtain ⟨t190, A35, H⟩ := ZO H
    obtain ⟨ji36, hji36⟩ : ∃ j_ : Int, (wrap64 ((wrap64 ((l0.length : Int) - (t187.length : Int))) + 1)) = j_ := ⟨_, rfl⟩
    (first | rw [hji36] at H | simp only [hji36] at H)
    (try rw [hji36] at A3)
    (try rw [hji36] at A32)
    (try rw [hji36] at A33)
    (try rw [hji36] at A34)
    (try rw [hji36] at A35)
    have hji36w : (IntKind.i64.wrap ((wrap64 ((l0.length : Int) - (t187.length : Int))) + 1)) = ji36 := (i64_w _).trans hji36
    obtain ⟨c37, H⟩ := ZI H
    have c37b0 := eq_true c37
    have c37b1 : decide (0 ≤ (ji36)) = true := decide_eq_true c37
    clear c37
    obtain ⟨c38, H⟩ := ZI H
    have c38b0 := eq_true c38
    have c38b1 : decide ((ji36 : Int).toNat ≤ 35184372088832) = true := decide_eq_true c38
    clear c38
    obtain ⟨y193, hy193⟩ : ∃ y_ : List Int, y_ = (List.replicate (ji36 : Int).toNat 0) := ⟨_, rfl⟩
    replace H : (exact_divide.l1 k t183 t187 t190 (t187.length : Int) y193 (wrap64 ((l0.length : Int) - (t187.length : Int)))) = some (r1, r2) := ZH hy193 H
    have Ny193 := Aside0.mk hy193
    clear hy193
    have H' := Aside0.mk H
    clear H
    obtain ⟨Ao39, co39, eo39⟩ := Kd.R_slice HO0.out
    subst eo39
    go_enter Try.func69, Try.ntmps69
    go_wp2_with (first | ((with_reducible refine gate_callee (f := 77) rfl ?_); refine goesL_ (some 18) rfl rfl Try.func77 (by kernel_rfl) rfl #[.slice Ao39 l0.length co39, .slice A1 l1.length c1] rfl ZA ?_; (with_reducible refine (exact_compareWords.calls k _ _ l0 _ _ l1 t164 _ ?side1 ?side2 ?side3 ?side4 A3.out).mono ?_); (case side1 => exact ZC (Kd.R_reads' HO0.out).2.2); (case side2 => exact (Kd.R_reads' HO0.out).2.1); (case side3 => exact Kd.C_kept_now HR1.out ZK); (case side4 => exact HC1.out); rintro e w' ⟨rfl, ⟨nd, rfl⟩⟩; refine ⟨_, rfl, ?_⟩; have p182 : 0 ≤ ((ji29) : Int) := of_decide_eq_true ZD; have q182 : (ji29) < (l1.length : Int) := of_decide_eq_true ZD; obtain ⟨ad182, e182, hx182_0⟩ := Kd.at_int (Kd.C_kept_now HR1.out HK.out) (ji29) p182 q182; cases e182; replace p182 := eq_true p182; replace q182 := eq_true q182) | ((with_reducible refine gate_callee (f := 80) rfl ?_); refine goesL_ (some 60) rfl rfl Try.func80 (by kernel_rfl) rfl #[.int .u64 (rd l1 (ji29))] rfl (by (try simp only [List.map_toArray, List.map_cons, List.map_nil]); first | done | (simp only [hji29]; rfl) | rfl | (simp only [List.length_drop, List.length_take]; rfl)) ?_; (with_reducible refine (bits_LeadingZeros64.calls (rd l1 (ji29)) t183 _ A32.out).mono ?_); rintro e w' ⟨rfl, ⟨nd, rfl⟩⟩; refine ⟨_, rfl, ?_⟩) | ((with_reducible refine gate_callee (f := 81) rfl ?_); refine goesL_ (some 63) rfl rfl Try.func81 (by kernel_rfl) rfl #[.slice (some ad182) l1.length c1, .int .i64 t183] rfl ZA ?_; (with_reducible refine (exact_shiftUp.calls k _ _ l1 t183 t184 _ ?side1 ?side2 A33.out).mono ?_); (case side1 => exact Kd.C_kept_now HR1.out ZK); (case side2 => exact HC1.out); rintro e w40 ⟨v185, rfl, ho0, hb⟩; refine ⟨_, rfl, ?_⟩; have HO186 := Aside0.mk (Kd.R_lower (Kd.R_new' (Kd.R_newM (M := fun k_ => (P0_ k_ ∨ w.heap.size ≤ k_)) ho0 (by first | exact HK.out.1 | exact (show Kept w _ (fun k_ => P0_ k_) from ZK).1) (fun k_ h_ => .inr h_)) (Kd.R_lt (ZR HO0.out))) (below_size ZB)); replace HO0 := Aside0.mk (Kd.R_elder' (ZR HO0.out) (Kd.R_base ho0) hb); replace HK := Aside0.mk (Kept.below (S := (fun k_ => P0_ k_)) ZK hb); replace HB := Aside0.mk (below_step ZB hb); (try clear hb); (try clear ho0); obtain ⟨Ao41, co41, eo41⟩ := Kd.R_slice HO186.out; subst eo41) | ((with_reducible refine gate_callee (f := 79) rfl ?_); refine goesL_ (some 64) rfl rfl Try.func79 (by kernel_rfl) rfl #[.slice Ao41 t184.length co41] rfl ZA ?_; (with_reducible refine (exact_trim.calls k (fun k_ => some k_ = (.slice Ao41 t184.length co41 : Value).ownBlock) (.slice Ao41 t184.length co41) t184 t187 w0 _ ?side1 ?side2 A34.out).mono ?_); (case side1 => repeat (first | (with_reducible first | exact HB.out | apply below_alloc | apply pw_below_drewN | apply below_drew1) | exact HB.out)); (case side2 => exact Kd.R_tight rfl HO186.out); rintro e w42 ⟨v188, rfl, ho0, hb, hkp⟩; refine ⟨_, rfl, ?_⟩; have HO189 := Aside0.mk (Kd.R_mono (ok' := fun k_ => (P0_ k_ ∨ w.heap.size ≤ k_) ∧ some k_ ≠ (.slice Ao39 l0.length co39 : Value).ownBlock) ho0 (fun k_ hk_ => ⟨Or.elim hk_ (fun hs_ => (HO186.out.1 k_ (hs_).symm).1.1) (fun hn_ => (.inr (Nat.le_trans (by first | exact HK.out.1 | exact (show Kept w _ (fun k_ => P0_ k_) from ZK).1) hn_))), Or.elim hk_ (fun hs_ => fun e_ => (((HO0.out).1 k_ e_.symm).2) hs_) (fun hn_ => (Kd.fresh' (Kd.R_lt (ZR HO0.out)) k_ hn_))⟩)); replace HO0 := Aside0.mk (Kd.R_mono (ok' := fun k_ => (P0_ k_ ∨ w.heap.size ≤ k_) ∧ some k_ ≠ (v188 : Value).ownBlock) (Kd.R_keptB (HO0.out) hkp (fun k_ hk_ hs_ => (hk_.2) hs_)) (fun k_ hk_ => ⟨hk_.1.1, fun e_ => Or.elim (ho0.1 k_ e_.symm) (fun hs_ => hk_.2.1 hs_) (fun hn_ => Nat.not_le.2 hk_.2.2 hn_)⟩)); replace HK := Aside0.mk (Kept.then_ (S := (fun k_ => P0_ k_)) ZK hkp (fun k_ hs_ => (fun e_ => (HO186.out.1 k_ e_.symm).1.1) hs_)); replace HB := Aside0.mk (hb); clear HO186; (try clear hb); (try clear hkp); (try clear ho0)) | ((with_reducible refine gate_callee (f := 81) rfl ?_); refine goesL_ (some 67) rfl rfl Try.func81 (by kernel_rfl) rfl #[.slice Ao39 l0.length co39, .int .i64 t183] rfl ZA ?_; (with_reducible refine (exact_shiftUp.calls k _ _ l0 t183 t190 _ ?side1 ?side2 A35.out).mono ?_); (case side1 => exact ZC (Kd.R_reads' HO0.out).2.2); (case side2 => exact (Kd.R_reads' HO0.out).2.1); rintro e w43 ⟨v191, rfl, ho0, hb⟩; refine ⟨_, rfl, ?_⟩; have HO192 := Aside0.mk (Kd.R_lower (Kd.R_new' (Kd.R_new' (Kd.R_newM (M := fun k_ => (P0_ k_ ∨ w.heap.size ≤ k_)) ho0 (by first | exact HK.out.1 | exact (show Kept w _ (fun k_ => P0_ k_) from ZK).1) (fun k_ h_ => .inr h_)) (Kd.R_lt (ZR HO0.out))) (Kd.R_lt (ZR HO189.out))) (below_size ZB)); replace HO0 := Aside0.mk (Kd.R_elder' (ZR HO0.out) (Kd.R_base ho0) hb); replace HO189 := Aside0.mk (Kd.R_elder' (ZR HO189.out) (Kd.R_base ho0) hb); replace HK := Aside0.mk (Kept.below (S := (fun k_ => P0_ k_)) ZK hb); replace HB := Aside0.mk (below_step ZB hb); (try clear hb); (try clear ho0); obtain ⟨Ao44, co44, eo44⟩ := Kd.R_slice HO189.out; subst eo44) | ((with_reducible refine gate_dst (N := 75) rfl ?_); (try (refine gate_guard (by rfl) ?_; dsimp only)); refine Kd.R_make (Kd.int .u64) _ 49 rfl (N := 75) rfl 68 _ _ rfl ji36 rfl rfl Try.underlying68 (.int .u64 0) 8 info49 rfl (by decide) (by omega) 0 (ok := fun _ => True) (okp := fun _ => True) rfl (fun _ hk => hk) trivial (of_decide_eq_true ZD) (Nat.le_trans (Nat.mul_le_mul_right _ (of_decide_eq_true ZD : ji36.toNat ≤ 35184372088832)) (by omega)) (Below.refl _ _) (Nat.le_refl _) ?_; intro v194 w45 ho46 hb hg_ hnew_; clear hg_ hnew_; (first | rw [← Ny193.out] at ho46 | (simp only [Int.reduceToNat] at ho46; rw [← Ny193.out] at ho46)); have HO195 := Aside0.mk (Kd.R_lower (Kd.R_new' (Kd.R_new' (Kd.R_new' (Kd.R_newM (M := fun k_ => (P0_ k_ ∨ w.heap.size ≤ k_)) ho46 (by first | exact HK.out.1 | exact (show Kept w _ (fun k_ => P0_ k_) from ZK).1) (fun k_ h_ => .inr h_)) (Kd.R_lt (ZR HO0.out))) (Kd.R_lt (ZR HO189.out))) (Kd.R_lt (ZR HO192.out))) (below_size ZB)); replace HO0 := Aside0.mk (Kd.R_elder' (ZR HO0.out) (Kd.R_base ho46) hb); replace HO189 := Aside0.mk (Kd.R_elder' (ZR HO189.out) (Kd.R_base ho46) hb); replace HO192 := Aside0.mk (Kd.R_elder' (ZR HO192.out) (Kd.R_base ho46) hb); replace HK := Aside0.mk (Kept.below (S := (fun k_ => P0_ k_)) ZK hb); replace HB := Aside0.mk (below_step ZB hb); clear hb ho46))
    go_loopg [14] k (fun kq v14 w' => ∃ (x10_1 : List Int) (x11_1 : List Int) (x13_1 : List Int) (x14_1 : Int), v14 = .int .i64 x14_1 ∧ Aside0 (exact_divide.l1 kq t183 x10_1 x11_1 (t187.length : Int) x13_1 x14_1 = some (r1, r2)) ∧ Aside0 (kq ≤ k) ∧ Aside0 (Kd.R (Kd.int .u64) 49 w' w0.heap.size (fun k_ => (P0_ k_ ∨ w.heap.size ≤ k_) ∧ some k_ ≠ (v191 : Value).ownBlock ∧ some k_ ≠ (v194 : Value).ownBlock) (.slice Ao44 t187.length co44) x10_1) ∧ Aside0 (Kd.R (Kd.int .u64) 49 w' w0.heap.size (fun k_ => (P0_ k_ ∨ w.heap.size ≤ k_) ∧ some k_ ≠ ((.slice Ao44 t187.length co44) : Value).ownBlock ∧ some k_ ≠ (v194 : Value).ownBlock) v191 x11_1) ∧ Aside0 (Kd.R (Kd.int .u64) 49 w' w0.heap.size (fun k_ => (P0_ k_ ∨ w.heap.size ≤ k_) ∧ some k_ ≠ ((.slice Ao44 t187.length co44) : Value).ownBlock ∧ some k_ ≠ (v191 : Value).ownBlock) v194 x13_1) ∧ Aside0 (Kept w w' (fun k_ => P0_ k_)) ∧ Aside0 (Below w0.heap.size w0 w'))
    case atStart => exact ⟨(t187), (t190), (y193), (wrap64 ((l0.length : Int) - (t187.length : Int))), ZS, H', ⟨Nat.le_refl _⟩, ⟨by (with_reducible repeat (first | apply Kd.R_alloc | apply Kd.R_drewN | apply Kd.R_drew)); exact Kd.R_mono HO189.out (fun _ hk => ⟨hk.1.1.1, ⟨hk.1.2, hk.2⟩⟩)⟩, ⟨by (with_reducible repeat (first | apply Kd.R_alloc | apply Kd.R_drewN | apply Kd.R_drew)); exact Kd.R_mono HO192.out (fun _ hk => ⟨hk.1.1.1.1, ⟨hk.1.2, hk.2⟩⟩)⟩, ⟨by (with_reducible repeat (first | apply Kd.R_alloc | apply Kd.R_drewN | apply Kd.R_drew)); exact Kd.R_mono HO195.out (fun _ hk => ⟨hk.1.1.1.1, ⟨hk.1.2, hk.2⟩⟩)⟩, ⟨ZK⟩, ⟨ZB⟩⟩
    case round =>
     clear H'
     try clear c1
     try clear c6
     try clear c6b0
     try clear c6b1
     try clear c30
     try clear c30b0
     try clear c31
     try clear c31b0
     try clear c37
     try clear c37b0
     try clear c37b1
     try clear c38
     try clear c38b0
     try clear c38b1
     try clear hx182_0
     try clear p182
     try clear q182
     obtain ⟨x10_1, x11_1, x13_1, x14_1, rfl, HA, HK1, HO_10, HO_11, HO_13, HK, HB⟩ := hrel
     have hl10_1 := (Kd.R_reads' HO_10.out).1
     rw [hl10_1] at HO_10
     (try simp only [hl10_1])
     (try simp only [hl10_1] at HO_11)
     (try simp only [hl10_1] at HO_13)
     cases gk with
     | zero => exact absurd HA.out (by simp [exact_divide.l1])
     | succ k1 =>
      have H := HA.out
      clear HA
      simp only [exact_divide.l1] at H
      by_cases c47 : x14_1 ≥ 0
      ·rw [if_pos c47] at H
       have c47b0 : decide (0 ≤ x14_1) = true := decide_eq_true c47
       clear c47
       obtain ⟨c48, H⟩ := ZI H
       have c48b0 := eq_true c48
       have c48b1 : decide (0 ≤ x14_1) = true := decide_eq_true c48
       clear c48
       obtain ⟨c49, H⟩ := ZI H
       have c49b0 := eq_true c49
       have c49b1 : decide (x14_1 ≤ (wrap64 ((wrap64 (x14_1 + (t187.length : Int))) + 1))) = true := decide_eq_true c49
       (try (have c49b1y := c49b1; simp only [hl10_1] at c49b1y))
       obtain ⟨c50, H⟩ := ZI H
       have c50b0 := eq_true c50
       have c50b1 : decide ((wrap64 ((wrap64 (x14_1 + (t187.length : Int))) + 1)) ≤ (x11_1.length : Int)) = true := decide_eq_true c50
       (try (have c50b1y := c50b1; simp only [hl10_1] at c50b1y))
       obtain ⟨y196, hy196⟩ : ∃ y_ : List Int, y_ = ((x11_1.take ((wrap64 ((wrap64 (x14_1 + (t187.length : Int))) + 1)) : Int).toNat).drop (x14_1 : Int).toNat) := ⟨_, rfl⟩
       replace H : ((exact_stepAt.f k1 x11_1 x10_1 x14_1 (wrap64 ((wrap64 (x14_1 + (t187.length : Int))) + 1))).bind fun bt200 => (if x14_1 < (x13_1.length : Int) then (exact_divide.l1 k1 t183 x10_1 bt200.2 (t187.length : Int) (x13_1.set (x14_1 : Int).toNat bt200.1) (wrap64 (x14_1 - 1))) else (none))) = some (r1, r2) := ZH hy196 H
       have Ny196 := Aside0.mk hy196
       clear hy196
       obtain ⟨⟨t200, t201⟩, A51, H⟩ := ZO H
       (try dsimp only at H)
       obtain ⟨c52, H⟩ := ZI H
       have c52b0 : decide (x14_1 < (x13_1.length : Int)) = true := decide_eq_true c52
       (try (have c52b0y := c52b0; simp only [hl10_1] at c52b0y))
       clear c52
       obtain ⟨y202, hy202⟩ : ∃ y_ : List Int, y_ = (x13_1.set (x14_1 : Int).toNat t200) := ⟨_, rfl⟩
       replace H : (exact_divide.l1 k1 t183 x10_1 t201 (t187.length : Int) y202 (wrap64 (x14_1 - 1))) = some (r1, r2) := ZH hy202 H
       have Ny202 := Aside0.mk hy202
       clear hy202
       have H' := Aside0.mk H
       clear H
       obtain ⟨Ao55, co55, eo55⟩ := Kd.R_slice HO_11.out
       subst eo55
       have q54 : ((wrap64 ((wrap64 (x14_1 + (t187.length : Int))) + 1)) : Int) ≤ ((x11_1.length : Int) : Int) := of_decide_eq_true ZD
       obtain ⟨i054, hi054, _, hsz54, _⟩ := info_parts info49
       have hroom54 : x11_1.length ≤ co55 := (Kd.R_reads' HO_11.out).2.1
       have hC54 : Kd.C (Kd.int .u64) _ Ao55 x11_1.length x11_1 := (Kd.R_reads' HO_11.out).2.2
       have ql54 : (x14_1 : Int) ≤ ((wrap64 ((wrap64 (x14_1 + (t187.length : Int))) + 1)) : Int) := of_decide_eq_true ZD
       have q054 : (0 : Int) ≤ (x14_1 : Int) := of_decide_eq_true ZD
       have hcut54 := cut_mid (P := Try.prog) 68 49 .i64 .i64 Try.underlying68 hi054 1 hsz54 Ao55 x11_1.length co55 x14_1 (wrap64 ((wrap64 (x14_1 + (t187.length : Int))) + 1)) q054 ql54 q54 hroom54
       have hr54 := Kd.C_mid (lo := (x14_1 : Int).toNat) (hi := ((wrap64 ((wrap64 (x14_1 + (t187.length : Int))) + 1)) : Int).toNat) (c := co55) hC54 (by omega) (by omega) hroom54
       obtain ⟨A54, hA54⟩ : ∃ A1, A1 = (if co55 = (x14_1 : Int).toNat then Ao55 else (Ao55 : Option Addr).map (·.add ((x14_1 : Int).toNat * 1))) := ⟨_, rfl⟩
       obtain ⟨c54, hc54⟩ : ∃ c1, c1 = co55 - (x14_1 : Int).toNat := ⟨_, rfl⟩
       have hy54 : y196.length = ((wrap64 ((wrap64 (x14_1 + (t187.length : Int))) + 1)) : Int).toNat - (x14_1 : Int).toNat := (by rw [Ny196.out, List.length_drop, List.length_take] <;> omega)
       rw [show ((x11_1).take ((wrap64 ((wrap64 (x14_1 + (t187.length : Int))) + 1)) : Int).toNat).drop (x14_1 : Int).toNat = y196 from Ny196.out.symm] at hr54
       replace hr54 : Kd.C (Kd.int .u64) _ A54 y196.length y196 := (by rw [hA54]; exact hr54)
       rw [← hy54, ← hA54, ← hc54] at hcut54
       (try simp only [hl10_1] at hcut54)
       have HR199 := Aside0.mk hr54
       have HC199 := Aside0.mk (show y196.length ≤ c54 from by rw [hy54, hc54]; exact Nat.sub_le_sub_right (Nat.le_trans (by omega) hroom54) _)
       clear hr54 hC54 hroom54 hi054 hsz54 hc54
       have KY54 := Aside0.mk hy54
       have KA54 := Aside0.mk hA54
       clear hy54 hA54
       have KL54 := Aside0.mk (show ((wrap64 ((wrap64 (x14_1 + (t187.length : Int))) + 1)) : Int).toNat ≤ x11_1.length from by omega)
       have KM54 := Aside0.mk (show (x14_1 : Int).toNat ≤ ((wrap64 ((wrap64 (x14_1 + (t187.length : Int))) + 1)) : Int).toNat from by omega)
       replace q54 := eq_true q54
       go_wp2_with (first | ((with_reducible refine gate_callee (f := 82) rfl ?_); refine goesL_ (some 94) rfl rfl Try.func82 (by kernel_rfl) rfl #[.slice A54 y196.length c54, .slice Ao44 x10_1.length co44] rfl ZA ?_; (with_reducible refine (exact_stepAt.calls k1 (fun k_ => some k_ = (.slice Ao55 x11_1.length co55 : Value).ownBlock) (.slice Ao55 x11_1.length co55) x11_1 _ _ x10_1 x14_1 (wrap64 ((wrap64 (x14_1 + (t187.length : Int))) + 1)) t200 t201 w0 _ ?side1 ?side2 ?side3 ?side4 ?side5 A51.out).mono ?_); (case side1 => repeat (first | (with_reducible first | exact HB.out | apply below_alloc | apply pw_below_drewN | apply below_drew1) | exact HB.out)); (case side2 => exact Kd.R_tight rfl HO_11.out); (case side3 => exact Kd.C_kept_own (HO_10.out) (fun k_ hk_ hs_ => (hk_.2.1) hs_)); (case side4 => exact (Kd.R_reads' HO_10.out).2.1); (case side5 => exact CutIs.mk KA54.out KY54.out HC199.out KM54.out KL54.out); rintro e w56 ⟨rfl, hy0, hb, hkp⟩; refine ⟨_, rfl, ?_⟩; replace HO_10 := Aside0.mk (Kd.R_mono (ok' := fun k_ => (P0_ k_ ∨ w.heap.size ≤ k_) ∧ some k_ ≠ (.slice Ao55 x11_1.length co55 : Value).ownBlock ∧ some k_ ≠ (v194 : Value).ownBlock) (Kd.R_keptB (HO_10.out) hkp (fun k_ hk_ hs_ => (hk_.2.1) hs_)) (fun k_ hk_ => ⟨hk_.1.1, hk_.1.2.1, hk_.1.2.2⟩)); replace HO_13 := Aside0.mk (Kd.R_mono (ok' := fun k_ => (P0_ k_ ∨ w.heap.size ≤ k_) ∧ some k_ ≠ (.slice Ao44 x10_1.length co44 : Value).ownBlock ∧ some k_ ≠ (.slice Ao55 x11_1.length co55 : Value).ownBlock) (Kd.R_keptB (HO_13.out) hkp (fun k_ hk_ hs_ => (hk_.2.2) hs_)) (fun k_ hk_ => ⟨hk_.1.1, hk_.1.2.1, hk_.1.2.2⟩)); replace HK := Aside0.mk (Kept.then_ (S := (fun k_ => P0_ k_)) ZK hkp (fun k_ hs_ => (fun e_ => (HO_11.out.1 k_ e_.symm).1) hs_)); replace HO_11 := Aside0.mk (Kd.R_reok rfl hy0 (fun k_ e_ => HO_11.out.1 k_ e_)); replace HB := Aside0.mk (hb); (try clear hb); (try clear hkp); (try clear hy0); have p53 : 0 ≤ (x14_1 : Int) := of_decide_eq_true ZD; have q53 : (x14_1 : Int) < ((x13_1.length : Int) : Int) := of_decide_eq_true ZD; obtain ⟨go53, co53, eo53, gb53, gl53, cl53, HG53⟩ := Kd.R_form HO_13.out (by omega); (first | cases eo53 | (injection eo53 with ea_ en_ ec_; (first | subst ea_ | (injection ea_ with ea_; subst ea_)); subst ec_; clear en_)); have GB53 := Aside0.mk gb53; have GG53 := Aside0.mk HG53; clear gb53 gl53 HG53; have HMgo53 := Aside0.mk (show (P0_ go53 ∨ w.heap.size ≤ go53) from (HO_13.out.1 _ rfl).1); obtain ⟨hx53_0, hf53_0⟩ := Kd.R_celln 0 HO_13.out (x14_1 : Int) p53 q53; (try simp only [Int.toNat_natCast] at hx53_0 hf53_0); replace p53 := eq_true p53; replace q53 := eq_true q53; obtain ⟨hy57_, hz57_⟩ := Kd.R_celln 0 HO_13.out (x14_1 : Int) (of_decide_eq_true ZD) (of_decide_eq_true ZD); (try simp only [Int.toNat_natCast] at hy57_ hz57_); have HP57 := Kd.R_putg HO_13.out (x14_1 : Int) t200) | ((with_reducible refine gate_store (t := 49) (p := 95) rfl ?_); refine store_event (t := 49) (p := 95) (v := ?vo_w58) (w1 := (w56.setCell ⟨go53, (x14_1 : Int).toNat, none⟩ (.int .u64 t200))) ?hg ?ho ?hn ?hr ?_; (case ho => rfl); (case hg => rfl); (case hn => rfl); (case hr => first | (go_simp; done) | (go_simp; rfl)); intro w58 hw; have hg : w56.grownBy w58 (some go53) := (by rw [hw]; exact HP57.2); have hp_ : Kd.R (Kd.int .u64) 49 w58 w0.heap.size (fun k_ => (P0_ k_ ∨ w.heap.size ≤ k_) ∧ some k_ ≠ (.slice Ao44 x10_1.length co44 : Value).ownBlock ∧ some k_ ≠ (.slice Ao55 x11_1.length co55 : Value).ownBlock) (.slice (some ⟨go53, 0, none⟩) x13_1.length co53) y202 := (by rw [hw, Ny202.out]; exact HP57.1); clear HP57; replace HO_10 := Aside0.mk (Kd.R_after (v := (.slice (some ⟨go53, 0, none⟩) x13_1.length co53)) (v1 := (.slice (some ⟨go53, 0, none⟩) x13_1.length co53)) (ok := (fun k_ => (P0_ k_ ∨ w.heap.size ≤ k_) ∧ some k_ ≠ (.slice Ao55 x11_1.length co55 : Value).ownBlock)) (by (with_reducible repeat (first | apply Kd.R_alloc | apply Kd.R_drewN | apply Kd.R_drew)); exact Kd.R_mono HO_10.out (fun _ hk => ⟨⟨hk.1, hk.2.1⟩, hk.2.2⟩)) hg (.inl rfl)); replace HO_11 := Aside0.mk (Kd.R_after (v := (.slice (some ⟨go53, 0, none⟩) x13_1.length co53)) (v1 := (.slice (some ⟨go53, 0, none⟩) x13_1.length co53)) (ok := (fun k_ => (P0_ k_ ∨ w.heap.size ≤ k_) ∧ some k_ ≠ (.slice Ao44 x10_1.length co44 : Value).ownBlock)) (by (with_reducible repeat (first | apply Kd.R_alloc | apply Kd.R_drewN | apply Kd.R_drew)); exact Kd.R_mono HO_11.out (fun _ hk => ⟨⟨hk.1, hk.2.1⟩, hk.2.2⟩)) hg (.inl rfl)); replace HB := Aside0.mk ((by rw [hw]; exact below_set (HB.out) GB53.out : Below w0.heap.size w0 w58)); replace HK := Aside0.mk (Kept.of_grown (S := (fun k_ => P0_ k_)) hg ZK (fun k_ e_ => (HO_13.out.1 k_ e_).1)); replace HO_13 := Aside0.mk (hp_); clear hg hw hp_))
       (try simp only [← hl10_1])
       go_roundg k1
       case measure => have := HK1.out; omega
       case rel => exact ⟨(x10_1), (t201), (y202), (wrap64 (x14_1 - 1)), ZS, H', ⟨by have := HK1.out; omega⟩, ⟨by (try simp only [hl10_1]); (with_reducible repeat (first | apply Kd.R_alloc | apply Kd.R_drewN | apply Kd.R_drew)); exact Kd.R_mono HO_10.out (fun _ hk => ⟨hk.1.1, ⟨hk.1.2, hk.2⟩⟩)⟩, ⟨by (try simp only [hl10_1]); (with_reducible repeat (first | apply Kd.R_alloc | apply Kd.R_drewN | apply Kd.R_drew)); exact Kd.R_mono HO_11.out (fun _ hk => ⟨hk.1.1, ⟨hk.1.2, hk.2⟩⟩)⟩, ⟨by (try simp only [hl10_1]); (with_reducible repeat (first | apply Kd.R_alloc | apply Kd.R_drewN | apply Kd.R_drew)); exact HO_13.out⟩, ⟨ZK⟩, ⟨ZB⟩⟩
      ·rw [if_neg c47] at H
       have c47b0 : decide (0 ≤ x14_1) = false := decide_eq_false c47
       clear c47
       have H' := Aside0.mk H
       clear H
       go_wp2
       go_loopg [97] k1 (fun kq v97 w' => ∃ (x11_2 : List Int) (x97_2 : Int), v97 = .int .i64 x97_2 ∧ Aside0 (exact_divide.l2 kq t183 x11_2 (t187.length : Int) x13_1 (t187.length : Int) x97_2 = some (r1, r2)) ∧ Aside0 (kq ≤ k1) ∧ Aside0 (Kd.R (Kd.int .u64) 49 w' w0.heap.size (fun k_ => (P0_ k_ ∨ w.heap.size ≤ k_) ∧ some k_ ≠ (v194 : Value).ownBlock) v191 x11_2) ∧ Aside0 (Kd.R (Kd.int .u64) 49 w' w0.heap.size (fun k_ => (P0_ k_ ∨ w.heap.size ≤ k_) ∧ some k_ ≠ (v191 : Value).ownBlock) v194 x13_1) ∧ Aside0 (Kept w w' (fun k_ => P0_ k_)) ∧ Aside0 (Below w0.heap.size w0 w'))
       case atStart => exact ⟨(x11_1), (0), ZS, H', ⟨Nat.le_refl _⟩, ⟨by (try simp only [hl10_1]); (with_reducible repeat (first | apply Kd.R_alloc | apply Kd.R_drewN | apply Kd.R_drew)); exact Kd.R_mono HO_11.out (fun _ hk => ⟨hk.1, hk.2.2⟩)⟩, ⟨by (try simp only [hl10_1]); (with_reducible repeat (first | apply Kd.R_alloc | apply Kd.R_drewN | apply Kd.R_drew)); exact Kd.R_mono HO_13.out (fun _ hk => ⟨hk.1, hk.2.2⟩)⟩, ⟨ZK⟩, ⟨ZB⟩⟩
       case round =>
        clear H'
        try clear c47
        try clear c47b0
        obtain ⟨x11_2, x97_2, rfl, HA, HK2, HO_11, HO_13, HK, HB⟩ := hrel
        cases gk with
        | zero => exact absurd HA.out (by simp [exact_divide.l2])
        | succ k2 =>
         have H := HA.out
         clear HA
         simp only [exact_divide.l2] at H
         by_cases c59 : x97_2 < (t187.length : Int)
         ·rw [if_pos c59] at H
          have c59b0 : decide (x97_2 < (t187.length : Int)) = true := decide_eq_true c59
          (try (have c59b0y := c59b0; simp only [hl10_1] at c59b0y))
          clear c59
          obtain ⟨c60, H⟩ := ZI H
          have c60b0 : decide (0 ≤ x97_2) = true := decide_eq_true c60
          clear c60
          obtain ⟨c61, H⟩ := ZI H
          have c61b0 : decide (x97_2 < (x11_2.length : Int)) = true := decide_eq_true c61
          (try (have c61b0y := c61b0; simp only [hl10_1] at c61b0y))
          clear c61
          obtain ⟨c62, H⟩ := ZI H
          have c62b0 := eq_true c62
          have c62b1 : decide (0 ≤ t183) = true := decide_eq_true c62
          clear c62
          obtain ⟨ji63, hji63⟩ : ∃ j_ : Int, (shr .u64 (rd x11_2 x97_2) t183) = j_ := ⟨_, rfl⟩
          (first | rw [hji63] at H | simp only [hji63] at H)
          have hji63_ : ((rd x11_2 x97_2) / 2 ^ min t183.toNat 64) = ji63 := hji63
          have hji63z : t183 ≤ 64 → ((rd x11_2 x97_2) / 2 ^ t183.toNat) = ji63 := shr_small hji63
          obtain ⟨y204, hy204⟩ : ∃ y_ : List Int, y_ = (x11_2.set (x97_2 : Int).toNat (ji63)) := ⟨_, rfl⟩
          replace H : (if t183 > 0 then (if (wrap64 (x97_2 + 1)) < (x11_2.length : Int) then (if 0 ≤ (wrap64 (x97_2 + 1)) then (if 0 ≤ (wrap64 (64 - t183)) then (exact_divide.l2 k2 t183 (y204.set (x97_2 : Int).toNat (Go.bits .or .u64 (rd y204 x97_2) (shl .u64 (rd y204 (wrap64 (x97_2 + 1))) (wrap64 (64 - t183))))) (t187.length : Int) x13_1 (t187.length : Int) (wrap64 (x97_2 + 1))) else (none)) else (none)) else (exact_divide.l2 k2 t183 y204 (t187.length : Int) x13_1 (t187.length : Int) (wrap64 (x97_2 + 1)))) else (exact_divide.l2 k2 t183 y204 (t187.length : Int) x13_1 (t187.length : Int) (wrap64 (x97_2 + 1)))) = some (r1, r2) := ZH hy204 H
          have Ny204 := Aside0.mk hy204
          clear hy204
          by_cases c65 : t183 > 0
          ·rw [if_pos c65] at H
           have c65b0 : decide (0 < t183) = true := decide_eq_true c65
           clear c65
           by_cases c66 : (wrap64 (x97_2 + 1)) < (x11_2.length : Int)
           ·rw [if_pos c66] at H
            have c66b0 : decide ((wrap64 (x97_2 + 1)) < (x11_2.length : Int)) = true := decide_eq_true c66
            (try (have c66b0y := c66b0; simp only [hl10_1] at c66b0y))
            clear c66
            obtain ⟨ji67, hji67⟩ : ∃ j_ : Int, (wrap64 (x97_2 + 1)) = j_ := ⟨_, rfl⟩
            (first | rw [hji67] at H | simp only [hji67] at H)
            (try rw [hji67] at c66b0)
            have hji67w : (IntKind.i64.wrap (x97_2 + 1)) = ji67 := (i64_w _).trans hji67
            obtain ⟨c68, H⟩ := ZI H
            have c68b0 : decide (0 ≤ (ji67)) = true := decide_eq_true c68
            clear c68
            obtain ⟨ji69, hji69⟩ : ∃ j_ : Int, (wrap64 (64 - t183)) = j_ := ⟨_, rfl⟩
            (first | rw [hji69] at H | simp only [hji69] at H)
            have hji69w : (IntKind.i64.wrap (64 - t183)) = ji69 := (i64_w _).trans hji69
            obtain ⟨c70, H⟩ := ZI H
            have c70b0 := eq_true c70
            have c70b1 : decide (0 ≤ (ji69)) = true := decide_eq_true c70
            clear c70
            obtain ⟨ji71, hji71⟩ : ∃ j_ : Int, (shl .u64 (rd y204 (ji67)) (ji69)) = j_ := ⟨_, rfl⟩
            (first | rw [hji71] at H | simp only [hji71] at H)
            have hji71_ : (IntKind.u64.wrap ((rd y204 (ji67)) * 2 ^ min (ji69).toNat 64)) = ji71 := hji71
            have hji71z : (ji69) ≤ 64 → (IntKind.u64.wrap ((rd y204 (ji67)) * 2 ^ (ji69).toNat)) = ji71 := shl_small hji71
            generalize hy207 : (y204.set (x97_2 : Int).toNat (Go.bits .or .u64 (rd y204 x97_2) (ji71))) = y207 at H
            have Ny207 := Aside0.mk hy207.symm
            clear hy207
            have H' := Aside0.mk H
            clear H
            obtain ⟨Ao73, co73, eo73⟩ := Kd.R_slice HO_11.out
            subst eo73
            have p203 : 0 ≤ (x97_2 : Int) := of_decide_eq_true ZD
            have q203 : x97_2 < (x11_2.length : Int) := of_decide_eq_true ZD
            obtain ⟨ad203, e203, hx203_0⟩ := Kd.at_int (Kd.R_reads' HO_11.out).2.2 x97_2 p203 q203
            cases e203
            replace p203 := eq_true p203
            replace q203 := eq_true q203
            have p64 : 0 ≤ (x97_2 : Int) := of_decide_eq_true ZD
            have q64 : (x97_2 : Int) < ((x11_2.length : Int) : Int) := of_decide_eq_true ZD
            obtain ⟨go64, co64, eo64, gb64, gl64, cl64, HG64⟩ := Kd.R_form HO_11.out (by omega)
            (first | cases eo64 | (injection eo64 with ea_ en_ ec_; (first | subst ea_ | (injection ea_ with ea_; subst ea_)); subst ec_; clear en_))
            have GB64 := Aside0.mk gb64
            have GG64 := Aside0.mk HG64
            clear gb64 gl64 HG64
            have HMgo64 := Aside0.mk (show (P0_ go64 ∨ w.heap.size ≤ go64) from (HO_11.out.1 _ rfl).1)
            (first | simp only [add_plain] at hx203_0 | skip)
            obtain ⟨hx64_0, hf64_0⟩ := Kd.R_celln 0 HO_11.out (x97_2 : Int) p64 q64; (try simp only [Int.toNat_natCast] at hx64_0 hf64_0)
            replace p64 := eq_true p64
            replace q64 := eq_true q64
            have HP74 := Kd.R_putg HO_11.out (x97_2 : Int) ji63
            try go_wp2_with (first | ((with_reducible refine gate_store (t := 49) (p := 106) rfl ?_); refine store_event (t := 49) (p := 106) (v := ?vo_w75) (w1 := (wr.setCell ⟨go64, (x97_2 : Int).toNat, none⟩ (.int .u64 ji63))) ?hg ?ho ?hn ?hr ?_; (case ho => rfl); (case hg => rfl); (case hn => rfl); (case hr => first | (go_simp; done) | (go_simp; rfl)); intro w75 hw; have hg : wr.grownBy w75 (some go64) := (by rw [hw]; exact HP74.2); have hp_ : Kd.R (Kd.int .u64) 49 w75 w0.heap.size (fun k_ => (P0_ k_ ∨ w.heap.size ≤ k_) ∧ some k_ ≠ (v194 : Value).ownBlock) (.slice (some ⟨go64, 0, none⟩) x11_2.length co73) y204 := (by rw [hw, Ny204.out]; exact HP74.1); clear HP74; replace HO_13 := Aside0.mk (Kd.R_after (v := (.slice (some ⟨go64, 0, none⟩) x11_2.length co73)) (v1 := (.slice (some ⟨go64, 0, none⟩) x11_2.length co73)) (ok := (fun k_ => (P0_ k_ ∨ w.heap.size ≤ k_))) (ZR HO_13.out) hg (.inl rfl)); replace HB := Aside0.mk ((by rw [hw]; exact below_set (HB.out) GB64.out : Below w0.heap.size w0 w75)); replace HK := Aside0.mk (Kept.of_grown (S := (fun k_ => P0_ k_)) hg ZK (fun k_ e_ => (HO_11.out.1 k_ e_).1)); replace HO_11 := Aside0.mk (hp_); clear hg hw hp_))
            replace HO_11 := Aside0.mk (Kd.R_drew HO_11.out)
            replace HO_13 := Aside0.mk (Kd.R_drew HO_13.out)
            replace HK := Aside0.mk (Kept.drew HK.out)
            replace HB := Aside0.mk (below_drew1 HB.out)
            have p205 : 0 ≤ (x97_2 : Int) := of_decide_eq_true ZD
            have q205 : x97_2 < (y204.length : Int) := (by have h_ : (x97_2 : Int) < ((x11_2.length : Int) : Int) := of_decide_eq_true ZD; first | (have e_ := (Kd.R_reads' HO_11.out).1; omega) | simpa only [Ny204.out, List.length_set] using h_)
            have ql205 : ((x97_2 : Int) < ((x11_2.length : Int) : Int)) = True := eq_true (of_decide_eq_true ZD)
            obtain ⟨ad205, e205, hx205_0⟩ := Kd.at_int (Kd.R_reads' HO_11.out).2.2 x97_2 p205 q205
            obtain rfl : (⟨go64, 0, none⟩ : Addr) = ad205 := (by injection e205)
            (first | simp only [add_plain] at hx205_0 | simp only [add_at] at hx205_0 | simp only [Addr.add, Nat.zero_add] at hx205_0 | skip)
            replace p205 := eq_true p205
            replace q205 := eq_true q205
            have p206 : 0 ≤ ((ji67) : Int) := of_decide_eq_true ZD
            have q206 : (ji67) < (y204.length : Int) := (by have h_ : ((ji67) : Int) < ((x11_2.length : Int) : Int) := of_decide_eq_true ZD; first | (have e_ := (Kd.R_reads' HO_11.out).1; omega) | simpa only [Ny204.out, List.length_set] using h_)
            have ql206 : (((ji67) : Int) < ((x11_2.length : Int) : Int)) = True := eq_true (of_decide_eq_true ZD)
            obtain ⟨ad206, e206, hx206_0⟩ := Kd.at_int (Kd.R_reads' HO_11.out).2.2 (ji67) p206 q206
            obtain rfl : (⟨go64, 0, none⟩ : Addr) = ad206 := (by injection e206)
            (first | simp only [add_plain] at hx206_0 | simp only [add_at] at hx206_0 | simp only [Addr.add, Nat.zero_add] at hx206_0 | skip)
            replace p206 := eq_true p206
            replace q206 := eq_true q206
            have p72 : 0 ≤ (x97_2 : Int) := of_decide_eq_true ZD
            have q72 : (x97_2 : Int) < ((x11_2.length : Int) : Int) := of_decide_eq_true ZD
            obtain ⟨hx72_0, hf72_0⟩ := Kd.R_celln 0 HO_11.out (x97_2 : Int) p72 q72; (try simp only [Int.toNat_natCast] at hx72_0 hf72_0)
            replace p72 := eq_true p72
            replace q72 := eq_true q72
            have HP77 := Kd.R_putn HO_11.out (x97_2 : Int) (Go.bits .or .u64 (rd y204 x97_2) (ji71))
            rw [← Ny207.out] at HP77
            have HQ77 := Aside0.mk HP77
            clear HP77
            refine start_ (n := 15) (S := fun w' => w'.cell? ⟨go64, (x97_2).toNat, none⟩ = some (.int .u64 (rd y204 x97_2)) ∧ w'.cell? ⟨go64, ((ji67)).toNat, none⟩ = some (.int .u64 (rd y204 (ji67)))) (ds := [14]) #[false, false, false, false, false, false, false, false, false, false, false, false, false, false, false] (by kernel_rfl) rfl rfl ⟨hx205_0, hx206_0⟩ (fun hHeld => ?_); refine with_tabW exact_divide.tab25 exact_divide.bits25 (fun HT_ HW_ => ?_)
            generalize w75.drew = w76 at HO_11 HO_13 HK HB HQ77 hf72_0 hx205_0 hx206_0 hx72_0 hHeld ⊢
            refine ZP 0 116 #[true, false, false, false, false, false, false, false, false, false, false, false, false, false, false] ?_
            refine ZP 1 117 #[true, true, false, false, false, false, false, false, false, false, false, false, false, false, false] ?_
            refine ZP 2 118 #[true, true, true, false, false, false, false, false, false, false, false, false, false, false, false] ?_
            refine ZP 4 120 #[true, true, true, false, true, false, false, false, false, false, false, false, false, false, false] ?_
            refine ZP 5 121 #[true, true, true, false, true, true, false, false, false, false, false, false, false, false, false] ?_
            refine ZP 6 122 #[true, true, true, false, true, true, true, false, false, false, false, false, false, false, false] ?_
            refine ZP 7 123 #[true, true, true, false, true, true, true, true, false, false, false, false, false, false, false] ?_
            refine ZP 9 125 #[true, true, true, false, true, true, true, true, false, true, false, false, false, false, false] ?_
            refine ZP 10 126 #[true, true, true, false, true, true, true, true, false, true, true, false, false, false, false] ?_
            refine take_ (i := 3) (N := some 119) (v := ?_) (a' := ?_) #[true, true, true, true, true, true, true, true, false, true, true, false, false, false, false] rfl rfl (take_ofW HT_.out HW_.out (by kernel_rfl)) (fun _ _ _ h => h) (Or.inl ⟨by rfl, ?_⟩) hHeld ?_ ?_
            rotate_left
            ·rintro w' ⟨s0, s1⟩
             (try simp only [Int.toNat_natCast] at s0 s1)
             go_simp
             with_reducible rfl
            rotate_left
            ·simp only [Act.put, List.setIfInBounds_toArray, List.set_cons_zero, List.set_cons_succ, i64_w, i32_w]
             rfl
            refine take_ (i := 8) (N := some 124) (v := ?_) (a' := ?_) #[true, true, true, true, true, true, true, true, true, true, true, false, false, false, false] rfl rfl (take_ofW HT_.out HW_.out (by kernel_rfl)) (fun _ _ _ h => h) (Or.inl ⟨by rfl, ?_⟩) hHeld ?_ ?_
            rotate_left
            ·rintro w' ⟨s0, s1⟩
             (try simp only [Int.toNat_natCast] at s0 s1)
             go_simp
             with_reducible rfl
            rotate_left
            ·simp only [Act.put, List.setIfInBounds_toArray, List.set_cons_zero, List.set_cons_succ, i64_w, i32_w]
             rfl
            refine ZP 11 127 #[true, true, true, true, true, true, true, true, true, true, true, true, false, false, false] ?_
            refine ZP 12 128 #[true, true, true, true, true, true, true, true, true, true, true, true, true, false, false] ?_
            refine ZP 13 129 #[true, true, true, true, true, true, true, true, true, true, true, true, true, true, false] ?_
            refine last_ (i := 14) (N := none) #[true, true, true, true, true, true, true, true, true, true, true, true, true, true, true] rfl rfl (one_of HT_.out (by kernel_rfl)) (by decide) (fun K hK => ?_)
            refine skip_ (w1 := ?_) (by rfl) rfl ?_ ?_
            rotate_left
            ·go_simp
             rfl
            refine hK.out _ _ ?_
            clear hK K
            refine done_ (done_of HT_.out (by kernel_rfl)) ?_
            try go_wp2
            go_roundg k2
            case measure => have := HK1.out; have := HK2.out; omega
            case rel => exact ⟨(y207), (ji67), (by first | rfl | (simp; done) | (simp only [← hji67] <;> (first | rfl | simp)) | (simp [*]; done)), H', ⟨by have := HK1.out; have := HK2.out; omega⟩, ⟨by (try simp only [hl10_1]); (with_reducible repeat (first | apply Kd.R_alloc | apply Kd.R_drewN | apply Kd.R_drew)); exact HQ77.out⟩, ⟨by (try simp only [hl10_1]); (with_reducible repeat (first | apply Kd.R_alloc | apply Kd.R_drewN | apply Kd.R_drew)); exact Kd.R_mono (Kd.R_far (p := ⟨go64, (x97_2 : Int).toNat, none⟩) (Kd.R_mono HO_13.out (fun k_ hk => (⟨hk, fun e_ => hk.2 (by rw [e_]; rfl)⟩ : _ ∧ k_ ≠ go64))) (fun _ hk => hk.2) (.int .u64 (Go.bits .or .u64 (rd y204 x97_2) (ji71)))) (fun _ hk => ⟨hk.1.1, hk.1.2⟩)⟩, ⟨by repeat (first | (with_reducible first | exact HK.out | apply Kept.alloc | apply Kept.drewN | apply Kept.drew | refine Kept.setCell ?_ HMgo64.out _) | exact HK.out)⟩, ⟨ZBS⟩⟩
           ·rw [if_neg c66] at H
            have c66b0 : decide ((wrap64 (x97_2 + 1)) < (x11_2.length : Int)) = false := decide_eq_false c66
            (try (have c66b0y := c66b0; simp only [hl10_1] at c66b0y))
            clear c66
            have H' := Aside0.mk H
            clear H
            obtain ⟨Ao78, co78, eo78⟩ := Kd.R_slice HO_11.out
            subst eo78
            have p203 : 0 ≤ (x97_2 : Int) := of_decide_eq_true ZD
            have q203 : x97_2 < (x11_2.length : Int) := of_decide_eq_true ZD
            obtain ⟨ad203, e203, hx203_0⟩ := Kd.at_int (Kd.R_reads' HO_11.out).2.2 x97_2 p203 q203
            cases e203
            replace p203 := eq_true p203
            replace q203 := eq_true q203
            have p64 : 0 ≤ (x97_2 : Int) := of_decide_eq_true ZD
            have q64 : (x97_2 : Int) < ((x11_2.length : Int) : Int) := of_decide_eq_true ZD
            obtain ⟨go64, co64, eo64, gb64, gl64, cl64, HG64⟩ := Kd.R_form HO_11.out (by omega)
            (first | cases eo64 | (injection eo64 with ea_ en_ ec_; (first | subst ea_ | (injection ea_ with ea_; subst ea_)); subst ec_; clear en_))
            have GB64 := Aside0.mk gb64
            have GG64 := Aside0.mk HG64
            clear gb64 gl64 HG64
            have HMgo64 := Aside0.mk (show (P0_ go64 ∨ w.heap.size ≤ go64) from (HO_11.out.1 _ rfl).1)
            (first | simp only [add_plain] at hx203_0 | skip)
            obtain ⟨hx64_0, hf64_0⟩ := Kd.R_celln 0 HO_11.out (x97_2 : Int) p64 q64; (try simp only [Int.toNat_natCast] at hx64_0 hf64_0)
            replace p64 := eq_true p64
            replace q64 := eq_true q64
            have HP79 := Kd.R_putg HO_11.out (x97_2 : Int) ji63
            go_wp2_with (first | ((with_reducible refine gate_store (t := 49) (p := 106) rfl ?_); refine store_event (t := 49) (p := 106) (v := ?vo_w80) (w1 := (wr.setCell ⟨go64, (x97_2 : Int).toNat, none⟩ (.int .u64 ji63))) ?hg ?ho ?hn ?hr ?_; (case ho => rfl); (case hg => rfl); (case hn => rfl); (case hr => first | (go_simp; done) | (go_simp; rfl)); intro w80 hw; have hg : wr.grownBy w80 (some go64) := (by rw [hw]; exact HP79.2); have hp_ : Kd.R (Kd.int .u64) 49 w80 w0.heap.size (fun k_ => (P0_ k_ ∨ w.heap.size ≤ k_) ∧ some k_ ≠ (v194 : Value).ownBlock) (.slice (some ⟨go64, 0, none⟩) x11_2.length co78) y204 := (by rw [hw, Ny204.out]; exact HP79.1); clear HP79; replace HO_13 := Aside0.mk (Kd.R_after (v := (.slice (some ⟨go64, 0, none⟩) x11_2.length co78)) (v1 := (.slice (some ⟨go64, 0, none⟩) x11_2.length co78)) (ok := (fun k_ => (P0_ k_ ∨ w.heap.size ≤ k_))) (ZR HO_13.out) hg (.inl rfl)); replace HB := Aside0.mk ((by rw [hw]; exact below_set (HB.out) GB64.out : Below w0.heap.size w0 w80)); replace HK := Aside0.mk (Kept.of_grown (S := (fun k_ => P0_ k_)) hg ZK (fun k_ e_ => (HO_11.out.1 k_ e_).1)); replace HO_11 := Aside0.mk (hp_); clear hg hw hp_))
            go_roundg k2
            case measure => have := HK1.out; have := HK2.out; omega
            case rel => exact ⟨(y204), (wrap64 (x97_2 + 1)), ZS, H', ⟨by have := HK1.out; have := HK2.out; omega⟩, ⟨by (try simp only [hl10_1]); (with_reducible repeat (first | apply Kd.R_alloc | apply Kd.R_drewN | apply Kd.R_drew)); exact HO_11.out⟩, ⟨by (try simp only [hl10_1]); (with_reducible repeat (first | apply Kd.R_alloc | apply Kd.R_drewN | apply Kd.R_drew)); exact HO_13.out⟩, ⟨ZK⟩, ⟨ZB⟩⟩
          ·rw [if_neg c65] at H
           have c65b0 : decide (0 < t183) = false := decide_eq_false c65
           clear c65
           have H' := Aside0.mk H
           clear H
           obtain ⟨Ao81, co81, eo81⟩ := Kd.R_slice HO_11.out
           subst eo81
           have p203 : 0 ≤ (x97_2 : Int) := of_decide_eq_true ZD
           have q203 : x97_2 < (x11_2.length : Int) := of_decide_eq_true ZD
           obtain ⟨ad203, e203, hx203_0⟩ := Kd.at_int (Kd.R_reads' HO_11.out).2.2 x97_2 p203 q203
           cases e203
           replace p203 := eq_true p203
           replace q203 := eq_true q203
           have p64 : 0 ≤ (x97_2 : Int) := of_decide_eq_true ZD
           have q64 : (x97_2 : Int) < ((x11_2.length : Int) : Int) := of_decide_eq_true ZD
           obtain ⟨go64, co64, eo64, gb64, gl64, cl64, HG64⟩ := Kd.R_form HO_11.out (by omega)
           (first | cases eo64 | (injection eo64 with ea_ en_ ec_; (first | subst ea_ | (injection ea_ with ea_; subst ea_)); subst ec_; clear en_))
           have GB64 := Aside0.mk gb64
           have GG64 := Aside0.mk HG64
           clear gb64 gl64 HG64
           have HMgo64 := Aside0.mk (show (P0_ go64 ∨ w.heap.size ≤ go64) from (HO_11.out.1 _ rfl).1)
           (first | simp only [add_plain] at hx203_0 | skip)
           obtain ⟨hx64_0, hf64_0⟩ := Kd.R_celln 0 HO_11.out (x97_2 : Int) p64 q64; (try simp only [Int.toNat_natCast] at hx64_0 hf64_0)
           replace p64 := eq_true p64
           replace q64 := eq_true q64
           have HP82 := Kd.R_putg HO_11.out (x97_2 : Int) ji63
           go_wp2_with (first | ((with_reducible refine gate_store (t := 49) (p := 106) rfl ?_); refine store_event (t := 49) (p := 106) (v := ?vo_w83) (w1 := (wr.setCell ⟨go64, (x97_2 : Int).toNat, none⟩ (.int .u64 ji63))) ?hg ?ho ?hn ?hr ?_; (case ho => rfl); (case hg => rfl); (case hn => rfl); (case hr => first | (go_simp; done) | (go_simp; rfl)); intro w83 hw; have hg : wr.grownBy w83 (some go64) := (by rw [hw]; exact HP82.2); have hp_ : Kd.R (Kd.int .u64) 49 w83 w0.heap.size (fun k_ => (P0_ k_ ∨ w.heap.size ≤ k_) ∧ some k_ ≠ (v194 : Value).ownBlock) (.slice (some ⟨go64, 0, none⟩) x11_2.length co81) y204 := (by rw [hw, Ny204.out]; exact HP82.1); clear HP82; replace HO_13 := Aside0.mk (Kd.R_after (v := (.slice (some ⟨go64, 0, none⟩) x11_2.length co81)) (v1 := (.slice (some ⟨go64, 0, none⟩) x11_2.length co81)) (ok := (fun k_ => (P0_ k_ ∨ w.heap.size ≤ k_))) (ZR HO_13.out) hg (.inl rfl)); replace HB := Aside0.mk ((by rw [hw]; exact below_set (HB.out) GB64.out : Below w0.heap.size w0 w83)); replace HK := Aside0.mk (Kept.of_grown (S := (fun k_ => P0_ k_)) hg ZK (fun k_ e_ => (HO_11.out.1 k_ e_).1)); replace HO_11 := Aside0.mk (hp_); clear hg hw hp_))
           go_roundg k2
           case measure => have := HK1.out; have := HK2.out; omega
           case rel => exact ⟨(y204), (wrap64 (x97_2 + 1)), ZS, H', ⟨by have := HK1.out; have := HK2.out; omega⟩, ⟨by (try simp only [hl10_1]); (with_reducible repeat (first | apply Kd.R_alloc | apply Kd.R_drewN | apply Kd.R_drew)); exact HO_11.out⟩, ⟨by (try simp only [hl10_1]); (with_reducible repeat (first | apply Kd.R_alloc | apply Kd.R_drewN | apply Kd.R_drew)); exact HO_13.out⟩, ⟨ZK⟩, ⟨ZB⟩⟩
         ·rw [if_neg c59] at H
          have c59b0 : decide (x97_2 < (t187.length : Int)) = false := decide_eq_false c59
          (try (have c59b0y := c59b0; simp only [hl10_1] at c59b0y))
          clear c59
          obtain ⟨t208, A84, H⟩ := ZO H
          obtain ⟨c85, H⟩ := ZI H
          have c85b0 := eq_true c85
          have c85b1 : decide (0 ≤ (t187.length : Int)) = true := decide_eq_true c85
          (try (have c85b1y := c85b1; simp only [hl10_1] at c85b1y))
          clear c85
          obtain ⟨c86, H⟩ := ZI H
          have c86b0 := eq_true c86
          have c86b1 : decide ((t187.length : Int) ≤ (x11_2.length : Int)) = true := decide_eq_true c86
          (try (have c86b1y := c86b1; simp only [hl10_1] at c86b1y))
          clear c86
          obtain ⟨y211, hy211⟩ : ∃ y_ : List Int, y_ = (x11_2.take ((t187.length : Int) : Int).toNat) := ⟨_, rfl⟩
          replace H : ((exact_trim.f k2 y211).bind fun t214 => (some (t208, t214))) = some (r1, r2) := ZH hy211 H
          have Ny211 := Aside0.mk hy211
          clear hy211
          obtain ⟨t214, A87, H⟩ := ZO H
          simp only [Option.some.injEq, Prod.mk.injEq] at H
          obtain ⟨rfl, rfl⟩ := H
          try go_wp2
          replace HO_11 := Aside0.mk (Kd.R_drew HO_11.out)
          replace HO_13 := Aside0.mk (Kd.R_drew HO_13.out)
          replace HK := Aside0.mk (Kept.drew HK.out)
          replace HB := Aside0.mk (below_drew1 HB.out)
          obtain ⟨Ao89, co89, eo89⟩ := Kd.R_slice HO_11.out
          (first | subst eo89 | (injection eo89 with f1_ f2_ f3_; have f4_ := f1_.symm; have f5_ := f3_.symm; clear f1_ f2_ f3_; subst f4_; subst f5_))
          have q90 : ((t187.length : Int) : Int) ≤ ((x11_2.length : Int) : Int) := of_decide_eq_true ZD
          obtain ⟨i090, hi090, _, hsz90, _⟩ := info_parts info49
          have hcut90 := cut_to (P := Try.prog) 68 49 .i64 Try.underlying68 hi090 Ao89 x11_2.length co89 (t187.length : Int) (of_decide_eq_true ZD) q90 (Kd.R_reads' HO_11.out).2.1
          have hr90 := Kd.R_take (m := ((t187.length : Int) : Int).toNat) HO_11.out (by omega)
          have hy90 : y211.length = ((t187.length : Int) : Int).toNat := (by rw [Ny211.out, List.length_take]; omega)
          rw [← Ny211.out] at hr90
          rw [← hy90] at hr90 hcut90
          (try simp only [hl10_1] at hcut90)
          clear hy90 hi090 hsz90 HO_11
          have HO213 := Aside0.mk hr90
          clear hr90
          replace q90 := eq_true q90
          obtain ⟨Ao91, co91, eo91⟩ := Kd.R_slice HO_13.out
          (first | subst eo91 | (injection eo91 with f1_ f2_ f3_; have f4_ := f1_.symm; have f5_ := f3_.symm; clear f1_ f2_ f3_; subst f4_; subst f5_))
          refine start_ (n := 8) (S := fun w' => True) (ds := []) #[false, false, false, false, false, false, false, false] (by kernel_rfl) rfl rfl trivial (fun hHeld => ?_); refine with_tabW exact_divide.tab27 exact_divide.bits27 (fun HT_ HW_ => ?_)
          generalize wr.drew = w88 at HO_11 HO_13 HK HB HO213 hHeld ⊢
          refine ZP 0 131 #[true, false, false, false, false, false, false, false] ?_
          refine ZP 2 133 #[true, false, true, false, false, false, false, false] ?_
          refine ZP 3 134 #[true, false, true, true, false, false, false, false] ?_
          refine ZP 4 135 #[true, false, true, true, true, false, false, false] ?_
          refine one_ (i := 1) (N := some 132) #[true, true, true, true, true, false, false, false] rfl rfl (one_of HT_.out (by kernel_rfl)) (by decide) (fun K hK => ?_)
          refine goes_ Try.func79 (by kernel_rfl) rfl #[.slice Ao91 x13_1.length co91] (by rfl) rfl rfl ZA ?_
          with_reducible refine (exact_trim.calls k2 (fun k_ => some k_ = (.slice Ao91 x13_1.length co91 : Value).ownBlock) (.slice Ao91 x13_1.length co91) x13_1 t208 w0 _ ?side1 ?side2 A84.out).mono ?_
          (case side1 => repeat (first | (with_reducible first | exact HB.out | apply below_alloc | apply pw_below_drewN | apply below_drew1) | exact HB.out))
          (case side2 => exact Kd.R_tight rfl HO_13.out)
          rintro e w92 ⟨v209, rfl, ho0, hb, hkp⟩
          refine ⟨_, rfl, ?_⟩
          have HO210 := Aside0.mk (Kd.R_mono (ok' := fun k_ => (P0_ k_ ∨ w.heap.size ≤ k_) ∧ some k_ ≠ (.slice Ao89 y211.length co89 : Value).ownBlock) ho0 (fun k_ hk_ => ⟨Or.elim hk_ (fun hs_ => (HO_13.out.1 k_ (hs_).symm).1) (fun hn_ => (.inr (Nat.le_trans (by first | exact HK.out.1 | exact (show Kept w _ (fun k_ => P0_ k_) from ZK).1) hn_))), Or.elim hk_ (fun hs_ => fun e_ => (((HO213.out).1 k_ e_.symm).2) hs_) (fun hn_ => (Kd.fresh' (Kd.R_lt (ZR HO213.out)) k_ hn_))⟩))
          replace HO213 := Aside0.mk (Kd.R_mono (ok' := fun k_ => (P0_ k_ ∨ w.heap.size ≤ k_) ∧ some k_ ≠ (v209 : Value).ownBlock) (Kd.R_keptB (HO213.out) hkp (fun k_ hk_ hs_ => (hk_.2) hs_)) (fun k_ hk_ => ⟨hk_.1.1, fun e_ => Or.elim (ho0.1 k_ e_.symm) (fun hs_ => hk_.2.1 hs_) (fun hn_ => Nat.not_le.2 hk_.2.2 hn_)⟩))
          replace HK := Aside0.mk (Kept.then_ (S := (fun k_ => P0_ k_)) ZK hkp (fun k_ hs_ => (fun e_ => (HO_13.out.1 k_ e_.symm).1) hs_))
          replace HB := Aside0.mk (hb)
          clear HO_13
          (try clear hb)
          (try clear hkp)
          (try clear ho0)
          refine hK.out _ _ trivial (fun hHeld => ?_)
          clear hK K
          refine norm_ (a' := ?_) ?_ ?_
          rotate_left
          ·show Act.put _ (some 132) _ = _
           simp only [Act.put, List.setIfInBounds_toArray, List.set_cons_zero, List.set_cons_succ, i64_w, i32_w]
           rfl
          refine one_ (i := 5) (N := some 136) #[true, true, true, true, true, true, false, false] rfl rfl (one_of HT_.out (by kernel_rfl)) (by decide) (fun K hK => ?_)
          refine goes_ Try.func79 (by kernel_rfl) rfl #[.slice Ao89 y211.length co89] (by rfl) rfl rfl ZA ?_
          with_reducible refine (exact_trim.calls k2 (fun k_ => some k_ = (.slice Ao89 y211.length co89 : Value).ownBlock) (.slice Ao89 y211.length co89) y211 t214 w0 _ ?side1 ?side2 A87.out).mono ?_
          (case side1 => repeat (first | (with_reducible first | exact HB.out | apply below_alloc | apply pw_below_drewN | apply below_drew1) | exact HB.out))
          (case side2 => exact Kd.R_tight rfl HO213.out)
          rintro e w93 ⟨v215, rfl, ho0, hb, hkp⟩
          refine ⟨_, rfl, ?_⟩
          have HO216 := Aside0.mk (Kd.R_mono (ok' := fun k_ => (P0_ k_ ∨ w.heap.size ≤ k_) ∧ some k_ ≠ (v209 : Value).ownBlock) ho0 (fun k_ hk_ => ⟨Or.elim hk_ (fun hs_ => (HO213.out.1 k_ (hs_).symm).1) (fun hn_ => (.inr (Nat.le_trans (by first | exact HK.out.1 | exact (show Kept w _ (fun k_ => P0_ k_) from ZK).1) hn_))), Or.elim hk_ (fun hs_ => fun e_ => (((HO210.out).1 k_ e_.symm).2) hs_) (fun hn_ => (Kd.fresh' (Kd.R_lt (ZR HO210.out)) k_ hn_))⟩))
          replace HO210 := Aside0.mk (Kd.R_mono (ok' := fun k_ => (P0_ k_ ∨ w.heap.size ≤ k_) ∧ some k_ ≠ (v215 : Value).ownBlock) (Kd.R_keptB (HO210.out) hkp (fun k_ hk_ hs_ => (hk_.2) hs_)) (fun k_ hk_ => ⟨hk_.1.1, fun e_ => Or.elim (ho0.1 k_ e_.symm) (fun hs_ => hk_.2.1 hs_) (fun hn_ => Nat.not_le.2 hk_.2.2 hn_)⟩))
          replace HK := Aside0.mk (Kept.then_ (S := (fun k_ => P0_ k_)) ZK hkp (fun k_ hs_ => (fun e_ => (HO213.out.1 k_ e_.symm).1) hs_))
          replace HB := Aside0.mk (hb)
          clear HO213
          (try clear hb)
          (try clear hkp)
          (try clear ho0)
          refine hK.out _ _ trivial (fun hHeld => ?_)
          clear hK K
          refine norm_ (a' := ?_) ?_ ?_
          rotate_left
          ·show Act.put _ (some 136) _ = _
           simp only [Act.put, List.setIfInBounds_toArray, List.set_cons_zero, List.set_cons_succ, i64_w, i32_w]
           rfl
          refine ZP 6 4 #[true, true, true, true, true, true, true, false] ?_
          refine ZP 7 5 #[true, true, true, true, true, true, true, true] ?_
          refine done_ (done_of HT_.out (by kernel_rfl)) ?_
          try go_wp2
          go_ret2
          exact ⟨_, _, by first | rfl | (simp [errW_none, errW_some] <;> rfl) | (simp only [← hji29, ← hji36]; first | rfl | (simp [errW_none, errW_some] <;> rfl)) | (simp [*, errW_none, errW_some] <;> rfl), by (with_reducible repeat (first | apply Kd.R_alloc | apply Kd.R_drewN | apply Kd.R_drew)); exact HO210.out, by (with_reducible repeat (first | apply Kd.R_alloc | apply Kd.R_drewN | apply Kd.R_drew)); exact HO216.out, ZB, ZK⟩
   ·rw [if_neg c30] at H
    exact absurd H (by simp)
end Go.Proofs.Ytohkmnbnjacfaaa.All
namespace Go.Proofs.Ytohkmnbnjacfaaa.All
open Go.Proofs.YtohkmnbnjacfaaaX
open Go.RowKit Go.Proofs.YtohkmnbnjacfaaaW.PrintWords Go.Proofs.YtohkmnbnjacfaaaW.PrintLast Go.Proofs.YtohkmnbnjacfaaaW.PrintMore
attribute [local go_sem] max2_int min2_int max_two min_two max_three min_three max_four min_four
set_option linter.unusedVariables false
set_option linter.unusedSimpArgs false
def exact_words.l0 : Nat → ByteArray → List Int → Int → Int → Option (List Int)
 | 0, _, _, _, _ => none
 | k + 1, x0, x3, x12, x13 => if x13 < x12 then (if 0 ≤ (wrap64 (Int.tdiv (wrap64 ((wrap64 ((x0.size : Int) - 1)) - x13)) 8)) then (if (wrap64 (Int.tdiv (wrap64 ((wrap64 ((x0.size : Int) - 1)) - x13)) 8)) < (x3.length : Int) then (if 0 ≤ x13 then (if x13 < (x0.size : Int) then (if 0 ≤ (wrap64 (8 * (Int.tmod (wrap64 ((wrap64 ((x0.size : Int) - 1)) - x13)) 8))) then (exact_words.l0 k x0 (x3.set ((wrap64 (Int.tdiv (wrap64 ((wrap64 ((x0.size : Int) - 1)) - x13)) 8)) : Int).toNat (Go.bits .or .u64 (rd x3 (wrap64 (Int.tdiv (wrap64 ((wrap64 ((x0.size : Int) - 1)) - x13)) 8))) (shl .u64 (IntKind.u64.wrap (bt x0 x13)) (wrap64 (8 * (Int.tmod (wrap64 ((wrap64 ((x0.size : Int) - 1)) - x13)) 8)))))) x12 (wrap64 (x13 + 1))) else (none)) else (none)) else (none)) else (none)) else (none)) else ((exact_trim.f k x3).bind fun t222 => (some t222))
def exact_words.f (k : Nat) (a0 : ByteArray) : Option (List Int) := if 0 ≤ (wrap64 (Int.tdiv (wrap64 ((a0.size : Int) + 7)) 8)) then (if (wrap64 (Int.tdiv (wrap64 ((a0.size : Int) + 7)) 8) : Int).toNat ≤ 35184372088832 then (exact_words.l0 k a0 (List.replicate (wrap64 (Int.tdiv (wrap64 ((a0.size : Int) + 7)) 8) : Int).toNat 0) (a0.size : Int) 0) else (none)) else (none)
theorem exact_words.U1 {g : Prop} (h : g := by
 repeat' first
 | (with_reducible exact ih0 _ _ _ _)
 | (with_reducible exact exact_trim.mono _ _)
 | (with_reducible exact LeO.refl _)
 | (with_reducible exact LeO.none _)
 | (with_reducible refine LeO.ite ?_ ?_)
 | (with_reducible refine LeO.bind ?_ (fun _ => ?_))) : g := h
theorem exact_words.mono_l : ∀ k, (∀ y0 y1 y2 y3, LeO (exact_words.l0 k y0 y1 y2 y3) (exact_words.l0 (k + 1) y0 y1 y2 y3))
 | 0 => fun _ _ _ _ r h => by simp [exact_words.l0] at h
 | k + 1 => by
  have ih0 := exact_words.mono_l k
  ·intro y0 y1 y2 y3
   unfold exact_words.l0
   exact exact_words.U1
theorem exact_words.mono : ∀ a0 k, LeO (exact_words.f k a0) (exact_words.f (k + 1) a0) := by
 intro a0 k
 have ih0 := exact_words.mono_l k
 unfold exact_words.f
 exact exact_words.U1
def exact_words.T6 : Bool × List (List Nat × List Nat) := (true, [([], []), ([], []), ([1], [1]), ([0, 2], [0, 2]), ([3], [3]), ([], []), ([], []), ([5, 6], [5, 6]), ([7], [7]), ([], []), ([9], [9]), ([10], [10]), ([8, 11], [8, 11]), ([4, 12], [4, 12]), ([0, 2, 0, 1, 2, 3, 4, 5, 6, 7, 8, 9, 10, 11, 12, 13], [0, 2]), ([14, 13, 0, 1, 2, 3, 4, 5, 6, 7, 8, 9, 10, 11, 12, 13], [13, 14])])
def exact_words.B6 : List Nat := [0, 0, 2, 7, 15, 0, 0, 96, 224, 0, 512, 1536, 4064, 8191, 16383, 32767]
theorem exact_words.tab6 : rtab .any (opsOf Try.f70 6) = exact_words.T6 := by kernel_rfl
theorem exact_words.bits6 : waitsOk exact_words.T6.2 exact_words.B6 = true := by kernel_rfl
set_option maxHeartbeats 8000000 in
set_option maxRecDepth 100000 in
theorem exact_words.calls (k : Nat) (a0 : ByteArray) (r : List Int) (w : World) (h : exact_words.f k a0 = some r) :
  Calls Try.prog 70 #[.string a0] w fun e w' => ∃ v0_ : Value, e = .returned (v0_) ∧ Kd.R (Kd.int .u64) 49 w' w.heap.size (fun _ => True) v0_ r ∧ Below w.heap.size w w' := by
 have HB := Aside0.mk (Below.refl w.heap.size w)
 have H := h
 unfold exact_words.f at H
 clear h
 obtain ⟨ji2, hji2⟩ : ∃ j_ : Int, (wrap64 (Int.tdiv (wrap64 ((a0.size : Int) + 7)) 8)) = j_ := ⟨_, rfl⟩
 (first | rw [hji2] at H | simp only [hji2] at H)
 have hji2w : (IntKind.i64.wrap (Int.tdiv (wrap64 ((a0.size : Int) + 7)) 8)) = ji2 := (i64_w _).trans hji2
 by_cases c3 : 0 ≤ (ji2)
 ·rw [if_pos c3] at H
  have c3b0 := eq_true c3
  have c3b1 : decide (0 ≤ (ji2)) = true := decide_eq_true c3
  clear c3
  obtain ⟨c4, H⟩ := ZI H
  have c4b0 := eq_true c4
  have c4b1 : decide ((ji2 : Int).toNat ≤ 35184372088832) = true := decide_eq_true c4
  clear c4
  obtain ⟨y217, hy217⟩ : ∃ y_ : List Int, y_ = (List.replicate (ji2 : Int).toNat 0) := ⟨_, rfl⟩
  replace H : (exact_words.l0 k a0 y217 (a0.size : Int) 0) = some r := ZH hy217 H
  have Ny217 := Aside0.mk hy217
  clear hy217
  have H' := Aside0.mk H
  clear H
  go_enter Try.func70, Try.ntmps70
  go_wp2_with (first | ((with_reducible refine gate_dst (N := 10) rfl ?_); refine Kd.R_make (Kd.int .u64) _ 49 rfl (N := 10) rfl 68 _ _ rfl ji2 rfl rfl Try.underlying68 (.int .u64 0) 8 info49 rfl (by decide) (by omega) 0 (ok := fun _ => True) (okp := fun _ => True) rfl (fun _ hk => hk) trivial (of_decide_eq_true ZD) (Nat.le_trans (Nat.mul_le_mul_right _ (of_decide_eq_true ZD : ji2.toNat ≤ 35184372088832)) (by omega)) (Below.refl _ _) (Nat.le_refl _) ?_; intro v218 w5 ho6 hb hg_ hnew_; clear hg_ hnew_; (first | rw [← Ny217.out] at ho6 | (simp only [Int.reduceToNat] at ho6; rw [← Ny217.out] at ho6)); have HO219 := Aside0.mk (Kd.R_lower ho6 (below_size ZB)); replace HB := Aside0.mk (below_step ZB hb); clear hb ho6))
  go_loopg [13] k (fun kq v13 w' => ∃ (x3_1 : List Int) (x13_1 : Int), v13 = .int .i64 x13_1 ∧ Aside0 (exact_words.l0 kq a0 x3_1 (a0.size : Int) x13_1 = some r) ∧ Aside0 (kq ≤ k) ∧ Aside0 (Kd.R (Kd.int .u64) 49 w' w.heap.size (fun _ => True) v218 x3_1) ∧ Aside0 (Below w.heap.size w w'))
  case atStart => exact ⟨(y217), (0), ZS, H', ⟨Nat.le_refl _⟩, ⟨by (with_reducible repeat (first | apply Kd.R_alloc | apply Kd.R_drewN | apply Kd.R_drew)); exact HO219.out⟩, ⟨ZB⟩⟩
  case round =>
   clear H'
   try clear c3
   try clear c3b0
   try clear c3b1
   try clear c4
   try clear c4b0
   try clear c4b1
   obtain ⟨x3_1, x13_1, rfl, HA, HK1, HO_3, HB⟩ := hrel
   cases gk with
   | zero => exact absurd HA.out (by simp [exact_words.l0])
   | succ k1 =>
    have H := HA.out
    clear HA
    simp only [exact_words.l0] at H
    by_cases c7 : x13_1 < (a0.size : Int)
    ·rw [if_pos c7] at H
     have c7b0 : decide (x13_1 < (a0.size : Int)) = true := decide_eq_true c7
     clear c7
     obtain ⟨ji8, hji8⟩ : ∃ j_ : Int, (wrap64 (Int.tdiv (wrap64 ((wrap64 ((a0.size : Int) - 1)) - x13_1)) 8)) = j_ := ⟨_, rfl⟩
     (first | rw [hji8] at H | simp only [hji8] at H)
     have hji8w : (IntKind.i64.wrap (Int.tdiv (wrap64 ((wrap64 ((a0.size : Int) - 1)) - x13_1)) 8)) = ji8 := (i64_w _).trans hji8
     obtain ⟨c9, H⟩ := ZI H
     have c9b0 : decide (0 ≤ (ji8)) = true := decide_eq_true c9
     clear c9
     obtain ⟨c10, H⟩ := ZI H
     have c10b0 : decide ((ji8) < (x3_1.length : Int)) = true := decide_eq_true c10
     clear c10
     obtain ⟨c11, H⟩ := ZI H
     have c11b0 : decide (0 ≤ x13_1) = true := decide_eq_true c11
     clear c11
     obtain ⟨c12, H⟩ := ZI H
     have c12b0 : decide (x13_1 < (a0.size : Int)) = true := decide_eq_true c12
     clear c12
     obtain ⟨ji14, hji14⟩ : ∃ j_ : Int, (wrap64 (8 * (Int.tmod (wrap64 ((wrap64 ((a0.size : Int) - 1)) - x13_1)) 8))) = j_ := ⟨_, rfl⟩
     (first | rw [hji14] at H | simp only [hji14] at H)
     have hji14w : (IntKind.i64.wrap (8 * (Int.tmod (wrap64 ((wrap64 ((a0.size : Int) - 1)) - x13_1)) 8))) = ji14 := (i64_w _).trans hji14
     obtain ⟨c15, H⟩ := ZI H
     have c15b0 := eq_true c15
     have c15b1 : decide (0 ≤ (ji14)) = true := decide_eq_true c15
     clear c15
     obtain ⟨ji16, hji16⟩ : ∃ j_ : Int, (shl .u64 (IntKind.u64.wrap (bt a0 x13_1)) (ji14)) = j_ := ⟨_, rfl⟩
     (first | rw [hji16] at H | simp only [hji16] at H)
     have hji16_ : (IntKind.u64.wrap ((IntKind.u64.wrap (bt a0 x13_1)) * 2 ^ min (ji14).toNat 64)) = ji16 := hji16
     have hji16z : (ji14) ≤ 64 → (IntKind.u64.wrap ((IntKind.u64.wrap (bt a0 x13_1)) * 2 ^ (ji14).toNat)) = ji16 := shl_small hji16
     generalize hy221 : (x3_1.set ((ji8) : Int).toNat (Go.bits .or .u64 (rd x3_1 (ji8)) (ji16))) = y221 at H
     have Ny221 := Aside0.mk hy221.symm
     clear hy221
     have H' := Aside0.mk H
     clear H
     try go_wp2
     replace HO_3 := Aside0.mk (Kd.R_drew HO_3.out)
     replace HB := Aside0.mk (below_drew1 HB.out)
     obtain ⟨Ao19, co19, eo19⟩ := Kd.R_slice HO_3.out
     (first | subst eo19 | (injection eo19 with f1_ f2_ f3_; have f4_ := f1_.symm; have f5_ := f3_.symm; clear f1_ f2_ f3_; subst f4_; subst f5_))
     have p220 : 0 ≤ ((ji8) : Int) := of_decide_eq_true ZD
     have q220 : (ji8) < (x3_1.length : Int) := of_decide_eq_true ZD
     obtain ⟨ad220, e220, hx220_0⟩ := Kd.at_int (Kd.R_reads' HO_3.out).2.2 (ji8) p220 q220
     cases e220
     replace p220 := eq_true p220
     replace q220 := eq_true q220
     have p13 : 0 ≤ (x13_1 : Int) := of_decide_eq_true ZD
     have q13 : x13_1 < (a0.size : Int) := of_decide_eq_true ZD
     have hx13 := bt_at a0 x13_1
     replace p13 := eq_true p13
     replace q13 := eq_true q13
     have p17 : 0 ≤ ((ji8) : Int) := of_decide_eq_true ZD
     have q17 : ((ji8) : Int) < ((x3_1.length : Int) : Int) := of_decide_eq_true ZD
     obtain ⟨go17, co17, eo17, gb17, gl17, cl17, HG17⟩ := Kd.R_form HO_3.out (by omega)
     (first | cases eo17 | (injection eo17 with ea_ en_ ec_; (first | subst ea_ | (injection ea_ with ea_; subst ea_)); subst ec_; clear en_))
     have GB17 := Aside0.mk gb17
     have GG17 := Aside0.mk HG17
     clear gb17 gl17 HG17
     (first | simp only [add_plain] at hx220_0 | skip)
     obtain ⟨hx17_0, hf17_0⟩ := Kd.R_celln 0 HO_3.out ((ji8) : Int) p17 q17; (try simp only [Int.toNat_natCast] at hx17_0 hf17_0)
     replace p17 := eq_true p17
     replace q17 := eq_true q17
     have HP20 := Kd.R_putn HO_3.out ((ji8) : Int) (Go.bits .or .u64 (rd x3_1 (ji8)) (ji16))
     rw [← Ny221.out] at HP20
     have HQ20 := Aside0.mk HP20
     clear HP20
     refine start_ (n := 16) (S := fun w' => w'.cell? ⟨go17, ((ji8)).toNat, none⟩ = some (.int .u64 (rd x3_1 (ji8)))) (ds := [15]) #[false, false, false, false, false, false, false, false, false, false, false, false, false, false, false, false] (by kernel_rfl) rfl rfl (hx220_0) (fun hHeld => ?_); refine with_tabW exact_words.tab6 exact_words.bits6 (fun HT_ HW_ => ?_)
     generalize wr.drew = w18 at HO_3 HB GG17 HQ20 hf17_0 hx17_0 hx220_0 hHeld ⊢
     refine ZP 0 21 #[true, false, false, false, false, false, false, false, false, false, false, false, false, false, false, false] ?_
     refine ZP 1 22 #[true, true, false, false, false, false, false, false, false, false, false, false, false, false, false, false] ?_
     refine ZP 2 23 #[true, true, true, false, false, false, false, false, false, false, false, false, false, false, false, false] ?_
     refine ZP 3 24 #[true, true, true, true, false, false, false, false, false, false, false, false, false, false, false, false] ?_
     refine ZP 5 26 #[true, true, true, true, false, true, false, false, false, false, false, false, false, false, false, false] ?_
     refine ZP 6 27 #[true, true, true, true, false, true, true, false, false, false, false, false, false, false, false, false] ?_
     refine ZP 9 30 #[true, true, true, true, false, true, true, false, false, true, false, false, false, false, false, false] ?_
     refine ZP 10 31 #[true, true, true, true, false, true, true, false, false, true, true, false, false, false, false, false] ?_
     refine ZP 11 32 #[true, true, true, true, false, true, true, false, false, true, true, true, false, false, false, false] ?_
     refine take_ (i := 4) (N := some 25) (v := ?_) (a' := ?_) #[true, true, true, true, true, true, true, false, false, true, true, true, false, false, false, false] rfl rfl (take_ofW HT_.out HW_.out (by kernel_rfl)) (fun _ _ _ h => h) (Or.inl ⟨by rfl, ?_⟩) hHeld ?_ ?_
     rotate_left
     ·intro w' s0
      go_simp
      with_reducible rfl
     rotate_left
     ·simp only [Act.put, List.setIfInBounds_toArray, List.set_cons_zero, List.set_cons_succ, i64_w, i32_w]
      rfl
     refine take_ (i := 7) (N := some 28) (v := ?_) (a' := ?_) #[true, true, true, true, true, true, true, true, false, true, true, true, false, false, false, false] rfl rfl (take_ofW HT_.out HW_.out (by kernel_rfl)) (fun _ _ _ h => h) (Or.inl ⟨by rfl, ?_⟩) hHeld ?_ ?_
     rotate_left
     ·intro w' s0
      go_simp
      with_reducible rfl
     rotate_left
     ·simp only [Act.put, List.setIfInBounds_toArray, List.set_cons_zero, List.set_cons_succ, i64_w, i32_w]
      rfl
     refine ZP 8 29 #[true, true, true, true, true, true, true, true, true, true, true, true, false, false, false, false] ?_
     refine ZP 12 33 #[true, true, true, true, true, true, true, true, true, true, true, true, true, false, false, false] ?_
     refine ZP 13 34 #[true, true, true, true, true, true, true, true, true, true, true, true, true, true, false, false] ?_
     refine ZP 14 35 #[true, true, true, true, true, true, true, true, true, true, true, true, true, true, true, false] ?_
     refine last_ (i := 15) (N := none) #[true, true, true, true, true, true, true, true, true, true, true, true, true, true, true, true] rfl rfl (one_of HT_.out (by kernel_rfl)) (by decide) (fun K hK => ?_)
     refine skip_ (w1 := ?_) (by rfl) rfl ?_ ?_
     rotate_left
     ·go_simp
      rfl
     refine hK.out _ _ ?_
     clear hK K
     refine done_ (done_of HT_.out (by kernel_rfl)) ?_
     try go_wp2
     go_roundg k1
     case measure => have := HK1.out; omega
     case rel => exact ⟨(y221), (wrap64 (x13_1 + 1)), ZS, H', ⟨by have := HK1.out; omega⟩, ⟨by (with_reducible repeat (first | apply Kd.R_alloc | apply Kd.R_drewN | apply Kd.R_drew)); exact HQ20.out⟩, ⟨ZBS⟩⟩
    ·rw [if_neg c7] at H
     have c7b0 : decide (x13_1 < (a0.size : Int)) = false := decide_eq_false c7
     clear c7
     obtain ⟨t222, A21, H⟩ := ZO H
     obtain rfl := Option.some.inj H
     obtain ⟨Ao22, co22, eo22⟩ := Kd.R_slice HO_3.out
     subst eo22
     go_wp2_with (first | ((with_reducible refine gate_callee (f := 79) rfl ?_); refine goesL_ (some 38) rfl rfl Try.func79 (by kernel_rfl) rfl #[.slice Ao22 x3_1.length co22] rfl ZA ?_; (with_reducible refine (exact_trim.calls k1 (fun k_ => some k_ = (.slice Ao22 x3_1.length co22 : Value).ownBlock) (.slice Ao22 x3_1.length co22) x3_1 t222 w _ ?side1 ?side2 A21.out).mono ?_); (case side1 => repeat (first | (with_reducible first | exact HB.out | apply below_alloc | apply pw_below_drewN | apply below_drew1) | exact HB.out)); (case side2 => exact Kd.R_tight rfl HO_3.out); rintro e w23 ⟨v223, rfl, ho0, hb, hkp⟩; refine ⟨_, rfl, ?_⟩; have HO224 := Aside0.mk (Kd.R_mono (ok' := fun k_ => True) ho0 (fun k_ hk_ => trivial)); replace HB := Aside0.mk (hb); clear HO_3; (try clear hb); (try clear hkp); (try clear ho0)))
     go_ret
     exact ⟨_, by first | rfl | (simp [errW_none, errW_some] <;> rfl) | (simp only [← hji2]; first | rfl | (simp [errW_none, errW_some] <;> rfl)) | (simp [*, errW_none, errW_some] <;> rfl), by (with_reducible repeat (first | apply Kd.R_alloc | apply Kd.R_drewN | apply Kd.R_drew)); exact HO224.out, ZB⟩
 ·rw [if_neg c3] at H
  exact absurd H (by simp)
end Go.Proofs.Ytohkmnbnjacfaaa.All
