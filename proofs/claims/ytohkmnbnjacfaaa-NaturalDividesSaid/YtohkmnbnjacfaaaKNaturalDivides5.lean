/- Part of the proof of the statement NaturalDivides: lemmas on the model's steps, Lean functions that say what the program's functions compute, and proofs that the calls do just that. No hypothesis is added. -/
import Derived.Test.YtohkmnbnjacfaaaKNaturalDivides4
set_option linter.all false
set_option linter.unusedVariables false
namespace Go.Proofs.YtohkmnbnjacfaaaN
open Go.RowKit Go.Proofs.Ytohkmnbnjacfaaa.All Go.Proofs.YtohkmnbnjacfaaaW.PrintWords Go.Proofs.YtohkmnbnjacfaaaW.PrintLast Go.Proofs.YtohkmnbnjacfaaaW.PrintMore
theorem Gcd_l0 : ∀ (n m : Nat), (d64 m).length ≤ 1099511627000 → (d64 n).length ≤ 1099511627000 → Ev (fun k => exact_NatGcd.l0 k (d64 m) (d64 n)) (nat (Nat.gcd m n)) := by
  intro n
  induction n using Nat.strongRecOn with
  | _ n ih =>
    intro m hm hn
    by_cases h : n = 0
    · subst h
      have p := pack_ev (d64_dig m) (by omega)
      rw [d64_val, Int.toNat_natCast] at p
      rw [Nat.gcd_zero_right]
      refine Ev.step (f := fun k => (exact_pack.f k (d64 m)).bind fun t => some t) (fun k => ?_) (Ev.bind p (Ev.now _))
      simp only [exact_NatGcd.l0]
      rw [d64_zero, if_neg (by decide)]
    · have hpos : 0 < (d64 n).length := by
        rcases Nat.eq_zero_or_pos (d64 n).length with h1 | h1
        · exfalso
          have := d64_val n
          rw [List.eq_nil_of_length_eq_zero h1] at this
          simp [vB] at this
          omega
        · exact h1
      have hlt := Nat.mod_lt m (Nat.pos_of_ne_zero h)
      have hl : (d64 (m % n)).length ≤ (d64 n).length := d64_len_mono (Nat.le_of_lt hlt)
      have e : Nat.gcd m n = Nat.gcd n (m % n) := by rw [Nat.gcd_comm m n, Nat.gcd_rec n m, Nat.gcd_comm]
      rw [e]
      refine Ev.step (f := fun k => (exact_divide.f k (d64 m) (d64 n)).bind fun bt264 => exact_NatGcd.l0 k (d64 n) bt264.2) (fun k => ?_) (Ev.bind (divide_ev hm hn (Nat.pos_of_ne_zero h)) (ih (m % n) hlt n hn (by omega)))
      simp only [exact_NatGcd.l0]
      rw [if_pos (by omega)]
theorem NatGcd_ev {m n : Nat} (hm : (nat m).size ≤ 1099511627776) (hn : (nat n).size ≤ 1099511627776) : Ev (fun k => exact_NatGcd.f k (nat m) (nat n)) (nat (Nat.gcd m n)) := by
  have lm := words_len m
  have ln := words_len n
  exact Ev.bind (words_nat hm) (Ev.bind (words_nat hn) (Gcd_l0 n m (by omega) (by omega)))
def divR (m n : Nat) : ByteArray × ByteArray × Int := if n = 0 then (⟨#[]⟩, ⟨#[]⟩, 6) else (nat (m / n), nat (m % n), 0)
theorem nat_empty {n : Nat} : (nat n).toList = ([] : List UInt8) ↔ n = 0 := by rw [toList_nil, nat_size_zero]
theorem DivMod_ev {m n : Nat} (hm : (nat m).size ≤ 1024) (hn : (nat n).size ≤ 1024) : Ev (fun k => natural_DivMod.f k (nat m) (nat n)) (divR m n) := by
  have h := first2 (nat m) (nat n)
  rw [firstErr_ok hm hn] at h
  refine Ev.bind h (Ev.congr (fun k => if_pos rfl) ?_)
  unfold divR
  by_cases h0 : n = 0
  · rw [if_pos h0]
    exact Ev.congr (fun k => if_pos (nat_empty.2 h0)) (Ev.now _)
  · rw [if_neg h0]
    exact Ev.congr (fun k => if_neg (fun h => h0 (nat_empty.1 h))) (Ev.bind (NatDivMod_ev (by omega) (by omega) (by omega)) (Ev.now _))
theorem DivMod_ok {m n : Nat} (hm : (nat m).size ≤ 1024) (hn : (nat n).size ≤ 1024) (h0 : n ≠ 0) : Ev (fun k => natural_DivMod.f k (nat m) (nat n)) (nat (m / n), nat (m % n), 0) := by
  have := DivMod_ev hm hn
  unfold divR at this
  rwa [if_neg h0] at this
theorem Gcd_ev {m n : Nat} (hm : (nat m).size ≤ 1024) (hn : (nat n).size ≤ 1024) : Ev (fun k => natural_Gcd.f k (nat m) (nat n)) (nat (Nat.gcd m n), 0) := by
  have h := first2 (nat m) (nat n)
  rw [firstErr_ok hm hn] at h
  exact Ev.bind h (Ev.congr (fun k => if_pos rfl) (Ev.bind (NatGcd_ev (by omega) (by omega)) (Ev.now _)))
theorem guard2 {a b : ByteArray} (h : (if chk a = 0 then chk b else chk a) = 0) : ∃ m n, a = nat m ∧ b = nat n ∧ (nat m).size ≤ 1024 ∧ (nat n).size ≤ 1024 := by
  have ha : chk a = 0 := by
    by_cases h1 : chk a = 0
    · exact h1
    · rw [if_neg h1] at h; exact h
  rw [if_pos ha] at h
  obtain ⟨m, h1, h2⟩ := number ha
  obtain ⟨n, h3, h4⟩ := number h
  exact ⟨m, n, h1, h3, h2, h4⟩
end Go.Proofs.YtohkmnbnjacfaaaN
set_option linter.unusedVariables false
namespace Go.Proofs.Ytohkmnbnjacfaaa.Pure
open Go.RowKit Go.Proofs.Ytohkmnbnjacfaaa.All Go.Proofs.YtohkmnbnjacfaaaN Go.Proofs.YtohkmnbnjacfaaaW.PrintWords Go.Proofs.YtohkmnbnjacfaaaW.PrintLast
theorem NaturalDivides : galoislaw01_NaturalDivides.Pure := by
  intro a b _ _
  apply Ev.rounds
  have skip : Ev (fun k => galoislaw01_NaturalDivides.j0 k a b true) true :=
    Ev.step (f := fun k => (galoislaw01_awake.f k).bind fun t => some t) (fun k => rfl) (Ev.bind awake_ev (Ev.now _))
  refine Ev.bind awake_ev ?_
  refine Ev.congr (fun k => if_pos rfl) ?_
  refine ev_some (long_eq a b 200) ?_
  by_cases h1 : (decide ((a.size : Int) > 200) || decide ((b.size : Int) > 200)) = true
  · exact Ev.congr (fun k => if_pos h1) skip
  refine Ev.congr (fun k => if_neg h1) ?_
  refine ev_some (expected_eq a b) ?_
  by_cases h3 : ¬ (if chk a = 0 then chk b else chk a) = 0
  · exact Ev.congr (fun k => if_neg h3) skip
  replace h3 := Decidable.not_not.1 h3
  refine Ev.congr (fun k => if_pos h3) ?_
  obtain ⟨m, n, rfl, rfl, -, -⟩ := guard2 h3
  by_cases h0 : n = 0
  · have : ((nat n).toList == ([] : List UInt8)) = true := by rw [nat_empty.2 h0]; rfl
    rw [this]
    exact skip
  have this : ((nat n).toList == ([] : List UInt8)) = false := by
    rw [beq_eq_false_iff_ne]
    exact fun h => h0 (nat_empty.1 h)
  rw [this]
  clear skip this h3
  simp only [Bool.or_eq_true, decide_eq_true_eq] at h1
  have sm : (nat m).size ≤ 200 := by omega
  have sn : (nat n).size ≤ 200 := by omega
  clear h1
  have hpos : 0 < n := Nat.pos_of_ne_zero h0
  have hlt := Nat.mod_lt m hpos
  have hg : Nat.gcd m n ≠ 0 := Nat.ne_of_gt (Nat.gcd_pos_of_pos_right m hpos)
  have s1 := size_mono (Nat.div_le_self m n)
  have s2 := size_mono (Nat.le_of_lt hlt)
  have s3 := size_mono (Nat.gcd_le_right m hpos)
  have s4 := size_mul (m := m / n) (n := n)
  have e1 : m / n * n + m % n = m := by rw [Nat.mul_comm]; exact Nat.div_add_mod m n
  have e2 : cmpN (m % n) n = -1 := by unfold cmpN; rw [if_pos hlt]
  have e3 : m % Nat.gcd m n = 0 := Nat.mod_eq_zero_of_dvd (Nat.gcd_dvd_left m n)
  have e4 : n % Nat.gcd m n = 0 := Nat.mod_eq_zero_of_dvd (Nat.gcd_dvd_right m n)
  refine Ev.step (fun k => rfl) ?_
  simp only [galoislaw01_NaturalDivides.j0, Bool.false_eq_true, if_false]
  refine Ev.bind (DivMod_ok (by omega) (by omega) h0) ?_
  refine Ev.bind (Mul_ok (by omega) (by omega) (by omega)) ?_
  refine Ev.bind (Add_ok (by omega) (by omega) (by rw [e1]; omega)) ?_
  refine Ev.bind (Compare_ev (by omega) (by omega)) ?_
  refine Ev.bind (Gcd_ev (by omega) (by omega)) ?_
  refine Ev.bind (DivMod_ok (by omega) (by omega) hg) ?_
  refine Ev.bind (DivMod_ok (by omega) (by omega) hg) ?_
  refine Ev.congr (f := fun _ => some true) (fun k => ?_) (Ev.now _)
  rw [e1, e2, e3, e4]
  have z : (nat 0).toList = ([] : List UInt8) := nat_empty.2 rfl
  simp [z]
end Go.Proofs.Ytohkmnbnjacfaaa.Pure
