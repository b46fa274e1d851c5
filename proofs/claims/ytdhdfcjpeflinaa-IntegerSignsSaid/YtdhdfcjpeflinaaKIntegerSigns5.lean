/- Part of the proof of the statement IntegerSigns: lemmas on the model's steps, Lean functions that say what the program's functions compute, and proofs that the calls do just that. No hypothesis is added. -/
import Derived.Test.YtdhdfcjpeflinaaKIntegerSigns4
set_option linter.all false
set_option linter.unusedVariables false
namespace Go.Proofs.YtdhdfcjpeflinaaN
open Go.RowKit Go.Proofs.Ytdhdfcjpeflinaa.All Go.Proofs.YtdhdfcjpeflinaaW.PrintWords Go.Proofs.YtdhdfcjpeflinaaW.PrintLast Go.Proofs.YtdhdfcjpeflinaaW.PrintMore
theorem rDivMod_ev {m n : Nat} (hm : (nat m).size ≤ 1099511627776) (hn : (nat n).size ≤ 1099511627776) : Ev (fun k => galoisref01_DivMod.f k (nat m) (nat n)) (if n = 0 then (⟨#[]⟩, ⟨#[]⟩) else (nat (m / n), nat (m % n))) := by
 by_cases h0 : n = 0
 ·rw [if_pos h0]
  exact Ev.congr (fun k => if_pos (nat_empty.2 h0)) (Ev.now _)
 ·rw [if_neg h0]
  refine Ev.congr (fun k => if_neg (fun h => h0 (nat_empty.1 h))) ?_
  refine Ev.bind (limbs_nat hm) (Ev.bind (limbs_nat hn) ?_)
  have lm := limbs_len m
  have ln := limbs_len n
  have hpos := d32_pos (Nat.pos_of_ne_zero h0)
  obtain ⟨N, hN⟩ : ∃ N, (d32 n).length = N + 1 := ⟨(d32 n).length - 1, by omega⟩
  have e1 : mx 0 (wrap64 ((wrap64 (((d32 m).length : Int) - ((d32 n).length : Int))) + 1)) = (((d32 m).length + 1 - (N + 1) : Nat) : Int) := by
   rw [w64 (x := ((d32 m).length : Int) - ((d32 n).length : Int)) (by omega) (by omega), w64 (by omega) (by omega)]
   rcases mx_or 0 (((d32 m).length : Int) - ((d32 n).length : Int) + 1) with ⟨h, h'⟩ | ⟨h, h'⟩ <;> rw [h] <;> omega
  refine Ev.congr (fun k => if_pos (show (d32 m).length < 17592186044416 by omega)) ?_
  rw [e1]
  obtain ⟨L, hL⟩ : ∃ L, (d32 m).length + 1 - (N + 1) = L := ⟨_, rfl⟩
  rw [hL]
  clear e1
  refine Ev.congr (fun k => if_pos (Int.natCast_nonneg _)) (Ev.congr (fun k => if_pos (show ((L : Nat) : Int).toNat ≤ 35184372088832 by rw [Int.toNat_natCast]; omega)) ?_)
  refine ev_some rfl ?_
  rw [Int.toNat_natCast, List.length_replicate, hN, w64 (by omega) (by omega)]
  refine rdiv_l0 (Lu := (d32 m).length + 1) (Lq := L) (Nat.pos_of_ne_zero h0) hN (by omega) (by omega) L _ _ (Nat.le_refl _) (by omega) (by simp) (by simp) (Dig_append (d32_dig m) (Dig_cons.2 ⟨⟨by decide, by decide⟩, Dig_nil _⟩)) (Dig_replicate (by decide) L) (by simp) ?_ ?_
  ·rw [vB_append, vB_replicate, d32_val]
   simp [vB]
  ·have hx : vB B32 ((d32 m ++ [0]).drop L) = vB B32 ((d32 m).drop L) := by
    rcases Nat.lt_or_ge (d32 m).length L with h | h
    ·omega
    ·rw [List.drop_append_of_le_length h, vB_append]
     simp [vB]
   rw [hx]
   have t := trim_le (by decide) (d32_dig n) (d32_trim n) hpos
   rw [d32_val] at t
   by_cases hl0 : L = 0
   ·rw [hl0, List.drop_zero, d32_val]
    have := trim_len (by decide) (d32_dig m) (d32_dig n) (d32_trim n) (by omega)
    rwa [d32_val, d32_val] at this
   ·have h1 := vB_lt (show (0 : Int) < B32 by decide) (Dig_drop (d32_dig m) L)
    rw [List.length_drop] at h1
    have e : (d32 m).length - L = (d32 n).length - 1 := by omega
    rw [e] at h1
    exact Int.lt_of_lt_of_le h1 t
theorem rDivMod_ok {m n : Nat} (hm : (nat m).size ≤ 1099511627776) (hn : (nat n).size ≤ 1099511627776) (h0 : n ≠ 0) : Ev (fun k => galoisref01_DivMod.f k (nat m) (nat n)) (nat (m / n), nat (m % n)) := by
 have := rDivMod_ev hm hn
 rwa [if_neg h0] at this
end Go.Proofs.YtdhdfcjpeflinaaN
set_option linter.unusedVariables false
namespace Go.Proofs.YtdhdfcjpeflinaaN
open Go.RowKit Go.Proofs.Ytdhdfcjpeflinaa.All Go.Proofs.YtdhdfcjpeflinaaW.PrintWords Go.Proofs.YtdhdfcjpeflinaaW.PrintLast Go.Proofs.YtdhdfcjpeflinaaW.PrintMore
theorem bl_half {x : Nat} (h : x ≠ 0) : bl x = bl (x / 2) + 1 := by
 by_cases h1 : x = 1
 ·subst h1; rfl
 ·have h2 : x / 2 ≠ 0 := by omega
  obtain ⟨g1, g2⟩ := bl_le h2
  have g3 := bl_lt (x / 2)
  apply bl_unique h (by omega)
  ·rw [Nat.add_sub_cancel, show bl (x / 2) = bl (x / 2) - 1 + 1 by omega, Nat.pow_succ]
   omega
  ·rw [Nat.pow_succ]
   omega
theorem top_byte {n : Nat} (h : n ≠ 0) : ∃ t : Nat, bt (nat n) 0 = t ∧ 0 < t ∧ t < 256 ∧ bl n = 8 * ((nat n).size - 1) + bl t := by
 have hp : 0 < (nat n).size := Nat.pos_of_ne_zero fun h0 => h (nat_size_zero.1 h0)
 have hl := nat_size n
 have ht : bt (nat n) 0 = rd (d8 n) (((nat n).size - 1 : Nat) : Int) := by
  have := rd_reverse (d8 n) 0 (by omega)
  rw [bt_rd, nat_bytes]
  rw [show (d8 n).length - 1 - 0 = (nat n).size - 1 by omega] at this
  exact this
 have hne : bt (nat n) 0 ≠ 0 := by
  rcases nat_wf n with h1 | h1
  ·omega
  ·exact h1
 obtain ⟨b0, b1⟩ := bt_range (nat n) 0
 obtain ⟨t, ht2⟩ := Int.eq_ofNat_of_zero_le b0
 rw [ht2] at ht hne b1
 have hv := vB_all 256 (d8 n) ((nat n).size - 1 + 1) (by omega)
 rw [take_succ, d8_val, ← ht] at hv
 have lo0 := vB_nonneg (show (0 : Int) ≤ 256 by decide) (Dig_take (d8_dig n) ((nat n).size - 1))
 have lo1 := vB_lt (show (0 : Int) < 256 by decide) (Dig_take (d8_dig n) ((nat n).size - 1))
 rw [List.length_take, Nat.min_eq_left (by omega)] at lo1
 obtain ⟨l, hlo⟩ := Int.eq_ofNat_of_zero_le lo0
 rw [hlo] at hv lo1
 have hv' : l + 256 ^ ((nat n).size - 1) * t = n := by
  apply Int.ofNat_inj.1
  rw [Int.natCast_add, Int.natCast_mul, Int.natCast_pow]
  exact hv
 have lo1' : l < 256 ^ ((nat n).size - 1) := by
  apply Int.ofNat_lt.1
  rw [Int.natCast_pow]
  exact lo1
 have htp : t ≠ 0 := fun h0 => hne (by rw [h0]; rfl)
 obtain ⟨g1, g2⟩ := bl_le htp
 have g3 := bl_lt t
 refine ⟨t, ht2, by omega, by omega, ?_⟩
 have e8 : 256 ^ ((nat n).size - 1) = 2 ^ (8 * ((nat n).size - 1)) := by rw [Nat.pow_mul]
 rw [e8] at hv' lo1'
 apply bl_unique h (by omega)
 ·rw [show 8 * ((nat n).size - 1) + bl t - 1 = 8 * ((nat n).size - 1) + (bl t - 1) by omega, Nat.pow_add]
  have := Nat.mul_le_mul_left (2 ^ (8 * ((nat n).size - 1))) g2
  omega
 ·rw [Nat.pow_add]
  have := Nat.mul_le_mul_left (2 ^ (8 * ((nat n).size - 1))) (show t + 1 ≤ 2 ^ bl t by omega)
  rw [Nat.mul_add, Nat.mul_one] at this
  omega
theorem rBits_l0 : ∀ (x b : Nat), x < 256 → b + x ≤ 9223372036854775000 → Ev (fun k => galoisref01_Bits.l0 k (b : Int) (x : Int)) (((b + bl x : Nat) : Int)) := by
 intro x
 induction x using Nat.strongRecOn with
 | _ x ih =>
  intro b hx hb
  refine Ev.step (fun k => galoisref01_Bits.l0.eq_2 ..) ?_
  by_cases h : x = 0
  ·subst h
   exact Ev.congr (fun k => if_neg (by decide)) (Ev.now _)
  ·have h2 := ih (x / 2) (by omega) (b + 1) (by omega) (by omega)
   have e1 : wrap64 ((b : Int) + 1) = ((b + 1 : Nat) : Int) := by rw [w64 (by omega) (by omega)]; omega
   have e2 : Int.tdiv (x : Int) 2 % 256 = ((x / 2 : Nat) : Int) := by rw [Int.tdiv_eq_ediv_of_nonneg (by omega)]; omega
   refine Ev.congr (fun k => if_pos (show (x : Int) > 0 by omega)) ?_
   rw [e1, e2, bl_half h, show b + (bl (x / 2) + 1) = b + 1 + bl (x / 2) by omega]
   exact h2
theorem rBits_ev {n : Nat} (hn : (nat n).size ≤ 1099511627776) : Ev (fun k => galoisref01_Bits.f k (nat n)) (bl n : Int) := by
 by_cases h : n = 0
 ·subst h
  exact Ev.congr (fun k => if_pos (nat_empty.2 rfl)) (Ev.now _)
 ·have hp : 0 < (nat n).size := Nat.pos_of_ne_zero fun h0 => h (nat_size_zero.1 h0)
  obtain ⟨t, h1, h2, h3, h4⟩ := top_byte h
  refine Ev.congr (fun k => if_neg (fun h0 => h (nat_empty.1 h0))) (Ev.congr (fun k => if_pos (show 0 < ((nat n).size : Int) by omega)) ?_)
  rw [h1, w64 (x := ((nat n).size : Int) - 1) (by omega) (by omega), w64 (by omega) (by omega), show 8 * (((nat n).size : Int) - 1) = ((8 * ((nat n).size - 1) : Nat) : Int) by omega, h4]
  exact rBits_l0 t _ h3 (by omega)
theorem rTwoTo_eq {b : Nat} (hb : b ≤ 1099511627776) : galoisref01_TwoTo.f (b : Int) = some (nat (2 ^ b)) := NatTwo_eq hb
theorem rFromInt_ev {u : Nat} (hu : u < 9223372036854775808) : Ev (fun k => galoisref01_FromInt.f k (u : Int)) (nat u) := by
 have h := rOf_ev (u := u) (by omega)
 refine Ev.congr (f := fun k => (galoisref01_Of.f k (u : Int)).bind fun t => some t) (fun k => ?_) (Ev.bind h (Ev.now _))
 unfold galoisref01_FromInt.f
 rw [u64 (by omega) (by omega)]
theorem rPow_l0 : ∀ (e A X : Nat), e < 9223372036854775808 → (nat A).size + 2 * e * (nat X).size ≤ 1000000000000 → (nat X).size ≤ 1000000000000 → Ev (fun k => galoisref01_Pow.l0 k (nat X) (e : Int) (nat A)) (nat (A * X ^ e)) := by
 intro e
 induction e using Nat.strongRecOn with
 | _ e ih =>
  intro A X he hl hx
  refine Ev.step (fun k => galoisref01_Pow.l0.eq_2 ..) ?_
  by_cases h : e = 0
  ·subst h
   rw [Nat.pow_zero, Nat.mul_one]
   exact Ev.congr (fun k => if_neg (by decide)) (Ev.now _)
  ·have c1 : (e : Int) > 0 := by omega
   have e1 : Int.tmod (e : Int) 2 = ((e % 2 : Nat) : Int) := by rw [Int.tmod_eq_emod_of_nonneg (by omega)]; omega
   have e2 : wrap64 (Int.tdiv (e : Int) 2) = ((e / 2 : Nat) : Int) := by rw [Int.tdiv_eq_ediv_of_nonneg (by omega), w64 (by omega) (by omega)]; omega
   have lXX := size_mul (m := X) (n := X)
   have lAX := size_mul (m := A) (n := X)
   have hX : (nat X).size ≤ e * (nat X).size := Nat.le_mul_of_pos_left _ (Nat.pos_of_ne_zero h)
   have h2 : 2 * e * (nat X).size = 2 * (e * (nat X).size) := Nat.mul_assoc _ _ _
   have hhalf : 2 * (e / 2) * (nat (X * X)).size ≤ 4 * (e / 2 * (nat X).size) := by
    have := Nat.mul_le_mul_left (2 * (e / 2)) lXX
    have e3 : 2 * (e / 2) * ((nat X).size + (nat X).size) = 4 * (e / 2 * (nat X).size) := by
     rw [Nat.mul_add, Nat.mul_assoc]
     omega
    omega
   have hcut : 2 * (e / 2 * (nat X).size) + e % 2 * (nat X).size = e * (nat X).size := by
    rw [← Nat.mul_assoc, ← Nat.add_mul]
    congr 1
    omega
   rw [h2] at hl
   have sq := rMul_ev (m := X) (n := X) (by omega) (by omega)
   refine Ev.congr (fun k => if_pos c1) ?_
   rw [e1, e2]
   by_cases ho : e % 2 = 1
   ·rw [ho, Nat.one_mul] at hcut
    have ax := rMul_ev (m := A) (n := X) (by omega) (by omega)
    have hp : A * X ^ e = A * X * (X * X) ^ (e / 2) := by
     have : X ^ e = X * (X * X) ^ (e / 2) := by
      rw [← Nat.pow_two, ← Nat.pow_mul, Nat.mul_comm X, ← Nat.pow_succ]
      congr 1
      omega
     rw [this, Nat.mul_assoc]
    rw [hp]
    exact Ev.congr (fun k => if_pos (by rw [ho]; rfl)) (Ev.bind ax (Ev.bind sq (ih (e / 2) (by omega) _ _ (by omega) (by omega) (by omega))))
   ·have ho' : e % 2 = 0 := by omega
    rw [ho', Nat.zero_mul, Nat.add_zero] at hcut
    have hp : A * X ^ e = A * (X * X) ^ (e / 2) := by
     have : X ^ e = (X * X) ^ (e / 2) := by
      rw [← Nat.pow_two, ← Nat.pow_mul]
      congr 1
      omega
     rw [this]
    rw [hp]
    exact Ev.congr (fun k => if_neg (by rw [ho']; decide)) (Ev.bind sq (ih (e / 2) (by omega) _ _ (by omega) (by omega) (by omega)))
theorem nat_one_size : (nat 1).size = 1 := Nat.le_antisymm (nat_size_le.2 (by decide)) (Nat.pos_of_ne_zero fun h => absurd (nat_size_zero.1 h) (by decide))
theorem rPow_ev {m e : Nat} (hm : (nat m).size ≤ 100000) (he : e ≤ 100000) : Ev (fun k => galoisref01_Pow.f k (nat m) (e : Int)) (nat (m ^ e)) := by
 have h1 := rOf_ev (u := 1) (by decide)
 refine Ev.bind h1 ?_
 have h2 : 2 * e * (nat m).size ≤ 200000 * 100000 := Nat.mul_le_mul (by omega) (by omega)
 have h3 := nat_one_size
 have := rPow_l0 e 1 m (by omega) (by omega) (by omega)
 rwa [Nat.one_mul] at this
theorem sq_add (r d : Nat) : 2 * (r * (r + d)) ≤ (r + d) * (r + d) + r * r ∧ 2 * ((r + d) * r) ≤ r * r + (r + d) * (r + d) := by
 have e1 : (r + d) * (r + d) = r * r + 2 * (r * d) + d * d := by
  rw [Nat.add_mul, Nat.mul_add, Nat.mul_add, Nat.mul_comm d r]
  omega
 have e2 : r * (r + d) = r * r + r * d := Nat.mul_add ..
 rw [Nat.mul_comm (r + d) r, e1, e2]
 omega
theorem two_mul_le (r x : Nat) : 2 * (r * x) ≤ x * x + r * r := by
 rcases Nat.le_total r x with h | h
 ·obtain ⟨d, rfl⟩ : ∃ d, x = r + d := ⟨x - r, by omega⟩
  exact (sq_add r d).1
 ·obtain ⟨d, rfl⟩ : ∃ d, r = x + d := ⟨r - x, by omega⟩
  exact (sq_add x d).2
theorem mean (r x : Nat) : ∀ j : Nat, (j + 1) * (r * x ^ j) ≤ j * x ^ (j + 1) + r ^ (j + 1) := by
 intro j
 induction j with
 | zero => simp
 | succ j ih =>
  have h1 := Nat.mul_le_mul_right r ih
  have h2 := Nat.mul_le_mul_left ((j + 1) * x ^ j) (two_mul_le r x)
  have a1 : (j + 1) * (r * x ^ j) * r = (j + 1) * x ^ j * (r * r) := by ac_rfl
  have a2 : (j * x ^ (j + 1) + r ^ (j + 1)) * r = j * (r * x ^ (j + 1)) + r ^ (j + 1 + 1) := by rw [Nat.add_mul, Nat.pow_succ r (j + 1)]; ac_rfl
  have a3 : (j + 1) * x ^ j * (2 * (r * x)) = 2 * ((j + 1) * (r * x ^ (j + 1))) := by rw [Nat.pow_succ]; ac_rfl
  have a4 : (j + 1) * x ^ j * (x * x + r * r) = (j + 1) * x ^ (j + 1 + 1) + (j + 1) * x ^ j * (r * r) := by rw [Nat.mul_add, Nat.pow_succ x (j + 1), Nat.pow_succ x j]; ac_rfl
  rw [a1, a2] at h1
  rw [a3, a4] at h2
  have a5 : (j + 1 + 1) * (r * x ^ (j + 1)) = (j + 1) * (r * x ^ (j + 1)) + r * x ^ (j + 1) := Nat.succ_mul _ _
  have a6 : (j + 1) * (r * x ^ (j + 1)) = j * (r * x ^ (j + 1)) + r * x ^ (j + 1) := Nat.succ_mul _ _
  rw [a5]
  generalize (j + 1) * x ^ j * (r * r) = A at *
  generalize (j + 1) * x ^ (j + 1 + 1) = A2 at *
  generalize (j + 1) * (r * x ^ (j + 1)) = A3 at *
  generalize j * (r * x ^ (j + 1)) = A4 at *
  generalize r * x ^ (j + 1) = A5 at *
  generalize r ^ (j + 1 + 1) = A6 at *
  clear ih a1 a2 a3 a4 a5
  omega
theorem newton_gt {n x j y : Nat} (hx : 0 < x) (hy : y = (j * x + n / x ^ j) / (j + 1)) : n < (y + 1) ^ (j + 1) := by
 have hp : 0 < x ^ j := Nat.pow_pos hx
 have h1 : n < x ^ j * (n / x ^ j + 1) := Nat.lt_mul_div_succ n hp
 have h2 : j * x + n / x ^ j < (j + 1) * (y + 1) := by rw [hy]; exact Nat.lt_mul_div_succ _ (by omega)
 have h3 := mean (y + 1) x j
 have h4 := Nat.mul_le_mul_left (x ^ j) (show j * x + (n / x ^ j + 1) ≤ (j + 1) * (y + 1) by omega)
 rw [Nat.mul_add] at h4
 have a1 : x ^ j * (j * x) = j * x ^ (j + 1) := by rw [Nat.pow_succ]; ac_rfl
 have a2 : x ^ j * ((j + 1) * (y + 1)) = (j + 1) * ((y + 1) * x ^ j) := by ac_rfl
 rw [a1, a2] at h4
 generalize x ^ j * (n / x ^ j + 1) = A at *
 generalize (j + 1) * ((y + 1) * x ^ j) = A2 at *
 generalize j * x ^ (j + 1) = A3 at *
 generalize (y + 1) ^ (j + 1) = A4 at *
 clear h2 a1 a2 hy
 omega
theorem newton_stop {n x j : Nat} (hx : 0 < x) (h : x ≤ (j * x + n / x ^ j) / (j + 1)) : x ^ (j + 1) ≤ n := by
 have hp : 0 < x ^ j := Nat.pow_pos hx
 have h1 := (Nat.le_div_iff_mul_le (show 0 < j + 1 by omega)).1 h
 have h2 : x * (j + 1) = j * x + x := by rw [Nat.mul_add, Nat.mul_one, Nat.mul_comm]
 have h3 : x ≤ n / x ^ j := by omega
 have h4 := (Nat.le_div_iff_mul_le hp).1 h3
 rwa [Nat.mul_comm, ← Nat.pow_succ] at h4
theorem rRoot_l0 {n j S : Nat} (hj : j + 1 ≤ 4096) (hn : (nat n).size ≤ 4096) (hn0 : 0 < n) (hS : S ≤ 5000) : ∀ x : Nat, 0 < x → (nat x).size ≤ S → n < (x + 1) ^ (j + 1) → ∃ r, r ^ (j + 1) ≤ n ∧ n < (r + 1) ^ (j + 1) ∧ Ev (fun k => galoisref01_Root.l0 k (nat n) ((j + 1 : Nat) : Int) (nat x)) (nat r) := by
 intro x
 induction x using Nat.strongRecOn with
 | _ x ih =>
  intro hx hxs hxn
  have e1 : wrap64 (((j + 1 : Nat) : Int) - 1) = (j : Int) := by rw [w64 (by omega) (by omega)]; omega
  have hp : 0 < x ^ j := Nat.pow_pos hx
  obtain ⟨y, hy⟩ : ∃ y, y = (j * x + n / x ^ j) / (j + 1) := ⟨_, rfl⟩
  have hps : (nat (x ^ j)).size ≤ 1099511627776 := by
   have h0 : (nat (x ^ j)).size ≤ S * j + 1 := by
    apply nat_size_le.2
    have h2 : x ^ j ≤ (256 ^ S) ^ j := Nat.pow_le_pow_left (Nat.le_of_lt (nat_size_le.1 hxs)) j
    rw [← Nat.pow_mul] at h2
    exact Nat.lt_of_le_of_lt h2 (Nat.pow_lt_pow_right (by decide) (Nat.lt_succ_self _))
   have h3 : S * j ≤ 5000 * 4096 := Nat.mul_le_mul hS (by omega)
   omega
  have js : (nat j).size ≤ 2 := nat_size_le.2 (show j < 256 ^ 2 by omega)
  have js1 : (nat (j + 1)).size ≤ 2 := nat_size_le.2 (show j + 1 < 256 ^ 2 by omega)
  have s1 := size_mul (m := j) (n := x)
  have s2 := size_mono (Nat.div_le_self n (x ^ j))
  have s3 := size_add (m := j * x) (n := n / x ^ j)
  have t1 := rPow_ev (m := x) (e := j) (by omega) (by omega)
  have t2 := rDivMod_ok (m := n) (n := x ^ j) (by omega) hps (Nat.ne_of_gt hp)
  have t3 := rFromInt_ev (u := j) (by omega)
  have t4 := rMul_ev (m := j) (n := x) (by omega) (by omega)
  have t5 := rAdd_ev (m := j * x) (n := n / x ^ j) (by omega) (by omega)
  have t6 := rFromInt_ev (u := j + 1) (by omega)
  have t7 := rDivMod_ok (m := j * x + n / x ^ j) (n := j + 1) (by omega) (by omega) (by omega)
  rw [← hy] at t7
  have t8 := rCompare_ev y x
  by_cases hlt : y < x
  ·have hc : ¬ cmpN y x ≥ 0 := by unfold cmpN; rw [if_pos hlt]; decide
   have hyn := newton_gt hx hy
   have hy0 : 0 < y := by
    rcases Nat.eq_zero_or_pos y with h | h
    ·rw [h, Nat.zero_add, Nat.one_pow] at hyn
     omega
    ·exact h
   have hys := size_mono (Nat.le_of_lt hlt)
   obtain ⟨r, r1, r2, r3⟩ := ih y hlt hy0 (by omega) hyn
   refine ⟨r, r1, r2, Ev.step (fun k => galoisref01_Root.l0.eq_2 ..) ?_⟩
   rw [e1]
   exact Ev.bind t1 (Ev.bind t2 (Ev.bind t3 (Ev.bind t4 (Ev.bind t5 (Ev.bind t6 (Ev.bind t7 (Ev.bind t8 (Ev.congr (fun k => if_neg hc) r3))))))))
  ·have hc : cmpN y x ≥ 0 := by
    unfold cmpN
    rw [if_neg hlt]
    split <;> decide
   refine ⟨x, newton_stop hx (by rw [← hy]; omega), hxn, Ev.step (fun k => galoisref01_Root.l0.eq_2 ..) ?_⟩
   rw [e1]
   exact Ev.bind t1 (Ev.bind t2 (Ev.bind t3 (Ev.bind t4 (Ev.bind t5 (Ev.bind t6 (Ev.bind t7 (Ev.bind t8 (Ev.congr (fun k => if_pos hc) (Ev.now _)))))))))
theorem rRoot_ev {n K : Nat} (hK : 1 ≤ K) (hK1 : K ≤ 4096) (hn : (nat n).size ≤ 4096) : ∃ r, r ^ K ≤ n ∧ n < (r + 1) ^ K ∧ Ev (fun k => galoisref01_Root.f k (nat n) (K : Int)) (nat r) := by
 by_cases h0 : n = 0
 ·subst h0
  refine ⟨0, by rw [Nat.zero_pow (by omega)]; exact Nat.le_refl _, by rw [Nat.zero_add, Nat.one_pow]; decide, ?_⟩
  rw [nat_zero]
  exact Ev.congr (fun k => if_pos empty_toList) (Ev.now _)
 ·have hbl := bl_size (n := n)
  have hb0 : (bl n + K - 1) / K ≤ bl n := by
   obtain ⟨g1, g2⟩ := bl_le h0
   apply Nat.div_le_of_le_mul
   have : bl n + K ≤ K * bl n + 1 := by
    obtain ⟨j, rfl⟩ : ∃ j, K = j + 1 := ⟨K - 1, by omega⟩
    rw [Nat.add_mul, Nat.one_mul]
    have := Nat.le_mul_of_pos_right j g1
    omega
   omega
  have hbK : bl n ≤ (bl n + K - 1) / K * K := by
   have h1 := Nat.div_add_mod (bl n + K - 1) K
   have h2 := Nat.mod_lt (bl n + K - 1) (show K > 0 by omega)
   rw [Nat.mul_comm] at h1
   omega
  generalize hB : (bl n + K - 1) / K = B at *
  obtain ⟨j, rfl⟩ : ∃ j, K = j + 1 := ⟨K - 1, by omega⟩
  have h2 : n < (2 ^ B + 1) ^ (j + 1) := by
   refine Nat.lt_of_lt_of_le (bl_lt n) (Nat.le_trans ?_ (Nat.pow_le_pow_left (Nat.le_succ _) _))
   rw [← Nat.pow_mul]
   exact Nat.pow_le_pow_right (by decide) hbK
  have hxs : (nat (2 ^ B)).size ≤ (nat n).size + 1 := by
   apply nat_size_le.2
   have : (256 : Nat) ^ ((nat n).size + 1) = 2 ^ (8 * ((nat n).size + 1)) := by rw [Nat.pow_mul]
   rw [this]
   exact Nat.pow_lt_pow_right (by decide) (by omega)
  obtain ⟨r, r1, r2, r3⟩ := rRoot_l0 hK1 hn (Nat.pos_of_ne_zero h0) (show (nat n).size + 1 ≤ 5000 by omega) (2 ^ B) (Nat.pow_pos (by decide)) hxs h2
  refine ⟨r, r1, r2, ?_⟩
  clear h2 r1 r2 hxs
  have e1 : wrap64 ((bl n : Int) + ((j + 1 : Nat) : Int)) = ((bl n + (j + 1) : Nat) : Int) := by clear hB hbK; rw [w64 (by omega) (by omega)]; omega
  have e2 : wrap64 (((bl n + (j + 1) : Nat) : Int) - 1) = ((bl n + (j + 1) - 1 : Nat) : Int) := by clear e1 hB hbK; rw [w64 (by omega) (by omega)]; omega
  have e3 : wrap64 (Int.tdiv ((bl n + (j + 1) - 1 : Nat) : Int) ((j + 1 : Nat) : Int)) = (B : Int) := by
   clear e1 e2 hbK
   rw [Int.tdiv_eq_ediv_of_nonneg (by omega), ← Int.natCast_ediv, hB, w64 (by omega) (by omega)]
  refine Ev.congr (fun k => if_neg (fun h => h0 (nat_empty.1 h))) (Ev.bind (rBits_ev (by omega)) (Ev.congr (fun k => if_neg (show ¬ ((j + 1 : Nat) : Int) = 0 by omega)) ?_))
  rw [e1, e2, e3]
  exact ev_some (rTwoTo_eq (by omega)) r3
theorem rSqrt_ev {n : Nat} (hn : (nat n).size ≤ 4096) : ∃ r, r ^ 2 ≤ n ∧ n < (r + 1) ^ 2 ∧ Ev (fun k => galoisref01_Sqrt.f k (nat n)) (nat r) := by
 obtain ⟨r, r1, r2, r3⟩ := rRoot_ev (K := 2) (by decide) (by decide) hn
 exact ⟨r, r1, r2, Ev.bind r3 (Ev.now _)⟩
end Go.Proofs.YtdhdfcjpeflinaaN
set_option linter.unusedVariables false
namespace Go.Proofs.YtdhdfcjpeflinaaN
open Go.RowKit Go.Proofs.Ytdhdfcjpeflinaa.All Go.Proofs.YtdhdfcjpeflinaaW.PrintWords Go.Proofs.YtdhdfcjpeflinaaW.PrintLast Go.Proofs.YtdhdfcjpeflinaaW.PrintMore
def ng (x : Int) : Bool := decide (x < 0)
def ab (x : Int) : ByteArray := nat x.natAbs
def sg (s : Bool) (n : Nat) : Int := if s then -(n : Int) else n
theorem sg_true (n : Nat) : sg true n = -(n : Int) := rfl
theorem sg_false (n : Nat) : sg false n = (n : Int) := rfl
theorem ng_sg (s : Bool) (n : Nat) : ng (sg s n) = (s && !decide (n = 0)) := by
 cases s
 ·exact decide_eq_false (by rw [sg_false]; omega)
 ·by_cases h : n = 0
  ·subst h
   rfl
  ·rw [decide_eq_false h]
   exact decide_eq_true (by rw [sg_true]; omega)
theorem ab_sg (s : Bool) (n : Nat) : ab (sg s n) = nat n := by
 unfold ab
 cases s
 ·rw [sg_false, Int.natAbs_natCast]
 ·rw [sg_true, Int.natAbs_neg, Int.natAbs_natCast]
theorem ng_nat (n : Nat) : ng (n : Int) = false := decide_eq_false (by omega)
theorem ab_nat (n : Nat) : ab (n : Int) = nat n := by unfold ab; rw [Int.natAbs_natCast]
theorem ng_pos {x : Int} (h : 0 ≤ x) : ng x = false := decide_eq_false (by omega)
theorem ng_neg {x : Int} (h : x < 0) : ng x = true := decide_eq_true h
theorem isEmpty_nat (n : Nat) : (nat n).toList.isEmpty = decide (n = 0) := by
 by_cases h : n = 0
 ·rw [decide_eq_true h, List.isEmpty_iff]
  exact nat_empty.2 h
 ·rw [decide_eq_false h, Bool.eq_false_iff]
  intro h'
  exact h (nat_empty.1 (List.isEmpty_iff.1 h'))
theorem ab_size_zero {x : Int} : (ab x).size = 0 ↔ x = 0 := by unfold ab; rw [nat_size_zero]; omega
theorem ab_empty {x : Int} : (ab x).toList = ([] : List UInt8) ↔ x = 0 := by unfold ab; rw [nat_empty]; omega
theorem IMake_eq (s : Bool) (n : Nat) : exact_IntMake.f s (nat n) = some (ng (sg s n), ab (sg s n)) := by
 unfold exact_IntMake.f
 rw [ng_sg, ab_sg, isEmpty_nat]
 cases s
 ·rw [if_neg Bool.false_ne_true, Bool.false_and]
 ·rw [if_pos rfl, Bool.true_and]
theorem abs_cases (x : Int) : (x < 0 ∧ ng x = true ∧ (x.natAbs : Int) = -x) ∨ (0 ≤ x ∧ ng x = false ∧ (x.natAbs : Int) = x) := by
 by_cases h : x < 0
 ·exact Or.inl ⟨h, ng_neg h, by omega⟩
 ·exact Or.inr ⟨by omega, ng_pos (by omega), by omega⟩
theorem sg_neg (x : Int) : sg (!ng x) x.natAbs = -x := by
 rcases abs_cases x with ⟨h, h1, h2⟩ | ⟨h, h1, h2⟩
 ·rw [h1]; show ((x.natAbs : Nat) : Int) = _; omega
 ·rw [h1]; show -((x.natAbs : Nat) : Int) = _; omega
theorem INeg_eq (x : Int) : exact_IntNeg.f (ng x) (ab x) = some (ng (-x), ab (-x)) := by
 unfold exact_IntNeg.f
 rw [show exact_IntMake.f (!ng x) (ab x) = _ from IMake_eq _ _, sg_neg]
 rfl
theorem NatOf_ev {u : Nat} (hu : u < 18446744073709551616) : Ev (fun k => exact_NatOf.f k (u : Int)) (nat u) := by
 have p := pack_ev (l := [(u : Int)]) (Dig_cons.2 ⟨⟨by omega, by show _ < (18446744073709551616 : Int); omega⟩, Dig_nil _⟩) (by simp)
 have hv : vB B64 [(u : Int)] = u := by show (u : Int) + 18446744073709551616 * 0 = u; omega
 rw [hv, Int.toNat_natCast] at p
 exact Ev.bind p (Ev.now _)
def sgn (x : Int) : Int := if x < 0 then -1 else if x = 0 then 0 else 1
theorem ISign_eq (x : Int) : exact_IntSign.f (ng x) (ab x) = some (sgn x) := by
 unfold exact_IntSign.f sgn
 by_cases h : x < 0
 ·rw [ng_neg h, if_pos rfl, if_pos h]
 ·rw [ng_pos (by omega), if_neg Bool.false_ne_true, if_neg h]
  have := ab_size_zero (x := x)
  by_cases h0 : x = 0
  ·rw [if_pos h0, show (ab x).size = 0 from this.2 h0]
   rfl
  ·rw [if_neg h0]
   have : 0 < (ab x).size := Nat.pos_of_ne_zero fun h' => h0 (this.1 h')
   congr 1
   unfold mn
   split <;> omega
end Go.Proofs.YtdhdfcjpeflinaaN
set_option linter.unusedVariables false
namespace Go.Proofs.YtdhdfcjpeflinaaN
open Go.RowKit Go.Proofs.Ytdhdfcjpeflinaa.All Go.Proofs.YtdhdfcjpeflinaaW.PrintWords Go.Proofs.YtdhdfcjpeflinaaW.PrintLast Go.Proofs.YtdhdfcjpeflinaaW.PrintMore
def ick (s : Bool) (a : ByteArray) : Int := if chk a = 1 then 1 else if s = true ∧ a.size = 0 then 1 else chk a
theorem rValid_eq (s : ByteArray) : galoisref01_Valid.f s = some (decide (s.size = 0 ∨ bt s 0 ≠ 0)) := by
 unfold galoisref01_Valid.f
 by_cases h : s.size = 0
 ·rw [if_pos (toList_nil.2 h)]
  simp [h]
 ·rw [if_neg (fun h' => h (toList_nil.1 h')), if_pos (by omega)]
  by_cases h2 : bt s 0 = 0 <;> simp [h, h2]
theorem chk_one {a : ByteArray} : chk a = 1 ↔ ¬ (a.size = 0 ∨ bt a 0 ≠ 0) := by
 unfold chk
 by_cases h : 0 < a.size ∧ bt a 0 = 0
 ·rw [if_pos h]
  refine ⟨fun _ h' => ?_, fun _ => rfl⟩
  rcases h' with h' | h'
  ·omega
  ·exact h' h.2
 ·rw [if_neg h]
  refine ⟨fun h' => ?_, fun h' => absurd ⟨Nat.pos_of_ne_zero fun h2 => h' (Or.inl h2), ?_⟩ h⟩
  ·split at h' <;> exact absurd h' (by decide)
  ·rcases Decidable.em (bt a 0 = 0) with h2 | h2
   ·exact h2
   ·exact absurd (Or.inr h2) h'
theorem chk_rest {a : ByteArray} (h : chk a ≠ 1) : chk a = if (a.size : Int) > 1024 then 4 else 0 := by
 have h1 : ¬ (0 < a.size ∧ bt a 0 = 0) := fun h' => h (by unfold chk; rw [if_pos h'])
 unfold chk
 rw [if_neg h1]
 by_cases h2 : 1024 < a.size
 ·rw [if_pos h2, if_pos (by omega)]
 ·rw [if_neg h2, if_neg (by omega)]
theorem rFits1_eq (a : ByteArray) : galoisref01_Fits.f a = some (if (a.size : Int) > 1024 then 4 else 0) := by
 unfold galoisref01_Fits.f
 by_cases h : (a.size : Int) > 1024
 ·rw [if_pos h, if_pos h]
 ·rw [if_neg h, if_neg h]
theorem rFits_eq (s : Bool) (a : ByteArray) : galoisref02_Fits.f s a = some (if (a.size : Int) > 1024 then 4 else 0) := by
 unfold galoisref02_Fits.f
 rw [rFits1_eq]
 rfl
theorem rValid2_eq (s : Bool) (a : ByteArray) : galoisref02_Valid.f s a = some (decide ((a.size = 0 ∨ bt a 0 ≠ 0) ∧ ¬ (s = true ∧ a.size = 0))) := by
 unfold galoisref02_Valid.f
 rw [rValid_eq, Option.bind_some]
 by_cases h : a.size = 0 ∨ bt a 0 ≠ 0
 ·rw [if_pos (decide_eq_true h)]
  cases s
  ·rw [if_neg Bool.false_ne_true]
   congr 1
   exact (decide_eq_true ⟨h, fun h' => Bool.false_ne_true h'.1⟩).symm
  ·rw [if_pos rfl]
   congr 1
   by_cases h2 : a.size = 0
   ·rw [decide_eq_false (fun h' => h'.2 ⟨rfl, h2⟩)]
    exact bne_eq_false_iff_eq.2 (toList_nil.2 h2)
   ·have e : (a.size = 0 ∨ bt a 0 ≠ 0) ∧ ¬ (true = true ∧ a.size = 0) := ⟨h, fun h' => h2 h'.2⟩
    rw [decide_eq_true e]
    exact bne_iff_ne.2 (fun h' => h2 (toList_nil.1 h'))
 ·rw [if_neg (by rw [decide_eq_true_eq]; exact h), decide_eq_false (fun h' => h h'.1)]
theorem rCheck_eq (s : Bool) (a : ByteArray) : galoisref02_Check.f s a = some (ick s a) := by
 unfold galoisref02_Check.f ick
 rw [rValid2_eq, Option.bind_some]
 by_cases h1 : chk a = 1
 ·rw [if_pos h1, if_neg (by rw [decide_eq_true_eq]; exact fun h' => chk_one.1 h1 h'.1)]
 ·have hv : a.size = 0 ∨ bt a 0 ≠ 0 := by
   rcases Decidable.em (a.size = 0 ∨ bt a 0 ≠ 0) with h | h
   ·exact h
   ·exact absurd (chk_one.2 h) h1
  rw [if_neg h1]
  by_cases h2 : s = true ∧ a.size = 0
  ·rw [if_pos h2, if_neg (by rw [decide_eq_true_eq]; exact fun h' => h'.2 h2)]
  ·rw [if_neg h2, if_pos (decide_eq_true ⟨hv, h2⟩), rFits_eq, chk_rest h1]
   rfl
theorem RNeg_eq (x : Int) : galoisref02_Neg.f (ng x) (ab x) = some (ng (-x), ab (-x)) := INeg_eq x
theorem RSign_eq (x : Int) : galoisref02_Sign.f (ng x) (ab x) = some (sgn x) := by
 unfold galoisref02_Sign.f sgn
 by_cases h : x < 0
 ·rw [ng_neg h, if_pos rfl, if_pos h]
 ·rw [ng_pos (by omega), if_neg Bool.false_ne_true, if_neg h]
  by_cases h0 : x = 0
  ·rw [if_pos h0, if_pos (ab_empty.2 h0)]
  ·rw [if_neg h0, if_neg (fun h' => h0 (ab_empty.1 h'))]
end Go.Proofs.YtdhdfcjpeflinaaN
set_option linter.unusedVariables false
namespace Go.Proofs.YtdhdfcjpeflinaaN
open Go.RowKit Go.Proofs.Ytdhdfcjpeflinaa.All Go.Proofs.YtdhdfcjpeflinaaW.PrintWords Go.Proofs.YtdhdfcjpeflinaaW.PrintLast Go.Proofs.YtdhdfcjpeflinaaW.PrintMore
theorem ick_zero {s : Bool} {a : ByteArray} (h : ick s a = 0) : ∃ x : Int, s = ng x ∧ a = ab x ∧ (ab x).size ≤ 1024 := by
 unfold ick at h
 by_cases h1 : chk a = 1
 ·rw [if_pos h1] at h
  exact absurd h (by decide)
 ·rw [if_neg h1] at h
  by_cases h2 : s = true ∧ a.size = 0
  ·rw [if_pos h2] at h
   exact absurd h (by decide)
  ·rw [if_neg h2] at h
   obtain ⟨n, rfl, hn⟩ := number h
   refine ⟨sg s n, ?_, (ab_sg s n).symm, by rw [ab_sg]; exact hn⟩
   rw [ng_sg]
   cases s
   ·rfl
   ·rw [Bool.true_and, decide_eq_false (fun h3 => h2 ⟨rfl, by rw [h3, nat_zero]; rfl⟩)]
    rfl
theorem ick_int {x : Int} (h : (ab x).size ≤ 1024) : ick (ng x) (ab x) = 0 := by
 unfold ick
 have hc : chk (ab x) = 0 := chk_nat h
 rw [hc, if_neg (by decide), if_neg]
 rintro ⟨h1, h2⟩
 have := ab_size_zero.1 h2
 rw [this] at h1
 exact absurd h1 (by decide)
theorem empty_toList' : (⟨#[]⟩ : ByteArray).toList = ([] : List UInt8) := toList_nil.2 rfl
theorem iCheck_ev (s : Bool) (a : ByteArray) : Ev (fun k => integer_Check.f k s a) (ick s a) := by
 refine Ev.bind (Check_ev a) ?_
 by_cases h1 : chk a = 1
 ·have e : ick s a = chk a := by unfold ick; rw [if_pos h1, h1]
  rw [e]
  exact Ev.congr (fun k => if_pos h1) (Ev.now _)
 ·refine Ev.congr (fun k => if_neg h1) (ev_some (a := (false, (⟨#[]⟩ : ByteArray))) rfl ?_)
  by_cases h2 : a.size = 0
  ·have h3 : a.toList = ([] : List UInt8) := toList_nil.2 h2
   cases s
   ·have e : ick false a = chk a := by unfold ick; rw [if_neg h1, if_neg (fun h => Bool.false_ne_true h.1)]
    rw [e]
    exact Ev.congr (fun k => if_neg (by rw [h3, empty_toList']; decide)) (Ev.now _)
   ·have e : ick true a = 1 := by unfold ick; rw [if_neg h1, if_pos ⟨rfl, h2⟩]
    rw [e]
    exact Ev.congr (fun k => if_pos rfl) (Ev.congr (fun k => if_pos h3) (Ev.now _))
  ·have h3 : a.toList ≠ ([] : List UInt8) := fun h => h2 (toList_nil.1 h)
   have e : ick s a = chk a := by unfold ick; rw [if_neg h1, if_neg (fun h => h2 h.2)]
   rw [e]
   by_cases h4 : (!(s == false) || (!(a.toList == (⟨#[]⟩ : ByteArray).toList))) = true
   ·exact Ev.congr (fun k => if_pos h4) (Ev.congr (fun k => if_neg h3) (Ev.now _))
   ·exact Ev.congr (fun k => if_neg h4) (Ev.now _)
theorem wrap01 : wrap64 (0 + 1) = 1 := by unfold wrap64; omega
theorem ifirst1 (s : Bool) (a : ByteArray) : Ev (fun k => integer_first.f k [⟨s, a⟩]) (ick s a) := by
 show Ev (fun k => integer_first.l0 k [⟨s, a⟩] 1 0) _
 refine Ev.step (fun k => integer_first.l0.eq_2 ..) (Ev.congr (fun k => if_pos (by decide)) (Ev.congr (fun k => if_pos (by decide)) (Ev.congr (fun k => if_pos (show (0 : Int) < 1 by decide)) (Ev.bind (iCheck_ev s a) ?_))))
 by_cases h : ick s a = 0
 ·refine Ev.congr (fun k => if_pos h) ?_
  rw [wrap01, h]
  exact Ev.step (fun k => integer_first.l0.eq_2 ..) (Ev.congr (fun k => if_neg (by decide)) (Ev.now _))
 ·exact Ev.congr (fun k => if_neg h) (Ev.now _)
def ibnd (x : Int) : Bool × ByteArray × Int := if ((ab x).size : Int) > 1024 then (false, ⟨#[]⟩, 4) else (ng x, ab x, 0)
theorem bnd_some (x : Int) : (if ((ab x).size : Int) > 1024 then some (false, (⟨#[]⟩ : ByteArray), (4 : Int)) else some (ng x, ab x, 0)) = some (ibnd x) := by
 unfold ibnd
 by_cases h : ((ab x).size : Int) > 1024
 ·rw [if_pos h, if_pos h]
 ·rw [if_neg h, if_neg h]
theorem ibnd_ok {x : Int} (h : (ab x).size ≤ 1024) : ibnd x = (ng x, ab x, 0) := if_neg (by omega)
section
variable {x y : Int} (hx : (ab x).size ≤ 1024) (hy : (ab y).size ≤ 1024)
include hx in
theorem iNeg_ev : Ev (fun k => integer_Neg.f k (ng x) (ab x)) (ibnd (-x)) := by
 have h := ifirst1 (ng x) (ab x)
 rw [ick_int hx] at h
 exact Ev.bind h (Ev.congr (fun k => if_pos rfl) (ev_some (INeg_eq x) (Ev.congr (fun k => bnd_some _) (Ev.now _))))
include hx in
theorem iAbs_ev : Ev (fun k => integer_Abs.f k (ng x) (ab x)) (false, ab x, 0) := by
 have h := ifirst1 (ng x) (ab x)
 rw [ick_int hx] at h
 exact Ev.bind h (Ev.congr (fun k => if_pos rfl) (ev_some rfl (Ev.congr (fun k => if_neg (show ¬ ((ab x).size : Int) > 1024 by omega)) (Ev.now _))))
include hx in
theorem iSign_ev : Ev (fun k => integer_Sign.f k (ng x) (ab x)) (sgn x, 0) := by
 have h := iCheck_ev (ng x) (ab x)
 rw [ick_int hx] at h
 exact Ev.bind h (Ev.congr (fun k => if_pos rfl) (ev_some (ISign_eq x) (Ev.now _)))
end
section
variable {s t : Bool} {a b : ByteArray} {e : Int}
theorem iNeg_err (he : ick s a = e) (h : e ≠ 0) : Ev (fun k => integer_Neg.f k s a) (false, ⟨#[]⟩, e) := by
 have := ifirst1 s a
 rw [he] at this
 exact Ev.bind this (Ev.congr (fun k => if_neg h) (Ev.now _))
theorem iAbs_err (he : ick s a = e) (h : e ≠ 0) : Ev (fun k => integer_Abs.f k s a) (false, ⟨#[]⟩, e) := by
 have := ifirst1 s a
 rw [he] at this
 exact Ev.bind this (Ev.congr (fun k => if_neg h) (Ev.now _))
theorem iSign_err (he : ick s a = e) (h : e ≠ 0) : Ev (fun k => integer_Sign.f k s a) (0, e) := by
 have := iCheck_ev s a
 rw [he] at this
 exact Ev.bind this (Ev.congr (fun k => if_neg h) (Ev.now _))
end
theorem iright_err {e : Int} (h : e ≠ 0) (t : Bool) (w : ByteArray) : galoislaw02_right.f false ⟨#[]⟩ e e t w = some true := by
 unfold galoislaw02_right.f
 rw [if_neg h, if_pos (by rw [empty_toList']; rfl), beq_self_eq_true]
theorem iright_bnd (x : Int) : galoislaw02_right.f (ibnd x).1 (ibnd x).2.1 (ibnd x).2.2 0 (ng x) (ab x) = some true := by
 unfold galoislaw02_right.f ibnd
 rw [if_pos rfl, rFits_eq, Option.bind_some]
 by_cases h : ((ab x).size : Int) > 1024
 ·rw [if_pos h, if_pos h, if_neg (by decide), if_pos (by rw [empty_toList']; rfl)]
  rfl
 ·rw [if_neg h, if_neg h, if_pos rfl, if_pos (by rw [beq_self_eq_true, beq_self_eq_true]; rfl)]
  rfl
theorem iright_ok {x : Int} (h : (ab x).size ≤ 1024) : galoislaw02_right.f (ng x) (ab x) 0 0 (ng x) (ab x) = some true := by
 have := iright_bnd x
 rwa [ibnd_ok h] at this
theorem FromInt_ev {x : Int} (h1 : -9223372036854775808 ≤ x) (h2 : x < 9223372036854775808) : Ev (fun k => galoisref02_FromInt.f k x) (ng x, ab x) := by
 by_cases h : x < 0
 ·rw [ng_neg h]
  have e : IntKind.u64.wrap (IntKind.u64.wrap (wrap64 (-(wrap64 (x + 1)))) + 1) = ((x.natAbs : Nat) : Int) := by
   rw [show wrap64 (x + 1) = x + 1 from w64 (by omega) (by omega), show wrap64 (-(x + 1)) = -(x + 1) from w64 (by omega) (by omega), IntKind.wrap_u64, IntKind.wrap_u64]
   omega
  have := rOf_ev (u := x.natAbs) (by omega)
  rw [← e] at this
  exact Ev.congr (fun k => if_pos h) (Ev.bind this (Ev.now _))
 ·rw [ng_pos (by omega)]
  have e : IntKind.u64.wrap x = ((x.natAbs : Nat) : Int) := by
   rw [IntKind.wrap_u64]
   omega
  have := rOf_ev (u := x.natAbs) (by omega)
  rw [← e] at this
  exact Ev.congr (fun k => if_neg h) (Ev.bind this (Ev.now _))
theorem of_ev {x : Int} (h1 : -9223372036854775808 ≤ x) (h2 : x < 9223372036854775808) : Ev (fun k => galoislaw02_of.f k x) (ng x, ab x) := Ev.bind (FromInt_ev h1 h2) (Ev.now _)
theorem iOf_ev {x : Int} (h1 : -9223372036854775808 ≤ x) (h2 : x < 9223372036854775808) : Ev (fun k => integer_Of.f k x) (ng x, ab x) := by
 refine Ev.bind (a := (ng x, ab x)) ?_ (Ev.now _)
 by_cases h : x < 0
 ·rw [ng_neg h]
  have e : IntKind.u64.wrap (-(IntKind.u64.wrap x)) = ((x.natAbs : Nat) : Int) := by
   rw [IntKind.wrap_u64, IntKind.wrap_u64]
   omega
  have := NatOf_ev (u := x.natAbs) (by omega)
  rw [← e] at this
  exact Ev.congr (fun k => if_pos h) (Ev.bind this (Ev.now _))
 ·rw [ng_pos (by omega)]
  have e : IntKind.u64.wrap x = ((x.natAbs : Nat) : Int) := by
   rw [IntKind.wrap_u64]
   omega
  have := NatOf_ev (u := x.natAbs) (by omega)
  rw [← e] at this
  exact Ev.congr (fun k => if_neg h) (Ev.bind this (Ev.now _))
end Go.Proofs.YtdhdfcjpeflinaaN
set_option linter.unusedVariables false
namespace Go.Proofs.YtdhdfcjpeflinaaN
open Go.RowKit Go.Proofs.Ytdhdfcjpeflinaa.All Go.Proofs.YtdhdfcjpeflinaaW.PrintWords Go.Proofs.YtdhdfcjpeflinaaW.PrintLast Go.Proofs.YtdhdfcjpeflinaaW.PrintMore
end Go.Proofs.YtdhdfcjpeflinaaN
set_option linter.unusedVariables false
set_option linter.unusedSimpArgs false
set_option maxRecDepth 100000
namespace Go.Proofs.YtdhdfcjpeflinaaV
open Go Go.RowKit Go.Proofs.Ytdhdfcjpeflinaa Go.Proofs.YtdhdfcjpeflinaaE Go.Proofs.YtdhdfcjpeflinaaN Go.Proofs.Ytdhdfcjpeflinaa.All Go.Proofs.YtdhdfcjpeflinaaW.PrintWords Go.Proofs.YtdhdfcjpeflinaaW.PrintLast Go.Proofs.YtdhdfcjpeflinaaW.PrintMore
end Go.Proofs.YtdhdfcjpeflinaaV
set_option linter.unusedVariables false
set_option linter.unusedSimpArgs false
set_option maxRecDepth 100000
namespace Go.Proofs.YtdhdfcjpeflinaaV
open Go Go.RowKit Go.Proofs.Ytdhdfcjpeflinaa Go.Proofs.YtdhdfcjpeflinaaE Go.Proofs.YtdhdfcjpeflinaaN Go.Proofs.Ytdhdfcjpeflinaa.All Go.Proofs.YtdhdfcjpeflinaaW.PrintWords Go.Proofs.YtdhdfcjpeflinaaW.PrintLast Go.Proofs.YtdhdfcjpeflinaaW.PrintMore
def isq (x : Int) (r : Nat) : Bool × ByteArray × Bool := if x < 0 then (false, ⟨#[]⟩, false) else if r * r = x.natAbs then (false, nat r, true) else (false, ⟨#[]⟩, false)
theorem root_size {x : Int} {r : Nat} (hx : (ab x).size ≤ 1024) (h : r ^ 2 ≤ x.natAbs) : (nat r).size ≤ 1024 := by
 refine Nat.le_trans (size_mono (Nat.le_trans ?_ h)) hx
 rw [Nat.pow_succ, Nat.pow_one]
 rcases Nat.eq_zero_or_pos r with h0 | h0
 ·omega
 ·exact Nat.le_mul_of_pos_left r h0
theorem isq_step {x : Int} {r : Nat} (hs : ¬ x < 0) : (if (nat (r * r)).toList = (ab x).toList then some (false, nat r, true) else some (false, (⟨#[]⟩ : ByteArray), false)) = some (isq x r) := by
 unfold isq
 rw [if_neg hs]
 by_cases h : r * r = x.natAbs
 ·rw [if_pos h, if_pos (by unfold ab; rw [h])]
 ·rw [if_neg h, if_neg (show ¬ (nat (r * r)).toList = (ab x).toList from fun h2 => h (nat_inj.1 (show nat (r * r) = nat x.natAbs from toList_ext.1 h2)))]
theorem ISqrt_ev {x : Int} (hx : (ab x).size ≤ 1024) : ∃ r, r ^ 2 ≤ x.natAbs ∧ x.natAbs < (r + 1) ^ 2 ∧ Ev (fun k => exact_IntSqrt.f k (ng x) (ab x)) (isq x r) ∧ Ev (fun k => galoisref02_IsSquare.f k (ng x) (ab x)) (isq x r) := by
 obtain ⟨r, r1, r2, r3⟩ := NatRoot_ev (n := x.natAbs) (K := 2) (by decide) (by decide) (Nat.le_trans hx (by decide))
 obtain ⟨s, s1, s2, s3⟩ := rSqrt_ev (n := x.natAbs) (Nat.le_trans hx (by decide))
 have e := root_unique s1 s2 r1 r2
 subst e
 have hz := root_size hx r1
 refine ⟨s, r1, r2, ?_, ?_⟩
 ·by_cases hs : x < 0
  ·rw [show isq x s = (false, ⟨#[]⟩, false) from if_pos hs]
   exact Ev.congr (fun k => if_pos (ng_neg hs)) (Ev.now _)
  ·refine Ev.congr (fun k => if_neg (by rw [ng_pos (by omega)]; exact Bool.false_ne_true)) (Ev.bind r3 (Ev.bind (NatMul_ev (Nat.le_trans hz (by decide)) (Nat.le_trans hz (by decide))) (Ev.congr (fun k => isq_step hs) (Ev.now _))))
 ·refine Ev.bind s3 ?_
  by_cases hs : x < 0
  ·rw [show isq x s = (false, ⟨#[]⟩, false) from if_pos hs]
   exact Ev.congr (fun k => if_pos (ng_neg hs)) (Ev.now _)
  ·exact Ev.congr (fun k => if_neg (by rw [ng_pos (by omega)]; exact Bool.false_ne_true)) (Ev.bind (rMul_ev (Nat.le_trans hz (by decide)) (Nat.le_trans hz (by decide))) (Ev.congr (fun k => isq_step hs) (Ev.now _)))
theorem iIsSquare_ev {x : Int} {q : Bool × ByteArray × Bool} (hx : (ab x).size ≤ 1024) (h : Ev (fun k => exact_IntSqrt.f k (ng x) (ab x)) q) : Ev (fun k => integer_IsSquare.f k (ng x) (ab x)) (q.1, q.2.1, q.2.2, 0) := by
 have hc := iCheck_ev (ng x) (ab x)
 rw [ick_int hx] at hc
 exact Ev.bind hc (Ev.congr (fun k => if_pos rfl) (Ev.bind h (Ev.now _)))
theorem iIsSquare_err {s : Bool} {a : ByteArray} (h : ick s a ≠ 0) : Ev (fun k => integer_IsSquare.f k s a) (false, ⟨#[]⟩, false, ick s a) :=
 Ev.bind (iCheck_ev s a) (Ev.congr (fun k => if_neg h) (ev_some (a := (false, (⟨#[]⟩ : ByteArray))) rfl (Ev.now _)))
theorem NatUint_big {n : Nat} (hs : (nat n).size ≤ 1024) (hn : ¬ n < 18446744073709551616) : Ev (fun k => exact_NatUint.f k (nat n)) (0, false) := by
 refine Ev.bind (words_nat (by omega)) ?_
 refine Ev.congr (fun k => if_pos ?_) (Ev.now _)
 rcases Nat.lt_or_ge 1 (d64 n).length with h | h
 ·omega
 ·exfalso
  have hv := vB_lt (B := 18446744073709551616) (by decide) (dgs_spec 18446744073709551614 n).1
  rw [show vB 18446744073709551616 (dgs 18446744073709551614 n) = n from (dgs_spec 18446744073709551614 n).2.2] at hv
  have h' : (dgs 18446744073709551614 n).length ≤ 1 := h
  generalize (dgs 18446744073709551614 n).length = L at hv h'
  rcases Nat.eq_zero_or_pos L with h0 | h0
  ·subst h0; rw [Int.pow_zero] at hv; omega
  ·obtain rfl : L = 1 := by omega
   rw [Int.pow_succ, Int.pow_zero] at hv; omega
def tin (x : Int) : Int × Bool := if -9223372036854775808 ≤ x ∧ x < 9223372036854775808 then (x, true) else (0, false)
theorem ITo_ev {x : Int} (hx : (ab x).size ≤ 1024) : Ev (fun k => exact_IntTo.f k (ng x) (ab x)) (tin x) := by
 by_cases hb : x.natAbs < 18446744073709551616
 ·refine Ev.bind (NatUint_ev hb) (Ev.congr (fun k => if_pos rfl) ?_)
  by_cases h1 : (x.natAbs : Int) > 9223372036854775808
  ·rw [show tin x = (0, false) from if_neg (by omega)]
   exact Ev.congr (fun k => if_pos h1) (Ev.step (fun k => exact_IntTo.j0.eq_2 ..) (Ev.congr (fun k => if_pos rfl) (Ev.now _)))
  ·refine Ev.congr (fun k => if_neg h1) ?_
   by_cases h2 : (x.natAbs : Int) = 9223372036854775808
   ·refine Ev.congr (fun k => if_pos h2) ?_
    by_cases hs : x < 0
    ·rw [ng_neg hs, show tin x = (x, true) from if_pos (by omega)]
     refine Ev.step (fun k => exact_IntTo.j0.eq_2 ..) (Ev.congr (fun k => if_neg Bool.false_ne_true) (Ev.congr (fun k => if_pos rfl) ?_))
     have e : wrap64 (IntKind.u64.wrap (-((x.natAbs : Nat) : Int))) = x := by
      rw [IntKind.wrap_u64]; unfold wrap64; omega
     rw [e]; exact Ev.now _
    ·rw [ng_pos (by omega), show tin x = (0, false) from if_neg (by omega)]
     exact Ev.step (fun k => exact_IntTo.j0.eq_2 ..) (Ev.congr (fun k => if_pos rfl) (Ev.now _))
   ·refine Ev.congr (fun k => if_neg h2) (Ev.step (fun k => exact_IntTo.j0.eq_2 ..) (Ev.congr (fun k => if_neg Bool.false_ne_true) ?_))
    rw [show tin x = (x, true) from if_pos (by omega)]
    by_cases hs : x < 0
    ·refine Ev.congr (fun k => if_pos (ng_neg hs)) ?_
     have e : wrap64 (IntKind.u64.wrap (-((x.natAbs : Nat) : Int))) = x := by
      rw [IntKind.wrap_u64]; unfold wrap64; omega
     rw [e]; exact Ev.now _
    ·refine Ev.congr (fun k => if_neg (by rw [ng_pos (by omega)]; exact Bool.false_ne_true)) ?_
     rw [show wrap64 ((x.natAbs : Nat) : Int) = x by rw [w64 (by omega) (by omega)]; omega]
     exact Ev.now _
 ·rw [show tin x = (0, false) from if_neg (by omega)]
  exact Ev.bind (NatUint_big hx hb) (Ev.congr (fun k => if_neg Bool.false_ne_true) (Ev.step (fun k => exact_IntTo.j0.eq_2 ..) (Ev.congr (fun k => if_pos rfl) (Ev.now _))))
theorem RTo_ev {x : Int} (hx : (ab x).size ≤ 1024) : Ev (fun k => galoisref02_ToInt.f k (ng x) (ab x)) (tin x) := by
 have hu := rUint_ev (ab x)
 by_cases hz : 8 < (ab x).size
 ·rw [if_pos hz] at hu
  have hb : ¬ x.natAbs < 256 ^ 8 := fun h => by have : (ab x).size ≤ 8 := nat_size_le.2 h; omega
  rw [show tin x = (0, false) from if_neg (by omega)]
  exact Ev.bind hu (Ev.congr (fun k => if_neg Bool.false_ne_true) (Ev.step (fun k => galoisref02_ToInt.j0.eq_2 ..) (Ev.congr (fun k => if_pos rfl) (Ev.now _))))
 ·rw [if_neg hz, show bval (ab x) = ((x.natAbs : Nat) : Int) from bval_nat _] at hu
  have hb : x.natAbs < 256 ^ 8 := nat_size_le.1 (show (ab x).size ≤ 8 by omega)
  refine Ev.bind hu (Ev.congr (fun k => if_pos rfl) ?_)
  by_cases h1 : (x.natAbs : Int) > 9223372036854775808
  ·rw [show tin x = (0, false) from if_neg (by omega)]
   exact Ev.congr (fun k => if_pos h1) (Ev.step (fun k => galoisref02_ToInt.j0.eq_2 ..) (Ev.congr (fun k => if_pos rfl) (Ev.now _)))
  ·refine Ev.congr (fun k => if_neg h1) ?_
   by_cases h2 : (x.natAbs : Int) = 9223372036854775808
   ·refine Ev.congr (fun k => if_pos h2) ?_
    by_cases hs : x < 0
    ·rw [ng_neg hs, show tin x = (x, true) from if_pos (by omega)]
     refine Ev.step (fun k => galoisref02_ToInt.j0.eq_2 ..) (Ev.congr (fun k => if_neg Bool.false_ne_true) (Ev.congr (fun k => if_pos rfl) ?_))
     have e : wrap64 (wrap64 (-(wrap64 (IntKind.u64.wrap (((x.natAbs : Nat) : Int) - 1)))) - 1) = x := by
      rw [IntKind.wrap_u64]; unfold wrap64; omega
     rw [e]; exact Ev.now _
    ·rw [ng_pos (by omega), show tin x = (0, false) from if_neg (by omega)]
     exact Ev.step (fun k => galoisref02_ToInt.j0.eq_2 ..) (Ev.congr (fun k => if_pos rfl) (Ev.now _))
   ·refine Ev.congr (fun k => if_neg h2) (Ev.step (fun k => galoisref02_ToInt.j0.eq_2 ..) (Ev.congr (fun k => if_neg Bool.false_ne_true) ?_))
    rw [show tin x = (x, true) from if_pos (by omega)]
    by_cases hs : x < 0
    ·refine Ev.congr (fun k => if_pos (ng_neg hs)) ?_
     have e : wrap64 (wrap64 (-(wrap64 (IntKind.u64.wrap (((x.natAbs : Nat) : Int) - 1)))) - 1) = x := by
      rw [IntKind.wrap_u64]; unfold wrap64; omega
     rw [e]; exact Ev.now _
    ·refine Ev.congr (fun k => if_neg (by rw [ng_pos (by omega)]; exact Bool.false_ne_true)) ?_
     rw [show wrap64 ((x.natAbs : Nat) : Int) = x by rw [w64 (by omega) (by omega)]; omega]
     exact Ev.now _
theorem iTo_ev {x : Int} (hx : (ab x).size ≤ 1024) : Ev (fun k => integer_ToInt.f k (ng x) (ab x)) (if (tin x).2 = true then ((tin x).1, 0) else (0, 3)) := by
 have hc := iCheck_ev (ng x) (ab x)
 rw [ick_int hx] at hc
 refine Ev.bind hc (Ev.congr (fun k => if_pos rfl) (Ev.bind (ITo_ev hx) ?_))
 refine Ev.congr (f := fun _ => some (if (tin x).2 = true then ((tin x).1, (0 : Int)) else (0, 3))) (fun k => ?_) (Ev.now _)
 by_cases h : (tin x).2 = true
 ·rw [if_pos h, if_pos h]
 ·rw [if_neg h, if_neg h]
theorem iTo_err {s : Bool} {a : ByteArray} (h : ick s a ≠ 0) : Ev (fun k => integer_ToInt.f k s a) (0, ick s a) := Ev.bind (iCheck_ev s a) (Ev.congr (fun k => if_neg h) (Ev.now _))
theorem law9_ev (a0 : Bool) (a1 : ByteArray) (p : Int) (hp : (Lit.int .i64 p).wf = true) : Ev (fun k => FX9 k (a0, a1) p) true := by
 have hp2 : -9223372036854775808 ≤ p ∧ p < 9223372036854775808 := by
  simp only [Lit.wf, Bool.and_eq_true, decide_eq_true_eq] at hp
  have e1 : IntKind.min .i64 = -9223372036854775808 := by decide
  have e2 : IntKind.max .i64 = 9223372036854775807 := by decide
  omega
 obtain ⟨K0, aw⟩ := awake_ev
 by_cases hs : (a1.size : Int) > 200
 ·refine ⟨K0, fun k hk => ?_⟩
  replace aw := aw k (by omega)
  dsimp only at *
  show FX9 _ _ _ = _
  unfold FX9 B9
  simp only [FX12, FX17, FX19, FX27, FX28, FX29, FX30, FX40, FX41, FX42, FX43, FX44, FX45, FX46, FX47, cnd_eq_if, bind_some_, toList_mk, List.toList_toArray, beq_iff_eq, if_true, if_false, ne_eq, not_true_eq_false, not_false_eq_true, Bool.not_true, Bool.not_false, Bool.false_eq_true, Int.reduceEq, reduceCtorEq, Bool.not_eq_true', bfalse, ite_not, eq_self, Bool.and_eq_true, Bool.or_eq_true, ite_and_, ite_or_, and_self, decide_true, decide_false, Bool.true_and, Bool.and_true, beq_self_eq_true, decide_eq_true_eq, gt_iff_lt, ge_iff_le, Int.neg_eq_zero, aw, hs]
 ·have hc := rCheck_eq a0 a1
  have o1 := iOf_ev hp2.1 hp2.2
  have o2 := of_ev hp2.1 hp2.2
  have sp : (ab p).size ≤ 8 := nat_size_le.2 (by omega)
  have o3 := iTo_ev (x := p) (by omega)
  rw [show tin p = (p, true) from if_pos hp2, if_pos rfl] at o3
  by_cases ha : ick a0 a1 = 0
  ·rw [ha] at hc
   obtain ⟨x, rfl, rfl, sx⟩ := ick_zero ha
   have h1 := iSign_ev sx
   have h2 := iNeg_ev sx
   have h3 := iAbs_ev sx
   obtain ⟨r, r1, r2, r3, h5⟩ := ISqrt_ev sx
   have h4 := iIsSquare_ev sx r3
   have h6 := iTo_ev sx
   have h7 := RTo_ev sx
   have g1 := RSign_eq x
   have g2 := RNeg_eq x
   have f1 := iright_bnd (-x)
   have f2 : galoislaw02_right.f false (ab x) 0 0 false (ab x) = some true := by
    have h := iright_ok (x := ((x.natAbs : Nat) : Int)) (by rw [ab_nat]; exact sx)
    rw [ng_nat, ab_nat] at h
    exact h
   have f3 : galoislaw02_right.f (isq x r).1 (isq x r).2.1 0 0 (isq x r).1 (isq x r).2.1 = some true := by
    unfold isq
    by_cases q1 : x < 0
    ·rw [if_pos q1]; decide +kernel
    ·rw [if_neg q1]
     by_cases q2 : r * r = x.natAbs
     ·rw [if_pos q2]
      have h := iright_ok (x := ((r : Nat) : Int)) (by rw [ab_nat]; exact root_size sx r1)
      rw [ng_nat, ab_nat] at h
      exact h
     ·rw [if_neg q2]; decide +kernel
   by_cases ht : (tin x).2 = true
   ·rw [if_pos ht] at h6
    obtain ⟨K_h1, h1⟩ := h1
    obtain ⟨K_h2, h2⟩ := h2
    obtain ⟨K_h3, h3⟩ := h3
    obtain ⟨K_h4, h4⟩ := h4
    obtain ⟨K_h5, h5⟩ := h5
    obtain ⟨K_h6, h6⟩ := h6
    obtain ⟨K_h7, h7⟩ := h7
    obtain ⟨K_o1, o1⟩ := o1
    obtain ⟨K_o2, o2⟩ := o2
    obtain ⟨K_o3, o3⟩ := o3
    refine ⟨K0 + K_h1 + K_h2 + K_h3 + K_h4 + K_h5 + K_h6 + K_h7 + K_o1 + K_o2 + K_o3, fun k hk => ?_⟩
    replace aw := aw k (by omega)
    replace h1 := h1 k (by omega)
    replace h2 := h2 k (by omega)
    replace h3 := h3 k (by omega)
    replace h4 := h4 k (by omega)
    replace h5 := h5 k (by omega)
    replace h6 := h6 k (by omega)
    replace h7 := h7 k (by omega)
    replace o1 := o1 k (by omega)
    replace o2 := o2 k (by omega)
    replace o3 := o3 k (by omega)
    dsimp only at *
    show FX9 _ _ _ = _
    unfold FX9 B9
    simp only [FX12, FX17, FX19, FX27, FX28, FX29, FX30, FX40, FX41, FX42, FX43, FX44, FX45, FX46, FX47, cnd_eq_if, bind_some_, toList_mk, List.toList_toArray, beq_iff_eq, if_true, if_false, ne_eq, not_true_eq_false, not_false_eq_true, Bool.not_true, Bool.not_false, Bool.false_eq_true, Int.reduceEq, reduceCtorEq, Bool.not_eq_true', bfalse, ite_not, eq_self, Bool.and_eq_true, Bool.or_eq_true, ite_and_, ite_or_, and_self, decide_true, decide_false, Bool.true_and, Bool.and_true, beq_self_eq_true, decide_eq_true_eq, gt_iff_lt, ge_iff_le, Int.neg_eq_zero, aw, h1, h2, h3, h4, h5, h6, h7, o1, o2, o3, hs, hc, g1, g2, f1, f2, f3, ht, galoisref02_Abs.f]
   ·have hz : (tin x).1 = 0 := by
     unfold tin at ht ⊢
     by_cases q : -9223372036854775808 ≤ x ∧ x < 9223372036854775808
     ·rw [if_pos q] at ht; exact absurd rfl ht
     ·rw [if_neg q]
    rw [if_neg ht] at h6
    obtain ⟨K_h1, h1⟩ := h1
    obtain ⟨K_h2, h2⟩ := h2
    obtain ⟨K_h3, h3⟩ := h3
    obtain ⟨K_h4, h4⟩ := h4
    obtain ⟨K_h5, h5⟩ := h5
    obtain ⟨K_h6, h6⟩ := h6
    obtain ⟨K_h7, h7⟩ := h7
    obtain ⟨K_o1, o1⟩ := o1
    obtain ⟨K_o2, o2⟩ := o2
    obtain ⟨K_o3, o3⟩ := o3
    refine ⟨K0 + K_h1 + K_h2 + K_h3 + K_h4 + K_h5 + K_h6 + K_h7 + K_o1 + K_o2 + K_o3, fun k hk => ?_⟩
    replace aw := aw k (by omega)
    replace h1 := h1 k (by omega)
    replace h2 := h2 k (by omega)
    replace h3 := h3 k (by omega)
    replace h4 := h4 k (by omega)
    replace h5 := h5 k (by omega)
    replace h6 := h6 k (by omega)
    replace h7 := h7 k (by omega)
    replace o1 := o1 k (by omega)
    replace o2 := o2 k (by omega)
    replace o3 := o3 k (by omega)
    dsimp only at *
    show FX9 _ _ _ = _
    unfold FX9 B9
    simp only [FX12, FX17, FX19, FX27, FX28, FX29, FX30, FX40, FX41, FX42, FX43, FX44, FX45, FX46, FX47, cnd_eq_if, bind_some_, toList_mk, List.toList_toArray, beq_iff_eq, if_true, if_false, ne_eq, not_true_eq_false, not_false_eq_true, Bool.not_true, Bool.not_false, Bool.false_eq_true, Int.reduceEq, reduceCtorEq, Bool.not_eq_true', bfalse, ite_not, eq_self, Bool.and_eq_true, Bool.or_eq_true, ite_and_, ite_or_, and_self, decide_true, decide_false, Bool.true_and, Bool.and_true, beq_self_eq_true, decide_eq_true_eq, gt_iff_lt, ge_iff_le, Int.neg_eq_zero, aw, h1, h2, h3, h4, h5, h6, h7, o1, o2, o3, hs, hc, g1, g2, f1, f2, f3, ht, hz, galoisref02_Abs.f]
  ·have h1 := iSign_err rfl ha
   have h2 := iNeg_err rfl ha
   have h3 := iAbs_err rfl ha
   have h4 := iIsSquare_err ha
   have h6 := iTo_err ha
   have f1 := iright_err ha
   obtain ⟨K_h1, h1⟩ := h1
   obtain ⟨K_h2, h2⟩ := h2
   obtain ⟨K_h3, h3⟩ := h3
   obtain ⟨K_h4, h4⟩ := h4
   obtain ⟨K_h6, h6⟩ := h6
   obtain ⟨K_o1, o1⟩ := o1
   obtain ⟨K_o2, o2⟩ := o2
   obtain ⟨K_o3, o3⟩ := o3
   refine ⟨K0 + K_h1 + K_h2 + K_h3 + K_h4 + K_h6 + K_o1 + K_o2 + K_o3, fun k hk => ?_⟩
   replace aw := aw k (by omega)
   replace h1 := h1 k (by omega)
   replace h2 := h2 k (by omega)
   replace h3 := h3 k (by omega)
   replace h4 := h4 k (by omega)
   replace h6 := h6 k (by omega)
   replace o1 := o1 k (by omega)
   replace o2 := o2 k (by omega)
   replace o3 := o3 k (by omega)
   dsimp only at *
   show FX9 _ _ _ = _
   unfold FX9 B9
   simp only [FX12, FX17, FX19, FX27, FX28, FX29, FX30, FX40, FX41, FX42, FX43, FX44, FX45, FX46, FX47, cnd_eq_if, bind_some_, toList_mk, List.toList_toArray, beq_iff_eq, if_true, if_false, ne_eq, not_true_eq_false, not_false_eq_true, Bool.not_true, Bool.not_false, Bool.false_eq_true, Int.reduceEq, reduceCtorEq, Bool.not_eq_true', bfalse, ite_not, eq_self, Bool.and_eq_true, Bool.or_eq_true, ite_and_, ite_or_, and_self, decide_true, decide_false, Bool.true_and, Bool.and_true, beq_self_eq_true, decide_eq_true_eq, gt_iff_lt, ge_iff_le, Int.neg_eq_zero, aw, h1, h2, h3, h4, h6, o1, o2, o3, hs, hc, ha, f1]
end Go.Proofs.YtdhdfcjpeflinaaV
set_option linter.unusedVariables false
namespace Go.Proofs.Ytdhdfcjpeflinaa.Pure
open Go Go.RowKit Go.Proofs.Ytdhdfcjpeflinaa.All Go.Proofs.YtdhdfcjpeflinaaN Go.Proofs.YtdhdfcjpeflinaaW.PrintWords Go.Proofs.YtdhdfcjpeflinaaW.PrintLast
theorem IntegerSigns (a0 : Bool) (a1 : ByteArray) (p : Int) (hp : (Lit.int .i64 p).wf = true) (w : World) :
    Calls Try.prog 9 #[.agg #[.bool a0, .string a1], .int .i64 p] w fun e w' => e = .returned (.bool true) ∧ Below w.heap.size w w' :=
  Go.Proofs.YtdhdfcjpeflinaaV.calls9 a0 a1 p (Go.Proofs.YtdhdfcjpeflinaaV.law9_ev a0 a1 p hp).rounds w
end Go.Proofs.Ytdhdfcjpeflinaa.Pure
