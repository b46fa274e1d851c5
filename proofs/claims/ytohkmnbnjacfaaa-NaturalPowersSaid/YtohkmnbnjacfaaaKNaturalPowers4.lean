/- Part of the proof of the statement NaturalPowers: lemmas on the model's steps, Lean functions that say what the program's functions compute, and proofs that the calls do just that. No hypothesis is added. -/
import Derived.Test.YtohkmnbnjacfaaaKNaturalPowers3
set_option linter.all false
set_option linter.unusedVariables false
namespace Go.Proofs.YtohkmnbnjacfaaaN
open Go.RowKit Go.Proofs.Ytohkmnbnjacfaaa.All Go.Proofs.YtohkmnbnjacfaaaW.PrintWords Go.Proofs.YtohkmnbnjacfaaaW.PrintLast Go.Proofs.YtohkmnbnjacfaaaW.PrintMore
theorem Of_eq {u : Nat} (hu : u < 18446744073709551616) : natural_Of.f (u : Int) = some (nat u) := by
  unfold natural_Of.f
  rw [if_pos ⟨by omega, by omega⟩]
  congr 1
  have hl : natural_Of.bytes (u : Int) 8 = [natural_Of.byte u 0, natural_Of.byte u 1, natural_Of.byte u 2, natural_Of.byte u 3, natural_Of.byte u 4, natural_Of.byte u 5, natural_Of.byte u 6, natural_Of.byte u 7] := rfl
  simp only [natural_Of.byte, Nat.reduceMul, Nat.reduceSub, Int.reducePow] at hl
  have hd : Dig 256 (natural_Of.bytes (u : Int) 8) := by
    rw [hl]
    repeat (refine Dig_cons.2 ⟨⟨Int.emod_nonneg _ (by decide), Int.emod_lt_of_pos _ (by decide)⟩, ?_⟩)
    exact Dig_nil _
  have hv : vB 256 (natural_Of.bytes (u : Int) 8).reverse = u := by
    rw [hl]
    simp only [List.reverse_cons, List.reverse_nil, List.nil_append, List.cons_append, vB]
    omega
  obtain ⟨h1, h2, h3⟩ := drop_zeros _ hd
  exact str_nat h1 h2 (by rw [h3, hv])
theorem NatTwo_eq {b : Nat} (hb : b ≤ 1099511627776) : exact_NatTwo.f (b : Int) = some (nat (2 ^ b)) := by
  have hr : b % 8 < 8 := Nat.mod_lt _ (by decide)
  have e1 : Int.tdiv (b : Int) 8 = ((b / 8 : Nat) : Int) := by rw [Int.tdiv_eq_ediv_of_nonneg (by omega)]; omega
  have e2 : Int.tmod (b : Int) 8 = ((b % 8 : Nat) : Int) := by rw [Int.tmod_eq_emod_of_nonneg (by omega)]; omega
  have e3 : wrap64 ((b / 8 : Nat) : Int) = ((b / 8 : Nat) : Int) := w64 (by omega) (by omega)
  have e4 : wrap64 (((b / 8 : Nat) : Int) + 1) = ((b / 8 + 1 : Nat) : Int) := by rw [w64 (by omega) (by omega)]; omega
  have e5 : shl .u8 1 ((b % 8 : Nat) : Int) = ((2 ^ (b % 8) : Nat) : Int) := by
    have : b % 8 = 0 ∨ b % 8 = 1 ∨ b % 8 = 2 ∨ b % 8 = 3 ∨ b % 8 = 4 ∨ b % 8 = 5 ∨ b % 8 = 6 ∨ b % 8 = 7 := by omega
    rcases this with h | h | h | h | h | h | h | h <;> rw [h] <;> decide
  have hx : 1 ≤ 2 ^ (b % 8) ∧ 2 ^ (b % 8) < 256 := by
    have : b % 8 = 0 ∨ b % 8 = 1 ∨ b % 8 = 2 ∨ b % 8 = 3 ∨ b % 8 = 4 ∨ b % 8 = 5 ∨ b % 8 = 6 ∨ b % 8 = 7 := by omega
    rcases this with h | h | h | h | h | h | h | h <;> rw [h] <;> decide
  unfold exact_NatTwo.f
  rw [e1, e2, e3, e4, if_pos (Int.natCast_nonneg _), Int.toNat_natCast, if_pos (by omega), Option.bind_some, if_pos (Int.natCast_nonneg _), if_pos (by rw [List.length_replicate]; omega), e5]
  congr 1
  have hs : (List.replicate (b / 8 + 1) (0 : Int)).set (0 : Int).toNat ((2 ^ (b % 8) : Nat) : Int) = ((2 ^ (b % 8) : Nat) : Int) :: List.replicate (b / 8) 0 := by
    rw [List.replicate_succ]
    rfl
  rw [hs]
  apply str_nat
  · exact Dig_cons.2 ⟨⟨by omega, by omega⟩, Dig_replicate (by decide) _⟩
  · intro _
    show ((2 ^ (b % 8) : Nat) : Int) ≠ 0
    omega
  · rw [List.reverse_cons, List.reverse_replicate, vB_append, vB_replicate, List.length_replicate]
    have : (2 : Nat) ^ b = 256 ^ (b / 8) * 2 ^ (b % 8) := by
      have e8 : (256 : Nat) ^ (b / 8) = 2 ^ (8 * (b / 8)) := by rw [Nat.pow_mul]
      rw [e8, ← Nat.pow_add, Nat.div_add_mod]
    rw [this, Int.natCast_mul, Int.natCast_pow]
    simp [vB]
theorem NatRoot_l0 {n K : Nat} (hK : 1 ≤ K) (hK1 : K ≤ 4096) (hn : (nat n).size ≤ 4096) : ∀ (c low : Nat), c ≤ bl n + 1 → low ^ K ≤ n → n < (low + 2 ^ c) ^ K → ∃ r, r ^ K ≤ n ∧ n < (r + 1) ^ K ∧ Ev (fun k => exact_NatRoot.l0 k (nat n) (K : Int) (nat low) ((c : Int) - 1)) (nat r) := by
  intro c
  induction c with
  | zero =>
    intro low _ h1 h2
    refine ⟨low, h1, h2, Ev.step (f := fun _ => some (nat low)) (fun k => ?_) (Ev.now _)⟩
    simp only [exact_NatRoot.l0]
    rw [if_neg (by decide)]
  | succ c ih =>
    intro low hc h1 h2
    have e0 : ((c + 1 : Nat) : Int) - 1 = (c : Int) := by omega
    have hbl := bl_size (n := n)
    have e1 : wrap64 ((c : Int) - 1) = (c : Int) - 1 := w64 (by omega) (by omega)
    have hlow : low ≤ n := Nat.le_trans (Nat.le_self_pow (by omega) low) h1
    have hs1 := size_mono hlow
    have hs2 : (nat (2 ^ c)).size ≤ (nat n).size + 1 := by
      apply nat_size_le.2
      have g : (256 : Nat) ^ ((nat n).size + 1) = 2 ^ (8 * ((nat n).size + 1)) := by rw [Nat.pow_mul]
      rw [g]
      exact Nat.pow_lt_pow_right (by decide) (by omega)
    have hs3 := size_add (m := low) (n := 2 ^ c)
    have t1 := NatTwo_eq (b := c) (by omega)
    have t2 := NatAdd_ev (m := low) (n := 2 ^ c) (by omega) (by omega)
    have t3 := NatPow_ev (m := low + 2 ^ c) (e := K) (by omega) (by omega)
    have t4 := NatCmp_ev ((low + 2 ^ c) ^ K) n
    rw [e0]
    have hadd : low + 2 ^ (c + 1) = low + 2 ^ c + 2 ^ c := by rw [Nat.pow_succ]; omega
    by_cases hle : (low + 2 ^ c) ^ K ≤ n
    · rw [hadd] at h2
      obtain ⟨r, r1, r2, r3⟩ := ih (low + 2 ^ c) (by omega) hle h2
      have hcmp : cmpN ((low + 2 ^ c) ^ K) n ≤ 0 := by
        unfold cmpN
        split
        · decide
        · rw [if_pos (by omega)]; decide
      refine ⟨r, r1, r2, Ev.step (f := fun k => (exact_NatAdd.f k (nat low) (nat (2 ^ c))).bind fun t344 => ((exact_NatPow.f k t344 (K : Int)).bind fun t345 => ((exact_NatCmp.f k t345 (nat n)).bind fun t346 => (if t346 ≤ 0 then (exact_NatRoot.l0 k (nat n) (K : Int) t344 ((c : Int) - 1)) else (exact_NatRoot.l0 k (nat n) (K : Int) (nat low) ((c : Int) - 1)))))) (fun k => ?_) (Ev.bind t2 (Ev.bind t3 (Ev.bind t4 (Ev.congr (fun k => if_pos hcmp) r3))))⟩
      simp only [exact_NatRoot.l0, e1]
      rw [if_pos (by omega), t1, Option.bind_some]
    · obtain ⟨r, r1, r2, r3⟩ := ih low (by omega) h1 (by omega)
      have hcmp : ¬ cmpN ((low + 2 ^ c) ^ K) n ≤ 0 := by
        unfold cmpN
        rw [if_neg (by omega), if_neg (by omega)]
        decide
      refine ⟨r, r1, r2, Ev.step (f := fun k => (exact_NatAdd.f k (nat low) (nat (2 ^ c))).bind fun t344 => ((exact_NatPow.f k t344 (K : Int)).bind fun t345 => ((exact_NatCmp.f k t345 (nat n)).bind fun t346 => (if t346 ≤ 0 then (exact_NatRoot.l0 k (nat n) (K : Int) t344 ((c : Int) - 1)) else (exact_NatRoot.l0 k (nat n) (K : Int) (nat low) ((c : Int) - 1)))))) (fun k => ?_) (Ev.bind t2 (Ev.bind t3 (Ev.bind t4 (Ev.congr (fun k => if_neg hcmp) r3))))⟩
      simp only [exact_NatRoot.l0, e1]
      rw [if_pos (by omega), t1, Option.bind_some]
theorem NatRoot_ev {n K : Nat} (hK : 1 ≤ K) (hK1 : K ≤ 4096) (hn : (nat n).size ≤ 4096) : ∃ r, r ^ K ≤ n ∧ n < (r + 1) ^ K ∧ Ev (fun k => exact_NatRoot.f k (nat n) (K : Int)) (nat r) := by
  have hbl := bl_size (n := n)
  have hb0 : (bl n + K - 1) / K ≤ bl n := by
    rcases Nat.eq_zero_or_pos (bl n) with h | h
    · rw [h, Nat.zero_add, Nat.div_eq_of_lt (by omega)]
      exact Nat.le_refl _
    · apply Nat.div_le_of_le_mul
      have : bl n + K ≤ K * bl n + 1 := by
        obtain ⟨j, rfl⟩ : ∃ j, K = j + 1 := ⟨K - 1, by omega⟩
        rw [Nat.add_mul, Nat.one_mul]
        have := Nat.le_mul_of_pos_right j h
        omega
      omega
  have hbK : bl n ≤ (bl n + K - 1) / K * K := by
    have h1 := Nat.div_add_mod (bl n + K - 1) K
    have h2 := Nat.mod_lt (bl n + K - 1) (show K > 0 by omega)
    rw [Nat.mul_comm] at h1
    omega
  generalize hB : (bl n + K - 1) / K = B at *
  have h2 : n < (0 + 2 ^ (B + 1)) ^ K := by
    rw [Nat.zero_add, ← Nat.pow_mul]
    refine Nat.lt_of_lt_of_le (bl_lt n) (Nat.pow_le_pow_right (by decide) ?_)
    rw [Nat.add_mul]
    omega
  obtain ⟨r, r1, r2, r3⟩ := NatRoot_l0 hK hK1 hn (B + 1) 0 (by omega) (by rw [Nat.zero_pow (by omega)]; exact Nat.zero_le _) h2
  refine ⟨r, r1, r2, Ev.congr (fun k => ?_) r3⟩
  unfold exact_NatRoot.f
  clear h2 r1 r2 r3
  have c0 : (nat n).size ≤ 1099511627776 := by omega
  have c1 : ¬ (K : Int) = 0 := by omega
  have c2 : (B : Int) = ((B + 1 : Nat) : Int) - 1 := by omega
  have e1 : wrap64 ((bl n : Int) + (K : Int)) = ((bl n + K : Nat) : Int) := by rw [w64 (by omega) (by omega)]; omega
  have e2 : wrap64 (((bl n + K : Nat) : Int) - 1) = ((bl n + K - 1 : Nat) : Int) := by clear e1; rw [w64 (by omega) (by omega)]; omega
  have e3 : wrap64 (Int.tdiv ((bl n + K - 1 : Nat) : Int) (K : Int)) = (B : Int) := by
    clear e1 e2
    rw [Int.tdiv_eq_ediv_of_nonneg (by omega), ← Int.natCast_ediv, hB, w64 (by omega) (by omega)]
  rw [NatBits_eq c0, Option.bind_some, if_neg c1, e1, e2, e3, nat_zero, c2]
theorem root_unique {n K r s : Nat} (hr : r ^ K ≤ n) (hr' : n < (r + 1) ^ K) (hs : s ^ K ≤ n) (hs' : n < (s + 1) ^ K) : r = s := by
  rcases Nat.lt_trichotomy r s with h | h | h
  · have := Nat.pow_le_pow_left (show r + 1 ≤ s by omega) K
    omega
  · exact h
  · have := Nat.pow_le_pow_left (show s + 1 ≤ r by omega) K
    omega
theorem size_two {m a s : Nat} (h : (nat m).size ≤ s) (h2 : 2 ^ a ≤ m) : a < 8 * s := by
  have h1 := nat_size_le.1 h
  have e8 : (256 : Nat) ^ s = 2 ^ (8 * s) := by rw [Nat.pow_mul]
  rw [e8] at h1
  exact (Nat.pow_lt_pow_iff_right (by decide : 1 < 2)).1 (Nat.lt_of_le_of_lt h2 h1)
theorem Pow_ev {m e : Nat} (hm : (nat m).size ≤ 1024) (he : e ≤ 4096) : Ev (fun k => natural_Pow.f k (nat m) (e : Int)) (bnd (m ^ e)) := by
  have h := first1 (nat m)
  rw [chk_nat hm] at h
  refine Ev.bind h (Ev.congr (fun k => if_pos rfl) (Ev.congr (fun k => if_neg (show ¬ (e : Int) < 0 by omega)) ?_))
  rw [decide_eq_false (show ¬ (e : Int) > 4096 by omega)]
  have hj : Ev (fun k => natural_Pow.j1 k (nat m) (e : Int) false) (bnd (m ^ e)) := by
    refine Ev.step (f := fun k => (exact_NatPow.f k (nat m) (e : Int)).bind fun t315 => ((natural_bounded.f t315).bind fun bt316 => (some (bt316.1, bt316.2)))) (fun k => rfl) (Ev.bind (NatPow_ev (by omega) (by omega)) ?_)
    rw [bounded_eq]
    exact Ev.now _
  by_cases h0 : m = 0
  · refine Ev.step (f := fun k => natural_Pow.j1 k (nat m) (e : Int) false) (fun k => ?_) hj
    simp only [natural_Pow.j0]
    rw [if_neg Bool.false_ne_true, if_pos (nat_empty.2 h0)]
  · have hb := bl_size (n := m)
    obtain ⟨g1, g2⟩ := bl_le h0
    have hle : (bl m - 1) * e ≤ 8191 * 4096 := Nat.mul_le_mul (by omega) he
    have e1 : wrap64 ((bl m : Int) - 1) = ((bl m - 1 : Nat) : Int) := by rw [w64 (by omega) (by omega)]; omega
    have e2 : wrap64 (((bl m - 1 : Nat) : Int) * (e : Int)) = (((bl m - 1) * e : Nat) : Int) := by
      rw [← Int.natCast_mul]
      generalize (bl m - 1) * e = A at *
      exact w64 (by omega) (by omega)
    refine Ev.step (f := fun k => natural_Pow.j1 k (nat m) (e : Int) (decide ((((bl m - 1) * e : Nat) : Int) > 8192))) (fun k => ?_) ?_
    · simp only [natural_Pow.j0]
      rw [if_neg Bool.false_ne_true, if_neg (fun h => h0 (nat_empty.1 h)), NatBits_eq (by omega), Option.bind_some, e1, e2]
    · by_cases hbig : (((bl m - 1) * e : Nat) : Int) > 8192
      · rw [decide_eq_true hbig]
        refine Ev.step (f := fun _ => some (bnd (m ^ e))) (fun k => ?_) (Ev.now _)
        have hs : 1024 < (nat (m ^ e)).size := by
          rcases Nat.lt_or_ge 1024 (nat (m ^ e)).size with h | h
          · exact h
          · exfalso
            have h2 := Nat.pow_le_pow_left g2 e
            rw [← Nat.pow_mul] at h2
            have h3 := size_two h h2
            clear h2
            omega
        unfold bnd
        rw [if_pos hs]
        rfl
      · rw [decide_eq_false hbig]
        exact hj
theorem Root_ev {n K : Nat} (hn : (nat n).size ≤ 1024) (hK : 1 ≤ K) (hK1 : K ≤ 4096) : ∃ r, r ^ K ≤ n ∧ n < (r + 1) ^ K ∧ Ev (fun k => natural_Root.f k (nat n) (K : Int)) (nat r, 0) := by
  have h := first1 (nat n)
  rw [chk_nat hn] at h
  have go : ∀ r, Ev (fun k => natural_Root.j0 k (nat n) (K : Int) false) (nat r, 0) → Ev (fun k => natural_Root.f k (nat n) (K : Int)) (nat r, 0) := by
    intro r hr
    refine Ev.bind h (Ev.congr (fun k => if_pos rfl) (Ev.congr (fun k => if_neg (show ¬ (K : Int) < 1 by omega)) ?_))
    rw [decide_eq_false (show ¬ (K : Int) > 4096 by omega)]
    exact hr
  obtain ⟨r, r1, r2, r3⟩ := NatRoot_ev hK hK1 (show (nat n).size ≤ 4096 by omega)
  have hj : Ev (fun k => natural_Root.j1 k (nat n) (K : Int) false) (nat r, 0) :=
    Ev.step (f := fun k => (exact_NatRoot.f k (nat n) (K : Int)).bind fun t353 => some (t353, 0)) (fun k => rfl) (Ev.bind r3 (Ev.now _))
  by_cases h0 : n = 0
  · refine ⟨r, r1, r2, go r (Ev.step (f := fun k => natural_Root.j1 k (nat n) (K : Int) false) (fun k => ?_) hj)⟩
    simp only [natural_Root.j0]
    rw [if_neg Bool.false_ne_true, if_pos (nat_empty.2 h0)]
  · by_cases hb : (K : Int) ≥ (bl n : Int)
    · obtain ⟨g1, g2⟩ := bl_le h0
      have hlt := bl_lt n
      refine ⟨1, by rw [Nat.one_pow]; omega, Nat.lt_of_lt_of_le hlt (Nat.pow_le_pow_right (by decide) (by omega)), go 1 (Ev.step (f := fun k => natural_Root.j1 k (nat n) (K : Int) true) (fun k => ?_) (Ev.step (f := fun _ => some (nat 1, 0)) (fun k => ?_) (Ev.now _)))⟩
      · simp only [natural_Root.j0]
        rw [if_neg Bool.false_ne_true, if_neg (fun h => h0 (nat_empty.1 h)), NatBits_eq (by omega), Option.bind_some, decide_eq_true hb]
      · simp only [natural_Root.j1]
        have := Of_eq (u := 1) (by decide)
        rw [show ((1 : Nat) : Int) = 1 from rfl] at this
        rw [if_pos trivial, this, Option.bind_some]
    · refine ⟨r, r1, r2, go r (Ev.step (f := fun k => natural_Root.j1 k (nat n) (K : Int) false) (fun k => ?_) hj)⟩
      simp only [natural_Root.j0]
      rw [if_neg Bool.false_ne_true, if_neg (fun h => h0 (nat_empty.1 h)), NatBits_eq (by omega), Option.bind_some, decide_eq_false hb]
end Go.Proofs.YtohkmnbnjacfaaaN
set_option linter.unusedVariables false
namespace Go.Proofs.YtohkmnbnjacfaaaN
open Go.RowKit Go.Proofs.Ytohkmnbnjacfaaa.All Go.Proofs.YtohkmnbnjacfaaaW.PrintWords Go.Proofs.YtohkmnbnjacfaaaW.PrintLast Go.Proofs.YtohkmnbnjacfaaaW.PrintMore
abbrev B32 : Int := 4294967296
def d32 (n : Nat) : List Int := dgs 4294967294 n
theorem d32_dig (n : Nat) : Dig B32 (d32 n) := (dgs_spec 4294967294 n).1
theorem d32_trim (n : Nat) : Trim (d32 n) := (dgs_spec 4294967294 n).2.1
theorem d32_val (n : Nat) : vB B32 (d32 n) = n := (dgs_spec 4294967294 n).2.2
theorem d32_unique {l : List Int} {n : Nat} (hl : Dig B32 l) (ht : Trim l) (hv : vB B32 l = n) : l = d32 n := dgs_unique hl ht hv
theorem d32_zero : d32 0 = [] := dgs_zero _
theorem limbs_len (n : Nat) : (d32 n).length ≤ ((nat n).size + 3) / 4 := by
  apply dgs_len
  have h1 := nat_lt_size n
  have h2 : 256 ^ (nat n).size ≤ 256 ^ (4 * (((nat n).size + 3) / 4)) := Nat.pow_le_pow_right (by decide) (by omega)
  rw [Nat.pow_mul] at h2
  exact Nat.lt_of_lt_of_le h1 h2
theorem rtrim_ev : ∀ (n : Nat) (l : List Int), l.length = n → n < 9223372036854775808 → Dig B32 l → Ev (fun k => galoisref01_trim.f k l) (d32 (vB B32 l).toNat) := by
  intro n
  induction n with
  | zero =>
    intro l hl _ hd
    rw [List.eq_nil_of_length_eq_zero hl]
    refine Ev.step (f := fun _ => some []) (fun k => ?_) (by
      show Ev (fun _ => some []) (d32 0)
      rw [d32_zero]
      exact Ev.now _)
    simp [galoisref01_trim.f, galoisref01_trim.l0]
  | succ n ih =>
    intro l hl hn hd
    have hv := vB_nonneg (by decide) hd
    have e1 : wrap64 ((l.length : Int) - 1) = (n : Int) := by rw [w64 (by omega) (by omega)]; omega
    have hvs := take_succ B32 l n
    rw [vB_all _ _ _ (by omega)] at hvs
    by_cases hz : rd l (n : Int) = 0
    · rw [hz, Int.mul_zero, Int.add_zero] at hvs
      rw [hvs]
      refine Ev.step (f := fun k => galoisref01_trim.f k (l.take n)) (fun k => ?_) (ih _ (by rw [List.length_take]; omega) (by omega) (Dig_take hd _))
      simp only [galoisref01_trim.f, galoisref01_trim.l0, e1]
      rw [if_pos (by omega), if_pos (by omega), if_pos (by omega), if_pos hz, if_pos (by omega), Int.toNat_natCast]
    · have : l = d32 (vB B32 l).toNat := d32_unique hd (fun _ => by rw [hl, Nat.add_sub_cancel]; exact hz) (by omega)
      rw [← this]
      refine Ev.step (f := fun _ => some l) (fun k => ?_) (Ev.now _)
      simp only [galoisref01_trim.f, galoisref01_trim.l0, e1]
      rw [if_pos (by omega), if_pos (by omega), if_pos (by omega), if_neg hz]
theorem trimV_eq : ∀ (k : Nat) (l : List Int), galoisref01_trimV.l0 k l = galoisref01_trim.l0 k l := by
  intro k
  induction k with
  | zero => intro l; rfl
  | succ k ih => intro l; simp only [galoisref01_trimV.l0, galoisref01_trim.l0, ih]
theorem rtrimV_ev {l : List Int} (hn : l.length < 9223372036854775808) (hd : Dig B32 l) : Ev (fun k => galoisref01_trimV.f k l) (d32 (vB B32 l).toNat) :=
  Ev.congr (fun k => trimV_eq k l) (rtrim_ev _ l rfl hn hd)
def win (s : ByteArray) (a b : Nat) : Int := vB 256 (((bytesOf s).take b).drop a).reverse
theorem win_self (s : ByteArray) (a : Nat) : win s a a = 0 := by
  unfold win
  rw [List.drop_of_length_le (by rw [List.length_take]; omega)]
  rfl
theorem win_succ (s : ByteArray) (a b : Nat) (hab : a ≤ b) (hb : b < s.size) : win s a (b + 1) = win s a b * 256 + bt s (b : Int) := by
  unfold win
  rw [List.take_succ_eq_append_getElem (by rw [bytesOf_length]; exact hb), List.drop_append_of_le_length (by rw [List.length_take, bytesOf_length]; omega), List.reverse_append, List.reverse_singleton, List.singleton_append, vB_cons, bt_rd, rd_get _ b (by rw [bytesOf_length]; exact hb)]
  omega
theorem win_range (s : ByteArray) (a b : Nat) (hab : a ≤ b) (hb : b ≤ s.size) : 0 ≤ win s a b ∧ win s a b < 256 ^ (b - a) := by
  have hd : Dig 256 (((bytesOf s).take b).drop a).reverse := Dig_reverse (Dig_drop (Dig_take (bytesOf_dig s) _) _)
  refine ⟨vB_nonneg (by decide) hd, ?_⟩
  have := vB_lt (by decide) hd
  rw [List.length_reverse, List.length_drop, List.length_take, bytesOf_length, Nat.min_eq_left hb] at this
  exact this
theorem win_join (s : ByteArray) (a b c : Nat) (hab : a ≤ b) (hbc : b ≤ c) (hc : c ≤ s.size) : win s a c = win s b c + 256 ^ (c - b) * win s a b := by
  obtain ⟨d, rfl⟩ : ∃ d, c = b + d := ⟨c - b, by omega⟩
  induction d with
  | zero =>
    rw [Nat.add_zero, win_self, Nat.sub_self, Int.pow_zero, Int.one_mul, Int.zero_add]
  | succ d ih =>
    rw [← Nat.add_assoc, win_succ s a _ (by omega) (by omega), win_succ s b _ (by omega) (by omega), ih (by omega) (by omega)]
    rw [show b + d + 1 - b = (b + d - b) + 1 by omega, Int.pow_succ, Int.mul_right_comm]
    generalize 256 ^ (b + d - b) * win s a b = X
    omega
theorem win_all (s : ByteArray) : win s 0 s.size = bval s := by
  unfold win bval
  rw [List.drop_zero, List.take_of_length_le (by rw [bytesOf_length]; exact Nat.le_refl _)]
theorem limbs_l1 (s : ByteArray) (hs : s.size ≤ 1099511627776) (out : List Int) (lo : Nat) (hlo : out.length ≤ 1099511627776) (e : Nat) (he : e ≤ s.size) (hle : lo ≤ e) (h4 : e ≤ lo + 4) (r : List Int)
    (next : Ev (fun k => galoisref01_limbs.l0 k s (out ++ [win s lo e]) ((e : Int) - 4)) r) : ∀ (d i : Nat), i + d = e → lo ≤ i → Ev (fun k => galoisref01_limbs.l1 k s out (e : Int) (win s lo i) (i : Int)) r := by
  intro d
  induction d with
  | zero =>
    intro i hi hl
    have hi : i = e := by omega
    subst hi
    have e1 : wrap64 ((i : Int) - 4) = (i : Int) - 4 := w64 (by omega) (by omega)
    refine Ev.step (fun k => ?_) next
    simp only [galoisref01_limbs.l1, e1]
    rw [if_neg (Int.lt_irrefl _), if_pos (by omega)]
  | succ d ih =>
    intro i hi hl
    have c1 : (i : Int) < (e : Int) := by omega
    have c2 : (i : Int) < (s.size : Int) := by omega
    have e1 : wrap64 ((i : Int) + 1) = ((i + 1 : Nat) : Int) := by rw [w64 (by omega) (by omega)]; omega
    obtain ⟨w0, w1⟩ := win_range s lo i hl (by omega)
    have w2 : win s lo i < 16777216 := by
      refine Int.lt_of_lt_of_le w1 ?_
      exact pow_le_pow (B := 256) (by decide) (show i - lo ≤ 3 by omega)
    obtain ⟨b0, b1⟩ := bt_range s (i : Int)
    have e2 : IntKind.u64.wrap (IntKind.u64.wrap (win s lo i * 256) + IntKind.u64.wrap (bt s (i : Int))) = win s lo (i + 1) := by
      rw [win_succ s lo i hl (by omega), u64 (x := win s lo i * 256) (by omega) (by omega), u64 (x := bt s (i : Int)) (by omega) (by omega), u64 (by omega) (by omega)]
    refine Ev.step (f := fun k => galoisref01_limbs.l1 k s out (e : Int) (win s lo (i + 1)) ((i + 1 : Nat) : Int)) (fun k => ?_) (ih (i + 1) (by omega) (by omega))
    simp only [galoisref01_limbs.l1, e1, e2]
    rw [if_pos c1, if_pos (Int.natCast_nonneg _), if_pos c2]
theorem limbs_end (s : ByteArray) (out : List Int) (hd : Dig B32 out) (hl : out.length ≤ 1099511627776) (hv : vB B32 out = bval s) (x : Int) (hx : ¬ x > 0) : Ev (fun k => galoisref01_limbs.l0 k s out x) (d32 (bval s).toNat) := by
  have h := rtrim_ev out.length out rfl (by omega) hd
  rw [hv] at h
  refine Ev.step (f := fun k => (galoisref01_trim.f k out).bind fun t => some t) (fun k => ?_) (Ev.bind h (Ev.now _))
  simp only [galoisref01_limbs.l0]
  rw [if_neg hx]
theorem limbs_l0 (s : ByteArray) (hs : s.size ≤ 1099511627776) : ∀ (e : Nat) (out : List Int), e ≤ s.size → 4 * out.length = s.size - e → Dig B32 out → vB B32 out = win s e s.size → Ev (fun k => galoisref01_limbs.l0 k s out (e : Int)) (d32 (bval s).toNat) := by
  intro e
  induction e using Nat.strongRecOn with
  | _ e ih =>
    intro out he hl hd hv
    by_cases h0 : e = 0
    · subst h0
      exact limbs_end s out hd (by omega) (by rw [hv, win_all]) _ (by omega)
    · have hmx : mx 0 (wrap64 ((e : Int) - 4)) = ((e - 4 : Nat) : Int) := by
        rw [w64 (by omega) (by omega)]
        unfold mx
        split <;> omega
      have hw := win_range s (e - 4) e (by omega) he
      have hw1 : win s (e - 4) e < B32 := by
        refine Int.lt_of_lt_of_le hw.2 ?_
        exact pow_le_pow (B := 256) (by decide) (show e - (e - 4) ≤ 4 by omega)
      have hd' : Dig B32 (out ++ [win s (e - 4) e]) := Dig_append hd (Dig_cons.2 ⟨⟨hw.1, hw1⟩, Dig_nil _⟩)
      have hpow : (B32 : Int) ^ out.length = 256 ^ (s.size - e) := by
        rw [← hl, Int.pow_mul]
        rfl
      have hv' : vB B32 (out ++ [win s (e - 4) e]) = win s (e - 4) s.size := by
        rw [vB_append, hpow, hv, win_join s (e - 4) e s.size (by omega) he (Nat.le_refl _)]
        simp [vB]
      refine Ev.step (f := fun k => galoisref01_limbs.l1 k s out (e : Int) (win s (e - 4) (e - 4)) ((e - 4 : Nat) : Int)) (fun k => ?_) (limbs_l1 s hs out (e - 4) (by omega) e he (by omega) (by omega) _ ?_ (e - (e - 4)) (e - 4) (by omega) (Nat.le_refl _))
      · simp only [galoisref01_limbs.l0, hmx]
        rw [if_pos (by omega), win_self]
      · by_cases h4 : e ≤ 4
        · refine limbs_end s _ hd' (by rw [List.length_append]; simp; omega) ?_ _ (by omega)
          rw [hv', show e - 4 = 0 by omega, win_all]
        · have := ih (e - 4) (by omega) (out ++ [win s (e - 4) e]) (by omega) (by rw [List.length_append]; simp; omega) hd' hv'
          rwa [show ((e - 4 : Nat) : Int) = (e : Int) - 4 by omega] at this
theorem limbs_ev (s : ByteArray) (hs : s.size ≤ 1099511627776) : Ev (fun k => galoisref01_limbs.f k s) (d32 (bval s).toNat) :=
  limbs_l0 s hs s.size [] (Nat.le_refl _) (by simp) (Dig_nil _) (by rw [win_self]; rfl)
theorem limbs_nat {n : Nat} (hs : (nat n).size ≤ 1099511627776) : Ev (fun k => galoisref01_limbs.f k (nat n)) (d32 n) := by
  have := limbs_ev (nat n) hs
  rwa [bval_nat, Int.toNat_natCast] at this
theorem d8_push {N x : Nat} (hx : x < 256) (h : N * 256 + x ≠ 0) : d8 (N * 256 + x) = (x : Int) :: d8 N := by
  unfold d8
  rw [dgs_pos _ _ h, show (N * 256 + x) % (254 + 2) = x by omega, show (N * 256 + x) / (254 + 2) = N by omega]
theorem rpack_byte {N x : Nat} (hx : x < 256) : (if (((d8 N).reverse.length : Int) > 0) then (d8 N).reverse ++ [(x : Int)] else if (x : Int) > 0 then (d8 N).reverse ++ [(x : Int)] else (d8 N).reverse) = (d8 (N * 256 + x)).reverse := by
  by_cases h : N * 256 + x = 0
  · have hN : N = 0 := by omega
    have hx0 : x = 0 := by omega
    subst hN hx0
    have : d8 0 = [] := dgs_zero _
    rw [show 0 * 256 + 0 = 0 from rfl, this]
    simp
  · rw [d8_push hx h, List.reverse_cons]
    by_cases h1 : ((d8 N).reverse.length : Int) > 0
    · rw [if_pos h1]
    · rw [if_neg h1, if_pos]
      have : N = 0 := by
        rcases Nat.eq_zero_or_pos N with h2 | h2
        · exact h2
        · exfalso
          have h3 : (nat N).size ≠ 0 := fun h4 => by have := nat_size_zero.1 h4; omega
          rw [nat_size] at h3
          rw [List.length_reverse] at h1
          omega
      omega
theorem rpack_l1 {l : List Int} {V : Nat} (hd : Dig B32 l) (hl : l.length ≤ 1099511627776) (hV : (nat V).size ≤ 4398046511104) {i H D : Nat} (hi : i < l.length) (hD : rd l (i : Int) = D) (hle : H * 4294967296 + D ≤ V) {r : ByteArray}
    (next : Ev (fun k => galoisref01_pack.l0 k l (d8 (H * 4294967296 + D)).reverse ((i : Int) - 1)) r) : ∀ (c N : Nat), c ≤ 4 → N = H * 256 ^ (4 - c) + D / 256 ^ c → Ev (fun k => galoisref01_pack.l1 k l (d8 N).reverse (i : Int) (8 * (c : Int) - 8)) r := by
  have hD32 : D < 4294967296 := by
    have h := (Dig_rd hd i hi).2
    rw [hD] at h
    exact Int.ofNat_lt.1 h
  intro c
  induction c with
  | zero =>
    intro N _ hN
    have hN : N = H * 4294967296 + D := by simpa using hN
    rw [hN]
    have e1 : wrap64 ((i : Int) - 1) = (i : Int) - 1 := w64 (by omega) (by omega)
    refine Ev.step (fun k => ?_) next
    simp only [galoisref01_pack.l1, e1]
    rw [if_neg (by decide)]
  | succ c ih =>
    intro N hc hN
    have hcase : c = 0 ∨ c = 1 ∨ c = 2 ∨ c = 3 := by omega
    have hNV : N ≤ V := by
      refine Nat.le_trans ?_ hle
      rw [hN]
      exact Nat.add_le_add (Nat.mul_le_mul_left H (Nat.pow_le_pow_right (show 0 < 256 by decide) (show 4 - (c + 1) ≤ 4 from Nat.sub_le _ _))) (Nat.div_le_self _ _)
    have hb : ∃ x : Nat, x < 256 ∧ (shr .u64 (rd l (i : Int)) (8 * ((c + 1 : Nat) : Int) - 8)) % 256 = (x : Int) ∧ N * 256 + x = H * 256 ^ (4 - c) + D / 256 ^ c := by
      refine ⟨D / 256 ^ c % 256, Nat.mod_lt _ (by decide), ?_, ?_⟩
      · rw [show 8 * ((c + 1 : Nat) : Int) - 8 = ((8 * c : Nat) : Int) by omega, shr_eq _ _ (by omega), hD]
        rcases hcase with rfl | rfl | rfl | rfl <;> simp <;> omega
      · rw [hN]
        rcases hcase with rfl | rfl | rfl | rfl <;> simp <;> omega
    obtain ⟨x, x1, x2, x3⟩ := hb
    have hsz : (d8 N).reverse.length < 140737488355328 := by
      have := size_mono hNV
      rw [nat_size] at this
      rw [List.length_reverse]
      omega
    have e1 : wrap64 (8 * ((c + 1 : Nat) : Int) - 8 - 8) = 8 * (c : Int) - 8 := by rw [w64 (by omega) (by omega)]; omega
    refine Ev.step (f := fun k => galoisref01_pack.l1 k l (d8 (N * 256 + x)).reverse (i : Int) (8 * (c : Int) - 8)) (fun k => ?_) (ih (N * 256 + x) (by omega) x3)
    rw [← rpack_byte x1]
    simp only [galoisref01_pack.l1, e1, x2]
    rw [if_pos (by omega), if_pos (by omega), if_pos (by omega), if_pos (by omega)]
    by_cases h1 : ((d8 N).reverse.length : Int) > 0
    · rw [if_pos h1, if_pos hsz, if_pos h1]
    · rw [if_neg h1, if_neg h1]
      by_cases h2 : (x : Int) > 0
      · rw [if_pos h2, if_pos hsz, if_pos h2]
      · rw [if_neg h2, if_neg h2]
theorem rpack_l0 {l : List Int} {V : Nat} (hd : Dig B32 l) (hl : l.length ≤ 1099511627776) (hV : (nat V).size ≤ 4398046511104) (hv : vB B32 l = V) : ∀ (J H : Nat), J ≤ l.length → vB B32 (l.drop J) = H → Ev (fun k => galoisref01_pack.l0 k l (d8 H).reverse ((J : Int) - 1)) (nat V) := by
  intro J
  induction J with
  | zero =>
    intro H _ hH
    rw [List.drop_zero, hv] at hH
    have e : H = V := by omega
    subst e
    refine Ev.step (f := fun _ => some (nat H)) (fun k => ?_) (Ev.now _)
    simp only [galoisref01_pack.l0]
    rw [if_neg (by decide)]
    rfl
  | succ i ih =>
    intro H hJ hH
    have hi : i < l.length := by omega
    obtain ⟨D, hD⟩ := Int.eq_ofNat_of_zero_le (Dig_rd hd i hi).1
    have hds := drop_succ B32 l i hi
    rw [hH, hD] at hds
    have hds' : vB B32 (l.drop i) = ((H * 4294967296 + D : Nat) : Int) := by
      rw [hds]
      show (D : Int) + 4294967296 * (H : Int) = _
      omega
    have hle : H * 4294967296 + D ≤ V := by
      have h1 := vB_split B32 l i (by omega)
      have h2 := vB_nonneg (show (0 : Int) ≤ B32 by decide) (Dig_take hd i)
      have h3 : (1 : Int) ≤ B32 ^ i := by have : (0 : Int) < B32 ^ i := Int.pow_pos (by decide); omega
      have h4 := Int.mul_le_mul_of_nonneg_right h3 (show 0 ≤ vB B32 (l.drop i) from vB_nonneg (by decide) (Dig_drop hd i))
      rw [Int.one_mul] at h4
      rw [hv] at h1
      rw [hds'] at h1 h4
      generalize B32 ^ i * ((H * 4294967296 + D : Nat) : Int) = X at *
      clear h3
      omega
    refine Ev.congr (f := fun k => galoisref01_pack.l0 k l (d8 H).reverse (i : Int)) (fun k => by rw [show ((i + 1 : Nat) : Int) - 1 = (i : Int) by omega]) ?_
    refine Ev.step (f := fun k => galoisref01_pack.l1 k l (d8 H).reverse (i : Int) (8 * ((4 : Nat) : Int) - 8)) (fun k => ?_) (rpack_l1 hd hl hV hi hD hle (ih _ (by omega) hds') 4 H (Nat.le_refl _) ?_)
    · simp only [galoisref01_pack.l0]
      rw [if_pos (by omega)]
      rfl
    · have hD32 : D < 4294967296 := by
        have h := (Dig_rd hd i hi).2
        rw [hD] at h
        exact Int.ofNat_lt.1 h
      simp
      omega
theorem rpack_ev {l : List Int} (hd : Dig B32 l) (hl : l.length ≤ 1099511627776) : Ev (fun k => galoisref01_pack.f k l) (nat (vB B32 l).toNat) := by
  have hv := vB_nonneg (show (0 : Int) ≤ B32 by decide) hd
  have hV : (nat (vB B32 l).toNat).size ≤ 4398046511104 := by
    have h : (nat (vB B32 l).toNat).size ≤ 4 * l.length := by
      apply nat_size_le.2
      have h1 := vB_lt (show (0 : Int) < B32 by decide) hd
      rw [Nat.pow_mul]
      have h2 : (((vB B32 l).toNat : Nat) : Int) < ((4294967296 ^ l.length : Nat) : Int) := by
        rw [Int.toNat_of_nonneg hv, Int.natCast_pow]
        exact h1
      exact Int.ofNat_lt.1 h2
    omega
  have e1 : wrap64 ((l.length : Int) - 1) = (l.length : Int) - 1 := w64 (by omega) (by omega)
  have := rpack_l0 hd hl hV (show vB B32 l = (((vB B32 l).toNat : Nat) : Int) by omega) l.length 0 (Nat.le_refl _) (by rw [List.drop_of_length_le (Nat.le_refl _)]; rfl)
  refine Ev.congr (fun k => ?_) this
  unfold galoisref01_pack.f
  rw [e1, show d8 0 = [] from dgs_zero _]
  rfl
end Go.Proofs.YtohkmnbnjacfaaaN
set_option linter.unusedVariables false
namespace Go.Proofs.YtohkmnbnjacfaaaN
open Go.RowKit Go.Proofs.Ytohkmnbnjacfaaa.All Go.Proofs.YtohkmnbnjacfaaaW.PrintWords Go.Proofs.YtohkmnbnjacfaaaW.PrintLast Go.Proofs.YtohkmnbnjacfaaaW.PrintMore
theorem and32 {x : Int} (h0 : 0 ≤ x) (h1 : x < 18446744073709551616) : Go.bits .and .u64 x 4294967295 = x % B32 := and_low h0 h1
theorem rCompare_ev (m n : Nat) : Ev (fun k => galoisref01_Compare.f k (nat m) (nat n)) (cmpN m n) := by
  have hj : ∀ b : Bool, b = decide (m < n) → Ev (fun k => galoisref01_Compare.j0 k (nat m) (nat n) b) (cmpN m n) := by
    rintro b rfl
    refine Ev.step (f := fun _ => some (cmpN m n)) (fun k => ?_) (Ev.now _)
    simp only [galoisref01_Compare.j0, toList_ext, nat_inj, decide_eq_true_eq, cmpN]
    split
    · rfl
    · split <;> rfl
  by_cases h1 : (nat m).size < (nat n).size
  · refine Ev.congr (f := fun k => galoisref01_Compare.j0 k (nat m) (nat n) true) (fun k => ?_) (hj _ (by simp [size_lt h1]))
    unfold galoisref01_Compare.f
    rw [if_pos (by omega)]
  · by_cases h2 : (nat m).size = (nat n).size
    · refine Ev.congr (f := fun k => galoisref01_Compare.j0 k (nat m) (nat n) (Op.bytesLess (nat m).toList (nat n).toList)) (fun k => ?_) (hj _ (less_nat h2))
      unfold galoisref01_Compare.f
      rw [if_neg (by omega), if_pos (by omega)]
    · refine Ev.congr (f := fun k => galoisref01_Compare.j0 k (nat m) (nat n) false) (fun k => ?_) (hj _ (by
        have : n < m := size_lt (by omega)
        simp; omega))
      unfold galoisref01_Compare.f
      rw [if_neg (by omega), if_neg (by omega)]
def RAdd (x y out : List Int) (i : Nat) (c : Int) : Prop :=
  out.length = i ∧ Dig B32 out ∧ (0 ≤ c ∧ c ≤ 1) ∧ vB B32 out + B32 ^ i * c = vB B32 (x.take i) + vB B32 (y.take i)
theorem radd_step {x y out : List Int} {i : Nat} {c : Int} (hx : Dig B32 x) (hy : Dig B32 y) (h : RAdd x y out i c) :
    RAdd x y (out ++ [(c + rd x (i : Int) + rd y (i : Int)) % B32]) (i + 1) ((c + rd x (i : Int) + rd y (i : Int)) / B32) := by
  obtain ⟨hl, hd, hc, hv⟩ := h
  obtain ⟨x0, x1⟩ := Dig_rd0 (by decide) hx i
  obtain ⟨y0, y1⟩ := Dig_rd0 (by decide) hy i
  have x1' : rd x (i : Int) < 4294967296 := x1
  have y1' : rd y (i : Int) < 4294967296 := y1
  refine ⟨by rw [List.length_append, hl]; rfl, Dig_append hd (Dig_cons.2 ⟨⟨Int.emod_nonneg _ (by decide), Int.emod_lt_of_pos _ (by decide)⟩, Dig_nil _⟩), ?_, ?_⟩
  · show 0 ≤ (c + rd x (i : Int) + rd y (i : Int)) / 4294967296 ∧ (c + rd x (i : Int) + rd y (i : Int)) / 4294967296 ≤ 1
    clear hv
    omega
  · rw [vB_append, hl, take_succ, take_succ, Int.pow_succ]
    have e := Int.emod_add_mul_ediv (c + rd x (i : Int) + rd y (i : Int)) B32
    generalize (c + rd x (i : Int) + rd y (i : Int)) / B32 = q at *
    generalize (c + rd x (i : Int) + rd y (i : Int)) % B32 = r at *
    have er : r = c + rd x (i : Int) + rd y (i : Int) - B32 * q := by clear hv; omega
    have e2 : vB B32 [r] = r := by simp [vB]
    rw [e2, er, Int.mul_sub, Int.mul_add, Int.mul_add, Int.mul_assoc (B32 ^ i) B32 q]
    generalize (B32 : Int) ^ i = P at *
    omega
theorem radd_round {x y out : List Int} {i : Nat} {c : Int} {r : ByteArray} (hx : Dig B32 x) (hy : Dig B32 y) (li : i ≤ 1099511627776) (h : RAdd x y out i c) (ht : i < x.length ∨ i < y.length ∨ c > 0)
    (next : Ev (fun k => galoisref01_Add.l0 k x y (out ++ [(c + rd x (i : Int) + rd y (i : Int)) % B32]) ((c + rd x (i : Int) + rd y (i : Int)) / B32) ((i + 1 : Nat) : Int)) r) : Ev (fun k => galoisref01_Add.l0 k x y out c (i : Int)) r := by
  have hl := h.1
  have hc := h.2.2.1
  have c4 : out.length < 17592186044416 := by omega
  obtain ⟨x0, x1⟩ := Dig_rd0 (by decide) hx i
  obtain ⟨y0, y1⟩ := Dig_rd0 (by decide) hy i
  have x1' : rd x (i : Int) < 4294967296 := x1
  have y1' : rd y (i : Int) < 4294967296 := y1
  have fx : ¬ (i : Int) < (x.length : Int) → rd x (i : Int) = 0 := fun h => rd_far x i (by omega)
  have fy : ¬ (i : Int) < (y.length : Int) → rd y (i : Int) = 0 := fun h => rd_far y i (by omega)
  have e1 : wrap64 ((i : Int) + 1) = ((i + 1 : Nat) : Int) := by rw [w64 (by omega) (by omega)]; omega
  have e2 : IntKind.u64.wrap (c + rd x (i : Int)) = c + rd x (i : Int) := by clear e1; exact u64 (by omega) (by omega)
  have e3 : IntKind.u64.wrap (c + rd x (i : Int) + rd y (i : Int)) = c + rd x (i : Int) + rd y (i : Int) := by clear e1 e2; exact u64 (by omega) (by omega)
  have e4 : IntKind.u64.wrap (c + rd y (i : Int)) = c + rd y (i : Int) := by clear e1 e2 e3; exact u64 (by omega) (by omega)
  have a3 := and32 (x := c + rd x (i : Int) + rd y (i : Int)) (by clear e1 e2 e3 e4; omega) (by clear e1 e2 e3 e4; omega)
  refine Ev.step (f := fun k => galoisref01_Add.j1 k x y out c (i : Int) true) (fun k => ?_) (Ev.step (fun k => ?_) next)
  · simp only [galoisref01_Add.l0]
    by_cases hx' : (i : Int) < (x.length : Int)
    · rw [if_pos hx']
    · rw [if_neg hx']
      by_cases hy' : (i : Int) < (y.length : Int)
      · rw [if_pos hy']
      · rw [if_neg hy', decide_eq_true (show c > 0 by clear e1 e2 e3 e4 a3; omega)]
  · simp only [galoisref01_Add.j1, e1]
    rw [if_pos trivial]
    by_cases hx' : (i : Int) < (x.length : Int)
    · rw [if_pos hx', if_pos (Int.natCast_nonneg _)]
      by_cases hy' : (i : Int) < (y.length : Int)
      · rw [if_pos hy', if_pos c4, e2, e3, a3]
      · have z := fy hy'
        rw [z, Int.add_zero] at a3
        rw [if_neg hy', if_pos c4, e2, a3, z, Int.add_zero]
    · have z := fx hx'
      rw [if_neg hx']
      by_cases hy' : (i : Int) < (y.length : Int)
      · rw [z, Int.add_zero] at a3
        rw [if_pos hy', if_pos (Int.natCast_nonneg _), if_pos c4, e4, a3, z, Int.add_zero]
      · have z2 := fy hy'
        rw [z, z2, Int.add_zero, Int.add_zero] at a3
        rw [if_neg hy', if_pos c4, a3, z, z2, Int.add_zero, Int.add_zero]
theorem radd_stop {x y out : List Int} {i n : Nat} (lx : x.length ≤ i) (ly : y.length ≤ i) (li : i ≤ 1099511627776) (hn : vB B32 x + vB B32 y = n) (h : RAdd x y out i 0) : Ev (fun k => galoisref01_Add.l0 k x y out 0 (i : Int)) (nat n) := by
  obtain ⟨hl, hd, -, hv⟩ := h
  rw [Int.mul_zero, Int.add_zero, vB_all _ _ _ lx, vB_all _ _ _ ly, hn] at hv
  have p := rpack_ev hd (by omega)
  rw [hv, Int.toNat_natCast] at p
  refine Ev.step (f := fun k => galoisref01_Add.j1 k x y out 0 (i : Int) false) (fun k => ?_) (Ev.step (f := fun k => (galoisref01_pack.f k out).bind fun t => some t) (fun k => ?_) (Ev.bind p (Ev.now _)))
  · simp only [galoisref01_Add.l0]
    rw [if_neg (by omega), if_neg (by omega), decide_eq_false (by decide)]
  · simp only [galoisref01_Add.j1]
    rw [if_neg Bool.false_ne_true]
theorem rAdd_l0 {x y : List Int} (hx : Dig B32 x) (hy : Dig B32 y) (M : Nat) (lx : x.length ≤ M) (ly : y.length ≤ M) (hM : M = x.length ∨ M = y.length) (lM : M ≤ 1099511627775) (n : Nat) (hn : vB B32 x + vB B32 y = n) : ∀ (d i : Nat) (out : List Int) (c : Int), i + d = M → RAdd x y out i c →
    Ev (fun k => galoisref01_Add.l0 k x y out c (i : Int)) (nat n) := by
  intro d
  induction d with
  | zero =>
    intro i out c hi h
    have hi : i = M := by omega
    subst hi
    have hc := h.2.2.1
    have hcase : c = 0 ∨ c = 1 := by omega
    rcases hcase with rfl | rfl
    · exact radd_stop lx ly (by omega) hn h
    · have hs := radd_step hx hy h
      have zx := rd_far x i lx
      have zy := rd_far y i ly
      rw [zx, zy] at hs
      refine radd_round hx hy (by omega) h (Or.inr (Or.inr (by decide))) ?_
      rw [zx, zy]
      exact radd_stop (by omega) (by omega) (by omega) hn hs
  | succ d ih =>
    intro i out c hi h
    exact radd_round hx hy (by omega) h (by omega) (ih (i + 1) _ _ (by omega) (radd_step hx hy h))
theorem rAdd_ev {m n : Nat} (hm : (nat m).size ≤ 1099511627776) (hn : (nat n).size ≤ 1099511627776) : Ev (fun k => galoisref01_Add.f k (nat m) (nat n)) (nat (m + n)) := by
  have lm := limbs_len m
  have ln := limbs_len n
  exact Ev.bind (limbs_nat hm) (Ev.bind (limbs_nat hn) (rAdd_l0 (d32_dig m) (d32_dig n) (max (d32 m).length (d32 n).length) (Nat.le_max_left _ _) (Nat.le_max_right _ _) (by omega) (by omega) (m + n) (by rw [d32_val, d32_val, Int.natCast_add]) (max (d32 m).length (d32 n).length) 0 [] 0 (Nat.zero_add _) ⟨rfl, Dig_nil _, ⟨by decide, by decide⟩, by simp [vB]⟩))
end Go.Proofs.YtohkmnbnjacfaaaN
set_option linter.unusedVariables false
namespace Go.Proofs.YtohkmnbnjacfaaaN
open Go.RowKit Go.Proofs.Ytohkmnbnjacfaaa.All Go.Proofs.YtohkmnbnjacfaaaW.PrintWords Go.Proofs.YtohkmnbnjacfaaaW.PrintLast Go.Proofs.YtohkmnbnjacfaaaW.PrintMore
theorem rmul_add {x y o c : Int} (x0 : 0 ≤ x) (x1 : x < B32) (y0 : 0 ≤ y) (y1 : y < B32) (o0 : 0 ≤ o) (o1 : o < B32) (c0 : 0 ≤ c) (c1 : c < B32) :
    0 ≤ (x * y + o + c) / B32 ∧ (x * y + o + c) / B32 < B32 ∧ IntKind.u64.wrap (IntKind.u64.wrap (o + IntKind.u64.wrap (x * y)) + c) = x * y + o + c ∧ Go.bits .and .u64 (x * y + o + c) 4294967295 = (x * y + o + c) % B32 := by
  have x1' : x < 4294967296 := x1
  have y1' : y < 4294967296 := y1
  have o1' : o < 4294967296 := o1
  have c1' : c < 4294967296 := c1
  have hp := mul_range x0 (show x ≤ 4294967295 by omega) y0 (show y ≤ 4294967295 by omega)
  have h1 : (4294967295 : Int) * 4294967295 = 18446744065119617025 := rfl
  rw [h1] at hp
  rw [and32 (x := x * y + o + c) (by omega) (by omega)]
  show 0 ≤ (x * y + o + c) / 4294967296 ∧ (x * y + o + c) / 4294967296 < 4294967296 ∧ IntKind.u64.wrap (IntKind.u64.wrap (o + IntKind.u64.wrap (x * y)) + c) = x * y + o + c ∧ (x * y + o + c) % 4294967296 = (x * y + o + c) % 4294967296
  generalize x * y = p at *
  clear x0 x1 x1' y0 y1 y1' o1 c1 h1
  rw [u64 (x := p) (by omega) (by omega), u64 (x := o + p) (by omega) (by omega), u64 (x := o + p + c) (by omega) (by omega)]
  omega
def RMulOut (a b out : List Int) (i : Nat) : Prop :=
  out.length = a.length + b.length ∧ Dig B32 out ∧ vB B32 out = vB B32 (a.take i) * vB B32 b ∧ ∀ j : Nat, i + b.length ≤ j → rd out (j : Int) = 0
def RMulIn (a b out : List Int) (i j : Nat) (c : Int) : Prop :=
  out.length = a.length + b.length ∧ Dig B32 out ∧ (0 ≤ c ∧ c < B32) ∧ vB B32 out + B32 ^ (i + j) * c = vB B32 (a.take i) * vB B32 b + B32 ^ i * (rd a (i : Int) * vB B32 (b.take j)) ∧ ∀ n : Nat, i + b.length ≤ n → rd out (n : Int) = 0
theorem rmul_in {a b out : List Int} {i j : Nat} {c : Int} (ha : Dig B32 a) (hb : Dig B32 b) (hi : i < a.length) (hj : j < b.length) (h : RMulIn a b out i j c) :
    RMulIn a b (out.set (i + j) ((rd a (i : Int) * rd b (j : Int) + rd out ((i + j : Nat) : Int) + c) % B32)) i (j + 1) ((rd a (i : Int) * rd b (j : Int) + rd out ((i + j : Nat) : Int) + c) / B32) := by
  obtain ⟨hl, hd, hc, hv, hz⟩ := h
  obtain ⟨x0, x1⟩ := Dig_rd ha i hi
  obtain ⟨y0, y1⟩ := Dig_rd hb j hj
  obtain ⟨o0, o1⟩ := Dig_rd hd (i + j) (by omega)
  obtain ⟨n0, n1, -⟩ := rmul_add x0 x1 y0 y1 o0 o1 hc.1 hc.2
  refine ⟨by rw [List.length_set]; exact hl, Dig_set hd _ (Int.emod_nonneg _ (by decide)) (Int.emod_lt_of_pos _ (by decide)), ⟨n0, n1⟩, ?_, fun n hn => ?_⟩
  · rw [vB_set _ _ _ _ (by omega), take_succ, ← Nat.add_assoc, Int.pow_succ]
    have e := Int.emod_add_mul_ediv (rd a (i : Int) * rd b (j : Int) + rd out ((i + j : Nat) : Int) + c) B32
    generalize (rd a (i : Int) * rd b (j : Int) + rd out ((i + j : Nat) : Int) + c) / B32 = q at *
    generalize (rd a (i : Int) * rd b (j : Int) + rd out ((i + j : Nat) : Int) + c) % B32 = r at *
    have er : r = rd a (i : Int) * rd b (j : Int) + rd out ((i + j : Nat) : Int) + c - B32 * q := by omega
    rw [er]
    have ep : (B32 : Int) ^ (i + j) = B32 ^ i * B32 ^ j := Int.pow_add _ _ _
    rw [ep] at hv ⊢
    clear ep
    generalize vB B32 out = V at *
    generalize vB B32 (List.take i a) * vB B32 b = W at *
    generalize vB B32 (List.take j b) = U at *
    generalize (B32 : Int) ^ i = P at *
    generalize (B32 : Int) ^ j = Q at *
    generalize rd a (i : Int) = x at *
    generalize rd b (j : Int) = y at *
    generalize rd out ((i + j : Nat) : Int) = o at *
    have e1 : P * Q * (x * y + o + c - B32 * q - o) = P * Q * (x * y) + P * Q * c - P * Q * B32 * q := by
      rw [show x * y + o + c - B32 * q - o = x * y + c - B32 * q by omega, Int.mul_sub, Int.mul_add, Int.mul_assoc (P * Q) B32 q]
    have e2 : P * (x * (U + Q * y)) = P * (x * U) + P * Q * (x * y) := by
      rw [Int.mul_add x, Int.mul_add P, Int.mul_left_comm x Q y, Int.mul_assoc P Q]
    rw [e1, e2]
    omega
  · rw [rd_set_ne _ _ _ _ (by omega)]
    exact hz n hn
theorem rMul_l1 (a b : List Int) (ha : Dig B32 a) (hb : Dig B32 b) (la : a.length ≤ 1099511627776) (lb : b.length ≤ 1099511627776) (i : Nat) (hi : i < a.length) (r : ByteArray)
    (next : ∀ out, RMulOut a b out (i + 1) → Ev (fun k => galoisref01_Mul.l0 k a b out ((i + 1 : Nat) : Int)) r) : ∀ (d j : Nat) (out : List Int) (c : Int), j + d = b.length → RMulIn a b out i j c →
    Ev (fun k => galoisref01_Mul.l1 k a b out (i : Int) c (j : Int)) r := by
  intro d
  induction d with
  | zero =>
    intro j out c hj h
    have hj : j = b.length := by omega
    subst hj
    have hl := h.1
    have c1 : i + b.length < out.length := by omega
    have c2 : ((i + b.length : Nat) : Int) < (out.length : Int) := Int.ofNat_lt.2 c1
    have e1 : wrap64 ((i : Int) + (b.length : Int)) = ((i + b.length : Nat) : Int) := by rw [w64 (by omega) (by omega)]; omega
    have e2 : wrap64 ((i : Int) + 1) = ((i + 1 : Nat) : Int) := by clear e1; rw [w64 (by omega) (by omega)]; omega
    obtain ⟨-, hd, hc, hv, hz⟩ := h
    refine Ev.step (f := fun k => galoisref01_Mul.l0 k a b (out.set (i + b.length) c) ((i + 1 : Nat) : Int)) (fun k => ?_) (next _ ⟨by rw [List.length_set]; exact hl, Dig_set hd _ hc.1 hc.2, ?_, fun j hj => ?_⟩)
    · simp only [galoisref01_Mul.l1, e1, e2]
      rw [if_neg (Int.lt_irrefl _), if_pos (Int.natCast_nonneg _), if_pos c2, Int.toNat_natCast]
    · rw [vB_set _ _ _ _ c1, hz _ (Nat.le_refl _), Int.sub_zero, hv, take_succ, vB_all _ _ _ (Nat.le_refl _), Int.add_mul, Int.mul_assoc]
    · rw [rd_set_ne _ _ _ _ (by clear hv e1 e2; omega)]
      exact hz j (by clear hv e1 e2; omega)
  | succ d ih =>
    intro j out c hj h
    have hj' : j < b.length := by omega
    have hn := rmul_in ha hb hi hj' h
    have hl := h.1
    have c1 : i + j < out.length := by omega
    have c2 : ((i + j : Nat) : Int) < (out.length : Int) := Int.ofNat_lt.2 c1
    have c3 : (j : Int) < (b.length : Int) := Int.ofNat_lt.2 hj'
    have c5 : (i : Int) < (a.length : Int) := Int.ofNat_lt.2 hi
    have c4 : j + 1 + d = b.length := by omega
    have e1 : wrap64 ((i : Int) + (j : Int)) = ((i + j : Nat) : Int) := by rw [w64 (by omega) (by omega)]; omega
    have e2 : wrap64 ((j : Int) + 1) = ((j + 1 : Nat) : Int) := by clear e1; rw [w64 (by omega) (by omega)]; omega
    obtain ⟨-, hd, hc, -, -⟩ := h
    obtain ⟨x0, x1⟩ := Dig_rd ha i hi
    obtain ⟨y0, y1⟩ := Dig_rd hb j hj'
    obtain ⟨o0, o1⟩ := Dig_rd hd (i + j) c1
    obtain ⟨-, -, m0, m1⟩ := rmul_add x0 x1 y0 y1 o0 o1 hc.1 hc.2
    refine Ev.step (fun k => ?_) (ih (j + 1) _ _ c4 hn)
    simp only [galoisref01_Mul.l1, e1, e2]
    rw [if_pos c3, if_pos (Int.natCast_nonneg _), if_pos c2, if_pos (Int.natCast_nonneg _), if_pos c5, if_pos (Int.natCast_nonneg _), m0, m1, Int.toNat_natCast]
theorem rMul_l0 (a b : List Int) (ha : Dig B32 a) (hb : Dig B32 b) (la : a.length ≤ 549755813888) (lb : b.length ≤ 549755813888) (n : Nat) (hn : vB B32 a * vB B32 b = n) : ∀ (d i : Nat) (out : List Int), i + d = a.length → RMulOut a b out i →
    Ev (fun k => galoisref01_Mul.l0 k a b out (i : Int)) (nat n) := by
  intro d
  induction d with
  | zero =>
    intro i out hi h
    have hi : i = a.length := by omega
    subst hi
    obtain ⟨hl, hd, hv, hz⟩ := h
    rw [vB_all _ _ _ (Nat.le_refl _), hn] at hv
    have p := rpack_ev hd (by omega)
    rw [hv, Int.toNat_natCast] at p
    refine Ev.step (f := fun k => (galoisref01_pack.f k out).bind fun t => some t) (fun k => ?_) (Ev.bind p (Ev.now _))
    simp only [galoisref01_Mul.l0]
    rw [if_neg (Int.lt_irrefl _)]
  | succ d ih =>
    intro i out hi h
    have hi' : i < a.length := by omega
    have c1 : (i : Int) < (a.length : Int) := Int.ofNat_lt.2 hi'
    obtain ⟨hl, hd, hv, hz⟩ := h
    refine Ev.step (f := fun k => galoisref01_Mul.l1 k a b out (i : Int) 0 ((0 : Nat) : Int)) (fun k => ?_) (rMul_l1 a b ha hb (by omega) (by omega) i hi' _ (fun out' h' => ih (i + 1) out' (by omega) h') b.length 0 out 0 (Nat.zero_add _) ⟨hl, hd, ⟨by decide, by decide⟩, ?_, hz⟩)
    · simp only [galoisref01_Mul.l0]
      rw [if_pos c1]
      rfl
    · rw [hv]
      simp [vB]
theorem rMul_ev {m n : Nat} (hm : (nat m).size ≤ 1099511627776) (hn : (nat n).size ≤ 1099511627776) : Ev (fun k => galoisref01_Mul.f k (nat m) (nat n)) (nat (m * n)) := by
  have lm := limbs_len m
  have ln := limbs_len n
  refine Ev.bind (limbs_nat hm) (Ev.bind (limbs_nat hn) ?_)
  have e1 : wrap64 (((d32 m).length : Int) + ((d32 n).length : Int)) = (((d32 m).length + (d32 n).length : Nat) : Int) := by rw [w64 (by omega) (by omega)]; omega
  refine Ev.congr (f := fun k => galoisref01_Mul.l0 k (d32 m) (d32 n) (List.replicate ((d32 m).length + (d32 n).length) 0) ((0 : Nat) : Int)) (fun k => ?_) (rMul_l0 (d32 m) (d32 n) (d32_dig m) (d32_dig n) (by omega) (by omega) (m * n) (by rw [d32_val, d32_val, Int.natCast_mul]) (d32 m).length 0 _ (Nat.zero_add _) ⟨by simp, Dig_replicate (by decide) _, ?_, fun j _ => rd_replicate _ _⟩)
  · rw [e1, if_pos (Int.natCast_nonneg _), Int.toNat_natCast, if_pos (by omega)]
    rfl
  · rw [vB_replicate]
    simp [vB]
end Go.Proofs.YtohkmnbnjacfaaaN
set_option linter.unusedVariables false
namespace Go.Proofs.YtohkmnbnjacfaaaN
open Go.RowKit Go.Proofs.Ytohkmnbnjacfaaa.All Go.Proofs.YtohkmnbnjacfaaaW.PrintWords Go.Proofs.YtohkmnbnjacfaaaW.PrintLast Go.Proofs.YtohkmnbnjacfaaaW.PrintMore
theorem empty_toList : (⟨#[]⟩ : ByteArray).toList = ([] : List UInt8) := toList_nil.2 rfl
theorem right_err {e : Int} (h : e ≠ 0) (w : ByteArray) : galoislaw01_right.f ⟨#[]⟩ e e w = some true := by
  unfold galoislaw01_right.f
  rw [if_neg h, if_pos empty_toList]
  simp
theorem right_bnd (n : Nat) : galoislaw01_right.f (bnd n).1 (bnd n).2 0 (nat n) = some true := by
  unfold galoislaw01_right.f galoisref01_Fits.f bnd
  rw [if_pos rfl]
  by_cases h : 1024 < (nat n).size
  · rw [if_pos (show ((nat n).size : Int) > 1024 by omega), if_pos h, Option.bind_some, if_neg (by decide), if_pos empty_toList]
    rfl
  · rw [if_neg (show ¬ ((nat n).size : Int) > 1024 by omega), if_neg h, Option.bind_some, if_pos rfl, if_pos rfl]
    rfl
theorem right_ok {n : Nat} (h : (nat n).size ≤ 1024) : galoislaw01_right.f (nat n) 0 0 (nat n) = some true := by
  have := right_bnd n
  rwa [bnd_ok h] at this
end Go.Proofs.YtohkmnbnjacfaaaN
set_option linter.unusedVariables false
namespace Go.Proofs.YtohkmnbnjacfaaaN
open Go.RowKit Go.Proofs.Ytohkmnbnjacfaaa.All Go.Proofs.YtohkmnbnjacfaaaW.PrintWords Go.Proofs.YtohkmnbnjacfaaaW.PrintLast Go.Proofs.YtohkmnbnjacfaaaW.PrintMore
theorem rOf_ev {u : Nat} (hu : u < 18446744073709551616) : Ev (fun k => galoisref01_Of.f k (u : Int)) (nat u) := by
  have a1 := and32 (x := (u : Int)) (by omega) (by omega)
  have hd : Dig B32 [(u : Int) % B32, (u : Int) / 4294967296] := Dig_cons.2 ⟨⟨Int.emod_nonneg _ (by decide), Int.emod_lt_of_pos _ (by decide)⟩, Dig_cons.2 ⟨⟨by omega, by show _ < (4294967296 : Int); omega⟩, Dig_nil _⟩⟩
  have p := rpack_ev hd (by simp)
  have hv : vB B32 [(u : Int) % B32, (u : Int) / 4294967296] = u := by
    show (u : Int) % 4294967296 + 4294967296 * ((u : Int) / 4294967296 + 4294967296 * 0) = u
    omega
  rw [hv, Int.toNat_natCast] at p
  refine Ev.congr (f := fun k => (galoisref01_pack.f k [(u : Int) % B32, (u : Int) / 4294967296]).bind fun t => some t) (fun k => ?_) (Ev.bind p (Ev.now _))
  unfold galoisref01_Of.f
  rw [a1]
end Go.Proofs.YtohkmnbnjacfaaaN
set_option linter.unusedVariables false
namespace Go.Proofs.YtohkmnbnjacfaaaN
open Go.RowKit Go.Proofs.Ytohkmnbnjacfaaa.All Go.Proofs.YtohkmnbnjacfaaaW.PrintWords Go.Proofs.YtohkmnbnjacfaaaW.PrintLast Go.Proofs.YtohkmnbnjacfaaaW.PrintMore
theorem rtop_lt {x y : List Int} (hx : Dig B32 x) (hy : Dig B32 y) {i : Nat} (hi : i < x.length) (hi' : i < y.length) (hd : vB B32 (x.drop (i + 1)) = vB B32 (y.drop (i + 1))) (h : rd x (i : Int) < rd y (i : Int)) : vB B32 x < vB B32 y := by
  have hB : (0 : Int) < B32 := by decide
  have hsx := vB_split B32 x (i + 1) (by omega)
  have hsy := vB_split B32 y (i + 1) (by omega)
  rw [take_succ] at hsx hsy
  have ax := vB_lt hB (Dig_take hx i)
  rw [List.length_take, Nat.min_eq_left (by omega)] at ax
  have bb := vB_nonneg (Int.le_of_lt hB) (Dig_take hy i)
  rw [hd] at hsx
  have hP : (0 : Int) < B32 ^ i := Int.pow_pos hB
  rw [hsx, hsy]
  generalize vB B32 (x.take i) = X at *
  generalize vB B32 (y.take i) = Y at *
  generalize B32 ^ (i + 1) * vB B32 (y.drop (i + 1)) = Z at *
  generalize (B32 : Int) ^ i = P at *
  generalize rd x (i : Int) = a at *
  generalize rd y (i : Int) = b at *
  have h1 := Int.mul_le_mul_of_nonneg_left (show a + 1 ≤ b by omega) (Int.le_of_lt hP)
  rw [Int.mul_add, Int.mul_one] at h1
  clear hsx hsy hd
  omega
theorem below_l0 (x y : List Int) (hx : Dig B32 x) (hy : Dig B32 y) (hl : x.length = y.length) (hs : x.length < 9223372036854775808) {m n : Nat} (hm : vB B32 x = m) (hn : vB B32 y = n) : ∀ i : Nat, i ≤ x.length → vB B32 (x.drop i) = vB B32 (y.drop i) → Ev (fun k => galoisref01_below.l0 k x y ((i : Int) - 1)) (decide (m < n)) := by
  intro i
  induction i with
  | zero =>
    intro _ hd
    rw [List.drop_zero, List.drop_zero, hm, hn] at hd
    have e : ¬ m < n := by omega
    rw [decide_eq_false e]
    refine Ev.step (f := fun _ => some false) (fun k => ?_) (Ev.now _)
    simp only [galoisref01_below.l0]
    rw [if_neg (by decide)]
  | succ i ih =>
    intro hi hd
    have e0 : ((i + 1 : Nat) : Int) - 1 = (i : Int) := by omega
    have e1 : wrap64 ((i : Int) - 1) = (i : Int) - 1 := w64 (by omega) (by omega)
    have c1 : (i : Int) ≥ 0 := by omega
    have c2 : (i : Int) < (x.length : Int) := by omega
    have c3 : (i : Int) < (y.length : Int) := by omega
    rw [e0]
    by_cases he : rd x (i : Int) = rd y (i : Int)
    · refine Ev.step (f := fun k => galoisref01_below.l0 k x y ((i : Int) - 1)) (fun k => ?_) (ih (by omega) ?_)
      · simp only [galoisref01_below.l0, e1]
        rw [if_pos c1, if_pos c1, if_pos c2, if_pos c3, if_pos he]
      · rw [drop_succ B32 x i (by omega), drop_succ B32 y i (by omega), hd, he]
    · have hdec : decide (rd x (i : Int) < rd y (i : Int)) = decide (m < n) := by
        by_cases hab : rd x (i : Int) < rd y (i : Int)
        · have h1 := rtop_lt hx hy (by omega) (by omega) hd hab
          rw [decide_eq_true hab, decide_eq_true (by rw [hm, hn] at h1; omega)]
        · have h1 := rtop_lt hy hx (by omega) (by omega) hd.symm (show rd y (i : Int) < rd x (i : Int) by omega)
          rw [decide_eq_false hab, decide_eq_false (by rw [hm, hn] at h1; omega)]
      refine Ev.step (f := fun _ => some (decide (m < n))) (fun k => ?_) (Ev.now _)
      simp only [galoisref01_below.l0, e1]
      rw [if_pos c1, if_pos c1, if_pos c2, if_pos c3, if_neg he, hdec]
theorem below_ev {l : List Int} {n R : Nat} (hd : Dig B32 l) (hl : l.length < 9223372036854775808) (hR : vB B32 l = R) (hn : (d32 n).length < 9223372036854775808) : Ev (fun k => galoisref01_below.f k l (d32 n)) (decide (R < n)) := by
  have ht := rtrimV_ev hl hd
  rw [hR, Int.toNat_natCast] at ht
  have hRl : (d32 R).length < 9223372036854775808 := by
    have : (d32 R).length ≤ l.length := dgs_len (by
      have h1 := vB_lt (show (0 : Int) < B32 by decide) hd
      rw [hR] at h1
      have h2 : ((R : Nat) : Int) < ((4294967294 + 2 : Nat) : Int) ^ l.length := h1
      rw [← Int.natCast_pow] at h2
      exact Int.ofNat_lt.1 h2)
    omega
  refine Ev.bind ht ?_
  by_cases h1 : (d32 R).length = (d32 n).length
  · have := below_l0 (d32 R) (d32 n) (d32_dig R) (d32_dig n) h1 hRl (d32_val R) (d32_val n) (d32 R).length (Nat.le_refl _) (by
      rw [List.drop_of_length_le (Nat.le_refl _), List.drop_of_length_le (by omega)])
    refine Ev.congr (fun k => ?_) this
    rw [if_pos (by omega), w64 (by omega) (by omega)]
  · have hdec : decide (((d32 R).length : Int) < ((d32 n).length : Int)) = decide (R < n) := by
      by_cases h2 : (d32 R).length < (d32 n).length
      · have h3 := trim_len (by decide) (d32_dig R) (d32_dig n) (d32_trim n) h2
        rw [d32_val, d32_val] at h3
        rw [decide_eq_true (by omega), decide_eq_true (by omega)]
      · have h3 := trim_len (by decide) (d32_dig n) (d32_dig R) (d32_trim R) (by omega)
        rw [d32_val, d32_val] at h3
        rw [decide_eq_false (by omega), decide_eq_false (by omega)]
    refine Ev.congr (f := fun _ => some (decide (R < n))) (fun k => ?_) (Ev.now _)
    rw [if_neg (by omega), hdec]
end Go.Proofs.YtohkmnbnjacfaaaN
set_option linter.unusedVariables false
namespace Go.Proofs.YtohkmnbnjacfaaaN
open Go.RowKit Go.Proofs.Ytohkmnbnjacfaaa.All Go.Proofs.YtohkmnbnjacfaaaW.PrintWords Go.Proofs.YtohkmnbnjacfaaaW.PrintLast Go.Proofs.YtohkmnbnjacfaaaW.PrintMore
def RSm (u y z : List Int) (g : Int) (K i : Nat) (c : Int) : Prop :=
  z.length = u.length ∧ Dig B32 z ∧ (0 ≤ c ∧ c < B32) ∧ z.take K = u.take K ∧ z.drop (K + i) = u.drop (K + i) ∧ vB B32 z + B32 ^ K * (g * vB B32 (y.take i)) = vB B32 u + B32 ^ (K + i) * c
theorem take_set_far {l : List Int} {K j : Nat} (h : K ≤ j) (x : Int) : (l.set j x).take K = l.take K := List.take_set_of_le h
theorem rsm_digit {z y g c : Int} (z0 : 0 ≤ z) (z1 : z < B32) (y0 : 0 ≤ y) (y1 : y < B32) (g0 : 0 ≤ g) (g1 : g < B32) (c0 : 0 ≤ c) (c1 : c < B32) :
    IntKind.u64.wrap (IntKind.u64.wrap (y * g) + c) = y * g + c ∧ Go.bits .and .u64 (y * g + c) 4294967295 = (y * g + c) % B32 ∧ 0 ≤ (y * g + c) / B32 ∧ (y * g + c) / B32 < B32 ∧ 0 ≤ (y * g + c) % B32 ∧ (y * g + c) % B32 < B32 ∧ (z < (y * g + c) % B32 → (y * g + c) / B32 + 1 < B32) := by
  have z1' : z < 4294967296 := z1
  have y1' : y < 4294967296 := y1
  have g1' : g < 4294967296 := g1
  have c1' : c < 4294967296 := c1
  have hp := mul_range y0 (show y ≤ 4294967295 by omega) g0 (show g ≤ 4294967295 by omega)
  have h1 : (4294967295 : Int) * 4294967295 = 18446744065119617025 := rfl
  rw [h1] at hp
  rw [and32 (x := y * g + c) (by omega) (by omega)]
  show IntKind.u64.wrap (IntKind.u64.wrap (y * g) + c) = y * g + c ∧ (y * g + c) % 4294967296 = (y * g + c) % 4294967296 ∧ 0 ≤ (y * g + c) / 4294967296 ∧ (y * g + c) / 4294967296 < 4294967296 ∧ 0 ≤ (y * g + c) % 4294967296 ∧ (y * g + c) % 4294967296 < 4294967296 ∧ (z < (y * g + c) % 4294967296 → (y * g + c) / 4294967296 + 1 < 4294967296)
  generalize y * g = p at *
  clear y0 y1 y1' g0 g1 g1' z1 c1 h1
  rw [u64 (x := p) (by omega) (by omega), u64 (x := p + c) (by omega) (by omega)]
  omega
theorem rsm_step {u y z : List Int} {g c d e : Int} {K i : Nat} (hj : K + i < z.length) (h : RSm u y z g K i c) (d0 : 0 ≤ d) (d1 : d < B32) (he : 0 ≤ (rd y (i : Int) * g + c) / B32 + e) (he1 : (rd y (i : Int) * g + c) / B32 + e < B32)
    (hd : d = rd z ((K + i : Nat) : Int) - (rd y (i : Int) * g + c) % B32 + B32 * e) : RSm u y (z.set (K + i) d) g K (i + 1) ((rd y (i : Int) * g + c) / B32 + e) := by
  obtain ⟨hl, hdg, hc, ht, hdr, hv⟩ := h
  refine ⟨by rw [List.length_set]; exact hl, Dig_set hdg _ d0 d1, ⟨he, he1⟩, by rw [take_set_far (by omega)]; exact ht, ?_, ?_⟩
  · rw [← Nat.add_assoc, drop_set, ← List.drop_drop, hdr, List.drop_drop]
  · rw [vB_set _ _ _ _ hj, take_succ, ← Nat.add_assoc, Int.pow_succ, hd]
    have em := Int.emod_add_mul_ediv (rd y (i : Int) * g + c) B32
    generalize (rd y (i : Int) * g + c) / B32 = q at *
    generalize (rd y (i : Int) * g + c) % B32 = r at *
    have er : rd z ((K + i : Nat) : Int) - r + B32 * e - rd z ((K + i : Nat) : Int) = B32 * (q + e) - rd y (i : Int) * g - c := by
      rw [Int.mul_add]
      clear hv
      omega
    have ep : (B32 : Int) ^ (K + i) = B32 ^ K * B32 ^ i := Int.pow_add _ _ _
    rw [er, Int.mul_sub, Int.mul_sub, Int.mul_assoc (B32 ^ (K + i)) B32]
    have e3 : B32 ^ K * (g * (vB B32 (y.take i) + B32 ^ i * rd y (i : Int))) = B32 ^ K * (g * vB B32 (y.take i)) + B32 ^ (K + i) * (rd y (i : Int) * g) := by
      rw [ep, Int.mul_add g, Int.mul_add (B32 ^ K), Int.mul_left_comm g (B32 ^ i), ← Int.mul_assoc (B32 ^ K) (B32 ^ i), Int.mul_comm g (rd y _)]
    rw [e3]
    generalize B32 ^ (K + i) * (B32 * (q + e)) = A1 at *
    generalize B32 ^ (K + i) * (rd y (i : Int) * g) = A2 at *
    generalize B32 ^ (K + i) * c = A3 at *
    generalize B32 ^ K * (g * vB B32 (y.take i)) = A4 at *
    clear ep er em
    omega
theorem rsm_end {u y z : List Int} {g c : Int} {K N : Nat} (hN : y.length = N) (hKN : K + N < u.length) (hu : Dig B32 u) (hy : Dig B32 y) (h : RSm u y z g K N c) (hg : g * vB B32 y ≤ vB B32 (u.drop K)) (hR : vB B32 (u.drop K) < vB B32 y * B32) :
    0 ≤ rd z ((K + N : Nat) : Int) - c ∧ rd z ((K + N : Nat) : Int) - c < B32 ∧ (z.set (K + N) (rd z ((K + N : Nat) : Int) - c)).length = u.length ∧ Dig B32 (z.set (K + N) (rd z ((K + N : Nat) : Int) - c)) ∧
    vB B32 ((z.set (K + N) (rd z ((K + N : Nat) : Int) - c)).drop K) = vB B32 (u.drop K) - g * vB B32 y ∧ vB B32 (z.set (K + N) (rd z ((K + N : Nat) : Int) - c)) + B32 ^ K * (g * vB B32 y) = vB B32 u := by
  have hB : (0 : Int) < B32 := by decide
  obtain ⟨hl, hd, hc, ht, hdr, hv⟩ := h
  rw [vB_all _ _ _ (by rw [hN]; exact Nat.le_refl _)] at hv
  have hj : K + N < z.length := by omega
  obtain ⟨z0, z1⟩ := Dig_rd hd (K + N) hj
  have hy1 := vB_lt hB hy
  rw [hN] at hy1
  have s2 := vB_split B32 (u.drop K) (N + 1) (by rw [List.length_drop]; omega)
  rw [List.drop_drop] at s2
  have p1 := vB_nonneg (Int.le_of_lt hB) (Dig_take (Dig_drop hu K) (N + 1))
  have p2 := vB_nonneg (Int.le_of_lt hB) (Dig_drop hu (K + (N + 1)))
  have hzero : vB B32 (u.drop (K + (N + 1))) = 0 := by
    rcases Int.lt_or_le (vB B32 (u.drop (K + (N + 1)))) 1 with h | h
    · clear hv hy1 s2 hR hg; omega
    · exfalso
      have h1 := Int.mul_le_mul_of_nonneg_left h (Int.le_of_lt (show (0 : Int) < B32 ^ (N + 1) from Int.pow_pos hB))
      rw [Int.mul_one] at h1
      have h2 := Int.mul_lt_mul_of_pos_right hy1 hB
      have h3 : (B32 : Int) ^ (N + 1) = B32 ^ N * B32 := Int.pow_succ _ _
      rw [h3] at h1 s2
      generalize (B32 : Int) ^ N * B32 = P at *
      generalize P * vB B32 (u.drop (K + (N + 1))) = A at *
      clear hv hy1 hg h3
      omega
  have s3 := vB_split B32 z (K + N) (by omega)
  have s4 : vB B32 (z.drop (K + N)) = rd z ((K + N : Nat) : Int) := by
    have h1 := drop_succ B32 z (K + N) hj
    have h2 : z.drop (K + N + 1) = u.drop (K + (N + 1)) := by rw [← List.drop_drop, hdr, List.drop_drop, Nat.add_assoc]
    rw [h2, hzero, Int.mul_zero, Int.add_zero] at h1
    exact h1
  have l0 := vB_nonneg (Int.le_of_lt hB) (Dig_take hd (K + N))
  have l1 := vB_lt hB (Dig_take hd (K + N))
  rw [List.length_take, Nat.min_eq_left (by clear hv hy1 s2 s3; omega)] at l1
  have s5 := vB_split B32 u K (by clear hv hy1 s2 s3 l1; omega)
  have l2 := vB_nonneg (Int.le_of_lt hB) (Dig_take hu K)
  have hge : c ≤ rd z ((K + N : Nat) : Int) := by
    rcases Int.lt_or_le (rd z ((K + N : Nat) : Int)) c with h | h
    · exfalso
      have h1 := Int.mul_le_mul_of_nonneg_left (show rd z ((K + N : Nat) : Int) + 1 ≤ c by clear hv hy1 s2 s3 l1 s5; omega) (Int.le_of_lt (show (0 : Int) < B32 ^ (K + N) from Int.pow_pos hB))
      rw [Int.mul_add, Int.mul_one] at h1
      have h2 := Int.mul_le_mul_of_nonneg_left hg (Int.le_of_lt (show (0 : Int) < B32 ^ K from Int.pow_pos hB))
      rw [s4] at s3
      generalize B32 ^ (K + N) * rd z ((K + N : Nat) : Int) = A1 at *
      generalize B32 ^ (K + N) * c = A2 at *
      generalize (B32 : Int) ^ (K + N) = A3 at *
      generalize B32 ^ K * (g * vB B32 y) = A4 at *
      generalize B32 ^ K * vB B32 (u.drop K) = A5 at *
      clear hy1 s2
      omega
    · exact h
  have d0 : 0 ≤ rd z ((K + N : Nat) : Int) - c := by clear hv hy1 s2 s3 l1 s5; omega
  have d1 : rd z ((K + N : Nat) : Int) - c < B32 := by clear hv hy1 s2 s3 l1 s5; omega
  have hval : vB B32 (z.set (K + N) (rd z ((K + N : Nat) : Int) - c)) + B32 ^ K * (g * vB B32 y) = vB B32 u := by
    rw [vB_set _ _ _ _ hj, show rd z ((K + N : Nat) : Int) - c - rd z ((K + N : Nat) : Int) = -c by clear hv hy1 s2 s3 l1 s5; omega, Int.mul_neg]
    generalize B32 ^ (K + N) * c = A2 at *
    generalize B32 ^ K * (g * vB B32 y) = A4 at *
    clear hy1 s2 s3 l1 s5
    omega
  refine ⟨d0, d1, by rw [List.length_set]; exact hl, Dig_set hd _ d0 d1, ?_, hval⟩
  have s6 := vB_split B32 (z.set (K + N) (rd z ((K + N : Nat) : Int) - c)) K (by rw [List.length_set]; clear hv hy1 s2 s3 l1 s5 hval; omega)
  rw [take_set_far (by clear hv hy1 s2 s3 l1 s5 hval; omega), ht] at s6
  have hne : (B32 : Int) ^ K ≠ 0 := Int.ne_of_gt (Int.pow_pos hB)
  apply Int.eq_of_mul_eq_mul_left hne
  rw [Int.mul_sub]
  generalize B32 ^ K * vB B32 ((z.set (K + N) (rd z ((K + N : Nat) : Int) - c)).drop K) = A1 at *
  generalize B32 ^ K * vB B32 (u.drop K) = A2 at *
  generalize B32 ^ K * (g * vB B32 y) = A4 at *
  clear hv hy1 s2 s3 l1
  omega
end Go.Proofs.YtohkmnbnjacfaaaN
set_option linter.unusedVariables false
namespace Go.Proofs.YtohkmnbnjacfaaaN
open Go.RowKit Go.Proofs.Ytohkmnbnjacfaaa.All Go.Proofs.YtohkmnbnjacfaaaW.PrintWords Go.Proofs.YtohkmnbnjacfaaaW.PrintLast Go.Proofs.YtohkmnbnjacfaaaW.PrintMore
theorem rdiv_l2 {u y q : List Int} {g : Int} {K N : Nat} (hN : y.length = N) (hKN : K + N < u.length) (lu : u.length ≤ 1099511627776) (hu : Dig B32 u) (hy : Dig B32 y) (g0 : 0 ≤ g) (g1 : g < B32) (hg : g * vB B32 y ≤ vB B32 (u.drop K)) (hR : vB B32 (u.drop K) < vB B32 y * B32) {r : ByteArray × ByteArray}
    (next : ∀ z' : List Int, z'.length = u.length → Dig B32 z' → vB B32 (z'.drop K) = vB B32 (u.drop K) - g * vB B32 y → vB B32 z' + B32 ^ K * (g * vB B32 y) = vB B32 u → Ev (fun k => galoisref01_DivMod.l1 k y (N : Int) z' q (K : Int)) r) :
    ∀ (d i : Nat) (z : List Int) (c : Int), i + d = N → RSm u y z g K i c → Ev (fun k => galoisref01_DivMod.l2 k y (N : Int) z q (K : Int) g c (i : Int)) r := by
  intro d
  induction d with
  | zero =>
    intro i z c hi h
    have hi : i = N := by omega
    subst hi
    have hl := h.1
    have c1 : ((K + i : Nat) : Int) < (z.length : Int) := by omega
    obtain ⟨d0, d1, r1, r2, r3, r4⟩ := rsm_end hN hKN hu hy h hg hR
    have d1' : rd z ((K + i : Nat) : Int) - c < 4294967296 := d1
    have e1 : wrap64 ((K : Int) + (i : Int)) = ((K + i : Nat) : Int) := by clear r3 r4 hg hR; rw [w64 (by omega) (by omega)]; omega
    have e2 : IntKind.u64.wrap (rd z ((K + i : Nat) : Int) - c) = rd z ((K + i : Nat) : Int) - c := by clear r3 r4 hg hR e1; exact u64 (by omega) (by omega)
    refine Ev.step (fun k => ?_) (next _ r1 r2 r3 r4)
    simp only [galoisref01_DivMod.l2, e1, e2]
    rw [if_neg (Int.lt_irrefl _), if_pos (Int.natCast_nonneg _), if_pos c1, Int.toNat_natCast]
  | succ d ih =>
    intro i z c hi h
    have hl := h.1
    have hi' : i < N := by omega
    have hj : K + i < z.length := by omega
    have c0 : i + 1 + d = N := by omega
    have c1 : (i : Int) < (N : Int) := Int.ofNat_lt.2 hi'
    have c2 : (i : Int) < (y.length : Int) := by rw [hN]; exact c1
    have c3 : ((K + i : Nat) : Int) < (z.length : Int) := Int.ofNat_lt.2 hj
    obtain ⟨z0, z1⟩ := Dig_rd h.2.1 (K + i) hj
    obtain ⟨y0, y1⟩ := Dig_rd hy i (by omega)
    have hc := h.2.2.1
    obtain ⟨p1, p2, p3, p4, p5, p6, p7⟩ := rsm_digit z0 z1 y0 y1 g0 g1 hc.1 hc.2
    have z1' : rd z ((K + i : Nat) : Int) < 4294967296 := z1
    have p4' : (rd y (i : Int) * g + c) / B32 < 4294967296 := p4
    have p6' : (rd y (i : Int) * g + c) % B32 < 4294967296 := p6
    have e1 : wrap64 ((K : Int) + (i : Int)) = ((K + i : Nat) : Int) := by clear p1 p2 p3 p4 p4' p5 p6 p6' p7 hg hR; rw [w64 (by omega) (by omega)]; omega
    have e2 : wrap64 ((i : Int) + 1) = ((i + 1 : Nat) : Int) := by clear p1 p2 p3 p4 p4' p5 p6 p6' p7 hg hR e1; rw [w64 (by omega) (by omega)]; omega
    by_cases hb : rd z ((K + i : Nat) : Int) < (rd y (i : Int) * g + c) % B32
    · have p8 := p7 hb
      have hs := rsm_step (d := rd z ((K + i : Nat) : Int) + 4294967296 - (rd y (i : Int) * g + c) % B32) (e := 1) hj h (by clear p1 p2 p3 p4 p4' p5 p7 hg hR e1 e2; omega) (by show _ < (4294967296 : Int); clear p1 p2 p3 p4 p4' p5 p7 hg hR e1 e2; omega) (by clear p1 p2 p4 p4' p5 p7 hg hR e1 e2 hb; omega) p8 (by show _ = rd z ((K + i : Nat) : Int) - (rd y (i : Int) * g + c) % B32 + 4294967296 * 1; clear p1 p2 p3 p4 p4' p5 p7 hg hR e1 e2; omega)
      have e3 : IntKind.u64.wrap (rd z ((K + i : Nat) : Int) + 4294967296) = rd z ((K + i : Nat) : Int) + 4294967296 := by clear p1 p2 p3 p4 p4' p5 p7 hg hR e1 e2; exact u64 (by omega) (by omega)
      have e4 : IntKind.u64.wrap (rd z ((K + i : Nat) : Int) + 4294967296 - (rd y (i : Int) * g + c) % B32) = rd z ((K + i : Nat) : Int) + 4294967296 - (rd y (i : Int) * g + c) % B32 := by clear p1 p2 p3 p4 p4' p7 hg hR e1 e2 e3; exact u64 (by omega) (by omega)
      have e5 : IntKind.u64.wrap ((rd y (i : Int) * g + c) / 4294967296 + 1) = (rd y (i : Int) * g + c) / B32 + 1 := by
        clear p1 p2 p7 hg hR e1 e2 e3 e4
        exact u64 (Int.add_nonneg p3 (by decide)) (Int.lt_trans p8 (by decide))
      have r1 : rd (z.set (K + i) (rd z ((K + i : Nat) : Int) + 4294967296)) ((K + i : Nat) : Int) = rd z ((K + i : Nat) : Int) + 4294967296 := rd_set_self _ _ _ hj
      refine Ev.step (fun k => ?_) (ih (i + 1) _ _ c0 hs)
      simp only [galoisref01_DivMod.l2, e1, e2, p1, p2, e3, e5, Int.toNat_natCast, Option.bind_some]
      rw [if_pos c1, if_pos (Int.natCast_nonneg _), if_pos c2, if_pos (Int.natCast_nonneg _), if_pos c3, if_pos hb, r1, e4, List.set_set]
    · have hs := rsm_step (d := rd z ((K + i : Nat) : Int) - (rd y (i : Int) * g + c) % B32) (e := 0) hj h (by clear p1 p2 p3 p4 p4' p7 hg hR e1 e2; omega) (by show _ < (4294967296 : Int); clear p1 p2 p3 p4 p4' p7 hg hR e1 e2; omega) (by rw [Int.add_zero]; exact p3) (by rw [Int.add_zero]; exact p4) (by rw [Int.mul_zero, Int.add_zero])
      have e4 : IntKind.u64.wrap (rd z ((K + i : Nat) : Int) - (rd y (i : Int) * g + c) % B32) = rd z ((K + i : Nat) : Int) - (rd y (i : Int) * g + c) % B32 := by clear p1 p2 p3 p4 p4' p7 hg hR e1 e2; exact u64 (by omega) (by omega)
      rw [Int.add_zero] at hs
      refine Ev.step (fun k => ?_) (ih (i + 1) _ _ c0 hs)
      simp only [galoisref01_DivMod.l2, e1, e2, p1, p2, Int.toNat_natCast]
      rw [if_pos c1, if_pos (Int.natCast_nonneg _), if_pos c2, if_pos (Int.natCast_nonneg _), if_pos c3, if_neg hb, e4]
end Go.Proofs.YtohkmnbnjacfaaaN
set_option linter.unusedVariables false
namespace Go.Proofs.YtohkmnbnjacfaaaN
open Go.RowKit Go.Proofs.Ytohkmnbnjacfaaa.All Go.Proofs.YtohkmnbnjacfaaaW.PrintWords Go.Proofs.YtohkmnbnjacfaaaW.PrintLast Go.Proofs.YtohkmnbnjacfaaaW.PrintMore
theorem d32_pos {n : Nat} (h : 0 < n) : 0 < (d32 n).length := by
  rcases Nat.eq_zero_or_pos (d32 n).length with h1 | h1
  · exfalso
    have := d32_val n
    rw [List.eq_nil_of_length_eq_zero h1] at this
    simp [vB] at this
    omega
  · exact h1
theorem mx_or (a b : Int) : (mx a b = a ∧ b ≤ a) ∨ (mx a b = b ∧ a ≤ b) := by
  unfold mx
  split
  · right; exact ⟨rfl, by omega⟩
  · left; exact ⟨rfl, by omega⟩
theorem rguess {u : List Int} {n K N : Nat} {R T top : Int} (hn : 0 < n) (hN : (d32 n).length = N + 1) (hKN : K + (N + 1) < u.length) (hu : Dig B32 u) (hR : vB B32 (u.drop K) = R) (hge : (n : Int) ≤ R) (hlt : R < n * B32)
    (hT : T = rd u ((K + (N + 1) : Nat) : Int) * 4294967296 + rd u ((K + N : Nat) : Int)) (htop : top = rd (d32 n) (N : Int)) :
    (0 ≤ T ∧ T < 18446744073709551616) ∧ (0 ≤ top ∧ top < 4294967296) ∧ 1 ≤ mx 1 (T / (top + 1)) ∧ mx 1 (T / (top + 1)) < B32 ∧ mx 1 (T / (top + 1)) * n ≤ R := by
  have hB : (0 : Int) < B32 := by decide
  obtain ⟨t0, t1⟩ := Dig_rd (d32_dig n) N (by omega)
  obtain ⟨u0, u1⟩ := Dig_rd hu (K + (N + 1)) hKN
  obtain ⟨v0, v1⟩ := Dig_rd hu (K + N) (by omega)
  rw [← htop] at t0 t1
  have t1' : top < 4294967296 := t1
  have u1' : rd u ((K + (N + 1) : Nat) : Int) < 4294967296 := u1
  have v1' : rd u ((K + N : Nat) : Int) < 4294967296 := v1
  have T0 : 0 ≤ T := by omega
  have T1 : T < 18446744073709551616 := by omega
  have key : T / (top + 1) * n ≤ R := by
    have hg0 : 0 ≤ T / (top + 1) := Int.ediv_nonneg T0 (by omega)
    have hg1 : T / (top + 1) * (top + 1) ≤ T := Int.ediv_mul_le T (by omega)
    have s1 := vB_split B32 (u.drop K) N (by rw [List.length_drop]; omega)
    rw [List.drop_drop, hR] at s1
    have p1 := vB_nonneg (Int.le_of_lt hB) (Dig_take (Dig_drop hu K) N)
    have s2 := drop_succ B32 u (K + N) (by omega)
    have s3 := drop_succ B32 u (K + (N + 1)) hKN
    rw [show K + N + 1 = K + (N + 1) by omega, s3] at s2
    have p2 := vB_nonneg (Int.le_of_lt hB) (Dig_drop hu (K + (N + 1) + 1))
    have hle : T ≤ vB B32 (u.drop (K + N)) := by
      rw [s2, hT]
      show _ ≤ rd u ((K + N : Nat) : Int) + 4294967296 * (rd u ((K + (N + 1) : Nat) : Int) + 4294967296 * vB B32 (u.drop (K + (N + 1) + 1)))
      clear s1 s2 s3 hg1 hlt hge
      omega
    have hP : (0 : Int) ≤ B32 ^ N := Int.le_of_lt (Int.pow_pos hB)
    have h1 := Int.mul_le_mul_of_nonneg_left hle hP
    have hn1 := vB_all B32 (d32 n) (N + 1) (by omega)
    rw [take_succ, d32_val, ← htop] at hn1
    have hn2 := vB_lt hB (Dig_take (d32_dig n) N)
    rw [List.length_take, Nat.min_eq_left (by omega)] at hn2
    have hn3 : (n : Int) ≤ B32 ^ N * (top + 1) := by
      rw [Int.mul_add, Int.mul_one]
      generalize B32 ^ N * top = A at *
      generalize (B32 : Int) ^ N = P at *
      clear s1 s2 s3 hg1 hlt hge hle h1
      omega
    have h2 := Int.mul_le_mul_of_nonneg_left hn3 hg0
    have h3 := Int.mul_le_mul_of_nonneg_left hg1 hP
    have e : T / (top + 1) * (B32 ^ N * (top + 1)) = B32 ^ N * (T / (top + 1) * (top + 1)) := Int.mul_left_comm _ _ _
    rw [e] at h2
    generalize B32 ^ N * (T / (top + 1) * (top + 1)) = A at *
    generalize B32 ^ N * T = A2 at *
    generalize B32 ^ N * vB B32 (u.drop (K + N)) = A3 at *
    generalize T / (top + 1) * (n : Int) = A4 at *
    clear s2 s3 hg1 hlt hge hle hn1 hn2 hn3 e
    omega
  have hall : 1 ≤ mx 1 (T / (top + 1)) ∧ mx 1 (T / (top + 1)) * n ≤ R := by
    rcases mx_or 1 (T / (top + 1)) with ⟨h, h'⟩ | ⟨h, h'⟩
    · rw [h, Int.one_mul]
      exact ⟨Int.le_refl _, hge⟩
    · rw [h]
      exact ⟨h', key⟩
  refine ⟨⟨T0, T1⟩, ⟨t0, t1'⟩, hall.1, ?_, hall.2⟩
  rcases Int.lt_or_le (mx 1 (T / (top + 1))) B32 with h | h
  · exact h
  · exfalso
    have h1 := Int.mul_le_mul_of_nonneg_right h (show (0 : Int) ≤ n by omega)
    rw [Int.mul_comm B32] at h1
    have := hall.2
    clear hall key
    generalize mx 1 (T / (top + 1)) * (n : Int) = A at *
    generalize (n : Int) * B32 = A2 at *
    omega
theorem rdiv_l1 {n N K Lu Lq : Nat} {V : Int} (hn : 0 < n) (hN : (d32 n).length = N + 1) (hKN : K + (N + 1) < Lu) (hKq : K < Lq) (lu : Lu ≤ 1099511627776) {r : ByteArray × ByteArray}
    (next : ∀ u q : List Int, u.length = Lu → q.length = Lq → Dig B32 u → Dig B32 q → q.take K = List.replicate K 0 → vB B32 u + n * vB B32 q = V → vB B32 (u.drop K) < n → Ev (fun k => galoisref01_DivMod.l0 k (d32 n) ((N + 1 : Nat) : Int) u q ((K : Int) - 1)) r) :
    ∀ (R : Nat) (u q : List Int), u.length = Lu → q.length = Lq → Dig B32 u → Dig B32 q → q.take K = List.replicate K 0 → vB B32 u + n * vB B32 q = V → vB B32 (u.drop K) = R → rd q (K : Int) * n + R < n * B32 → Ev (fun k => galoisref01_DivMod.l1 k (d32 n) ((N + 1 : Nat) : Int) u q (K : Int)) r := by
  intro R
  induction R using Nat.strongRecOn with
  | _ R ih =>
    intro u q hlu hlq hu hq hz hV hR hb
    have hbe := below_ev (n := n) (Dig_drop hu K) (by rw [List.length_drop]; omega) hR (by omega)
    have c0 : (K : Int) ≤ (u.length : Int) := by omega
    refine Ev.step (fun k => galoisref01_DivMod.l1.eq_2 ..) ?_
    refine Ev.congr (fun k => if_pos (Int.natCast_nonneg K)) (Ev.congr (fun k => if_pos c0) ?_)
    refine Ev.bind hbe ?_
    have e0 : wrap64 ((K : Int) - 1) = (K : Int) - 1 := by clear hV hb hR; exact w64 (by omega) (by omega)
    have c1 : ((K + (N + 1) : Nat) : Int) < (u.length : Int) := by clear hV hb hR e0; omega
    have c2 : ((K + N : Nat) : Int) < (u.length : Int) := by clear hV hb hR e0; omega
    have c3 : (N : Int) < ((d32 n).length : Int) := by clear hV hb hR e0; omega
    have c5 : (K : Int) < (q.length : Int) := by clear hV hb hR e0; omega
    have cG : ∀ G : Int, rd q (K : Int) + G - rd q (K : Int) = G := fun G => by clear hV hb hR e0; omega
    by_cases hlt : R < n
    · refine Ev.congr (fun k => if_pos (decide_eq_true hlt)) ?_
      rw [e0]
      exact next u q hlu hlq hu hq hz hV (by rw [hR]; exact Int.ofNat_lt.2 hlt)
    · obtain ⟨q0, q1⟩ := Dig_rd hq K (by omega)
      have hq0n : 0 ≤ rd q (K : Int) * n := Int.mul_nonneg q0 (by omega)
      have hRB : (R : Int) < n * B32 := by
        generalize rd q (K : Int) * (n : Int) = A at *
        generalize (n : Int) * B32 = A2 at *
        clear hV
        omega
      obtain ⟨⟨T0, T1⟩, ⟨p0, p1⟩, g1, gB, gR⟩ := rguess hn hN (by omega) hu hR (by omega) hRB rfl rfl
      obtain ⟨T, hT⟩ : ∃ T, T = rd u ((K + (N + 1) : Nat) : Int) * 4294967296 + rd u ((K + N : Nat) : Int) := ⟨_, rfl⟩
      rw [← hT] at T0 T1 g1 gB gR
      obtain ⟨top, htop⟩ : ∃ top, top = rd (d32 n) (N : Int) := ⟨_, rfl⟩
      rw [← htop] at p0 p1 g1 gB gR
      obtain ⟨u0, u1⟩ := Dig_rd hu (K + (N + 1)) (by omega)
      obtain ⟨v0, v1⟩ := Dig_rd hu (K + N) (by omega)
      have u1' : rd u ((K + (N + 1) : Nat) : Int) < 4294967296 := u1
      have q1' : rd q (K : Int) < 4294967296 := q1
      have e1 : wrap64 ((K : Int) + ((N + 1 : Nat) : Int)) = ((K + (N + 1) : Nat) : Int) := by clear hV hb hR hT htop e0; rw [w64 (by omega) (by omega)]; omega
      have e2 : wrap64 (((K + (N + 1) : Nat) : Int) - 1) = ((K + N : Nat) : Int) := by clear hV hb hR hT htop e0 e1; rw [w64 (by omega) (by omega)]; omega
      have e3 : wrap64 (((N + 1 : Nat) : Int) - 1) = (N : Int) := by clear hV hb hR hT htop e0 e1 e2; rw [w64 (by omega) (by omega)]; omega
      have e4 : IntKind.u64.wrap (top + 1) = top + 1 := by clear hV hb hR hT htop e0 e1 e2 e3; exact u64 (by omega) (by omega)
      have e5 : IntKind.u64.wrap (rd u ((K + (N + 1) : Nat) : Int) * 4294967296) = rd u ((K + (N + 1) : Nat) : Int) * 4294967296 := by clear hV hb hR hT htop e0 e1 e2 e3 e4; exact u64 (by omega) (by omega)
      have e6 : IntKind.u64.wrap T = T := u64 T0 T1
      have d0 : 0 ≤ T / (top + 1) := Int.ediv_nonneg T0 (by clear hV hb hR hT htop e0 e1 e2 e3 e4 e5 e6; omega)
      have d1 : T / (top + 1) ≤ T := Int.ediv_le_self _ T0
      have e7 : IntKind.u64.wrap (Int.tdiv T (top + 1)) = T / (top + 1) := by
        rw [Int.tdiv_eq_ediv_of_nonneg T0]
        exact u64 d0 (Int.lt_of_le_of_lt d1 T1)
      obtain ⟨G, hG⟩ := Int.eq_ofNat_of_zero_le (show 0 ≤ mx 1 (T / (top + 1)) from Int.le_trans (by decide) g1)
      rw [hG] at g1 gB gR
      have gB' : (G : Int) < 4294967296 := gB
      have gR' : G * n ≤ R := by
        apply Int.ofNat_le.1
        rw [Int.natCast_mul]
        exact gR
      have hGn : n ≤ G * n := Nat.le_mul_of_pos_left _ (by clear hV hb hR hT htop e0 e1 e2 e3 e4 e5 e6 e7 hG gR gR'; omega)
      have hnew : (rd q (K : Int) + G) * n + ((R - G * n : Nat) : Int) < n * B32 := by
        rw [Int.add_mul, Int.ofNat_sub gR', Int.natCast_mul]
        generalize rd q (K : Int) * (n : Int) = A at *
        generalize (G : Int) * (n : Int) = A3 at *
        generalize (n : Int) * B32 = A2 at *
        clear hV e0 e1 e2 e3 e4 e5 e6 e7 hT htop hG
        omega
      have hdig : rd q (K : Int) + G < B32 := by
        rcases Int.lt_or_le (rd q (K : Int) + G) B32 with h | h
        · exact h
        · exfalso
          have h1 := Int.mul_le_mul_of_nonneg_right h (show (0 : Int) ≤ n by omega)
          rw [Int.mul_comm B32] at h1
          generalize (rd q (K : Int) + G) * (n : Int) = A at *
          generalize (n : Int) * B32 = A2 at *
          generalize R - G * n = A3 at *
          clear hV e0 e1 e2 e3 e4 e5 e6 e7 hT htop hG hb
          omega
      have hdig' : rd q (K : Int) + G < 4294967296 := hdig
      have e8 : IntKind.u64.wrap (rd q (K : Int) + (G : Int)) = rd q (K : Int) + G := by clear hV hb hR hT htop e0 e1 e2 e3 e4 e5 e6 e7 hG; exact u64 (by omega) (by omega)
      have hyv := d32_val n
      have k1 : K + (N + 1) < u.length := by rw [hlu]; exact hKN
      have k2 : u.length ≤ 1099511627776 := by rw [hlu]; exact lu
      have hl2 := rdiv_l2 (u := u) (y := d32 n) (q := q.set K (rd q (K : Int) + G)) (g := G) (K := K) (N := N + 1) hN k1 k2 hu (d32_dig n) (Int.natCast_nonneg G) gB (by rw [hyv, hR]; exact gR) (by rw [hyv, hR]; exact hRB) (r := r) (by
        intro z hlz hdz hvz hvz2
        rw [hyv, hR] at hvz
        rw [hyv] at hvz2
        refine ih (R - G * n) (by clear hV hb hR hT htop e0 e1 e2 e3 e4 e5 e6 e7 e8 hG hvz hvz2 hnew; omega) z _ (hlz.trans hlu) (by rw [List.length_set]; exact hlq) hdz (Dig_set hq K (Int.add_nonneg q0 (Int.natCast_nonneg G)) hdig) (by rw [take_set_far (Nat.le_refl K)]; exact hz) ?_ ?_ ?_
        · rw [vB_set _ _ _ _ (by rw [hlq]; exact hKq), cG, Int.mul_add, Int.mul_left_comm (n : Int), Int.mul_comm (n : Int) (G : Int)]
          generalize B32 ^ K * ((G : Int) * (n : Int)) = A at *
          generalize (n : Int) * vB B32 q = A2 at *
          clear hb hR hT htop e0 e1 e2 e3 e4 e5 e6 e7 e8 hG hnew
          omega
        · rw [hvz, Int.ofNat_sub gR', Int.natCast_mul]
        · rw [rd_set_self _ _ _ (by rw [hlq]; exact hKq)]
          exact hnew) (N + 1) 0 u 0 (Nat.zero_add _) ⟨rfl, hu, ⟨by decide, by decide⟩, rfl, rfl, by simp [vB]⟩
      refine Ev.congr (fun k => ?_) hl2
      have c4 : ¬ top + 1 = 0 := Int.ne_of_gt (Int.lt_add_one_of_le p0)
      have c6 : ¬ decide (R < n) = true := by rw [decide_eq_true_eq]; exact hlt
      rw [if_neg c6]
      simp only [e1, e2, e3, ← htop, e4, e5, ← hT, e6, e7, hG, e8, Int.toNat_natCast]
      rw [if_pos (Int.natCast_nonneg _), if_pos c1, if_pos (Int.natCast_nonneg _), if_pos c2, if_pos (Int.natCast_nonneg _), if_pos c3, if_neg c4, if_pos c5]
      rfl
theorem rdiv_l0 {n N m Lu Lq : Nat} (hn : 0 < n) (hN : (d32 n).length = N + 1) (lu : Lu ≤ 1099511627776) (lq : Lq ≤ 1099511627776) : ∀ (K : Nat) (u q : List Int), K ≤ Lq → (K = 0 ∨ K + (N + 1) ≤ Lu) → u.length = Lu → q.length = Lq → Dig B32 u → Dig B32 q → q.take K = List.replicate K 0 → vB B32 u + n * vB B32 q = m → vB B32 (u.drop K) < n →
    Ev (fun k => galoisref01_DivMod.l0 k (d32 n) ((N + 1 : Nat) : Int) u q ((K : Int) - 1)) (nat (m / n), nat (m % n)) := by
  intro K
  induction K with
  | zero =>
    intro u q _ _ hlu hlq hu hq _ hV hR
    rw [List.drop_zero] at hR
    obtain ⟨U, hU⟩ := Int.eq_ofNat_of_zero_le (vB_nonneg (show (0 : Int) ≤ B32 by decide) hu)
    obtain ⟨Q, hQ⟩ := Int.eq_ofNat_of_zero_le (vB_nonneg (show (0 : Int) ≤ B32 by decide) hq)
    rw [hU] at hR hV
    rw [hQ] at hV
    have hm : m = U + n * Q := by
      apply Int.ofNat_inj.1
      rw [Int.natCast_add, Int.natCast_mul]
      exact hV.symm
    have hUn : U < n := Int.ofNat_lt.1 hR
    have pu := rpack_ev hu (by omega)
    have pq := rpack_ev hq (by omega)
    rw [hU, Int.toNat_natCast] at pu
    rw [hQ, Int.toNat_natCast] at pq
    have r1 : m / n = Q := by rw [hm, Nat.add_mul_div_left _ _ hn, Nat.div_eq_of_lt hUn, Nat.zero_add]
    have r2 : m % n = U := by rw [hm, Nat.add_mul_mod_self_left, Nat.mod_eq_of_lt hUn]
    rw [r1, r2]
    refine Ev.step (fun k => galoisref01_DivMod.l0.eq_2 ..) ?_
    refine Ev.congr (fun k => if_neg (by decide)) ?_
    exact Ev.bind pq (Ev.bind pu (Ev.now _))
  | succ K ih =>
    intro u q hK hK2 hlu hlq hu hq hz hV hR
    have hKN : K + (N + 1) < Lu := by omega
    have e0 : ((K + 1 : Nat) : Int) - 1 = (K : Int) := by omega
    rw [e0]
    obtain ⟨R, hR'⟩ := Int.eq_ofNat_of_zero_le (vB_nonneg (show (0 : Int) ≤ B32 by decide) (Dig_drop hu K))
    have s := drop_succ B32 u K (by omega)
    obtain ⟨u0, u1⟩ := Dig_rd hu K (by omega)
    have hq0 : rd q (K : Int) = 0 := by
      rw [← rd_take q (K + 1) K (by omega), hz, rd_replicate]
    have hz' : q.take K = List.replicate K 0 := by
      have h := congrArg (List.take K) hz
      rwa [List.take_take, Nat.min_eq_left (by omega), List.take_replicate, Nat.min_eq_left (by omega)] at h
    refine Ev.step (f := fun k => galoisref01_DivMod.l1 k (d32 n) ((N + 1 : Nat) : Int) u q (K : Int)) (fun k => (galoisref01_DivMod.l0.eq_2 ..).trans (if_pos (Int.natCast_nonneg K))) ?_
    refine rdiv_l1 (V := m) hn hN hKN hK lu (fun u' q' h1 h2 h3 h4 h5 h6 h7 => ih u' q' (by omega) (Or.inr (by omega)) h1 h2 h3 h4 h5 h6 h7) R u q hlu hlq hu hq hz' hV hR' ?_
    rw [hq0, Int.zero_mul, ← hR', s, Int.mul_comm (n : Int)]
    have h1 := Int.mul_le_mul_of_nonneg_left (show vB B32 (u.drop (K + 1)) + 1 ≤ n by omega) (show (0 : Int) ≤ B32 by decide)
    rw [Int.mul_add, Int.mul_one] at h1
    generalize B32 * vB B32 (u.drop (K + 1)) = A at *
    generalize B32 * (n : Int) = A2 at *
    clear hV s hR hR'
    omega
theorem rDivMod_ev {m n : Nat} (hm : (nat m).size ≤ 1099511627776) (hn : (nat n).size ≤ 1099511627776) : Ev (fun k => galoisref01_DivMod.f k (nat m) (nat n)) (if n = 0 then (⟨#[]⟩, ⟨#[]⟩) else (nat (m / n), nat (m % n))) := by
  by_cases h0 : n = 0
  · rw [if_pos h0]
    exact Ev.congr (fun k => if_pos (nat_empty.2 h0)) (Ev.now _)
  · rw [if_neg h0]
    refine Ev.congr (fun k => if_neg (fun h => h0 (nat_empty.1 h))) ?_
    refine Ev.bind (limbs_nat hm) (Ev.bind (limbs_nat hn) ?_)
    have lm := limbs_len m
    have ln := limbs_len n
    have hpos := d32_pos (Nat.pos_of_ne_zero h0)
    obtain ⟨N, hN⟩ : ∃ N, (d32 n).length = N + 1 := ⟨(d32 n).length - 1, by omega⟩
    have e1 : mx 0 (wrap64 ((wrap64 (((d32 m).length : Int) - ((d32 n).length : Int))) + 1)) = (((d32 m).length + 1 - (N + 1) : Nat) : Int) := by
      rw [w64 (x := ((d32 m).length : Int) - ((d32 n).length : Int)) (by omega) (by omega), w64 (by omega) (by omega)]
      rcases mx_or 0 (((d32 m).length : Int) - ((d32 n).length : Int) + 1) with ⟨h, h'⟩ | ⟨h, h'⟩ <;> rw [h] <;> omega
    refine Ev.congr (fun k => if_pos (show (d32 m).length < 17592186044416 by omega)) ?_
    rw [e1]
    obtain ⟨L, hL⟩ : ∃ L, (d32 m).length + 1 - (N + 1) = L := ⟨_, rfl⟩
    rw [hL]
    clear e1
    refine Ev.congr (fun k => if_pos (Int.natCast_nonneg _)) (Ev.congr (fun k => if_pos (show ((L : Nat) : Int).toNat ≤ 35184372088832 by rw [Int.toNat_natCast]; omega)) ?_)
    refine ev_some rfl ?_
    rw [Int.toNat_natCast, List.length_replicate, hN, w64 (by omega) (by omega)]
    refine rdiv_l0 (Lu := (d32 m).length + 1) (Lq := L) (Nat.pos_of_ne_zero h0) hN (by omega) (by omega) L _ _ (Nat.le_refl _) (by omega) (by simp) (by simp) (Dig_append (d32_dig m) (Dig_cons.2 ⟨⟨by decide, by decide⟩, Dig_nil _⟩)) (Dig_replicate (by decide) L) (by simp) ?_ ?_
    · rw [vB_append, vB_replicate, d32_val]
      simp [vB]
    · have hx : vB B32 ((d32 m ++ [0]).drop L) = vB B32 ((d32 m).drop L) := by
        rcases Nat.lt_or_ge (d32 m).length L with h | h
        · omega
        · rw [List.drop_append_of_le_length h, vB_append]
          simp [vB]
      rw [hx]
      have t := trim_le (by decide) (d32_dig n) (d32_trim n) hpos
      rw [d32_val] at t
      by_cases hl0 : L = 0
      · rw [hl0, List.drop_zero, d32_val]
        have := trim_len (by decide) (d32_dig m) (d32_dig n) (d32_trim n) (by omega)
        rwa [d32_val, d32_val] at this
      · have h1 := vB_lt (show (0 : Int) < B32 by decide) (Dig_drop (d32_dig m) L)
        rw [List.length_drop] at h1
        have e : (d32 m).length - L = (d32 n).length - 1 := by omega
        rw [e] at h1
        exact Int.lt_of_lt_of_le h1 t
theorem rDivMod_ok {m n : Nat} (hm : (nat m).size ≤ 1099511627776) (hn : (nat n).size ≤ 1099511627776) (h0 : n ≠ 0) : Ev (fun k => galoisref01_DivMod.f k (nat m) (nat n)) (nat (m / n), nat (m % n)) := by
  have := rDivMod_ev hm hn
  rwa [if_neg h0] at this
end Go.Proofs.YtohkmnbnjacfaaaN
set_option linter.unusedVariables false
namespace Go.Proofs.YtohkmnbnjacfaaaN
open Go.RowKit Go.Proofs.Ytohkmnbnjacfaaa.All Go.Proofs.YtohkmnbnjacfaaaW.PrintWords Go.Proofs.YtohkmnbnjacfaaaW.PrintLast Go.Proofs.YtohkmnbnjacfaaaW.PrintMore
theorem bl_half {x : Nat} (h : x ≠ 0) : bl x = bl (x / 2) + 1 := by
  by_cases h1 : x = 1
  · subst h1; rfl
  · have h2 : x / 2 ≠ 0 := by omega
    obtain ⟨g1, g2⟩ := bl_le h2
    have g3 := bl_lt (x / 2)
    apply bl_unique h (by omega)
    · rw [Nat.add_sub_cancel, show bl (x / 2) = bl (x / 2) - 1 + 1 by omega, Nat.pow_succ]
      omega
    · rw [Nat.pow_succ]
      omega
theorem top_byte {n : Nat} (h : n ≠ 0) : ∃ t : Nat, bt (nat n) 0 = t ∧ 0 < t ∧ t < 256 ∧ bl n = 8 * ((nat n).size - 1) + bl t := by
  have hp : 0 < (nat n).size := Nat.pos_of_ne_zero fun h0 => h (nat_size_zero.1 h0)
  have hl := nat_size n
  have ht : bt (nat n) 0 = rd (d8 n) (((nat n).size - 1 : Nat) : Int) := by
    have := rd_reverse (d8 n) 0 (by omega)
    rw [bt_rd, nat_bytes]
    rw [show (d8 n).length - 1 - 0 = (nat n).size - 1 by omega] at this
    exact this
  have hne : bt (nat n) 0 ≠ 0 := by
    rcases nat_wf n with h1 | h1
    · omega
    · exact h1
  obtain ⟨b0, b1⟩ := bt_range (nat n) 0
  obtain ⟨t, ht2⟩ := Int.eq_ofNat_of_zero_le b0
  rw [ht2] at ht hne b1
  have hv := vB_all 256 (d8 n) ((nat n).size - 1 + 1) (by omega)
  rw [take_succ, d8_val, ← ht] at hv
  have lo0 := vB_nonneg (show (0 : Int) ≤ 256 by decide) (Dig_take (d8_dig n) ((nat n).size - 1))
  have lo1 := vB_lt (show (0 : Int) < 256 by decide) (Dig_take (d8_dig n) ((nat n).size - 1))
  rw [List.length_take, Nat.min_eq_left (by omega)] at lo1
  obtain ⟨l, hlo⟩ := Int.eq_ofNat_of_zero_le lo0
  rw [hlo] at hv lo1
  have hv' : l + 256 ^ ((nat n).size - 1) * t = n := by
    apply Int.ofNat_inj.1
    rw [Int.natCast_add, Int.natCast_mul, Int.natCast_pow]
    exact hv
  have lo1' : l < 256 ^ ((nat n).size - 1) := by
    apply Int.ofNat_lt.1
    rw [Int.natCast_pow]
    exact lo1
  have htp : t ≠ 0 := fun h0 => hne (by rw [h0]; rfl)
  obtain ⟨g1, g2⟩ := bl_le htp
  have g3 := bl_lt t
  refine ⟨t, ht2, by omega, by omega, ?_⟩
  have e8 : 256 ^ ((nat n).size - 1) = 2 ^ (8 * ((nat n).size - 1)) := by rw [Nat.pow_mul]
  rw [e8] at hv' lo1'
  apply bl_unique h (by omega)
  · rw [show 8 * ((nat n).size - 1) + bl t - 1 = 8 * ((nat n).size - 1) + (bl t - 1) by omega, Nat.pow_add]
    have := Nat.mul_le_mul_left (2 ^ (8 * ((nat n).size - 1))) g2
    omega
  · rw [Nat.pow_add]
    have := Nat.mul_le_mul_left (2 ^ (8 * ((nat n).size - 1))) (show t + 1 ≤ 2 ^ bl t by omega)
    rw [Nat.mul_add, Nat.mul_one] at this
    omega
theorem rBits_l0 : ∀ (x b : Nat), x < 256 → b + x ≤ 9223372036854775000 → Ev (fun k => galoisref01_Bits.l0 k (b : Int) (x : Int)) (((b + bl x : Nat) : Int)) := by
  intro x
  induction x using Nat.strongRecOn with
  | _ x ih =>
    intro b hx hb
    refine Ev.step (fun k => galoisref01_Bits.l0.eq_2 ..) ?_
    by_cases h : x = 0
    · subst h
      exact Ev.congr (fun k => if_neg (by decide)) (Ev.now _)
    · have h2 := ih (x / 2) (by omega) (b + 1) (by omega) (by omega)
      have e1 : wrap64 ((b : Int) + 1) = ((b + 1 : Nat) : Int) := by rw [w64 (by omega) (by omega)]; omega
      have e2 : Int.tdiv (x : Int) 2 % 256 = ((x / 2 : Nat) : Int) := by rw [Int.tdiv_eq_ediv_of_nonneg (by omega)]; omega
      refine Ev.congr (fun k => if_pos (show (x : Int) > 0 by omega)) ?_
      rw [e1, e2, bl_half h, show b + (bl (x / 2) + 1) = b + 1 + bl (x / 2) by omega]
      exact h2
theorem rBits_ev {n : Nat} (hn : (nat n).size ≤ 1099511627776) : Ev (fun k => galoisref01_Bits.f k (nat n)) (bl n : Int) := by
  by_cases h : n = 0
  · subst h
    exact Ev.congr (fun k => if_pos (nat_empty.2 rfl)) (Ev.now _)
  · have hp : 0 < (nat n).size := Nat.pos_of_ne_zero fun h0 => h (nat_size_zero.1 h0)
    obtain ⟨t, h1, h2, h3, h4⟩ := top_byte h
    refine Ev.congr (fun k => if_neg (fun h0 => h (nat_empty.1 h0))) (Ev.congr (fun k => if_pos (show 0 < ((nat n).size : Int) by omega)) ?_)
    rw [h1, w64 (x := ((nat n).size : Int) - 1) (by omega) (by omega), w64 (by omega) (by omega), show 8 * (((nat n).size : Int) - 1) = ((8 * ((nat n).size - 1) : Nat) : Int) by omega, h4]
    exact rBits_l0 t _ h3 (by omega)
theorem rTwoTo_eq {b : Nat} (hb : b ≤ 1099511627776) : galoisref01_TwoTo.f (b : Int) = some (nat (2 ^ b)) := NatTwo_eq hb
theorem rFromInt_ev {u : Nat} (hu : u < 9223372036854775808) : Ev (fun k => galoisref01_FromInt.f k (u : Int)) (nat u) := by
  have h := rOf_ev (u := u) (by omega)
  refine Ev.congr (f := fun k => (galoisref01_Of.f k (u : Int)).bind fun t => some t) (fun k => ?_) (Ev.bind h (Ev.now _))
  unfold galoisref01_FromInt.f
  rw [u64 (by omega) (by omega)]
theorem rPow_l0 : ∀ (e A X : Nat), e < 9223372036854775808 → (nat A).size + 2 * e * (nat X).size ≤ 1000000000000 → (nat X).size ≤ 1000000000000 → Ev (fun k => galoisref01_Pow.l0 k (nat X) (e : Int) (nat A)) (nat (A * X ^ e)) := by
  intro e
  induction e using Nat.strongRecOn with
  | _ e ih =>
    intro A X he hl hx
    refine Ev.step (fun k => galoisref01_Pow.l0.eq_2 ..) ?_
    by_cases h : e = 0
    · subst h
      rw [Nat.pow_zero, Nat.mul_one]
      exact Ev.congr (fun k => if_neg (by decide)) (Ev.now _)
    · have c1 : (e : Int) > 0 := by omega
      have e1 : Int.tmod (e : Int) 2 = ((e % 2 : Nat) : Int) := by rw [Int.tmod_eq_emod_of_nonneg (by omega)]; omega
      have e2 : wrap64 (Int.tdiv (e : Int) 2) = ((e / 2 : Nat) : Int) := by rw [Int.tdiv_eq_ediv_of_nonneg (by omega), w64 (by omega) (by omega)]; omega
      have lXX := size_mul (m := X) (n := X)
      have lAX := size_mul (m := A) (n := X)
      have hX : (nat X).size ≤ e * (nat X).size := Nat.le_mul_of_pos_left _ (Nat.pos_of_ne_zero h)
      have h2 : 2 * e * (nat X).size = 2 * (e * (nat X).size) := Nat.mul_assoc _ _ _
      have hhalf : 2 * (e / 2) * (nat (X * X)).size ≤ 4 * (e / 2 * (nat X).size) := by
        have := Nat.mul_le_mul_left (2 * (e / 2)) lXX
        have e3 : 2 * (e / 2) * ((nat X).size + (nat X).size) = 4 * (e / 2 * (nat X).size) := by
          rw [Nat.mul_add, Nat.mul_assoc]
          omega
        omega
      have hcut : 2 * (e / 2 * (nat X).size) + e % 2 * (nat X).size = e * (nat X).size := by
        rw [← Nat.mul_assoc, ← Nat.add_mul]
        congr 1
        omega
      rw [h2] at hl
      have sq := rMul_ev (m := X) (n := X) (by omega) (by omega)
      refine Ev.congr (fun k => if_pos c1) ?_
      rw [e1, e2]
      by_cases ho : e % 2 = 1
      · rw [ho, Nat.one_mul] at hcut
        have ax := rMul_ev (m := A) (n := X) (by omega) (by omega)
        have hp : A * X ^ e = A * X * (X * X) ^ (e / 2) := by
          have : X ^ e = X * (X * X) ^ (e / 2) := by
            rw [← Nat.pow_two, ← Nat.pow_mul, Nat.mul_comm X, ← Nat.pow_succ]
            congr 1
            omega
          rw [this, Nat.mul_assoc]
        rw [hp]
        exact Ev.congr (fun k => if_pos (by rw [ho]; rfl)) (Ev.bind ax (Ev.bind sq (ih (e / 2) (by omega) _ _ (by omega) (by omega) (by omega))))
      · have ho' : e % 2 = 0 := by omega
        rw [ho', Nat.zero_mul, Nat.add_zero] at hcut
        have hp : A * X ^ e = A * (X * X) ^ (e / 2) := by
          have : X ^ e = (X * X) ^ (e / 2) := by
            rw [← Nat.pow_two, ← Nat.pow_mul]
            congr 1
            omega
          rw [this]
        rw [hp]
        exact Ev.congr (fun k => if_neg (by rw [ho']; decide)) (Ev.bind sq (ih (e / 2) (by omega) _ _ (by omega) (by omega) (by omega)))
theorem nat_one_size : (nat 1).size = 1 := Nat.le_antisymm (nat_size_le.2 (by decide)) (Nat.pos_of_ne_zero fun h => absurd (nat_size_zero.1 h) (by decide))
theorem rPow_ev {m e : Nat} (hm : (nat m).size ≤ 100000) (he : e ≤ 100000) : Ev (fun k => galoisref01_Pow.f k (nat m) (e : Int)) (nat (m ^ e)) := by
  have h1 := rOf_ev (u := 1) (by decide)
  refine Ev.bind h1 ?_
  have h2 : 2 * e * (nat m).size ≤ 200000 * 100000 := Nat.mul_le_mul (by omega) (by omega)
  have h3 := nat_one_size
  have := rPow_l0 e 1 m (by omega) (by omega) (by omega)
  rwa [Nat.one_mul] at this
theorem nat_is_one {a : Nat} : (nat a).toList = ([1] : List UInt8) ↔ a = 1 := by
  have h1 : (nat 1).toList = ([1] : List UInt8) := by
    have h2 : d8 1 = [1] := by
      unfold d8
      rw [dgs_pos _ _ (by decide), show 1 / (254 + 2) = 0 from rfl, dgs_zero]
      rfl
    unfold nat
    rw [h2, ByteArray.toList_eq]
    rfl
  constructor
  · intro h
    rw [← h1] at h
    exact nat_inj.1 (toList_ext.1 h)
  · rintro rfl
    exact h1
def powR (m e : Nat) : ByteArray × Bool := if (nat (m ^ e)).size ≤ 1024 then (nat (m ^ e), true) else (⟨#[]⟩, false)
theorem rPowWithin_l0 {m e : Nat} (hm : (nat m).size ≤ 1024) (he : e ≤ 1000000) : ∀ d i : Nat, i + d = e → (nat (m ^ i)).size ≤ 1024 → Ev (fun k => galoisref01_PowWithin.l0 k (nat m) (e : Int) 1024 (nat (m ^ i)) (i : Int)) (powR m e) := by
  intro d
  induction d with
  | zero =>
    intro i hi hs
    have hi : i = e := by omega
    subst hi
    refine Ev.step (fun k => galoisref01_PowWithin.l0.eq_2 ..) (Ev.congr (fun k => if_neg (Int.lt_irrefl _)) (Ev.step (fun k => galoisref01_PowWithin.j1.eq_2 ..) (Ev.congr (fun k => if_neg (by decide)) ?_)))
    unfold powR
    rw [if_pos hs, decide_eq_true (show ((nat (m ^ i)).size : Int) ≤ 1024 by omega)]
    exact Ev.now _
  | succ d ih =>
    intro i hi hs
    refine Ev.step (fun k => galoisref01_PowWithin.l0.eq_2 ..) (Ev.congr (fun k => if_pos (show (i : Int) < (e : Int) by omega)) (Ev.step (fun k => galoisref01_PowWithin.j1.eq_2 ..) ?_))
    by_cases h1 : m = 1
    · have hf : ((nat m).toList != ([1] : List UInt8)) = false := by rw [nat_is_one.2 h1]; rfl
      rw [hf]
      refine Ev.congr (fun k => if_neg (by decide)) ?_
      subst h1
      unfold powR
      rw [Nat.one_pow, Nat.one_pow, nat_one_size, if_pos (by decide), decide_eq_true (by decide)]
      exact Ev.now _
    · have hf : ((nat m).toList != ([1] : List UInt8)) = true := by
        rw [bne_iff_ne]
        exact fun h => h1 (nat_is_one.1 h)
      rw [hf]
      refine Ev.congr (fun k => if_pos rfl) (Ev.bind (rMul_ev (by omega) (by omega)) ?_)
      rw [← Nat.pow_succ]
      have e1 : wrap64 ((i : Int) + 1) = ((i + 1 : Nat) : Int) := by rw [w64 (by omega) (by omega)]; omega
      by_cases hb : ((nat (m ^ (i + 1))).size : Int) > 1024
      · refine Ev.congr (fun k => if_pos hb) ?_
        have hm0 : 0 < m := by
          rcases Nat.eq_zero_or_pos m with h | h
          · exfalso
            subst h
            rw [Nat.zero_pow (by omega), nat_size_zero.2 rfl] at hb
            exact absurd hb (by decide)
          · exact h
        have hle := size_mono (Nat.pow_le_pow_right hm0 (show i + 1 ≤ e by omega))
        unfold powR
        rw [if_neg (by omega)]
        exact Ev.now _
      · refine Ev.congr (fun k => if_neg hb) ?_
        by_cases h0 : m ^ (i + 1) = 0
        · refine Ev.congr (fun k => if_pos (nat_empty.2 h0)) ?_
          have hm0 : m = 0 := by
            rcases Nat.eq_zero_or_pos m with h | h
            · exact h
            · exact absurd h0 (Nat.ne_of_gt (Nat.pow_pos h))
          unfold powR
          rw [hm0, Nat.zero_pow (by omega), if_pos (by rw [nat_size_zero.2 rfl]; decide), nat_zero]
          exact Ev.now _
        · refine Ev.congr (fun k => if_neg (fun h => h0 (nat_empty.1 h))) ?_
          rw [e1]
          exact ih (i + 1) (by omega) (by omega)
theorem rPowWithin_ev {m e : Nat} (hm : (nat m).size ≤ 1024) (he : e ≤ 1000000) : Ev (fun k => galoisref01_PowWithin.f k (nat m) (e : Int) 1024) (powR m e) := by
  have h1 := rOf_ev (u := 1) (by decide)
  refine Ev.bind h1 ?_
  have := rPowWithin_l0 hm he e 0 (by omega) (by rw [Nat.pow_zero, nat_one_size]; decide)
  rwa [Nat.pow_zero] at this
theorem sq_add (r d : Nat) : 2 * (r * (r + d)) ≤ (r + d) * (r + d) + r * r ∧ 2 * ((r + d) * r) ≤ r * r + (r + d) * (r + d) := by
  have e1 : (r + d) * (r + d) = r * r + 2 * (r * d) + d * d := by
    rw [Nat.add_mul, Nat.mul_add, Nat.mul_add, Nat.mul_comm d r]
    omega
  have e2 : r * (r + d) = r * r + r * d := Nat.mul_add ..
  rw [Nat.mul_comm (r + d) r, e1, e2]
  omega
theorem two_mul_le (r x : Nat) : 2 * (r * x) ≤ x * x + r * r := by
  rcases Nat.le_total r x with h | h
  · obtain ⟨d, rfl⟩ : ∃ d, x = r + d := ⟨x - r, by omega⟩
    exact (sq_add r d).1
  · obtain ⟨d, rfl⟩ : ∃ d, r = x + d := ⟨r - x, by omega⟩
    exact (sq_add x d).2
theorem mean (r x : Nat) : ∀ j : Nat, (j + 1) * (r * x ^ j) ≤ j * x ^ (j + 1) + r ^ (j + 1) := by
  intro j
  induction j with
  | zero => simp
  | succ j ih =>
    have h1 := Nat.mul_le_mul_right r ih
    have h2 := Nat.mul_le_mul_left ((j + 1) * x ^ j) (two_mul_le r x)
    have a1 : (j + 1) * (r * x ^ j) * r = (j + 1) * x ^ j * (r * r) := by ac_rfl
    have a2 : (j * x ^ (j + 1) + r ^ (j + 1)) * r = j * (r * x ^ (j + 1)) + r ^ (j + 1 + 1) := by rw [Nat.add_mul, Nat.pow_succ r (j + 1)]; ac_rfl
    have a3 : (j + 1) * x ^ j * (2 * (r * x)) = 2 * ((j + 1) * (r * x ^ (j + 1))) := by rw [Nat.pow_succ]; ac_rfl
    have a4 : (j + 1) * x ^ j * (x * x + r * r) = (j + 1) * x ^ (j + 1 + 1) + (j + 1) * x ^ j * (r * r) := by rw [Nat.mul_add, Nat.pow_succ x (j + 1), Nat.pow_succ x j]; ac_rfl
    rw [a1, a2] at h1
    rw [a3, a4] at h2
    have a5 : (j + 1 + 1) * (r * x ^ (j + 1)) = (j + 1) * (r * x ^ (j + 1)) + r * x ^ (j + 1) := Nat.succ_mul _ _
    have a6 : (j + 1) * (r * x ^ (j + 1)) = j * (r * x ^ (j + 1)) + r * x ^ (j + 1) := Nat.succ_mul _ _
    rw [a5]
    generalize (j + 1) * x ^ j * (r * r) = A at *
    generalize (j + 1) * x ^ (j + 1 + 1) = A2 at *
    generalize (j + 1) * (r * x ^ (j + 1)) = A3 at *
    generalize j * (r * x ^ (j + 1)) = A4 at *
    generalize r * x ^ (j + 1) = A5 at *
    generalize r ^ (j + 1 + 1) = A6 at *
    clear ih a1 a2 a3 a4 a5
    omega
theorem newton_gt {n x j y : Nat} (hx : 0 < x) (hy : y = (j * x + n / x ^ j) / (j + 1)) : n < (y + 1) ^ (j + 1) := by
  have hp : 0 < x ^ j := Nat.pow_pos hx
  have h1 : n < x ^ j * (n / x ^ j + 1) := Nat.lt_mul_div_succ n hp
  have h2 : j * x + n / x ^ j < (j + 1) * (y + 1) := by rw [hy]; exact Nat.lt_mul_div_succ _ (by omega)
  have h3 := mean (y + 1) x j
  have h4 := Nat.mul_le_mul_left (x ^ j) (show j * x + (n / x ^ j + 1) ≤ (j + 1) * (y + 1) by omega)
  rw [Nat.mul_add] at h4
  have a1 : x ^ j * (j * x) = j * x ^ (j + 1) := by rw [Nat.pow_succ]; ac_rfl
  have a2 : x ^ j * ((j + 1) * (y + 1)) = (j + 1) * ((y + 1) * x ^ j) := by ac_rfl
  rw [a1, a2] at h4
  generalize x ^ j * (n / x ^ j + 1) = A at *
  generalize (j + 1) * ((y + 1) * x ^ j) = A2 at *
  generalize j * x ^ (j + 1) = A3 at *
  generalize (y + 1) ^ (j + 1) = A4 at *
  clear h2 a1 a2 hy
  omega
theorem newton_stop {n x j : Nat} (hx : 0 < x) (h : x ≤ (j * x + n / x ^ j) / (j + 1)) : x ^ (j + 1) ≤ n := by
  have hp : 0 < x ^ j := Nat.pow_pos hx
  have h1 := (Nat.le_div_iff_mul_le (show 0 < j + 1 by omega)).1 h
  have h2 : x * (j + 1) = j * x + x := by rw [Nat.mul_add, Nat.mul_one, Nat.mul_comm]
  have h3 : x ≤ n / x ^ j := by omega
  have h4 := (Nat.le_div_iff_mul_le hp).1 h3
  rwa [Nat.mul_comm, ← Nat.pow_succ] at h4
theorem rRoot_l0 {n j S : Nat} (hj : j + 1 ≤ 4096) (hn : (nat n).size ≤ 4096) (hn0 : 0 < n) (hS : S ≤ 5000) : ∀ x : Nat, 0 < x → (nat x).size ≤ S → n < (x + 1) ^ (j + 1) → ∃ r, r ^ (j + 1) ≤ n ∧ n < (r + 1) ^ (j + 1) ∧ Ev (fun k => galoisref01_Root.l0 k (nat n) ((j + 1 : Nat) : Int) (nat x)) (nat r) := by
  intro x
  induction x using Nat.strongRecOn with
  | _ x ih =>
    intro hx hxs hxn
    have e1 : wrap64 (((j + 1 : Nat) : Int) - 1) = (j : Int) := by rw [w64 (by omega) (by omega)]; omega
    have hp : 0 < x ^ j := Nat.pow_pos hx
    obtain ⟨y, hy⟩ : ∃ y, y = (j * x + n / x ^ j) / (j + 1) := ⟨_, rfl⟩
    have hps : (nat (x ^ j)).size ≤ 1099511627776 := by
      have h0 : (nat (x ^ j)).size ≤ S * j + 1 := by
        apply nat_size_le.2
        have h2 : x ^ j ≤ (256 ^ S) ^ j := Nat.pow_le_pow_left (Nat.le_of_lt (nat_size_le.1 hxs)) j
        rw [← Nat.pow_mul] at h2
        exact Nat.lt_of_le_of_lt h2 (Nat.pow_lt_pow_right (by decide) (Nat.lt_succ_self _))
      have h3 : S * j ≤ 5000 * 4096 := Nat.mul_le_mul hS (by omega)
      omega
    have js : (nat j).size ≤ 2 := nat_size_le.2 (show j < 256 ^ 2 by omega)
    have js1 : (nat (j + 1)).size ≤ 2 := nat_size_le.2 (show j + 1 < 256 ^ 2 by omega)
    have s1 := size_mul (m := j) (n := x)
    have s2 := size_mono (Nat.div_le_self n (x ^ j))
    have s3 := size_add (m := j * x) (n := n / x ^ j)
    have t1 := rPow_ev (m := x) (e := j) (by omega) (by omega)
    have t2 := rDivMod_ok (m := n) (n := x ^ j) (by omega) hps (Nat.ne_of_gt hp)
    have t3 := rFromInt_ev (u := j) (by omega)
    have t4 := rMul_ev (m := j) (n := x) (by omega) (by omega)
    have t5 := rAdd_ev (m := j * x) (n := n / x ^ j) (by omega) (by omega)
    have t6 := rFromInt_ev (u := j + 1) (by omega)
    have t7 := rDivMod_ok (m := j * x + n / x ^ j) (n := j + 1) (by omega) (by omega) (by omega)
    rw [← hy] at t7
    have t8 := rCompare_ev y x
    by_cases hlt : y < x
    · have hc : ¬ cmpN y x ≥ 0 := by unfold cmpN; rw [if_pos hlt]; decide
      have hyn := newton_gt hx hy
      have hy0 : 0 < y := by
        rcases Nat.eq_zero_or_pos y with h | h
        · rw [h, Nat.zero_add, Nat.one_pow] at hyn
          omega
        · exact h
      have hys := size_mono (Nat.le_of_lt hlt)
      obtain ⟨r, r1, r2, r3⟩ := ih y hlt hy0 (by omega) hyn
      refine ⟨r, r1, r2, Ev.step (fun k => galoisref01_Root.l0.eq_2 ..) ?_⟩
      rw [e1]
      exact Ev.bind t1 (Ev.bind t2 (Ev.bind t3 (Ev.bind t4 (Ev.bind t5 (Ev.bind t6 (Ev.bind t7 (Ev.bind t8 (Ev.congr (fun k => if_neg hc) r3))))))))
    · have hc : cmpN y x ≥ 0 := by
        unfold cmpN
        rw [if_neg hlt]
        split <;> decide
      refine ⟨x, newton_stop hx (by rw [← hy]; omega), hxn, Ev.step (fun k => galoisref01_Root.l0.eq_2 ..) ?_⟩
      rw [e1]
      exact Ev.bind t1 (Ev.bind t2 (Ev.bind t3 (Ev.bind t4 (Ev.bind t5 (Ev.bind t6 (Ev.bind t7 (Ev.bind t8 (Ev.congr (fun k => if_pos hc) (Ev.now _)))))))))
theorem rRoot_ev {n K : Nat} (hK : 1 ≤ K) (hK1 : K ≤ 4096) (hn : (nat n).size ≤ 4096) : ∃ r, r ^ K ≤ n ∧ n < (r + 1) ^ K ∧ Ev (fun k => galoisref01_Root.f k (nat n) (K : Int)) (nat r) := by
  by_cases h0 : n = 0
  · subst h0
    refine ⟨0, by rw [Nat.zero_pow (by omega)]; exact Nat.le_refl _, by rw [Nat.zero_add, Nat.one_pow]; decide, ?_⟩
    rw [nat_zero]
    exact Ev.congr (fun k => if_pos empty_toList) (Ev.now _)
  · have hbl := bl_size (n := n)
    have hb0 : (bl n + K - 1) / K ≤ bl n := by
      obtain ⟨g1, g2⟩ := bl_le h0
      apply Nat.div_le_of_le_mul
      have : bl n + K ≤ K * bl n + 1 := by
        obtain ⟨j, rfl⟩ : ∃ j, K = j + 1 := ⟨K - 1, by omega⟩
        rw [Nat.add_mul, Nat.one_mul]
        have := Nat.le_mul_of_pos_right j g1
        omega
      omega
    have hbK : bl n ≤ (bl n + K - 1) / K * K := by
      have h1 := Nat.div_add_mod (bl n + K - 1) K
      have h2 := Nat.mod_lt (bl n + K - 1) (show K > 0 by omega)
      rw [Nat.mul_comm] at h1
      omega
    generalize hB : (bl n + K - 1) / K = B at *
    obtain ⟨j, rfl⟩ : ∃ j, K = j + 1 := ⟨K - 1, by omega⟩
    have h2 : n < (2 ^ B + 1) ^ (j + 1) := by
      refine Nat.lt_of_lt_of_le (bl_lt n) (Nat.le_trans ?_ (Nat.pow_le_pow_left (Nat.le_succ _) _))
      rw [← Nat.pow_mul]
      exact Nat.pow_le_pow_right (by decide) hbK
    have hxs : (nat (2 ^ B)).size ≤ (nat n).size + 1 := by
      apply nat_size_le.2
      have : (256 : Nat) ^ ((nat n).size + 1) = 2 ^ (8 * ((nat n).size + 1)) := by rw [Nat.pow_mul]
      rw [this]
      exact Nat.pow_lt_pow_right (by decide) (by omega)
    obtain ⟨r, r1, r2, r3⟩ := rRoot_l0 hK1 hn (Nat.pos_of_ne_zero h0) (show (nat n).size + 1 ≤ 5000 by omega) (2 ^ B) (Nat.pow_pos (by decide)) hxs h2
    refine ⟨r, r1, r2, ?_⟩
    clear h2 r1 r2 hxs
    have e1 : wrap64 ((bl n : Int) + ((j + 1 : Nat) : Int)) = ((bl n + (j + 1) : Nat) : Int) := by clear hB hbK; rw [w64 (by omega) (by omega)]; omega
    have e2 : wrap64 (((bl n + (j + 1) : Nat) : Int) - 1) = ((bl n + (j + 1) - 1 : Nat) : Int) := by clear e1 hB hbK; rw [w64 (by omega) (by omega)]; omega
    have e3 : wrap64 (Int.tdiv ((bl n + (j + 1) - 1 : Nat) : Int) ((j + 1 : Nat) : Int)) = (B : Int) := by
      clear e1 e2 hbK
      rw [Int.tdiv_eq_ediv_of_nonneg (by omega), ← Int.natCast_ediv, hB, w64 (by omega) (by omega)]
    refine Ev.congr (fun k => if_neg (fun h => h0 (nat_empty.1 h))) (Ev.bind (rBits_ev (by omega)) (Ev.congr (fun k => if_neg (show ¬ ((j + 1 : Nat) : Int) = 0 by omega)) ?_))
    rw [e1, e2, e3]
    exact ev_some (rTwoTo_eq (by omega)) r3
theorem rSqrt_ev {n : Nat} (hn : (nat n).size ≤ 4096) : ∃ r, r ^ 2 ≤ n ∧ n < (r + 1) ^ 2 ∧ Ev (fun k => galoisref01_Sqrt.f k (nat n)) (nat r) := by
  obtain ⟨r, r1, r2, r3⟩ := rRoot_ev (K := 2) (by decide) (by decide) hn
  exact ⟨r, r1, r2, Ev.bind r3 (Ev.now _)⟩
end Go.Proofs.YtohkmnbnjacfaaaN
set_option linter.unusedVariables false
namespace Go.Proofs.Ytohkmnbnjacfaaa.Pure
open Go.RowKit Go.Proofs.Ytohkmnbnjacfaaa.All Go.Proofs.YtohkmnbnjacfaaaN Go.Proofs.YtohkmnbnjacfaaaW.PrintWords Go.Proofs.YtohkmnbnjacfaaaW.PrintLast
theorem Pow_err {a : ByteArray} {e : Int} (k0 : Int) (he : chk a = e) (h : e ≠ 0) : Ev (fun k => natural_Pow.f k a k0) (⟨#[]⟩, e) := by
  have := first1 a
  rw [he] at this
  exact Ev.bind this (Ev.congr (fun k => if_neg h) (Ev.now _))
theorem Root_err {a : ByteArray} {e : Int} (k0 : Int) (he : chk a = e) (h : e ≠ 0) : Ev (fun k => natural_Root.f k a k0) (⟨#[]⟩, e) := by
  have := first1 a
  rw [he] at this
  exact Ev.bind this (Ev.congr (fun k => if_neg h) (Ev.now _))
theorem Bits_err {a : ByteArray} {e : Int} (he : chk a = e) (h : e ≠ 0) : Ev (fun k => natural_Bits.f k a) (0, e) := by
  have := first1 a
  rw [he] at this
  exact Ev.bind this (Ev.congr (fun k => if_neg h) (Ev.now _))
theorem Pow_range {n : Nat} {k0 : Int} (hn : (nat n).size ≤ 1024) (h : k0 < 0 ∨ k0 > 4096) : Ev (fun k => natural_Pow.f k (nat n) k0) (⟨#[]⟩, 3) := by
  have h1 := first1 (nat n)
  rw [chk_nat hn] at h1
  refine Ev.bind h1 (Ev.congr (fun k => if_pos rfl) ?_)
  by_cases h2 : k0 < 0
  · exact Ev.congr (fun k => if_pos h2) (Ev.step (fun k => natural_Pow.j0.eq_2 ..) (Ev.congr (fun k => if_pos rfl) (Ev.now _)))
  · rw [decide_eq_true (show k0 > 4096 by omega)]
    exact Ev.congr (fun k => if_neg h2) (Ev.step (fun k => natural_Pow.j0.eq_2 ..) (Ev.congr (fun k => if_pos rfl) (Ev.now _)))
theorem Root_range {n : Nat} {k0 : Int} (hn : (nat n).size ≤ 1024) (h : k0 < 1 ∨ k0 > 4096) : Ev (fun k => natural_Root.f k (nat n) k0) (⟨#[]⟩, 3) := by
  have h1 := first1 (nat n)
  rw [chk_nat hn] at h1
  refine Ev.bind h1 (Ev.congr (fun k => if_pos rfl) ?_)
  by_cases h2 : k0 < 1
  · exact Ev.congr (fun k => if_pos h2) (Ev.step (fun k => natural_Root.j0.eq_2 ..) (Ev.congr (fun k => if_pos rfl) (Ev.now _)))
  · rw [decide_eq_true (show k0 > 4096 by omega)]
    exact Ev.congr (fun k => if_neg h2) (Ev.step (fun k => natural_Root.j0.eq_2 ..) (Ev.congr (fun k => if_pos rfl) (Ev.now _)))
theorem Bits_ev {n : Nat} (hn : (nat n).size ≤ 1024) : Ev (fun k => natural_Bits.f k (nat n)) ((bl n : Int), 0) := by
  have h1 := first1 (nat n)
  rw [chk_nat hn] at h1
  exact Ev.bind h1 (Ev.congr (fun k => if_pos rfl) (ev_some (NatBits_eq (by omega)) (Ev.now _)))
theorem small_root {n r K : Nat} (hK : 1 ≤ K) (h : r ^ K ≤ n) (hn : (nat n).size ≤ 1024) : (nat r).size ≤ 1024 :=
  Nat.le_trans (size_mono (Nat.le_trans (Nat.le_self_pow (by omega) r) h)) hn
theorem NaturalPowers : galoislaw01_NaturalPowers.Pure := by
  intro a x1 hx _
  apply Ev.rounds
  have skip : Ev (fun k => galoislaw01_NaturalPowers.j0 k a x1 true) true :=
    Ev.step (f := fun k => (galoislaw01_awake.f k).bind fun t => some t) (fun k => rfl) (Ev.bind awake_ev (Ev.now _))
  refine Ev.bind awake_ev ?_
  refine Ev.congr (fun k => if_pos rfl) ?_
  by_cases h1 : (a.size : Int) > 60
  · rw [decide_eq_true h1]
    exact skip
  rw [decide_eq_false h1]
  clear skip
  by_cases h3 : ¬ chk a = 0
  · obtain ⟨e, he⟩ : ∃ e, chk a = e := ⟨_, rfl⟩
    rw [he] at h3
    refine Ev.step (fun k => rfl) ?_
    simp only [galoislaw01_NaturalPowers.j0, Bool.false_eq_true, if_false]
    refine Ev.bind (Pow_err x1 he h3) ?_
    refine Ev.bind (Root_err x1 he h3) ?_
    refine Ev.bind (show Ev (fun k => natural_Sqrt.f k a) (⟨#[]⟩, e) from Ev.bind (Root_err 2 he h3) (Ev.now _)) ?_
    refine Ev.bind (Bits_err he h3) ?_
    refine ev_some (refCheck_eq a) ?_
    rw [he]
    refine Ev.congr (fun k => if_neg h3) ?_
    refine Ev.congr (f := fun _ => some true) (fun k => ?_) (Ev.now _)
    simp [right_err h3]
  replace h3 := Decidable.not_not.1 h3
  obtain ⟨m, rfl, sm⟩ := number h3
  obtain ⟨s, s1, s2, s3⟩ := Root_ev (n := m) (K := 2) sm (by decide) (by decide)
  obtain ⟨s', s4, s5, s6⟩ := rSqrt_ev (n := m) (by omega)
  obtain rfl := root_unique s4 s5 s1 s2
  have ss := small_root (by decide) s1 sm
  have sq : Ev (fun k => natural_Sqrt.f k (nat m)) (nat s', 0) := Ev.bind s3 (Ev.now _)
  refine Ev.step (fun k => rfl) ?_
  simp only [galoislaw01_NaturalPowers.j0, Bool.false_eq_true, if_false]
  by_cases hr : x1 < 0 ∨ x1 > 4096
  · refine Ev.bind (Pow_range sm hr) (Ev.bind (Root_range (k0 := x1) sm (by omega)) (Ev.bind sq (Ev.bind (Bits_ev sm) (ev_some (refCheck_eq (nat m)) (Ev.congr (fun k => if_pos h3) (Ev.bind s6 (ev_some (right_ok ss) (Ev.congr (fun k => if_pos rfl) (Ev.bind (rBits_ev (by omega)) (Ev.congr (fun k => if_pos rfl) (Ev.step (fun k => galoislaw01_NaturalPowers.j1.eq_2 ..) (Ev.congr (fun k => if_neg Bool.false_ne_true) ?_))))))))))))
    have fin : Ev (fun k => galoislaw01_NaturalPowers.j2 k (nat m) x1 ⟨#[]⟩ 3 ⟨#[]⟩ 3 true) true := by
      refine Ev.step (fun k => galoislaw01_NaturalPowers.j2.eq_2 ..) (Ev.congr (fun k => if_pos rfl) ?_)
      exact ev_some (right_err (by decide) _) (Ev.congr (fun k => if_pos rfl) (ev_some (right_err (by decide) _) (Ev.now _)))
    by_cases h2 : x1 < 0
    · exact Ev.congr (fun k => if_pos h2) fin
    · rw [decide_eq_true (show x1 > 4096 by omega)]
      exact Ev.congr (fun k => if_neg h2) fin
  obtain ⟨K, rfl⟩ := Int.eq_ofNat_of_zero_le (show 0 ≤ x1 by omega)
  have hK1 : K ≤ 4096 := by omega
  by_cases hK : K = 0
  · subst hK
    have hp := Pow_ev (e := 0) sm (by decide)
    rw [Nat.pow_zero] at hp
    refine Ev.bind hp (Ev.bind (Root_range sm (Or.inl (by decide))) (Ev.bind sq (Ev.bind (Bits_ev sm) (ev_some (refCheck_eq (nat m)) (Ev.congr (fun k => if_pos h3) (Ev.bind s6 (ev_some (right_ok ss) (Ev.congr (fun k => if_pos rfl) (Ev.bind (rBits_ev (by omega)) (Ev.congr (fun k => if_pos rfl) (Ev.step (fun k => galoislaw01_NaturalPowers.j1.eq_2 ..) (Ev.congr (fun k => if_neg Bool.false_ne_true) ?_))))))))))))
    refine Ev.congr (fun k => if_neg (by decide)) ?_
    refine Ev.step (fun k => galoislaw01_NaturalPowers.j2.eq_2 ..) ?_
    refine Ev.congr (fun k => if_neg (by decide)) (Ev.congr (fun k => if_pos rfl) ?_)
    have one : Ev (fun k => galoislaw01_nat.f k 1) (nat 1) := Ev.bind (rFromInt_ev (u := 1) (by decide)) (Ev.now _)
    exact Ev.bind one (ev_some (right_bnd 1) (Ev.congr (fun k => if_pos rfl) (ev_some (right_err (by decide) _) (Ev.now _))))
  · obtain ⟨r, r1, r2, r3⟩ := Root_ev (n := m) (K := K) sm (by omega) hK1
    obtain ⟨r', r4, r5, r6⟩ := rRoot_ev (n := m) (K := K) (by omega) hK1 (by omega)
    obtain rfl := root_unique r4 r5 r1 r2
    have sr := small_root (by omega) r1 sm
    have hneg : ¬ (K : Int) < 0 := by omega
    have hbig : decide ((K : Int) > 4096) = false := decide_eq_false (by omega)
    refine Ev.bind (Pow_ev sm hK1) (Ev.bind r3 (Ev.bind sq (Ev.bind (Bits_ev sm) (ev_some (refCheck_eq (nat m)) (Ev.congr (fun k => if_pos h3) (Ev.bind s6 (ev_some (right_ok ss) (Ev.congr (fun k => if_pos rfl) (Ev.bind (rBits_ev (by omega)) (Ev.congr (fun k => if_pos rfl) (Ev.step (fun k => galoislaw01_NaturalPowers.j1.eq_2 ..) (Ev.congr (fun k => if_neg Bool.false_ne_true) (Ev.congr (fun k => if_neg hneg) ?_)))))))))))))
    rw [hbig]
    refine Ev.step (fun k => galoislaw01_NaturalPowers.j2.eq_2 ..) (Ev.congr (fun k => if_neg Bool.false_ne_true) (Ev.congr (fun k => if_neg (show ¬ (K : Int) = 0 by omega)) (Ev.bind (rPowWithin_ev sm (by omega)) ?_)))
    by_cases hf : (nat (m ^ K)).size ≤ 1024
    · have e1 : powR m K = (nat (m ^ K), true) := by unfold powR; rw [if_pos hf]
      rw [e1]
      exact Ev.congr (fun k => if_pos rfl) (ev_some (right_bnd (m ^ K)) (Ev.congr (fun k => if_pos rfl) (Ev.bind r6 (ev_some (right_ok sr) (Ev.now _)))))
    · have e1 : powR m K = (⟨#[]⟩, false) := by unfold powR; rw [if_neg hf]
      have e2 : bnd (m ^ K) = (⟨#[]⟩, 4) := by unfold bnd; rw [if_pos (by omega)]
      rw [e1, e2]
      exact Ev.congr (fun k => if_neg (by decide)) (ev_some (right_err (by decide) _) (Ev.congr (fun k => if_pos rfl) (Ev.bind r6 (ev_some (right_ok sr) (Ev.now _)))))
end Go.Proofs.Ytohkmnbnjacfaaa.Pure
