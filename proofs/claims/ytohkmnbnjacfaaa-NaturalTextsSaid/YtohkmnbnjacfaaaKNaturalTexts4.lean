/- Part of the proof of the statement NaturalTexts: lemmas on the model's steps, Lean functions that say what the program's functions compute, and proofs that the calls do just that. No hypothesis is added. -/
import Derived.Test.YtohkmnbnjacfaaaKNaturalTexts3
set_option linter.all false
set_option linter.unusedVariables false
namespace Go.Proofs.YtohkmnbnjacfaaaN
open Go.RowKit Go.Proofs.Ytohkmnbnjacfaaa.All Go.Proofs.YtohkmnbnjacfaaaW.PrintWords Go.Proofs.YtohkmnbnjacfaaaW.PrintLast Go.Proofs.YtohkmnbnjacfaaaW.PrintMore
theorem divide_ev {m n : Nat} (hm : (d64 m).length ≤ 1099511627000) (hn : (d64 n).length ≤ 1099511627000) (n0 : 0 < n) : Ev (fun k => exact_divide.f k (d64 m) (d64 n)) (d64 (m / n), d64 (m % n)) := by
  have hB : (0 : Int) < B64 := by decide
  refine Ev.bind (compareWords_ev (by omega) (by omega)) ?_
  by_cases hlt : m < n
  · refine Ev.congr (fun k => if_pos (show cmpN m n < 0 by unfold cmpN; rw [if_pos hlt]; decide)) ?_
    rw [Nat.div_eq_of_lt hlt, Nat.mod_eq_of_lt hlt, d64_zero]
    exact Ev.now _
  refine Ev.congr (fun k => if_neg (show ¬ cmpN m n < 0 by unfold cmpN; rw [if_neg hlt]; split <;> decide)) ?_
  have hpos : 0 < (d64 n).length := by
    rcases Nat.eq_zero_or_pos (d64 n).length with h | h
    · exfalso
      have := d64_val n
      rw [List.eq_nil_of_length_eq_zero h] at this
      simp [vB] at this
      omega
    · exact h
  have hle : (d64 n).length ≤ (d64 m).length := d64_len_mono (by omega)
  by_cases h1 : (d64 n).length = 1
  · refine Ev.congr (fun k => if_pos (show ((d64 n).length : Int) = 1 by omega)) ?_
    have hy : vB B64 (d64 n) = rd (d64 n) 0 := by
      have := drop_succ B64 (d64 n) 0 (by omega)
      rw [List.drop_zero, vB_far _ (by omega), Int.mul_zero, Int.add_zero] at this
      exact this
    rw [d64_val] at hy
    obtain ⟨y0, y1⟩ := Dig_rd (d64_dig n) 0 (by omega)
    have y0' : 0 < rd (d64 n) 0 := by omega
    have e1 : wrap64 (((d64 m).length : Int) - 1) = ((d64 m).length : Int) - 1 := w64 (by omega) (by omega)
    refine Ev.congr (f := fun k => exact_divide.l0 k (d64 m) (d64 n) (List.replicate (d64 m).length 0) 0 (((d64 m).length : Int) - 1)) (fun k => ?_) (divide_l0 (d64_dig m) (by omega) h1 rfl y0' y1 (d64_val m) hy.symm (d64 m).length _ 0 (Nat.le_refl _) (by simp) (Dig_replicate hB _) (Int.le_refl 0) y0' (by rw [vB_far _ (Nat.le_refl _), vB_far _ (by simp)]; simp))
    rw [if_pos (Int.natCast_nonneg _), Int.toNat_natCast, if_pos (by omega), e1]
  · refine Ev.congr (fun k => if_neg (show ¬ ((d64 n).length : Int) = 1 by omega)) ?_
    obtain ⟨N, hN⟩ : ∃ N, (d64 n).length = N + 2 := ⟨(d64 n).length - 2, by omega⟩
    have e1 : wrap64 (((d64 n).length : Int) - 1) = ((N + 1 : Nat) : Int) := by rw [w64 (by omega) (by omega)]; omega
    have htop := d64_trim n hpos
    rw [hN, show N + 2 - 1 = N + 1 by omega] at htop
    obtain ⟨t0, t1⟩ := Dig_rd (d64_dig n) (N + 1) (by omega)
    obtain ⟨s, hs, hlz, n1, n2⟩ := norm_word (show 0 < rd (d64 n) ((N + 1 : Nat) : Int) by omega) t1
    obtain ⟨b, b1, b2, b3, b4⟩ := shiftUp_ev (d64 n) (d64_dig n) (by omega) s hs
    obtain ⟨a, a1, a2, a3, a4⟩ := shiftUp_ev (d64 m) (d64_dig m) (by omega) s hs
    rw [d64_val] at a3 b3
    have hb : vB B64 b = ((n * 2 ^ s : Nat) : Int) := by rw [b3, Int.natCast_mul, Int.natCast_pow]; rfl
    have tb := trim_ev b2 (by omega)
    rw [hb, Int.toNat_natCast] at tb
    have hlen : (d64 (n * 2 ^ s)).length = N + 2 := by
      have g1 : (d64 n).length ≤ (d64 (n * 2 ^ s)).length := d64_len_mono (Nat.le_mul_of_pos_right n (Nat.two_pow_pos s))
      have g2 : (d64 (n * 2 ^ s)).length ≤ N + 2 := by
        apply dgs_len
        have h2 : vB B64 (d64 n) * 2 ^ s < B64 ^ (N + 2) := by
          have h3 := vB_all B64 (d64 n) (N + 1 + 1) (by omega)
          have hp : (B64 : Int) ^ (N + 2) = B64 ^ (N + 1) * B64 := Int.pow_succ _ _
          rw [← h3, take_succ, Int.add_mul, hp, Int.mul_assoc]
          have h4 := vB_lt hB (Dig_take (d64_dig n) (N + 1))
          rw [List.length_take, Nat.min_eq_left (by omega)] at h4
          have hP : (0 : Int) < 2 ^ s := Int.pow_pos (by decide)
          obtain ⟨c, hc⟩ : ∃ c, c * 2 ^ s = B64 := ⟨2 ^ (64 - s), by
            rw [← Int.pow_add]
            have : 64 - s + s = 64 := by omega
            rw [this]
            rfl⟩
          have h5 : rd (d64 n) ((N + 1 : Nat) : Int) * 2 ^ s + 2 ^ s ≤ B64 := by
            have n2' : rd (d64 n) ((N + 1 : Nat) : Int) * 2 ^ s < B64 := n2
            rw [← hc] at n2' ⊢
            have h6 : rd (d64 n) ((N + 1 : Nat) : Int) < c := Int.lt_of_mul_lt_mul_right n2' (Int.le_of_lt hP)
            have h7 := Int.mul_le_mul_of_nonneg_right (show rd (d64 n) ((N + 1 : Nat) : Int) + 1 ≤ c by omega) (Int.le_of_lt hP)
            rwa [Int.add_mul, Int.one_mul] at h7
          have h8 := Int.mul_lt_mul_of_pos_right h4 hP
          have h9 := Int.mul_le_mul_of_nonneg_left h5 (Int.le_of_lt (show (0 : Int) < B64 ^ (N + 1) from Int.pow_pos hB))
          rw [Int.mul_add] at h9
          generalize vB B64 ((d64 n).take (N + 1)) * 2 ^ s = A at *
          generalize (B64 : Int) ^ (N + 1) * (rd (d64 n) ((N + 1 : Nat) : Int) * 2 ^ s) = A1 at *
          generalize (B64 : Int) ^ (N + 1) * 2 ^ s = A2 at *
          generalize (B64 : Int) ^ (N + 1) * B64 = A3 at *
          clear h4 h3
          omega
        rw [d64_val] at h2
        have h3 : ((n * 2 ^ s : Nat) : Int) < ((18446744073709551614 + 2 : Nat) : Int) ^ (N + 2) := by rw [Int.natCast_mul, Int.natCast_pow]; exact h2
        exact_mod_cast h3
      omega
    have hvt := d64_trim (n * 2 ^ s) (by omega)
    rw [hlen, show N + 2 - 1 = N + 1 by omega] at hvt
    have e2 : wrap64 (((d64 m).length : Int) - ((d64 (n * 2 ^ s)).length : Int)) = (((d64 m).length - (N + 2) + 1 : Nat) : Int) - 1 := by rw [w64 (by omega) (by omega)]; omega
    have e3 : wrap64 ((((d64 m).length - (N + 2) + 1 : Nat) : Int) - 1 + 1) = (((d64 m).length - (N + 2) + 1 : Nat) : Int) := by rw [w64 (by omega) (by omega)]; omega
    have hV : vB B64 (d64 (n * 2 ^ s)) = (n : Int) * 2 ^ s := by rw [d64_val, Int.natCast_mul, Int.natCast_pow]; rfl
    have hP : (0 : Int) < 2 ^ s := Int.pow_pos (by decide)
    have dQ : (m : Int) * 2 ^ s / vB B64 (d64 (n * 2 ^ s)) = ((m / n : Nat) : Int) := by rw [hV, Int.mul_ediv_mul_of_pos_left _ _ hP]; rfl
    have dR : (m : Int) * 2 ^ s % vB B64 (d64 (n * 2 ^ s)) = 2 ^ s * ((m % n : Nat) : Int) := by rw [hV, Int.mul_comm (m : Int), Int.mul_comm (n : Int), Int.mul_emod_mul_of_pos _ _ hP]; rfl
    have start : Long ((m : Int) * 2 ^ s) (vB B64 (d64 (n * 2 ^ s))) ((d64 m).length + 1) ((d64 m).length - (N + 2) + 1) a (List.replicate ((d64 m).length - (N + 2) + 1) 0) ((d64 m).length - (N + 2) + 1) := by
      refine ⟨a1, a2, by simp, Dig_replicate hB _, ?_, ?_⟩
      ·
        have h1 := vB_split B64 a ((d64 m).length - (N + 2) + 1) (by omega)
        have h2 := vB_nonneg (Int.le_of_lt hB) (Dig_take a2 ((d64 m).length - (N + 2) + 1))
        have h3 := vB_lt hB (d64_dig m)
        have h4 := trim_le hB (d64_dig n) (d64_trim n) hpos
        rw [d64_val] at h3 h4
        rw [hN, show N + 2 - 1 = N + 1 by omega] at h4
        rw [a3] at h1
        have h5 : (B64 : Int) ^ (d64 m).length = B64 ^ ((d64 m).length - (N + 2) + 1) * B64 ^ (N + 1) := by rw [← Int.pow_add]; congr 1; omega
        rw [h5] at h3
        have h6 := Int.mul_lt_mul_of_pos_right h3 hP
        rw [Int.mul_assoc] at h6
        have h7 := Int.mul_le_mul_of_nonneg_right h4 (Int.le_of_lt hP)
        rw [hV]
        have hC : (0 : Int) < B64 ^ ((d64 m).length - (N + 2) + 1) := Int.pow_pos hB
        have h8 : B64 ^ ((d64 m).length - (N + 2) + 1) * vB B64 (a.drop ((d64 m).length - (N + 2) + 1)) < B64 ^ ((d64 m).length - (N + 2) + 1) * (B64 ^ (N + 1) * 2 ^ s) := by
          generalize B64 ^ ((d64 m).length - (N + 2) + 1) * vB B64 (a.drop ((d64 m).length - (N + 2) + 1)) = A at *
          generalize B64 ^ ((d64 m).length - (N + 2) + 1) * (B64 ^ (N + 1) * 2 ^ s) = A1 at *
          generalize (m : Int) * 2 ^ s = A2 at *
          clear h5 h7 hC h4 h3
          omega
        exact Int.lt_of_lt_of_le (Int.lt_of_mul_lt_mul_left h8 (Int.le_of_lt hC)) h7
      · rw [a3, vB_far _ (by simp), Int.mul_zero, Int.mul_zero, Int.add_zero]
    have key := divide_l1 (d64_dig (n * 2 ^ s)) hlen (by omega) hvt hs (by omega) (by omega) (by omega) dQ dR _ _ _ (Nat.le_refl _) start
    refine Ev.congr (f := fun k => (exact_shiftUp.f k (d64 n) (s : Int)).bind fun t184 => ((exact_trim.f k t184).bind fun t187 => ((exact_shiftUp.f k (d64 m) (s : Int)).bind fun t190 => (if 0 ≤ (wrap64 ((wrap64 (((d64 m).length : Int) - (t187.length : Int))) + 1)) then (if (wrap64 ((wrap64 (((d64 m).length : Int) - (t187.length : Int))) + 1) : Int).toNat ≤ 35184372088832 then (exact_divide.l1 k (s : Int) t187 t190 (t187.length : Int) (List.replicate (wrap64 ((wrap64 (((d64 m).length : Int) - (t187.length : Int))) + 1) : Int).toNat 0) (wrap64 (((d64 m).length : Int) - (t187.length : Int)))) else (none)) else (none))))) (fun k => ?_) (Ev.bind b4 (Ev.bind tb (Ev.bind a4 ?_)))
    · rw [e1, if_pos (Int.natCast_nonneg _), if_pos (by omega), hlz, Option.bind_some]
    · refine Ev.congr (fun k => ?_) key
      rw [e2, e3, if_pos (Int.natCast_nonneg _), Int.toNat_natCast, if_pos (by omega)]
      rw [show ((d64 (n * 2 ^ s)).length : Int) = ((N + 2 : Nat) : Int) by omega]
theorem NatDivMod_ev {m n : Nat} (hm : (nat m).size ≤ 1099511627776) (hn : (nat n).size ≤ 1099511627776) (n0 : 0 < n) : Ev (fun k => exact_NatDivMod.f k (nat m) (nat n)) (nat (m / n), nat (m % n)) := by
  have lm := words_len m
  have ln := words_len n
  have h1 : (d64 (m / n)).length ≤ (d64 m).length := d64_len_mono (Nat.div_le_self _ _)
  have h2 : (d64 (m % n)).length ≤ (d64 n).length := d64_len_mono (Nat.le_of_lt (Nat.mod_lt _ n0))
  have p1 := pack_ev (d64_dig (m / n)) (by omega)
  have p2 := pack_ev (d64_dig (m % n)) (by omega)
  rw [d64_val, Int.toNat_natCast] at p1 p2
  exact Ev.bind (words_nat hm) (Ev.bind (words_nat hn) (Ev.bind (divide_ev (by omega) (by omega) n0) (Ev.bind p1 (Ev.bind p2 (Ev.now _)))))
end Go.Proofs.YtohkmnbnjacfaaaN
set_option linter.unusedVariables false
namespace Go.Proofs.YtohkmnbnjacfaaaN
open Go.RowKit Go.Proofs.Ytohkmnbnjacfaaa.All Go.Proofs.YtohkmnbnjacfaaaW.PrintWords Go.Proofs.YtohkmnbnjacfaaaW.PrintLast Go.Proofs.YtohkmnbnjacfaaaW.PrintMore
theorem nat_empty {n : Nat} : (nat n).toList = ([] : List UInt8) ↔ n = 0 := by rw [toList_nil, nat_size_zero]
end Go.Proofs.YtohkmnbnjacfaaaN
set_option linter.unusedVariables false
namespace Go.Proofs.YtohkmnbnjacfaaaN
open Go.RowKit Go.Proofs.Ytohkmnbnjacfaaa.All Go.Proofs.YtohkmnbnjacfaaaW.PrintWords Go.Proofs.YtohkmnbnjacfaaaW.PrintLast Go.Proofs.YtohkmnbnjacfaaaW.PrintMore
end Go.Proofs.YtohkmnbnjacfaaaN
set_option linter.unusedVariables false
namespace Go.Proofs.YtohkmnbnjacfaaaN
open Go.RowKit Go.Proofs.Ytohkmnbnjacfaaa.All Go.Proofs.YtohkmnbnjacfaaaW.PrintWords Go.Proofs.YtohkmnbnjacfaaaW.PrintLast Go.Proofs.YtohkmnbnjacfaaaW.PrintMore
theorem str_nat {l : List Int} {n : Nat} (hd : Dig 256 l) (ht : 0 < l.length → rd l 0 ≠ 0) (hv : vB 256 l.reverse = n) : strOfNums l = nat n := by
  have : l.reverse = d8 n := by
    refine d8_unique (Dig_reverse hd) (fun hp => ?_) hv
    rw [List.length_reverse] at hp ⊢
    have := rd_reverse l (l.length - 1) (by omega)
    rw [show l.length - 1 - (l.length - 1) = 0 by omega] at this
    rw [this]
    exact ht hp
  unfold nat
  rw [← this, List.reverse_reverse]
theorem drop_zeros (l : List Int) (hd : Dig 256 l) : Dig 256 (l.dropWhile (· == 0)) ∧ (0 < (l.dropWhile (· == 0)).length → rd (l.dropWhile (· == 0)) 0 ≠ 0) ∧ vB 256 (l.dropWhile (· == 0)).reverse = vB 256 l.reverse := by
  induction l with
  | nil => exact ⟨Dig_nil _, fun h => absurd h (by simp), rfl⟩
  | cons x l ih =>
    have h := Dig_cons.1 hd
    by_cases hx : x = 0
    · subst hx
      have e : (0 :: l).dropWhile (· == 0) = l.dropWhile (· == 0) := by simp [List.dropWhile]
      obtain ⟨h1, h2, h3⟩ := ih h.2
      rw [e]
      refine ⟨h1, h2, ?_⟩
      rw [h3, List.reverse_cons, vB_append]
      simp [vB]
    · have hb : (x == 0) = false := by simpa using hx
      have e : (x :: l).dropWhile (· == 0) = x :: l := by simp [List.dropWhile, hb]
      rw [e]
      exact ⟨hd, fun _ => hx, rfl⟩
theorem Of_eq {u : Nat} (hu : u < 18446744073709551616) : natural_Of.f (u : Int) = some (nat u) := by
  unfold natural_Of.f
  rw [if_pos ⟨by omega, by omega⟩]
  congr 1
  have hl : natural_Of.bytes (u : Int) 8 = [natural_Of.byte u 0, natural_Of.byte u 1, natural_Of.byte u 2, natural_Of.byte u 3, natural_Of.byte u 4, natural_Of.byte u 5, natural_Of.byte u 6, natural_Of.byte u 7] := rfl
  simp only [natural_Of.byte, Nat.reduceMul, Nat.reduceSub, Int.reducePow] at hl
  have hd : Dig 256 (natural_Of.bytes (u : Int) 8) := by
    rw [hl]
    repeat (refine Dig_cons.2 ⟨⟨Int.emod_nonneg _ (by decide), Int.emod_lt_of_pos _ (by decide)⟩, ?_⟩)
    exact Dig_nil _
  have hv : vB 256 (natural_Of.bytes (u : Int) 8).reverse = u := by
    rw [hl]
    simp only [List.reverse_cons, List.reverse_nil, List.nil_append, List.cons_append, vB]
    omega
  obtain ⟨h1, h2, h3⟩ := drop_zeros _ hd
  exact str_nat h1 h2 (by rw [h3, hv])
end Go.Proofs.YtohkmnbnjacfaaaN
set_option linter.unusedVariables false
namespace Go.Proofs.YtohkmnbnjacfaaaN
open Go.RowKit Go.Proofs.Ytohkmnbnjacfaaa.All Go.Proofs.YtohkmnbnjacfaaaW.PrintWords Go.Proofs.YtohkmnbnjacfaaaW.PrintLast Go.Proofs.YtohkmnbnjacfaaaW.PrintMore
abbrev B32 : Int := 4294967296
def d32 (n : Nat) : List Int := dgs 4294967294 n
theorem d32_dig (n : Nat) : Dig B32 (d32 n) := (dgs_spec 4294967294 n).1
theorem d32_val (n : Nat) : vB B32 (d32 n) = n := (dgs_spec 4294967294 n).2.2
theorem d32_unique {l : List Int} {n : Nat} (hl : Dig B32 l) (ht : Trim l) (hv : vB B32 l = n) : l = d32 n := dgs_unique hl ht hv
theorem d32_zero : d32 0 = [] := dgs_zero _
theorem d32_len_mono {m n : Nat} (h : m ≤ n) : (d32 m).length ≤ (d32 n).length := dgs_len (Nat.lt_of_le_of_lt h (dgs_lt 4294967294 n))
theorem limbs_len (n : Nat) : (d32 n).length ≤ ((nat n).size + 3) / 4 := by
  apply dgs_len
  have h1 := nat_lt_size n
  have h2 : 256 ^ (nat n).size ≤ 256 ^ (4 * (((nat n).size + 3) / 4)) := Nat.pow_le_pow_right (by decide) (by omega)
  rw [Nat.pow_mul] at h2
  exact Nat.lt_of_lt_of_le h1 h2
theorem rtrim_ev : ∀ (n : Nat) (l : List Int), l.length = n → n < 9223372036854775808 → Dig B32 l → Ev (fun k => galoisref01_trim.f k l) (d32 (vB B32 l).toNat) := by
  intro n
  induction n with
  | zero =>
    intro l hl _ hd
    rw [List.eq_nil_of_length_eq_zero hl]
    refine Ev.step (f := fun _ => some []) (fun k => ?_) (by
      show Ev (fun _ => some []) (d32 0)
      rw [d32_zero]
      exact Ev.now _)
    simp [galoisref01_trim.f, galoisref01_trim.l0]
  | succ n ih =>
    intro l hl hn hd
    have hv := vB_nonneg (by decide) hd
    have e1 : wrap64 ((l.length : Int) - 1) = (n : Int) := by rw [w64 (by omega) (by omega)]; omega
    have hvs := take_succ B32 l n
    rw [vB_all _ _ _ (by omega)] at hvs
    by_cases hz : rd l (n : Int) = 0
    · rw [hz, Int.mul_zero, Int.add_zero] at hvs
      rw [hvs]
      refine Ev.step (f := fun k => galoisref01_trim.f k (l.take n)) (fun k => ?_) (ih _ (by rw [List.length_take]; omega) (by omega) (Dig_take hd _))
      simp only [galoisref01_trim.f, galoisref01_trim.l0, e1]
      rw [if_pos (by omega), if_pos (by omega), if_pos (by omega), if_pos hz, if_pos (by omega), Int.toNat_natCast]
    · have : l = d32 (vB B32 l).toNat := d32_unique hd (fun _ => by rw [hl, Nat.add_sub_cancel]; exact hz) (by omega)
      rw [← this]
      refine Ev.step (f := fun _ => some l) (fun k => ?_) (Ev.now _)
      simp only [galoisref01_trim.f, galoisref01_trim.l0, e1]
      rw [if_pos (by omega), if_pos (by omega), if_pos (by omega), if_neg hz]
def win (s : ByteArray) (a b : Nat) : Int := vB 256 (((bytesOf s).take b).drop a).reverse
theorem win_self (s : ByteArray) (a : Nat) : win s a a = 0 := by
  unfold win
  rw [List.drop_of_length_le (by rw [List.length_take]; omega)]
  rfl
theorem win_succ (s : ByteArray) (a b : Nat) (hab : a ≤ b) (hb : b < s.size) : win s a (b + 1) = win s a b * 256 + bt s (b : Int) := by
  unfold win
  rw [List.take_succ_eq_append_getElem (by rw [bytesOf_length]; exact hb), List.drop_append_of_le_length (by rw [List.length_take, bytesOf_length]; omega), List.reverse_append, List.reverse_singleton, List.singleton_append, vB_cons, bt_rd, rd_get _ b (by rw [bytesOf_length]; exact hb)]
  omega
theorem win_range (s : ByteArray) (a b : Nat) (hab : a ≤ b) (hb : b ≤ s.size) : 0 ≤ win s a b ∧ win s a b < 256 ^ (b - a) := by
  have hd : Dig 256 (((bytesOf s).take b).drop a).reverse := Dig_reverse (Dig_drop (Dig_take (bytesOf_dig s) _) _)
  refine ⟨vB_nonneg (by decide) hd, ?_⟩
  have := vB_lt (by decide) hd
  rw [List.length_reverse, List.length_drop, List.length_take, bytesOf_length, Nat.min_eq_left hb] at this
  exact this
theorem win_join (s : ByteArray) (a b c : Nat) (hab : a ≤ b) (hbc : b ≤ c) (hc : c ≤ s.size) : win s a c = win s b c + 256 ^ (c - b) * win s a b := by
  obtain ⟨d, rfl⟩ : ∃ d, c = b + d := ⟨c - b, by omega⟩
  induction d with
  | zero =>
    rw [Nat.add_zero, win_self, Nat.sub_self, Int.pow_zero, Int.one_mul, Int.zero_add]
  | succ d ih =>
    rw [← Nat.add_assoc, win_succ s a _ (by omega) (by omega), win_succ s b _ (by omega) (by omega), ih (by omega) (by omega)]
    rw [show b + d + 1 - b = (b + d - b) + 1 by omega, Int.pow_succ, Int.mul_right_comm]
    generalize 256 ^ (b + d - b) * win s a b = X
    omega
theorem win_all (s : ByteArray) : win s 0 s.size = bval s := by
  unfold win bval
  rw [List.drop_zero, List.take_of_length_le (by rw [bytesOf_length]; exact Nat.le_refl _)]
theorem limbs_l1 (s : ByteArray) (hs : s.size ≤ 1099511627776) (out : List Int) (lo : Nat) (hlo : out.length ≤ 1099511627776) (e : Nat) (he : e ≤ s.size) (hle : lo ≤ e) (h4 : e ≤ lo + 4) (r : List Int)
    (next : Ev (fun k => galoisref01_limbs.l0 k s (out ++ [win s lo e]) ((e : Int) - 4)) r) : ∀ (d i : Nat), i + d = e → lo ≤ i → Ev (fun k => galoisref01_limbs.l1 k s out (e : Int) (win s lo i) (i : Int)) r := by
  intro d
  induction d with
  | zero =>
    intro i hi hl
    have hi : i = e := by omega
    subst hi
    have e1 : wrap64 ((i : Int) - 4) = (i : Int) - 4 := w64 (by omega) (by omega)
    refine Ev.step (fun k => ?_) next
    simp only [galoisref01_limbs.l1, e1]
    rw [if_neg (Int.lt_irrefl _), if_pos (by omega)]
  | succ d ih =>
    intro i hi hl
    have c1 : (i : Int) < (e : Int) := by omega
    have c2 : (i : Int) < (s.size : Int) := by omega
    have e1 : wrap64 ((i : Int) + 1) = ((i + 1 : Nat) : Int) := by rw [w64 (by omega) (by omega)]; omega
    obtain ⟨w0, w1⟩ := win_range s lo i hl (by omega)
    have w2 : win s lo i < 16777216 := by
      refine Int.lt_of_lt_of_le w1 ?_
      exact pow_le_pow (B := 256) (by decide) (show i - lo ≤ 3 by omega)
    obtain ⟨b0, b1⟩ := bt_range s (i : Int)
    have e2 : IntKind.u64.wrap (IntKind.u64.wrap (win s lo i * 256) + IntKind.u64.wrap (bt s (i : Int))) = win s lo (i + 1) := by
      rw [win_succ s lo i hl (by omega), u64 (x := win s lo i * 256) (by omega) (by omega), u64 (x := bt s (i : Int)) (by omega) (by omega), u64 (by omega) (by omega)]
    refine Ev.step (f := fun k => galoisref01_limbs.l1 k s out (e : Int) (win s lo (i + 1)) ((i + 1 : Nat) : Int)) (fun k => ?_) (ih (i + 1) (by omega) (by omega))
    simp only [galoisref01_limbs.l1, e1, e2]
    rw [if_pos c1, if_pos (Int.natCast_nonneg _), if_pos c2]
theorem limbs_end (s : ByteArray) (out : List Int) (hd : Dig B32 out) (hl : out.length ≤ 1099511627776) (hv : vB B32 out = bval s) (x : Int) (hx : ¬ x > 0) : Ev (fun k => galoisref01_limbs.l0 k s out x) (d32 (bval s).toNat) := by
  have h := rtrim_ev out.length out rfl (by omega) hd
  rw [hv] at h
  refine Ev.step (f := fun k => (galoisref01_trim.f k out).bind fun t => some t) (fun k => ?_) (Ev.bind h (Ev.now _))
  simp only [galoisref01_limbs.l0]
  rw [if_neg hx]
theorem limbs_l0 (s : ByteArray) (hs : s.size ≤ 1099511627776) : ∀ (e : Nat) (out : List Int), e ≤ s.size → 4 * out.length = s.size - e → Dig B32 out → vB B32 out = win s e s.size → Ev (fun k => galoisref01_limbs.l0 k s out (e : Int)) (d32 (bval s).toNat) := by
  intro e
  induction e using Nat.strongRecOn with
  | _ e ih =>
    intro out he hl hd hv
    by_cases h0 : e = 0
    · subst h0
      exact limbs_end s out hd (by omega) (by rw [hv, win_all]) _ (by omega)
    · have hmx : mx 0 (wrap64 ((e : Int) - 4)) = ((e - 4 : Nat) : Int) := by
        rw [w64 (by omega) (by omega)]
        unfold mx
        split <;> omega
      have hw := win_range s (e - 4) e (by omega) he
      have hw1 : win s (e - 4) e < B32 := by
        refine Int.lt_of_lt_of_le hw.2 ?_
        exact pow_le_pow (B := 256) (by decide) (show e - (e - 4) ≤ 4 by omega)
      have hd' : Dig B32 (out ++ [win s (e - 4) e]) := Dig_append hd (Dig_cons.2 ⟨⟨hw.1, hw1⟩, Dig_nil _⟩)
      have hpow : (B32 : Int) ^ out.length = 256 ^ (s.size - e) := by
        rw [← hl, Int.pow_mul]
        rfl
      have hv' : vB B32 (out ++ [win s (e - 4) e]) = win s (e - 4) s.size := by
        rw [vB_append, hpow, hv, win_join s (e - 4) e s.size (by omega) he (Nat.le_refl _)]
        simp [vB]
      refine Ev.step (f := fun k => galoisref01_limbs.l1 k s out (e : Int) (win s (e - 4) (e - 4)) ((e - 4 : Nat) : Int)) (fun k => ?_) (limbs_l1 s hs out (e - 4) (by omega) e he (by omega) (by omega) _ ?_ (e - (e - 4)) (e - 4) (by omega) (Nat.le_refl _))
      · simp only [galoisref01_limbs.l0, hmx]
        rw [if_pos (by omega), win_self]
      · by_cases h4 : e ≤ 4
        · refine limbs_end s _ hd' (by rw [List.length_append]; simp; omega) ?_ _ (by omega)
          rw [hv', show e - 4 = 0 by omega, win_all]
        · have := ih (e - 4) (by omega) (out ++ [win s (e - 4) e]) (by omega) (by rw [List.length_append]; simp; omega) hd' hv'
          rwa [show ((e - 4 : Nat) : Int) = (e : Int) - 4 by omega] at this
theorem limbs_ev (s : ByteArray) (hs : s.size ≤ 1099511627776) : Ev (fun k => galoisref01_limbs.f k s) (d32 (bval s).toNat) :=
  limbs_l0 s hs s.size [] (Nat.le_refl _) (by simp) (Dig_nil _) (by rw [win_self]; rfl)
theorem limbs_nat {n : Nat} (hs : (nat n).size ≤ 1099511627776) : Ev (fun k => galoisref01_limbs.f k (nat n)) (d32 n) := by
  have := limbs_ev (nat n) hs
  rwa [bval_nat, Int.toNat_natCast] at this
theorem d8_push {N x : Nat} (hx : x < 256) (h : N * 256 + x ≠ 0) : d8 (N * 256 + x) = (x : Int) :: d8 N := by
  unfold d8
  rw [dgs_pos _ _ h, show (N * 256 + x) % (254 + 2) = x by omega, show (N * 256 + x) / (254 + 2) = N by omega]
theorem rpack_byte {N x : Nat} (hx : x < 256) : (if (((d8 N).reverse.length : Int) > 0) then (d8 N).reverse ++ [(x : Int)] else if (x : Int) > 0 then (d8 N).reverse ++ [(x : Int)] else (d8 N).reverse) = (d8 (N * 256 + x)).reverse := by
  by_cases h : N * 256 + x = 0
  · have hN : N = 0 := by omega
    have hx0 : x = 0 := by omega
    subst hN hx0
    have : d8 0 = [] := dgs_zero _
    rw [show 0 * 256 + 0 = 0 from rfl, this]
    simp
  · rw [d8_push hx h, List.reverse_cons]
    by_cases h1 : ((d8 N).reverse.length : Int) > 0
    · rw [if_pos h1]
    · rw [if_neg h1, if_pos]
      have : N = 0 := by
        rcases Nat.eq_zero_or_pos N with h2 | h2
        · exact h2
        · exfalso
          have h3 : (nat N).size ≠ 0 := fun h4 => by have := nat_size_zero.1 h4; omega
          rw [nat_size] at h3
          rw [List.length_reverse] at h1
          omega
      omega
theorem rpack_l1 {l : List Int} {V : Nat} (hd : Dig B32 l) (hl : l.length ≤ 1099511627776) (hV : (nat V).size ≤ 4398046511104) {i H D : Nat} (hi : i < l.length) (hD : rd l (i : Int) = D) (hle : H * 4294967296 + D ≤ V) {r : ByteArray}
    (next : Ev (fun k => galoisref01_pack.l0 k l (d8 (H * 4294967296 + D)).reverse ((i : Int) - 1)) r) : ∀ (c N : Nat), c ≤ 4 → N = H * 256 ^ (4 - c) + D / 256 ^ c → Ev (fun k => galoisref01_pack.l1 k l (d8 N).reverse (i : Int) (8 * (c : Int) - 8)) r := by
  have hD32 : D < 4294967296 := by
    have h := (Dig_rd hd i hi).2
    rw [hD] at h
    exact Int.ofNat_lt.1 h
  intro c
  induction c with
  | zero =>
    intro N _ hN
    have hN : N = H * 4294967296 + D := by simpa using hN
    rw [hN]
    have e1 : wrap64 ((i : Int) - 1) = (i : Int) - 1 := w64 (by omega) (by omega)
    refine Ev.step (fun k => ?_) next
    simp only [galoisref01_pack.l1, e1]
    rw [if_neg (by decide)]
  | succ c ih =>
    intro N hc hN
    have hcase : c = 0 ∨ c = 1 ∨ c = 2 ∨ c = 3 := by omega
    have hNV : N ≤ V := by
      refine Nat.le_trans ?_ hle
      rw [hN]
      exact Nat.add_le_add (Nat.mul_le_mul_left H (Nat.pow_le_pow_right (show 0 < 256 by decide) (show 4 - (c + 1) ≤ 4 from Nat.sub_le _ _))) (Nat.div_le_self _ _)
    have hb : ∃ x : Nat, x < 256 ∧ (shr .u64 (rd l (i : Int)) (8 * ((c + 1 : Nat) : Int) - 8)) % 256 = (x : Int) ∧ N * 256 + x = H * 256 ^ (4 - c) + D / 256 ^ c := by
      refine ⟨D / 256 ^ c % 256, Nat.mod_lt _ (by decide), ?_, ?_⟩
      · rw [show 8 * ((c + 1 : Nat) : Int) - 8 = ((8 * c : Nat) : Int) by omega, shr_eq _ _ (by omega), hD]
        rcases hcase with rfl | rfl | rfl | rfl <;> simp <;> omega
      · rw [hN]
        rcases hcase with rfl | rfl | rfl | rfl <;> simp <;> omega
    obtain ⟨x, x1, x2, x3⟩ := hb
    have hsz : (d8 N).reverse.length < 140737488355328 := by
      have := size_mono hNV
      rw [nat_size] at this
      rw [List.length_reverse]
      omega
    have e1 : wrap64 (8 * ((c + 1 : Nat) : Int) - 8 - 8) = 8 * (c : Int) - 8 := by rw [w64 (by omega) (by omega)]; omega
    refine Ev.step (f := fun k => galoisref01_pack.l1 k l (d8 (N * 256 + x)).reverse (i : Int) (8 * (c : Int) - 8)) (fun k => ?_) (ih (N * 256 + x) (by omega) x3)
    rw [← rpack_byte x1]
    simp only [galoisref01_pack.l1, e1, x2]
    rw [if_pos (by omega), if_pos (by omega), if_pos (by omega), if_pos (by omega)]
    by_cases h1 : ((d8 N).reverse.length : Int) > 0
    · rw [if_pos h1, if_pos hsz, if_pos h1]
    · rw [if_neg h1, if_neg h1]
      by_cases h2 : (x : Int) > 0
      · rw [if_pos h2, if_pos hsz, if_pos h2]
      · rw [if_neg h2, if_neg h2]
theorem rpack_l0 {l : List Int} {V : Nat} (hd : Dig B32 l) (hl : l.length ≤ 1099511627776) (hV : (nat V).size ≤ 4398046511104) (hv : vB B32 l = V) : ∀ (J H : Nat), J ≤ l.length → vB B32 (l.drop J) = H → Ev (fun k => galoisref01_pack.l0 k l (d8 H).reverse ((J : Int) - 1)) (nat V) := by
  intro J
  induction J with
  | zero =>
    intro H _ hH
    rw [List.drop_zero, hv] at hH
    have e : H = V := by omega
    subst e
    refine Ev.step (f := fun _ => some (nat H)) (fun k => ?_) (Ev.now _)
    simp only [galoisref01_pack.l0]
    rw [if_neg (by decide)]
    rfl
  | succ i ih =>
    intro H hJ hH
    have hi : i < l.length := by omega
    obtain ⟨D, hD⟩ := Int.eq_ofNat_of_zero_le (Dig_rd hd i hi).1
    have hds := drop_succ B32 l i hi
    rw [hH, hD] at hds
    have hds' : vB B32 (l.drop i) = ((H * 4294967296 + D : Nat) : Int) := by
      rw [hds]
      show (D : Int) + 4294967296 * (H : Int) = _
      omega
    have hle : H * 4294967296 + D ≤ V := by
      have h1 := vB_split B32 l i (by omega)
      have h2 := vB_nonneg (show (0 : Int) ≤ B32 by decide) (Dig_take hd i)
      have h3 : (1 : Int) ≤ B32 ^ i := by have : (0 : Int) < B32 ^ i := Int.pow_pos (by decide); omega
      have h4 := Int.mul_le_mul_of_nonneg_right h3 (show 0 ≤ vB B32 (l.drop i) from vB_nonneg (by decide) (Dig_drop hd i))
      rw [Int.one_mul] at h4
      rw [hv] at h1
      rw [hds'] at h1 h4
      generalize B32 ^ i * ((H * 4294967296 + D : Nat) : Int) = X at *
      clear h3
      omega
    refine Ev.congr (f := fun k => galoisref01_pack.l0 k l (d8 H).reverse (i : Int)) (fun k => by rw [show ((i + 1 : Nat) : Int) - 1 = (i : Int) by omega]) ?_
    refine Ev.step (f := fun k => galoisref01_pack.l1 k l (d8 H).reverse (i : Int) (8 * ((4 : Nat) : Int) - 8)) (fun k => ?_) (rpack_l1 hd hl hV hi hD hle (ih _ (by omega) hds') 4 H (Nat.le_refl _) ?_)
    · simp only [galoisref01_pack.l0]
      rw [if_pos (by omega)]
      rfl
    · have hD32 : D < 4294967296 := by
        have h := (Dig_rd hd i hi).2
        rw [hD] at h
        exact Int.ofNat_lt.1 h
      simp
      omega
theorem rpack_ev {l : List Int} (hd : Dig B32 l) (hl : l.length ≤ 1099511627776) : Ev (fun k => galoisref01_pack.f k l) (nat (vB B32 l).toNat) := by
  have hv := vB_nonneg (show (0 : Int) ≤ B32 by decide) hd
  have hV : (nat (vB B32 l).toNat).size ≤ 4398046511104 := by
    have h : (nat (vB B32 l).toNat).size ≤ 4 * l.length := by
      apply nat_size_le.2
      have h1 := vB_lt (show (0 : Int) < B32 by decide) hd
      rw [Nat.pow_mul]
      have h2 : (((vB B32 l).toNat : Nat) : Int) < ((4294967296 ^ l.length : Nat) : Int) := by
        rw [Int.toNat_of_nonneg hv, Int.natCast_pow]
        exact h1
      exact Int.ofNat_lt.1 h2
    omega
  have e1 : wrap64 ((l.length : Int) - 1) = (l.length : Int) - 1 := w64 (by omega) (by omega)
  have := rpack_l0 hd hl hV (show vB B32 l = (((vB B32 l).toNat : Nat) : Int) by omega) l.length 0 (Nat.le_refl _) (by rw [List.drop_of_length_le (Nat.le_refl _)]; rfl)
  refine Ev.congr (fun k => ?_) this
  unfold galoisref01_pack.f
  rw [e1, show d8 0 = [] from dgs_zero _]
  rfl
end Go.Proofs.YtohkmnbnjacfaaaN
set_option linter.unusedVariables false
namespace Go.Proofs.YtohkmnbnjacfaaaN
open Go.RowKit Go.Proofs.Ytohkmnbnjacfaaa.All Go.Proofs.YtohkmnbnjacfaaaW.PrintWords Go.Proofs.YtohkmnbnjacfaaaW.PrintLast Go.Proofs.YtohkmnbnjacfaaaW.PrintMore
theorem and32 {x : Int} (h0 : 0 ≤ x) (h1 : x < 18446744073709551616) : Go.bits .and .u64 x 4294967295 = x % B32 := and_low h0 h1
end Go.Proofs.YtohkmnbnjacfaaaN
set_option linter.unusedVariables false
namespace Go.Proofs.YtohkmnbnjacfaaaN
open Go.RowKit Go.Proofs.Ytohkmnbnjacfaaa.All Go.Proofs.YtohkmnbnjacfaaaW.PrintWords Go.Proofs.YtohkmnbnjacfaaaW.PrintLast Go.Proofs.YtohkmnbnjacfaaaW.PrintMore
end Go.Proofs.YtohkmnbnjacfaaaN
set_option linter.unusedVariables false
namespace Go.Proofs.YtohkmnbnjacfaaaN
open Go.RowKit Go.Proofs.Ytohkmnbnjacfaaa.All Go.Proofs.YtohkmnbnjacfaaaW.PrintWords Go.Proofs.YtohkmnbnjacfaaaW.PrintLast Go.Proofs.YtohkmnbnjacfaaaW.PrintMore
theorem empty_toList : (⟨#[]⟩ : ByteArray).toList = ([] : List UInt8) := toList_nil.2 rfl
theorem right_err {e : Int} (h : e ≠ 0) (w : ByteArray) : galoislaw01_right.f ⟨#[]⟩ e e w = some true := by
  unfold galoislaw01_right.f
  rw [if_neg h, if_pos empty_toList]
  simp
theorem right_bnd (n : Nat) : galoislaw01_right.f (bnd n).1 (bnd n).2 0 (nat n) = some true := by
  unfold galoislaw01_right.f galoisref01_Fits.f bnd
  rw [if_pos rfl]
  by_cases h : 1024 < (nat n).size
  · rw [if_pos (show ((nat n).size : Int) > 1024 by omega), if_pos h, Option.bind_some, if_neg (by decide), if_pos empty_toList]
    rfl
  · rw [if_neg (show ¬ ((nat n).size : Int) > 1024 by omega), if_neg h, Option.bind_some, if_pos rfl, if_pos rfl]
    rfl
theorem right_ok {n : Nat} (h : (nat n).size ≤ 1024) : galoislaw01_right.f (nat n) 0 0 (nat n) = some true := by
  have := right_bnd n
  rwa [bnd_ok h] at this
end Go.Proofs.YtohkmnbnjacfaaaN
set_option linter.unusedVariables false
namespace Go.Proofs.YtohkmnbnjacfaaaN
open Go.RowKit Go.Proofs.Ytohkmnbnjacfaaa.All Go.Proofs.YtohkmnbnjacfaaaW.PrintWords Go.Proofs.YtohkmnbnjacfaaaW.PrintLast Go.Proofs.YtohkmnbnjacfaaaW.PrintMore
def d10 (n : Nat) : List Int := dgs 8 n
theorem d10_dig (n : Nat) : Dig 10 (d10 n) := (dgs_spec 8 n).1
theorem d10_trim (n : Nat) : Trim (d10 n) := (dgs_spec 8 n).2.1
theorem d10_val (n : Nat) : vB 10 (d10 n) = n := (dgs_spec 8 n).2.2
theorem d10_unique {l : List Int} {n : Nat} (hl : Dig 10 l) (ht : Trim l) (hv : vB 10 l = n) : l = d10 n := dgs_unique hl ht hv
theorem d10_zero : d10 0 = [] := dgs_zero _
theorem d10_pos {n : Nat} (h : n ≠ 0) : d10 n = ((n % 10 : Nat) : Int) :: d10 (n / 10) := dgs_pos 8 n h
def txt (D : List Int) : List Int := D.map (fun x => 48 + x)
theorem txt_append (a b : List Int) : txt (a ++ b) = txt a ++ txt b := List.map_append
theorem txt_length (D : List Int) : (txt D).length = D.length := List.length_map _
theorem txt_dig {D : List Int} (h : Dig 10 D) : Dig 256 (txt D) := by
  intro x hx
  obtain ⟨y, hy, rfl⟩ := List.mem_map.1 hx
  have := h y hy
  show 0 ≤ 48 + y ∧ 48 + y < 256
  omega
theorem txt_rd {D : List Int} {i : Nat} (h : i < D.length) : rd (txt D) (i : Int) = 48 + rd D (i : Int) := by
  rw [rd_get _ i (by rw [txt_length]; exact h), rd_get D i h]
  unfold txt
  rw [List.getElem_map]
def dec (n : Nat) : ByteArray := if n = 0 then ⟨#[48]⟩ else strOfNums (txt (d10 n)).reverse
theorem rFormat_l2 (D : List Int) (hl : D.length ≤ 1099511627776) : ∀ (d i : Nat) (out : List Int), i + d = D.length → out.length = D.length → out.drop (D.length - i) = (D.take i).reverse → Ev (fun k => galoisref01_Format.l2 k D out (i : Int)) (strOfNums D.reverse) := by
  intro d
  induction d with
  | zero =>
    intro i out hi ho hd
    have hi : i = D.length := by omega
    subst hi
    rw [Nat.sub_self, List.drop_zero, List.take_length] at hd
    refine Ev.step (fun k => galoisref01_Format.l2.eq_2 ..) (Ev.congr (fun k => if_neg (Int.lt_irrefl _)) ?_)
    rw [hd]
    exact Ev.now _
  | succ d ih =>
    intro i out hi ho hd
    have hlt : i < D.length := by omega
    have hj : D.length - 1 - i < out.length := by omega
    have e1 : wrap64 ((wrap64 ((D.length : Int) - 1)) - (i : Int)) = ((D.length - 1 - i : Nat) : Int) := by
      rw [w64 (x := (D.length : Int) - 1) (by omega) (by omega), w64 (by omega) (by omega)]
      omega
    have e2 : wrap64 ((i : Int) + 1) = ((i + 1 : Nat) : Int) := by clear e1; rw [w64 (by omega) (by omega)]; omega
    have c1 : (i : Int) < (D.length : Int) := by omega
    have c2 : ((D.length - 1 - i : Nat) : Int) < (out.length : Int) := by omega
    refine Ev.step (fun k => ?_) (ih (i + 1) (out.set (D.length - 1 - i) (rd D (i : Int))) (by omega) (by rw [List.length_set]; exact ho) ?_)
    · simp only [galoisref01_Format.l2, e1, e2]
      rw [if_pos c1, if_pos (Int.natCast_nonneg _), if_pos (Int.natCast_nonneg _), if_pos c2, Int.toNat_natCast]
    · rw [show D.length - (i + 1) = D.length - 1 - i by omega, List.drop_eq_getElem_cons (by rw [List.length_set]; exact hj), List.getElem_set_self, drop_set, show D.length - 1 - i + 1 = D.length - i by omega, hd, List.take_succ_eq_append_getElem hlt, List.reverse_append, rd_get D i hlt]
      rfl
theorem rFormat_l1 {E l : List Int} {N : Nat} (hl : Dig B32 l) (ll : l.length ≤ 1099511627776) (lE : E.length ≤ 1099511627776) (hN : vB B32 l = N) {r : ByteArray} (next : Ev (fun k => galoisref01_Format.l0 k (txt (E ++ [((N % 10 : Nat) : Int)])) (d32 (N / 10))) r) :
    ∀ (J : Nat) (z : List Int) (c : Int), J ≤ l.length → z.length = l.length → Dig B32 z → 0 ≤ c → c < 10 → z.take J = l.take J → vB B32 (l.drop J) = 10 * vB B32 (z.drop J) + c → Ev (fun k => galoisref01_Format.l1 k (txt E) z c ((J : Int) - 1)) r := by
  intro J
  induction J with
  | zero =>
    intro z c _ hz hd c0 c1 _ hv
    rw [List.drop_zero, List.drop_zero, hN] at hv
    obtain ⟨Z, hZ⟩ := Int.eq_ofNat_of_zero_le (vB_nonneg (show (0 : Int) ≤ B32 by decide) hd)
    rw [hZ] at hv
    have t := rtrim_ev z.length z rfl (by omega) hd
    rw [hZ, Int.toNat_natCast] at t
    have hZN : Z = N / 10 := by omega
    have hc : c = ((N % 10 : Nat) : Int) := by omega
    refine Ev.step (fun k => galoisref01_Format.l1.eq_2 ..) (Ev.congr (fun k => if_neg (by decide)) (Ev.congr (fun k => if_pos (show (txt E).length < 140737488355328 by rw [txt_length]; omega)) (Ev.bind t ?_)))
    rw [txt_append] at next
    rw [u64 (by omega) (by omega), show (48 + c) % 256 = 48 + c by omega, hZN, hc]
    exact next
  | succ J ih =>
    intro z c hJ hz hd c0 c1 ht hv
    have hJz : J < z.length := by omega
    obtain ⟨z0, z1⟩ := Dig_rd hd J hJz
    have z1' : rd z (J : Int) < 4294967296 := z1
    have s1 := drop_succ B32 l J (by omega)
    have hzl : rd z (J : Int) = rd l (J : Int) := by
      rw [← rd_take z (J + 1) J (by omega), ht, rd_take l (J + 1) J (by omega)]
    rw [hv, ← hzl] at s1
    obtain ⟨T, hT⟩ : ∃ T, T = c * 4294967296 + rd z (J : Int) := ⟨_, rfl⟩
    have T0 : 0 ≤ T := by omega
    have T1 : T < 42949672960 := by omega
    have e0 : ((J + 1 : Nat) : Int) - 1 = (J : Int) := by omega
    have e1 : wrap64 ((J : Int) - 1) = (J : Int) - 1 := w64 (by omega) (by omega)
    have e2 : IntKind.u64.wrap (c * 4294967296) = c * 4294967296 := u64 (by omega) (by omega)
    have e3 : IntKind.u64.wrap T = T := u64 T0 (by omega)
    have e4 : IntKind.u64.wrap (Int.tdiv T 10) = T / 10 := by
      rw [Int.tdiv_eq_ediv_of_nonneg T0]
      exact u64 (by omega) (by omega)
    have e5 : Int.tmod T 10 = T % 10 := Int.tmod_eq_emod_of_nonneg T0
    have c2 : (J : Int) < (z.length : Int) := by omega
    refine Ev.step (fun k => ?_) (ih (z.set J (T / 10)) (T % 10) (by omega) (by rw [List.length_set]; exact hz) (Dig_set hd J (by omega) (by show _ < (4294967296 : Int); omega)) (by omega) (by omega) ?_ ?_)
    · simp only [galoisref01_Format.l1, e0, e1, e2, ← hT, e3, e4, e5]
      rw [if_pos (by omega), if_pos (Int.natCast_nonneg _), if_pos c2, Int.toNat_natCast]
    · rw [List.take_set_of_le (Nat.le_refl J)]
      have h := congrArg (List.take J) ht
      rwa [List.take_take, List.take_take, Nat.min_eq_left (by omega)] at h
    · rw [s1, drop_succ B32 (z.set J (T / 10)) J (by rw [List.length_set]; exact hJz), rd_set_self _ _ _ hJz, drop_set]
      show _ + 4294967296 * (10 * vB B32 (z.drop (J + 1)) + c) = 10 * (T / 10 + 4294967296 * vB B32 (z.drop (J + 1))) + T % 10
      omega
theorem rFormat_l0 : ∀ (N : Nat) (E : List Int), (E ++ d10 N).length ≤ 1000000000 → (d32 N).length ≤ 1000000000 → Ev (fun k => galoisref01_Format.l0 k (txt E) (d32 N)) (strOfNums (txt (E ++ d10 N)).reverse) := by
  intro N
  induction N using Nat.strongRecOn with
  | _ N ih =>
    intro E hE hN
    refine Ev.step (fun k => galoisref01_Format.l0.eq_2 ..) ?_
    by_cases h : N = 0
    · subst h
      rw [d10_zero, List.append_nil] at hE ⊢
      rw [d32_zero]
      have hl := txt_length E
      refine Ev.congr (fun k => if_neg (by decide)) (Ev.congr (fun k => if_pos (Int.natCast_nonneg _)) (Ev.congr (fun k => if_pos (show ((((txt E).length : Nat) : Int) : Int).toNat ≤ 281474976710656 by omega)) ?_))
      rw [Int.toNat_natCast]
      refine rFormat_l2 (txt E) (by omega) (txt E).length 0 _ (by omega) (List.length_replicate) ?_
      rw [Nat.sub_zero, List.drop_of_length_le (by rw [List.length_replicate]; exact Nat.le_refl _)]
      rfl
    · have hpos : 0 < (d32 N).length := by
        rcases Nat.eq_zero_or_pos (d32 N).length with h1 | h1
        · exfalso
          have := d32_val N
          rw [List.eq_nil_of_length_eq_zero h1] at this
          simp [vB] at this
          omega
        · exact h1
      have he : E ++ d10 N = (E ++ [((N % 10 : Nat) : Int)]) ++ d10 (N / 10) := by
        rw [d10_pos h, List.append_assoc]
        rfl
      rw [he] at hE ⊢
      have hl : E.length ≤ 1000000000 := by
        rw [List.length_append, List.length_append] at hE
        omega
      refine Ev.congr (fun k => if_pos (show ((d32 N).length : Int) > 0 by omega)) ?_
      rw [w64 (by omega) (by omega)]
      refine rFormat_l1 (d32_dig N) (by omega) (by omega) (d32_val N) (ih (N / 10) (by omega) _ hE (Nat.le_trans (d32_len_mono (Nat.div_le_self N 10)) hN)) (d32 N).length (d32 N) 0 (Nat.le_refl _) rfl (d32_dig N) (by decide) (by decide) rfl ?_
      rw [List.drop_of_length_le (Nat.le_refl _)]
      rfl
theorem d10_len {n k : Nat} (h : (nat n).size ≤ k) : (d10 n).length ≤ 3 * k := by
  apply dgs_len
  have h1 := nat_size_le.1 h
  rw [Nat.pow_mul]
  exact Nat.lt_of_lt_of_le h1 (Nat.pow_le_pow_left (by decide) k)
theorem rFormat_ev {n : Nat} (hn : (nat n).size ≤ 100000) : Ev (fun k => galoisref01_Format.f k (nat n)) (dec n) := by
  unfold dec
  by_cases h : n = 0
  · rw [if_pos h]
    exact Ev.congr (fun k => if_pos (nat_empty.2 h)) (Ev.now _)
  · rw [if_neg h]
    have h1 := d10_len hn
    have h2 := limbs_len n
    exact Ev.congr (fun k => if_neg (fun h0 => h (nat_empty.1 h0))) (Ev.bind (limbs_nat (by omega)) (rFormat_l0 n [] (by rw [List.nil_append]; omega) (by omega)))
def digit (s : ByteArray) (i : Nat) : Prop := 48 ≤ bt s (i : Int) ∧ bt s (i : Int) ≤ 57
instance (s : ByteArray) (i : Nat) : Decidable (digit s i) := by unfold digit; infer_instance
def dv (s : ByteArray) : Nat → Nat
  | 0 => 0
  | i + 1 => dv s i * 10 + (bt s (i : Int) - 48).toNat
def digits (s : ByteArray) : Prop := ∀ i : Nat, i < s.size → digit s i
instance (s : ByteArray) : Decidable (digits s) := by unfold digits; infer_instance
theorem dv_lt {s : ByteArray} : ∀ {i : Nat}, (∀ j : Nat, j < i → digit s j) → dv s i < 10 ^ i := by
  intro i
  induction i with
  | zero => intro _; exact Nat.one_pos
  | succ i ih =>
    intro h
    have h1 := ih (fun j hj => h j (by omega))
    have h2 := h i (by omega)
    unfold digit at h2
    rw [dv, Nat.pow_succ]
    omega
theorem dv_size {s : ByteArray} {i : Nat} (h : ∀ j : Nat, j < i → digit s j) : (nat (dv s i)).size ≤ i :=
  nat_size_le.2 (Nat.lt_of_lt_of_le (dv_lt h) (Nat.pow_le_pow_left (by decide) i))
def RDig (l z : List Int) (d : Int) (j : Nat) (c : Int) : Prop :=
  z.length = l.length ∧ Dig B32 z ∧ 0 ≤ c ∧ c < 10 ∧ z.drop j = l.drop j ∧ vB B32 (z.take j) + B32 ^ j * c = 10 * vB B32 (l.take j) + d
theorem rdig_step {l z : List Int} {d c : Int} {j : Nat} (hj : j < l.length) (h : RDig l z d j c) : 0 ≤ c + rd z (j : Int) * 10 ∧ c + rd z (j : Int) * 10 < 42949672960 ∧ RDig l (z.set j ((c + rd z (j : Int) * 10) % B32)) d (j + 1) ((c + rd z (j : Int) * 10) / B32) := by
  obtain ⟨h1, h2, h3, h4, h5, h6⟩ := h
  obtain ⟨z0, z1⟩ := Dig_rd h2 j (by omega)
  have z1' : rd z (j : Int) < 4294967296 := z1
  have hzl : rd z (j : Int) = rd l (j : Int) := by
    have := congrArg (fun x => rd x ((0 : Nat) : Int)) h5
    simpa only [rd_drop, Nat.add_zero] using this
  obtain ⟨T, hT⟩ : ∃ T, T = c + rd z (j : Int) * 10 := ⟨_, rfl⟩
  have T0 : 0 ≤ T := by clear h6; omega
  have T1 : T < 42949672960 := by clear h6; omega
  rw [← hT]
  refine ⟨T0, T1, by rw [List.length_set]; exact h1, Dig_set h2 j (by show 0 ≤ T % 4294967296; omega) (by show T % 4294967296 < 4294967296; omega), by show 0 ≤ T / 4294967296; omega, by show T / 4294967296 < 10; omega, ?_, ?_⟩
  · rw [drop_set, ← List.drop_drop, h5, List.drop_drop]
  · have ht : (z.set j (T % B32)).take j = z.take j := List.take_set_of_le (Nat.le_refl j)
    rw [take_succ, take_succ, ht, rd_set_self _ _ _ (by omega), ← hzl, Int.pow_succ]
    have e1 : B32 ^ j * (T % B32) + B32 ^ j * B32 * (T / B32) = B32 ^ j * T := by
      rw [Int.mul_assoc, ← Int.mul_add, Int.emod_add_mul_ediv]
    have e2 : B32 ^ j * T = B32 ^ j * c + 10 * (B32 ^ j * rd z (j : Int)) := by rw [hT, Int.mul_add, ← Int.mul_assoc (B32 ^ j), Int.mul_comm _ 10]
    rw [e2] at e1
    rw [Int.mul_add 10]
    generalize B32 ^ j * (T % B32) = A at *
    generalize B32 ^ j * B32 * (T / B32) = A2 at *
    generalize B32 ^ j * rd z (j : Int) = A3 at *
    generalize B32 ^ j * c = A4 at *
    clear e2 hT T0 T1
    omega
theorem rDigits_l1 {s : ByteArray} {i V : Nat} {l : List Int} {d : Int} (hl : Dig B32 l) (ll : l.length ≤ 1099511627776) (hi : i ≤ 1099511627776) (hv : vB B32 l * 10 + d = V) {r : ByteArray × Bool}
    (next : ∀ z : List Int, Dig B32 z → z.length ≤ l.length + 1 → vB B32 z = V → Ev (fun k => galoisref01_Digits.l0 k s z ((i + 1 : Nat) : Int)) r) : ∀ (m j : Nat) (z : List Int) (c : Int), j + m = l.length → RDig l z d j c → Ev (fun k => galoisref01_Digits.l1 k s z (i : Int) c (j : Int)) r := by
  intro m
  induction m with
  | zero =>
    intro j z c hj h
    have hj : j = l.length := by omega
    subst hj
    obtain ⟨h1, h2, h3, h4, h5, h6⟩ := h
    have e1 : wrap64 ((i : Int) + 1) = ((i + 1 : Nat) : Int) := by clear h6 hv; rw [w64 (by omega) (by omega)]; omega
    rw [vB_all _ _ _ (by omega), vB_all _ _ _ (by omega)] at h6
    refine Ev.step (fun k => galoisref01_Digits.l1.eq_2 ..) (Ev.congr (fun k => if_neg (show ¬ (l.length : Int) < (z.length : Int) by omega)) ?_)
    rw [e1]
    by_cases hc : c > 0
    · refine Ev.congr (fun k => if_pos hc) (Ev.congr (fun k => if_pos (show z.length < 17592186044416 by omega)) (next (z ++ [c]) (Dig_append h2 (Dig_cons.2 ⟨⟨h3, by show c < 4294967296; omega⟩, Dig_nil _⟩)) (by rw [List.length_append, h1]; exact Nat.le_refl _) ?_))
      rw [vB_append, h1]
      simp only [vB]
      rw [Int.mul_zero, Int.add_zero, h6]
      omega
    · have hc0 : c = 0 := by omega
      rw [hc0, Int.mul_zero, Int.add_zero] at h6
      exact Ev.congr (fun k => if_neg hc) (next z h2 (by omega) (by rw [h6]; omega))
  | succ m ih =>
    intro j z c hj h
    obtain ⟨t0, t1, h'⟩ := rdig_step (by omega) h
    have h1 := h.1
    obtain ⟨z0, z1⟩ := Dig_rd h.2.1 j (by omega)
    have z1' : rd z (j : Int) < 4294967296 := z1
    have c1 : (j : Int) < (z.length : Int) := by clear hv; omega
    have c2 : j + 1 + m = l.length := by clear hv; omega
    have e1 : wrap64 ((j : Int) + 1) = ((j + 1 : Nat) : Int) := by clear hv; rw [w64 (by omega) (by omega)]; omega
    have e2 : IntKind.u64.wrap (rd z (j : Int) * 10) = rd z (j : Int) * 10 := u64 (by omega) (by omega)
    have e3 : IntKind.u64.wrap (c + rd z (j : Int) * 10) = c + rd z (j : Int) * 10 := u64 t0 (by omega)
    have e4 := and32 t0 (show c + rd z (j : Int) * 10 < 18446744073709551616 by omega)
    refine Ev.step (fun k => ?_) (ih (j + 1) _ _ c2 h')
    simp only [galoisref01_Digits.l1, e1, e2, e3, e4, Int.toNat_natCast]
    rw [if_pos c1, if_pos (Int.natCast_nonneg _)]
theorem rDigits_l0 {s : ByteArray} (hs : s.size ≤ 100000) : ∀ (d i : Nat) (l : List Int), i + d = s.size → (∀ j : Nat, j < i → digit s j) → Dig B32 l → l.length ≤ i → vB B32 l = dv s i → Ev (fun k => galoisref01_Digits.l0 k s l (i : Int)) (if digits s then (nat (dv s s.size), true) else (⟨#[]⟩, false)) := by
  intro d
  induction d with
  | zero =>
    intro i l hi hd hl ll hv
    have hi : i = s.size := by omega
    subst hi
    have p := rpack_ev hl (by omega)
    rw [hv, Int.toNat_natCast] at p
    rw [if_pos (show digits s from hd)]
    exact Ev.step (fun k => galoisref01_Digits.l0.eq_2 ..) (Ev.congr (fun k => if_neg (Int.lt_irrefl _)) (Ev.bind p (Ev.now _)))
  | succ d ih =>
    intro i l hi hd hl ll hv
    refine Ev.step (fun k => galoisref01_Digits.l0.eq_2 ..) (Ev.congr (fun k => if_pos (show (i : Int) < (s.size : Int) by omega)) (Ev.congr (fun k => if_pos (Int.natCast_nonneg _)) ?_))
    have bad : ¬ digit s i → Ev (fun k => galoisref01_Digits.j2 k s l (i : Int) true) (if digits s then (nat (dv s s.size), true) else (⟨#[]⟩, false)) := by
      intro h
      rw [if_neg (fun h' => h (h' i (by omega)))]
      exact Ev.step (fun k => galoisref01_Digits.j2.eq_2 ..) (Ev.congr (fun k => if_pos rfl) (Ev.now _))
    by_cases h1 : bt s (i : Int) < 48
    · exact Ev.congr (fun k => if_pos h1) (bad (fun h => by unfold digit at h; omega))
    · refine Ev.congr (fun k => if_neg h1) ?_
      by_cases h2 : bt s (i : Int) > 57
      · rw [decide_eq_true h2]
        exact bad (fun h => by unfold digit at h; omega)
      · rw [decide_eq_false h2]
        have hdi : digit s i := ⟨by omega, by omega⟩
        have hd' : ∀ j : Nat, j < i + 1 → digit s j := fun j hj => by
          rcases Nat.lt_or_ge j i with h | h
          · exact hd j h
          · rw [show j = i by omega]; exact hdi
        refine Ev.step (fun k => galoisref01_Digits.j2.eq_2 ..) (Ev.congr (fun k => if_neg (by decide)) (Ev.congr (fun k => if_pos (Int.natCast_nonneg _)) (Ev.congr (fun k => if_pos (show (i : Int) < (s.size : Int) by omega)) ?_)))
        rw [show (bt s (i : Int) - 48) % 256 = bt s (i : Int) - 48 by omega]
        refine rDigits_l1 (V := dv s (i + 1)) (d := bt s (i : Int) - 48) hl (by omega) (by omega) ?_ (fun z z1 z2 z3 => ih (i + 1) z (by omega) hd' z1 (by omega) z3) l.length 0 l _ (by omega) ⟨rfl, hl, by omega, by omega, rfl, ?_⟩
        · rw [hv, dv]
          omega
        · rw [List.take_zero, Int.pow_zero]
          simp [vB]
def bad0 (s : ByteArray) : Prop := s.size = 0 ∨ (1 < s.size ∧ bt s 0 = 48)
instance (s : ByteArray) : Decidable (bad0 s) := by unfold bad0; infer_instance
theorem rDigits_ev {s : ByteArray} (hs : s.size ≤ 100000) : Ev (fun k => galoisref01_Digits.f k s) (if bad0 s then (⟨#[]⟩, false) else if digits s then (nat (dv s s.size), true) else (⟨#[]⟩, false)) := by
  have bad : bad0 s → Ev (fun k => galoisref01_Digits.j0 k s true) (if bad0 s then (⟨#[]⟩, false) else if digits s then (nat (dv s s.size), true) else (⟨#[]⟩, false)) := by
    intro h
    rw [if_pos h]
    exact Ev.step (fun k => galoisref01_Digits.j0.eq_2 ..) (Ev.congr (fun k => if_pos rfl) (Ev.now _))
  have good : ¬ bad0 s → Ev (fun k => galoisref01_Digits.j0 k s false) (if bad0 s then (⟨#[]⟩, false) else if digits s then (nat (dv s s.size), true) else (⟨#[]⟩, false)) := by
    intro h
    rw [if_neg h]
    exact Ev.step (fun k => galoisref01_Digits.j0.eq_2 ..) (Ev.congr (fun k => if_neg (by decide)) (rDigits_l0 hs s.size 0 [] (by omega) (fun j hj => absurd hj (by omega)) (Dig_nil _) (by decide) rfl))
  by_cases h0 : s.size = 0
  · exact Ev.congr (fun k => if_pos (toList_nil.2 h0)) (bad (Or.inl h0))
  · refine Ev.congr (fun k => if_neg (fun h => h0 (toList_nil.1 h))) ?_
    by_cases h1 : (s.size : Int) > 1
    · refine Ev.congr (fun k => if_pos h1) (Ev.congr (fun k => if_pos (show 0 < (s.size : Int) by omega)) ?_)
      by_cases h2 : bt s 0 = 48
      · rw [h2]
        exact bad (Or.inr ⟨by omega, h2⟩)
      · rw [show (bt s 0 == 48) = false from beq_eq_false_iff_ne.2 h2]
        exact good (fun h => by unfold bad0 at h; omega)
    · exact Ev.congr (fun k => if_neg h1) (good (fun h => by unfold bad0 at h; omega))
def parseR (s : ByteArray) : ByteArray × Int := if 4096 < s.size then (⟨#[]⟩, 12) else if bad0 s then (⟨#[]⟩, 11) else if digits s then bnd (dv s s.size) else (⟨#[]⟩, 11)
theorem rParse_ev {s : ByteArray} (hs : s.size ≤ 100000) : Ev (fun k => galoisref01_Parse.f k s) (parseR s) := by
  unfold parseR
  by_cases h : 4096 < s.size
  · rw [if_pos h]
    exact Ev.congr (fun k => if_pos (show (s.size : Int) > 4096 by omega)) (Ev.now _)
  · rw [if_neg h]
    refine Ev.congr (fun k => if_neg (show ¬ (s.size : Int) > 4096 by omega)) (Ev.bind (rDigits_ev hs) ?_)
    by_cases h1 : bad0 s
    · rw [if_pos h1, if_pos h1]
      exact Ev.congr (fun k => if_neg (by decide)) (Ev.now _)
    · rw [if_neg h1, if_neg h1]
      by_cases h2 : digits s
      · rw [if_pos h2, if_pos h2]
        refine Ev.congr (fun k => if_pos rfl) ?_
        unfold bnd
        by_cases h3 : 1024 < (nat (dv s s.size)).size
        · have : galoisref01_Fits.f (nat (dv s s.size)) = some 4 := if_pos (show ((nat (dv s s.size)).size : Int) > 1024 by omega)
          rw [if_pos h3]
          exact ev_some this (Ev.congr (fun k => if_neg (by decide)) (Ev.now _))
        · have : galoisref01_Fits.f (nat (dv s s.size)) = some 0 := if_neg (show ¬ ((nat (dv s s.size)).size : Int) > 1024 by omega)
          rw [if_neg h3]
          exact ev_some this (Ev.congr (fun k => if_pos rfl) (Ev.now _))
      · rw [if_neg h2, if_neg h2]
        exact Ev.congr (fun k => if_neg (by decide)) (Ev.now _)
theorem bytes_txt {D : List Int} (h : Dig 10 D) : bytesOf (strOfNums (txt D).reverse) = (txt D).reverse := bytesOf_str (Dig_reverse (txt_dig h))
theorem size_txt {D : List Int} (h : Dig 10 D) : (strOfNums (txt D).reverse).size = D.length := by
  rw [← bytesOf_length, bytes_txt h, List.length_reverse, txt_length]
theorem bt_txt {D : List Int} (h : Dig 10 D) {i : Nat} (hi : i < D.length) : bt (strOfNums (txt D).reverse) (i : Int) = 48 + rd D ((D.length - 1 - i : Nat) : Int) := by
  rw [bt_rd, bytes_txt h, rd_reverse _ _ (by rw [txt_length]; exact hi), txt_length, txt_rd (by omega)]
theorem dv_txt {D : List Int} (h : Dig 10 D) : ∀ i : Nat, i ≤ D.length → ((dv (strOfNums (txt D).reverse) i : Nat) : Int) = vB 10 (D.drop (D.length - i)) := by
  intro i
  induction i with
  | zero =>
    intro _
    rw [Nat.sub_zero, List.drop_of_length_le (Nat.le_refl _)]
    rfl
  | succ i ih =>
    intro hi
    have h1 := ih (by omega)
    obtain ⟨d0, d1⟩ := Dig_rd h (D.length - 1 - i) (by omega)
    have h2 := drop_succ 10 D (D.length - 1 - i) (by omega)
    rw [show D.length - 1 - i + 1 = D.length - i by omega, ← h1] at h2
    rw [show D.length - (i + 1) = D.length - 1 - i by omega, h2, dv, bt_txt h (by omega)]
    omega
theorem dec_digits (n : Nat) : digits (dec n) ∧ ¬ bad0 (dec n) ∧ dv (dec n) (dec n).size = n ∧ (dec n).size = if n = 0 then 1 else (d10 n).length := by
  unfold dec
  by_cases h : n = 0
  · subst h
    rw [if_pos rfl]
    exact ⟨by decide, by decide, by decide, rfl⟩
  · rw [if_neg h, if_neg h]
    have hd := d10_dig n
    have hs := size_txt hd
    have hpos : 0 < (d10 n).length := by rw [d10_pos h]; simp
    refine ⟨?_, ?_, ?_, hs⟩
    · intro i hi
      rw [hs] at hi
      obtain ⟨d0, d1⟩ := Dig_rd hd ((d10 n).length - 1 - i) (by omega)
      unfold digit
      rw [bt_txt hd hi]
      omega
    · intro hb
      unfold bad0 at hb
      rw [hs] at hb
      rcases hb with hb | ⟨_, hb⟩
      · omega
      · have h1 := bt_txt hd hpos
        rw [show (d10 n).length - 1 - 0 = (d10 n).length - 1 by omega] at h1
        have h2 := d10_trim n hpos
        have h3 : bt (strOfNums (txt (d10 n)).reverse) ((0 : Nat) : Int) = 48 := hb
        rw [h3] at h1
        omega
    · have h1 := dv_txt hd (d10 n).length (Nat.le_refl _)
      rw [Nat.sub_self, List.drop_zero, d10_val] at h1
      rw [hs]
      exact Int.ofNat_inj.1 h1
theorem parse_dec {n : Nat} (hn : (nat n).size ≤ 1024) : parseR (dec n) = (nat n, 0) := by
  obtain ⟨h1, h2, h3, h4⟩ := dec_digits n
  have h5 := d10_len hn
  have h6 : ¬ 4096 < (dec n).size := by rw [h4]; split <;> omega
  unfold parseR
  rw [if_neg h6, if_neg h2, if_pos h1, h3, bnd_ok hn]
end Go.Proofs.YtohkmnbnjacfaaaN
set_option linter.unusedVariables false
namespace Go.Proofs.YtohkmnbnjacfaaaN
open Go.RowKit Go.Proofs.Ytohkmnbnjacfaaa.All Go.Proofs.YtohkmnbnjacfaaaW.PrintWords Go.Proofs.YtohkmnbnjacfaaaW.PrintLast Go.Proofs.YtohkmnbnjacfaaaW.PrintMore
abbrev G18 : Int := 1000000000000000000
def d18 (n : Nat) : List Int := dgs 999999999999999998 n
theorem d18_dig (n : Nat) : Dig G18 (d18 n) := (dgs_spec 999999999999999998 n).1
theorem d18_trim (n : Nat) : Trim (d18 n) := (dgs_spec 999999999999999998 n).2.1
theorem d18_val (n : Nat) : vB G18 (d18 n) = n := (dgs_spec 999999999999999998 n).2.2
theorem d18_zero : d18 0 = [] := dgs_zero _
theorem d18_pos {n : Nat} (h : n ≠ 0) : d18 n = ((n % 1000000000000000000 : Nat) : Int) :: d18 (n / 1000000000000000000) := dgs_pos 999999999999999998 n h
theorem NatUint_ev {n : Nat} (hn : n < 18446744073709551616) : Ev (fun k => exact_NatUint.f k (nat n)) ((n : Int), true) := by
  have hs : (nat n).size ≤ 8 := nat_size_le.2 hn
  refine Ev.bind (words_nat (by omega)) ?_
  have hl : (d64 n).length ≤ 1 := dgs_len (by rw [Nat.pow_one]; exact hn)
  refine Ev.congr (fun k => if_neg (show ¬ ((d64 n).length : Int) > 1 by omega)) ?_
  by_cases h : n = 0
  · subst h
    rw [d64_zero]
    exact Ev.congr (fun k => if_pos rfl) (Ev.now _)
  · have he : d64 n = [(n : Int)] := by
      unfold d64
      rw [dgs_pos _ _ h, show n % (18446744073709551614 + 2) = n by omega, show n / (18446744073709551614 + 2) = 0 by omega, dgs_zero]
    rw [he]
    exact Ev.congr (fun k => if_neg (show ¬ (1 : Int) = 0 by decide)) (Ev.congr (fun k => if_pos (show (0 : Int) < 1 by decide)) (Ev.now _))
def Turned (D z : List Int) (i j : Nat) : Prop := z.length = D.length ∧ ∀ p : Nat, p < D.length → rd z (p : Int) = if p < i ∨ j ≤ p then rd D ((D.length - 1 - p : Nat) : Int) else rd D (p : Int)
theorem rd_ext {x y : List Int} (h : x.length = y.length) (h2 : ∀ p : Nat, p < x.length → rd x (p : Int) = rd y (p : Int)) : x = y := by
  refine List.ext_getElem h (fun p p1 p2 => ?_)
  have := h2 p p1
  rwa [rd_get x p p1, rd_get y p p2] at this
theorem turned_done {D z : List Int} {i j : Nat} (hij : i + j = D.length) (h : Turned D z i j) (hle : j ≤ i + 1) : z = D.reverse := by
  refine rd_ext (by rw [List.length_reverse]; exact h.1) (fun p hp => ?_)
  rw [h.1] at hp
  rw [h.2 p hp, rd_reverse D p hp]
  split
  · rfl
  · rw [show D.length - 1 - p = p by omega]
theorem turned_step {D z : List Int} {i j : Nat} (hij : i + (j + 1) = D.length) (hlt : i < j) (h : Turned D z i (j + 1)) : Turned D ((z.set i (rd z (j : Int))).set j (rd z (i : Int))) (i + 1) j := by
  refine ⟨by rw [List.length_set, List.length_set]; exact h.1, fun p hp => ?_⟩
  have hl := h.1
  by_cases hj : p = j
  · subst hj
    rw [rd_set_self _ _ _ (by rw [List.length_set]; omega), h.2 i (by omega), if_neg (by omega), if_pos (Or.inr (Nat.le_refl _))]
    congr 2
    omega
  · rw [rd_set_ne _ _ _ _ (fun h => hj h.symm)]
    by_cases hi : p = i
    · subst hi
      rw [rd_set_self _ _ _ (by omega), h.2 j (by omega), if_neg (by omega), if_pos (Or.inl (by omega))]
      congr 2
      omega
    · rw [rd_set_ne _ _ _ _ (fun h => hi h.symm), h.2 p hp]
      by_cases h1 : p < i ∨ j + 1 ≤ p
      · rw [if_pos h1, if_pos (by omega)]
      · rw [if_neg h1, if_neg (by omega)]
theorem Format_l3 {D : List Int} (hD : D.length ≤ 1099511627776) : ∀ (j i : Nat) (z : List Int), i + j = D.length → Turned D z i j → Ev (fun k => natural_Format.l3 k z (i : Int) ((j : Int) - 1)) (strOfNums D.reverse, 0) := by
  intro j
  induction j using Nat.strongRecOn with
  | _ j ih =>
    intro i z hij h
    have hl := h.1
    by_cases hlt : j ≤ i + 1
    · refine Ev.step (fun k => natural_Format.l3.eq_2 ..) (Ev.congr (fun k => if_neg (show ¬ (i : Int) < (j : Int) - 1 by omega)) ?_)
      rw [turned_done hij h hlt]
      exact Ev.now _
    · obtain ⟨q, rfl⟩ : ∃ q, j = q + 1 := ⟨j - 1, by omega⟩
      have e0 : ((q + 1 : Nat) : Int) - 1 = (q : Int) := by omega
      have e1 : wrap64 ((i : Int) + 1) = ((i + 1 : Nat) : Int) := by rw [w64 (by omega) (by omega)]; omega
      have e2 : wrap64 ((q : Int) - 1) = (q : Int) - 1 := w64 (by omega) (by omega)
      refine Ev.step (fun k => ?_) (ih q (by omega) (i + 1) _ (by omega) (turned_step hij (by omega) h))
      simp only [natural_Format.l3, e0, e1, e2, Int.toNat_natCast]
      rw [if_pos (by omega), if_pos (Int.natCast_nonneg _), if_pos (by omega), if_pos (Int.natCast_nonneg _), if_pos (by omega)]
theorem Format_rev {D : List Int} (hD : D.length ≤ 1099511627776) : Ev (fun k => natural_Format.l3 k D 0 (wrap64 ((D.length : Int) - 1))) (strOfNums D.reverse, 0) := by
  rw [w64 (by omega) (by omega)]
  refine Format_l3 hD D.length 0 D (by omega) ⟨rfl, fun p hp => ?_⟩
  rw [if_neg (by omega)]
def FOut (n : Nat) (D : List Int) (i j : Nat) (u : Int) : Prop := Dig 10 D ∧ D.length = 18 * i + j ∧ vB 10 D + 10 ^ (18 * i + j) * u = vB G18 ((d18 n).take (i + 1)) ∧ 0 ≤ u ∧ u < 10 ^ (18 - j)
theorem fout_step {n : Nat} {D : List Int} {i j : Nat} {u : Int} (hj : j < 18) (h : FOut n D i j u) : FOut n (D ++ [u % 10]) i (j + 1) (u / 10) := by
  obtain ⟨h1, h2, h3, h4, h5⟩ := h
  refine ⟨Dig_append h1 (Dig_cons.2 ⟨⟨by omega, by omega⟩, Dig_nil _⟩), by rw [List.length_append, h2]; rfl, ?_, by omega, ?_⟩
  · rw [vB_append, h2, ← h3, ← Nat.add_assoc, Int.pow_succ]
    simp only [vB]
    rw [Int.mul_zero, Int.add_zero, Int.mul_assoc, Int.add_assoc, ← Int.mul_add, Int.emod_add_mul_ediv]
  · obtain ⟨q, hq⟩ : ∃ q, 18 - j = q + 1 := ⟨17 - j, by omega⟩
    rw [hq, Int.pow_succ] at h5
    rw [show 18 - (j + 1) = q by omega]
    exact Int.ediv_lt_of_lt_mul (by decide) h5
theorem Format_l2 {n : Nat} (hlen : (d18 n).length ≤ 1000000000) {i : Nat} (hi : i < (d18 n).length) {r : ByteArray × Int}
    (next : ∀ D : List Int, FOut n D i 18 0 → i + 1 < (d18 n).length → Ev (fun k => natural_Format.l1 k (d18 n) (txt D) ((d18 n).length : Int) ((i + 1 : Nat) : Int)) r)
    (last : ∀ D : List Int, D = d10 n → i + 1 = (d18 n).length → Ev (fun k => natural_Format.l1 k (d18 n) (txt D) ((d18 n).length : Int) ((i + 1 : Nat) : Int)) r) :
    ∀ (m j : Nat) (D : List Int) (u : Int), j + m = 18 → FOut n D i j u → (i + 1 = (d18 n).length → u = 0 → D = d10 n) → Ev (fun k => natural_Format.l2 k (d18 n) (txt D) (i : Int) u (j : Int) ((d18 n).length : Int) (i : Int)) r := by
  have ei : wrap64 ((i : Int) + 1) = ((i + 1 : Nat) : Int) := by rw [w64 (by omega) (by omega)]; omega
  have el : wrap64 (((d18 n).length : Int) - 1) = ((d18 n).length : Int) - 1 := w64 (by omega) (by omega)
  intro m
  induction m with
  | zero =>
    intro j D u hj h hz
    have hj : j = 18 := by omega
    subst hj
    have hu : u = 0 := by
      obtain ⟨_, _, _, h4, h5⟩ := h
      rw [Nat.sub_self, Int.pow_zero] at h5
      omega
    subst hu
    refine Ev.step (fun k => natural_Format.l2.eq_2 ..) (Ev.congr (fun k => if_neg (by decide)) ?_)
    rw [ei]
    by_cases hl : i + 1 = (d18 n).length
    · exact last D (hz hl rfl) hl
    · exact next D h (by omega)
  | succ m ih =>
    intro j D u hj h hz
    obtain ⟨h1, h2, h3, h4, h5⟩ := id h
    have hu : u < 1000000000000000000 := Int.lt_of_lt_of_le h5 (pow_le_pow (B := 10) (by decide) (show 18 - j ≤ 18 by omega))
    have hL : (txt D).length < 140737488355328 := by rw [txt_length, h2]; omega
    have e1 : wrap64 ((j : Int) + 1) = ((j + 1 : Nat) : Int) := by clear h3 h5; rw [w64 (by omega) (by omega)]; omega
    have e2 : IntKind.u64.wrap (Int.tdiv u 10) = u / 10 := by
      rw [Int.tdiv_eq_ediv_of_nonneg h4]
      clear h3 h5
      exact u64 (by omega) (by omega)
    have e3 : IntKind.u64.wrap (48 + Int.tmod u 10) % 256 = 48 + u % 10 := by
      rw [Int.tmod_eq_emod_of_nonneg h4, u64 (by omega) (by omega)]
      omega
    have e4 : txt D ++ [48 + u % 10] = txt (D ++ [u % 10]) := by rw [txt_append]; rfl
    have cj : (j : Int) < 18 := by clear h3 h5 e1 e2 e3 e4; omega
    have cm : j + 1 + m = 18 := by clear h3 h5 e1 e2 e3 e4; omega
    have cj' : j < 18 := by clear h3 h5 e1 e2 e3 e4; omega
    have more : (i + 1 = (d18 n).length → u / 10 = 0 → D ++ [u % 10] = d10 n) → Ev (fun k => natural_Format.l2 k (d18 n) (txt D ++ [48 + u % 10]) (i : Int) (u / 10) ((j + 1 : Nat) : Int) ((d18 n).length : Int) (i : Int)) r := by
      intro hz'
      rw [e4]
      exact ih (j + 1) _ _ cm (fout_step cj' h) hz'
    refine Ev.step (fun k => natural_Format.l2.eq_2 ..) (Ev.congr (fun k => if_pos cj) ?_)
    rw [e1, e2, e3, el, ei]
    by_cases hu0 : u > 0
    · refine Ev.congr (fun k => if_pos hu0) (Ev.congr (fun k => if_pos hL) (more (fun hl hq => ?_)))
      have hf := fout_step cj' h
      obtain ⟨f1, f2, f3, f4, f5⟩ := hf
      rw [hq, Int.mul_zero, Int.add_zero, vB_all _ _ _ (Nat.le_of_eq hl.symm), d18_val] at f3
      refine d10_unique f1 (fun _ => ?_) f3
      rw [List.length_append]
      show rd (D ++ [u % 10]) ((D.length + 1 - 1 : Nat) : Int) ≠ 0
      rw [show D.length + 1 - 1 = D.length + 0 from rfl, rd_append_right]
      show u % 10 ≠ 0
      clear f3 f5 h3 h5 e1 e2 e3 e4 ei el hL h2 f2 hj
      omega
    · have hu0' : u = 0 := Int.le_antisymm (Int.not_lt.1 hu0) h4
      subst hu0'
      refine Ev.congr (fun k => if_neg hu0) ?_
      by_cases hl : i + 1 = (d18 n).length
      · exact Ev.congr (fun k => if_neg (show ¬ (i : Int) < ((d18 n).length : Int) - 1 by clear h3 h5 e1 e2 e3 e4 ei el; omega)) (last D (hz hl rfl) hl)
      · refine Ev.congr (fun k => if_pos (show (i : Int) < ((d18 n).length : Int) - 1 by clear h3 h5 e1 e2 e3 e4 ei el; omega)) (Ev.congr (fun k => if_pos hL) ?_)
        exact more (fun hl' => absurd hl' hl)
theorem pow18 (i : Nat) : (10 : Int) ^ (18 * i) = G18 ^ i := by rw [Int.pow_mul]; rfl
theorem Format_l1 {n : Nat} (hlen : (d18 n).length ≤ 1000000000) (h10 : (d10 n).length ≤ 1000000000) (h0 : n ≠ 0) : ∀ (m i : Nat) (D : List Int), i + m = (d18 n).length → (m = 0 → D = d10 n) → Dig 10 D → D.length = 18 * i ∨ m = 0 → vB 10 D = vB G18 ((d18 n).take i) → Ev (fun k => natural_Format.l1 k (d18 n) (txt D) ((d18 n).length : Int) (i : Int)) (strOfNums (txt (d10 n)).reverse, 0) := by
  intro m
  induction m with
  | zero =>
    intro i D hi hD _ _ _
    rw [hD rfl]
    refine Ev.step (fun k => natural_Format.l1.eq_2 ..) (Ev.congr (fun k => if_neg (show ¬ (i : Int) < ((d18 n).length : Int) by omega)) ?_)
    exact Format_rev (by rw [txt_length]; omega)
  | succ m ih =>
    intro i D hi _ hd hl hv
    have hlt : i < (d18 n).length := by omega
    have hl : D.length = 18 * i := by omega
    obtain ⟨p0, p1⟩ := Dig_rd (d18_dig n) i hlt
    refine Ev.step (fun k => natural_Format.l1.eq_2 ..) (Ev.congr (fun k => if_pos (show (i : Int) < ((d18 n).length : Int) by omega)) (Ev.congr (fun k => if_pos (Int.natCast_nonneg _)) (Ev.congr (fun k => if_pos (show (i : Int) < ((d18 n).length : Int) by omega)) ?_)))
    refine Format_l2 hlen hlt (fun D' hf hlt' => ?_) (fun D' hD' hl' => ?_) 18 0 D _ (by omega) ⟨hd, hl, ?_, p0, p1⟩ (fun hl' hu => ?_)
    · obtain ⟨f1, f2, f3, f4, f5⟩ := hf
      rw [Int.mul_zero, Int.add_zero] at f3
      exact ih (i + 1) D' (by omega) (fun h => by omega) f1 (Or.inl (by omega)) f3
    · rw [hD']
      exact ih (i + 1) _ (by omega) (fun _ => rfl) (d10_dig n) (Or.inr (by omega)) (by rw [d10_val, vB_all _ _ _ (by omega), d18_val])
    · rw [Nat.add_zero, pow18, hv, take_succ]
    · exfalso
      have := d18_trim n (by omega)
      rw [show (d18 n).length - 1 = i by omega] at this
      exact this hu
theorem Format_l0 {n0 : Nat} (h0 : n0 ≠ 0) (hlen : (d18 n0).length ≤ 1000000000) (h10 : (d10 n0).length ≤ 1000000000) : ∀ (n : Nat) (P : List Int), P ++ d18 n = d18 n0 → (nat n).size ≤ 1099511627776 → Ev (fun k => natural_Format.l0 k (nat n) P) (strOfNums (txt (d10 n0)).reverse, 0) := by
  intro n
  induction n using Nat.strongRecOn with
  | _ n ih =>
    intro P hP hn
    refine Ev.step (fun k => natural_Format.l0.eq_2 ..) ?_
    by_cases h : n = 0
    · subst h
      rw [d18_zero, List.append_nil] at hP
      subst hP
      exact Ev.congr (fun k => if_pos (nat_empty.2 rfl)) (Format_l1 hlen h10 h0 (d18 n0).length 0 [] (by omega) (fun hl => by
        exfalso
        have := d18_val n0
        rw [List.eq_nil_of_length_eq_zero hl] at this
        simp [vB] at this
        omega) (Dig_nil _) (Or.inl rfl) rfl)
    · have hg := Of_eq (u := 1000000000000000000) (by decide)
      rw [show ((1000000000000000000 : Nat) : Int) = 1000000000000000000 from rfl] at hg
      have hd := NatDivMod_ev (m := n) (n := 1000000000000000000) hn (Nat.le_trans (nat_size_le (k := 8).2 (by decide)) (by decide)) (by decide)
      have hu := NatUint_ev (n := n % 1000000000000000000) (by omega)
      have hPl : P.length ≤ 1000000000 := by
        have := congrArg List.length hP
        rw [List.length_append] at this
        omega
      refine Ev.congr (fun k => if_neg (fun h' => h (nat_empty.1 h'))) (ev_some hg (Ev.bind hd (Ev.bind hu (Ev.congr (fun k => if_pos (show P.length < 17592186044416 by omega)) ?_))))
      refine ih (n / 1000000000000000000) (by omega) _ ?_ (Nat.le_trans (size_mono (Nat.div_le_self _ _)) hn)
      rw [← hP, d18_pos h, List.append_assoc]
      rfl
theorem Format_ev {n : Nat} (hn : (nat n).size ≤ 1024) : Ev (fun k => natural_Format.f k (nat n)) (dec n, 0) := by
  have h1 := first1 (nat n)
  rw [chk_nat hn] at h1
  refine Ev.bind h1 (Ev.congr (fun k => if_pos rfl) ?_)
  unfold dec
  by_cases h : n = 0
  · rw [if_pos h]
    exact Ev.congr (fun k => if_pos (nat_empty.2 h)) (Ev.now _)
  · rw [if_neg h]
    have hl := d10_len hn
    have hl18 : (d18 n).length ≤ (nat n).size := dgs_len (Nat.lt_of_lt_of_le (nat_lt_size n) (Nat.pow_le_pow_left (by decide) _))
    exact Ev.congr (fun k => if_neg (fun h' => h (nat_empty.1 h'))) (Format_l0 h (by omega) (by omega) n [] (by rw [List.nil_append]) (by omega))
theorem Format_err {a : ByteArray} {e : Int} (he : chk a = e) (h : e ≠ 0) : Ev (fun k => natural_Format.f k a) (⟨#[]⟩, e) := by
  have := first1 a
  rw [he] at this
  exact Ev.bind this (Ev.congr (fun k => if_neg h) (Ev.now _))
theorem Parse_l2 {s : ByteArray} (hs : s.size ≤ 100000) (hd : digits s) {e : Nat} (he : e ≤ s.size) {r : ByteArray × Int} (next : Ev (fun k => natural_Parse.l1 k s (nat (dv s e)) (e : Int)) r) :
    ∀ (m i c n u : Nat), i + m = e → c + m ≤ 18 → u < 10 ^ c → n * 10 ^ c + u = dv s i → (nat n).size ≤ 100000 → Ev (fun k => natural_Parse.l2 k s (nat n) (i : Int) (e : Int) (u : Int) ((10 ^ c : Nat) : Int)) r := by
  intro m
  induction m with
  | zero =>
    intro i c n u hi hc hu hv hn
    have hi : i = e := by omega
    subst hi
    have hc18 : 10 ^ c ≤ 10 ^ 18 := Nat.pow_le_pow_right (by decide) (by omega)
    have h18 : (10 : Nat) ^ 18 = 1000000000000000000 := rfl
    have o1 := Of_eq (u := 10 ^ c) (by omega)
    have o2 := Of_eq (u := u) (by omega)
    have z1 : (nat (10 ^ c)).size ≤ 8 := nat_size_le.2 (Nat.lt_of_le_of_lt hc18 (by decide))
    have z2 : (nat u).size ≤ 8 := nat_size_le.2 (show u < 256 ^ 8 by have : (256 : Nat) ^ 8 = 18446744073709551616 := rfl; omega)
    have z3 := size_mul (m := n) (n := 10 ^ c)
    have m1 := NatMul_ev (m := n) (n := 10 ^ c) (by omega) (by omega)
    have m2 := NatAdd_ev (m := n * 10 ^ c) (n := u) (by omega) (by omega)
    rw [hv] at m2
    exact Ev.step (fun k => natural_Parse.l2.eq_2 ..) (Ev.congr (fun k => if_neg (Int.lt_irrefl _)) (ev_some o1 (Ev.bind m1 (ev_some o2 (Ev.bind m2 next)))))
  | succ m ih =>
    intro i c n u hi hc hu hv hn
    have hlt : i < s.size := by omega
    have h1 := hd i hlt
    unfold digit at h1
    have hc17 : 10 ^ c ≤ 10 ^ 17 := Nat.pow_le_pow_right (by decide) (by omega)
    have h17 : (10 : Nat) ^ 17 = 100000000000000000 := rfl
    have c1 : (i : Int) < (e : Int) := by clear hv; omega
    have c2 : (i : Int) < (s.size : Int) := by clear hv; omega
    have c3 : i + 1 + m = e := by clear hv; omega
    have c4 : c + 1 + m ≤ 18 := by clear hv; omega
    have e1 : wrap64 ((i : Int) + 1) = ((i + 1 : Nat) : Int) := by clear hv; rw [w64 (by omega) (by omega)]; omega
    have e2 : IntKind.u64.wrap (10 * (u : Int)) = ((10 * u : Nat) : Int) := by clear hv; rw [u64 (by omega) (by omega)]; omega
    have e3 : (bt s (i : Int) - 48) % 256 = (((bt s (i : Int) - 48).toNat : Nat) : Int) := by omega
    have e4 : IntKind.u64.wrap (((10 * u : Nat) : Int) + (((bt s (i : Int) - 48).toNat : Nat) : Int)) = ((10 * u + (bt s (i : Int) - 48).toNat : Nat) : Int) := by clear hv; rw [u64 (by omega) (by omega)]; omega
    have e5 : IntKind.u64.wrap (10 * ((10 ^ c : Nat) : Int)) = ((10 ^ (c + 1) : Nat) : Int) := by
      clear hv e4 e3 e2 e1
      rw [Nat.pow_succ]
      generalize 10 ^ c = P at *
      rw [u64 (by omega) (by omega)]
      omega
    refine Ev.step (fun k => ?_) (ih (i + 1) (c + 1) n (10 * u + (bt s (i : Int) - 48).toNat) c3 c4 ?_ ?_ hn)
    · simp only [natural_Parse.l2, e1, e2, e3, e4, e5]
      rw [if_pos c1, if_pos (Int.natCast_nonneg _), if_pos c2]
    · rw [Nat.pow_succ]
      clear hv e1 e2 e3 e4 e5
      generalize 10 ^ c = P at *
      omega
    · rw [dv, ← hv, Nat.pow_succ, Nat.add_mul, Nat.mul_assoc]
      omega
theorem Parse_l1 {s : ByteArray} (hs : s.size ≤ 100000) (hd : digits s) : ∀ (m i : Nat), i + m = s.size → Ev (fun k => natural_Parse.l1 k s (nat (dv s i)) (i : Int)) (bnd (dv s s.size)) := by
  intro m
  induction m using Nat.strongRecOn with
  | _ m ih =>
    intro i hi
    by_cases h : m = 0
    · have hi : i = s.size := by omega
      subst hi
      refine Ev.step (fun k => natural_Parse.l1.eq_2 ..) (Ev.congr (fun k => if_neg (Int.lt_irrefl _)) ?_)
      exact ev_some (bounded_eq _) (Ev.now _)
    · obtain ⟨e, he⟩ : ∃ e, e = min s.size (i + 18) := ⟨_, rfl⟩
      have he1 : e ≤ s.size := by omega
      have he2 : i < e := by omega
      have he3 : e ≤ i + 18 := by omega
      have e1 : mn (s.size : Int) (wrap64 ((i : Int) + 18)) = (e : Int) := by
        rw [w64 (by omega) (by omega)]
        unfold mn
        split <;> omega
      have hds : ∀ j : Nat, j < i → digit s j := fun j hj => hd j (by omega)
      refine Ev.step (fun k => natural_Parse.l1.eq_2 ..) (Ev.congr (fun k => if_pos (show (i : Int) < (s.size : Int) by omega)) ?_)
      rw [e1]
      exact Parse_l2 hs hd he1 (ih (s.size - e) (by omega) e (by omega)) (e - i) i 0 (dv s i) 0 (by omega) (by omega) (by decide) (by rw [Nat.pow_zero, Nat.mul_one, Nat.add_zero]) (Nat.le_trans (dv_size hds) (by omega))
theorem Parse_l0 {s : ByteArray} (hs : s.size ≤ 100000) : ∀ (d i : Nat), i + d = s.size → (∀ j : Nat, j < i → digit s j) → Ev (fun k => natural_Parse.l0 k s (s.size : Int) (i : Int)) (if digits s then bnd (dv s s.size) else (⟨#[]⟩, 11)) := by
  intro d
  induction d with
  | zero =>
    intro i hi hd
    have hi : i = s.size := by omega
    subst hi
    rw [if_pos (show digits s from hd)]
    refine Ev.step (fun k => natural_Parse.l0.eq_2 ..) (Ev.congr (fun k => if_neg (Int.lt_irrefl _)) ?_)
    have := Parse_l1 hs hd s.size 0 (by omega)
    rw [show dv s 0 = 0 from rfl, nat_zero] at this
    exact this
  | succ d ih =>
    intro i hi hd
    have e1 : wrap64 ((i : Int) + 1) = ((i + 1 : Nat) : Int) := by rw [w64 (by omega) (by omega)]; omega
    refine Ev.step (fun k => natural_Parse.l0.eq_2 ..) (Ev.congr (fun k => if_pos (show (i : Int) < (s.size : Int) by omega)) (Ev.congr (fun k => if_pos (Int.natCast_nonneg _)) (Ev.congr (fun k => if_pos (show (i : Int) < (s.size : Int) by omega)) ?_)))
    rw [e1]
    by_cases h1 : bt s (i : Int) < 48
    · rw [if_neg (fun h' => by have := h' i (by omega); unfold digit at this; omega)]
      exact Ev.congr (fun k => if_pos h1) (Ev.now _)
    · refine Ev.congr (fun k => if_neg h1) ?_
      by_cases h2 : bt s (i : Int) > 57
      · rw [if_neg (fun h' => by have := h' i (by omega); unfold digit at this; omega)]
        exact Ev.congr (fun k => if_pos h2) (Ev.now _)
      · have hdi : digit s i := ⟨by omega, by omega⟩
        refine Ev.congr (fun k => if_neg h2) (ih (i + 1) (by omega) (fun j hj => ?_))
        rcases Nat.lt_or_ge j i with h | h
        · exact hd j h
        · rw [show j = i by omega]; exact hdi
theorem Parse_ev {s : ByteArray} (hs : s.size ≤ 100000) : Ev (fun k => natural_Parse.f k s) (parseR s) := by
  unfold parseR
  have bad : bad0 s → Ev (fun k => natural_Parse.j0 k s true) (if bad0 s then (⟨#[]⟩, 11) else if digits s then bnd (dv s s.size) else (⟨#[]⟩, 11)) := by
    intro h
    rw [if_pos h]
    exact Ev.step (fun k => natural_Parse.j0.eq_2 ..) (Ev.congr (fun k => if_pos rfl) (Ev.now _))
  have good : ¬ bad0 s → Ev (fun k => natural_Parse.j0 k s false) (if bad0 s then (⟨#[]⟩, 11) else if digits s then bnd (dv s s.size) else (⟨#[]⟩, 11)) := by
    intro h
    rw [if_neg h]
    exact Ev.step (fun k => natural_Parse.j0.eq_2 ..) (Ev.congr (fun k => if_neg (by decide)) (Parse_l0 hs s.size 0 (by omega) (fun j hj => absurd hj (by omega))))
  by_cases h : 4096 < s.size
  · rw [if_pos h]
    exact Ev.congr (fun k => if_pos (show (s.size : Int) > 4096 by omega)) (Ev.now _)
  · rw [if_neg h]
    refine Ev.congr (fun k => if_neg (show ¬ (s.size : Int) > 4096 by omega)) ?_
    by_cases h0 : s.size = 0
    · exact Ev.congr (fun k => if_pos (toList_nil.2 h0)) (bad (Or.inl h0))
    · refine Ev.congr (fun k => if_neg (fun h' => h0 (toList_nil.1 h'))) (Ev.congr (fun k => if_pos (show 0 < (s.size : Int) by omega)) ?_)
      by_cases h2 : bt s 0 = 48
      · refine Ev.congr (fun k => if_pos h2) ?_
        by_cases h3 : (s.size : Int) > 1
        · rw [decide_eq_true h3]
          exact bad (Or.inr ⟨by omega, h2⟩)
        · rw [decide_eq_false h3]
          exact good (fun h' => by unfold bad0 at h'; omega)
      · exact Ev.congr (fun k => if_neg h2) (good (fun h' => by unfold bad0 at h'; omega))
end Go.Proofs.YtohkmnbnjacfaaaN
set_option linter.unusedVariables false
namespace Go.Proofs.Ytohkmnbnjacfaaa.Pure
open Go.RowKit Go.Proofs.Ytohkmnbnjacfaaa.All Go.Proofs.YtohkmnbnjacfaaaN Go.Proofs.YtohkmnbnjacfaaaW.PrintWords Go.Proofs.YtohkmnbnjacfaaaW.PrintLast
theorem right_parse (s : ByteArray) : galoislaw01_right.f (parseR s).1 (parseR s).2 (parseR s).2 (parseR s).1 = some true := by
  unfold parseR
  split
  · exact right_err (by decide) _
  · split
    · exact right_err (by decide) _
    · split
      · unfold bnd
        split
        · exact right_err (by decide) _
        · exact right_ok (by omega)
      · exact right_err (by decide) _
theorem NaturalTexts : galoislaw01_NaturalTexts.Pure := by
  intro a s _ _
  apply Ev.rounds
  have skip : Ev (fun k => galoislaw01_NaturalTexts.j0 k a s true) true :=
    Ev.step (f := fun k => (galoislaw01_awake.f k).bind fun t => some t) (fun k => rfl) (Ev.bind awake_ev (Ev.now _))
  refine Ev.bind awake_ev ?_
  refine Ev.congr (fun k => if_pos rfl) ?_
  by_cases h1 : (a.size : Int) > 1100
  · exact Ev.congr (fun k => if_pos h1) skip
  refine Ev.congr (fun k => if_neg h1) ?_
  by_cases h2 : (s.size : Int) > 4200
  · rw [decide_eq_true h2]
    exact skip
  rw [decide_eq_false h2]
  clear skip
  have hs : s.size ≤ 100000 := by omega
  refine Ev.step (fun k => rfl) ?_
  simp only [galoislaw01_NaturalTexts.j0, Bool.false_eq_true, if_false]
  by_cases h3 : ¬ chk a = 0
  · obtain ⟨e, he⟩ : ∃ e, chk a = e := ⟨_, rfl⟩
    rw [he] at h3
    refine Ev.bind (Format_err he h3) (Ev.bind (Parse_ev hs) (Ev.bind (rParse_ev hs) (ev_some (right_parse s) (Ev.congr (fun k => if_pos rfl) (ev_some (refCheck_eq a) ?_)))))
    rw [he]
    refine Ev.congr (fun k => if_neg h3) (Ev.congr (f := fun _ => some true) (fun k => ?_) (Ev.now _))
    simp
  replace h3 := Decidable.not_not.1 h3
  obtain ⟨n, rfl, sn⟩ := number h3
  have hds : (dec n).size ≤ 100000 := by
    obtain ⟨_, _, _, h4⟩ := dec_digits n
    have h5 := d10_len sn
    rw [h4]
    split <;> omega
  have hp := Parse_ev hds
  rw [parse_dec sn] at hp
  refine Ev.bind (Format_ev sn) (Ev.bind (Parse_ev hs) (Ev.bind (rParse_ev hs) (ev_some (right_parse s) (Ev.congr (fun k => if_pos rfl) (ev_some (refCheck_eq (nat n)) (Ev.congr (fun k => if_pos h3) (Ev.bind hp (Ev.bind (rFormat_ev (by omega)) ?_))))))))
  exact Ev.congr (fun k => if_pos rfl) (Ev.congr (fun k => if_pos rfl) (Ev.congr (fun k => if_pos rfl) (Ev.now _)))
end Go.Proofs.Ytohkmnbnjacfaaa.Pure
