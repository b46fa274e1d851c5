/- Part of the proof of the statement NaturalSums: lemmas on the model's steps, Lean functions that say what the program's functions compute, and proofs that the calls do just that. No hypothesis is added. -/
import Derived.Test.YtohkmnbnjacfaaaKNaturalSums4
set_option linter.all false
set_option linter.unusedVariables false
namespace Go.Proofs.YtohkmnbnjacfaaaN
open Go.RowKit Go.Proofs.Ytohkmnbnjacfaaa.All Go.Proofs.YtohkmnbnjacfaaaW.PrintWords Go.Proofs.YtohkmnbnjacfaaaW.PrintLast Go.Proofs.YtohkmnbnjacfaaaW.PrintMore
theorem pack_l1 (w : List Int) (hw : Dig B64 w) (hl : w.length ≤ 1099511627776) (i : Nat) (hi : i < w.length) (r : ByteArray)
    (next : ∀ b, Packed w b (i + 1) 0 → Ev (fun k => exact_pack.l0 k b w (w.length : Int) ((i + 1 : Nat) : Int)) r) : ∀ (d s : Nat) (b : List Int), s + d = 8 → Packed w b i s →
    Ev (fun k => exact_pack.l1 k b (i : Int) (rd w (i : Int)) w (w.length : Int) (i : Int) (s : Int)) r := by
  obtain ⟨hx0, hx1⟩ := Dig_rd hw i hi
  intro d
  induction d with
  | zero =>
    intro s b hs hp
    have hs : s = 8 := by omega
    subst hs
    refine Ev.step (f := fun k => exact_pack.l0 k b w (w.length : Int) ((i + 1 : Nat) : Int)) (fun k => ?_) (next b (packed_word hw hi hp))
    have c1 : ¬ ((8 : Nat) : Int) < 8 := by omega
    have e1 : wrap64 ((i : Int) + 1) = ((i + 1 : Nat) : Int) := by rw [w64 (by omega) (by omega)]; omega
    simp only [exact_pack.l1, e1]
    rw [if_neg c1]
  | succ d ih =>
    intro s b hs hp
    have hlb := hp.1
    obtain ⟨hlt, hp'⟩ := packed_step hw hi (by omega) hp
    refine Ev.step (f := fun k => exact_pack.l1 k (b.set (b.length - 1 - (8 * i + s)) (rd w (i : Int) / 256 ^ s % 256)) (i : Int) (rd w (i : Int)) w (w.length : Int) (i : Int) ((s + 1 : Nat) : Int)) (fun k => ?_) (ih (s + 1) _ (by omega) hp')
    have c1 : ((s : Nat) : Int) < 8 := by omega
    have c2 : ((b.length - 1 - (8 * i + s) : Nat) : Int) < (b.length : Int) := by omega
    have e0 := byte_of _ s (by omega) hx0 hx1
    have e1 : wrap64 (8 * (s : Int)) = ((8 * s : Nat) : Int) := by rw [w64 (by omega) (by omega)]; omega
    have e2 : wrap64 (wrap64 (wrap64 ((b.length : Int) - 1) - ((8 * i : Nat) : Int)) - (s : Int)) = ((b.length - 1 - (8 * i + s) : Nat) : Int) := by
      clear e1 e0
      rw [w64 (x := (b.length : Int) - 1) (by omega) (by omega), w64 (x := (b.length : Int) - 1 - ((8 * i : Nat) : Int)) (by omega) (by omega), w64 (by omega) (by omega)]
      omega
    have e4 : wrap64 (8 * (i : Int)) = ((8 * i : Nat) : Int) := by clear e0 e1 e2; rw [w64 (by omega) (by omega)]; omega
    have e3 : wrap64 ((s : Int) + 1) = ((s + 1 : Nat) : Int) := by clear e0 e1 e2 e4; rw [w64 (by omega) (by omega)]; omega
    simp only [exact_pack.l1, e1, e4, e2, e3]
    rw [if_pos c1, if_pos (Int.natCast_nonneg _), if_pos (Int.natCast_nonneg _), if_pos c2, Int.toNat_natCast, e0]
theorem pack_l0 (w : List Int) (hw : Dig B64 w) (hl : w.length ≤ 1099511627776) (n : Nat) (hv : vB B64 w = n) (hn : n ≠ 0) : ∀ (d i : Nat) (b : List Int), i + d = w.length → Packed w b i 0 → Ev (fun k => exact_pack.l0 k b w (w.length : Int) (i : Int)) (nat n) := by
  intro d
  induction d with
  | zero =>
    intro i b hi hp
    obtain ⟨h1, h2, h3, h4⟩ := hp
    have hi : i = w.length := by omega
    subst hi
    have e : vB 256 b.reverse = n := by
      rw [h3, List.take_of_length_le (Nat.le_refl _), hv]
      simp
    refine Ev.step (f := fun k => exact_pack.l2 k b ((0 : Nat) : Int)) (fun k => ?_) (pack_l2 b h2 (by omega) n e hn b.length 0 (by omega) (fun j hj => absurd hj (by omega)))
    simp only [exact_pack.l0]
    rw [if_neg (by omega)]
    rfl
  | succ d ih =>
    intro i b hi hp
    refine Ev.step (f := fun k => exact_pack.l1 k b (i : Int) (rd w (i : Int)) w (w.length : Int) (i : Int) ((0 : Nat) : Int)) (fun k => ?_) (pack_l1 w hw hl i (by omega) (nat n) (fun b' hp' => ih (i + 1) b' (by omega) hp') 8 0 b (by omega) hp)
    simp only [exact_pack.l0]
    rw [if_pos (by omega), if_pos (by omega), if_pos (by omega)]
    rfl
theorem pack_ev {l : List Int} (hd : Dig B64 l) (hl : l.length ≤ 1099511627776) : Ev (fun k => exact_pack.f k l) (nat (vB B64 l).toNat) := by
  have hv := vB_nonneg (by decide) hd
  have ht : (d64 (vB B64 l).toNat).length ≤ l.length := dgs_len (by
    have := vB_lt (by decide) hd
    have h1 : (((vB B64 l).toNat : Nat) : Int) < ((18446744073709551614 + 2 : Nat) : Int) ^ l.length := by
      rw [Int.toNat_of_nonneg hv]
      exact this
    exact_mod_cast h1)
  refine Ev.congr (f := fun k => (exact_trim.f k l).bind fun t => if (t.length : Int) = 0 then some (⟨#[]⟩ : ByteArray) else if 0 ≤ wrap64 (8 * (t.length : Int)) then (if (wrap64 (8 * (t.length : Int)) : Int).toNat ≤ 281474976710656 then exact_pack.l0 k (List.replicate (wrap64 (8 * (t.length : Int)) : Int).toNat 0) t (t.length : Int) 0 else none) else none) (fun k => rfl) (Ev.bind (trim_ev hd (by omega)) ?_)
  generalize hn : (vB B64 l).toNat = n at *
  by_cases h0 : n = 0
  · subst h0
    rw [d64_zero, nat_zero]
    exact Ev.now _
  · have hne : (d64 n).length ≠ 0 := by
      intro h
      have := d64_val n
      rw [List.eq_nil_of_length_eq_zero h] at this
      simp [vB] at this
      omega
    have e1 : wrap64 (8 * ((d64 n).length : Int)) = ((8 * (d64 n).length : Nat) : Int) := by rw [w64 (by omega) (by omega)]; omega
    refine Ev.congr (f := fun k => exact_pack.l0 k (List.replicate (8 * (d64 n).length) 0) (d64 n) ((d64 n).length : Int) ((0 : Nat) : Int)) (fun k => ?_) (pack_l0 (d64 n) (d64_dig n) (by omega) n (d64_val n) h0 (d64 n).length 0 _ (by omega) ⟨by simp, Dig_replicate (by decide) _, ?_, fun j _ => ?_⟩)
    · rw [e1, if_neg (by omega), if_pos (by omega), Int.toNat_natCast, if_pos (by omega)]
      rfl
    · rw [List.reverse_replicate, vB_replicate]
      simp [vB]
    · rw [List.reverse_replicate, rd_replicate]
end Go.Proofs.YtohkmnbnjacfaaaN
set_option linter.unusedVariables false
namespace Go.Proofs.YtohkmnbnjacfaaaN
open Go.RowKit Go.Proofs.Ytohkmnbnjacfaaa.All Go.Proofs.YtohkmnbnjacfaaaW.PrintWords Go.Proofs.YtohkmnbnjacfaaaW.PrintLast Go.Proofs.YtohkmnbnjacfaaaW.PrintMore
theorem mul_range {a b A B : Int} (a0 : 0 ≤ a) (a1 : a ≤ A) (b0 : 0 ≤ b) (b1 : b ≤ B) : 0 ≤ a * b ∧ a * b ≤ A * B :=
  ⟨Int.mul_nonneg a0 b0, Int.le_trans (Int.mul_le_mul_of_nonneg_left b1 a0) (Int.mul_le_mul_of_nonneg_right a1 (by omega))⟩
theorem and_low {x : Int} (h0 : 0 ≤ x) (h1 : x < B64) : Go.bits .and .u64 x 4294967295 = x % 4294967296 :=
  bits_mask .u64 64 (by decide) wraps_u64 32 (by decide) x h0 (by simpa using h1)
theorem mul64_eq {x y : Int} (x0 : 0 ≤ x) (x1 : x < B64) (y0 : 0 ≤ y) (y1 : y < B64) : bits_Mul64.f x y = some (x * y / B64, x * y % B64) := by
  have x1' : x < 18446744073709551616 := x1
  have y1' : y < 18446744073709551616 := y1
  show bits_Mul64.f x y = some (x * y / 18446744073709551616, x * y % 18446744073709551616)
  obtain ⟨a, ha⟩ : ∃ a, a = x / 4294967296 := ⟨_, rfl⟩
  obtain ⟨b, hb⟩ : ∃ b, b = x % 4294967296 := ⟨_, rfl⟩
  obtain ⟨c, hc⟩ : ∃ c, c = y / 4294967296 := ⟨_, rfl⟩
  obtain ⟨d, hd⟩ : ∃ d, d = y % 4294967296 := ⟨_, rfl⟩
  have hx : x = a * 4294967296 + b := by omega
  have hy : y = c * 4294967296 + d := by omega
  have a0 : 0 ≤ a ∧ a ≤ 4294967295 := by omega
  have b0 : 0 ≤ b ∧ b ≤ 4294967295 := by omega
  have c0 : 0 ≤ c ∧ c ≤ 4294967295 := by omega
  have d0 : 0 ≤ d ∧ d ≤ 4294967295 := by omega
  have hac := mul_range a0.1 a0.2 c0.1 c0.2
  have had := mul_range a0.1 a0.2 d0.1 d0.2
  have hbc := mul_range b0.1 b0.2 c0.1 c0.2
  have hbd := mul_range b0.1 b0.2 d0.1 d0.2
  have hp : x * y = a * c * 18446744073709551616 + (a * d + b * c) * 4294967296 + b * d := by
    rw [hx, hy, Int.add_mul, Int.mul_add, Int.mul_add, Int.add_mul]
    have e1 : a * 4294967296 * (c * 4294967296) = a * c * 18446744073709551616 := by
      rw [Int.mul_assoc, Int.mul_left_comm 4294967296 c, Int.mul_assoc a c]
      congr 1
    have e2 : a * 4294967296 * d = a * d * 4294967296 := by rw [Int.mul_assoc, Int.mul_comm 4294967296 d, ← Int.mul_assoc]
    have e3 : b * (c * 4294967296) = b * c * 4294967296 := by rw [Int.mul_assoc]
    rw [e1, e2, e3]
    omega
  unfold bits_Mul64.f
  rw [and_low x0 x1, and_low y0 y1, ← ha, ← hb, ← hc, ← hd, hp]
  generalize hA : a * c = p at *
  generalize hD : a * d = q at *
  generalize hC : b * c = r at *
  generalize hE : b * d = s at *
  clear hA hD hC hE hp hx hy ha hb hc hd x0 x1 y0 y1 x1' y1'
  have h1 : (4294967295 : Int) * 4294967295 = 18446744065119617025 := rfl
  rw [h1] at *
  rw [u64 (x := s) (by omega) (by omega), u64 (x := q) (by omega) (by omega), u64 (x := q + s / 4294967296) (by omega) (by omega), and_low (x := q + s / 4294967296) (by omega) (by show _ < (18446744073709551616 : Int); omega),
    u64 (x := r) (by omega) (by omega), u64 (x := (q + s / 4294967296) % 4294967296 + r) (by omega) (by omega), u64 (x := p) (by omega) (by omega),
    u64 (x := p + (q + s / 4294967296) / 4294967296) (by omega) (by omega)]
  have e : p + (q + s / 4294967296) / 4294967296 + ((q + s / 4294967296) % 4294967296 + r) / 4294967296 = (p * 18446744073709551616 + (q + r) * 4294967296 + s) / 18446744073709551616 := by omega
  rw [e, u64 (x := (p * 18446744073709551616 + (q + r) * 4294967296 + s) / 18446744073709551616) (by clear e; omega) (by clear e; omega), u64_mod]
theorem add64_eq {x y c : Int} (x0 : 0 ≤ x) (y0 : 0 ≤ y) (c0 : 0 ≤ c) (c1 : c ≤ 1) : bits_Add64.f x y c = some ((x + y + c) % B64, (x + y + c) / B64) := by
  unfold bits_Add64.f
  rw [if_pos ⟨x0, y0, c0, c1⟩]
theorem sub64_eq {x y c : Int} (x0 : 0 ≤ x) (x1 : x < B64) (y0 : 0 ≤ y) (y1 : y < B64) (c0 : 0 ≤ c) (c1 : c ≤ 1) : ∃ d e, bits_Sub64.f x y c = some (d, e) ∧ 0 ≤ d ∧ d < B64 ∧ 0 ≤ e ∧ e ≤ 1 ∧ d = x - y - c + B64 * e := by
  have x1' : x < 18446744073709551616 := x1
  have y1' : y < 18446744073709551616 := y1
  unfold bits_Sub64.f
  rw [if_pos ⟨x0, y0, by omega, c0, c1⟩]
  refine ⟨_, _, rfl, Int.emod_nonneg _ (by decide), Int.emod_lt_of_pos _ (by decide), ?_, ?_, ?_⟩
  · split <;> decide
  · split <;> decide
  · show (x - y - c) % 18446744073709551616 = x - y - c + 18446744073709551616 * _
    split <;> omega
theorem mul_add {x y o c : Int} (x0 : 0 ≤ x) (x1 : x < B64) (y0 : 0 ≤ y) (y1 : y < B64) (o0 : 0 ≤ o) (o1 : o < B64) (c0 : 0 ≤ c) (c1 : c < B64) :
    IntKind.u64.wrap (IntKind.u64.wrap (x * y / B64 + (x * y % B64 + o + 0) / B64) + ((x * y % B64 + o + 0) % B64 + c + 0) / B64) = (x * y + o + c) / B64 ∧ ((x * y % B64 + o + 0) % B64 + c + 0) % B64 = (x * y + o + c) % B64 ∧ 0 ≤ (x * y + o + c) / B64 ∧ (x * y + o + c) / B64 < B64 := by
  have x1' : x < 18446744073709551616 := x1
  have y1' : y < 18446744073709551616 := y1
  have o1' : o < 18446744073709551616 := o1
  have c1' : c < 18446744073709551616 := c1
  have hp := mul_range x0 (show x ≤ 18446744073709551615 by omega) y0 (show y ≤ 18446744073709551615 by omega)
  have h1 : (18446744073709551615 : Int) * 18446744073709551615 = 340282366920938463426481119284349108225 := rfl
  rw [h1] at hp
  show IntKind.u64.wrap (IntKind.u64.wrap (x * y / 18446744073709551616 + (x * y % 18446744073709551616 + o + 0) / 18446744073709551616) + ((x * y % 18446744073709551616 + o + 0) % 18446744073709551616 + c + 0) / 18446744073709551616) = (x * y + o + c) / 18446744073709551616 ∧ ((x * y % 18446744073709551616 + o + 0) % 18446744073709551616 + c + 0) % 18446744073709551616 = (x * y + o + c) % 18446744073709551616 ∧ 0 ≤ (x * y + o + c) / 18446744073709551616 ∧ (x * y + o + c) / 18446744073709551616 < 18446744073709551616
  generalize x * y = p at *
  clear x0 x1 x1' y0 y1 y1' o1 c1 h1
  have a1 : 0 ≤ p / 18446744073709551616 + (p % 18446744073709551616 + o + 0) / 18446744073709551616 ∧ p / 18446744073709551616 + (p % 18446744073709551616 + o + 0) / 18446744073709551616 < 18446744073709551616 := by omega
  rw [u64 a1.1 a1.2]
  have a2 : p / 18446744073709551616 + (p % 18446744073709551616 + o + 0) / 18446744073709551616 + ((p % 18446744073709551616 + o + 0) % 18446744073709551616 + c + 0) / 18446744073709551616 = (p + o + c) / 18446744073709551616 := by omega
  have a3 : 0 ≤ (p + o + c) / 18446744073709551616 ∧ (p + o + c) / 18446744073709551616 < 18446744073709551616 := by omega
  rw [a2, u64 a3.1 a3.2]
  refine ⟨rfl, by omega, a3.1, a3.2⟩
theorem take_succ (B : Int) (l : List Int) (i : Nat) : vB B (l.take (i + 1)) = vB B (l.take i) + B ^ i * rd l (i : Int) := by
  rcases Nat.lt_or_ge i l.length with h | h
  · exact vB_take_succ B l i h
  · rw [List.take_of_length_le (by omega), List.take_of_length_le h, rd_nat, List.getD_eq_getElem?_getD, List.getElem?_eq_none h]
    simp
theorem rd_far (l : List Int) (i : Nat) (h : l.length ≤ i) : rd l (i : Int) = 0 := by
  rw [rd_nat, List.getD_eq_getElem?_getD, List.getElem?_eq_none h]
  rfl
theorem vB_all (B : Int) (l : List Int) (i : Nat) (h : l.length ≤ i) : vB B (l.take i) = vB B l := by rw [List.take_of_length_le h]
def MulOut (a b out : List Int) (i : Nat) : Prop :=
  out.length = a.length + b.length ∧ Dig B64 out ∧ vB B64 out = vB B64 (a.take i) * vB B64 b ∧ ∀ j : Nat, i + b.length ≤ j → rd out (j : Int) = 0
def MulIn (a b out : List Int) (i j : Nat) (c : Int) : Prop :=
  out.length = a.length + b.length ∧ Dig B64 out ∧ (0 ≤ c ∧ c < B64) ∧ vB B64 out + B64 ^ (i + j) * c = vB B64 (a.take i) * vB B64 b + B64 ^ i * (rd a (i : Int) * vB B64 (b.take j)) ∧ ∀ n : Nat, i + b.length ≤ n → rd out (n : Int) = 0
theorem mul_in {a b out : List Int} {i j : Nat} {c : Int} (ha : Dig B64 a) (hb : Dig B64 b) (hi : i < a.length) (hj : j < b.length) (h : MulIn a b out i j c) :
    MulIn a b (out.set (i + j) ((rd a (i : Int) * rd b (j : Int) + rd out ((i + j : Nat) : Int) + c) % B64)) i (j + 1) ((rd a (i : Int) * rd b (j : Int) + rd out ((i + j : Nat) : Int) + c) / B64) := by
  obtain ⟨hl, hd, hc, hv, hz⟩ := h
  obtain ⟨x0, x1⟩ := Dig_rd ha i hi
  obtain ⟨y0, y1⟩ := Dig_rd hb j hj
  obtain ⟨o0, o1⟩ := Dig_rd hd (i + j) (by omega)
  obtain ⟨-, -, n0, n1⟩ := mul_add x0 x1 y0 y1 o0 o1 hc.1 hc.2
  refine ⟨by rw [List.length_set]; exact hl, Dig_set hd _ (Int.emod_nonneg _ (by decide)) (Int.emod_lt_of_pos _ (by decide)), ⟨n0, n1⟩, ?_, fun n hn => ?_⟩
  · rw [vB_set _ _ _ _ (by omega), take_succ, ← Nat.add_assoc, Int.pow_succ]
    have e := Int.emod_add_mul_ediv (rd a (i : Int) * rd b (j : Int) + rd out ((i + j : Nat) : Int) + c) B64
    generalize (rd a (i : Int) * rd b (j : Int) + rd out ((i + j : Nat) : Int) + c) / B64 = q at *
    generalize (rd a (i : Int) * rd b (j : Int) + rd out ((i + j : Nat) : Int) + c) % B64 = r at *
    have er : r = rd a (i : Int) * rd b (j : Int) + rd out ((i + j : Nat) : Int) + c - B64 * q := by omega
    rw [er]
    have ep : (B64 : Int) ^ (i + j) = B64 ^ i * B64 ^ j := Int.pow_add _ _ _
    rw [ep] at hv ⊢
    clear ep
    generalize vB B64 out = V at *
    generalize vB B64 (List.take i a) * vB B64 b = W at *
    generalize vB B64 (List.take j b) = U at *
    generalize (B64 : Int) ^ i = P at *
    generalize (B64 : Int) ^ j = Q at *
    generalize rd a (i : Int) = x at *
    generalize rd b (j : Int) = y at *
    generalize rd out ((i + j : Nat) : Int) = o at *
    have e1 : P * Q * (x * y + o + c - B64 * q - o) = P * Q * (x * y) + P * Q * c - P * Q * B64 * q := by
      rw [show x * y + o + c - B64 * q - o = x * y + c - B64 * q by omega, Int.mul_sub, Int.mul_add, Int.mul_assoc (P * Q) B64 q]
    have e2 : P * (x * (U + Q * y)) = P * (x * U) + P * Q * (x * y) := by
      rw [Int.mul_add x, Int.mul_add P, Int.mul_left_comm x Q y, Int.mul_assoc P Q]
    rw [e1, e2]
    omega
  · rw [rd_set_ne _ _ _ _ (by omega)]
    exact hz n hn
theorem mulWords_l1 (a b : List Int) (ha : Dig B64 a) (hb : Dig B64 b) (la : a.length ≤ 1099511627776) (lb : b.length ≤ 1099511627776) (i : Nat) (hi : i < a.length) (r : List Int)
    (next : ∀ out, MulOut a b out (i + 1) → Ev (fun k => exact_mulWords.l0 k b out a (a.length : Int) ((i + 1 : Nat) : Int)) r) : ∀ (d j : Nat) (out : List Int) (c : Int), j + d = b.length → MulIn a b out i j c →
    Ev (fun k => exact_mulWords.l1 k b out (i : Int) (rd a (i : Int)) c a (a.length : Int) (i : Int) b (b.length : Int) (j : Int)) r := by
  intro d
  induction d with
  | zero =>
    intro j out c hj h
    have hj : j = b.length := by omega
    subst hj
    have hl := h.1
    have c1 : i + b.length < out.length := by omega
    have c2 : ((i + b.length : Nat) : Int) < (out.length : Int) := Int.ofNat_lt.2 c1
    have e1 : wrap64 ((i : Int) + (b.length : Int)) = ((i + b.length : Nat) : Int) := by rw [w64 (by omega) (by omega)]; omega
    have e2 : wrap64 ((i : Int) + 1) = ((i + 1 : Nat) : Int) := by clear e1; rw [w64 (by omega) (by omega)]; omega
    obtain ⟨-, hd, hc, hv, hz⟩ := h
    refine Ev.step (f := fun k => exact_mulWords.l0 k b (out.set (i + b.length) c) a (a.length : Int) ((i + 1 : Nat) : Int)) (fun k => ?_) (next _ ⟨by rw [List.length_set]; exact hl, Dig_set hd _ hc.1 hc.2, ?_, fun j hj => ?_⟩)
    · simp only [exact_mulWords.l1, e1, e2]
      rw [if_neg (Int.lt_irrefl _), if_pos (Int.natCast_nonneg _), if_pos c2, Int.toNat_natCast]
    · rw [vB_set _ _ _ _ c1, hz _ (Nat.le_refl _), Int.sub_zero, hv, take_succ, vB_all _ _ _ (Nat.le_refl _), Int.add_mul, Int.mul_assoc]
    · rw [rd_set_ne _ _ _ _ (by clear hv e1 e2; omega)]
      exact hz j (by clear hv e1 e2; omega)
  | succ d ih =>
    intro j out c hj h
    have hj' : j < b.length := by omega
    have hn := mul_in ha hb hi hj' h
    have hl := h.1
    have c1 : i + j < out.length := by omega
    have c2 : ((i + j : Nat) : Int) < (out.length : Int) := Int.ofNat_lt.2 c1
    have c3 : (j : Int) < (b.length : Int) := Int.ofNat_lt.2 hj'
    have c4 : j + 1 + d = b.length := by omega
    have e1 : wrap64 ((i : Int) + (j : Int)) = ((i + j : Nat) : Int) := by rw [w64 (by omega) (by omega)]; omega
    have e2 : wrap64 ((j : Int) + 1) = ((j + 1 : Nat) : Int) := by clear e1; rw [w64 (by omega) (by omega)]; omega
    obtain ⟨-, hd, hc, -, -⟩ := h
    obtain ⟨x0, x1⟩ := Dig_rd ha i hi
    obtain ⟨y0, y1⟩ := Dig_rd hb j hj'
    obtain ⟨o0, o1⟩ := Dig_rd hd (i + j) c1
    obtain ⟨m0, m1, -, -⟩ := mul_add x0 x1 y0 y1 o0 o1 hc.1 hc.2
    have a1 := mul64_eq x0 x1 y0 y1
    have a2 := add64_eq (Int.emod_nonneg (rd a (i : Int) * rd b (j : Int)) (show (B64 : Int) ≠ 0 by decide)) o0 (Int.le_refl 0) (by decide)
    have a3 := add64_eq (Int.emod_nonneg (rd a (i : Int) * rd b (j : Int) % B64 + rd out ((i + j : Nat) : Int) + 0) (show (B64 : Int) ≠ 0 by decide)) hc.1 (Int.le_refl 0) (by decide)
    refine Ev.step (f := fun k => exact_mulWords.l1 k b (out.set (i + j) ((rd a (i : Int) * rd b (j : Int) + rd out ((i + j : Nat) : Int) + c) % B64)) (i : Int) (rd a (i : Int)) ((rd a (i : Int) * rd b (j : Int) + rd out ((i + j : Nat) : Int) + c) / B64) a (a.length : Int) (i : Int) b (b.length : Int) ((j + 1 : Nat) : Int)) (fun k => ?_) (ih (j + 1) _ _ c4 hn)
    simp only [exact_mulWords.l1, e1, e2]
    rw [if_pos c3, if_pos (Int.natCast_nonneg _), if_pos c3, a1, Option.bind_some, if_pos (Int.natCast_nonneg _), if_pos c2, a2, Option.bind_some, a3, Option.bind_some, m0, m1, Int.toNat_natCast]
theorem mulWords_l0 (a b : List Int) (ha : Dig B64 a) (hb : Dig B64 b) (la : a.length ≤ 1099511627776) (lb : b.length ≤ 1099511627776) : ∀ (d i : Nat) (out : List Int), i + d = a.length → MulOut a b out i →
    Ev (fun k => exact_mulWords.l0 k b out a (a.length : Int) (i : Int)) (d64 (vB B64 a * vB B64 b).toNat) := by
  intro d
  induction d with
  | zero =>
    intro i out hi h
    have hi : i = a.length := by omega
    subst hi
    obtain ⟨hl, hd, hv, hz⟩ := h
    rw [vB_all _ _ _ (Nat.le_refl _)] at hv
    refine Ev.step (f := fun k => (exact_trim.f k out).bind fun t => some t) (fun k => ?_) (Ev.bind (trim_ev hd (by omega)) ?_)
    · simp only [exact_mulWords.l0]
      rw [if_neg (Int.lt_irrefl _)]
    · rw [hv]
      exact Ev.now _
  | succ d ih =>
    intro i out hi h
    have hi' : i < a.length := by omega
    have c1 : (i : Int) < (a.length : Int) := Int.ofNat_lt.2 hi'
    obtain ⟨hl, hd, hv, hz⟩ := h
    refine Ev.step (f := fun k => exact_mulWords.l1 k b out (i : Int) (rd a (i : Int)) 0 a (a.length : Int) (i : Int) b (b.length : Int) ((0 : Nat) : Int)) (fun k => ?_) (mulWords_l1 a b ha hb la lb i hi' _ (fun out' h' => ih (i + 1) out' (by omega) h') b.length 0 out 0 (by omega) ⟨hl, hd, ⟨by decide, by decide⟩, ?_, hz⟩)
    · simp only [exact_mulWords.l0]
      rw [if_pos c1, if_pos (Int.natCast_nonneg _), if_pos c1]
      rfl
    · rw [hv]
      simp [vB]
theorem mulWords_ev {a b : List Int} (ha : Dig B64 a) (hb : Dig B64 b) (la : a.length ≤ 1099511627776) (lb : b.length ≤ 1099511627776) : Ev (fun k => exact_mulWords.f k a b) (d64 (vB B64 a * vB B64 b).toNat) := by
  have e1 : wrap64 ((a.length : Int) + (b.length : Int)) = ((a.length + b.length : Nat) : Int) := by rw [w64 (by omega) (by omega)]; omega
  refine Ev.congr (f := fun k => exact_mulWords.l0 k b (List.replicate (a.length + b.length) 0) a (a.length : Int) ((0 : Nat) : Int)) (fun k => ?_) (mulWords_l0 a b ha hb la lb a.length 0 _ (by omega) ⟨by simp, Dig_replicate (by decide) _, ?_, fun j _ => rd_replicate _ _⟩)
  · unfold exact_mulWords.f
    rw [e1, if_pos (Int.natCast_nonneg _), Int.toNat_natCast, if_pos (by omega)]
    rfl
  · rw [vB_replicate]
    simp [vB]
theorem mulWords_d64 {m n : Nat} (lm : (d64 m).length ≤ 1099511627776) (ln : (d64 n).length ≤ 1099511627776) : Ev (fun k => exact_mulWords.f k (d64 m) (d64 n)) (d64 (m * n)) := by
  have := mulWords_ev (d64_dig m) (d64_dig n) lm ln
  rw [d64_val, d64_val] at this
  rwa [show ((m : Int) * (n : Int)).toNat = m * n by rw [← Int.natCast_mul, Int.toNat_natCast]] at this
end Go.Proofs.YtohkmnbnjacfaaaN
set_option linter.unusedVariables false
namespace Go.Proofs.YtohkmnbnjacfaaaN
open Go.RowKit Go.Proofs.Ytohkmnbnjacfaaa.All Go.Proofs.YtohkmnbnjacfaaaW.PrintWords Go.Proofs.YtohkmnbnjacfaaaW.PrintLast Go.Proofs.YtohkmnbnjacfaaaW.PrintMore
theorem size_mono {m n : Nat} (h : m ≤ n) : (nat m).size ≤ (nat n).size := nat_size_le.2 (Nat.lt_of_le_of_lt h (nat_lt_size n))
theorem size_mul {m n : Nat} : (nat (m * n)).size ≤ (nat m).size + (nat n).size := by
  apply nat_size_le.2
  rw [Nat.pow_add]
  have h1 := nat_lt_size m
  have h2 := nat_lt_size n
  exact Nat.lt_of_le_of_lt (Nat.mul_le_mul_right _ (Nat.le_of_lt h1)) (Nat.mul_lt_mul_of_pos_left h2 (Nat.lt_of_le_of_lt (Nat.zero_le _) h1))
theorem words_len (n : Nat) : (d64 n).length ≤ ((nat n).size + 7) / 8 := by
  apply dgs_len
  have h1 := nat_lt_size n
  have h2 : 256 ^ (nat n).size ≤ 256 ^ (8 * (((nat n).size + 7) / 8)) := Nat.pow_le_pow_right (by decide) (by omega)
  rw [Nat.pow_mul] at h2
  exact Nat.lt_of_lt_of_le h1 h2
def AddOut (x y out : List Int) (i : Nat) (c : Int) : Prop :=
  out.length = x.length + 1 ∧ Dig B64 out ∧ (0 ≤ c ∧ c ≤ 1) ∧ vB B64 out + B64 ^ i * c = vB B64 (x.take i) + vB B64 (y.take i) ∧ ∀ n : Nat, i ≤ n → rd out (n : Int) = 0
theorem add_range {x y c : Int} (x0 : 0 ≤ x) (x1 : x < B64) (y0 : 0 ≤ y) (y1 : y < B64) (c0 : 0 ≤ c) (c1 : c ≤ 1) : 0 ≤ (x + y + c) / B64 ∧ (x + y + c) / B64 ≤ 1 := by
  have x1' : x < 18446744073709551616 := x1
  have y1' : y < 18446744073709551616 := y1
  show 0 ≤ (x + y + c) / 18446744073709551616 ∧ (x + y + c) / 18446744073709551616 ≤ 1
  omega
theorem add_out {x y out : List Int} {i : Nat} {c : Int} (hx : Dig B64 x) (hy : Dig B64 y) (hi : i < x.length) (h : AddOut x y out i c) :
    AddOut x y (out.set i ((rd x (i : Int) + rd y (i : Int) + c) % B64)) (i + 1) ((rd x (i : Int) + rd y (i : Int) + c) / B64) := by
  obtain ⟨hl, hd, hc, hv, hz⟩ := h
  obtain ⟨x0, x1⟩ := Dig_rd hx i hi
  obtain ⟨y0, y1⟩ := Dig_rd0 (by decide) hy i
  refine ⟨by rw [List.length_set]; exact hl, Dig_set hd _ (Int.emod_nonneg _ (by decide)) (Int.emod_lt_of_pos _ (by decide)), add_range x0 x1 y0 y1 hc.1 hc.2, ?_, fun n hn => ?_⟩
  · rw [vB_set _ _ _ _ (by clear hv; omega), hz _ (Nat.le_refl _), Int.sub_zero, take_succ, take_succ, Int.pow_succ]
    have e := Int.emod_add_mul_ediv (rd x (i : Int) + rd y (i : Int) + c) B64
    generalize (rd x (i : Int) + rd y (i : Int) + c) / B64 = q at *
    generalize (rd x (i : Int) + rd y (i : Int) + c) % B64 = r at *
    have er : r = rd x (i : Int) + rd y (i : Int) + c - B64 * q := by clear hv; omega
    rw [er, Int.mul_sub, Int.mul_add, Int.mul_add, Int.mul_assoc (B64 ^ i) B64 q]
    generalize (B64 : Int) ^ i = P at *
    omega
  · rw [rd_set_ne _ _ _ _ (by clear hv; omega)]
    exact hz n (by clear hv; omega)
theorem NatAdd_l0 (x y : List Int) (hx : Dig B64 x) (hy : Dig B64 y) (lx : x.length ≤ 1099511627775) (hyx : y.length ≤ x.length) (n : Nat) (hn : vB B64 x + vB B64 y = n) : ∀ (d i : Nat) (out : List Int) (c : Int), i + d = x.length → AddOut x y out i c →
    Ev (fun k => exact_NatAdd.l0 k x y out c (x.length : Int) (i : Int)) (nat n) := by
  intro d
  induction d with
  | zero =>
    intro i out c hi h
    have hi : i = x.length := by omega
    subst hi
    have hl := h.1
    have c1 : (x.length : Int) < (out.length : Int) := by omega
    have c2 : x.length < out.length := by omega
    have c3 : out.length ≤ 1099511627776 := by omega
    obtain ⟨-, hd, hc, hv, hz⟩ := h
    have hd' : Dig B64 (out.set x.length c) := Dig_set hd _ hc.1 (by have := hc.2; exact Int.lt_of_le_of_lt this (by decide))
    have hv' : vB B64 (out.set x.length c) = n := by
      rw [vB_set _ _ _ _ c2, hz _ (Nat.le_refl _), Int.sub_zero, hv, vB_all _ _ _ (Nat.le_refl _), vB_all _ _ _ hyx, hn]
    have := pack_ev hd' (by rw [List.length_set]; exact c3)
    rw [hv', Int.toNat_natCast] at this
    refine Ev.step (f := fun k => (exact_pack.f k (out.set x.length c)).bind fun t => some t) (fun k => ?_) (Ev.bind this (Ev.now _))
    simp only [exact_NatAdd.l0]
    rw [if_neg (Int.lt_irrefl _), if_pos (Int.natCast_nonneg _), if_pos c1, Int.toNat_natCast]
  | succ d ih =>
    intro i out c hi h
    have hi' : i < x.length := by omega
    have c0 : i + 1 + d = x.length := by omega
    have c1 : (i : Int) < (x.length : Int) := Int.ofNat_lt.2 hi'
    have hl := h.1
    have c2 : (i : Int) < (out.length : Int) := by omega
    have c3 : ¬ (i : Int) < (y.length : Int) → rd y (i : Int) = 0 := fun h => rd_far y i (by omega)
    have e1 : wrap64 ((i : Int) + 1) = ((i + 1 : Nat) : Int) := by clear c3; rw [w64 (by omega) (by omega)]; omega
    have hn' := add_out hx hy hi' h
    obtain ⟨-, hd, hc, -, -⟩ := h
    obtain ⟨x0, x1⟩ := Dig_rd hx i hi'
    obtain ⟨y0, y1⟩ := Dig_rd0 (by decide) hy i
    have ea := add64_eq x0 y0 hc.1 hc.2
    refine Ev.step (f := fun k => exact_NatAdd.l0 k x y (out.set i ((rd x (i : Int) + rd y (i : Int) + c) % B64)) ((rd x (i : Int) + rd y (i : Int) + c) / B64) (x.length : Int) ((i + 1 : Nat) : Int)) (fun k => ?_) (ih (i + 1) _ _ c0 hn')
    simp only [exact_NatAdd.l0, e1]
    rw [if_pos c1]
    by_cases hy' : (i : Int) < (y.length : Int)
    · rw [if_pos hy', if_pos (Int.natCast_nonneg _), if_pos c1, ea, Option.bind_some, if_pos c2, Int.toNat_natCast]
    · rw [c3 hy'] at ea
      rw [if_neg hy', if_pos (Int.natCast_nonneg _), if_pos c1, ea, Option.bind_some, if_pos c2, Int.toNat_natCast, c3 hy']
theorem NatAdd_j0 {m n : Nat} (hm : (d64 m).length ≤ 1099511627775) (h : (d64 n).length ≤ (d64 m).length) : Ev (fun k => exact_NatAdd.j0 k (d64 m) (d64 n)) (nat (m + n)) := by
  have e1 : wrap64 (((d64 m).length : Int) + 1) = (((d64 m).length + 1 : Nat) : Int) := by rw [w64 (by omega) (by omega)]; omega
  refine Ev.step (f := fun k => exact_NatAdd.l0 k (d64 m) (d64 n) (List.replicate ((d64 m).length + 1) 0) 0 ((d64 m).length : Int) ((0 : Nat) : Int)) (fun k => ?_) (NatAdd_l0 (d64 m) (d64 n) (d64_dig m) (d64_dig n) hm h (m + n) (by rw [d64_val, d64_val, Int.natCast_add]) (d64 m).length 0 _ _ (Nat.zero_add _) ⟨by simp, Dig_replicate (by decide) _, ⟨by decide, by decide⟩, ?_, fun j _ => rd_replicate _ _⟩)
  · simp only [exact_NatAdd.j0, e1]
    rw [if_pos (Int.natCast_nonneg _), Int.toNat_natCast, if_pos (by omega)]
    rfl
  · rw [vB_replicate]
    simp [vB]
theorem NatAdd_ev {m n : Nat} (hm : (nat m).size ≤ 1099511627776) (hn : (nat n).size ≤ 1099511627776) : Ev (fun k => exact_NatAdd.f k (nat m) (nat n)) (nat (m + n)) := by
  have lm := words_len m
  have ln := words_len n
  refine Ev.bind (f := fun k t318 => (exact_words.f k (nat n)).bind fun t321 => (if (t318.length : Int) < (t321.length : Int) then (exact_NatAdd.j0 k t321 t318) else (exact_NatAdd.j0 k t318 t321))) (words_nat hm) (Ev.bind (words_nat hn) ?_)
  by_cases h : ((d64 m).length : Int) < ((d64 n).length : Int)
  · refine Ev.congr (f := fun k => exact_NatAdd.j0 k (d64 n) (d64 m)) (fun k => if_pos h) ?_
    rw [Nat.add_comm m n]
    exact NatAdd_j0 (by omega) (by omega)
  · refine Ev.congr (f := fun k => exact_NatAdd.j0 k (d64 m) (d64 n)) (fun k => if_neg h) ?_
    exact NatAdd_j0 (by omega) (by omega)
def SubOut (x y z : List Int) (i : Nat) (c : Int) : Prop :=
  z.length = x.length ∧ Dig B64 z ∧ (0 ≤ c ∧ c ≤ 1) ∧ vB B64 z + vB B64 (y.take i) = vB B64 x + B64 ^ i * c
theorem sub_out {x y z : List Int} {i : Nat} {c d e : Int} (hi : i < x.length) (h : SubOut x y z i c) (d0 : 0 ≤ d) (d1 : d < B64) (e0 : 0 ≤ e) (e1 : e ≤ 1) (he : d = rd z (i : Int) - rd y (i : Int) - c + B64 * e) :
    SubOut x y (z.set i d) (i + 1) e := by
  obtain ⟨hl, hd, hc, hv⟩ := h
  refine ⟨by rw [List.length_set]; exact hl, Dig_set hd _ d0 d1, ⟨e0, e1⟩, ?_⟩
  rw [vB_set _ _ _ _ (by clear hv; omega), take_succ, Int.pow_succ, he]
  have : rd z (i : Int) - rd y (i : Int) - c + B64 * e - rd z (i : Int) = B64 * e - rd y (i : Int) - c := by clear hv; omega
  rw [this, Int.mul_sub, Int.mul_sub, Int.mul_assoc (B64 ^ i) B64 e]
  generalize (B64 : Int) ^ i = P at *
  omega
theorem NatSub_l0 (x y : List Int) (hx : Dig B64 x) (hy : Dig B64 y) (lx : x.length ≤ 1099511627775) (hyx : y.length ≤ x.length) (n : Nat) (hn : vB B64 x = vB B64 y + n) : ∀ (d i : Nat) (z : List Int) (c : Int), i + d = x.length → SubOut x y z i c →
    Ev (fun k => exact_NatSub.l0 k z y c (x.length : Int) (i : Int)) (nat n) := by
  intro d
  induction d with
  | zero =>
    intro i z c hi h
    have hi : i = x.length := by omega
    subst hi
    have hl := h.1
    have c3 : z.length ≤ 1099511627776 := by omega
    obtain ⟨-, hd, hc, hv⟩ := h
    have hv' : vB B64 z = n := by
      have h1 := vB_lt (by decide) hd
      rw [vB_all _ _ _ hyx, hn] at hv
      rw [hl] at h1
      have h2 : c = 0 ∨ c = 1 := by clear h1 hv; omega
      rcases h2 with rfl | rfl
      · rw [Int.mul_zero] at hv
        clear h1
        omega
      · rw [Int.mul_one] at hv
        generalize (B64 : Int) ^ x.length = P at *
        omega
    have := pack_ev hd c3
    rw [hv', Int.toNat_natCast] at this
    refine Ev.step (f := fun k => (exact_pack.f k z).bind fun t => some t) (fun k => ?_) (Ev.bind this (Ev.now _))
    simp only [exact_NatSub.l0]
    rw [if_neg (Int.lt_irrefl _)]
  | succ d ih =>
    intro i z c hi h
    have hi' : i < x.length := by omega
    have c0 : i + 1 + d = x.length := by omega
    have hl := h.1
    have c1 : (i : Int) < (x.length : Int) := Int.ofNat_lt.2 hi'
    have c2 : (i : Int) < (z.length : Int) := by omega
    have c3 : ¬ (i : Int) < (y.length : Int) → rd y (i : Int) = 0 := fun h => rd_far y i (by omega)
    have e1 : wrap64 ((i : Int) + 1) = ((i + 1 : Nat) : Int) := by clear c3; rw [w64 (by omega) (by omega)]; omega
    have h' := h
    obtain ⟨-, hd, hc, -⟩ := h
    obtain ⟨x0, x1⟩ := Dig_rd hd i (by rw [hl]; exact hi')
    obtain ⟨y0, y1⟩ := Dig_rd0 (by decide) hy i
    obtain ⟨d, e, ea, d0, d1, b0, b1, he⟩ := sub64_eq x0 x1 y0 y1 hc.1 hc.2
    refine Ev.step (f := fun k => exact_NatSub.l0 k (z.set i d) y e (x.length : Int) ((i + 1 : Nat) : Int)) (fun k => ?_) (ih (i + 1) _ _ c0 (sub_out hi' h' d0 d1 b0 b1 he))
    simp only [exact_NatSub.l0, e1]
    rw [if_pos c1]
    by_cases hy' : (i : Int) < (y.length : Int)
    · rw [if_pos hy', if_pos (Int.natCast_nonneg _), if_pos c2, ea, Option.bind_some, Int.toNat_natCast]
    · rw [c3 hy'] at ea
      rw [if_neg hy', if_pos (Int.natCast_nonneg _), if_pos c2, ea, Option.bind_some, Int.toNat_natCast]
theorem d64_len_mono {m n : Nat} (h : m ≤ n) : (d64 m).length ≤ (d64 n).length := dgs_len (Nat.lt_of_le_of_lt h (dgs_lt 18446744073709551614 n))
theorem NatSub_ev {m n : Nat} (hm : (nat m).size ≤ 1099511627776) (h : n ≤ m) : Ev (fun k => exact_NatSub.f k (nat m) (nat n)) (nat (m - n)) := by
  have lm := words_len m
  have hn : (nat n).size ≤ 1099511627776 := Nat.le_trans (size_mono h) hm
  refine Ev.bind (f := fun k t367 => (exact_words.f k (nat n)).bind fun t370 => exact_NatSub.l0 k t367 t370 0 (t367.length : Int) 0) (words_nat hm) (Ev.bind (words_nat hn) ?_)
  exact NatSub_l0 (d64 m) (d64 n) (d64_dig m) (d64_dig n) (by omega) (d64_len_mono h) (m - n) (by rw [d64_val, d64_val]; omega) (d64 m).length 0 _ _ (Nat.zero_add _) ⟨rfl, d64_dig m, ⟨by decide, by decide⟩, by simp [vB]⟩
theorem NatMul_ev {m n : Nat} (hm : (nat m).size ≤ 1099511627776) (hn : (nat n).size ≤ 1099511627776) : Ev (fun k => exact_NatMul.f k (nat m) (nat n)) (nat (m * n)) := by
  have lm := words_len m
  have ln := words_len n
  have hl : (d64 (m * n)).length ≤ 1099511627776 := by
    have h1 := words_len (m * n)
    have h2 := size_mul (m := m) (n := n)
    omega
  refine Ev.bind (f := fun k t422 => (exact_words.f k (nat n)).bind fun t425 => ((exact_mulWords.f k t422 t425).bind fun t428 => ((exact_pack.f k t428).bind fun t431 => (some t431)))) (words_nat hm) (Ev.bind (f := fun k t425 => ((exact_mulWords.f k (d64 m) t425).bind fun t428 => ((exact_pack.f k t428).bind fun t431 => (some t431)))) (words_nat hn) (Ev.bind (f := fun k t428 => ((exact_pack.f k t428).bind fun t431 => (some t431))) (mulWords_d64 (by omega) (by omega)) ?_))
  have := pack_ev (d64_dig (m * n)) hl
  rw [d64_val, Int.toNat_natCast] at this
  exact Ev.bind this (Ev.now _)
def cmpN (m n : Nat) : Int := if m < n then -1 else if m = n then 0 else 1
def bv (l : List UInt8) : Int := vB 256 (l.map fun b => (b.toNat : Int)).reverse
theorem bv_cons (a : UInt8) (l : List UInt8) : bv (a :: l) = bv l + 256 ^ l.length * (a.toNat : Int) := by
  unfold bv
  rw [List.map_cons, List.reverse_cons, vB_append]
  simp [vB]
theorem bv_range (l : List UInt8) : 0 ≤ bv l ∧ bv l < 256 ^ l.length := by
  have hd : Dig 256 (l.map fun b => (b.toNat : Int)).reverse := by
    apply Dig_reverse
    intro x hx
    obtain ⟨b, _, rfl⟩ := List.mem_map.1 hx
    have := b.toNat_lt
    omega
  refine ⟨vB_nonneg (by decide) hd, ?_⟩
  have := vB_lt (by decide) hd
  rw [List.length_reverse, List.length_map] at this
  exact this
theorem less_val : ∀ (x y : List UInt8), x.length = y.length → (Op.bytesLess x y = true ↔ bv x < bv y)
  | [], [], _ => by simp [Op.bytesLess]
  | [], _ :: _, h => by simp at h
  | _ :: _, [], h => by simp at h
  | a :: x, b :: y, h => by
    have h' : x.length = y.length := by simpa using h
    have ih := less_val x y h'
    obtain ⟨a0, a1⟩ := bv_range x
    obtain ⟨b0, b1⟩ := bv_range y
    rw [bv_cons, bv_cons, h'] at *
    have hP : (0 : Int) < 256 ^ y.length := Int.pow_pos (by decide)
    generalize (256 : Int) ^ y.length = P at *
    simp only [Op.bytesLess, Bool.or_eq_true, Bool.and_eq_true, decide_eq_true_eq, beq_iff_eq, ih]
    have hlt : a < b ↔ a.toNat < b.toNat := UInt8.lt_iff_toNat_lt
    have heq : a = b ↔ a.toNat = b.toNat := UInt8.toNat_inj.symm
    rw [hlt, heq]
    rcases Nat.lt_trichotomy a.toNat b.toNat with hc | hc | hc
    · have : P * ((a.toNat : Int) + 1) ≤ P * (b.toNat : Int) := Int.mul_le_mul_of_nonneg_left (by omega) (by omega)
      rw [Int.mul_add, Int.mul_one] at this
      constructor
      · intro _; omega
      · intro _; exact Or.inl hc
    · rw [hc]
      constructor
      · rintro (h | ⟨_, h⟩)
        · omega
        · omega
      · intro h; exact Or.inr ⟨rfl, by omega⟩
    · have : P * ((b.toNat : Int) + 1) ≤ P * (a.toNat : Int) := Int.mul_le_mul_of_nonneg_left (by omega) (by omega)
      rw [Int.mul_add, Int.mul_one] at this
      constructor
      · rintro (h | ⟨h, _⟩) <;> omega
      · intro h; omega
theorem bv_bval (s : ByteArray) : bv s.toList = bval s := by
  unfold bv bval bytesOf
  rw [ByteArray.toList_eq]
theorem toList_len (s : ByteArray) : s.toList.length = s.size := by
  rw [ByteArray.toList_eq, data_length]
theorem less_nat {m n : Nat} (h : (nat m).size = (nat n).size) : Op.bytesLess (nat m).toList (nat n).toList = decide (m < n) := by
  have := less_val (nat m).toList (nat n).toList (by rw [toList_len, toList_len, h])
  rw [bv_bval, bv_bval, bval_nat, bval_nat, Int.ofNat_lt] at this
  rw [Bool.eq_iff_iff, this, decide_eq_true_iff]
theorem size_lt {m n : Nat} (h : (nat m).size < (nat n).size) : m < n := by
  rcases Nat.lt_or_ge m n with h1 | h1
  · exact h1
  · have := size_mono h1
    omega
theorem NatCmp_ev (m n : Nat) : Ev (fun k => exact_NatCmp.f k (nat m) (nat n)) (cmpN m n) := by
  have hj : ∀ b : Bool, b = decide (m < n) → Ev (fun k => exact_NatCmp.j0 k (nat m) (nat n) b) (cmpN m n) := by
    rintro b rfl
    refine Ev.step (f := fun _ => some (cmpN m n)) (fun k => ?_) (Ev.now _)
    simp only [exact_NatCmp.j0, toList_ext, nat_inj, decide_eq_true_eq, cmpN]
    split
    · rfl
    · split <;> rfl
  by_cases h1 : (nat m).size < (nat n).size
  · refine Ev.congr (f := fun k => exact_NatCmp.j0 k (nat m) (nat n) true) (fun k => ?_) (hj _ (by simp [size_lt h1]))
    unfold exact_NatCmp.f
    rw [if_pos (by omega)]
  · by_cases h2 : (nat m).size = (nat n).size
    · refine Ev.congr (f := fun k => exact_NatCmp.j0 k (nat m) (nat n) (Op.bytesLess (nat m).toList (nat n).toList)) (fun k => ?_) (hj _ (less_nat h2))
      unfold exact_NatCmp.f
      rw [if_neg (by omega), if_pos (by omega)]
    · refine Ev.congr (f := fun k => exact_NatCmp.j0 k (nat m) (nat n) false) (fun k => ?_) (hj _ (by
        have : n < m := size_lt (by omega)
        simp; omega))
      unfold exact_NatCmp.f
      rw [if_neg (by omega), if_neg (by omega)]
def chk (s : ByteArray) : Int := if 0 < s.size ∧ bt s 0 = 0 then 1 else if 1024 < s.size then 4 else 0
theorem Check_ev (s : ByteArray) : Ev (fun k => natural_Check.f k s) (chk s) := by
  have hj : ∀ b : Bool, (b = true ↔ 0 < s.size ∧ bt s 0 = 0) → Ev (fun k => natural_Check.j0 k s b) (chk s) := by
    intro b hb
    refine Ev.step (f := fun _ => some (chk s)) (fun k => ?_) (Ev.now _)
    unfold chk
    simp only [natural_Check.j0]
    by_cases h : b = true
    · rw [if_pos h, if_pos (hb.1 h)]
    · rw [if_neg h, if_neg (fun h' => h (hb.2 h'))]
      by_cases h3 : 1024 < s.size
      · rw [if_pos (by omega), if_pos h3]
      · rw [if_neg (by omega), if_neg h3]
  by_cases h : 0 < s.size
  · refine Ev.congr (f := fun k => natural_Check.j0 k s (bt s 0 == 0)) (fun k => ?_) (hj _ (by simp [h]))
    unfold natural_Check.f
    rw [if_pos (by omega), if_pos (by omega)]
  · refine Ev.congr (f := fun k => natural_Check.j0 k s false) (fun k => ?_) (hj _ (by simp [h]))
    unfold natural_Check.f
    rw [if_neg (by omega)]
theorem chk_nat {n : Nat} (h : (nat n).size ≤ 1024) : chk (nat n) = 0 := by
  unfold chk
  rw [if_neg, if_neg (by omega)]
  rintro ⟨h1, h2⟩
  rcases nat_wf n with h3 | h3
  · omega
  · exact h3 h2
theorem chk_zero {s : ByteArray} (h : chk s = 0) : s = nat (bval s).toNat ∧ s.size ≤ 1024 := by
  unfold chk at h
  by_cases h1 : 0 < s.size ∧ bt s 0 = 0
  · rw [if_pos h1] at h; omega
  · rw [if_neg h1] at h
    refine ⟨wf_nat ?_, ?_⟩
    · rcases Nat.eq_zero_or_pos s.size with h2 | h2
      · exact Or.inl h2
      · exact Or.inr (fun h3 => h1 ⟨h2, h3⟩)
    · rcases Nat.lt_or_ge 1024 s.size with h2 | h2
      · rw [if_pos h2] at h; omega
      · exact h2
def firstErr : List ByteArray → Int
  | [] => 0
  | s :: l => if chk s = 0 then firstErr l else chk s
theorem first_l0 (l : List ByteArray) (hl : l.length < 9223372036854775808) : ∀ (d i : Nat), i + d = l.length → Ev (fun k => natural_first.l0 k l (l.length : Int) (i : Int)) (firstErr (l.drop i)) := by
  intro d
  induction d with
  | zero =>
    intro i hi
    rw [List.drop_of_length_le (by omega)]
    refine Ev.step (f := fun _ => some 0) (fun k => ?_) (Ev.now _)
    simp only [natural_first.l0]
    rw [if_neg (by omega)]
  | succ d ih =>
    intro i hi
    have hi' : i < l.length := by omega
    have e1 : wrap64 ((i : Int) + 1) = ((i + 1 : Nat) : Int) := by rw [w64 (by omega) (by omega)]; omega
    have e2 : rdOf ByteArray.empty l (i : Int) = l[i] := by
      unfold rdOf
      rw [Int.toNat_natCast, List.getD_eq_getElem?_getD, List.getElem?_eq_getElem hi']
      rfl
    rw [List.drop_eq_getElem_cons hi', firstErr]
    refine Ev.step (f := fun k => (natural_Check.f k l[i]).bind fun t => if t = 0 then natural_first.l0 k l (l.length : Int) ((i + 1 : Nat) : Int) else some t) (fun k => ?_) (Ev.bind (Check_ev _) ?_)
    · simp only [natural_first.l0, e1, e2]
      rw [if_pos (by omega), if_pos (by omega), if_pos (by omega)]
    · by_cases h : chk l[i] = 0
      · rw [if_pos h]
        exact Ev.congr (fun k => if_pos h) (ih (i + 1) (by omega))
      · rw [if_neg h]
        exact Ev.congr (f := fun _ => some (chk l[i])) (fun k => if_neg h) (Ev.now _)
theorem first_ev (l : List ByteArray) (hl : l.length < 9223372036854775808) : Ev (fun k => natural_first.f k l) (firstErr l) := first_l0 l hl l.length 0 (by omega)
theorem first2 (a b : ByteArray) : Ev (fun k => natural_first.f k [a, b]) (firstErr [a, b]) := first_ev _ (by simp)
theorem firstErr_ok {m n : Nat} (hm : (nat m).size ≤ 1024) (hn : (nat n).size ≤ 1024) : firstErr [nat m, nat n] = 0 := by simp [firstErr, chk_nat hm, chk_nat hn]
def bnd (n : Nat) : ByteArray × Int := if 1024 < (nat n).size then (⟨#[]⟩, 4) else (nat n, 0)
theorem bounded_eq (n : Nat) : natural_bounded.f (nat n) = some (bnd n) := by
  unfold natural_bounded.f bnd
  by_cases h : 1024 < (nat n).size
  · rw [if_pos (by omega), if_pos h]
  · rw [if_neg (by omega), if_neg h]
theorem bnd_ok {n : Nat} (h : (nat n).size ≤ 1024) : bnd n = (nat n, 0) := by
  unfold bnd
  rw [if_neg (by omega)]
theorem Add_ev {m n : Nat} (hm : (nat m).size ≤ 1024) (hn : (nat n).size ≤ 1024) : Ev (fun k => natural_Add.f k (nat m) (nat n)) (bnd (m + n)) := by
  have h := first2 (nat m) (nat n)
  rw [firstErr_ok hm hn] at h
  refine Ev.bind (f := fun k t442 => (if t442 = 0 then ((exact_NatAdd.f k (nat m) (nat n)).bind fun t443 => ((natural_bounded.f t443).bind fun bt444 => (some (bt444.1, bt444.2)))) else (some ((⟨#[]⟩ : ByteArray), t442)))) h ?_
  refine Ev.congr (fun k => if_pos rfl) (Ev.bind (f := fun k t443 => ((natural_bounded.f t443).bind fun bt444 => (some (bt444.1, bt444.2)))) (NatAdd_ev (by omega) (by omega)) ?_)
  rw [bounded_eq]
  exact Ev.now _
theorem Mul_ev {m n : Nat} (hm : (nat m).size ≤ 1024) (hn : (nat n).size ≤ 1024) : Ev (fun k => natural_Mul.f k (nat m) (nat n)) (bnd (m * n)) := by
  have h := first2 (nat m) (nat n)
  rw [firstErr_ok hm hn] at h
  refine Ev.bind (f := fun k t442 => (if t442 = 0 then ((exact_NatMul.f k (nat m) (nat n)).bind fun t443 => ((natural_bounded.f t443).bind fun bt444 => (some (bt444.1, bt444.2)))) else (some ((⟨#[]⟩ : ByteArray), t442)))) h ?_
  refine Ev.congr (fun k => if_pos rfl) (Ev.bind (f := fun k t443 => ((natural_bounded.f t443).bind fun bt444 => (some (bt444.1, bt444.2)))) (NatMul_ev (by omega) (by omega)) ?_)
  rw [bounded_eq]
  exact Ev.now _
theorem Compare_ev {m n : Nat} (hm : (nat m).size ≤ 1024) (hn : (nat n).size ≤ 1024) : Ev (fun k => natural_Compare.f k (nat m) (nat n)) (cmpN m n, 0) := by
  have h := first2 (nat m) (nat n)
  rw [firstErr_ok hm hn] at h
  refine Ev.bind (f := fun k t449 => (if t449 = 0 then ((exact_NatCmp.f k (nat m) (nat n)).bind fun t450 => (some (t450, 0))) else (some (0, t449)))) h ?_
  exact Ev.congr (fun k => if_pos rfl) (Ev.bind (f := fun _ t450 => some (t450, 0)) (NatCmp_ev m n) (Ev.now _))
def subR (m n : Nat) : ByteArray × Int := if m < n then (⟨#[]⟩, 3) else (nat (m - n), 0)
theorem Sub_ev {m n : Nat} (hm : (nat m).size ≤ 1024) (hn : (nat n).size ≤ 1024) : Ev (fun k => natural_Sub.f k (nat m) (nat n)) (subR m n) := by
  have h := first2 (nat m) (nat n)
  rw [firstErr_ok hm hn] at h
  refine Ev.bind (f := fun k t386 => (if t386 = 0 then ((exact_NatCmp.f k (nat m) (nat n)).bind fun t387 => (if t387 < 0 then (some ((⟨#[]⟩ : ByteArray), 3)) else ((exact_NatSub.f k (nat m) (nat n)).bind fun t388 => (some (t388, 0))))) else (some ((⟨#[]⟩ : ByteArray), t386)))) h ?_
  refine Ev.congr (fun k => if_pos rfl) (Ev.bind (f := fun k t387 => (if t387 < 0 then (some ((⟨#[]⟩ : ByteArray), 3)) else ((exact_NatSub.f k (nat m) (nat n)).bind fun t388 => (some (t388, 0))))) (NatCmp_ev m n) ?_)
  unfold subR
  by_cases hlt : m < n
  · rw [if_pos hlt]
    exact Ev.congr (fun k => if_pos (by simp [cmpN, hlt])) (Ev.now _)
  · rw [if_neg hlt]
    refine Ev.congr (fun k => if_neg ?_) (Ev.bind (f := fun _ t388 => some (t388, 0)) (NatSub_ev (by omega) (by omega)) (Ev.now _))
    unfold cmpN
    rw [if_neg hlt]
    split <;> decide
end Go.Proofs.YtohkmnbnjacfaaaN
set_option linter.unusedVariables false
namespace Go.Proofs.YtohkmnbnjacfaaaN
open Go.RowKit Go.Proofs.Ytohkmnbnjacfaaa.All Go.Proofs.YtohkmnbnjacfaaaW.PrintWords Go.Proofs.YtohkmnbnjacfaaaW.PrintLast Go.Proofs.YtohkmnbnjacfaaaW.PrintMore
theorem ev_some {α β : Type} {o : Option α} {f : Nat → α → Option β} {a : α} {r : β} (h : o = some a) (k : Ev (fun n => f n a) r) : Ev (fun n => o.bind (f n)) r := by subst h; exact k
theorem awake_ev : Ev (fun k => galoislaw01_awake.f k) true := Ev.of (fun k => galoislaw01_awake.mono k) (k := 60) (by decide +kernel)
theorem long_eq (a b : ByteArray) (n : Int) : galoislaw01_long.f a b n = some (decide ((a.size : Int) > n) || decide ((b.size : Int) > n)) := by
  unfold galoislaw01_long.f
  by_cases h : (a.size : Int) > n
  · rw [if_pos h, decide_eq_true h]
    rfl
  · rw [if_neg h, decide_eq_false h]
    rfl
theorem refCheck_eq (s : ByteArray) : galoisref01_Check.f s = some (chk s) := by
  have hv : galoisref01_Valid.f s = some (decide (s.size = 0 ∨ bt s 0 ≠ 0)) := by
    unfold galoisref01_Valid.f
    by_cases h : s.size = 0
    · rw [if_pos (toList_nil.2 h)]
      simp [h]
    · rw [if_neg (fun h' => h (toList_nil.1 h')), if_pos (by omega)]
      by_cases h2 : bt s 0 = 0 <;> simp [h, h2]
  unfold galoisref01_Check.f
  rw [hv, Option.bind_some]
  unfold chk galoisref01_Fits.f
  by_cases h : s.size = 0 ∨ bt s 0 ≠ 0
  · have hn : ¬ (0 < s.size ∧ bt s 0 = 0) := by
      intro h1
      rcases h with h | h
      · exact Nat.ne_of_gt h1.1 h
      · exact h h1.2
    rw [if_pos (decide_eq_true h), if_neg hn]
    by_cases h3 : 1024 < s.size
    · rw [if_pos (show (s.size : Int) > 1024 by omega), if_pos h3]
      rfl
    · rw [if_neg (show ¬ (s.size : Int) > 1024 by omega), if_neg h3]
      rfl
  · have hn : 0 < s.size ∧ bt s 0 = 0 := by
      refine ⟨Nat.pos_of_ne_zero fun h1 => h (Or.inl h1), ?_⟩
      rcases Decidable.em (bt s 0 = 0) with h2 | h2
      · exact h2
      · exact absurd (Or.inr h2) h
    rw [if_neg (by rw [decide_eq_true_eq]; exact h), if_pos hn]
theorem expected_eq (a b : ByteArray) : galoislaw01_expected.f a b = some (if chk a = 0 then chk b else chk a) := by
  unfold galoislaw01_expected.f
  rw [refCheck_eq, refCheck_eq, Option.bind_some]
  by_cases h : chk a = 0
  · rw [if_pos h, if_pos h]
    rfl
  · rw [if_neg h, if_neg h]
    rfl
theorem number {s : ByteArray} (h : chk s = 0) : ∃ n, s = nat n ∧ (nat n).size ≤ 1024 := by
  obtain ⟨h1, h2⟩ := chk_zero h
  exact ⟨_, h1, by rw [← h1]; exact h2⟩
end Go.Proofs.YtohkmnbnjacfaaaN
set_option linter.unusedVariables false
namespace Go.Proofs.YtohkmnbnjacfaaaN
open Go.RowKit Go.Proofs.Ytohkmnbnjacfaaa.All Go.Proofs.YtohkmnbnjacfaaaW.PrintWords Go.Proofs.YtohkmnbnjacfaaaW.PrintLast Go.Proofs.YtohkmnbnjacfaaaW.PrintMore
theorem shr_eq (x : Int) (s : Nat) (hs : s ≤ 64) : shr .u64 x (s : Int) = x / 2 ^ s := by
  unfold shr
  rw [Int.toNat_natCast, show min s IntKind.u64.bits = s from Nat.min_eq_left hs]
end Go.Proofs.YtohkmnbnjacfaaaN
set_option linter.unusedVariables false
namespace Go.Proofs.YtohkmnbnjacfaaaN
open Go.RowKit Go.Proofs.Ytohkmnbnjacfaaa.All Go.Proofs.YtohkmnbnjacfaaaW.PrintWords Go.Proofs.YtohkmnbnjacfaaaW.PrintLast Go.Proofs.YtohkmnbnjacfaaaW.PrintMore
end Go.Proofs.YtohkmnbnjacfaaaN
set_option linter.unusedVariables false
namespace Go.Proofs.YtohkmnbnjacfaaaN
open Go.RowKit Go.Proofs.Ytohkmnbnjacfaaa.All Go.Proofs.YtohkmnbnjacfaaaW.PrintWords Go.Proofs.YtohkmnbnjacfaaaW.PrintLast Go.Proofs.YtohkmnbnjacfaaaW.PrintMore
def SubMul (u v z : List Int) (q : Int) (i : Nat) (b c : Int) : Prop :=
  z.length = u.length ∧ Dig B64 z ∧ (0 ≤ b ∧ b ≤ 1) ∧ (0 ≤ c ∧ c < B64) ∧ vB B64 z + q * vB B64 (v.take i) = vB B64 u + B64 ^ i * (b + c)
theorem sub_mul {u v z : List Int} {q b c d e : Int} {i : Nat} (hz : i < z.length) (q0 : 0 ≤ q) (q1 : q < B64) (hv : Dig B64 v) (hi : i < v.length) (h : SubMul u v z q i b c) (d0 : 0 ≤ d) (d1 : d < B64) (e0 : 0 ≤ e) (e1 : e ≤ 1)
    (he : d = rd z (i : Int) - (q * rd v (i : Int) + 0 + c) % B64 - b + B64 * e) : SubMul u v (z.set i d) q (i + 1) e ((q * rd v (i : Int) + 0 + c) / B64) := by
  obtain ⟨hl, hd, hb, hc, hs⟩ := h
  obtain ⟨y0, y1⟩ := Dig_rd hv i hi
  obtain ⟨-, -, n0, n1⟩ := mul_add q0 q1 y0 y1 (Int.le_refl 0) (by decide) hc.1 hc.2
  refine ⟨by rw [List.length_set]; exact hl, Dig_set hd _ d0 d1, ⟨e0, e1⟩, ⟨n0, n1⟩, ?_⟩
  rw [vB_set _ _ _ _ hz, take_succ, Int.pow_succ, he]
  have g := Int.emod_add_mul_ediv (q * rd v (i : Int) + 0 + c) B64
  generalize (q * rd v (i : Int) + 0 + c) / B64 = C at *
  generalize (q * rd v (i : Int) + 0 + c) % B64 = l at *
  have er : l = q * rd v (i : Int) + c - B64 * C := by clear hs; omega
  have e2 : rd z (i : Int) - l - b + B64 * e - rd z (i : Int) = B64 * e + B64 * C - q * rd v (i : Int) - c - b := by clear hs; omega
  rw [e2]
  generalize rd v (i : Int) = y at *
  generalize vB B64 (List.take i v) = T at *
  generalize (B64 : Int) ^ i = P at *
  rw [Int.mul_add q, Int.mul_left_comm q P y, Int.mul_sub, Int.mul_sub, Int.mul_sub, Int.mul_add, Int.mul_assoc P B64, Int.mul_add B64, Int.mul_add P]
  rw [Int.mul_add] at hs
  generalize q * y = qy at *
  generalize P * qy = A at *
  generalize P * (B64 * e) = A1 at *
  generalize P * (B64 * C) = A2 at *
  generalize P * c = A3 at *
  generalize P * b = A4 at *
  omega
end Go.Proofs.YtohkmnbnjacfaaaN
set_option linter.unusedVariables false
namespace Go.Proofs.YtohkmnbnjacfaaaN
open Go.RowKit Go.Proofs.Ytohkmnbnjacfaaa.All Go.Proofs.YtohkmnbnjacfaaaW.PrintWords Go.Proofs.YtohkmnbnjacfaaaW.PrintLast Go.Proofs.YtohkmnbnjacfaaaW.PrintMore
end Go.Proofs.YtohkmnbnjacfaaaN
set_option linter.unusedVariables false
namespace Go.Proofs.YtohkmnbnjacfaaaN
open Go.RowKit Go.Proofs.Ytohkmnbnjacfaaa.All Go.Proofs.YtohkmnbnjacfaaaW.PrintWords Go.Proofs.YtohkmnbnjacfaaaW.PrintLast Go.Proofs.YtohkmnbnjacfaaaW.PrintMore
theorem drop_succ (B : Int) (l : List Int) (i : Nat) (h : i < l.length) : vB B (l.drop i) = rd l (i : Int) + B * vB B (l.drop (i + 1)) := by
  rw [List.drop_eq_getElem_cons h, vB_cons, rd_get l i h]
end Go.Proofs.YtohkmnbnjacfaaaN
set_option linter.unusedVariables false
namespace Go.Proofs.YtohkmnbnjacfaaaN
open Go.RowKit Go.Proofs.Ytohkmnbnjacfaaa.All Go.Proofs.YtohkmnbnjacfaaaW.PrintWords Go.Proofs.YtohkmnbnjacfaaaW.PrintLast Go.Proofs.YtohkmnbnjacfaaaW.PrintMore
end Go.Proofs.YtohkmnbnjacfaaaN
set_option linter.unusedVariables false
namespace Go.Proofs.YtohkmnbnjacfaaaN
open Go.RowKit Go.Proofs.Ytohkmnbnjacfaaa.All Go.Proofs.YtohkmnbnjacfaaaW.PrintWords Go.Proofs.YtohkmnbnjacfaaaW.PrintLast Go.Proofs.YtohkmnbnjacfaaaW.PrintMore
theorem guard2 {a b : ByteArray} (h : (if chk a = 0 then chk b else chk a) = 0) : ∃ m n, a = nat m ∧ b = nat n ∧ (nat m).size ≤ 1024 ∧ (nat n).size ≤ 1024 := by
  have ha : chk a = 0 := by
    by_cases h1 : chk a = 0
    · exact h1
    · rw [if_neg h1] at h; exact h
  rw [if_pos ha] at h
  obtain ⟨m, h1, h2⟩ := number ha
  obtain ⟨n, h3, h4⟩ := number h
  exact ⟨m, n, h1, h3, h2, h4⟩
end Go.Proofs.YtohkmnbnjacfaaaN
set_option linter.unusedVariables false
namespace Go.Proofs.YtohkmnbnjacfaaaN
open Go.RowKit Go.Proofs.Ytohkmnbnjacfaaa.All Go.Proofs.YtohkmnbnjacfaaaW.PrintWords Go.Proofs.YtohkmnbnjacfaaaW.PrintLast Go.Proofs.YtohkmnbnjacfaaaW.PrintMore
end Go.Proofs.YtohkmnbnjacfaaaN
set_option linter.unusedVariables false
namespace Go.Proofs.YtohkmnbnjacfaaaN
open Go.RowKit Go.Proofs.Ytohkmnbnjacfaaa.All Go.Proofs.YtohkmnbnjacfaaaW.PrintWords Go.Proofs.YtohkmnbnjacfaaaW.PrintLast Go.Proofs.YtohkmnbnjacfaaaW.PrintMore
end Go.Proofs.YtohkmnbnjacfaaaN
set_option linter.unusedVariables false
namespace Go.Proofs.YtohkmnbnjacfaaaN
open Go.RowKit Go.Proofs.Ytohkmnbnjacfaaa.All Go.Proofs.YtohkmnbnjacfaaaW.PrintWords Go.Proofs.YtohkmnbnjacfaaaW.PrintLast Go.Proofs.YtohkmnbnjacfaaaW.PrintMore
abbrev B32 : Int := 4294967296
def d32 (n : Nat) : List Int := dgs 4294967294 n
theorem d32_dig (n : Nat) : Dig B32 (d32 n) := (dgs_spec 4294967294 n).1
theorem d32_val (n : Nat) : vB B32 (d32 n) = n := (dgs_spec 4294967294 n).2.2
theorem d32_unique {l : List Int} {n : Nat} (hl : Dig B32 l) (ht : Trim l) (hv : vB B32 l = n) : l = d32 n := dgs_unique hl ht hv
theorem d32_zero : d32 0 = [] := dgs_zero _
theorem d32_len_mono {m n : Nat} (h : m ≤ n) : (d32 m).length ≤ (d32 n).length := dgs_len (Nat.lt_of_le_of_lt h (dgs_lt 4294967294 n))
theorem limbs_len (n : Nat) : (d32 n).length ≤ ((nat n).size + 3) / 4 := by
  apply dgs_len
  have h1 := nat_lt_size n
  have h2 : 256 ^ (nat n).size ≤ 256 ^ (4 * (((nat n).size + 3) / 4)) := Nat.pow_le_pow_right (by decide) (by omega)
  rw [Nat.pow_mul] at h2
  exact Nat.lt_of_lt_of_le h1 h2
theorem rtrim_ev : ∀ (n : Nat) (l : List Int), l.length = n → n < 9223372036854775808 → Dig B32 l → Ev (fun k => galoisref01_trim.f k l) (d32 (vB B32 l).toNat) := by
  intro n
  induction n with
  | zero =>
    intro l hl _ hd
    rw [List.eq_nil_of_length_eq_zero hl]
    refine Ev.step (f := fun _ => some []) (fun k => ?_) (by
      show Ev (fun _ => some []) (d32 0)
      rw [d32_zero]
      exact Ev.now _)
    simp [galoisref01_trim.f, galoisref01_trim.l0]
  | succ n ih =>
    intro l hl hn hd
    have hv := vB_nonneg (by decide) hd
    have e1 : wrap64 ((l.length : Int) - 1) = (n : Int) := by rw [w64 (by omega) (by omega)]; omega
    have hvs := take_succ B32 l n
    rw [vB_all _ _ _ (by omega)] at hvs
    by_cases hz : rd l (n : Int) = 0
    · rw [hz, Int.mul_zero, Int.add_zero] at hvs
      rw [hvs]
      refine Ev.step (f := fun k => galoisref01_trim.f k (l.take n)) (fun k => ?_) (ih _ (by rw [List.length_take]; omega) (by omega) (Dig_take hd _))
      simp only [galoisref01_trim.f, galoisref01_trim.l0, e1]
      rw [if_pos (by omega), if_pos (by omega), if_pos (by omega), if_pos hz, if_pos (by omega), Int.toNat_natCast]
    · have : l = d32 (vB B32 l).toNat := d32_unique hd (fun _ => by rw [hl, Nat.add_sub_cancel]; exact hz) (by omega)
      rw [← this]
      refine Ev.step (f := fun _ => some l) (fun k => ?_) (Ev.now _)
      simp only [galoisref01_trim.f, galoisref01_trim.l0, e1]
      rw [if_pos (by omega), if_pos (by omega), if_pos (by omega), if_neg hz]
def win (s : ByteArray) (a b : Nat) : Int := vB 256 (((bytesOf s).take b).drop a).reverse
theorem win_self (s : ByteArray) (a : Nat) : win s a a = 0 := by
  unfold win
  rw [List.drop_of_length_le (by rw [List.length_take]; omega)]
  rfl
theorem win_succ (s : ByteArray) (a b : Nat) (hab : a ≤ b) (hb : b < s.size) : win s a (b + 1) = win s a b * 256 + bt s (b : Int) := by
  unfold win
  rw [List.take_succ_eq_append_getElem (by rw [bytesOf_length]; exact hb), List.drop_append_of_le_length (by rw [List.length_take, bytesOf_length]; omega), List.reverse_append, List.reverse_singleton, List.singleton_append, vB_cons, bt_rd, rd_get _ b (by rw [bytesOf_length]; exact hb)]
  omega
theorem win_range (s : ByteArray) (a b : Nat) (hab : a ≤ b) (hb : b ≤ s.size) : 0 ≤ win s a b ∧ win s a b < 256 ^ (b - a) := by
  have hd : Dig 256 (((bytesOf s).take b).drop a).reverse := Dig_reverse (Dig_drop (Dig_take (bytesOf_dig s) _) _)
  refine ⟨vB_nonneg (by decide) hd, ?_⟩
  have := vB_lt (by decide) hd
  rw [List.length_reverse, List.length_drop, List.length_take, bytesOf_length, Nat.min_eq_left hb] at this
  exact this
theorem win_join (s : ByteArray) (a b c : Nat) (hab : a ≤ b) (hbc : b ≤ c) (hc : c ≤ s.size) : win s a c = win s b c + 256 ^ (c - b) * win s a b := by
  obtain ⟨d, rfl⟩ : ∃ d, c = b + d := ⟨c - b, by omega⟩
  induction d with
  | zero =>
    rw [Nat.add_zero, win_self, Nat.sub_self, Int.pow_zero, Int.one_mul, Int.zero_add]
  | succ d ih =>
    rw [← Nat.add_assoc, win_succ s a _ (by omega) (by omega), win_succ s b _ (by omega) (by omega), ih (by omega) (by omega)]
    rw [show b + d + 1 - b = (b + d - b) + 1 by omega, Int.pow_succ, Int.mul_right_comm]
    generalize 256 ^ (b + d - b) * win s a b = X
    omega
theorem win_all (s : ByteArray) : win s 0 s.size = bval s := by
  unfold win bval
  rw [List.drop_zero, List.take_of_length_le (by rw [bytesOf_length]; exact Nat.le_refl _)]
theorem limbs_l1 (s : ByteArray) (hs : s.size ≤ 1099511627776) (out : List Int) (lo : Nat) (hlo : out.length ≤ 1099511627776) (e : Nat) (he : e ≤ s.size) (hle : lo ≤ e) (h4 : e ≤ lo + 4) (r : List Int)
    (next : Ev (fun k => galoisref01_limbs.l0 k s (out ++ [win s lo e]) ((e : Int) - 4)) r) : ∀ (d i : Nat), i + d = e → lo ≤ i → Ev (fun k => galoisref01_limbs.l1 k s out (e : Int) (win s lo i) (i : Int)) r := by
  intro d
  induction d with
  | zero =>
    intro i hi hl
    have hi : i = e := by omega
    subst hi
    have e1 : wrap64 ((i : Int) - 4) = (i : Int) - 4 := w64 (by omega) (by omega)
    refine Ev.step (fun k => ?_) next
    simp only [galoisref01_limbs.l1, e1]
    rw [if_neg (Int.lt_irrefl _), if_pos (by omega)]
  | succ d ih =>
    intro i hi hl
    have c1 : (i : Int) < (e : Int) := by omega
    have c2 : (i : Int) < (s.size : Int) := by omega
    have e1 : wrap64 ((i : Int) + 1) = ((i + 1 : Nat) : Int) := by rw [w64 (by omega) (by omega)]; omega
    obtain ⟨w0, w1⟩ := win_range s lo i hl (by omega)
    have w2 : win s lo i < 16777216 := by
      refine Int.lt_of_lt_of_le w1 ?_
      exact pow_le_pow (B := 256) (by decide) (show i - lo ≤ 3 by omega)
    obtain ⟨b0, b1⟩ := bt_range s (i : Int)
    have e2 : IntKind.u64.wrap (IntKind.u64.wrap (win s lo i * 256) + IntKind.u64.wrap (bt s (i : Int))) = win s lo (i + 1) := by
      rw [win_succ s lo i hl (by omega), u64 (x := win s lo i * 256) (by omega) (by omega), u64 (x := bt s (i : Int)) (by omega) (by omega), u64 (by omega) (by omega)]
    refine Ev.step (f := fun k => galoisref01_limbs.l1 k s out (e : Int) (win s lo (i + 1)) ((i + 1 : Nat) : Int)) (fun k => ?_) (ih (i + 1) (by omega) (by omega))
    simp only [galoisref01_limbs.l1, e1, e2]
    rw [if_pos c1, if_pos (Int.natCast_nonneg _), if_pos c2]
theorem limbs_end (s : ByteArray) (out : List Int) (hd : Dig B32 out) (hl : out.length ≤ 1099511627776) (hv : vB B32 out = bval s) (x : Int) (hx : ¬ x > 0) : Ev (fun k => galoisref01_limbs.l0 k s out x) (d32 (bval s).toNat) := by
  have h := rtrim_ev out.length out rfl (by omega) hd
  rw [hv] at h
  refine Ev.step (f := fun k => (galoisref01_trim.f k out).bind fun t => some t) (fun k => ?_) (Ev.bind h (Ev.now _))
  simp only [galoisref01_limbs.l0]
  rw [if_neg hx]
theorem limbs_l0 (s : ByteArray) (hs : s.size ≤ 1099511627776) : ∀ (e : Nat) (out : List Int), e ≤ s.size → 4 * out.length = s.size - e → Dig B32 out → vB B32 out = win s e s.size → Ev (fun k => galoisref01_limbs.l0 k s out (e : Int)) (d32 (bval s).toNat) := by
  intro e
  induction e using Nat.strongRecOn with
  | _ e ih =>
    intro out he hl hd hv
    by_cases h0 : e = 0
    · subst h0
      exact limbs_end s out hd (by omega) (by rw [hv, win_all]) _ (by omega)
    · have hmx : mx 0 (wrap64 ((e : Int) - 4)) = ((e - 4 : Nat) : Int) := by
        rw [w64 (by omega) (by omega)]
        unfold mx
        split <;> omega
      have hw := win_range s (e - 4) e (by omega) he
      have hw1 : win s (e - 4) e < B32 := by
        refine Int.lt_of_lt_of_le hw.2 ?_
        exact pow_le_pow (B := 256) (by decide) (show e - (e - 4) ≤ 4 by omega)
      have hd' : Dig B32 (out ++ [win s (e - 4) e]) := Dig_append hd (Dig_cons.2 ⟨⟨hw.1, hw1⟩, Dig_nil _⟩)
      have hpow : (B32 : Int) ^ out.length = 256 ^ (s.size - e) := by
        rw [← hl, Int.pow_mul]
        rfl
      have hv' : vB B32 (out ++ [win s (e - 4) e]) = win s (e - 4) s.size := by
        rw [vB_append, hpow, hv, win_join s (e - 4) e s.size (by omega) he (Nat.le_refl _)]
        simp [vB]
      refine Ev.step (f := fun k => galoisref01_limbs.l1 k s out (e : Int) (win s (e - 4) (e - 4)) ((e - 4 : Nat) : Int)) (fun k => ?_) (limbs_l1 s hs out (e - 4) (by omega) e he (by omega) (by omega) _ ?_ (e - (e - 4)) (e - 4) (by omega) (Nat.le_refl _))
      · simp only [galoisref01_limbs.l0, hmx]
        rw [if_pos (by omega), win_self]
      · by_cases h4 : e ≤ 4
        · refine limbs_end s _ hd' (by rw [List.length_append]; simp; omega) ?_ _ (by omega)
          rw [hv', show e - 4 = 0 by omega, win_all]
        · have := ih (e - 4) (by omega) (out ++ [win s (e - 4) e]) (by omega) (by rw [List.length_append]; simp; omega) hd' hv'
          rwa [show ((e - 4 : Nat) : Int) = (e : Int) - 4 by omega] at this
theorem limbs_ev (s : ByteArray) (hs : s.size ≤ 1099511627776) : Ev (fun k => galoisref01_limbs.f k s) (d32 (bval s).toNat) :=
  limbs_l0 s hs s.size [] (Nat.le_refl _) (by simp) (Dig_nil _) (by rw [win_self]; rfl)
theorem limbs_nat {n : Nat} (hs : (nat n).size ≤ 1099511627776) : Ev (fun k => galoisref01_limbs.f k (nat n)) (d32 n) := by
  have := limbs_ev (nat n) hs
  rwa [bval_nat, Int.toNat_natCast] at this
theorem d8_push {N x : Nat} (hx : x < 256) (h : N * 256 + x ≠ 0) : d8 (N * 256 + x) = (x : Int) :: d8 N := by
  unfold d8
  rw [dgs_pos _ _ h, show (N * 256 + x) % (254 + 2) = x by omega, show (N * 256 + x) / (254 + 2) = N by omega]
theorem rpack_byte {N x : Nat} (hx : x < 256) : (if (((d8 N).reverse.length : Int) > 0) then (d8 N).reverse ++ [(x : Int)] else if (x : Int) > 0 then (d8 N).reverse ++ [(x : Int)] else (d8 N).reverse) = (d8 (N * 256 + x)).reverse := by
  by_cases h : N * 256 + x = 0
  · have hN : N = 0 := by omega
    have hx0 : x = 0 := by omega
    subst hN hx0
    have : d8 0 = [] := dgs_zero _
    rw [show 0 * 256 + 0 = 0 from rfl, this]
    simp
  · rw [d8_push hx h, List.reverse_cons]
    by_cases h1 : ((d8 N).reverse.length : Int) > 0
    · rw [if_pos h1]
    · rw [if_neg h1, if_pos]
      have : N = 0 := by
        rcases Nat.eq_zero_or_pos N with h2 | h2
        · exact h2
        · exfalso
          have h3 : (nat N).size ≠ 0 := fun h4 => by have := nat_size_zero.1 h4; omega
          rw [nat_size] at h3
          rw [List.length_reverse] at h1
          omega
      omega
theorem rpack_l1 {l : List Int} {V : Nat} (hd : Dig B32 l) (hl : l.length ≤ 1099511627776) (hV : (nat V).size ≤ 4398046511104) {i H D : Nat} (hi : i < l.length) (hD : rd l (i : Int) = D) (hle : H * 4294967296 + D ≤ V) {r : ByteArray}
    (next : Ev (fun k => galoisref01_pack.l0 k l (d8 (H * 4294967296 + D)).reverse ((i : Int) - 1)) r) : ∀ (c N : Nat), c ≤ 4 → N = H * 256 ^ (4 - c) + D / 256 ^ c → Ev (fun k => galoisref01_pack.l1 k l (d8 N).reverse (i : Int) (8 * (c : Int) - 8)) r := by
  have hD32 : D < 4294967296 := by
    have h := (Dig_rd hd i hi).2
    rw [hD] at h
    exact Int.ofNat_lt.1 h
  intro c
  induction c with
  | zero =>
    intro N _ hN
    have hN : N = H * 4294967296 + D := by simpa using hN
    rw [hN]
    have e1 : wrap64 ((i : Int) - 1) = (i : Int) - 1 := w64 (by omega) (by omega)
    refine Ev.step (fun k => ?_) next
    simp only [galoisref01_pack.l1, e1]
    rw [if_neg (by decide)]
  | succ c ih =>
    intro N hc hN
    have hcase : c = 0 ∨ c = 1 ∨ c = 2 ∨ c = 3 := by omega
    have hNV : N ≤ V := by
      refine Nat.le_trans ?_ hle
      rw [hN]
      exact Nat.add_le_add (Nat.mul_le_mul_left H (Nat.pow_le_pow_right (show 0 < 256 by decide) (show 4 - (c + 1) ≤ 4 from Nat.sub_le _ _))) (Nat.div_le_self _ _)
    have hb : ∃ x : Nat, x < 256 ∧ (shr .u64 (rd l (i : Int)) (8 * ((c + 1 : Nat) : Int) - 8)) % 256 = (x : Int) ∧ N * 256 + x = H * 256 ^ (4 - c) + D / 256 ^ c := by
      refine ⟨D / 256 ^ c % 256, Nat.mod_lt _ (by decide), ?_, ?_⟩
      · rw [show 8 * ((c + 1 : Nat) : Int) - 8 = ((8 * c : Nat) : Int) by omega, shr_eq _ _ (by omega), hD]
        rcases hcase with rfl | rfl | rfl | rfl <;> simp <;> omega
      · rw [hN]
        rcases hcase with rfl | rfl | rfl | rfl <;> simp <;> omega
    obtain ⟨x, x1, x2, x3⟩ := hb
    have hsz : (d8 N).reverse.length < 140737488355328 := by
      have := size_mono hNV
      rw [nat_size] at this
      rw [List.length_reverse]
      omega
    have e1 : wrap64 (8 * ((c + 1 : Nat) : Int) - 8 - 8) = 8 * (c : Int) - 8 := by rw [w64 (by omega) (by omega)]; omega
    refine Ev.step (f := fun k => galoisref01_pack.l1 k l (d8 (N * 256 + x)).reverse (i : Int) (8 * (c : Int) - 8)) (fun k => ?_) (ih (N * 256 + x) (by omega) x3)
    rw [← rpack_byte x1]
    simp only [galoisref01_pack.l1, e1, x2]
    rw [if_pos (by omega), if_pos (by omega), if_pos (by omega), if_pos (by omega)]
    by_cases h1 : ((d8 N).reverse.length : Int) > 0
    · rw [if_pos h1, if_pos hsz, if_pos h1]
    · rw [if_neg h1, if_neg h1]
      by_cases h2 : (x : Int) > 0
      · rw [if_pos h2, if_pos hsz, if_pos h2]
      · rw [if_neg h2, if_neg h2]
theorem rpack_l0 {l : List Int} {V : Nat} (hd : Dig B32 l) (hl : l.length ≤ 1099511627776) (hV : (nat V).size ≤ 4398046511104) (hv : vB B32 l = V) : ∀ (J H : Nat), J ≤ l.length → vB B32 (l.drop J) = H → Ev (fun k => galoisref01_pack.l0 k l (d8 H).reverse ((J : Int) - 1)) (nat V) := by
  intro J
  induction J with
  | zero =>
    intro H _ hH
    rw [List.drop_zero, hv] at hH
    have e : H = V := by omega
    subst e
    refine Ev.step (f := fun _ => some (nat H)) (fun k => ?_) (Ev.now _)
    simp only [galoisref01_pack.l0]
    rw [if_neg (by decide)]
    rfl
  | succ i ih =>
    intro H hJ hH
    have hi : i < l.length := by omega
    obtain ⟨D, hD⟩ := Int.eq_ofNat_of_zero_le (Dig_rd hd i hi).1
    have hds := drop_succ B32 l i hi
    rw [hH, hD] at hds
    have hds' : vB B32 (l.drop i) = ((H * 4294967296 + D : Nat) : Int) := by
      rw [hds]
      show (D : Int) + 4294967296 * (H : Int) = _
      omega
    have hle : H * 4294967296 + D ≤ V := by
      have h1 := vB_split B32 l i (by omega)
      have h2 := vB_nonneg (show (0 : Int) ≤ B32 by decide) (Dig_take hd i)
      have h3 : (1 : Int) ≤ B32 ^ i := by have : (0 : Int) < B32 ^ i := Int.pow_pos (by decide); omega
      have h4 := Int.mul_le_mul_of_nonneg_right h3 (show 0 ≤ vB B32 (l.drop i) from vB_nonneg (by decide) (Dig_drop hd i))
      rw [Int.one_mul] at h4
      rw [hv] at h1
      rw [hds'] at h1 h4
      generalize B32 ^ i * ((H * 4294967296 + D : Nat) : Int) = X at *
      clear h3
      omega
    refine Ev.congr (f := fun k => galoisref01_pack.l0 k l (d8 H).reverse (i : Int)) (fun k => by rw [show ((i + 1 : Nat) : Int) - 1 = (i : Int) by omega]) ?_
    refine Ev.step (f := fun k => galoisref01_pack.l1 k l (d8 H).reverse (i : Int) (8 * ((4 : Nat) : Int) - 8)) (fun k => ?_) (rpack_l1 hd hl hV hi hD hle (ih _ (by omega) hds') 4 H (Nat.le_refl _) ?_)
    · simp only [galoisref01_pack.l0]
      rw [if_pos (by omega)]
      rfl
    · have hD32 : D < 4294967296 := by
        have h := (Dig_rd hd i hi).2
        rw [hD] at h
        exact Int.ofNat_lt.1 h
      simp
      omega
theorem rpack_ev {l : List Int} (hd : Dig B32 l) (hl : l.length ≤ 1099511627776) : Ev (fun k => galoisref01_pack.f k l) (nat (vB B32 l).toNat) := by
  have hv := vB_nonneg (show (0 : Int) ≤ B32 by decide) hd
  have hV : (nat (vB B32 l).toNat).size ≤ 4398046511104 := by
    have h : (nat (vB B32 l).toNat).size ≤ 4 * l.length := by
      apply nat_size_le.2
      have h1 := vB_lt (show (0 : Int) < B32 by decide) hd
      rw [Nat.pow_mul]
      have h2 : (((vB B32 l).toNat : Nat) : Int) < ((4294967296 ^ l.length : Nat) : Int) := by
        rw [Int.toNat_of_nonneg hv, Int.natCast_pow]
        exact h1
      exact Int.ofNat_lt.1 h2
    omega
  have e1 : wrap64 ((l.length : Int) - 1) = (l.length : Int) - 1 := w64 (by omega) (by omega)
  have := rpack_l0 hd hl hV (show vB B32 l = (((vB B32 l).toNat : Nat) : Int) by omega) l.length 0 (Nat.le_refl _) (by rw [List.drop_of_length_le (Nat.le_refl _)]; rfl)
  refine Ev.congr (fun k => ?_) this
  unfold galoisref01_pack.f
  rw [e1, show d8 0 = [] from dgs_zero _]
  rfl
end Go.Proofs.YtohkmnbnjacfaaaN
set_option linter.unusedVariables false
namespace Go.Proofs.YtohkmnbnjacfaaaN
open Go.RowKit Go.Proofs.Ytohkmnbnjacfaaa.All Go.Proofs.YtohkmnbnjacfaaaW.PrintWords Go.Proofs.YtohkmnbnjacfaaaW.PrintLast Go.Proofs.YtohkmnbnjacfaaaW.PrintMore
theorem and32 {x : Int} (h0 : 0 ≤ x) (h1 : x < 18446744073709551616) : Go.bits .and .u64 x 4294967295 = x % B32 := and_low h0 h1
theorem rCompare_ev (m n : Nat) : Ev (fun k => galoisref01_Compare.f k (nat m) (nat n)) (cmpN m n) := by
  have hj : ∀ b : Bool, b = decide (m < n) → Ev (fun k => galoisref01_Compare.j0 k (nat m) (nat n) b) (cmpN m n) := by
    rintro b rfl
    refine Ev.step (f := fun _ => some (cmpN m n)) (fun k => ?_) (Ev.now _)
    simp only [galoisref01_Compare.j0, toList_ext, nat_inj, decide_eq_true_eq, cmpN]
    split
    · rfl
    · split <;> rfl
  by_cases h1 : (nat m).size < (nat n).size
  · refine Ev.congr (f := fun k => galoisref01_Compare.j0 k (nat m) (nat n) true) (fun k => ?_) (hj _ (by simp [size_lt h1]))
    unfold galoisref01_Compare.f
    rw [if_pos (by omega)]
  · by_cases h2 : (nat m).size = (nat n).size
    · refine Ev.congr (f := fun k => galoisref01_Compare.j0 k (nat m) (nat n) (Op.bytesLess (nat m).toList (nat n).toList)) (fun k => ?_) (hj _ (less_nat h2))
      unfold galoisref01_Compare.f
      rw [if_neg (by omega), if_pos (by omega)]
    · refine Ev.congr (f := fun k => galoisref01_Compare.j0 k (nat m) (nat n) false) (fun k => ?_) (hj _ (by
        have : n < m := size_lt (by omega)
        simp; omega))
      unfold galoisref01_Compare.f
      rw [if_neg (by omega), if_neg (by omega)]
def RAdd (x y out : List Int) (i : Nat) (c : Int) : Prop :=
  out.length = i ∧ Dig B32 out ∧ (0 ≤ c ∧ c ≤ 1) ∧ vB B32 out + B32 ^ i * c = vB B32 (x.take i) + vB B32 (y.take i)
theorem radd_step {x y out : List Int} {i : Nat} {c : Int} (hx : Dig B32 x) (hy : Dig B32 y) (h : RAdd x y out i c) :
    RAdd x y (out ++ [(c + rd x (i : Int) + rd y (i : Int)) % B32]) (i + 1) ((c + rd x (i : Int) + rd y (i : Int)) / B32) := by
  obtain ⟨hl, hd, hc, hv⟩ := h
  obtain ⟨x0, x1⟩ := Dig_rd0 (by decide) hx i
  obtain ⟨y0, y1⟩ := Dig_rd0 (by decide) hy i
  have x1' : rd x (i : Int) < 4294967296 := x1
  have y1' : rd y (i : Int) < 4294967296 := y1
  refine ⟨by rw [List.length_append, hl]; rfl, Dig_append hd (Dig_cons.2 ⟨⟨Int.emod_nonneg _ (by decide), Int.emod_lt_of_pos _ (by decide)⟩, Dig_nil _⟩), ?_, ?_⟩
  · show 0 ≤ (c + rd x (i : Int) + rd y (i : Int)) / 4294967296 ∧ (c + rd x (i : Int) + rd y (i : Int)) / 4294967296 ≤ 1
    clear hv
    omega
  · rw [vB_append, hl, take_succ, take_succ, Int.pow_succ]
    have e := Int.emod_add_mul_ediv (c + rd x (i : Int) + rd y (i : Int)) B32
    generalize (c + rd x (i : Int) + rd y (i : Int)) / B32 = q at *
    generalize (c + rd x (i : Int) + rd y (i : Int)) % B32 = r at *
    have er : r = c + rd x (i : Int) + rd y (i : Int) - B32 * q := by clear hv; omega
    have e2 : vB B32 [r] = r := by simp [vB]
    rw [e2, er, Int.mul_sub, Int.mul_add, Int.mul_add, Int.mul_assoc (B32 ^ i) B32 q]
    generalize (B32 : Int) ^ i = P at *
    omega
theorem radd_round {x y out : List Int} {i : Nat} {c : Int} {r : ByteArray} (hx : Dig B32 x) (hy : Dig B32 y) (li : i ≤ 1099511627776) (h : RAdd x y out i c) (ht : i < x.length ∨ i < y.length ∨ c > 0)
    (next : Ev (fun k => galoisref01_Add.l0 k x y (out ++ [(c + rd x (i : Int) + rd y (i : Int)) % B32]) ((c + rd x (i : Int) + rd y (i : Int)) / B32) ((i + 1 : Nat) : Int)) r) : Ev (fun k => galoisref01_Add.l0 k x y out c (i : Int)) r := by
  have hl := h.1
  have hc := h.2.2.1
  have c4 : out.length < 17592186044416 := by omega
  obtain ⟨x0, x1⟩ := Dig_rd0 (by decide) hx i
  obtain ⟨y0, y1⟩ := Dig_rd0 (by decide) hy i
  have x1' : rd x (i : Int) < 4294967296 := x1
  have y1' : rd y (i : Int) < 4294967296 := y1
  have fx : ¬ (i : Int) < (x.length : Int) → rd x (i : Int) = 0 := fun h => rd_far x i (by omega)
  have fy : ¬ (i : Int) < (y.length : Int) → rd y (i : Int) = 0 := fun h => rd_far y i (by omega)
  have e1 : wrap64 ((i : Int) + 1) = ((i + 1 : Nat) : Int) := by rw [w64 (by omega) (by omega)]; omega
  have e2 : IntKind.u64.wrap (c + rd x (i : Int)) = c + rd x (i : Int) := by clear e1; exact u64 (by omega) (by omega)
  have e3 : IntKind.u64.wrap (c + rd x (i : Int) + rd y (i : Int)) = c + rd x (i : Int) + rd y (i : Int) := by clear e1 e2; exact u64 (by omega) (by omega)
  have e4 : IntKind.u64.wrap (c + rd y (i : Int)) = c + rd y (i : Int) := by clear e1 e2 e3; exact u64 (by omega) (by omega)
  have a3 := and32 (x := c + rd x (i : Int) + rd y (i : Int)) (by clear e1 e2 e3 e4; omega) (by clear e1 e2 e3 e4; omega)
  refine Ev.step (f := fun k => galoisref01_Add.j1 k x y out c (i : Int) true) (fun k => ?_) (Ev.step (fun k => ?_) next)
  · simp only [galoisref01_Add.l0]
    by_cases hx' : (i : Int) < (x.length : Int)
    · rw [if_pos hx']
    · rw [if_neg hx']
      by_cases hy' : (i : Int) < (y.length : Int)
      · rw [if_pos hy']
      · rw [if_neg hy', decide_eq_true (show c > 0 by clear e1 e2 e3 e4 a3; omega)]
  · simp only [galoisref01_Add.j1, e1]
    rw [if_pos trivial]
    by_cases hx' : (i : Int) < (x.length : Int)
    · rw [if_pos hx', if_pos (Int.natCast_nonneg _)]
      by_cases hy' : (i : Int) < (y.length : Int)
      · rw [if_pos hy', if_pos c4, e2, e3, a3]
      · have z := fy hy'
        rw [z, Int.add_zero] at a3
        rw [if_neg hy', if_pos c4, e2, a3, z, Int.add_zero]
    · have z := fx hx'
      rw [if_neg hx']
      by_cases hy' : (i : Int) < (y.length : Int)
      · rw [z, Int.add_zero] at a3
        rw [if_pos hy', if_pos (Int.natCast_nonneg _), if_pos c4, e4, a3, z, Int.add_zero]
      · have z2 := fy hy'
        rw [z, z2, Int.add_zero, Int.add_zero] at a3
        rw [if_neg hy', if_pos c4, a3, z, z2, Int.add_zero, Int.add_zero]
theorem radd_stop {x y out : List Int} {i n : Nat} (lx : x.length ≤ i) (ly : y.length ≤ i) (li : i ≤ 1099511627776) (hn : vB B32 x + vB B32 y = n) (h : RAdd x y out i 0) : Ev (fun k => galoisref01_Add.l0 k x y out 0 (i : Int)) (nat n) := by
  obtain ⟨hl, hd, -, hv⟩ := h
  rw [Int.mul_zero, Int.add_zero, vB_all _ _ _ lx, vB_all _ _ _ ly, hn] at hv
  have p := rpack_ev hd (by omega)
  rw [hv, Int.toNat_natCast] at p
  refine Ev.step (f := fun k => galoisref01_Add.j1 k x y out 0 (i : Int) false) (fun k => ?_) (Ev.step (f := fun k => (galoisref01_pack.f k out).bind fun t => some t) (fun k => ?_) (Ev.bind p (Ev.now _)))
  · simp only [galoisref01_Add.l0]
    rw [if_neg (by omega), if_neg (by omega), decide_eq_false (by decide)]
  · simp only [galoisref01_Add.j1]
    rw [if_neg Bool.false_ne_true]
theorem rAdd_l0 {x y : List Int} (hx : Dig B32 x) (hy : Dig B32 y) (M : Nat) (lx : x.length ≤ M) (ly : y.length ≤ M) (hM : M = x.length ∨ M = y.length) (lM : M ≤ 1099511627775) (n : Nat) (hn : vB B32 x + vB B32 y = n) : ∀ (d i : Nat) (out : List Int) (c : Int), i + d = M → RAdd x y out i c →
    Ev (fun k => galoisref01_Add.l0 k x y out c (i : Int)) (nat n) := by
  intro d
  induction d with
  | zero =>
    intro i out c hi h
    have hi : i = M := by omega
    subst hi
    have hc := h.2.2.1
    have hcase : c = 0 ∨ c = 1 := by omega
    rcases hcase with rfl | rfl
    · exact radd_stop lx ly (by omega) hn h
    · have hs := radd_step hx hy h
      have zx := rd_far x i lx
      have zy := rd_far y i ly
      rw [zx, zy] at hs
      refine radd_round hx hy (by omega) h (Or.inr (Or.inr (by decide))) ?_
      rw [zx, zy]
      exact radd_stop (by omega) (by omega) (by omega) hn hs
  | succ d ih =>
    intro i out c hi h
    exact radd_round hx hy (by omega) h (by omega) (ih (i + 1) _ _ (by omega) (radd_step hx hy h))
theorem rAdd_ev {m n : Nat} (hm : (nat m).size ≤ 1099511627776) (hn : (nat n).size ≤ 1099511627776) : Ev (fun k => galoisref01_Add.f k (nat m) (nat n)) (nat (m + n)) := by
  have lm := limbs_len m
  have ln := limbs_len n
  exact Ev.bind (limbs_nat hm) (Ev.bind (limbs_nat hn) (rAdd_l0 (d32_dig m) (d32_dig n) (max (d32 m).length (d32 n).length) (Nat.le_max_left _ _) (Nat.le_max_right _ _) (by omega) (by omega) (m + n) (by rw [d32_val, d32_val, Int.natCast_add]) (max (d32 m).length (d32 n).length) 0 [] 0 (Nat.zero_add _) ⟨rfl, Dig_nil _, ⟨by decide, by decide⟩, by simp [vB]⟩))
def RSub (x y z : List Int) (i : Nat) (c : Int) : Prop :=
  z.length = x.length ∧ Dig B32 z ∧ (0 ≤ c ∧ c ≤ 1) ∧ vB B32 z + vB B32 (y.take i) = vB B32 x + B32 ^ i * c
theorem rsub_step {x y z : List Int} {i : Nat} {c d e : Int} (hi : i < x.length) (h : RSub x y z i c) (d0 : 0 ≤ d) (d1 : d < B32) (e0 : 0 ≤ e) (e1 : e ≤ 1) (he : d = rd z (i : Int) - rd y (i : Int) - c + B32 * e) :
    RSub x y (z.set i d) (i + 1) e := by
  obtain ⟨hl, hd, hc, hv⟩ := h
  refine ⟨by rw [List.length_set]; exact hl, Dig_set hd _ d0 d1, ⟨e0, e1⟩, ?_⟩
  rw [vB_set _ _ _ _ (by clear hv; omega), take_succ, Int.pow_succ, he]
  have : rd z (i : Int) - rd y (i : Int) - c + B32 * e - rd z (i : Int) = B32 * e - rd y (i : Int) - c := by clear hv; omega
  rw [this, Int.mul_sub, Int.mul_sub, Int.mul_assoc (B32 ^ i) B32 e]
  generalize (B32 : Int) ^ i = P at *
  omega
theorem rSub_l0 (x y : List Int) (hx : Dig B32 x) (hy : Dig B32 y) (lx : x.length ≤ 1099511627775) (hyx : y.length ≤ x.length) (n : Nat) (hn : vB B32 x = vB B32 y + n) : ∀ (d i : Nat) (z : List Int) (c : Int), i + d = x.length → RSub x y z i c →
    Ev (fun k => galoisref01_Sub.l0 k z y c (i : Int)) (nat n) := by
  intro d
  induction d with
  | zero =>
    intro i z c hi h
    have hi : i = x.length := by omega
    subst hi
    have hl := h.1
    have c3 : z.length ≤ 1099511627776 := by omega
    have c5 : ¬ (x.length : Int) < (z.length : Int) := by omega
    obtain ⟨-, hd, hc, hv⟩ := h
    have hv' : vB B32 z = n := by
      have h1 := vB_lt (show (0 : Int) < B32 by decide) hd
      rw [vB_all _ _ _ hyx, hn] at hv
      rw [hl] at h1
      have h2 : c = 0 ∨ c = 1 := by clear h1 hv; omega
      rcases h2 with rfl | rfl
      · rw [Int.mul_zero] at hv
        clear h1
        omega
      · rw [Int.mul_one] at hv
        generalize (B32 : Int) ^ x.length = P at *
        omega
    have p := rpack_ev hd c3
    rw [hv', Int.toNat_natCast] at p
    refine Ev.step (f := fun k => (galoisref01_pack.f k z).bind fun t => some t) (fun k => ?_) (Ev.bind p (Ev.now _))
    simp only [galoisref01_Sub.l0]
    rw [if_neg c5]
  | succ d ih =>
    intro i z c hi h
    have hi' : i < x.length := by omega
    have c0 : i + 1 + d = x.length := by omega
    have hl := h.1
    have c2 : (i : Int) < (z.length : Int) := by omega
    have c4 : i < z.length := by omega
    have c3 : ¬ (i : Int) < (y.length : Int) → rd y (i : Int) = 0 := fun h => rd_far y i (by omega)
    have h' := h
    obtain ⟨-, hd, hc, -⟩ := h
    obtain ⟨x0, x1⟩ := Dig_rd hd i c4
    obtain ⟨y0, y1⟩ := Dig_rd0 (by decide) hy i
    have x1' : rd z (i : Int) < 4294967296 := x1
    have y1' : rd y (i : Int) < 4294967296 := y1
    have e1 : wrap64 ((i : Int) + 1) = ((i + 1 : Nat) : Int) := by clear c3; rw [w64 (by omega) (by omega)]; omega
    have e2 : IntKind.u64.wrap (c + rd y (i : Int)) = c + rd y (i : Int) := by clear e1; exact u64 (by omega) (by omega)
    have e3 : IntKind.u64.wrap (rd z (i : Int) + 4294967296) = rd z (i : Int) + 4294967296 := by clear e1 e2; exact u64 (by omega) (by omega)
    by_cases hb : rd z (i : Int) < c + rd y (i : Int)
    · have e4 : IntKind.u64.wrap (rd z (i : Int) + 4294967296 - (c + rd y (i : Int))) = rd z (i : Int) + 4294967296 - (c + rd y (i : Int)) := by clear e1 e2 e3; exact u64 (by omega) (by omega)
      have hs := rsub_step (d := rd z (i : Int) + 4294967296 - (c + rd y (i : Int))) (e := 1) hi' h' (by clear e1 e2 e3 e4; omega) (by show _ < (4294967296 : Int); clear e1 e2 e3 e4; omega) (by decide) (by decide) (by show _ = rd z (i : Int) - rd y (i : Int) - c + 4294967296 * 1; clear e1 e2 e3 e4; omega)
      have r1 : rd (z.set i (rd z (i : Int) + 4294967296)) (i : Int) = rd z (i : Int) + 4294967296 := rd_set_self _ _ _ c4
      refine Ev.step (f := fun k => galoisref01_Sub.l0 k (z.set i (rd z (i : Int) + 4294967296 - (c + rd y (i : Int)))) y 1 ((i + 1 : Nat) : Int)) (fun k => ?_) (ih (i + 1) _ _ c0 hs)
      simp only [galoisref01_Sub.l0, e1, Int.toNat_natCast, Option.bind_some]
      rw [if_pos c2]
      by_cases hy' : (i : Int) < (y.length : Int)
      · rw [if_pos hy', if_pos (Int.natCast_nonneg _), e2, if_pos hb, e3, r1, e4, List.set_set]
      · have z := c3 hy'
        rw [z, Int.add_zero] at hb e4 ⊢
        rw [if_neg hy', if_pos (Int.natCast_nonneg _), if_pos hb, e3, r1, e4, List.set_set]
    · have e4 : IntKind.u64.wrap (rd z (i : Int) - (c + rd y (i : Int))) = rd z (i : Int) - (c + rd y (i : Int)) := by clear e1 e2 e3; exact u64 (by omega) (by omega)
      have hs := rsub_step (d := rd z (i : Int) - (c + rd y (i : Int))) (e := 0) hi' h' (by clear e1 e2 e3 e4; omega) (by show _ < (4294967296 : Int); clear e1 e2 e3 e4; omega) (by decide) (by decide) (by clear e1 e2 e3 e4; omega)
      refine Ev.step (f := fun k => galoisref01_Sub.l0 k (z.set i (rd z (i : Int) - (c + rd y (i : Int)))) y 0 ((i + 1 : Nat) : Int)) (fun k => ?_) (ih (i + 1) _ _ c0 hs)
      simp only [galoisref01_Sub.l0, e1, Int.toNat_natCast, Option.bind_some]
      rw [if_pos c2]
      by_cases hy' : (i : Int) < (y.length : Int)
      · rw [if_pos hy', if_pos (Int.natCast_nonneg _), e2, if_neg hb, e4]
      · have z := c3 hy'
        rw [z, Int.add_zero] at hb e4 ⊢
        rw [if_neg hy', if_pos (Int.natCast_nonneg _), if_neg hb, e4]
theorem rSub_ev {m n : Nat} (hm : (nat m).size ≤ 1099511627776) : Ev (fun k => galoisref01_Sub.f k (nat m) (nat n)) (if m < n then ⟨#[]⟩ else nat (m - n)) := by
  refine Ev.bind (rCompare_ev m n) ?_
  by_cases hlt : m < n
  · rw [if_pos hlt]
    exact Ev.congr (fun k => if_pos (show cmpN m n < 0 by unfold cmpN; rw [if_pos hlt]; decide)) (Ev.now _)
  · rw [if_neg hlt]
    refine Ev.congr (fun k => if_neg (show ¬ cmpN m n < 0 by unfold cmpN; rw [if_neg hlt]; split <;> decide)) ?_
    have lm := limbs_len m
    have hn : (nat n).size ≤ 1099511627776 := Nat.le_trans (size_mono (Nat.le_of_not_lt hlt)) hm
    exact Ev.bind (limbs_nat hm) (Ev.bind (limbs_nat hn) (rSub_l0 (d32 m) (d32 n) (d32_dig m) (d32_dig n) (by omega) (d32_len_mono (by omega)) (m - n) (by rw [d32_val, d32_val]; omega) (d32 m).length 0 _ _ (Nat.zero_add _) ⟨rfl, d32_dig m, ⟨by decide, by decide⟩, by simp [vB]⟩))
end Go.Proofs.YtohkmnbnjacfaaaN
set_option linter.unusedVariables false
namespace Go.Proofs.YtohkmnbnjacfaaaN
open Go.RowKit Go.Proofs.Ytohkmnbnjacfaaa.All Go.Proofs.YtohkmnbnjacfaaaW.PrintWords Go.Proofs.YtohkmnbnjacfaaaW.PrintLast Go.Proofs.YtohkmnbnjacfaaaW.PrintMore
theorem rmul_add {x y o c : Int} (x0 : 0 ≤ x) (x1 : x < B32) (y0 : 0 ≤ y) (y1 : y < B32) (o0 : 0 ≤ o) (o1 : o < B32) (c0 : 0 ≤ c) (c1 : c < B32) :
    0 ≤ (x * y + o + c) / B32 ∧ (x * y + o + c) / B32 < B32 ∧ IntKind.u64.wrap (IntKind.u64.wrap (o + IntKind.u64.wrap (x * y)) + c) = x * y + o + c ∧ Go.bits .and .u64 (x * y + o + c) 4294967295 = (x * y + o + c) % B32 := by
  have x1' : x < 4294967296 := x1
  have y1' : y < 4294967296 := y1
  have o1' : o < 4294967296 := o1
  have c1' : c < 4294967296 := c1
  have hp := mul_range x0 (show x ≤ 4294967295 by omega) y0 (show y ≤ 4294967295 by omega)
  have h1 : (4294967295 : Int) * 4294967295 = 18446744065119617025 := rfl
  rw [h1] at hp
  rw [and32 (x := x * y + o + c) (by omega) (by omega)]
  show 0 ≤ (x * y + o + c) / 4294967296 ∧ (x * y + o + c) / 4294967296 < 4294967296 ∧ IntKind.u64.wrap (IntKind.u64.wrap (o + IntKind.u64.wrap (x * y)) + c) = x * y + o + c ∧ (x * y + o + c) % 4294967296 = (x * y + o + c) % 4294967296
  generalize x * y = p at *
  clear x0 x1 x1' y0 y1 y1' o1 c1 h1
  rw [u64 (x := p) (by omega) (by omega), u64 (x := o + p) (by omega) (by omega), u64 (x := o + p + c) (by omega) (by omega)]
  omega
def RMulOut (a b out : List Int) (i : Nat) : Prop :=
  out.length = a.length + b.length ∧ Dig B32 out ∧ vB B32 out = vB B32 (a.take i) * vB B32 b ∧ ∀ j : Nat, i + b.length ≤ j → rd out (j : Int) = 0
def RMulIn (a b out : List Int) (i j : Nat) (c : Int) : Prop :=
  out.length = a.length + b.length ∧ Dig B32 out ∧ (0 ≤ c ∧ c < B32) ∧ vB B32 out + B32 ^ (i + j) * c = vB B32 (a.take i) * vB B32 b + B32 ^ i * (rd a (i : Int) * vB B32 (b.take j)) ∧ ∀ n : Nat, i + b.length ≤ n → rd out (n : Int) = 0
theorem rmul_in {a b out : List Int} {i j : Nat} {c : Int} (ha : Dig B32 a) (hb : Dig B32 b) (hi : i < a.length) (hj : j < b.length) (h : RMulIn a b out i j c) :
    RMulIn a b (out.set (i + j) ((rd a (i : Int) * rd b (j : Int) + rd out ((i + j : Nat) : Int) + c) % B32)) i (j + 1) ((rd a (i : Int) * rd b (j : Int) + rd out ((i + j : Nat) : Int) + c) / B32) := by
  obtain ⟨hl, hd, hc, hv, hz⟩ := h
  obtain ⟨x0, x1⟩ := Dig_rd ha i hi
  obtain ⟨y0, y1⟩ := Dig_rd hb j hj
  obtain ⟨o0, o1⟩ := Dig_rd hd (i + j) (by omega)
  obtain ⟨n0, n1, -⟩ := rmul_add x0 x1 y0 y1 o0 o1 hc.1 hc.2
  refine ⟨by rw [List.length_set]; exact hl, Dig_set hd _ (Int.emod_nonneg _ (by decide)) (Int.emod_lt_of_pos _ (by decide)), ⟨n0, n1⟩, ?_, fun n hn => ?_⟩
  · rw [vB_set _ _ _ _ (by omega), take_succ, ← Nat.add_assoc, Int.pow_succ]
    have e := Int.emod_add_mul_ediv (rd a (i : Int) * rd b (j : Int) + rd out ((i + j : Nat) : Int) + c) B32
    generalize (rd a (i : Int) * rd b (j : Int) + rd out ((i + j : Nat) : Int) + c) / B32 = q at *
    generalize (rd a (i : Int) * rd b (j : Int) + rd out ((i + j : Nat) : Int) + c) % B32 = r at *
    have er : r = rd a (i : Int) * rd b (j : Int) + rd out ((i + j : Nat) : Int) + c - B32 * q := by omega
    rw [er]
    have ep : (B32 : Int) ^ (i + j) = B32 ^ i * B32 ^ j := Int.pow_add _ _ _
    rw [ep] at hv ⊢
    clear ep
    generalize vB B32 out = V at *
    generalize vB B32 (List.take i a) * vB B32 b = W at *
    generalize vB B32 (List.take j b) = U at *
    generalize (B32 : Int) ^ i = P at *
    generalize (B32 : Int) ^ j = Q at *
    generalize rd a (i : Int) = x at *
    generalize rd b (j : Int) = y at *
    generalize rd out ((i + j : Nat) : Int) = o at *
    have e1 : P * Q * (x * y + o + c - B32 * q - o) = P * Q * (x * y) + P * Q * c - P * Q * B32 * q := by
      rw [show x * y + o + c - B32 * q - o = x * y + c - B32 * q by omega, Int.mul_sub, Int.mul_add, Int.mul_assoc (P * Q) B32 q]
    have e2 : P * (x * (U + Q * y)) = P * (x * U) + P * Q * (x * y) := by
      rw [Int.mul_add x, Int.mul_add P, Int.mul_left_comm x Q y, Int.mul_assoc P Q]
    rw [e1, e2]
    omega
  · rw [rd_set_ne _ _ _ _ (by omega)]
    exact hz n hn
theorem rMul_l1 (a b : List Int) (ha : Dig B32 a) (hb : Dig B32 b) (la : a.length ≤ 1099511627776) (lb : b.length ≤ 1099511627776) (i : Nat) (hi : i < a.length) (r : ByteArray)
    (next : ∀ out, RMulOut a b out (i + 1) → Ev (fun k => galoisref01_Mul.l0 k a b out ((i + 1 : Nat) : Int)) r) : ∀ (d j : Nat) (out : List Int) (c : Int), j + d = b.length → RMulIn a b out i j c →
    Ev (fun k => galoisref01_Mul.l1 k a b out (i : Int) c (j : Int)) r := by
  intro d
  induction d with
  | zero =>
    intro j out c hj h
    have hj : j = b.length := by omega
    subst hj
    have hl := h.1
    have c1 : i + b.length < out.length := by omega
    have c2 : ((i + b.length : Nat) : Int) < (out.length : Int) := Int.ofNat_lt.2 c1
    have e1 : wrap64 ((i : Int) + (b.length : Int)) = ((i + b.length : Nat) : Int) := by rw [w64 (by omega) (by omega)]; omega
    have e2 : wrap64 ((i : Int) + 1) = ((i + 1 : Nat) : Int) := by clear e1; rw [w64 (by omega) (by omega)]; omega
    obtain ⟨-, hd, hc, hv, hz⟩ := h
    refine Ev.step (f := fun k => galoisref01_Mul.l0 k a b (out.set (i + b.length) c) ((i + 1 : Nat) : Int)) (fun k => ?_) (next _ ⟨by rw [List.length_set]; exact hl, Dig_set hd _ hc.1 hc.2, ?_, fun j hj => ?_⟩)
    · simp only [galoisref01_Mul.l1, e1, e2]
      rw [if_neg (Int.lt_irrefl _), if_pos (Int.natCast_nonneg _), if_pos c2, Int.toNat_natCast]
    · rw [vB_set _ _ _ _ c1, hz _ (Nat.le_refl _), Int.sub_zero, hv, take_succ, vB_all _ _ _ (Nat.le_refl _), Int.add_mul, Int.mul_assoc]
    · rw [rd_set_ne _ _ _ _ (by clear hv e1 e2; omega)]
      exact hz j (by clear hv e1 e2; omega)
  | succ d ih =>
    intro j out c hj h
    have hj' : j < b.length := by omega
    have hn := rmul_in ha hb hi hj' h
    have hl := h.1
    have c1 : i + j < out.length := by omega
    have c2 : ((i + j : Nat) : Int) < (out.length : Int) := Int.ofNat_lt.2 c1
    have c3 : (j : Int) < (b.length : Int) := Int.ofNat_lt.2 hj'
    have c5 : (i : Int) < (a.length : Int) := Int.ofNat_lt.2 hi
    have c4 : j + 1 + d = b.length := by omega
    have e1 : wrap64 ((i : Int) + (j : Int)) = ((i + j : Nat) : Int) := by rw [w64 (by omega) (by omega)]; omega
    have e2 : wrap64 ((j : Int) + 1) = ((j + 1 : Nat) : Int) := by clear e1; rw [w64 (by omega) (by omega)]; omega
    obtain ⟨-, hd, hc, -, -⟩ := h
    obtain ⟨x0, x1⟩ := Dig_rd ha i hi
    obtain ⟨y0, y1⟩ := Dig_rd hb j hj'
    obtain ⟨o0, o1⟩ := Dig_rd hd (i + j) c1
    obtain ⟨-, -, m0, m1⟩ := rmul_add x0 x1 y0 y1 o0 o1 hc.1 hc.2
    refine Ev.step (fun k => ?_) (ih (j + 1) _ _ c4 hn)
    simp only [galoisref01_Mul.l1, e1, e2]
    rw [if_pos c3, if_pos (Int.natCast_nonneg _), if_pos c2, if_pos (Int.natCast_nonneg _), if_pos c5, if_pos (Int.natCast_nonneg _), m0, m1, Int.toNat_natCast]
theorem rMul_l0 (a b : List Int) (ha : Dig B32 a) (hb : Dig B32 b) (la : a.length ≤ 549755813888) (lb : b.length ≤ 549755813888) (n : Nat) (hn : vB B32 a * vB B32 b = n) : ∀ (d i : Nat) (out : List Int), i + d = a.length → RMulOut a b out i →
    Ev (fun k => galoisref01_Mul.l0 k a b out (i : Int)) (nat n) := by
  intro d
  induction d with
  | zero =>
    intro i out hi h
    have hi : i = a.length := by omega
    subst hi
    obtain ⟨hl, hd, hv, hz⟩ := h
    rw [vB_all _ _ _ (Nat.le_refl _), hn] at hv
    have p := rpack_ev hd (by omega)
    rw [hv, Int.toNat_natCast] at p
    refine Ev.step (f := fun k => (galoisref01_pack.f k out).bind fun t => some t) (fun k => ?_) (Ev.bind p (Ev.now _))
    simp only [galoisref01_Mul.l0]
    rw [if_neg (Int.lt_irrefl _)]
  | succ d ih =>
    intro i out hi h
    have hi' : i < a.length := by omega
    have c1 : (i : Int) < (a.length : Int) := Int.ofNat_lt.2 hi'
    obtain ⟨hl, hd, hv, hz⟩ := h
    refine Ev.step (f := fun k => galoisref01_Mul.l1 k a b out (i : Int) 0 ((0 : Nat) : Int)) (fun k => ?_) (rMul_l1 a b ha hb (by omega) (by omega) i hi' _ (fun out' h' => ih (i + 1) out' (by omega) h') b.length 0 out 0 (Nat.zero_add _) ⟨hl, hd, ⟨by decide, by decide⟩, ?_, hz⟩)
    · simp only [galoisref01_Mul.l0]
      rw [if_pos c1]
      rfl
    · rw [hv]
      simp [vB]
theorem rMul_ev {m n : Nat} (hm : (nat m).size ≤ 1099511627776) (hn : (nat n).size ≤ 1099511627776) : Ev (fun k => galoisref01_Mul.f k (nat m) (nat n)) (nat (m * n)) := by
  have lm := limbs_len m
  have ln := limbs_len n
  refine Ev.bind (limbs_nat hm) (Ev.bind (limbs_nat hn) ?_)
  have e1 : wrap64 (((d32 m).length : Int) + ((d32 n).length : Int)) = (((d32 m).length + (d32 n).length : Nat) : Int) := by rw [w64 (by omega) (by omega)]; omega
  refine Ev.congr (f := fun k => galoisref01_Mul.l0 k (d32 m) (d32 n) (List.replicate ((d32 m).length + (d32 n).length) 0) ((0 : Nat) : Int)) (fun k => ?_) (rMul_l0 (d32 m) (d32 n) (d32_dig m) (d32_dig n) (by omega) (by omega) (m * n) (by rw [d32_val, d32_val, Int.natCast_mul]) (d32 m).length 0 _ (Nat.zero_add _) ⟨by simp, Dig_replicate (by decide) _, ?_, fun j _ => rd_replicate _ _⟩)
  · rw [e1, if_pos (Int.natCast_nonneg _), Int.toNat_natCast, if_pos (by omega)]
    rfl
  · rw [vB_replicate]
    simp [vB]
end Go.Proofs.YtohkmnbnjacfaaaN
set_option linter.unusedVariables false
namespace Go.Proofs.YtohkmnbnjacfaaaN
open Go.RowKit Go.Proofs.Ytohkmnbnjacfaaa.All Go.Proofs.YtohkmnbnjacfaaaW.PrintWords Go.Proofs.YtohkmnbnjacfaaaW.PrintLast Go.Proofs.YtohkmnbnjacfaaaW.PrintMore
theorem firstErr2 (a b : ByteArray) : firstErr [a, b] = if chk a = 0 then chk b else chk a := by
  unfold firstErr firstErr firstErr
  by_cases h : chk a = 0
  · rw [if_pos h, if_pos h]
    by_cases h2 : chk b = 0
    · rw [if_pos h2, h2]
    · rw [if_neg h2]
  · rw [if_neg h, if_neg h]
theorem Add_err {a b : ByteArray} {e : Int} (he : (if chk a = 0 then chk b else chk a) = e) (h : e ≠ 0) : Ev (fun k => natural_Add.f k a b) (⟨#[]⟩, e) := by
  have := first2 a b
  rw [firstErr2, he] at this
  exact Ev.bind this (Ev.congr (fun k => if_neg h) (Ev.now _))
theorem Mul_err {a b : ByteArray} {e : Int} (he : (if chk a = 0 then chk b else chk a) = e) (h : e ≠ 0) : Ev (fun k => natural_Mul.f k a b) (⟨#[]⟩, e) := by
  have := first2 a b
  rw [firstErr2, he] at this
  exact Ev.bind this (Ev.congr (fun k => if_neg h) (Ev.now _))
theorem Sub_err {a b : ByteArray} {e : Int} (he : (if chk a = 0 then chk b else chk a) = e) (h : e ≠ 0) : Ev (fun k => natural_Sub.f k a b) (⟨#[]⟩, e) := by
  have := first2 a b
  rw [firstErr2, he] at this
  exact Ev.bind this (Ev.congr (fun k => if_neg h) (Ev.now _))
theorem Compare_err {a b : ByteArray} {e : Int} (he : (if chk a = 0 then chk b else chk a) = e) (h : e ≠ 0) : Ev (fun k => natural_Compare.f k a b) (0, e) := by
  have := first2 a b
  rw [firstErr2, he] at this
  exact Ev.bind this (Ev.congr (fun k => if_neg h) (Ev.now _))
theorem empty_toList : (⟨#[]⟩ : ByteArray).toList = ([] : List UInt8) := toList_nil.2 rfl
theorem right_err {e : Int} (h : e ≠ 0) (w : ByteArray) : galoislaw01_right.f ⟨#[]⟩ e e w = some true := by
  unfold galoislaw01_right.f
  rw [if_neg h, if_pos empty_toList]
  simp
theorem right_bnd (n : Nat) : galoislaw01_right.f (bnd n).1 (bnd n).2 0 (nat n) = some true := by
  unfold galoislaw01_right.f galoisref01_Fits.f bnd
  rw [if_pos rfl]
  by_cases h : 1024 < (nat n).size
  · rw [if_pos (show ((nat n).size : Int) > 1024 by omega), if_pos h, Option.bind_some, if_neg (by decide), if_pos empty_toList]
    rfl
  · rw [if_neg (show ¬ ((nat n).size : Int) > 1024 by omega), if_neg h, Option.bind_some, if_pos rfl, if_pos rfl]
    rfl
theorem right_ok {n : Nat} (h : (nat n).size ≤ 1024) : galoislaw01_right.f (nat n) 0 0 (nat n) = some true := by
  have := right_bnd n
  rwa [bnd_ok h] at this
end Go.Proofs.YtohkmnbnjacfaaaN
set_option linter.unusedVariables false
namespace Go.Proofs.Ytohkmnbnjacfaaa.Pure
open Go.RowKit Go.Proofs.Ytohkmnbnjacfaaa.All Go.Proofs.YtohkmnbnjacfaaaN Go.Proofs.YtohkmnbnjacfaaaW.PrintWords Go.Proofs.YtohkmnbnjacfaaaW.PrintLast
theorem NaturalSums : galoislaw01_NaturalSums.Pure := by
  intro a b _ _
  apply Ev.rounds
  have skip : Ev (fun k => galoislaw01_NaturalSums.j0 k a b true) true :=
    Ev.step (f := fun k => (galoislaw01_awake.f k).bind fun t => some t) (fun k => rfl) (Ev.bind awake_ev (Ev.now _))
  refine Ev.bind awake_ev ?_
  refine Ev.congr (fun k => if_pos rfl) ?_
  refine ev_some (long_eq a b 1100) ?_
  by_cases h1 : (decide ((a.size : Int) > 1100) || decide ((b.size : Int) > 1100)) = true
  · rw [h1]
    exact skip
  rw [Bool.not_eq_true] at h1
  rw [h1]
  clear skip
  by_cases h3 : ¬ (if chk a = 0 then chk b else chk a) = 0
  · obtain ⟨e, he⟩ : ∃ e, (if chk a = 0 then chk b else chk a) = e := ⟨_, rfl⟩
    rw [he] at h3
    refine Ev.step (fun k => rfl) ?_
    simp only [galoislaw01_NaturalSums.j0, Bool.false_eq_true, if_false]
    refine Ev.bind (Compare_err he h3) ?_
    refine Ev.bind (Add_err he h3) ?_
    refine Ev.bind (Sub_err he h3) ?_
    refine Ev.bind (Mul_err he h3) ?_
    refine Ev.bind (Check_ev a) ?_
    refine ev_some (refCheck_eq a) ?_
    refine Ev.congr (fun k => if_pos rfl) ?_
    refine ev_some (expected_eq a b) ?_
    rw [he]
    refine Ev.congr (fun k => if_neg h3) ?_
    refine Ev.congr (f := fun _ => some true) (fun k => ?_) (Ev.now _)
    simp [right_err h3]
  replace h3 := Decidable.not_not.1 h3
  obtain ⟨m, n, rfl, rfl, sm, sn⟩ := guard2 h3
  have ca := chk_nat sm
  refine Ev.step (fun k => rfl) ?_
  simp only [galoislaw01_NaturalSums.j0, Bool.false_eq_true, if_false]
  refine Ev.bind (Compare_ev sm sn) ?_
  refine Ev.bind (Add_ev sm sn) ?_
  refine Ev.bind (Sub_ev sm sn) ?_
  refine Ev.bind (Mul_ev sm sn) ?_
  refine Ev.bind (Check_ev (nat m)) ?_
  refine ev_some (refCheck_eq (nat m)) ?_
  refine Ev.congr (fun k => if_pos rfl) ?_
  refine ev_some (expected_eq (nat m) (nat n)) ?_
  refine Ev.congr (fun k => if_pos h3) ?_
  refine Ev.bind (rCompare_ev m n) ?_
  by_cases hlt : m < n
  · have hc : cmpN m n < 0 := by unfold cmpN; rw [if_pos hlt]; decide
    refine Ev.congr (fun k => if_pos hc) ?_
    refine Ev.step (fun k => rfl) ?_
    simp only [galoislaw01_NaturalSums.j1]
    refine Ev.bind (rCompare_ev m n) ?_
    refine Ev.congr (fun k => if_pos rfl) (Ev.congr (fun k => if_pos trivial) ?_)
    refine Ev.bind (rAdd_ev (by omega) (by omega)) ?_
    refine ev_some (right_bnd (m + n)) (Ev.congr (fun k => if_pos rfl) ?_)
    refine Ev.bind (rSub_ev (by omega)) ?_
    have hs : subR m n = (⟨#[]⟩, 3) := by unfold subR; rw [if_pos hlt]
    rw [hs]
    refine ev_some (right_err (show (3 : Int) ≠ 0 by decide) _) (Ev.congr (fun k => if_pos rfl) ?_)
    refine Ev.bind (rMul_ev (by omega) (by omega)) ?_
    exact ev_some (right_bnd (m * n)) (Ev.now _)
  · have hc : ¬ cmpN m n < 0 := by unfold cmpN; rw [if_neg hlt]; split <;> decide
    refine Ev.congr (fun k => if_neg hc) ?_
    refine Ev.step (fun k => rfl) ?_
    simp only [galoislaw01_NaturalSums.j1]
    refine Ev.bind (rCompare_ev m n) ?_
    refine Ev.congr (fun k => if_pos rfl) (Ev.congr (fun k => if_pos trivial) ?_)
    refine Ev.bind (rAdd_ev (by omega) (by omega)) ?_
    refine ev_some (right_bnd (m + n)) (Ev.congr (fun k => if_pos rfl) ?_)
    refine Ev.bind (rSub_ev (by omega)) ?_
    have hs : subR m n = (nat (m - n), 0) := by unfold subR; rw [if_neg hlt]
    have hs2 : (nat (m - n)).size ≤ 1024 := Nat.le_trans (size_mono (Nat.sub_le m n)) sm
    rw [hs, if_neg hlt]
    refine ev_some (right_ok hs2) (Ev.congr (fun k => if_pos rfl) ?_)
    refine Ev.bind (rMul_ev (by omega) (by omega)) ?_
    exact ev_some (right_bnd (m * n)) (Ev.now _)
end Go.Proofs.Ytohkmnbnjacfaaa.Pure
