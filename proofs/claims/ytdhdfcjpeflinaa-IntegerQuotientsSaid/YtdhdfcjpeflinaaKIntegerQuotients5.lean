/- Part of the proof of the statement IntegerQuotients: lemmas on the model's steps, Lean functions that say what the program's functions compute, and proofs that the calls do just that. No hypothesis is added. -/
import Derived.Test.YtdhdfcjpeflinaaKIntegerQuotients4
set_option linter.all false
set_option linter.unusedVariables false
namespace Go.Proofs.YtdhdfcjpeflinaaN
open Go.RowKit Go.Proofs.Ytdhdfcjpeflinaa.All Go.Proofs.YtdhdfcjpeflinaaW.PrintWords Go.Proofs.YtdhdfcjpeflinaaW.PrintLast Go.Proofs.YtdhdfcjpeflinaaW.PrintMore
theorem rsm_end {u y z : List Int} {g c : Int} {K N : Nat} (hN : y.length = N) (hKN : K + N < u.length) (hu : Dig B32 u) (hy : Dig B32 y) (h : RSm u y z g K N c) (hg : g * vB B32 y ≤ vB B32 (u.drop K)) (hR : vB B32 (u.drop K) < vB B32 y * B32) :
  0 ≤ rd z ((K + N : Nat) : Int) - c ∧ rd z ((K + N : Nat) : Int) - c < B32 ∧ (z.set (K + N) (rd z ((K + N : Nat) : Int) - c)).length = u.length ∧ Dig B32 (z.set (K + N) (rd z ((K + N : Nat) : Int) - c)) ∧
  vB B32 ((z.set (K + N) (rd z ((K + N : Nat) : Int) - c)).drop K) = vB B32 (u.drop K) - g * vB B32 y ∧ vB B32 (z.set (K + N) (rd z ((K + N : Nat) : Int) - c)) + B32 ^ K * (g * vB B32 y) = vB B32 u := by
 have hB : (0 : Int) < B32 := by decide
 obtain ⟨hl, hd, hc, ht, hdr, hv⟩ := h
 rw [vB_all _ _ _ (by rw [hN]; exact Nat.le_refl _)] at hv
 have hj : K + N < z.length := by omega
 obtain ⟨z0, z1⟩ := Dig_rd hd (K + N) hj
 have hy1 := vB_lt hB hy
 rw [hN] at hy1
 have s2 := vB_split B32 (u.drop K) (N + 1) (by rw [List.length_drop]; omega)
 rw [List.drop_drop] at s2
 have p1 := vB_nonneg (Int.le_of_lt hB) (Dig_take (Dig_drop hu K) (N + 1))
 have p2 := vB_nonneg (Int.le_of_lt hB) (Dig_drop hu (K + (N + 1)))
 have hzero : vB B32 (u.drop (K + (N + 1))) = 0 := by
  rcases Int.lt_or_le (vB B32 (u.drop (K + (N + 1)))) 1 with h | h
  ·clear hv hy1 s2 hR hg; omega
  ·exfalso
   have h1 := Int.mul_le_mul_of_nonneg_left h (Int.le_of_lt (show (0 : Int) < B32 ^ (N + 1) from Int.pow_pos hB))
   rw [Int.mul_one] at h1
   have h2 := Int.mul_lt_mul_of_pos_right hy1 hB
   have h3 : (B32 : Int) ^ (N + 1) = B32 ^ N * B32 := Int.pow_succ _ _
   rw [h3] at h1 s2
   generalize (B32 : Int) ^ N * B32 = P at *
   generalize P * vB B32 (u.drop (K + (N + 1))) = A at *
   clear hv hy1 hg h3
   omega
 have s3 := vB_split B32 z (K + N) (by omega)
 have s4 : vB B32 (z.drop (K + N)) = rd z ((K + N : Nat) : Int) := by
  have h1 := drop_succ B32 z (K + N) hj
  have h2 : z.drop (K + N + 1) = u.drop (K + (N + 1)) := by rw [← List.drop_drop, hdr, List.drop_drop, Nat.add_assoc]
  rw [h2, hzero, Int.mul_zero, Int.add_zero] at h1
  exact h1
 have l0 := vB_nonneg (Int.le_of_lt hB) (Dig_take hd (K + N))
 have l1 := vB_lt hB (Dig_take hd (K + N))
 rw [List.length_take, Nat.min_eq_left (by clear hv hy1 s2 s3; omega)] at l1
 have s5 := vB_split B32 u K (by clear hv hy1 s2 s3 l1; omega)
 have l2 := vB_nonneg (Int.le_of_lt hB) (Dig_take hu K)
 have hge : c ≤ rd z ((K + N : Nat) : Int) := by
  rcases Int.lt_or_le (rd z ((K + N : Nat) : Int)) c with h | h
  ·exfalso
   have h1 := Int.mul_le_mul_of_nonneg_left (show rd z ((K + N : Nat) : Int) + 1 ≤ c by clear hv hy1 s2 s3 l1 s5; omega) (Int.le_of_lt (show (0 : Int) < B32 ^ (K + N) from Int.pow_pos hB))
   rw [Int.mul_add, Int.mul_one] at h1
   have h2 := Int.mul_le_mul_of_nonneg_left hg (Int.le_of_lt (show (0 : Int) < B32 ^ K from Int.pow_pos hB))
   rw [s4] at s3
   generalize B32 ^ (K + N) * rd z ((K + N : Nat) : Int) = A1 at *
   generalize B32 ^ (K + N) * c = A2 at *
   generalize (B32 : Int) ^ (K + N) = A3 at *
   generalize B32 ^ K * (g * vB B32 y) = A4 at *
   generalize B32 ^ K * vB B32 (u.drop K) = A5 at *
   clear hy1 s2
   omega
  ·exact h
 have d0 : 0 ≤ rd z ((K + N : Nat) : Int) - c := by clear hv hy1 s2 s3 l1 s5; omega
 have d1 : rd z ((K + N : Nat) : Int) - c < B32 := by clear hv hy1 s2 s3 l1 s5; omega
 have hval : vB B32 (z.set (K + N) (rd z ((K + N : Nat) : Int) - c)) + B32 ^ K * (g * vB B32 y) = vB B32 u := by
  rw [vB_set _ _ _ _ hj, show rd z ((K + N : Nat) : Int) - c - rd z ((K + N : Nat) : Int) = -c by clear hv hy1 s2 s3 l1 s5; omega, Int.mul_neg]
  generalize B32 ^ (K + N) * c = A2 at *
  generalize B32 ^ K * (g * vB B32 y) = A4 at *
  clear hy1 s2 s3 l1 s5
  omega
 refine ⟨d0, d1, by rw [List.length_set]; exact hl, Dig_set hd _ d0 d1, ?_, hval⟩
 have s6 := vB_split B32 (z.set (K + N) (rd z ((K + N : Nat) : Int) - c)) K (by rw [List.length_set]; clear hv hy1 s2 s3 l1 s5 hval; omega)
 rw [take_set_far (by clear hv hy1 s2 s3 l1 s5 hval; omega), ht] at s6
 have hne : (B32 : Int) ^ K ≠ 0 := Int.ne_of_gt (Int.pow_pos hB)
 apply Int.eq_of_mul_eq_mul_left hne
 rw [Int.mul_sub]
 generalize B32 ^ K * vB B32 ((z.set (K + N) (rd z ((K + N : Nat) : Int) - c)).drop K) = A1 at *
 generalize B32 ^ K * vB B32 (u.drop K) = A2 at *
 generalize B32 ^ K * (g * vB B32 y) = A4 at *
 clear hv hy1 s2 s3 l1
 omega
end Go.Proofs.YtdhdfcjpeflinaaN
set_option linter.unusedVariables false
namespace Go.Proofs.YtdhdfcjpeflinaaN
open Go.RowKit Go.Proofs.Ytdhdfcjpeflinaa.All Go.Proofs.YtdhdfcjpeflinaaW.PrintWords Go.Proofs.YtdhdfcjpeflinaaW.PrintLast Go.Proofs.YtdhdfcjpeflinaaW.PrintMore
theorem rdiv_l2 {u y q : List Int} {g : Int} {K N : Nat} (hN : y.length = N) (hKN : K + N < u.length) (lu : u.length ≤ 1099511627776) (hu : Dig B32 u) (hy : Dig B32 y) (g0 : 0 ≤ g) (g1 : g < B32) (hg : g * vB B32 y ≤ vB B32 (u.drop K)) (hR : vB B32 (u.drop K) < vB B32 y * B32) {r : ByteArray × ByteArray}
  (next : ∀ z' : List Int, z'.length = u.length → Dig B32 z' → vB B32 (z'.drop K) = vB B32 (u.drop K) - g * vB B32 y → vB B32 z' + B32 ^ K * (g * vB B32 y) = vB B32 u → Ev (fun k => galoisref01_DivMod.l1 k y (N : Int) z' q (K : Int)) r) :
  ∀ (d i : Nat) (z : List Int) (c : Int), i + d = N → RSm u y z g K i c → Ev (fun k => galoisref01_DivMod.l2 k y (N : Int) z q (K : Int) g c (i : Int)) r := by
 intro d
 induction d with
 | zero =>
  intro i z c hi h
  have hi : i = N := by omega
  subst hi
  have hl := h.1
  have c1 : ((K + i : Nat) : Int) < (z.length : Int) := by omega
  obtain ⟨d0, d1, r1, r2, r3, r4⟩ := rsm_end hN hKN hu hy h hg hR
  have d1' : rd z ((K + i : Nat) : Int) - c < 4294967296 := d1
  have e1 : wrap64 ((K : Int) + (i : Int)) = ((K + i : Nat) : Int) := by clear r3 r4 hg hR; rw [w64 (by omega) (by omega)]; omega
  have e2 : IntKind.u64.wrap (rd z ((K + i : Nat) : Int) - c) = rd z ((K + i : Nat) : Int) - c := by clear r3 r4 hg hR e1; exact u64 (by omega) (by omega)
  refine Ev.step (fun k => ?_) (next _ r1 r2 r3 r4)
  simp only [galoisref01_DivMod.l2, e1, e2]
  rw [if_neg (Int.lt_irrefl _), if_pos (Int.natCast_nonneg _), if_pos c1, Int.toNat_natCast]
 | succ d ih =>
  intro i z c hi h
  have hl := h.1
  have hi' : i < N := by omega
  have hj : K + i < z.length := by omega
  have c0 : i + 1 + d = N := by omega
  have c1 : (i : Int) < (N : Int) := Int.ofNat_lt.2 hi'
  have c2 : (i : Int) < (y.length : Int) := by rw [hN]; exact c1
  have c3 : ((K + i : Nat) : Int) < (z.length : Int) := Int.ofNat_lt.2 hj
  obtain ⟨z0, z1⟩ := Dig_rd h.2.1 (K + i) hj
  obtain ⟨y0, y1⟩ := Dig_rd hy i (by omega)
  have hc := h.2.2.1
  obtain ⟨p1, p2, p3, p4, p5, p6, p7⟩ := rsm_digit z0 z1 y0 y1 g0 g1 hc.1 hc.2
  have z1' : rd z ((K + i : Nat) : Int) < 4294967296 := z1
  have p4' : (rd y (i : Int) * g + c) / B32 < 4294967296 := p4
  have p6' : (rd y (i : Int) * g + c) % B32 < 4294967296 := p6
  have e1 : wrap64 ((K : Int) + (i : Int)) = ((K + i : Nat) : Int) := by clear p1 p2 p3 p4 p4' p5 p6 p6' p7 hg hR; rw [w64 (by omega) (by omega)]; omega
  have e2 : wrap64 ((i : Int) + 1) = ((i + 1 : Nat) : Int) := by clear p1 p2 p3 p4 p4' p5 p6 p6' p7 hg hR e1; rw [w64 (by omega) (by omega)]; omega
  by_cases hb : rd z ((K + i : Nat) : Int) < (rd y (i : Int) * g + c) % B32
  ·have p8 := p7 hb
   have hs := rsm_step (d := rd z ((K + i : Nat) : Int) + 4294967296 - (rd y (i : Int) * g + c) % B32) (e := 1) hj h (by clear p1 p2 p3 p4 p4' p5 p7 hg hR e1 e2; omega) (by show _ < (4294967296 : Int); clear p1 p2 p3 p4 p4' p5 p7 hg hR e1 e2; omega) (by clear p1 p2 p4 p4' p5 p7 hg hR e1 e2 hb; omega) p8 (by show _ = rd z ((K + i : Nat) : Int) - (rd y (i : Int) * g + c) % B32 + 4294967296 * 1; clear p1 p2 p3 p4 p4' p5 p7 hg hR e1 e2; omega)
   have e3 : IntKind.u64.wrap (rd z ((K + i : Nat) : Int) + 4294967296) = rd z ((K + i : Nat) : Int) + 4294967296 := by clear p1 p2 p3 p4 p4' p5 p7 hg hR e1 e2; exact u64 (by omega) (by omega)
   have e4 : IntKind.u64.wrap (rd z ((K + i : Nat) : Int) + 4294967296 - (rd y (i : Int) * g + c) % B32) = rd z ((K + i : Nat) : Int) + 4294967296 - (rd y (i : Int) * g + c) % B32 := by clear p1 p2 p3 p4 p4' p7 hg hR e1 e2 e3; exact u64 (by omega) (by omega)
   have e5 : IntKind.u64.wrap ((rd y (i : Int) * g + c) / 4294967296 + 1) = (rd y (i : Int) * g + c) / B32 + 1 := by
    clear p1 p2 p7 hg hR e1 e2 e3 e4
    exact u64 (Int.add_nonneg p3 (by decide)) (Int.lt_trans p8 (by decide))
   have r1 : rd (z.set (K + i) (rd z ((K + i : Nat) : Int) + 4294967296)) ((K + i : Nat) : Int) = rd z ((K + i : Nat) : Int) + 4294967296 := rd_set_self _ _ _ hj
   refine Ev.step (fun k => ?_) (ih (i + 1) _ _ c0 hs)
   simp only [galoisref01_DivMod.l2, e1, e2, p1, p2, e3, e5, Int.toNat_natCast, Option.bind_some]
   rw [if_pos c1, if_pos (Int.natCast_nonneg _), if_pos c2, if_pos (Int.natCast_nonneg _), if_pos c3, if_pos hb, r1, e4, List.set_set]
  ·have hs := rsm_step (d := rd z ((K + i : Nat) : Int) - (rd y (i : Int) * g + c) % B32) (e := 0) hj h (by clear p1 p2 p3 p4 p4' p7 hg hR e1 e2; omega) (by show _ < (4294967296 : Int); clear p1 p2 p3 p4 p4' p7 hg hR e1 e2; omega) (by rw [Int.add_zero]; exact p3) (by rw [Int.add_zero]; exact p4) (by rw [Int.mul_zero, Int.add_zero])
   have e4 : IntKind.u64.wrap (rd z ((K + i : Nat) : Int) - (rd y (i : Int) * g + c) % B32) = rd z ((K + i : Nat) : Int) - (rd y (i : Int) * g + c) % B32 := by clear p1 p2 p3 p4 p4' p7 hg hR e1 e2; exact u64 (by omega) (by omega)
   rw [Int.add_zero] at hs
   refine Ev.step (fun k => ?_) (ih (i + 1) _ _ c0 hs)
   simp only [galoisref01_DivMod.l2, e1, e2, p1, p2, Int.toNat_natCast]
   rw [if_pos c1, if_pos (Int.natCast_nonneg _), if_pos c2, if_pos (Int.natCast_nonneg _), if_pos c3, if_neg hb, e4]
end Go.Proofs.YtdhdfcjpeflinaaN
set_option linter.unusedVariables false
namespace Go.Proofs.YtdhdfcjpeflinaaN
open Go.RowKit Go.Proofs.Ytdhdfcjpeflinaa.All Go.Proofs.YtdhdfcjpeflinaaW.PrintWords Go.Proofs.YtdhdfcjpeflinaaW.PrintLast Go.Proofs.YtdhdfcjpeflinaaW.PrintMore
theorem d32_pos {n : Nat} (h : 0 < n) : 0 < (d32 n).length := by
 rcases Nat.eq_zero_or_pos (d32 n).length with h1 | h1
 ·exfalso
  have := d32_val n
  rw [List.eq_nil_of_length_eq_zero h1] at this
  simp [vB] at this
  omega
 ·exact h1
theorem mx_or (a b : Int) : (mx a b = a ∧ b ≤ a) ∨ (mx a b = b ∧ a ≤ b) := by
 unfold mx
 split
 ·right; exact ⟨rfl, by omega⟩
 ·left; exact ⟨rfl, by omega⟩
theorem rguess {u : List Int} {n K N : Nat} {R T top : Int} (hn : 0 < n) (hN : (d32 n).length = N + 1) (hKN : K + (N + 1) < u.length) (hu : Dig B32 u) (hR : vB B32 (u.drop K) = R) (hge : (n : Int) ≤ R) (hlt : R < n * B32)
  (hT : T = rd u ((K + (N + 1) : Nat) : Int) * 4294967296 + rd u ((K + N : Nat) : Int)) (htop : top = rd (d32 n) (N : Int)) :
  (0 ≤ T ∧ T < 18446744073709551616) ∧ (0 ≤ top ∧ top < 4294967296) ∧ 1 ≤ mx 1 (T / (top + 1)) ∧ mx 1 (T / (top + 1)) < B32 ∧ mx 1 (T / (top + 1)) * n ≤ R := by
 have hB : (0 : Int) < B32 := by decide
 obtain ⟨t0, t1⟩ := Dig_rd (d32_dig n) N (by omega)
 obtain ⟨u0, u1⟩ := Dig_rd hu (K + (N + 1)) hKN
 obtain ⟨v0, v1⟩ := Dig_rd hu (K + N) (by omega)
 rw [← htop] at t0 t1
 have t1' : top < 4294967296 := t1
 have u1' : rd u ((K + (N + 1) : Nat) : Int) < 4294967296 := u1
 have v1' : rd u ((K + N : Nat) : Int) < 4294967296 := v1
 have T0 : 0 ≤ T := by omega
 have T1 : T < 18446744073709551616 := by omega
 have key : T / (top + 1) * n ≤ R := by
  have hg0 : 0 ≤ T / (top + 1) := Int.ediv_nonneg T0 (by omega)
  have hg1 : T / (top + 1) * (top + 1) ≤ T := Int.ediv_mul_le T (by omega)
  have s1 := vB_split B32 (u.drop K) N (by rw [List.length_drop]; omega)
  rw [List.drop_drop, hR] at s1
  have p1 := vB_nonneg (Int.le_of_lt hB) (Dig_take (Dig_drop hu K) N)
  have s2 := drop_succ B32 u (K + N) (by omega)
  have s3 := drop_succ B32 u (K + (N + 1)) hKN
  rw [show K + N + 1 = K + (N + 1) by omega, s3] at s2
  have p2 := vB_nonneg (Int.le_of_lt hB) (Dig_drop hu (K + (N + 1) + 1))
  have hle : T ≤ vB B32 (u.drop (K + N)) := by
   rw [s2, hT]
   show _ ≤ rd u ((K + N : Nat) : Int) + 4294967296 * (rd u ((K + (N + 1) : Nat) : Int) + 4294967296 * vB B32 (u.drop (K + (N + 1) + 1)))
   clear s1 s2 s3 hg1 hlt hge
   omega
  have hP : (0 : Int) ≤ B32 ^ N := Int.le_of_lt (Int.pow_pos hB)
  have h1 := Int.mul_le_mul_of_nonneg_left hle hP
  have hn1 := vB_all B32 (d32 n) (N + 1) (by omega)
  rw [take_succ, d32_val, ← htop] at hn1
  have hn2 := vB_lt hB (Dig_take (d32_dig n) N)
  rw [List.length_take, Nat.min_eq_left (by omega)] at hn2
  have hn3 : (n : Int) ≤ B32 ^ N * (top + 1) := by
   rw [Int.mul_add, Int.mul_one]
   generalize B32 ^ N * top = A at *
   generalize (B32 : Int) ^ N = P at *
   clear s1 s2 s3 hg1 hlt hge hle h1
   omega
  have h2 := Int.mul_le_mul_of_nonneg_left hn3 hg0
  have h3 := Int.mul_le_mul_of_nonneg_left hg1 hP
  have e : T / (top + 1) * (B32 ^ N * (top + 1)) = B32 ^ N * (T / (top + 1) * (top + 1)) := Int.mul_left_comm _ _ _
  rw [e] at h2
  generalize B32 ^ N * (T / (top + 1) * (top + 1)) = A at *
  generalize B32 ^ N * T = A2 at *
  generalize B32 ^ N * vB B32 (u.drop (K + N)) = A3 at *
  generalize T / (top + 1) * (n : Int) = A4 at *
  clear s2 s3 hg1 hlt hge hle hn1 hn2 hn3 e
  omega
 have hall : 1 ≤ mx 1 (T / (top + 1)) ∧ mx 1 (T / (top + 1)) * n ≤ R := by
  rcases mx_or 1 (T / (top + 1)) with ⟨h, h'⟩ | ⟨h, h'⟩
  ·rw [h, Int.one_mul]
   exact ⟨Int.le_refl _, hge⟩
  ·rw [h]
   exact ⟨h', key⟩
 refine ⟨⟨T0, T1⟩, ⟨t0, t1'⟩, hall.1, ?_, hall.2⟩
 rcases Int.lt_or_le (mx 1 (T / (top + 1))) B32 with h | h
 ·exact h
 ·exfalso
  have h1 := Int.mul_le_mul_of_nonneg_right h (show (0 : Int) ≤ n by omega)
  rw [Int.mul_comm B32] at h1
  have := hall.2
  clear hall key
  generalize mx 1 (T / (top + 1)) * (n : Int) = A at *
  generalize (n : Int) * B32 = A2 at *
  omega
theorem rdiv_l1 {n N K Lu Lq : Nat} {V : Int} (hn : 0 < n) (hN : (d32 n).length = N + 1) (hKN : K + (N + 1) < Lu) (hKq : K < Lq) (lu : Lu ≤ 1099511627776) {r : ByteArray × ByteArray}
  (next : ∀ u q : List Int, u.length = Lu → q.length = Lq → Dig B32 u → Dig B32 q → q.take K = List.replicate K 0 → vB B32 u + n * vB B32 q = V → vB B32 (u.drop K) < n → Ev (fun k => galoisref01_DivMod.l0 k (d32 n) ((N + 1 : Nat) : Int) u q ((K : Int) - 1)) r) :
  ∀ (R : Nat) (u q : List Int), u.length = Lu → q.length = Lq → Dig B32 u → Dig B32 q → q.take K = List.replicate K 0 → vB B32 u + n * vB B32 q = V → vB B32 (u.drop K) = R → rd q (K : Int) * n + R < n * B32 → Ev (fun k => galoisref01_DivMod.l1 k (d32 n) ((N + 1 : Nat) : Int) u q (K : Int)) r := by
 intro R
 induction R using Nat.strongRecOn with
 | _ R ih =>
  intro u q hlu hlq hu hq hz hV hR hb
  have hbe := below_ev (n := n) (Dig_drop hu K) (by rw [List.length_drop]; omega) hR (by omega)
  have c0 : (K : Int) ≤ (u.length : Int) := by omega
  refine Ev.step (fun k => galoisref01_DivMod.l1.eq_2 ..) ?_
  refine Ev.congr (fun k => if_pos (Int.natCast_nonneg K)) (Ev.congr (fun k => if_pos c0) ?_)
  refine Ev.bind hbe ?_
  have e0 : wrap64 ((K : Int) - 1) = (K : Int) - 1 := by clear hV hb hR; exact w64 (by omega) (by omega)
  have c1 : ((K + (N + 1) : Nat) : Int) < (u.length : Int) := by clear hV hb hR e0; omega
  have c2 : ((K + N : Nat) : Int) < (u.length : Int) := by clear hV hb hR e0; omega
  have c3 : (N : Int) < ((d32 n).length : Int) := by clear hV hb hR e0; omega
  have c5 : (K : Int) < (q.length : Int) := by clear hV hb hR e0; omega
  have cG : ∀ G : Int, rd q (K : Int) + G - rd q (K : Int) = G := fun G => by clear hV hb hR e0; omega
  by_cases hlt : R < n
  ·refine Ev.congr (fun k => if_pos (decide_eq_true hlt)) ?_
   rw [e0]
   exact next u q hlu hlq hu hq hz hV (by rw [hR]; exact Int.ofNat_lt.2 hlt)
  ·obtain ⟨q0, q1⟩ := Dig_rd hq K (by omega)
   have hq0n : 0 ≤ rd q (K : Int) * n := Int.mul_nonneg q0 (by omega)
   have hRB : (R : Int) < n * B32 := by
    generalize rd q (K : Int) * (n : Int) = A at *
    generalize (n : Int) * B32 = A2 at *
    clear hV
    omega
   obtain ⟨⟨T0, T1⟩, ⟨p0, p1⟩, g1, gB, gR⟩ := rguess hn hN (by omega) hu hR (by omega) hRB rfl rfl
   obtain ⟨T, hT⟩ : ∃ T, T = rd u ((K + (N + 1) : Nat) : Int) * 4294967296 + rd u ((K + N : Nat) : Int) := ⟨_, rfl⟩
   rw [← hT] at T0 T1 g1 gB gR
   obtain ⟨top, htop⟩ : ∃ top, top = rd (d32 n) (N : Int) := ⟨_, rfl⟩
   rw [← htop] at p0 p1 g1 gB gR
   obtain ⟨u0, u1⟩ := Dig_rd hu (K + (N + 1)) (by omega)
   obtain ⟨v0, v1⟩ := Dig_rd hu (K + N) (by omega)
   have u1' : rd u ((K + (N + 1) : Nat) : Int) < 4294967296 := u1
   have q1' : rd q (K : Int) < 4294967296 := q1
   have e1 : wrap64 ((K : Int) + ((N + 1 : Nat) : Int)) = ((K + (N + 1) : Nat) : Int) := by clear hV hb hR hT htop e0; rw [w64 (by omega) (by omega)]; omega
   have e2 : wrap64 (((K + (N + 1) : Nat) : Int) - 1) = ((K + N : Nat) : Int) := by clear hV hb hR hT htop e0 e1; rw [w64 (by omega) (by omega)]; omega
   have e3 : wrap64 (((N + 1 : Nat) : Int) - 1) = (N : Int) := by clear hV hb hR hT htop e0 e1 e2; rw [w64 (by omega) (by omega)]; omega
   have e4 : IntKind.u64.wrap (top + 1) = top + 1 := by clear hV hb hR hT htop e0 e1 e2 e3; exact u64 (by omega) (by omega)
   have e5 : IntKind.u64.wrap (rd u ((K + (N + 1) : Nat) : Int) * 4294967296) = rd u ((K + (N + 1) : Nat) : Int) * 4294967296 := by clear hV hb hR hT htop e0 e1 e2 e3 e4; exact u64 (by omega) (by omega)
   have e6 : IntKind.u64.wrap T = T := u64 T0 T1
   have d0 : 0 ≤ T / (top + 1) := Int.ediv_nonneg T0 (by clear hV hb hR hT htop e0 e1 e2 e3 e4 e5 e6; omega)
   have d1 : T / (top + 1) ≤ T := Int.ediv_le_self _ T0
   have e7 : IntKind.u64.wrap (Int.tdiv T (top + 1)) = T / (top + 1) := by
    rw [Int.tdiv_eq_ediv_of_nonneg T0]
    exact u64 d0 (Int.lt_of_le_of_lt d1 T1)
   obtain ⟨G, hG⟩ := Int.eq_ofNat_of_zero_le (show 0 ≤ mx 1 (T / (top + 1)) from Int.le_trans (by decide) g1)
   rw [hG] at g1 gB gR
   have gB' : (G : Int) < 4294967296 := gB
   have gR' : G * n ≤ R := by
    apply Int.ofNat_le.1
    rw [Int.natCast_mul]
    exact gR
   have hGn : n ≤ G * n := Nat.le_mul_of_pos_left _ (by clear hV hb hR hT htop e0 e1 e2 e3 e4 e5 e6 e7 hG gR gR'; omega)
   have hnew : (rd q (K : Int) + G) * n + ((R - G * n : Nat) : Int) < n * B32 := by
    rw [Int.add_mul, Int.ofNat_sub gR', Int.natCast_mul]
    generalize rd q (K : Int) * (n : Int) = A at *
    generalize (G : Int) * (n : Int) = A3 at *
    generalize (n : Int) * B32 = A2 at *
    clear hV e0 e1 e2 e3 e4 e5 e6 e7 hT htop hG
    omega
   have hdig : rd q (K : Int) + G < B32 := by
    rcases Int.lt_or_le (rd q (K : Int) + G) B32 with h | h
    ·exact h
    ·exfalso
     have h1 := Int.mul_le_mul_of_nonneg_right h (show (0 : Int) ≤ n by omega)
     rw [Int.mul_comm B32] at h1
     generalize (rd q (K : Int) + G) * (n : Int) = A at *
     generalize (n : Int) * B32 = A2 at *
     generalize R - G * n = A3 at *
     clear hV e0 e1 e2 e3 e4 e5 e6 e7 hT htop hG hb
     omega
   have hdig' : rd q (K : Int) + G < 4294967296 := hdig
   have e8 : IntKind.u64.wrap (rd q (K : Int) + (G : Int)) = rd q (K : Int) + G := by clear hV hb hR hT htop e0 e1 e2 e3 e4 e5 e6 e7 hG; exact u64 (by omega) (by omega)
   have hyv := d32_val n
   have k1 : K + (N + 1) < u.length := by rw [hlu]; exact hKN
   have k2 : u.length ≤ 1099511627776 := by rw [hlu]; exact lu
   have hl2 := rdiv_l2 (u := u) (y := d32 n) (q := q.set K (rd q (K : Int) + G)) (g := G) (K := K) (N := N + 1) hN k1 k2 hu (d32_dig n) (Int.natCast_nonneg G) gB (by rw [hyv, hR]; exact gR) (by rw [hyv, hR]; exact hRB) (r := r) (by
    intro z hlz hdz hvz hvz2
    rw [hyv, hR] at hvz
    rw [hyv] at hvz2
    refine ih (R - G * n) (by clear hV hb hR hT htop e0 e1 e2 e3 e4 e5 e6 e7 e8 hG hvz hvz2 hnew; omega) z _ (hlz.trans hlu) (by rw [List.length_set]; exact hlq) hdz (Dig_set hq K (Int.add_nonneg q0 (Int.natCast_nonneg G)) hdig) (by rw [take_set_far (Nat.le_refl K)]; exact hz) ?_ ?_ ?_
    ·rw [vB_set _ _ _ _ (by rw [hlq]; exact hKq), cG, Int.mul_add, Int.mul_left_comm (n : Int), Int.mul_comm (n : Int) (G : Int)]
     generalize B32 ^ K * ((G : Int) * (n : Int)) = A at *
     generalize (n : Int) * vB B32 q = A2 at *
     clear hb hR hT htop e0 e1 e2 e3 e4 e5 e6 e7 e8 hG hnew
     omega
    ·rw [hvz, Int.ofNat_sub gR', Int.natCast_mul]
    ·rw [rd_set_self _ _ _ (by rw [hlq]; exact hKq)]
     exact hnew) (N + 1) 0 u 0 (Nat.zero_add _) ⟨rfl, hu, ⟨by decide, by decide⟩, rfl, rfl, by simp [vB]⟩
   refine Ev.congr (fun k => ?_) hl2
   have c4 : ¬ top + 1 = 0 := Int.ne_of_gt (Int.lt_add_one_of_le p0)
   have c6 : ¬ decide (R < n) = true := by rw [decide_eq_true_eq]; exact hlt
   rw [if_neg c6]
   simp only [e1, e2, e3, ← htop, e4, e5, ← hT, e6, e7, hG, e8, Int.toNat_natCast]
   rw [if_pos (Int.natCast_nonneg _), if_pos c1, if_pos (Int.natCast_nonneg _), if_pos c2, if_pos (Int.natCast_nonneg _), if_pos c3, if_neg c4, if_pos c5]
   rfl
theorem rdiv_l0 {n N m Lu Lq : Nat} (hn : 0 < n) (hN : (d32 n).length = N + 1) (lu : Lu ≤ 1099511627776) (lq : Lq ≤ 1099511627776) : ∀ (K : Nat) (u q : List Int), K ≤ Lq → (K = 0 ∨ K + (N + 1) ≤ Lu) → u.length = Lu → q.length = Lq → Dig B32 u → Dig B32 q → q.take K = List.replicate K 0 → vB B32 u + n * vB B32 q = m → vB B32 (u.drop K) < n →
  Ev (fun k => galoisref01_DivMod.l0 k (d32 n) ((N + 1 : Nat) : Int) u q ((K : Int) - 1)) (nat (m / n), nat (m % n)) := by
 intro K
 induction K with
 | zero =>
  intro u q _ _ hlu hlq hu hq _ hV hR
  rw [List.drop_zero] at hR
  obtain ⟨U, hU⟩ := Int.eq_ofNat_of_zero_le (vB_nonneg (show (0 : Int) ≤ B32 by decide) hu)
  obtain ⟨Q, hQ⟩ := Int.eq_ofNat_of_zero_le (vB_nonneg (show (0 : Int) ≤ B32 by decide) hq)
  rw [hU] at hR hV
  rw [hQ] at hV
  have hm : m = U + n * Q := by
   apply Int.ofNat_inj.1
   rw [Int.natCast_add, Int.natCast_mul]
   exact hV.symm
  have hUn : U < n := Int.ofNat_lt.1 hR
  have pu := rpack_ev hu (by omega)
  have pq := rpack_ev hq (by omega)
  rw [hU, Int.toNat_natCast] at pu
  rw [hQ, Int.toNat_natCast] at pq
  have r1 : m / n = Q := by rw [hm, Nat.add_mul_div_left _ _ hn, Nat.div_eq_of_lt hUn, Nat.zero_add]
  have r2 : m % n = U := by rw [hm, Nat.add_mul_mod_self_left, Nat.mod_eq_of_lt hUn]
  rw [r1, r2]
  refine Ev.step (fun k => galoisref01_DivMod.l0.eq_2 ..) ?_
  refine Ev.congr (fun k => if_neg (by decide)) ?_
  exact Ev.bind pq (Ev.bind pu (Ev.now _))
 | succ K ih =>
  intro u q hK hK2 hlu hlq hu hq hz hV hR
  have hKN : K + (N + 1) < Lu := by omega
  have e0 : ((K + 1 : Nat) : Int) - 1 = (K : Int) := by omega
  rw [e0]
  obtain ⟨R, hR'⟩ := Int.eq_ofNat_of_zero_le (vB_nonneg (show (0 : Int) ≤ B32 by decide) (Dig_drop hu K))
  have s := drop_succ B32 u K (by omega)
  obtain ⟨u0, u1⟩ := Dig_rd hu K (by omega)
  have hq0 : rd q (K : Int) = 0 := by
   rw [← rd_take q (K + 1) K (by omega), hz, rd_replicate]
  have hz' : q.take K = List.replicate K 0 := by
   have h := congrArg (List.take K) hz
   rwa [List.take_take, Nat.min_eq_left (by omega), List.take_replicate, Nat.min_eq_left (by omega)] at h
  refine Ev.step (f := fun k => galoisref01_DivMod.l1 k (d32 n) ((N + 1 : Nat) : Int) u q (K : Int)) (fun k => (galoisref01_DivMod.l0.eq_2 ..).trans (if_pos (Int.natCast_nonneg K))) ?_
  refine rdiv_l1 (V := m) hn hN hKN hK lu (fun u' q' h1 h2 h3 h4 h5 h6 h7 => ih u' q' (by omega) (Or.inr (by omega)) h1 h2 h3 h4 h5 h6 h7) R u q hlu hlq hu hq hz' hV hR' ?_
  rw [hq0, Int.zero_mul, ← hR', s, Int.mul_comm (n : Int)]
  have h1 := Int.mul_le_mul_of_nonneg_left (show vB B32 (u.drop (K + 1)) + 1 ≤ n by omega) (show (0 : Int) ≤ B32 by decide)
  rw [Int.mul_add, Int.mul_one] at h1
  generalize B32 * vB B32 (u.drop (K + 1)) = A at *
  generalize B32 * (n : Int) = A2 at *
  clear hV s hR hR'
  omega
theorem rDivMod_ev {m n : Nat} (hm : (nat m).size ≤ 1099511627776) (hn : (nat n).size ≤ 1099511627776) : Ev (fun k => galoisref01_DivMod.f k (nat m) (nat n)) (if n = 0 then (⟨#[]⟩, ⟨#[]⟩) else (nat (m / n), nat (m % n))) := by
 by_cases h0 : n = 0
 ·rw [if_pos h0]
  exact Ev.congr (fun k => if_pos (nat_empty.2 h0)) (Ev.now _)
 ·rw [if_neg h0]
  refine Ev.congr (fun k => if_neg (fun h => h0 (nat_empty.1 h))) ?_
  refine Ev.bind (limbs_nat hm) (Ev.bind (limbs_nat hn) ?_)
  have lm := limbs_len m
  have ln := limbs_len n
  have hpos := d32_pos (Nat.pos_of_ne_zero h0)
  obtain ⟨N, hN⟩ : ∃ N, (d32 n).length = N + 1 := ⟨(d32 n).length - 1, by omega⟩
  have e1 : mx 0 (wrap64 ((wrap64 (((d32 m).length : Int) - ((d32 n).length : Int))) + 1)) = (((d32 m).length + 1 - (N + 1) : Nat) : Int) := by
   rw [w64 (x := ((d32 m).length : Int) - ((d32 n).length : Int)) (by omega) (by omega), w64 (by omega) (by omega)]
   rcases mx_or 0 (((d32 m).length : Int) - ((d32 n).length : Int) + 1) with ⟨h, h'⟩ | ⟨h, h'⟩ <;> rw [h] <;> omega
  refine Ev.congr (fun k => if_pos (show (d32 m).length < 17592186044416 by omega)) ?_
  rw [e1]
  obtain ⟨L, hL⟩ : ∃ L, (d32 m).length + 1 - (N + 1) = L := ⟨_, rfl⟩
  rw [hL]
  clear e1
  refine Ev.congr (fun k => if_pos (Int.natCast_nonneg _)) (Ev.congr (fun k => if_pos (show ((L : Nat) : Int).toNat ≤ 35184372088832 by rw [Int.toNat_natCast]; omega)) ?_)
  refine ev_some rfl ?_
  rw [Int.toNat_natCast, List.length_replicate, hN, w64 (by omega) (by omega)]
  refine rdiv_l0 (Lu := (d32 m).length + 1) (Lq := L) (Nat.pos_of_ne_zero h0) hN (by omega) (by omega) L _ _ (Nat.le_refl _) (by omega) (by simp) (by simp) (Dig_append (d32_dig m) (Dig_cons.2 ⟨⟨by decide, by decide⟩, Dig_nil _⟩)) (Dig_replicate (by decide) L) (by simp) ?_ ?_
  ·rw [vB_append, vB_replicate, d32_val]
   simp [vB]
  ·have hx : vB B32 ((d32 m ++ [0]).drop L) = vB B32 ((d32 m).drop L) := by
    rcases Nat.lt_or_ge (d32 m).length L with h | h
    ·omega
    ·rw [List.drop_append_of_le_length h, vB_append]
     simp [vB]
   rw [hx]
   have t := trim_le (by decide) (d32_dig n) (d32_trim n) hpos
   rw [d32_val] at t
   by_cases hl0 : L = 0
   ·rw [hl0, List.drop_zero, d32_val]
    have := trim_len (by decide) (d32_dig m) (d32_dig n) (d32_trim n) (by omega)
    rwa [d32_val, d32_val] at this
   ·have h1 := vB_lt (show (0 : Int) < B32 by decide) (Dig_drop (d32_dig m) L)
    rw [List.length_drop] at h1
    have e : (d32 m).length - L = (d32 n).length - 1 := by omega
    rw [e] at h1
    exact Int.lt_of_lt_of_le h1 t
theorem rDivMod_ok {m n : Nat} (hm : (nat m).size ≤ 1099511627776) (hn : (nat n).size ≤ 1099511627776) (h0 : n ≠ 0) : Ev (fun k => galoisref01_DivMod.f k (nat m) (nat n)) (nat (m / n), nat (m % n)) := by
 have := rDivMod_ev hm hn
 rwa [if_neg h0] at this
theorem rGcd_l0 : ∀ (n m : Nat), (nat m).size ≤ 1099511627776 → (nat n).size ≤ 1099511627776 → Ev (fun k => galoisref01_Gcd.l0 k (nat m) (nat n)) (nat (Nat.gcd m n)) := by
 intro n
 induction n using Nat.strongRecOn with
 | _ n ih =>
  intro m hm hn
  refine Ev.step (fun k => galoisref01_Gcd.l0.eq_2 ..) ?_
  by_cases h : n = 0
  ·subst h
   rw [Nat.gcd_zero_right]
   exact Ev.congr (fun k => if_pos (nat_empty.2 rfl)) (Ev.now _)
  ·have hlt := Nat.mod_lt m (Nat.pos_of_ne_zero h)
   have hs := size_mono (Nat.le_of_lt hlt)
   have e : Nat.gcd m n = Nat.gcd n (m % n) := by rw [Nat.gcd_comm m n, Nat.gcd_rec n m, Nat.gcd_comm]
   rw [e]
   exact Ev.congr (fun k => if_neg (fun h' => h (nat_empty.1 h'))) (Ev.bind (rDivMod_ok hm hn h) (ih (m % n) hlt n hn (by omega)))
theorem rGcd_ev {m n : Nat} (hm : (nat m).size ≤ 1099511627776) (hn : (nat n).size ≤ 1099511627776) : Ev (fun k => galoisref01_Gcd.f k (nat m) (nat n)) (nat (Nat.gcd m n)) := rGcd_l0 n m hm hn
end Go.Proofs.YtdhdfcjpeflinaaN
set_option linter.unusedVariables false
namespace Go.Proofs.YtdhdfcjpeflinaaN
open Go.RowKit Go.Proofs.Ytdhdfcjpeflinaa.All Go.Proofs.YtdhdfcjpeflinaaW.PrintWords Go.Proofs.YtdhdfcjpeflinaaW.PrintLast Go.Proofs.YtdhdfcjpeflinaaW.PrintMore
theorem rFromInt_ev {u : Nat} (hu : u < 9223372036854775808) : Ev (fun k => galoisref01_FromInt.f k (u : Int)) (nat u) := by
 have h := rOf_ev (u := u) (by omega)
 refine Ev.congr (f := fun k => (galoisref01_Of.f k (u : Int)).bind fun t => some t) (fun k => ?_) (Ev.bind h (Ev.now _))
 unfold galoisref01_FromInt.f
 rw [u64 (by omega) (by omega)]
theorem nat_one_size : (nat 1).size = 1 := Nat.le_antisymm (nat_size_le.2 (by decide)) (Nat.pos_of_ne_zero fun h => absurd (nat_size_zero.1 h) (by decide))
end Go.Proofs.YtdhdfcjpeflinaaN
set_option linter.unusedVariables false
namespace Go.Proofs.YtdhdfcjpeflinaaN
open Go.RowKit Go.Proofs.Ytdhdfcjpeflinaa.All Go.Proofs.YtdhdfcjpeflinaaW.PrintWords Go.Proofs.YtdhdfcjpeflinaaW.PrintLast Go.Proofs.YtdhdfcjpeflinaaW.PrintMore
def ng (x : Int) : Bool := decide (x < 0)
def ab (x : Int) : ByteArray := nat x.natAbs
def sg (s : Bool) (n : Nat) : Int := if s then -(n : Int) else n
theorem sg_true (n : Nat) : sg true n = -(n : Int) := rfl
theorem sg_false (n : Nat) : sg false n = (n : Int) := rfl
theorem ng_sg (s : Bool) (n : Nat) : ng (sg s n) = (s && !decide (n = 0)) := by
 cases s
 ·exact decide_eq_false (by rw [sg_false]; omega)
 ·by_cases h : n = 0
  ·subst h
   rfl
  ·rw [decide_eq_false h]
   exact decide_eq_true (by rw [sg_true]; omega)
theorem ab_sg (s : Bool) (n : Nat) : ab (sg s n) = nat n := by
 unfold ab
 cases s
 ·rw [sg_false, Int.natAbs_natCast]
 ·rw [sg_true, Int.natAbs_neg, Int.natAbs_natCast]
theorem ng_nat (n : Nat) : ng (n : Int) = false := decide_eq_false (by omega)
theorem ab_nat (n : Nat) : ab (n : Int) = nat n := by unfold ab; rw [Int.natAbs_natCast]
theorem ng_pos {x : Int} (h : 0 ≤ x) : ng x = false := decide_eq_false (by omega)
theorem ng_neg {x : Int} (h : x < 0) : ng x = true := decide_eq_true h
theorem isEmpty_nat (n : Nat) : (nat n).toList.isEmpty = decide (n = 0) := by
 by_cases h : n = 0
 ·rw [decide_eq_true h, List.isEmpty_iff]
  exact nat_empty.2 h
 ·rw [decide_eq_false h, Bool.eq_false_iff]
  intro h'
  exact h (nat_empty.1 (List.isEmpty_iff.1 h'))
theorem ab_size_zero {x : Int} : (ab x).size = 0 ↔ x = 0 := by unfold ab; rw [nat_size_zero]; omega
theorem ab_empty {x : Int} : (ab x).toList = ([] : List UInt8) ↔ x = 0 := by unfold ab; rw [nat_empty]; omega
theorem IMake_eq (s : Bool) (n : Nat) : exact_IntMake.f s (nat n) = some (ng (sg s n), ab (sg s n)) := by
 unfold exact_IntMake.f
 rw [ng_sg, ab_sg, isEmpty_nat]
 cases s
 ·rw [if_neg Bool.false_ne_true, Bool.false_and]
 ·rw [if_pos rfl, Bool.true_and]
theorem abs_cases (x : Int) : (x < 0 ∧ ng x = true ∧ (x.natAbs : Int) = -x) ∨ (0 ≤ x ∧ ng x = false ∧ (x.natAbs : Int) = x) := by
 by_cases h : x < 0
 ·exact Or.inl ⟨h, ng_neg h, by omega⟩
 ·exact Or.inr ⟨by omega, ng_pos (by omega), by omega⟩
theorem quo_rem {x y : Int} (hy : y ≠ 0) : (x < 0 ∧ x.natAbs % y.natAbs ≠ 0 → sg (ng x != ng y) (x.natAbs / y.natAbs + 1) = x / y ∧ ((y.natAbs - x.natAbs % y.natAbs : Nat) : Int) = x % y) ∧ (¬ (x < 0 ∧ x.natAbs % y.natAbs ≠ 0) → sg (ng x != ng y) (x.natAbs / y.natAbs) = x / y ∧ ((x.natAbs % y.natAbs : Nat) : Int) = x % y) := by
 have hn : 0 < y.natAbs := by omega
 have hd := Nat.div_add_mod x.natAbs y.natAbs
 have hr := Nat.mod_lt x.natAbs hn
 have key : ∀ q r : Int, r + y * q = x → 0 ≤ r → r < y.natAbs → q = x / y ∧ r = x % y := by
  intro q r h1 h2 h3
  have e1 := Int.emod_nonneg x hy
  have e2 := Int.emod_lt_of_pos x (b := (y.natAbs : Int)) (by omega)
  have e3 : x % (y.natAbs : Int) = x % y := by
   rcases abs_cases y with ⟨k, k1, k2⟩ | ⟨k, k1, k2⟩
   ·rw [k2, Int.emod_neg]
   ·rw [k2]
  rw [e3] at e2
  have e4 := Int.emod_add_mul_ediv x y
  have e5 : y * (q - x / y) = x % y - r := by rw [Int.mul_sub]; omega
  have e6 : q - x / y = 0 := by
   rcases Int.lt_trichotomy (q - x / y) 0 with h | h | h
   ·rcases abs_cases y with ⟨k, k1, k2⟩ | ⟨k, k1, k2⟩
    ·have : -y * 1 ≤ -y * -(q - x / y) := Int.mul_le_mul_of_nonneg_left (by omega) (by omega)
     rw [Int.neg_mul_neg, Int.mul_one] at this
     omega
    ·have : y * 1 ≤ y * -(q - x / y) := Int.mul_le_mul_of_nonneg_left (by omega) (by omega)
     rw [Int.mul_neg, Int.mul_one] at this
     omega
   ·exact h
   ·rcases abs_cases y with ⟨k, k1, k2⟩ | ⟨k, k1, k2⟩
    ·have : -y * 1 ≤ -y * (q - x / y) := Int.mul_le_mul_of_nonneg_left (by omega) (by omega)
     rw [Int.neg_mul, Int.neg_mul, Int.mul_one] at this
     omega
    ·have : y * 1 ≤ y * (q - x / y) := Int.mul_le_mul_of_nonneg_left (by omega) (by omega)
     rw [Int.mul_one] at this
     omega
  rw [e6, Int.mul_zero] at e5
  exact ⟨by omega, by omega⟩
 have hd' : ((y.natAbs : Nat) : Int) * ((x.natAbs / y.natAbs : Nat) : Int) + ((x.natAbs % y.natAbs : Nat) : Int) = (x.natAbs : Int) := by rw [← Int.natCast_mul, ← Int.natCast_add, hd]
 generalize x.natAbs / y.natAbs = Q at *
 generalize x.natAbs % y.natAbs = R at *
 refine ⟨fun ⟨h0, h3⟩ => key _ _ ?_ (by omega) (by omega), fun h0 => key _ _ ?_ (by omega) (by omega)⟩
 ·rcases abs_cases x with ⟨h, h1, h2⟩ | ⟨h, h1, h2⟩ <;> rcases abs_cases y with ⟨k, k1, k2⟩ | ⟨k, k1, k2⟩
  ·rw [h1, k1]
   show _ + y * ((Q + 1 : Nat) : Int) = x
   rw [k2, Int.neg_mul] at hd'
   rw [Int.natCast_add, Int.mul_add, Int.natCast_one, Int.mul_one]
   omega
  ·rw [h1, k1]
   show _ + y * -((Q + 1 : Nat) : Int) = x
   rw [k2] at hd'
   rw [Int.natCast_add, Int.mul_neg, Int.mul_add, Int.natCast_one, Int.mul_one]
   omega
  ·omega
  ·omega
 ·rcases abs_cases x with ⟨h, h1, h2⟩ | ⟨h, h1, h2⟩ <;> rcases abs_cases y with ⟨k, k1, k2⟩ | ⟨k, k1, k2⟩ <;> rw [h1, k1]
  ·have hR : R = 0 := by omega
   show _ + y * (Q : Int) = x
   rw [k2, Int.neg_mul] at hd'
   omega
  ·have hR : R = 0 := by omega
   show _ + y * -(Q : Int) = x
   rw [k2] at hd'
   rw [Int.mul_neg]
   omega
  ·show _ + y * -(Q : Int) = x
   rw [k2, Int.neg_mul] at hd'
   rw [Int.mul_neg]
   omega
  ·show _ + y * (Q : Int) = x
   rw [k2] at hd'
   omega
theorem size_div {m n : Nat} : (nat (m / n)).size ≤ (nat m).size := size_mono (Nat.div_le_self m n)
theorem NatOf_ev {u : Nat} (hu : u < 18446744073709551616) : Ev (fun k => exact_NatOf.f k (u : Int)) (nat u) := by
 have p := pack_ev (l := [(u : Int)]) (Dig_cons.2 ⟨⟨by omega, by show _ < (18446744073709551616 : Int); omega⟩, Dig_nil _⟩) (by simp)
 have hv : vB B64 [(u : Int)] = u := by show (u : Int) + 18446744073709551616 * 0 = u; omega
 rw [hv, Int.toNat_natCast] at p
 exact Ev.bind p (Ev.now _)
theorem IDivMod_ev {x y : Int} (hx : (ab x).size ≤ 1099511627775) (hy : (ab y).size ≤ 1099511627776) (h0 : y ≠ 0) : Ev (fun k => exact_IntDivMod.f k (ng x) (ab x) (ng y) (ab y)) (ng (x / y), ab (x / y), ng (x % y), ab (x % y)) := by
 have hn : 0 < y.natAbs := by omega
 obtain ⟨d1, d2⟩ := quo_rem (x := x) h0
 have hrem : ng (x % y) = false := ng_pos (Int.emod_nonneg x h0)
 rw [hrem]
 refine Ev.bind (NatDivMod_ev (by exact Nat.le_trans hx (by decide)) hy hn) ?_
 by_cases hs : x < 0 ∧ x.natAbs % y.natAbs ≠ 0
 ·obtain ⟨e1, e2⟩ := d1 hs
  refine Ev.congr (fun k => if_pos (ng_neg hs.1)) (Ev.step (fun k => exact_IntDivMod.j0.eq_2 ..) (Ev.congr (fun k => if_pos (by rw [isEmpty_nat, decide_eq_false hs.2]; rfl)) ?_))
  have hq : (nat (x.natAbs / y.natAbs)).size ≤ 1099511627776 := Nat.le_trans size_div (Nat.le_trans hx (by decide))
  refine Ev.bind (NatOf_ev (u := 1) (by decide)) (Ev.bind (NatAdd_ev hq (by rw [nat_one_size]; decide)) (Ev.bind (NatSub_ev hy (Nat.le_of_lt (Nat.mod_lt _ hn))) (ev_some (IMake_eq _ _) ?_)))
  rw [e1, ← e2, ab_nat]
  exact Ev.now _
 ·obtain ⟨e1, e2⟩ := d2 hs
  have next : Ev (fun k => exact_IntDivMod.j0 k (nat (x.natAbs / y.natAbs)) (nat (x.natAbs % y.natAbs)) false (ng x) (ab x) (ng y) (ab y)) (ng (x / y), ab (x / y), false, ab (x % y)) := by
   refine Ev.step (fun k => exact_IntDivMod.j0.eq_2 ..) (Ev.congr (fun k => if_neg Bool.false_ne_true) (ev_some (IMake_eq _ _) ?_))
   rw [e1, ← e2, ab_nat]
   exact Ev.now _
  by_cases hx0 : x < 0
  ·have hz : x.natAbs % y.natAbs = 0 := by
    rcases Decidable.em (x.natAbs % y.natAbs = 0) with h | h
    ·exact h
    ·exact absurd ⟨hx0, h⟩ hs
   refine Ev.congr (fun k => if_pos (ng_neg hx0)) ?_
   rw [isEmpty_nat, decide_eq_true hz]
   exact next
  ·exact Ev.congr (fun k => if_neg (by rw [ng_pos (by omega)]; exact Bool.false_ne_true)) next
theorem IGcd_ev {x y : Int} (hx : (ab x).size ≤ 1099511627776) (hy : (ab y).size ≤ 1099511627776) : Ev (fun k => exact_IntGcd.f k (ng x) (ab x) (ng y) (ab y)) (false, nat (Int.gcd x y)) := Ev.bind (NatGcd_ev hx hy) (Ev.now _)
end Go.Proofs.YtdhdfcjpeflinaaN
set_option linter.unusedVariables false
namespace Go.Proofs.YtdhdfcjpeflinaaN
open Go.RowKit Go.Proofs.Ytdhdfcjpeflinaa.All Go.Proofs.YtdhdfcjpeflinaaW.PrintWords Go.Proofs.YtdhdfcjpeflinaaW.PrintLast Go.Proofs.YtdhdfcjpeflinaaW.PrintMore
def ick (s : Bool) (a : ByteArray) : Int := if chk a = 1 then 1 else if s = true ∧ a.size = 0 then 1 else chk a
theorem rValid_eq (s : ByteArray) : galoisref01_Valid.f s = some (decide (s.size = 0 ∨ bt s 0 ≠ 0)) := by
 unfold galoisref01_Valid.f
 by_cases h : s.size = 0
 ·rw [if_pos (toList_nil.2 h)]
  simp [h]
 ·rw [if_neg (fun h' => h (toList_nil.1 h')), if_pos (by omega)]
  by_cases h2 : bt s 0 = 0 <;> simp [h, h2]
theorem chk_one {a : ByteArray} : chk a = 1 ↔ ¬ (a.size = 0 ∨ bt a 0 ≠ 0) := by
 unfold chk
 by_cases h : 0 < a.size ∧ bt a 0 = 0
 ·rw [if_pos h]
  refine ⟨fun _ h' => ?_, fun _ => rfl⟩
  rcases h' with h' | h'
  ·omega
  ·exact h' h.2
 ·rw [if_neg h]
  refine ⟨fun h' => ?_, fun h' => absurd ⟨Nat.pos_of_ne_zero fun h2 => h' (Or.inl h2), ?_⟩ h⟩
  ·split at h' <;> exact absurd h' (by decide)
  ·rcases Decidable.em (bt a 0 = 0) with h2 | h2
   ·exact h2
   ·exact absurd (Or.inr h2) h'
theorem chk_rest {a : ByteArray} (h : chk a ≠ 1) : chk a = if (a.size : Int) > 1024 then 4 else 0 := by
 have h1 : ¬ (0 < a.size ∧ bt a 0 = 0) := fun h' => h (by unfold chk; rw [if_pos h'])
 unfold chk
 rw [if_neg h1]
 by_cases h2 : 1024 < a.size
 ·rw [if_pos h2, if_pos (by omega)]
 ·rw [if_neg h2, if_neg (by omega)]
theorem rFits1_eq (a : ByteArray) : galoisref01_Fits.f a = some (if (a.size : Int) > 1024 then 4 else 0) := by
 unfold galoisref01_Fits.f
 by_cases h : (a.size : Int) > 1024
 ·rw [if_pos h, if_pos h]
 ·rw [if_neg h, if_neg h]
theorem rFits_eq (s : Bool) (a : ByteArray) : galoisref02_Fits.f s a = some (if (a.size : Int) > 1024 then 4 else 0) := by
 unfold galoisref02_Fits.f
 rw [rFits1_eq]
 rfl
theorem rValid2_eq (s : Bool) (a : ByteArray) : galoisref02_Valid.f s a = some (decide ((a.size = 0 ∨ bt a 0 ≠ 0) ∧ ¬ (s = true ∧ a.size = 0))) := by
 unfold galoisref02_Valid.f
 rw [rValid_eq, Option.bind_some]
 by_cases h : a.size = 0 ∨ bt a 0 ≠ 0
 ·rw [if_pos (decide_eq_true h)]
  cases s
  ·rw [if_neg Bool.false_ne_true]
   congr 1
   exact (decide_eq_true ⟨h, fun h' => Bool.false_ne_true h'.1⟩).symm
  ·rw [if_pos rfl]
   congr 1
   by_cases h2 : a.size = 0
   ·rw [decide_eq_false (fun h' => h'.2 ⟨rfl, h2⟩)]
    exact bne_eq_false_iff_eq.2 (toList_nil.2 h2)
   ·have e : (a.size = 0 ∨ bt a 0 ≠ 0) ∧ ¬ (true = true ∧ a.size = 0) := ⟨h, fun h' => h2 h'.2⟩
    rw [decide_eq_true e]
    exact bne_iff_ne.2 (fun h' => h2 (toList_nil.1 h'))
 ·rw [if_neg (by rw [decide_eq_true_eq]; exact h), decide_eq_false (fun h' => h h'.1)]
theorem rCheck_eq (s : Bool) (a : ByteArray) : galoisref02_Check.f s a = some (ick s a) := by
 unfold galoisref02_Check.f ick
 rw [rValid2_eq, Option.bind_some]
 by_cases h1 : chk a = 1
 ·rw [if_pos h1, if_neg (by rw [decide_eq_true_eq]; exact fun h' => chk_one.1 h1 h'.1)]
 ·have hv : a.size = 0 ∨ bt a 0 ≠ 0 := by
   rcases Decidable.em (a.size = 0 ∨ bt a 0 ≠ 0) with h | h
   ·exact h
   ·exact absurd (chk_one.2 h) h1
  rw [if_neg h1]
  by_cases h2 : s = true ∧ a.size = 0
  ·rw [if_pos h2, if_neg (by rw [decide_eq_true_eq]; exact fun h' => h'.2 h2)]
  ·rw [if_neg h2, if_pos (decide_eq_true ⟨hv, h2⟩), rFits_eq, chk_rest h1]
   rfl
theorem RMake_eq (s : Bool) (n : Nat) : galoisref02_Make.f s (nat n) = some (ng (sg s n), ab (sg s n)) := IMake_eq s n
theorem RGcd_ev {x y : Int} (hx : (ab x).size ≤ 1099511627776) (hy : (ab y).size ≤ 1099511627776) : Ev (fun k => galoisref02_Gcd.f k (ng x) (ab x) (ng y) (ab y)) (false, nat (Int.gcd x y)) := Ev.bind (rGcd_ev hx hy) (Ev.now _)
theorem RDivMod_ev {x y : Int} (hx : (ab x).size ≤ 1099511627775) (hy : (ab y).size ≤ 1099511627776) (h0 : y ≠ 0) : Ev (fun k => galoisref02_DivMod.f k (ng x) (ab x) (ng y) (ab y)) (ng (x / y), ab (x / y), ng (x % y), ab (x % y)) := by
 have hn : 0 < y.natAbs := by omega
 obtain ⟨d1, d2⟩ := quo_rem (x := x) h0
 have hrem : ng (x % y) = false := ng_pos (Int.emod_nonneg x h0)
 rw [hrem]
 refine Ev.bind (rDivMod_ok (by exact Nat.le_trans hx (by decide)) hy (by omega)) ?_
 by_cases hs : x < 0 ∧ x.natAbs % y.natAbs ≠ 0
 ·obtain ⟨e1, e2⟩ := d1 hs
  refine Ev.congr (fun k => if_pos (ng_neg hs.1)) (Ev.step (fun k => galoisref02_DivMod.j0.eq_2 ..) (Ev.congr (fun k => if_pos (by rw [isEmpty_nat, decide_eq_false hs.2]; rfl)) ?_))
  have hq : (nat (x.natAbs / y.natAbs)).size ≤ 1099511627776 := Nat.le_trans size_div (Nat.le_trans hx (by decide))
  have h3 := rSub_ev (m := y.natAbs) (n := x.natAbs % y.natAbs) hy
  rw [if_neg (by have := Nat.mod_lt x.natAbs hn; omega)] at h3
  refine Ev.bind (rOf_ev (u := 1) (by decide)) (Ev.bind (rAdd_ev hq (by rw [nat_one_size]; decide)) (Ev.bind h3 (ev_some (RMake_eq _ _) ?_)))
  rw [e1, ← e2, ab_nat]
  exact Ev.now _
 ·obtain ⟨e1, e2⟩ := d2 hs
  have next : Ev (fun k => galoisref02_DivMod.j0 k (nat (x.natAbs / y.natAbs)) (nat (x.natAbs % y.natAbs)) false (ng x) (ab x) (ng y) (ab y)) (ng (x / y), ab (x / y), false, ab (x % y)) := by
   refine Ev.step (fun k => galoisref02_DivMod.j0.eq_2 ..) (Ev.congr (fun k => if_neg Bool.false_ne_true) (ev_some (RMake_eq _ _) ?_))
   rw [e1, ← e2, ab_nat]
   exact Ev.now _
  by_cases hx0 : x < 0
  ·have hz : x.natAbs % y.natAbs = 0 := by
    rcases Decidable.em (x.natAbs % y.natAbs = 0) with h | h
    ·exact h
    ·exact absurd ⟨hx0, h⟩ hs
   refine Ev.congr (fun k => if_pos (ng_neg hx0)) ?_
   rw [isEmpty_nat, decide_eq_true hz]
   exact next
  ·exact Ev.congr (fun k => if_neg (by rw [ng_pos (by omega)]; exact Bool.false_ne_true)) next
theorem RDivMod_zero {x : Int} (hx : (ab x).size ≤ 1099511627776) : Ev (fun k => galoisref02_DivMod.f k (ng x) (ab x) (ng 0) (ab 0)) (ng (sg (ng x != ng 0) 0), ab (sg (ng x != ng 0) 0), false, nat 0) := by
 have h3 := rDivMod_ev (m := x.natAbs) (n := 0) hx (by rw [nat_zero]; decide)
 rw [if_pos rfl, ← nat_zero] at h3
 refine Ev.bind h3 ?_
 have next : Ev (fun k => galoisref02_DivMod.j0 k (nat 0) (nat 0) false (ng x) (ab x) (ng 0) (ab 0)) (ng (sg (ng x != ng 0) 0), ab (sg (ng x != ng 0) 0), false, nat 0) := Ev.step (fun k => galoisref02_DivMod.j0.eq_2 ..) (Ev.congr (fun k => if_neg Bool.false_ne_true) (ev_some (RMake_eq _ _) (Ev.now _)))
 by_cases hx0 : ng x = true
 ·refine Ev.congr (fun k => if_pos hx0) ?_
  rw [isEmpty_nat, decide_eq_true rfl]
  exact next
 ·exact Ev.congr (fun k => if_neg hx0) next
end Go.Proofs.YtdhdfcjpeflinaaN
set_option linter.unusedVariables false
namespace Go.Proofs.YtdhdfcjpeflinaaN
open Go.RowKit Go.Proofs.Ytdhdfcjpeflinaa.All Go.Proofs.YtdhdfcjpeflinaaW.PrintWords Go.Proofs.YtdhdfcjpeflinaaW.PrintLast Go.Proofs.YtdhdfcjpeflinaaW.PrintMore
theorem ick_zero {s : Bool} {a : ByteArray} (h : ick s a = 0) : ∃ x : Int, s = ng x ∧ a = ab x ∧ (ab x).size ≤ 1024 := by
 unfold ick at h
 by_cases h1 : chk a = 1
 ·rw [if_pos h1] at h
  exact absurd h (by decide)
 ·rw [if_neg h1] at h
  by_cases h2 : s = true ∧ a.size = 0
  ·rw [if_pos h2] at h
   exact absurd h (by decide)
  ·rw [if_neg h2] at h
   obtain ⟨n, rfl, hn⟩ := number h
   refine ⟨sg s n, ?_, (ab_sg s n).symm, by rw [ab_sg]; exact hn⟩
   rw [ng_sg]
   cases s
   ·rfl
   ·rw [Bool.true_and, decide_eq_false (fun h3 => h2 ⟨rfl, by rw [h3, nat_zero]; rfl⟩)]
    rfl
theorem ick_int {x : Int} (h : (ab x).size ≤ 1024) : ick (ng x) (ab x) = 0 := by
 unfold ick
 have hc : chk (ab x) = 0 := chk_nat h
 rw [hc, if_neg (by decide), if_neg]
 rintro ⟨h1, h2⟩
 have := ab_size_zero.1 h2
 rw [this] at h1
 exact absurd h1 (by decide)
theorem empty_toList' : (⟨#[]⟩ : ByteArray).toList = ([] : List UInt8) := toList_nil.2 rfl
theorem iCheck_ev (s : Bool) (a : ByteArray) : Ev (fun k => integer_Check.f k s a) (ick s a) := by
 refine Ev.bind (Check_ev a) ?_
 by_cases h1 : chk a = 1
 ·have e : ick s a = chk a := by unfold ick; rw [if_pos h1, h1]
  rw [e]
  exact Ev.congr (fun k => if_pos h1) (Ev.now _)
 ·refine Ev.congr (fun k => if_neg h1) (ev_some (a := (false, (⟨#[]⟩ : ByteArray))) rfl ?_)
  by_cases h2 : a.size = 0
  ·have h3 : a.toList = ([] : List UInt8) := toList_nil.2 h2
   cases s
   ·have e : ick false a = chk a := by unfold ick; rw [if_neg h1, if_neg (fun h => Bool.false_ne_true h.1)]
    rw [e]
    exact Ev.congr (fun k => if_neg (by rw [h3, empty_toList']; decide)) (Ev.now _)
   ·have e : ick true a = 1 := by unfold ick; rw [if_neg h1, if_pos ⟨rfl, h2⟩]
    rw [e]
    exact Ev.congr (fun k => if_pos rfl) (Ev.congr (fun k => if_pos h3) (Ev.now _))
  ·have h3 : a.toList ≠ ([] : List UInt8) := fun h => h2 (toList_nil.1 h)
   have e : ick s a = chk a := by unfold ick; rw [if_neg h1, if_neg (fun h => h2 h.2)]
   rw [e]
   by_cases h4 : (!(s == false) || (!(a.toList == (⟨#[]⟩ : ByteArray).toList))) = true
   ·exact Ev.congr (fun k => if_pos h4) (Ev.congr (fun k => if_neg h3) (Ev.now _))
   ·exact Ev.congr (fun k => if_neg h4) (Ev.now _)
def ick2 (s : Bool) (a : ByteArray) (t : Bool) (b : ByteArray) : Int := if ick s a = 0 then ick t b else ick s a
theorem expected2_eq (s : Bool) (a : ByteArray) (t : Bool) (b : ByteArray) : galoislaw02_expected.f s a t b = some (ick2 s a t b) := by
 unfold galoislaw02_expected.f ick2
 rw [rCheck_eq, rCheck_eq, Option.bind_some]
 by_cases h : ick s a = 0
 ·rw [if_pos h, if_pos h]
  rfl
 ·rw [if_neg h, if_neg h]
  rfl
theorem wrap01 : wrap64 (0 + 1) = 1 := by unfold wrap64; omega
theorem wrap11 : wrap64 (1 + 1) = 2 := by unfold wrap64; omega
theorem ifirst2 (s : Bool) (a : ByteArray) (t : Bool) (b : ByteArray) : Ev (fun k => integer_first.f k [⟨s, a⟩, ⟨t, b⟩]) (ick2 s a t b) := by
 show Ev (fun k => integer_first.l0 k [⟨s, a⟩, ⟨t, b⟩] 2 0) _
 refine Ev.step (fun k => integer_first.l0.eq_2 ..) (Ev.congr (fun k => if_pos (by decide)) (Ev.congr (fun k => if_pos (by decide)) (Ev.congr (fun k => if_pos (show (0 : Int) < 2 by decide)) (Ev.bind (iCheck_ev s a) ?_))))
 by_cases h : ick s a = 0
 ·have e : ick2 s a t b = ick t b := by unfold ick2; rw [if_pos h]
  rw [e]
  refine Ev.congr (fun k => if_pos h) ?_
  rw [wrap01]
  refine Ev.step (fun k => integer_first.l0.eq_2 ..) (Ev.congr (fun k => if_pos (by decide)) (Ev.congr (fun k => if_pos (by decide)) (Ev.congr (fun k => if_pos (show (1 : Int) < 2 by decide)) (Ev.bind (iCheck_ev t b) ?_))))
  by_cases h2 : ick t b = 0
  ·refine Ev.congr (fun k => if_pos h2) ?_
   rw [wrap11, h2]
   exact Ev.step (fun k => integer_first.l0.eq_2 ..) (Ev.congr (fun k => if_neg (by decide)) (Ev.now _))
  ·exact Ev.congr (fun k => if_neg h2) (Ev.now _)
 ·have e : ick2 s a t b = ick s a := by unfold ick2; rw [if_neg h]
  rw [e]
  exact Ev.congr (fun k => if_neg h) (Ev.now _)
def ibnd (x : Int) : Bool × ByteArray × Int := if ((ab x).size : Int) > 1024 then (false, ⟨#[]⟩, 4) else (ng x, ab x, 0)
theorem bnd_some (x : Int) : (if ((ab x).size : Int) > 1024 then some (false, (⟨#[]⟩ : ByteArray), (4 : Int)) else some (ng x, ab x, 0)) = some (ibnd x) := by
 unfold ibnd
 by_cases h : ((ab x).size : Int) > 1024
 ·rw [if_pos h, if_pos h]
 ·rw [if_neg h, if_neg h]
theorem ibnd_ok {x : Int} (h : (ab x).size ≤ 1024) : ibnd x = (ng x, ab x, 0) := if_neg (by omega)
section
variable {x y : Int} (hx : (ab x).size ≤ 1024) (hy : (ab y).size ≤ 1024)
theorem ok2 {x y : Int} (hx : (ab x).size ≤ 1024) (hy : (ab y).size ≤ 1024) : ick2 (ng x) (ab x) (ng y) (ab y) = 0 := by
 unfold ick2
 rw [if_pos (ick_int hx), ick_int hy]
include hx in
include hx in
include hx hy in
include hx hy in
include hx hy in
include hx hy in
theorem iGcd_ev : Ev (fun k => integer_Gcd.f k (ng x) (ab x) (ng y) (ab y)) (ibnd (Int.gcd x y)) := by
 have h := ifirst2 (ng x) (ab x) (ng y) (ab y)
 rw [ok2 hx hy] at h
 have e := bnd_some ((Int.gcd x y : Nat) : Int)
 rw [ng_nat, ab_nat] at e
 exact Ev.bind h (Ev.congr (fun k => if_pos rfl) (Ev.bind (IGcd_ev (by omega) (by omega)) (Ev.congr (fun k => e) (Ev.now _))))
include hx hy in
include hx in
def idm (x y : Int) : Bool × ByteArray × Bool × ByteArray × Int := if ((ab (x / y)).size : Int) > 1024 then (false, ⟨#[]⟩, false, ⟨#[]⟩, 4) else (ng (x / y), ab (x / y), ng (x % y), ab (x % y), 0)
include hx hy in
theorem iDivMod_ev (h0 : y ≠ 0) : Ev (fun k => integer_DivMod.f k (ng x) (ab x) (ng y) (ab y)) (idm x y) := by
 have h := ifirst2 (ng x) (ab x) (ng y) (ab y)
 rw [ok2 hx hy] at h
 refine Ev.bind h (Ev.congr (fun k => if_pos rfl) (ev_some (a := (false, (⟨#[]⟩ : ByteArray))) rfl (Ev.congr (fun k => if_neg ?_) (Ev.bind (IDivMod_ev (by omega) (by omega) h0) ?_))))
 ·have h1 : (ab y).toList ≠ (⟨#[]⟩ : ByteArray).toList := fun h => h0 (ab_empty.1 (h.trans empty_toList'))
  have h2 : ((ab y).toList == (⟨#[]⟩ : ByteArray).toList) = false := beq_eq_false_iff_ne.2 h1
  rw [h2, Bool.and_false]
  exact Bool.false_ne_true
 ·by_cases h3 : ((ab (x / y)).size : Int) > 1024
  ·have e : idm x y = (false, ⟨#[]⟩, false, ⟨#[]⟩, 4) := if_pos h3
   rw [e]
   exact Ev.congr (fun k => if_pos h3) (Ev.now _)
  ·have e : idm x y = (ng (x / y), ab (x / y), ng (x % y), ab (x % y), 0) := if_neg h3
   rw [e]
   exact Ev.congr (fun k => if_neg h3) (Ev.now _)
include hx in
theorem iDivMod_zero : Ev (fun k => integer_DivMod.f k (ng x) (ab x) (ng 0) (ab 0)) (false, ⟨#[]⟩, false, ⟨#[]⟩, 6) := by
 have h := ifirst2 (ng x) (ab x) (ng 0) (ab 0)
 rw [ok2 hx (by decide +kernel)] at h
 refine Ev.bind h (Ev.congr (fun k => if_pos rfl) (ev_some (a := (false, (⟨#[]⟩ : ByteArray))) rfl (Ev.congr (fun k => if_pos (by decide +kernel)) (Ev.now _))))
end
section
variable {s t : Bool} {a b : ByteArray} {e : Int}
theorem iDivMod_err (he : ick2 s a t b = e) (h : e ≠ 0) : Ev (fun k => integer_DivMod.f k s a t b) (false, ⟨#[]⟩, false, ⟨#[]⟩, e) := by
 have := ifirst2 s a t b
 rw [he] at this
 exact Ev.bind this (Ev.congr (fun k => if_neg h) (Ev.now _))
theorem iGcd_err (he : ick2 s a t b = e) (h : e ≠ 0) : Ev (fun k => integer_Gcd.f k s a t b) (false, ⟨#[]⟩, e) := by
 have := ifirst2 s a t b
 rw [he] at this
 exact Ev.bind this (Ev.congr (fun k => if_neg h) (Ev.now _))
theorem iValuation_err {p : Int} (he : ick s a = e) (h : e ≠ 0) : Ev (fun k => integer_Valuation.f k s a p) (0, false, ⟨#[]⟩, e) := by
 have := iCheck_ev s a
 rw [he] at this
 exact Ev.bind this (Ev.congr (fun k => if_neg h) (Ev.now _))
end
theorem iright_err {e : Int} (h : e ≠ 0) (t : Bool) (w : ByteArray) : galoislaw02_right.f false ⟨#[]⟩ e e t w = some true := by
 unfold galoislaw02_right.f
 rw [if_neg h, if_pos (by rw [empty_toList']; rfl), beq_self_eq_true]
theorem iright_bnd (x : Int) : galoislaw02_right.f (ibnd x).1 (ibnd x).2.1 (ibnd x).2.2 0 (ng x) (ab x) = some true := by
 unfold galoislaw02_right.f ibnd
 rw [if_pos rfl, rFits_eq, Option.bind_some]
 by_cases h : ((ab x).size : Int) > 1024
 ·rw [if_pos h, if_pos h, if_neg (by decide), if_pos (by rw [empty_toList']; rfl)]
  rfl
 ·rw [if_neg h, if_neg h, if_pos rfl, if_pos (by rw [beq_self_eq_true, beq_self_eq_true]; rfl)]
  rfl
theorem iright_ok {x : Int} (h : (ab x).size ≤ 1024) : galoislaw02_right.f (ng x) (ab x) 0 0 (ng x) (ab x) = some true := by
 have := iright_bnd x
 rwa [ibnd_ok h] at this
theorem ilong_eq (s : Bool) (a : ByteArray) (t : Bool) (b : ByteArray) (n : Int) : galoislaw02_long.f s a t b n = some (decide ((a.size : Int) > n) || decide ((b.size : Int) > n)) := by
 unfold galoislaw02_long.f
 by_cases h : (a.size : Int) > n
 ·rw [if_pos h, decide_eq_true h]
  rfl
 ·rw [if_neg h, decide_eq_false h]
  rfl
theorem iOf_ev {x : Int} (h1 : -9223372036854775808 ≤ x) (h2 : x < 9223372036854775808) : Ev (fun k => integer_Of.f k x) (ng x, ab x) := by
 refine Ev.bind (a := (ng x, ab x)) ?_ (Ev.now _)
 by_cases h : x < 0
 ·rw [ng_neg h]
  have e : IntKind.u64.wrap (-(IntKind.u64.wrap x)) = ((x.natAbs : Nat) : Int) := by
   rw [IntKind.wrap_u64, IntKind.wrap_u64]
   omega
  have := NatOf_ev (u := x.natAbs) (by omega)
  rw [← e] at this
  exact Ev.congr (fun k => if_pos h) (Ev.bind this (Ev.now _))
 ·rw [ng_pos (by omega)]
  have e : IntKind.u64.wrap x = ((x.natAbs : Nat) : Int) := by
   rw [IntKind.wrap_u64]
   omega
  have := NatOf_ev (u := x.natAbs) (by omega)
  rw [← e] at this
  exact Ev.congr (fun k => if_neg h) (Ev.bind this (Ev.now _))
end Go.Proofs.YtdhdfcjpeflinaaN
set_option linter.unusedVariables false
namespace Go.Proofs.YtdhdfcjpeflinaaN
open Go.RowKit Go.Proofs.Ytdhdfcjpeflinaa.All Go.Proofs.YtdhdfcjpeflinaaW.PrintWords Go.Proofs.YtdhdfcjpeflinaaW.PrintLast Go.Proofs.YtdhdfcjpeflinaaW.PrintMore
theorem mod_zero {x p : Int} : x.natAbs % p.natAbs = 0 ↔ x % p = 0 := by
 rw [← Nat.dvd_iff_mod_eq_zero, ← Int.dvd_iff_emod_eq_zero]
 exact Int.natAbs_dvd_natAbs
theorem val_step {x p : Int} (hp : 2 ≤ p) (h : x % p = 0) : x = p * (x / p) ∧ ng (x / p) = ng x ∧ (x / p).natAbs = x.natAbs / p.natAbs := by
 have h1 : p * (x / p) = x := Int.mul_ediv_cancel' (Int.dvd_of_emod_eq_zero h)
 have h2 : x.natAbs = p.natAbs * (x / p).natAbs := by rw [← Int.natAbs_mul, h1]
 refine ⟨h1.symm, ?_, ?_⟩
 ·unfold ng
  rw [decide_eq_decide]
  constructor
  ·intro h3
   rw [← h1]
   exact Int.mul_neg_of_pos_of_neg (by omega) h3
  ·intro h3
   rcases Int.lt_or_le (x / p) 0 with h4 | h4
   ·exact h4
   ·have := Int.mul_nonneg (show 0 ≤ p by omega) h4
    omega
 ·rw [h2, Nat.mul_div_cancel_left _ (by omega)]
theorem zero_test (s : Bool) (a : ByteArray) (h : a.toList ≠ ([] : List UInt8)) : (!(s == (false, (⟨#[]⟩ : ByteArray)).1) || (!(a.toList == (false, (⟨#[]⟩ : ByteArray)).2.toList))) = true := by
 show (!(s == false) || (!(a.toList == (⟨#[]⟩ : ByteArray).toList))) = true
 rw [empty_toList', beq_eq_false_iff_ne.2 h, Bool.not_false, Bool.or_true]
theorem zero_test0 : ¬ (!(ng 0 == (false, (⟨#[]⟩ : ByteArray)).1) || (!((ab 0).toList == (false, (⟨#[]⟩ : ByteArray)).2.toList))) = true := by decide +kernel
theorem val_l0 {p : Int} (hp : 2 ≤ p) (hp1 : p < 9223372036854775808) : ∀ (N : Nat) (x : Int), x ≠ 0 → x.natAbs < 2 ^ N → N ≤ 100000 → (ab x).size ≤ 1024 →
  ∃ (m : Nat) (y : Int), x = p ^ m * y ∧ y % p ≠ 0 ∧ m ≤ N ∧ (ab y).size ≤ (ab x).size ∧ ∀ c : Nat, c + N ≤ 1000000 → Ev (fun k => integer_Valuation.l0 k p (c : Int) (ng x) (ab x)) (((c + m : Nat) : Int), ng y, ab y, 0) ∧ Ev (fun k => galoisref02_Valuation.l0 k (c : Int) (nat p.natAbs) (ng x) (ab x)) (((c + m : Nat) : Int), ng y, ab y)
 | 0, x, h0, hx, _, _ => absurd (show x.natAbs = 0 by omega) (by omega)
 | N + 1, x, h0, hx, hN, hs => by
  have sp : (ab p).size ≤ 8 := nat_word.2 (by omega)
  have hab : (ab x).toList ≠ ([] : List UInt8) := fun h => h0 (ab_empty.1 h)
  have rd := rDivMod_ok (m := x.natAbs) (n := p.natAbs) (by exact Nat.le_trans hs (by decide)) (by exact Nat.le_trans sp (by decide)) (by omega)
  by_cases h : x % p = 0
  ·obtain ⟨e1, e2, e3⟩ := val_step hp h
   have hq0 : x / p ≠ 0 := fun h' => h0 (by rw [e1, h', Int.mul_zero])
   have hq : (x / p).natAbs < 2 ^ N := by
    rw [e3]
    refine Nat.lt_of_le_of_lt (Nat.div_le_div_left (show 2 ≤ p.natAbs by omega) (by decide)) ?_
    rw [Nat.pow_succ] at hx
    omega
   have hsz : (ab (x / p)).size ≤ (ab x).size := by
    unfold ab
    rw [e3]
    exact size_div
   obtain ⟨m, y, i1, i2, i3, i4, i5⟩ := val_l0 hp hp1 N (x / p) hq0 hq (by omega) (by omega)
   refine ⟨m + 1, y, ?_, i2, by omega, by omega, fun c hc => ?_⟩
   ·rw [Int.pow_succ, Int.mul_comm (p ^ m) p, Int.mul_assoc, ← i1]
    exact e1
   ·obtain ⟨j1, j2⟩ := i5 (c + 1) (by omega)
    have ew : wrap64 ((c : Int) + 1) = ((c + 1 : Nat) : Int) := by
     rw [w64 (by omega) (by omega)]
     omega
    rw [show c + (m + 1) = c + 1 + m by omega]
    constructor
    ·refine Ev.step (fun k => integer_Valuation.l0.eq_2 ..) (Ev.bind (iOf_ev (by omega) hp1) (Ev.bind (IDivMod_ev (by omega) (by omega) (by omega)) (ev_some (a := (false, (⟨#[]⟩ : ByteArray))) rfl ?_)))
     rw [h]
     refine Ev.congr (fun k => if_neg zero_test0) ?_
     rw [ew]
     exact j1
    ·refine Ev.step (fun k => galoisref02_Valuation.l0.eq_2 ..) (Ev.congr (fun k => if_neg hab) (Ev.bind rd (Ev.congr (fun k => if_pos (nat_empty.2 (mod_zero.2 h))) ?_)))
     rw [ew]
     show Ev (fun k => galoisref02_Valuation.l0 k ((c + 1 : Nat) : Int) (nat p.natAbs) (ng x) (nat (x.natAbs / p.natAbs))) _
     rw [← e3, ← e2]
     exact j2
  ·refine ⟨0, x, by rw [Int.pow_zero, Int.one_mul], h, by omega, Nat.le_refl _, fun c hc => ⟨?_, ?_⟩⟩
   ·refine Ev.step (fun k => integer_Valuation.l0.eq_2 ..) (Ev.bind (iOf_ev (by omega) hp1) (Ev.bind (IDivMod_ev (by omega) (by omega) (by omega)) (ev_some (a := (false, (⟨#[]⟩ : ByteArray))) rfl (Ev.congr (fun k => if_pos (zero_test _ _ (fun h' => h (ab_empty.1 h')))) (Ev.now _)))))
   ·exact Ev.step (fun k => galoisref02_Valuation.l0.eq_2 ..) (Ev.congr (fun k => if_neg hab) (Ev.bind rd (Ev.congr (fun k => if_neg (fun h' => h (mod_zero.1 (nat_empty.1 h')))) (Ev.now _))))
theorem Valuation_ev {x p : Int} (hx : (ab x).size ≤ 1024) (h0 : x ≠ 0) (hp : 2 ≤ p) (hp1 : p < 9223372036854775808) : ∃ (m : Nat) (y : Int), x = p ^ m * y ∧ y % p ≠ 0 ∧ m ≤ 8192 ∧ (ab y).size ≤ (ab x).size ∧ Ev (fun k => integer_Valuation.f k (ng x) (ab x) p) ((m : Int), ng y, ab y, 0) ∧ Ev (fun k => galoisref02_Valuation.f k (ng x) (ab x) p) ((m : Int), ng y, ab y) := by
 have hb : x.natAbs < 2 ^ 8192 := by
  have h2 : ∀ N n, N = 8 * n → (ab x).size ≤ n → x.natAbs < 2 ^ N := fun N n e hn => by
   rw [e, Nat.pow_mul]
   exact nat_size_le.1 hn
  exact h2 8192 1024 (by decide) hx
 obtain ⟨m, y, i1, i2, i3, i4, i5⟩ := val_l0 hp hp1 8192 x h0 hb (by decide) hx
 obtain ⟨j1, j2⟩ := i5 0 (by decide)
 rw [Nat.zero_add] at j1 j2
 have hc := iCheck_ev (ng x) (ab x)
 rw [ick_int hx] at hc
 refine ⟨m, y, i1, i2, i3, i4, ?_, ?_⟩
 ·refine Ev.bind hc (Ev.congr (fun k => if_pos rfl) (Ev.congr (fun k => if_neg (by omega)) (ev_some (a := (false, (⟨#[]⟩ : ByteArray))) rfl (Ev.congr (fun k => if_neg ?_) j1))))
  show ¬ ((ng x == false) && ((ab x).toList == (⟨#[]⟩ : ByteArray).toList)) = true
  rw [empty_toList', beq_eq_false_iff_ne.2 (fun h => h0 (ab_empty.1 h)), Bool.and_false]
  exact Bool.false_ne_true
 ·have h1 := rFromInt_ev (u := p.natAbs) (by omega)
  rw [show ((p.natAbs : Nat) : Int) = p by omega] at h1
  exact Ev.bind h1 j2
theorem Valuation_range {x p : Int} (hx : (ab x).size ≤ 1024) (hp : p < 2) : Ev (fun k => integer_Valuation.f k (ng x) (ab x) p) (0, false, ⟨#[]⟩, 3) := by
 have hc := iCheck_ev (ng x) (ab x)
 rw [ick_int hx] at hc
 exact Ev.bind hc (Ev.congr (fun k => if_pos rfl) (Ev.congr (fun k => if_pos hp) (Ev.now _)))
theorem Valuation_zero {p : Int} (hp : 2 ≤ p) : Ev (fun k => integer_Valuation.f k (ng 0) (ab 0) p) (0, false, ⟨#[]⟩, 6) := by
 have hc := iCheck_ev (ng 0) (ab 0)
 rw [ick_int (by decide +kernel)] at hc
 exact Ev.bind hc (Ev.congr (fun k => if_pos rfl) (Ev.congr (fun k => if_neg (by omega)) (ev_some (a := (false, (⟨#[]⟩ : ByteArray))) rfl (Ev.congr (fun k => if_pos (by decide +kernel)) (Ev.now _)))))
end Go.Proofs.YtdhdfcjpeflinaaN
set_option linter.unusedVariables false
set_option linter.unusedSimpArgs false
set_option maxRecDepth 100000
namespace Go.Proofs.YtdhdfcjpeflinaaV
open Go Go.RowKit Go.Proofs.Ytdhdfcjpeflinaa Go.Proofs.YtdhdfcjpeflinaaE Go.Proofs.YtdhdfcjpeflinaaN Go.Proofs.Ytdhdfcjpeflinaa.All Go.Proofs.YtdhdfcjpeflinaaW.PrintWords Go.Proofs.YtdhdfcjpeflinaaW.PrintLast Go.Proofs.YtdhdfcjpeflinaaW.PrintMore
theorem natAbs_sg (s : Bool) (n : Nat) : (sg s n).natAbs = n := by unfold sg; split <;> omega
theorem size_quo {x y : Int} (h0 : y ≠ 0) : (ab (x / y)).size ≤ (ab x).size := by
 obtain ⟨d1, d2⟩ := quo_rem (x := x) h0
 have hd := Nat.div_add_mod x.natAbs y.natAbs
 unfold ab
 refine size_mono ?_
 by_cases hs : x < 0 ∧ x.natAbs % y.natAbs ≠ 0
 ·rw [← (d1 hs).1]
  have h2 : 2 ≤ y.natAbs := by
   rcases Nat.lt_or_ge y.natAbs 2 with h | h
   ·have h1 : y.natAbs = 1 := by omega
    have := hs.2
    rw [h1, Nat.mod_one] at this
    exact absurd rfl this
   ·exact h
  have h3 := Nat.mul_le_mul_right (x.natAbs / y.natAbs) h2
  rw [natAbs_sg]
  omega
 ·rw [← (d2 hs).1]
  rw [natAbs_sg]
  exact Nat.div_le_self _ _
theorem size_rem {x y : Int} (h0 : y ≠ 0) : (ab (x % y)).size ≤ (ab y).size := by
 obtain ⟨d1, d2⟩ := quo_rem (x := x) h0
 have hr := Nat.mod_lt x.natAbs (show 0 < y.natAbs by omega)
 unfold ab
 refine size_mono ?_
 by_cases hs : x < 0 ∧ x.natAbs % y.natAbs ≠ 0
 ·rw [← (d1 hs).2, Int.natAbs_natCast]
  omega
 ·rw [← (d2 hs).2, Int.natAbs_natCast]
  omega
theorem idm_ok {x y : Int} (hx : (ab x).size ≤ 1024) (h0 : y ≠ 0) : idm x y = (ng (x / y), ab (x / y), ng (x % y), ab (x % y), 0) := if_neg (by have := size_quo (x := x) h0; omega)
theorem right_gcd (x y : Int) : galoislaw02_right.f (ibnd (Int.gcd x y)).1 (ibnd (Int.gcd x y)).2.1 (ibnd (Int.gcd x y)).2.2 0 false (nat (Int.gcd x y)) = some true := by
 have h := iright_bnd ((Int.gcd x y : Nat) : Int)
 rwa [ng_nat, ab_nat] at h
theorem quotients_ev (a0 : Bool) (a1 : ByteArray) (b0 : Bool) (b1 : ByteArray) (p : Int) (hp : (Lit.int .i64 p).wf = true) : Ev (fun k => FX3 k (a0, a1) (b0, b1) p) true := by
 obtain ⟨K0, aw⟩ := awake_ev
 have hp2 : -9223372036854775808 ≤ p ∧ p < 9223372036854775808 := by
  simp only [Lit.wf, Bool.and_eq_true, decide_eq_true_eq] at hp
  have e1 : IntKind.min .i64 = -9223372036854775808 := by decide
  have e2 : IntKind.max .i64 = 9223372036854775807 := by decide
  omega
 have hl := ilong_eq a0 a1 b0 b1 100
 by_cases hlong : (decide ((a1.size : Int) > 100) || decide ((b1.size : Int) > 100)) = true
 ·rw [hlong] at hl
  refine ⟨K0, fun k hk => ?_⟩
  replace aw := aw k (by omega)
  dsimp only at *
  show FX3 _ _ _ _ = _
  unfold FX3 B3
  simp only [FX12, FX13, FX14, FX15, FX16, FX17, FX18, FX19, FX20, FX21, FX22, cnd_eq_if, bind_some_, toList_mk, List.toList_toArray, beq_iff_eq, if_true, if_false, ne_eq, not_true_eq_false, not_false_eq_true, Bool.not_true, Bool.not_false, Bool.false_eq_true, Int.reduceEq, reduceCtorEq, Bool.not_eq_true', ite_not, eq_self, aw, hl]
 ·rw [Bool.eq_false_iff.2 hlong] at hl
  have hc := rCheck_eq a0 a1
  have hx := expected2_eq a0 a1 b0 b1
  by_cases ha : ick a0 a1 = 0
  ·obtain ⟨x, rfl, rfl, sx⟩ := ick_zero ha
   have sx2 : (ab x).size ≤ 100 := by
    rcases Decidable.em (((ab x).size : Int) > 100) with h | h
    ·exact absurd (by rw [decide_eq_true h, Bool.true_or]) hlong
    ·omega
   rw [ha] at hc
   by_cases hb : ick b0 b1 = 0
   ·obtain ⟨y, rfl, rfl, sy⟩ := ick_zero hb
    rw [ok2 sx sy] at hx
    have h3 := iGcd_ev sx sy
    have h8 := RGcd_ev (x := x) (y := y) (by omega) (by omega)
    by_cases hy : y = 0
    ·subst hy
     have h2 := iDivMod_zero sx
     have h6 := RDivMod_zero (x := x) (by omega)
     have r6 := iright_err (e := 6) (by decide) (ng x) (ab x)
     have eb : (ab 0).toList = ([] : List UInt8) := ab_empty.2 rfl
     by_cases h1 : p < 2
     ·have h4 := Valuation_range (p := p) sx h1
      obtain ⟨K2, h2⟩ := h2
      obtain ⟨K3, h3⟩ := h3
      obtain ⟨K4, h4⟩ := h4
      obtain ⟨K6, h6⟩ := h6
      obtain ⟨K8, h8⟩ := h8
      refine ⟨K0 + K2 + K3 + K4 + K6 + K8, fun k hk => ?_⟩
      replace aw := aw k (by omega)
      replace h2 := h2 k (by omega)
      replace h3 := h3 k (by omega)
      replace h4 := h4 k (by omega)
      replace h6 := h6 k (by omega)
      replace h8 := h8 k (by omega)
      have f1 := iright_err (e := 3) (by decide)
      have f2 := right_gcd x 0
      dsimp only at *
      show FX3 _ _ _ _ = _
      unfold FX3 B3
      simp only [FX12, FX13, FX14, FX15, FX16, FX17, FX18, FX19, FX20, FX21, FX22, cnd_eq_if, bind_some_, toList_mk, List.toList_toArray, beq_iff_eq, if_true, if_false, ne_eq, not_true_eq_false, not_false_eq_true, Bool.not_true, Bool.not_false, Bool.false_eq_true, Int.reduceEq, reduceCtorEq, Bool.not_eq_true', ite_not, eq_self, aw, h2, h3, h4, h6, h8, hl, hc, hx, f1, r6, f2, h1, eb]
     ·by_cases hx0 : x = 0
      ·subst hx0
       have h4 := Valuation_zero (p := p) (by omega)
       obtain ⟨K2, h2⟩ := h2
       obtain ⟨K3, h3⟩ := h3
       obtain ⟨K4, h4⟩ := h4
       obtain ⟨K6, h6⟩ := h6
       obtain ⟨K8, h8⟩ := h8
       refine ⟨K0 + K2 + K3 + K4 + K6 + K8, fun k hk => ?_⟩
       replace aw := aw k (by omega)
       replace h2 := h2 k (by omega)
       replace h3 := h3 k (by omega)
       replace h4 := h4 k (by omega)
       replace h6 := h6 k (by omega)
       replace h8 := h8 k (by omega)
       have f1 := iright_err (e := 6) (by decide)
       have f2 := right_gcd 0 0
       dsimp only at *
       show FX3 _ _ _ _ = _
       unfold FX3 B3
       simp only [FX12, FX13, FX14, FX15, FX16, FX17, FX18, FX19, FX20, FX21, FX22, cnd_eq_if, bind_some_, toList_mk, List.toList_toArray, beq_iff_eq, if_true, if_false, ne_eq, not_true_eq_false, not_false_eq_true, Bool.not_true, Bool.not_false, Bool.false_eq_true, Int.reduceEq, reduceCtorEq, Bool.not_eq_true', ite_not, eq_self, aw, h2, h3, h4, h6, h8, hl, hc, hx, f1, r6, f2, h1, eb]
      ·obtain ⟨m, z, i1, i2, i3, i4, i5, i6⟩ := Valuation_ev sx hx0 (show 2 ≤ p by omega) hp2.2
       have h4 := i5
       have h5 := i6
       obtain ⟨K2, h2⟩ := h2
       obtain ⟨K3, h3⟩ := h3
       obtain ⟨K4, h4⟩ := h4
       obtain ⟨K5, h5⟩ := h5
       obtain ⟨K6, h6⟩ := h6
       obtain ⟨K8, h8⟩ := h8
       refine ⟨K0 + K2 + K3 + K4 + K5 + K6 + K8, fun k hk => ?_⟩
       replace aw := aw k (by omega)
       replace h2 := h2 k (by omega)
       replace h3 := h3 k (by omega)
       replace h4 := h4 k (by omega)
       replace h5 := h5 k (by omega)
       replace h6 := h6 k (by omega)
       replace h8 := h8 k (by omega)
       have f1 := iright_ok (x := z) (by omega)
       have f2 := right_gcd x 0
       have f3 : ¬ (ab x).toList = ([] : List UInt8) := fun h => hx0 (ab_empty.1 h)
       dsimp only at *
       show FX3 _ _ _ _ = _
       unfold FX3 B3
       simp only [FX12, FX13, FX14, FX15, FX16, FX17, FX18, FX19, FX20, FX21, FX22, cnd_eq_if, bind_some_, toList_mk, List.toList_toArray, beq_iff_eq, if_true, if_false, ne_eq, not_true_eq_false, not_false_eq_true, Bool.not_true, Bool.not_false, Bool.false_eq_true, Int.reduceEq, reduceCtorEq, Bool.not_eq_true', ite_not, eq_self, aw, h2, h3, h4, h5, h6, h8, hl, hc, hx, f1, r6, f2, h1, f3, eb]
    ·have h2 := iDivMod_ev sx sy hy
     rw [idm_ok sx hy] at h2
     have h2 := h2
     have h6 := RDivMod_ev (x := x) (y := y) (by omega) (by omega) hy
     have rq := iright_ok (x := x / y) (by have := size_quo (x := x) hy; omega)
     have rr := iright_ok (x := x % y) (by have := size_rem (x := x) hy; omega)
     have eb : (ab y).toList ≠ ([] : List UInt8) := fun h => hy (ab_empty.1 h)
     by_cases h1 : p < 2
     ·have h4 := Valuation_range (p := p) sx h1
      obtain ⟨K2, h2⟩ := h2
      obtain ⟨K3, h3⟩ := h3
      obtain ⟨K4, h4⟩ := h4
      obtain ⟨K6, h6⟩ := h6
      obtain ⟨K8, h8⟩ := h8
      refine ⟨K0 + K2 + K3 + K4 + K6 + K8, fun k hk => ?_⟩
      replace aw := aw k (by omega)
      replace h2 := h2 k (by omega)
      replace h3 := h3 k (by omega)
      replace h4 := h4 k (by omega)
      replace h6 := h6 k (by omega)
      replace h8 := h8 k (by omega)
      have f1 := iright_err (e := 3) (by decide)
      have f2 := right_gcd x y
      dsimp only at *
      show FX3 _ _ _ _ = _
      unfold FX3 B3
      simp only [FX12, FX13, FX14, FX15, FX16, FX17, FX18, FX19, FX20, FX21, FX22, cnd_eq_if, bind_some_, toList_mk, List.toList_toArray, beq_iff_eq, if_true, if_false, ne_eq, not_true_eq_false, not_false_eq_true, Bool.not_true, Bool.not_false, Bool.false_eq_true, Int.reduceEq, reduceCtorEq, Bool.not_eq_true', ite_not, eq_self, aw, h2, h3, h4, h6, h8, hl, hc, hx, f1, rq, rr, f2, h1, eb]
     ·by_cases hx0 : x = 0
      ·subst hx0
       have h4 := Valuation_zero (p := p) (by omega)
       obtain ⟨K2, h2⟩ := h2
       obtain ⟨K3, h3⟩ := h3
       obtain ⟨K4, h4⟩ := h4
       obtain ⟨K6, h6⟩ := h6
       obtain ⟨K8, h8⟩ := h8
       refine ⟨K0 + K2 + K3 + K4 + K6 + K8, fun k hk => ?_⟩
       replace aw := aw k (by omega)
       replace h2 := h2 k (by omega)
       replace h3 := h3 k (by omega)
       replace h4 := h4 k (by omega)
       replace h6 := h6 k (by omega)
       replace h8 := h8 k (by omega)
       have f1 := iright_err (e := 6) (by decide)
       have f2 := right_gcd 0 y
       have f3 := ab_empty.2 rfl
       dsimp only at *
       show FX3 _ _ _ _ = _
       unfold FX3 B3
       simp only [FX12, FX13, FX14, FX15, FX16, FX17, FX18, FX19, FX20, FX21, FX22, cnd_eq_if, bind_some_, toList_mk, List.toList_toArray, beq_iff_eq, if_true, if_false, ne_eq, not_true_eq_false, not_false_eq_true, Bool.not_true, Bool.not_false, Bool.false_eq_true, Int.reduceEq, reduceCtorEq, Bool.not_eq_true', ite_not, eq_self, aw, h2, h3, h4, h6, h8, hl, hc, hx, f1, rq, rr, f2, h1, f3, eb]
      ·obtain ⟨m, z, i1, i2, i3, i4, i5, i6⟩ := Valuation_ev sx hx0 (show 2 ≤ p by omega) hp2.2
       have h4 := i5
       have h5 := i6
       obtain ⟨K2, h2⟩ := h2
       obtain ⟨K3, h3⟩ := h3
       obtain ⟨K4, h4⟩ := h4
       obtain ⟨K5, h5⟩ := h5
       obtain ⟨K6, h6⟩ := h6
       obtain ⟨K8, h8⟩ := h8
       refine ⟨K0 + K2 + K3 + K4 + K5 + K6 + K8, fun k hk => ?_⟩
       replace aw := aw k (by omega)
       replace h2 := h2 k (by omega)
       replace h3 := h3 k (by omega)
       replace h4 := h4 k (by omega)
       replace h5 := h5 k (by omega)
       replace h6 := h6 k (by omega)
       replace h8 := h8 k (by omega)
       have f1 := iright_ok (x := z) (by omega)
       have f2 := right_gcd x y
       have f3 : ¬ (ab x).toList = ([] : List UInt8) := fun h => hx0 (ab_empty.1 h)
       dsimp only at *
       show FX3 _ _ _ _ = _
       unfold FX3 B3
       simp only [FX12, FX13, FX14, FX15, FX16, FX17, FX18, FX19, FX20, FX21, FX22, cnd_eq_if, bind_some_, toList_mk, List.toList_toArray, beq_iff_eq, if_true, if_false, ne_eq, not_true_eq_false, not_false_eq_true, Bool.not_true, Bool.not_false, Bool.false_eq_true, Int.reduceEq, reduceCtorEq, Bool.not_eq_true', ite_not, eq_self, aw, h2, h3, h4, h5, h6, h8, hl, hc, hx, f1, rq, rr, f2, h1, f3, eb]
   ·have he : ick2 (ng x) (ab x) b0 b1 = ick b0 b1 := by unfold ick2; rw [if_pos ha]
    rw [he] at hx
    have h2 := iDivMod_err he hb
    have h3 := iGcd_err he hb
    have re := iright_err hb (ng x) (ab x)
    by_cases h1 : p < 2
    ·have h4 := Valuation_range (p := p) sx h1
     obtain ⟨K2, h2⟩ := h2
     obtain ⟨K3, h3⟩ := h3
     obtain ⟨K4, h4⟩ := h4
     refine ⟨K0 + K2 + K3 + K4, fun k hk => ?_⟩
     replace aw := aw k (by omega)
     replace h2 := h2 k (by omega)
     replace h3 := h3 k (by omega)
     replace h4 := h4 k (by omega)
     have f1 := iright_err (e := 3) (by decide)
     dsimp only at *
     show FX3 _ _ _ _ = _
     unfold FX3 B3
     simp only [FX12, FX13, FX14, FX15, FX16, FX17, FX18, FX19, FX20, FX21, FX22, cnd_eq_if, bind_some_, toList_mk, List.toList_toArray, beq_iff_eq, if_true, if_false, ne_eq, not_true_eq_false, not_false_eq_true, Bool.not_true, Bool.not_false, Bool.false_eq_true, Int.reduceEq, reduceCtorEq, Bool.not_eq_true', ite_not, eq_self, aw, h2, h3, h4, hl, hc, hx, f1, re, h1, hb]
    ·by_cases hx0 : x = 0
     ·subst hx0
      have h4 := Valuation_zero (p := p) (by omega)
      obtain ⟨K2, h2⟩ := h2
      obtain ⟨K3, h3⟩ := h3
      obtain ⟨K4, h4⟩ := h4
      refine ⟨K0 + K2 + K3 + K4, fun k hk => ?_⟩
      replace aw := aw k (by omega)
      replace h2 := h2 k (by omega)
      replace h3 := h3 k (by omega)
      replace h4 := h4 k (by omega)
      have f1 := iright_err (e := 6) (by decide)
      have f2 := ab_empty.2 rfl
      dsimp only at *
      show FX3 _ _ _ _ = _
      unfold FX3 B3
      simp only [FX12, FX13, FX14, FX15, FX16, FX17, FX18, FX19, FX20, FX21, FX22, cnd_eq_if, bind_some_, toList_mk, List.toList_toArray, beq_iff_eq, if_true, if_false, ne_eq, not_true_eq_false, not_false_eq_true, Bool.not_true, Bool.not_false, Bool.false_eq_true, Int.reduceEq, reduceCtorEq, Bool.not_eq_true', ite_not, eq_self, aw, h2, h3, h4, hl, hc, hx, f1, re, h1, f2, hb]
     ·obtain ⟨m, z, i1, i2, i3, i4, i5, i6⟩ := Valuation_ev sx hx0 (show 2 ≤ p by omega) hp2.2
      have h4 := i5
      have h5 := i6
      obtain ⟨K2, h2⟩ := h2
      obtain ⟨K3, h3⟩ := h3
      obtain ⟨K4, h4⟩ := h4
      obtain ⟨K5, h5⟩ := h5
      refine ⟨K0 + K2 + K3 + K4 + K5, fun k hk => ?_⟩
      replace aw := aw k (by omega)
      replace h2 := h2 k (by omega)
      replace h3 := h3 k (by omega)
      replace h4 := h4 k (by omega)
      replace h5 := h5 k (by omega)
      have f1 := iright_ok (x := z) (by omega)
      have f2 : ¬ (ab x).toList = ([] : List UInt8) := fun h => hx0 (ab_empty.1 h)
      dsimp only at *
      show FX3 _ _ _ _ = _
      unfold FX3 B3
      simp only [FX12, FX13, FX14, FX15, FX16, FX17, FX18, FX19, FX20, FX21, FX22, cnd_eq_if, bind_some_, toList_mk, List.toList_toArray, beq_iff_eq, if_true, if_false, ne_eq, not_true_eq_false, not_false_eq_true, Bool.not_true, Bool.not_false, Bool.false_eq_true, Int.reduceEq, reduceCtorEq, Bool.not_eq_true', ite_not, eq_self, aw, h2, h3, h4, h5, hl, hc, hx, f1, re, h1, f2, hb]
  ·have he : ick2 a0 a1 b0 b1 = ick a0 a1 := by unfold ick2; rw [if_neg ha]
   rw [he] at hx
   have h2 := iDivMod_err he ha
   have h3 := iGcd_err he ha
   have h4 := iValuation_err (p := p) rfl ha
   have re := iright_err ha a0 a1
   obtain ⟨K2, h2⟩ := h2
   obtain ⟨K3, h3⟩ := h3
   obtain ⟨K4, h4⟩ := h4
   refine ⟨K0 + K2 + K3 + K4, fun k hk => ?_⟩
   replace aw := aw k (by omega)
   replace h2 := h2 k (by omega)
   replace h3 := h3 k (by omega)
   replace h4 := h4 k (by omega)
   dsimp only at *
   show FX3 _ _ _ _ = _
   unfold FX3 B3
   simp only [FX12, FX13, FX14, FX15, FX16, FX17, FX18, FX19, FX20, FX21, FX22, cnd_eq_if, bind_some_, toList_mk, List.toList_toArray, beq_iff_eq, if_true, if_false, ne_eq, not_true_eq_false, not_false_eq_true, Bool.not_true, Bool.not_false, Bool.false_eq_true, Int.reduceEq, reduceCtorEq, Bool.not_eq_true', ite_not, eq_self, aw, h2, h3, h4, hl, hc, hx, re, ha]
end Go.Proofs.YtdhdfcjpeflinaaV
set_option linter.unusedVariables false
namespace Go.Proofs.Ytdhdfcjpeflinaa.Pure
open Go Go.RowKit Go.Proofs.Ytdhdfcjpeflinaa.All Go.Proofs.YtdhdfcjpeflinaaN Go.Proofs.YtdhdfcjpeflinaaW.PrintWords Go.Proofs.YtdhdfcjpeflinaaW.PrintLast
theorem IntegerQuotients (a0 : Bool) (a1 : ByteArray) (b0 : Bool) (b1 : ByteArray) (p : Int) (hp : (Lit.int .i64 p).wf = true) (w : World) :
    Calls Try.prog 3 #[.agg #[.bool a0, .string a1], .agg #[.bool b0, .string b1], .int .i64 p] w fun e w' => e = .returned (.bool true) ∧ Below w.heap.size w w' :=
  Go.Proofs.YtdhdfcjpeflinaaV.calls3 a0 a1 b0 b1 p (Go.Proofs.YtdhdfcjpeflinaaV.quotients_ev a0 a1 b0 b1 p hp).rounds w
end Go.Proofs.Ytdhdfcjpeflinaa.Pure
