/- Part of the proof of the statement IntegerTexts: lemmas on the model's steps, Lean functions that say what the program's functions compute, and proofs that the calls do just that. No hypothesis is added. -/
import Derived.Test.YtdhdfcjpeflinaaKIntegerTexts4
set_option linter.all false
set_option linter.unusedVariables false
namespace Go.Proofs.YtdhdfcjpeflinaaN
open Go.RowKit Go.Proofs.Ytdhdfcjpeflinaa.All Go.Proofs.YtdhdfcjpeflinaaW.PrintWords Go.Proofs.YtdhdfcjpeflinaaW.PrintLast Go.Proofs.YtdhdfcjpeflinaaW.PrintMore
def d18 (n : Nat) : List Int := dgs 999999999999999998 n
theorem d18_dig (n : Nat) : Dig G18 (d18 n) := (dgs_spec 999999999999999998 n).1
theorem d18_trim (n : Nat) : Trim (d18 n) := (dgs_spec 999999999999999998 n).2.1
theorem d18_val (n : Nat) : vB G18 (d18 n) = n := (dgs_spec 999999999999999998 n).2.2
theorem d18_zero : d18 0 = [] := dgs_zero _
theorem d18_pos {n : Nat} (h : n ≠ 0) : d18 n = ((n % 1000000000000000000 : Nat) : Int) :: d18 (n / 1000000000000000000) := dgs_pos 999999999999999998 n h
theorem NatUint_ev {n : Nat} (hn : n < 18446744073709551616) : Ev (fun k => exact_NatUint.f k (nat n)) ((n : Int), true) := by
 have hs : (nat n).size ≤ 8 := nat_size_le.2 hn
 refine Ev.bind (words_nat (by omega)) ?_
 have hl : (d64 n).length ≤ 1 := dgs_len (by rw [Nat.pow_one]; exact hn)
 refine Ev.congr (fun k => if_neg (show ¬ ((d64 n).length : Int) > 1 by omega)) ?_
 by_cases h : n = 0
 ·subst h
  rw [d64_zero]
  exact Ev.congr (fun k => if_pos rfl) (Ev.now _)
 ·have he : d64 n = [(n : Int)] := by
   unfold d64
   rw [dgs_pos _ _ h, show n % (18446744073709551614 + 2) = n by omega, show n / (18446744073709551614 + 2) = 0 by omega, dgs_zero]
  rw [he]
  exact Ev.congr (fun k => if_neg (show ¬ (1 : Int) = 0 by decide)) (Ev.congr (fun k => if_pos (show (0 : Int) < 1 by decide)) (Ev.now _))
def Turned (D z : List Int) (i j : Nat) : Prop := z.length = D.length ∧ ∀ p : Nat, p < D.length → rd z (p : Int) = if p < i ∨ j ≤ p then rd D ((D.length - 1 - p : Nat) : Int) else rd D (p : Int)
theorem rd_ext {x y : List Int} (h : x.length = y.length) (h2 : ∀ p : Nat, p < x.length → rd x (p : Int) = rd y (p : Int)) : x = y := by
 refine List.ext_getElem h (fun p p1 p2 => ?_)
 have := h2 p p1
 rwa [rd_get x p p1, rd_get y p p2] at this
theorem turned_done {D z : List Int} {i j : Nat} (hij : i + j = D.length) (h : Turned D z i j) (hle : j ≤ i + 1) : z = D.reverse := by
 refine rd_ext (by rw [List.length_reverse]; exact h.1) (fun p hp => ?_)
 rw [h.1] at hp
 rw [h.2 p hp, rd_reverse D p hp]
 split
 ·rfl
 ·rw [show D.length - 1 - p = p by omega]
theorem turned_step {D z : List Int} {i j : Nat} (hij : i + (j + 1) = D.length) (hlt : i < j) (h : Turned D z i (j + 1)) : Turned D ((z.set i (rd z (j : Int))).set j (rd z (i : Int))) (i + 1) j := by
 refine ⟨by rw [List.length_set, List.length_set]; exact h.1, fun p hp => ?_⟩
 have hl := h.1
 by_cases hj : p = j
 ·subst hj
  rw [rd_set_self _ _ _ (by rw [List.length_set]; omega), h.2 i (by omega), if_neg (by omega), if_pos (Or.inr (Nat.le_refl _))]
  congr 2
  omega
 ·rw [rd_set_ne _ _ _ _ (fun h => hj h.symm)]
  by_cases hi : p = i
  ·subst hi
   rw [rd_set_self _ _ _ (by omega), h.2 j (by omega), if_neg (by omega), if_pos (Or.inl (by omega))]
   congr 2
   omega
  ·rw [rd_set_ne _ _ _ _ (fun h => hi h.symm), h.2 p hp]
   by_cases h1 : p < i ∨ j + 1 ≤ p
   ·rw [if_pos h1, if_pos (by omega)]
   ·rw [if_neg h1, if_neg (by omega)]
theorem Format_l3 {D : List Int} (hD : D.length ≤ 1099511627776) : ∀ (j i : Nat) (z : List Int), i + j = D.length → Turned D z i j → Ev (fun k => natural_Format.l3 k z (i : Int) ((j : Int) - 1)) (strOfNums D.reverse, 0) := by
 intro j
 induction j using Nat.strongRecOn with
 | _ j ih =>
  intro i z hij h
  have hl := h.1
  by_cases hlt : j ≤ i + 1
  ·refine Ev.step (fun k => natural_Format.l3.eq_2 ..) (Ev.congr (fun k => if_neg (show ¬ (i : Int) < (j : Int) - 1 by omega)) ?_)
   rw [turned_done hij h hlt]
   exact Ev.now _
  ·obtain ⟨q, rfl⟩ : ∃ q, j = q + 1 := ⟨j - 1, by omega⟩
   have e0 : ((q + 1 : Nat) : Int) - 1 = (q : Int) := by omega
   have e1 : wrap64 ((i : Int) + 1) = ((i + 1 : Nat) : Int) := by rw [w64 (by omega) (by omega)]; omega
   have e2 : wrap64 ((q : Int) - 1) = (q : Int) - 1 := w64 (by omega) (by omega)
   refine Ev.step (fun k => ?_) (ih q (by omega) (i + 1) _ (by omega) (turned_step hij (by omega) h))
   simp only [natural_Format.l3, e0, e1, e2, Int.toNat_natCast]
   rw [if_pos (by omega), if_pos (Int.natCast_nonneg _), if_pos (by omega), if_pos (Int.natCast_nonneg _), if_pos (by omega)]
theorem Format_rev {D : List Int} (hD : D.length ≤ 1099511627776) : Ev (fun k => natural_Format.l3 k D 0 (wrap64 ((D.length : Int) - 1))) (strOfNums D.reverse, 0) := by
 rw [w64 (by omega) (by omega)]
 refine Format_l3 hD D.length 0 D (by omega) ⟨rfl, fun p hp => ?_⟩
 rw [if_neg (by omega)]
def FOut (n : Nat) (D : List Int) (i j : Nat) (u : Int) : Prop := Dig 10 D ∧ D.length = 18 * i + j ∧ vB 10 D + 10 ^ (18 * i + j) * u = vB G18 ((d18 n).take (i + 1)) ∧ 0 ≤ u ∧ u < 10 ^ (18 - j)
theorem fout_step {n : Nat} {D : List Int} {i j : Nat} {u : Int} (hj : j < 18) (h : FOut n D i j u) : FOut n (D ++ [u % 10]) i (j + 1) (u / 10) := by
 obtain ⟨h1, h2, h3, h4, h5⟩ := h
 refine ⟨Dig_append h1 (Dig_cons.2 ⟨⟨by omega, by omega⟩, Dig_nil _⟩), by rw [List.length_append, h2]; rfl, ?_, by omega, ?_⟩
 ·rw [vB_append, h2, ← h3, ← Nat.add_assoc, Int.pow_succ]
  simp only [vB]
  rw [Int.mul_zero, Int.add_zero, Int.mul_assoc, Int.add_assoc, ← Int.mul_add, Int.emod_add_mul_ediv]
 ·obtain ⟨q, hq⟩ : ∃ q, 18 - j = q + 1 := ⟨17 - j, by omega⟩
  rw [hq, Int.pow_succ] at h5
  rw [show 18 - (j + 1) = q by omega]
  exact Int.ediv_lt_of_lt_mul (by decide) h5
theorem Format_l2 {n : Nat} (hlen : (d18 n).length ≤ 1000000000) {i : Nat} (hi : i < (d18 n).length) {r : ByteArray × Int}
  (next : ∀ D : List Int, FOut n D i 18 0 → i + 1 < (d18 n).length → Ev (fun k => natural_Format.l1 k (d18 n) (txt D) ((d18 n).length : Int) ((i + 1 : Nat) : Int)) r)
  (last : ∀ D : List Int, D = d10 n → i + 1 = (d18 n).length → Ev (fun k => natural_Format.l1 k (d18 n) (txt D) ((d18 n).length : Int) ((i + 1 : Nat) : Int)) r) :
  ∀ (m j : Nat) (D : List Int) (u : Int), j + m = 18 → FOut n D i j u → (i + 1 = (d18 n).length → u = 0 → D = d10 n) → Ev (fun k => natural_Format.l2 k (d18 n) (txt D) (i : Int) u (j : Int) ((d18 n).length : Int) (i : Int)) r := by
 have ei : wrap64 ((i : Int) + 1) = ((i + 1 : Nat) : Int) := by rw [w64 (by omega) (by omega)]; omega
 have el : wrap64 (((d18 n).length : Int) - 1) = ((d18 n).length : Int) - 1 := w64 (by omega) (by omega)
 intro m
 induction m with
 | zero =>
  intro j D u hj h hz
  have hj : j = 18 := by omega
  subst hj
  have hu : u = 0 := by
   obtain ⟨_, _, _, h4, h5⟩ := h
   rw [Nat.sub_self, Int.pow_zero] at h5
   omega
  subst hu
  refine Ev.step (fun k => natural_Format.l2.eq_2 ..) (Ev.congr (fun k => if_neg (by decide)) ?_)
  rw [ei]
  by_cases hl : i + 1 = (d18 n).length
  ·exact last D (hz hl rfl) hl
  ·exact next D h (by omega)
 | succ m ih =>
  intro j D u hj h hz
  obtain ⟨h1, h2, h3, h4, h5⟩ := id h
  have hu : u < 1000000000000000000 := Int.lt_of_lt_of_le h5 (pow_le_pow (B := 10) (by decide) (show 18 - j ≤ 18 by omega))
  have hL : (txt D).length < 140737488355328 := by rw [txt_length, h2]; omega
  have e1 : wrap64 ((j : Int) + 1) = ((j + 1 : Nat) : Int) := by clear h3 h5; rw [w64 (by omega) (by omega)]; omega
  have e2 : IntKind.u64.wrap (Int.tdiv u 10) = u / 10 := by
   rw [Int.tdiv_eq_ediv_of_nonneg h4]
   clear h3 h5
   exact u64 (by omega) (by omega)
  have e3 : IntKind.u64.wrap (48 + Int.tmod u 10) % 256 = 48 + u % 10 := by
   rw [Int.tmod_eq_emod_of_nonneg h4, u64 (by omega) (by omega)]
   omega
  have e4 : txt D ++ [48 + u % 10] = txt (D ++ [u % 10]) := by rw [txt_append]; rfl
  have cj : (j : Int) < 18 := by clear h3 h5 e1 e2 e3 e4; omega
  have cm : j + 1 + m = 18 := by clear h3 h5 e1 e2 e3 e4; omega
  have cj' : j < 18 := by clear h3 h5 e1 e2 e3 e4; omega
  have more : (i + 1 = (d18 n).length → u / 10 = 0 → D ++ [u % 10] = d10 n) → Ev (fun k => natural_Format.l2 k (d18 n) (txt D ++ [48 + u % 10]) (i : Int) (u / 10) ((j + 1 : Nat) : Int) ((d18 n).length : Int) (i : Int)) r := by
   intro hz'
   rw [e4]
   exact ih (j + 1) _ _ cm (fout_step cj' h) hz'
  refine Ev.step (fun k => natural_Format.l2.eq_2 ..) (Ev.congr (fun k => if_pos cj) ?_)
  rw [e1, e2, e3, el, ei]
  by_cases hu0 : u > 0
  ·refine Ev.congr (fun k => if_pos hu0) (Ev.congr (fun k => if_pos hL) (more (fun hl hq => ?_)))
   have hf := fout_step cj' h
   obtain ⟨f1, f2, f3, f4, f5⟩ := hf
   rw [hq, Int.mul_zero, Int.add_zero, vB_all _ _ _ (Nat.le_of_eq hl.symm), d18_val] at f3
   refine d10_unique f1 (fun _ => ?_) f3
   rw [List.length_append]
   show rd (D ++ [u % 10]) ((D.length + 1 - 1 : Nat) : Int) ≠ 0
   rw [show D.length + 1 - 1 = D.length + 0 from rfl, rd_append_right]
   show u % 10 ≠ 0
   clear f3 f5 h3 h5 e1 e2 e3 e4 ei el hL h2 f2 hj
   omega
  ·have hu0' : u = 0 := Int.le_antisymm (Int.not_lt.1 hu0) h4
   subst hu0'
   refine Ev.congr (fun k => if_neg hu0) ?_
   by_cases hl : i + 1 = (d18 n).length
   ·exact Ev.congr (fun k => if_neg (show ¬ (i : Int) < ((d18 n).length : Int) - 1 by clear h3 h5 e1 e2 e3 e4 ei el; omega)) (last D (hz hl rfl) hl)
   ·refine Ev.congr (fun k => if_pos (show (i : Int) < ((d18 n).length : Int) - 1 by clear h3 h5 e1 e2 e3 e4 ei el; omega)) (Ev.congr (fun k => if_pos hL) ?_)
    exact more (fun hl' => absurd hl' hl)
theorem pow18 (i : Nat) : (10 : Int) ^ (18 * i) = G18 ^ i := by rw [Int.pow_mul]; rfl
theorem Format_l1 {n : Nat} (hlen : (d18 n).length ≤ 1000000000) (h10 : (d10 n).length ≤ 1000000000) (h0 : n ≠ 0) : ∀ (m i : Nat) (D : List Int), i + m = (d18 n).length → (m = 0 → D = d10 n) → Dig 10 D → D.length = 18 * i ∨ m = 0 → vB 10 D = vB G18 ((d18 n).take i) → Ev (fun k => natural_Format.l1 k (d18 n) (txt D) ((d18 n).length : Int) (i : Int)) (strOfNums (txt (d10 n)).reverse, 0) := by
 intro m
 induction m with
 | zero =>
  intro i D hi hD _ _ _
  rw [hD rfl]
  refine Ev.step (fun k => natural_Format.l1.eq_2 ..) (Ev.congr (fun k => if_neg (show ¬ (i : Int) < ((d18 n).length : Int) by omega)) ?_)
  exact Format_rev (by rw [txt_length]; omega)
 | succ m ih =>
  intro i D hi _ hd hl hv
  have hlt : i < (d18 n).length := by omega
  have hl : D.length = 18 * i := by omega
  obtain ⟨p0, p1⟩ := Dig_rd (d18_dig n) i hlt
  refine Ev.step (fun k => natural_Format.l1.eq_2 ..) (Ev.congr (fun k => if_pos (show (i : Int) < ((d18 n).length : Int) by omega)) (Ev.congr (fun k => if_pos (Int.natCast_nonneg _)) (Ev.congr (fun k => if_pos (show (i : Int) < ((d18 n).length : Int) by omega)) ?_)))
  refine Format_l2 hlen hlt (fun D' hf hlt' => ?_) (fun D' hD' hl' => ?_) 18 0 D _ (by omega) ⟨hd, hl, ?_, p0, p1⟩ (fun hl' hu => ?_)
  ·obtain ⟨f1, f2, f3, f4, f5⟩ := hf
   rw [Int.mul_zero, Int.add_zero] at f3
   exact ih (i + 1) D' (by omega) (fun h => by omega) f1 (Or.inl (by omega)) f3
  ·rw [hD']
   exact ih (i + 1) _ (by omega) (fun _ => rfl) (d10_dig n) (Or.inr (by omega)) (by rw [d10_val, vB_all _ _ _ (by omega), d18_val])
  ·rw [Nat.add_zero, pow18, hv, take_succ]
  ·exfalso
   have := d18_trim n (by omega)
   rw [show (d18 n).length - 1 = i by omega] at this
   exact this hu
theorem Format_l0 {n0 : Nat} (h0 : n0 ≠ 0) (hlen : (d18 n0).length ≤ 1000000000) (h10 : (d10 n0).length ≤ 1000000000) : ∀ (n : Nat) (P : List Int), P ++ d18 n = d18 n0 → (nat n).size ≤ 1099511627776 → Ev (fun k => natural_Format.l0 k (nat n) P) (strOfNums (txt (d10 n0)).reverse, 0) := by
 intro n
 induction n using Nat.strongRecOn with
 | _ n ih =>
  intro P hP hn
  refine Ev.step (fun k => natural_Format.l0.eq_2 ..) ?_
  by_cases h : n = 0
  ·subst h
   rw [d18_zero, List.append_nil] at hP
   subst hP
   exact Ev.congr (fun k => if_pos (nat_empty.2 rfl)) (Format_l1 hlen h10 h0 (d18 n0).length 0 [] (by omega) (fun hl => by
    exfalso
    have := d18_val n0
    rw [List.eq_nil_of_length_eq_zero hl] at this
    simp [vB] at this
    omega) (Dig_nil _) (Or.inl rfl) rfl)
  ·have hg := Of_eq (u := 1000000000000000000) (by decide)
   rw [show ((1000000000000000000 : Nat) : Int) = 1000000000000000000 from rfl] at hg
   have hd := NatDivMod_ev (m := n) (n := 1000000000000000000) hn (Nat.le_trans (nat_size_le (k := 8).2 (by decide)) (by decide)) (by decide)
   have hu := NatUint_ev (n := n % 1000000000000000000) (by omega)
   have hPl : P.length ≤ 1000000000 := by
    have := congrArg List.length hP
    rw [List.length_append] at this
    omega
   refine Ev.congr (fun k => if_neg (fun h' => h (nat_empty.1 h'))) (ev_some hg (Ev.bind hd (Ev.bind hu (Ev.congr (fun k => if_pos (show P.length < 17592186044416 by omega)) ?_))))
   refine ih (n / 1000000000000000000) (by omega) _ ?_ (Nat.le_trans (size_mono (Nat.div_le_self _ _)) hn)
   rw [← hP, d18_pos h, List.append_assoc]
   rfl
theorem Format_ev {n : Nat} (hn : (nat n).size ≤ 1024) : Ev (fun k => natural_Format.f k (nat n)) (dec n, 0) := by
 have h1 := first1 (nat n)
 rw [chk_nat hn] at h1
 refine Ev.bind h1 (Ev.congr (fun k => if_pos rfl) ?_)
 unfold dec
 by_cases h : n = 0
 ·rw [if_pos h]
  exact Ev.congr (fun k => if_pos (nat_empty.2 h)) (Ev.now _)
 ·rw [if_neg h]
  have hl := d10_len hn
  have hl18 : (d18 n).length ≤ (nat n).size := dgs_len (Nat.lt_of_lt_of_le (nat_lt_size n) (Nat.pow_le_pow_left (by decide) _))
  exact Ev.congr (fun k => if_neg (fun h' => h (nat_empty.1 h'))) (Format_l0 h (by omega) (by omega) n [] (by rw [List.nil_append]) (by omega))
theorem Parse_l2 {s : ByteArray} (hs : s.size ≤ 100000) (hd : digits s) {e : Nat} (he : e ≤ s.size) {r : ByteArray × Int} (next : Ev (fun k => natural_Parse.l1 k s (nat (dv s e)) (e : Int)) r) :
  ∀ (m i c n u : Nat), i + m = e → c + m ≤ 18 → u < 10 ^ c → n * 10 ^ c + u = dv s i → (nat n).size ≤ 100000 → Ev (fun k => natural_Parse.l2 k s (nat n) (i : Int) (e : Int) (u : Int) ((10 ^ c : Nat) : Int)) r := by
 intro m
 induction m with
 | zero =>
  intro i c n u hi hc hu hv hn
  have hi : i = e := by omega
  subst hi
  have hc18 : 10 ^ c ≤ 10 ^ 18 := Nat.pow_le_pow_right (by decide) (by omega)
  have h18 : (10 : Nat) ^ 18 = 1000000000000000000 := rfl
  have o1 := Of_eq (u := 10 ^ c) (by omega)
  have o2 := Of_eq (u := u) (by omega)
  have z1 : (nat (10 ^ c)).size ≤ 8 := nat_size_le.2 (Nat.lt_of_le_of_lt hc18 (by decide))
  have z2 : (nat u).size ≤ 8 := nat_size_le.2 (show u < 256 ^ 8 by have : (256 : Nat) ^ 8 = 18446744073709551616 := rfl; omega)
  have z3 := size_mul (m := n) (n := 10 ^ c)
  have m1 := NatMul_ev (m := n) (n := 10 ^ c) (by omega) (by omega)
  have m2 := NatAdd_ev (m := n * 10 ^ c) (n := u) (by omega) (by omega)
  rw [hv] at m2
  exact Ev.step (fun k => natural_Parse.l2.eq_2 ..) (Ev.congr (fun k => if_neg (Int.lt_irrefl _)) (ev_some o1 (Ev.bind m1 (ev_some o2 (Ev.bind m2 next)))))
 | succ m ih =>
  intro i c n u hi hc hu hv hn
  have hlt : i < s.size := by omega
  have h1 := hd i hlt
  unfold digit at h1
  have hc17 : 10 ^ c ≤ 10 ^ 17 := Nat.pow_le_pow_right (by decide) (by omega)
  have h17 : (10 : Nat) ^ 17 = 100000000000000000 := rfl
  have c1 : (i : Int) < (e : Int) := by clear hv; omega
  have c2 : (i : Int) < (s.size : Int) := by clear hv; omega
  have c3 : i + 1 + m = e := by clear hv; omega
  have c4 : c + 1 + m ≤ 18 := by clear hv; omega
  have e1 : wrap64 ((i : Int) + 1) = ((i + 1 : Nat) : Int) := by clear hv; rw [w64 (by omega) (by omega)]; omega
  have e2 : IntKind.u64.wrap (10 * (u : Int)) = ((10 * u : Nat) : Int) := by clear hv; rw [u64 (by omega) (by omega)]; omega
  have e3 : (bt s (i : Int) - 48) % 256 = (((bt s (i : Int) - 48).toNat : Nat) : Int) := by omega
  have e4 : IntKind.u64.wrap (((10 * u : Nat) : Int) + (((bt s (i : Int) - 48).toNat : Nat) : Int)) = ((10 * u + (bt s (i : Int) - 48).toNat : Nat) : Int) := by clear hv; rw [u64 (by omega) (by omega)]; omega
  have e5 : IntKind.u64.wrap (10 * ((10 ^ c : Nat) : Int)) = ((10 ^ (c + 1) : Nat) : Int) := by
   clear hv e4 e3 e2 e1
   rw [Nat.pow_succ]
   generalize 10 ^ c = P at *
   rw [u64 (by omega) (by omega)]
   omega
  refine Ev.step (fun k => ?_) (ih (i + 1) (c + 1) n (10 * u + (bt s (i : Int) - 48).toNat) c3 c4 ?_ ?_ hn)
  ·simp only [natural_Parse.l2, e1, e2, e3, e4, e5]
   rw [if_pos c1, if_pos (Int.natCast_nonneg _), if_pos c2]
  ·rw [Nat.pow_succ]
   clear hv e1 e2 e3 e4 e5
   generalize 10 ^ c = P at *
   omega
  ·rw [dv, ← hv, Nat.pow_succ, Nat.add_mul, Nat.mul_assoc]
   omega
theorem Parse_l1 {s : ByteArray} (hs : s.size ≤ 100000) (hd : digits s) : ∀ (m i : Nat), i + m = s.size → Ev (fun k => natural_Parse.l1 k s (nat (dv s i)) (i : Int)) (bnd (dv s s.size)) := by
 intro m
 induction m using Nat.strongRecOn with
 | _ m ih =>
  intro i hi
  by_cases h : m = 0
  ·have hi : i = s.size := by omega
   subst hi
   refine Ev.step (fun k => natural_Parse.l1.eq_2 ..) (Ev.congr (fun k => if_neg (Int.lt_irrefl _)) ?_)
   exact ev_some (bounded_eq _) (Ev.now _)
  ·obtain ⟨e, he⟩ : ∃ e, e = min s.size (i + 18) := ⟨_, rfl⟩
   have he1 : e ≤ s.size := by omega
   have he2 : i < e := by omega
   have he3 : e ≤ i + 18 := by omega
   have e1 : mn (s.size : Int) (wrap64 ((i : Int) + 18)) = (e : Int) := by
    rw [w64 (by omega) (by omega)]
    unfold mn
    split <;> omega
   have hds : ∀ j : Nat, j < i → digit s j := fun j hj => hd j (by omega)
   refine Ev.step (fun k => natural_Parse.l1.eq_2 ..) (Ev.congr (fun k => if_pos (show (i : Int) < (s.size : Int) by omega)) ?_)
   rw [e1]
   exact Parse_l2 hs hd he1 (ih (s.size - e) (by omega) e (by omega)) (e - i) i 0 (dv s i) 0 (by omega) (by omega) (by decide) (by rw [Nat.pow_zero, Nat.mul_one, Nat.add_zero]) (Nat.le_trans (dv_size hds) (by omega))
theorem Parse_l0 {s : ByteArray} (hs : s.size ≤ 100000) : ∀ (d i : Nat), i + d = s.size → (∀ j : Nat, j < i → digit s j) → Ev (fun k => natural_Parse.l0 k s (s.size : Int) (i : Int)) (if digits s then bnd (dv s s.size) else (⟨#[]⟩, 11)) := by
 intro d
 induction d with
 | zero =>
  intro i hi hd
  have hi : i = s.size := by omega
  subst hi
  rw [if_pos (show digits s from hd)]
  refine Ev.step (fun k => natural_Parse.l0.eq_2 ..) (Ev.congr (fun k => if_neg (Int.lt_irrefl _)) ?_)
  have := Parse_l1 hs hd s.size 0 (by omega)
  rw [show dv s 0 = 0 from rfl, nat_zero] at this
  exact this
 | succ d ih =>
  intro i hi hd
  have e1 : wrap64 ((i : Int) + 1) = ((i + 1 : Nat) : Int) := by rw [w64 (by omega) (by omega)]; omega
  refine Ev.step (fun k => natural_Parse.l0.eq_2 ..) (Ev.congr (fun k => if_pos (show (i : Int) < (s.size : Int) by omega)) (Ev.congr (fun k => if_pos (Int.natCast_nonneg _)) (Ev.congr (fun k => if_pos (show (i : Int) < (s.size : Int) by omega)) ?_)))
  rw [e1]
  by_cases h1 : bt s (i : Int) < 48
  ·rw [if_neg (fun h' => by have := h' i (by omega); unfold digit at this; omega)]
   exact Ev.congr (fun k => if_pos h1) (Ev.now _)
  ·refine Ev.congr (fun k => if_neg h1) ?_
   by_cases h2 : bt s (i : Int) > 57
   ·rw [if_neg (fun h' => by have := h' i (by omega); unfold digit at this; omega)]
    exact Ev.congr (fun k => if_pos h2) (Ev.now _)
   ·have hdi : digit s i := ⟨by omega, by omega⟩
    refine Ev.congr (fun k => if_neg h2) (ih (i + 1) (by omega) (fun j hj => ?_))
    rcases Nat.lt_or_ge j i with h | h
    ·exact hd j h
    ·rw [show j = i by omega]; exact hdi
theorem Parse_ev {s : ByteArray} (hs : s.size ≤ 100000) : Ev (fun k => natural_Parse.f k s) (parseR s) := by
 unfold parseR
 have bad : bad0 s → Ev (fun k => natural_Parse.j0 k s true) (if bad0 s then (⟨#[]⟩, 11) else if digits s then bnd (dv s s.size) else (⟨#[]⟩, 11)) := by
  intro h
  rw [if_pos h]
  exact Ev.step (fun k => natural_Parse.j0.eq_2 ..) (Ev.congr (fun k => if_pos rfl) (Ev.now _))
 have good : ¬ bad0 s → Ev (fun k => natural_Parse.j0 k s false) (if bad0 s then (⟨#[]⟩, 11) else if digits s then bnd (dv s s.size) else (⟨#[]⟩, 11)) := by
  intro h
  rw [if_neg h]
  exact Ev.step (fun k => natural_Parse.j0.eq_2 ..) (Ev.congr (fun k => if_neg (by decide)) (Parse_l0 hs s.size 0 (by omega) (fun j hj => absurd hj (by omega))))
 by_cases h : 4096 < s.size
 ·rw [if_pos h]
  exact Ev.congr (fun k => if_pos (show (s.size : Int) > 4096 by omega)) (Ev.now _)
 ·rw [if_neg h]
  refine Ev.congr (fun k => if_neg (show ¬ (s.size : Int) > 4096 by omega)) ?_
  by_cases h0 : s.size = 0
  ·exact Ev.congr (fun k => if_pos (toList_nil.2 h0)) (bad (Or.inl h0))
  ·refine Ev.congr (fun k => if_neg (fun h' => h0 (toList_nil.1 h'))) (Ev.congr (fun k => if_pos (show 0 < (s.size : Int) by omega)) ?_)
   by_cases h2 : bt s 0 = 48
   ·refine Ev.congr (fun k => if_pos h2) ?_
    by_cases h3 : (s.size : Int) > 1
    ·rw [decide_eq_true h3]
     exact bad (Or.inr ⟨by omega, h2⟩)
    ·rw [decide_eq_false h3]
     exact good (fun h' => by unfold bad0 at h'; omega)
   ·exact Ev.congr (fun k => if_neg h2) (good (fun h' => by unfold bad0 at h'; omega))
end Go.Proofs.YtdhdfcjpeflinaaN
set_option linter.unusedVariables false
namespace Go.Proofs.YtdhdfcjpeflinaaN
open Go.RowKit Go.Proofs.Ytdhdfcjpeflinaa.All Go.Proofs.YtdhdfcjpeflinaaW.PrintWords Go.Proofs.YtdhdfcjpeflinaaW.PrintLast Go.Proofs.YtdhdfcjpeflinaaW.PrintMore
end Go.Proofs.YtdhdfcjpeflinaaN
set_option linter.unusedVariables false
namespace Go.Proofs.YtdhdfcjpeflinaaN
open Go.RowKit Go.Proofs.Ytdhdfcjpeflinaa.All Go.Proofs.YtdhdfcjpeflinaaW.PrintWords Go.Proofs.YtdhdfcjpeflinaaW.PrintLast Go.Proofs.YtdhdfcjpeflinaaW.PrintMore
end Go.Proofs.YtdhdfcjpeflinaaN
set_option linter.unusedVariables false
namespace Go.Proofs.YtdhdfcjpeflinaaN
open Go.RowKit Go.Proofs.Ytdhdfcjpeflinaa.All Go.Proofs.YtdhdfcjpeflinaaW.PrintWords Go.Proofs.YtdhdfcjpeflinaaW.PrintLast Go.Proofs.YtdhdfcjpeflinaaW.PrintMore
end Go.Proofs.YtdhdfcjpeflinaaN
set_option linter.unusedVariables false
namespace Go.Proofs.YtdhdfcjpeflinaaN
open Go.RowKit Go.Proofs.Ytdhdfcjpeflinaa.All Go.Proofs.YtdhdfcjpeflinaaW.PrintWords Go.Proofs.YtdhdfcjpeflinaaW.PrintLast Go.Proofs.YtdhdfcjpeflinaaW.PrintMore
end Go.Proofs.YtdhdfcjpeflinaaN
set_option linter.unusedVariables false
namespace Go.Proofs.YtdhdfcjpeflinaaN
open Go.RowKit Go.Proofs.Ytdhdfcjpeflinaa.All Go.Proofs.YtdhdfcjpeflinaaW.PrintWords Go.Proofs.YtdhdfcjpeflinaaW.PrintLast Go.Proofs.YtdhdfcjpeflinaaW.PrintMore
end Go.Proofs.YtdhdfcjpeflinaaN
set_option linter.unusedVariables false
namespace Go.Proofs.YtdhdfcjpeflinaaN
open Go.RowKit Go.Proofs.Ytdhdfcjpeflinaa.All Go.Proofs.YtdhdfcjpeflinaaW.PrintWords Go.Proofs.YtdhdfcjpeflinaaW.PrintLast Go.Proofs.YtdhdfcjpeflinaaW.PrintMore
end Go.Proofs.YtdhdfcjpeflinaaN
set_option linter.unusedVariables false
namespace Go.Proofs.YtdhdfcjpeflinaaN
open Go.RowKit Go.Proofs.Ytdhdfcjpeflinaa.All Go.Proofs.YtdhdfcjpeflinaaW.PrintWords Go.Proofs.YtdhdfcjpeflinaaW.PrintLast Go.Proofs.YtdhdfcjpeflinaaW.PrintMore
def ng (x : Int) : Bool := decide (x < 0)
def ab (x : Int) : ByteArray := nat x.natAbs
def sg (s : Bool) (n : Nat) : Int := if s then -(n : Int) else n
theorem sg_true (n : Nat) : sg true n = -(n : Int) := rfl
theorem sg_false (n : Nat) : sg false n = (n : Int) := rfl
theorem ng_sg (s : Bool) (n : Nat) : ng (sg s n) = (s && !decide (n = 0)) := by
 cases s
 ·exact decide_eq_false (by rw [sg_false]; omega)
 ·by_cases h : n = 0
  ·subst h
   rfl
  ·rw [decide_eq_false h]
   exact decide_eq_true (by rw [sg_true]; omega)
theorem ab_sg (s : Bool) (n : Nat) : ab (sg s n) = nat n := by
 unfold ab
 cases s
 ·rw [sg_false, Int.natAbs_natCast]
 ·rw [sg_true, Int.natAbs_neg, Int.natAbs_natCast]
theorem ng_nat (n : Nat) : ng (n : Int) = false := decide_eq_false (by omega)
theorem ab_nat (n : Nat) : ab (n : Int) = nat n := by unfold ab; rw [Int.natAbs_natCast]
theorem ng_pos {x : Int} (h : 0 ≤ x) : ng x = false := decide_eq_false (by omega)
theorem ng_neg {x : Int} (h : x < 0) : ng x = true := decide_eq_true h
theorem ab_size_zero {x : Int} : (ab x).size = 0 ↔ x = 0 := by unfold ab; rw [nat_size_zero]; omega
end Go.Proofs.YtdhdfcjpeflinaaN
set_option linter.unusedVariables false
namespace Go.Proofs.YtdhdfcjpeflinaaN
open Go.RowKit Go.Proofs.Ytdhdfcjpeflinaa.All Go.Proofs.YtdhdfcjpeflinaaW.PrintWords Go.Proofs.YtdhdfcjpeflinaaW.PrintLast Go.Proofs.YtdhdfcjpeflinaaW.PrintMore
def ick (s : Bool) (a : ByteArray) : Int := if chk a = 1 then 1 else if s = true ∧ a.size = 0 then 1 else chk a
theorem rValid_eq (s : ByteArray) : galoisref01_Valid.f s = some (decide (s.size = 0 ∨ bt s 0 ≠ 0)) := by
 unfold galoisref01_Valid.f
 by_cases h : s.size = 0
 ·rw [if_pos (toList_nil.2 h)]
  simp [h]
 ·rw [if_neg (fun h' => h (toList_nil.1 h')), if_pos (by omega)]
  by_cases h2 : bt s 0 = 0 <;> simp [h, h2]
theorem chk_one {a : ByteArray} : chk a = 1 ↔ ¬ (a.size = 0 ∨ bt a 0 ≠ 0) := by
 unfold chk
 by_cases h : 0 < a.size ∧ bt a 0 = 0
 ·rw [if_pos h]
  refine ⟨fun _ h' => ?_, fun _ => rfl⟩
  rcases h' with h' | h'
  ·omega
  ·exact h' h.2
 ·rw [if_neg h]
  refine ⟨fun h' => ?_, fun h' => absurd ⟨Nat.pos_of_ne_zero fun h2 => h' (Or.inl h2), ?_⟩ h⟩
  ·split at h' <;> exact absurd h' (by decide)
  ·rcases Decidable.em (bt a 0 = 0) with h2 | h2
   ·exact h2
   ·exact absurd (Or.inr h2) h'
theorem chk_rest {a : ByteArray} (h : chk a ≠ 1) : chk a = if (a.size : Int) > 1024 then 4 else 0 := by
 have h1 : ¬ (0 < a.size ∧ bt a 0 = 0) := fun h' => h (by unfold chk; rw [if_pos h'])
 unfold chk
 rw [if_neg h1]
 by_cases h2 : 1024 < a.size
 ·rw [if_pos h2, if_pos (by omega)]
 ·rw [if_neg h2, if_neg (by omega)]
theorem rFits1_eq (a : ByteArray) : galoisref01_Fits.f a = some (if (a.size : Int) > 1024 then 4 else 0) := by
 unfold galoisref01_Fits.f
 by_cases h : (a.size : Int) > 1024
 ·rw [if_pos h, if_pos h]
 ·rw [if_neg h, if_neg h]
theorem rFits_eq (s : Bool) (a : ByteArray) : galoisref02_Fits.f s a = some (if (a.size : Int) > 1024 then 4 else 0) := by
 unfold galoisref02_Fits.f
 rw [rFits1_eq]
 rfl
theorem rValid2_eq (s : Bool) (a : ByteArray) : galoisref02_Valid.f s a = some (decide ((a.size = 0 ∨ bt a 0 ≠ 0) ∧ ¬ (s = true ∧ a.size = 0))) := by
 unfold galoisref02_Valid.f
 rw [rValid_eq, Option.bind_some]
 by_cases h : a.size = 0 ∨ bt a 0 ≠ 0
 ·rw [if_pos (decide_eq_true h)]
  cases s
  ·rw [if_neg Bool.false_ne_true]
   congr 1
   exact (decide_eq_true ⟨h, fun h' => Bool.false_ne_true h'.1⟩).symm
  ·rw [if_pos rfl]
   congr 1
   by_cases h2 : a.size = 0
   ·rw [decide_eq_false (fun h' => h'.2 ⟨rfl, h2⟩)]
    exact bne_eq_false_iff_eq.2 (toList_nil.2 h2)
   ·have e : (a.size = 0 ∨ bt a 0 ≠ 0) ∧ ¬ (true = true ∧ a.size = 0) := ⟨h, fun h' => h2 h'.2⟩
    rw [decide_eq_true e]
    exact bne_iff_ne.2 (fun h' => h2 (toList_nil.1 h'))
 ·rw [if_neg (by rw [decide_eq_true_eq]; exact h), decide_eq_false (fun h' => h h'.1)]
theorem rCheck_eq (s : Bool) (a : ByteArray) : galoisref02_Check.f s a = some (ick s a) := by
 unfold galoisref02_Check.f ick
 rw [rValid2_eq, Option.bind_some]
 by_cases h1 : chk a = 1
 ·rw [if_pos h1, if_neg (by rw [decide_eq_true_eq]; exact fun h' => chk_one.1 h1 h'.1)]
 ·have hv : a.size = 0 ∨ bt a 0 ≠ 0 := by
   rcases Decidable.em (a.size = 0 ∨ bt a 0 ≠ 0) with h | h
   ·exact h
   ·exact absurd (chk_one.2 h) h1
  rw [if_neg h1]
  by_cases h2 : s = true ∧ a.size = 0
  ·rw [if_pos h2, if_neg (by rw [decide_eq_true_eq]; exact fun h' => h'.2 h2)]
  ·rw [if_neg h2, if_pos (decide_eq_true ⟨hv, h2⟩), rFits_eq, chk_rest h1]
   rfl
end Go.Proofs.YtdhdfcjpeflinaaN
set_option linter.unusedVariables false
namespace Go.Proofs.YtdhdfcjpeflinaaN
open Go.RowKit Go.Proofs.Ytdhdfcjpeflinaa.All Go.Proofs.YtdhdfcjpeflinaaW.PrintWords Go.Proofs.YtdhdfcjpeflinaaW.PrintLast Go.Proofs.YtdhdfcjpeflinaaW.PrintMore
theorem ick_zero {s : Bool} {a : ByteArray} (h : ick s a = 0) : ∃ x : Int, s = ng x ∧ a = ab x ∧ (ab x).size ≤ 1024 := by
 unfold ick at h
 by_cases h1 : chk a = 1
 ·rw [if_pos h1] at h
  exact absurd h (by decide)
 ·rw [if_neg h1] at h
  by_cases h2 : s = true ∧ a.size = 0
  ·rw [if_pos h2] at h
   exact absurd h (by decide)
  ·rw [if_neg h2] at h
   obtain ⟨n, rfl, hn⟩ := number h
   refine ⟨sg s n, ?_, (ab_sg s n).symm, by rw [ab_sg]; exact hn⟩
   rw [ng_sg]
   cases s
   ·rfl
   ·rw [Bool.true_and, decide_eq_false (fun h3 => h2 ⟨rfl, by rw [h3, nat_zero]; rfl⟩)]
    rfl
theorem ick_int {x : Int} (h : (ab x).size ≤ 1024) : ick (ng x) (ab x) = 0 := by
 unfold ick
 have hc : chk (ab x) = 0 := chk_nat h
 rw [hc, if_neg (by decide), if_neg]
 rintro ⟨h1, h2⟩
 have := ab_size_zero.1 h2
 rw [this] at h1
 exact absurd h1 (by decide)
theorem empty_toList' : (⟨#[]⟩ : ByteArray).toList = ([] : List UInt8) := toList_nil.2 rfl
theorem iCheck_ev (s : Bool) (a : ByteArray) : Ev (fun k => integer_Check.f k s a) (ick s a) := by
 refine Ev.bind (Check_ev a) ?_
 by_cases h1 : chk a = 1
 ·have e : ick s a = chk a := by unfold ick; rw [if_pos h1, h1]
  rw [e]
  exact Ev.congr (fun k => if_pos h1) (Ev.now _)
 ·refine Ev.congr (fun k => if_neg h1) (ev_some (a := (false, (⟨#[]⟩ : ByteArray))) rfl ?_)
  by_cases h2 : a.size = 0
  ·have h3 : a.toList = ([] : List UInt8) := toList_nil.2 h2
   cases s
   ·have e : ick false a = chk a := by unfold ick; rw [if_neg h1, if_neg (fun h => Bool.false_ne_true h.1)]
    rw [e]
    exact Ev.congr (fun k => if_neg (by rw [h3, empty_toList']; decide)) (Ev.now _)
   ·have e : ick true a = 1 := by unfold ick; rw [if_neg h1, if_pos ⟨rfl, h2⟩]
    rw [e]
    exact Ev.congr (fun k => if_pos rfl) (Ev.congr (fun k => if_pos h3) (Ev.now _))
  ·have h3 : a.toList ≠ ([] : List UInt8) := fun h => h2 (toList_nil.1 h)
   have e : ick s a = chk a := by unfold ick; rw [if_neg h1, if_neg (fun h => h2 h.2)]
   rw [e]
   by_cases h4 : (!(s == false) || (!(a.toList == (⟨#[]⟩ : ByteArray).toList))) = true
   ·exact Ev.congr (fun k => if_pos h4) (Ev.congr (fun k => if_neg h3) (Ev.now _))
   ·exact Ev.congr (fun k => if_neg h4) (Ev.now _)
def ibnd (x : Int) : Bool × ByteArray × Int := if ((ab x).size : Int) > 1024 then (false, ⟨#[]⟩, 4) else (ng x, ab x, 0)
theorem ibnd_ok {x : Int} (h : (ab x).size ≤ 1024) : ibnd x = (ng x, ab x, 0) := if_neg (by omega)
theorem iright_err {e : Int} (h : e ≠ 0) (t : Bool) (w : ByteArray) : galoislaw02_right.f false ⟨#[]⟩ e e t w = some true := by
 unfold galoislaw02_right.f
 rw [if_neg h, if_pos (by rw [empty_toList']; rfl), beq_self_eq_true]
theorem iright_bnd (x : Int) : galoislaw02_right.f (ibnd x).1 (ibnd x).2.1 (ibnd x).2.2 0 (ng x) (ab x) = some true := by
 unfold galoislaw02_right.f ibnd
 rw [if_pos rfl, rFits_eq, Option.bind_some]
 by_cases h : ((ab x).size : Int) > 1024
 ·rw [if_pos h, if_pos h, if_neg (by decide), if_pos (by rw [empty_toList']; rfl)]
  rfl
 ·rw [if_neg h, if_neg h, if_pos rfl, if_pos (by rw [beq_self_eq_true, beq_self_eq_true]; rfl)]
  rfl
theorem iright_ok {x : Int} (h : (ab x).size ≤ 1024) : galoislaw02_right.f (ng x) (ab x) 0 0 (ng x) (ab x) = some true := by
 have := iright_bnd x
 rwa [ibnd_ok h] at this
end Go.Proofs.YtdhdfcjpeflinaaN
set_option linter.unusedVariables false
namespace Go.Proofs.YtdhdfcjpeflinaaN
open Go.RowKit Go.Proofs.Ytdhdfcjpeflinaa.All Go.Proofs.YtdhdfcjpeflinaaW.PrintWords Go.Proofs.YtdhdfcjpeflinaaW.PrintLast Go.Proofs.YtdhdfcjpeflinaaW.PrintMore
end Go.Proofs.YtdhdfcjpeflinaaN
set_option linter.unusedVariables false
set_option linter.unusedSimpArgs false
set_option maxRecDepth 100000
namespace Go.Proofs.YtdhdfcjpeflinaaV
open Go Go.RowKit Go.Proofs.Ytdhdfcjpeflinaa Go.Proofs.YtdhdfcjpeflinaaE Go.Proofs.YtdhdfcjpeflinaaN Go.Proofs.Ytdhdfcjpeflinaa.All Go.Proofs.YtdhdfcjpeflinaaW.PrintWords Go.Proofs.YtdhdfcjpeflinaaW.PrintLast Go.Proofs.YtdhdfcjpeflinaaW.PrintMore
end Go.Proofs.YtdhdfcjpeflinaaV
set_option linter.unusedVariables false
set_option linter.unusedSimpArgs false
set_option maxRecDepth 100000
namespace Go.Proofs.YtdhdfcjpeflinaaV
open Go Go.RowKit Go.Proofs.Ytdhdfcjpeflinaa Go.Proofs.YtdhdfcjpeflinaaE Go.Proofs.YtdhdfcjpeflinaaN Go.Proofs.Ytdhdfcjpeflinaa.All Go.Proofs.YtdhdfcjpeflinaaW.PrintWords Go.Proofs.YtdhdfcjpeflinaaW.PrintLast Go.Proofs.YtdhdfcjpeflinaaW.PrintMore
def minus (d : ByteArray) : ByteArray := (⟨#[45]⟩ : ByteArray) ++ d
theorem minus_size (d : ByteArray) : (minus d).size = 1 + d.size := by
 unfold minus; rw [ByteArray.size_append]; rfl
theorem minus_data (d : ByteArray) : (minus d).data = #[45] ++ d.data := by unfold minus; rw [ByteArray.data_append]
theorem minus_bt (d : ByteArray) : bt (minus d) 0 = 45 := by
 have h : (0 : Int).toNat < (minus d).size := by show 0 < (minus d).size; rw [minus_size]; omega
 unfold bt
 rw [dif_pos h]
 have e : (minus d)[(0 : Int).toNat]'h = 45 := by
  have e1 : (minus d)[(0 : Int).toNat]'h = (minus d).data[(0 : Int).toNat]'h := rfl
  rw [e1]
  have e2 : ∀ (x : Array UInt8) (hx : (0 : Int).toNat < x.size), x = #[45] ++ d.data → x[(0 : Int).toNat]'hx = 45 := by
   intro x hx e; subst e; simp
  exact e2 _ _ (minus_data d)
 rw [e]; rfl
theorem minus_tail (d : ByteArray) : (minus d).extract 1 (minus d).size = d := by
 apply ByteArray.ext
 rw [ByteArray.data_extract, minus_data, minus_size]
 apply Array.ext'
 rw [Array.toList_extract, Array.toList_append]
 show List.take (1 + d.size - 1) d.data.toList = d.data.toList
 rw [show 1 + d.size - 1 = d.data.toList.length by rw [Array.length_toList]; show 1 + d.data.size - 1 = _; omega, List.take_length]
def txI (x : Int) : ByteArray := if x < 0 then minus (dec x.natAbs) else dec x.natAbs
theorem dec_size {n : Nat} (h : (nat n).size ≤ 1024) : (dec n).size ≤ 3072 := by
 obtain ⟨_, _, _, h4⟩ := dec_digits n
 have h5 := d10_len h
 rw [h4]
 split <;> omega
theorem iFormat_ev {x : Int} (hx : (ab x).size ≤ 1024) : Ev (fun k => integer_Format.f k (ng x) (ab x)) (txI x, 0) := by
 have hc := iCheck_ev (ng x) (ab x)
 rw [ick_int hx] at hc
 have hd := dec_size hx
 refine Ev.bind hc (Ev.congr (fun k => if_pos rfl) (Ev.bind (show Ev (fun k => natural_Format.f k (ab x)) (dec x.natAbs, 0) from Format_ev hx) ?_))
 unfold txI
 by_cases h : x < 0
 ·rw [if_pos h]
  exact Ev.congr (fun k => if_pos (ng_neg h)) (Ev.congr (fun k => if_pos rfl) (Ev.congr (fun k => if_pos (show 1 + (dec x.natAbs).size ≤ 9223372036854775807 by omega)) (Ev.now _)))
 ·rw [if_neg h]
  exact Ev.congr (fun k => if_neg (by rw [ng_pos (by omega)]; exact Bool.false_ne_true)) (Ev.now _)
theorem RFormat_ev {x : Int} (hx : (ab x).size ≤ 1024) : Ev (fun k => galoisref02_Format.f k (ng x) (ab x)) (txI x) := by
 have hd := dec_size hx
 have hf : Ev (fun k => galoisref01_Format.f k (ab x)) (dec x.natAbs) := rFormat_ev (Nat.le_trans hx (by decide))
 unfold txI
 by_cases h : x < 0
 ·rw [if_pos h]
  exact Ev.congr (fun k => if_pos (ng_neg h)) (Ev.bind hf (Ev.congr (fun k => if_pos (show 1 + (dec x.natAbs).size ≤ 9223372036854775807 by omega)) (Ev.now _)))
 ·rw [if_neg h]
  exact Ev.congr (fun k => if_neg (by rw [ng_pos (by omega)]; exact Bool.false_ne_true)) (Ev.bind hf (Ev.now _))
theorem iFormat_err {s : Bool} {a : ByteArray} (h : ick s a ≠ 0) : Ev (fun k => integer_Format.f k s a) (⟨#[]⟩, ick s a) := Ev.bind (iCheck_ev s a) (Ev.congr (fun k => if_neg h) (Ev.now _))
def fin (neg : Bool) (r : ByteArray × Int) : Bool × ByteArray × Int := if r.2 = 0 then (if neg = true then (if r.1.toList = ([] : List UInt8) then (false, ⟨#[]⟩, 11) else (neg, r.1, 0)) else (neg, r.1, 0)) else (false, ⟨#[]⟩, r.2)
theorem fin_step (neg : Bool) (r : ByteArray × Int) : (if r.2 = 0 then (if neg = true then (if r.1.toList = ([] : List UInt8) then ((integer_zero.f).bind fun b => (some (b.1, b.2, (11 : Int)))) else (some (neg, r.1, 0))) else (some (neg, r.1, 0))) else ((integer_zero.f).bind fun b => (some (b.1, b.2, r.2)))) = some (fin neg r) := by
 unfold fin
 by_cases h1 : r.2 = 0
 ·rw [if_pos h1, if_pos h1]
  cases neg with
  | true =>
   rw [if_pos rfl, if_pos rfl]
   by_cases h2 : r.1.toList = ([] : List UInt8)
   ·rw [if_pos h2, if_pos h2]; rfl
   ·rw [if_neg h2, if_neg h2]
  | false => rw [if_neg Bool.false_ne_true, if_neg Bool.false_ne_true]
 ·rw [if_neg h1, if_neg h1]; rfl
theorem iParse_j1 {s : ByteArray} (hs : s.size ≤ 100000) (neg : Bool) : Ev (fun k => integer_Parse.j1 k s neg) (fin neg (parseR s)) :=
 Ev.step (fun k => integer_Parse.j1.eq_2 ..) (Ev.bind (Parse_ev hs) (Ev.congr (fun k => fin_step neg (parseR s)) (Ev.now _)))
theorem extract_size (s : ByteArray) (h : 0 < s.size) : (s.extract 1 s.size).size = s.size - 1 := by
 rw [ByteArray.size_extract]; omega
theorem iParse_ev {s : ByteArray} (h1 : ¬ (s.size : Int) > 4096) : Ev (fun k => integer_Parse.f k s) (if 0 < s.size ∧ bt s 0 = 45 then fin true (parseR (s.extract 1 s.size)) else fin false (parseR s)) := by
 refine Ev.congr (fun k => if_neg h1) ?_
 have no : Ev (fun k => integer_Parse.j0 k s false) (fin false (parseR s)) := Ev.step (fun k => integer_Parse.j0.eq_2 ..) (Ev.congr (fun k => if_neg Bool.false_ne_true) (iParse_j1 (by omega) false))
 by_cases h2 : 0 < s.size
 ·refine Ev.congr (fun k => if_pos (show (s.size : Int) > 0 by omega)) (Ev.congr (fun k => if_pos (show (0 : Int) < s.size by omega)) ?_)
  by_cases h3 : bt s 0 = 45
  ·rw [if_pos ⟨h2, h3⟩, show (bt s 0 == 45) = true from beq_iff_eq.2 h3]
   have hz := extract_size s h2
   exact Ev.step (fun k => integer_Parse.j0.eq_2 ..) (Ev.congr (fun k => if_pos rfl) (Ev.congr (fun k => if_pos (show (1 : Int) ≤ s.size by omega)) (iParse_j1 (by omega) true)))
  ·rw [if_neg (fun h => h3 h.2), show (bt s 0 == 45) = false from beq_eq_false_iff_ne.2 h3]
   exact no
 ·rw [if_neg (fun h => h2 h.1)]
  exact Ev.congr (fun k => if_neg (show ¬ (s.size : Int) > 0 by omega)) no
theorem iParse_long {s : ByteArray} (h1 : (s.size : Int) > 4096) : Ev (fun k => integer_Parse.f k s) (false, ⟨#[]⟩, 12) := Ev.congr (fun k => if_pos h1) (ev_some (a := (false, (⟨#[]⟩ : ByteArray))) rfl (Ev.now _))
theorem RParse_long {s : ByteArray} (h1 : (s.size : Int) > 4096) : Ev (fun k => galoisref02_Parse.f k s) (false, ⟨#[]⟩, 12) := Ev.congr (fun k => if_pos h1) (Ev.now _)
def rdg (s : ByteArray) : ByteArray × Bool := if bad0 s then (⟨#[]⟩, false) else if digits s then (nat (dv s s.size), true) else (⟨#[]⟩, false)
def rfin (neg : Bool) (r : ByteArray × Bool) : Option (Bool × ByteArray × Int) := if neg = true then ((galoisref02_Make.f true r.1).bind fun q => if r.2 = true then (if (r.1.toList != ([] : List UInt8)) = true then (if ((q.2.size : Int) > 1024) then some (false, ⟨#[]⟩, 4) else some (q.1, q.2, 0)) else some (false, ⟨#[]⟩, 11)) else some (false, ⟨#[]⟩, 11)) else (if r.2 = true then (if ((r.1.size : Int) > 1024) then some (false, ⟨#[]⟩, 4) else some (false, r.1, 0)) else some (false, ⟨#[]⟩, 11))
theorem fits_step (s : Bool) (a : ByteArray) : ((galoisref02_Fits.f s a).bind fun t => (if t = 0 then (some (s, a, (0 : Int))) else (some (false, (⟨#[]⟩ : ByteArray), 4)))) = if ((a.size : Int) > 1024) then some (false, ⟨#[]⟩, 4) else some (s, a, 0) := by
 rw [rFits_eq, bind_some_]
 by_cases h : (a.size : Int) > 1024
 ·rw [if_pos h, if_pos h]; rfl
 ·rw [if_neg h, if_neg h]; rfl
theorem RParse_ev {s : ByteArray} {r : Bool × ByteArray × Int} (h1 : ¬ (s.size : Int) > 4096) (hr : (if 0 < s.size ∧ bt s 0 = 45 then rfin true (rdg (s.extract 1 s.size)) else rfin false (rdg s)) = some r) : Ev (fun k => galoisref02_Parse.f k s) r := by
 refine Ev.congr (fun k => if_neg h1) ?_
 have no : rfin false (rdg s) = some r → Ev (fun k => (galoisref02_Digits.j0 k s false).bind fun b => (if b.2.2 = true then ((galoisref02_Fits.f b.1 b.2.1).bind fun t => (if t = 0 then (some (b.1, b.2.1, (0 : Int))) else (some (false, (⟨#[]⟩ : ByteArray), 4)))) else (some (false, (⟨#[]⟩ : ByteArray), 11)))) r := by
  intro h
  refine Ev.bind (a := (false, (rdg s).1, (rdg s).2)) (Ev.step (fun k => galoisref02_Digits.j0.eq_2 ..) (Ev.congr (fun k => if_neg Bool.false_ne_true) (Ev.bind (show Ev (fun k => galoisref01_Digits.f k s) (rdg s) from rDigits_ev (by omega)) (Ev.now _)))) ?_
  refine Ev.congr (f := fun _ => some r) (fun k => ?_) (Ev.now _)
  rw [← h]
  unfold rfin
  rw [if_neg Bool.false_ne_true, fits_step]
 by_cases h2 : 0 < s.size
 ·by_cases h3 : bt s 0 = 45
  ·rw [if_pos ⟨h2, h3⟩] at hr
   have hz := extract_size s h2
   obtain ⟨q, hq⟩ : ∃ q, galoisref02_Make.f true (rdg (s.extract 1 s.size)).1 = some q := ⟨_, rfl⟩
   have hd : Ev (fun k => galoisref02_Digits.f k s) (if (rdg (s.extract 1 s.size)).2 = true then (q.1, q.2, ((rdg (s.extract 1 s.size)).1.toList != ([] : List UInt8))) else (q.1, q.2, false)) := by
    refine Ev.congr (fun k => if_pos (show (s.size : Int) > 0 by omega)) (Ev.congr (fun k => if_pos (show (0 : Int) < s.size by omega)) ?_)
    rw [show (bt s 0 == 45) = true from beq_iff_eq.2 h3]
    refine Ev.step (fun k => galoisref02_Digits.j0.eq_2 ..) (Ev.congr (fun k => if_pos rfl) (Ev.congr (fun k => if_pos (show (1 : Int) ≤ s.size by omega)) (Ev.bind (show Ev (fun k => galoisref01_Digits.f k (s.extract 1 s.size)) (rdg (s.extract 1 s.size)) from rDigits_ev (by omega)) (ev_some hq ?_))))
    refine Ev.congr (f := fun _ => some (if (rdg (s.extract 1 s.size)).2 = true then (q.1, q.2, ((rdg (s.extract 1 s.size)).1.toList != ([] : List UInt8))) else (q.1, q.2, false))) (fun k => ?_) (Ev.now _)
    by_cases h4 : (rdg (s.extract 1 s.size)).2 = true
    ·simp only [if_pos h4]
    ·simp only [if_neg h4]
   refine Ev.bind hd (Ev.congr (f := fun _ => some r) (fun k => ?_) (Ev.now _))
   rw [← hr]
   unfold rfin
   rw [if_pos rfl, hq, bind_some_]
   by_cases h4 : (rdg (s.extract 1 s.size)).2 = true
   ·simp only [if_pos h4, fits_step]
   ·simp only [if_neg h4, Bool.false_eq_true, if_false]
  ·rw [if_neg (fun h => h3 h.2)] at hr
   have hn := no hr
   have hd : ∀ k, galoisref02_Digits.f k s = galoisref02_Digits.j0 k s false := fun k => by
    unfold galoisref02_Digits.f
    rw [if_pos (show (s.size : Int) > 0 by omega), if_pos (show (0 : Int) < s.size by omega), show (bt s 0 == 45) = false from beq_eq_false_iff_ne.2 h3]
   exact Ev.congr (fun k => by rw [hd]) hn
 ·rw [if_neg (fun h => h2 h.1)] at hr
  have hd : ∀ k, galoisref02_Digits.f k s = galoisref02_Digits.j0 k s false := fun k => by
   unfold galoisref02_Digits.f
   rw [if_neg (show ¬ (s.size : Int) > 0 by omega)]
  exact Ev.congr (fun k => by rw [hd]) (no hr)
theorem nat_nz (N : Nat) : (nat N).toList = ([] : List UInt8) ↔ N = 0 := nat_empty
theorem fin_right (neg : Bool) (t : ByteArray) (ht : ¬ 4096 < t.size) : ∃ y, rfin neg (rdg t) = some y ∧ galoislaw02_right.f (fin neg (parseR t)).1 (fin neg (parseR t)).2.1 (fin neg (parseR t)).2.2 y.2.2 y.1 y.2.1 = some true := by
 have mk : ∀ a, galoisref02_Make.f true a = some ((!a.toList.isEmpty), a) := fun a => rfl
 have e11 : galoislaw02_right.f false ⟨#[]⟩ 11 11 false ⟨#[]⟩ = some true := iright_err (by decide) _ _
 have e4 : galoislaw02_right.f false ⟨#[]⟩ 4 4 false ⟨#[]⟩ = some true := iright_err (by decide) _ _
 unfold parseR rdg
 rw [if_neg ht]
 by_cases hb : bad0 t
 ·rw [if_pos hb, if_pos hb]
  cases neg with
  | true => exact ⟨_, rfl, e11⟩
  | false => exact ⟨_, rfl, e11⟩
 ·rw [if_neg hb, if_neg hb]
  by_cases hd : digits t
  ·rw [if_pos hd, if_pos hd]
   generalize dv t t.size = N
   unfold bnd
   by_cases hz : 1024 < (nat N).size
   ·have hz' : ((nat N).size : Int) > 1024 := by omega
    have hne : ¬ (nat N).toList = ([] : List UInt8) := by
     rw [nat_nz]; intro h; subst h; exact absurd hz (by decide +kernel)
    rw [if_pos hz]
    cases neg with
    | true =>
     refine ⟨(false, ⟨#[]⟩, 4), ?_, e4⟩
     unfold rfin
     rw [if_pos rfl, mk, bind_some_, if_pos rfl, if_pos (bne_iff_ne.2 hne), if_pos hz']
    | false =>
     refine ⟨(false, ⟨#[]⟩, 4), ?_, e4⟩
     unfold rfin
     rw [if_neg Bool.false_ne_true, if_pos rfl, if_pos hz']
   ·have hz' : ¬ ((nat N).size : Int) > 1024 := by omega
    rw [if_neg hz]
    cases neg with
    | true =>
     by_cases hN : N = 0
     ·have he := (nat_nz N).2 hN
      refine ⟨(false, ⟨#[]⟩, 11), ?_, ?_⟩
      ·unfold rfin
       rw [if_pos rfl, mk, bind_some_, if_pos rfl, if_neg (fun h => (bne_iff_ne.1 h) he)]
      ·unfold fin
       rw [if_pos rfl, if_pos rfl, if_pos he]
       exact e11
     ·have he : ¬ (nat N).toList = ([] : List UInt8) := fun h => hN ((nat_nz N).1 h)
      refine ⟨(true, nat N, 0), ?_, ?_⟩
      ·unfold rfin
       rw [if_pos rfl, mk, bind_some_, if_pos rfl, if_pos (bne_iff_ne.2 he), if_neg hz', isEmpty_eq, beq_eq_false_iff_ne.2 he]
       rfl
      ·unfold fin
       rw [if_pos rfl, if_pos rfl, if_neg he]
       have h := iright_ok (x := -((N : Nat) : Int)) (by unfold ab; rw [Int.natAbs_neg, Int.natAbs_natCast]; omega)
       rw [ng_neg (by omega), show ab (-((N : Nat) : Int)) = nat N by unfold ab; rw [Int.natAbs_neg, Int.natAbs_natCast]] at h
       exact h
    | false =>
     refine ⟨(false, nat N, 0), ?_, ?_⟩
     ·unfold rfin
      rw [if_neg Bool.false_ne_true, if_pos rfl, if_neg hz']
     ·unfold fin
      rw [if_pos rfl, if_neg Bool.false_ne_true]
      have h := iright_ok (x := ((N : Nat) : Int)) (by rw [ab_nat]; omega)
      rw [ng_nat, ab_nat] at h
      exact h
  ·rw [if_neg hd, if_neg hd]
   cases neg with
   | true => exact ⟨_, rfl, e11⟩
   | false => exact ⟨_, rfl, e11⟩
theorem parse_right (s : ByteArray) : ∃ x y, Ev (fun k => integer_Parse.f k s) x ∧ Ev (fun k => galoisref02_Parse.f k s) y ∧ galoislaw02_right.f x.1 x.2.1 x.2.2 y.2.2 y.1 y.2.1 = some true := by
 by_cases h1 : (s.size : Int) > 4096
 ·exact ⟨_, _, iParse_long h1, RParse_long h1, iright_err (by decide) _ _⟩
 ·by_cases h2 : 0 < s.size ∧ bt s 0 = 45
  ·have hz := extract_size s h2.1
   obtain ⟨y, q1, q2⟩ := fin_right true (s.extract 1 s.size) (by omega)
   have hp := iParse_ev h1
   rw [if_pos h2] at hp
   exact ⟨_, y, hp, RParse_ev h1 (by rw [if_pos h2]; exact q1), q2⟩
  ·obtain ⟨y, q1, q2⟩ := fin_right false s (by omega)
   have hp := iParse_ev h1
   rw [if_neg h2] at hp
   exact ⟨_, y, hp, RParse_ev h1 (by rw [if_neg h2]; exact q1), q2⟩
theorem iback_ev {x : Int} (hx : (ab x).size ≤ 1024) : Ev (fun k => integer_Parse.f k (txI x)) (ng x, ab x, 0) := by
 have hd := dec_size hx
 have hp := parse_dec hx
 unfold txI
 by_cases h : x < 0
 ·rw [if_pos h]
  have he := iParse_ev (s := minus (dec x.natAbs)) (by rw [minus_size]; omega)
  rw [if_pos ⟨by rw [minus_size]; omega, minus_bt _⟩, minus_tail, hp] at he
  have hn : ¬ (nat x.natAbs).toList = ([] : List UInt8) := fun h' => by have := (nat_nz _).1 h'; omega
  have hf : fin true (nat x.natAbs, 0) = (true, nat x.natAbs, 0) := by
   unfold fin
   rw [if_pos rfl, if_pos rfl, if_neg hn]
  rw [hf] at he
  rw [ng_neg h]
  exact he
 ·rw [if_neg h]
  have he := iParse_ev (s := dec x.natAbs) (by omega)
  obtain ⟨d1, d2, _, _⟩ := dec_digits x.natAbs
  have hb : ¬ (0 < (dec x.natAbs).size ∧ bt (dec x.natAbs) 0 = 45) := by
   rintro ⟨g1, g2⟩
   have := (d1 0 g1).1
   have e0 : (((0 : Nat) : Int)) = 0 := rfl
   rw [e0] at this
   omega
  rw [if_neg hb, hp] at he
  rw [ng_pos (by omega)]
  exact he
theorem law11_ev (a0 : Bool) (a1 : ByteArray) (s : ByteArray) : Ev (fun k => FX11 k (a0, a1) s) true := by
 obtain ⟨K0, aw⟩ := awake_ev
 by_cases hs : (a1.size : Int) > 1100
 ·refine ⟨K0, fun k hk => ?_⟩
  replace aw := aw k (by omega)
  dsimp only at *
  show FX11 _ _ _ = _
  unfold FX11 B11
  simp only [FX12, FX17, FX19, FX48, FX49, FX50, FX51, cnd_eq_if, bind_some_, toList_mk, List.toList_toArray, beq_iff_eq, if_true, if_false, ne_eq, not_true_eq_false, not_false_eq_true, Bool.not_true, Bool.not_false, Bool.false_eq_true, Int.reduceEq, reduceCtorEq, Bool.not_eq_true', bfalse, ite_not, eq_self, Bool.and_eq_true, Bool.or_eq_true, ite_and_, ite_or_, and_self, decide_true, decide_false, Bool.true_and, Bool.and_true, beq_self_eq_true, decide_eq_true_eq, gt_iff_lt, ge_iff_le, Int.neg_eq_zero, aw, hs]
 ·by_cases ht : (s.size : Int) > 4200
  ·refine ⟨K0, fun k hk => ?_⟩
   replace aw := aw k (by omega)
   dsimp only at *
   show FX11 _ _ _ = _
   unfold FX11 B11
   simp only [FX12, FX17, FX19, FX48, FX49, FX50, FX51, cnd_eq_if, bind_some_, toList_mk, List.toList_toArray, beq_iff_eq, if_true, if_false, ne_eq, not_true_eq_false, not_false_eq_true, Bool.not_true, Bool.not_false, Bool.false_eq_true, Int.reduceEq, reduceCtorEq, Bool.not_eq_true', bfalse, ite_not, eq_self, Bool.and_eq_true, Bool.or_eq_true, ite_and_, ite_or_, and_self, decide_true, decide_false, Bool.true_and, Bool.and_true, beq_self_eq_true, decide_eq_true_eq, gt_iff_lt, ge_iff_le, Int.neg_eq_zero, aw, hs, ht]
  ·have hc := rCheck_eq a0 a1
   obtain ⟨u, v, h1, h2, f1⟩ := parse_right s
   by_cases ha : ick a0 a1 = 0
   ·rw [ha] at hc
    obtain ⟨x, rfl, rfl, sx⟩ := ick_zero ha
    have h3 := iFormat_ev sx
    have h4 := RFormat_ev sx
    have h5 := iback_ev sx
    obtain ⟨K_h1, h1⟩ := h1
    obtain ⟨K_h2, h2⟩ := h2
    obtain ⟨K_h3, h3⟩ := h3
    obtain ⟨K_h4, h4⟩ := h4
    obtain ⟨K_h5, h5⟩ := h5
    refine ⟨K0 + K_h1 + K_h2 + K_h3 + K_h4 + K_h5, fun k hk => ?_⟩
    replace aw := aw k (by omega)
    replace h1 := h1 k (by omega)
    replace h2 := h2 k (by omega)
    replace h3 := h3 k (by omega)
    replace h4 := h4 k (by omega)
    replace h5 := h5 k (by omega)
    dsimp only at *
    show FX11 _ _ _ = _
    unfold FX11 B11
    simp only [FX12, FX17, FX19, FX48, FX49, FX50, FX51, cnd_eq_if, bind_some_, toList_mk, List.toList_toArray, beq_iff_eq, if_true, if_false, ne_eq, not_true_eq_false, not_false_eq_true, Bool.not_true, Bool.not_false, Bool.false_eq_true, Int.reduceEq, reduceCtorEq, Bool.not_eq_true', bfalse, ite_not, eq_self, Bool.and_eq_true, Bool.or_eq_true, ite_and_, ite_or_, and_self, decide_true, decide_false, Bool.true_and, Bool.and_true, beq_self_eq_true, decide_eq_true_eq, gt_iff_lt, ge_iff_le, Int.neg_eq_zero, aw, h1, h2, h3, h4, h5, hs, ht, hc, f1]
   ·have h3 := iFormat_err ha
    obtain ⟨K_h1, h1⟩ := h1
    obtain ⟨K_h2, h2⟩ := h2
    obtain ⟨K_h3, h3⟩ := h3
    refine ⟨K0 + K_h1 + K_h2 + K_h3, fun k hk => ?_⟩
    replace aw := aw k (by omega)
    replace h1 := h1 k (by omega)
    replace h2 := h2 k (by omega)
    replace h3 := h3 k (by omega)
    dsimp only at *
    show FX11 _ _ _ = _
    unfold FX11 B11
    simp only [FX12, FX17, FX19, FX48, FX49, FX50, FX51, cnd_eq_if, bind_some_, toList_mk, List.toList_toArray, beq_iff_eq, if_true, if_false, ne_eq, not_true_eq_false, not_false_eq_true, Bool.not_true, Bool.not_false, Bool.false_eq_true, Int.reduceEq, reduceCtorEq, Bool.not_eq_true', bfalse, ite_not, eq_self, Bool.and_eq_true, Bool.or_eq_true, ite_and_, ite_or_, and_self, decide_true, decide_false, Bool.true_and, Bool.and_true, beq_self_eq_true, decide_eq_true_eq, gt_iff_lt, ge_iff_le, Int.neg_eq_zero, aw, h1, h2, h3, hs, ht, hc, ha, f1]
end Go.Proofs.YtdhdfcjpeflinaaV
set_option linter.unusedVariables false
namespace Go.Proofs.Ytdhdfcjpeflinaa.Pure
open Go Go.RowKit Go.Proofs.Ytdhdfcjpeflinaa.All Go.Proofs.YtdhdfcjpeflinaaN Go.Proofs.YtdhdfcjpeflinaaW.PrintWords Go.Proofs.YtdhdfcjpeflinaaW.PrintLast
theorem IntegerTexts (a0 : Bool) (a1 : ByteArray) (s : ByteArray) (w : World) :
    Calls Try.prog 11 #[.agg #[.bool a0, .string a1], .string s] w fun e w' => e = .returned (.bool true) ∧ Below w.heap.size w w' :=
  Go.Proofs.YtdhdfcjpeflinaaV.calls11 a0 a1 s (Go.Proofs.YtdhdfcjpeflinaaV.law11_ev a0 a1 s).rounds w
end Go.Proofs.Ytdhdfcjpeflinaa.Pure
