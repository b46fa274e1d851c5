/- Part of the proof of the statement NaturalTexts: lemmas on the model's steps, Lean functions that say what the program's functions compute, and proofs that the calls do just that. No hypothesis is added. -/
import Derived.Test.YtohkmnbnjacfaaaKNaturalTexts1
set_option linter.all false
namespace Go.Proofs.Ytohkmnbnjacfaaa.All
open Go.Proofs.YtohkmnbnjacfaaaX
open Go.RowKit Go.Proofs.YtohkmnbnjacfaaaW.PrintWords Go.Proofs.YtohkmnbnjacfaaaW.PrintLast Go.Proofs.YtohkmnbnjacfaaaW.PrintMore
attribute [local go_sem] max2_int min2_int max_two min_two max_three min_three max_four min_four
set_option linter.unusedVariables false
set_option linter.unusedSimpArgs false
mutual
def exact_pack.l0 : Nat → List Int → List Int → Int → Int → Option (ByteArray)
 | 0, _, _, _, _ => none
 | k + 1, x3, x17, x18, x19 => if x19 < x18 then (if 0 ≤ x19 then (if x19 < (x17.length : Int) then (exact_pack.l1 k x3 x19 (rd x17 x19) x17 x18 x19 0) else (none)) else (none)) else (exact_pack.l2 k x3 0)
def exact_pack.l1 : Nat → List Int → Int → Int → List Int → Int → Int → Int → Option (ByteArray)
 | 0, _, _, _, _, _, _, _ => none
 | k + 1, x3, x4, x5, x17, x18, x19, x24 => if x24 < 8 then (if 0 ≤ (wrap64 (8 * x24)) then (if 0 ≤ (wrap64 ((wrap64 ((wrap64 ((x3.length : Int) - 1)) - (wrap64 (8 * x4)))) - x24)) then (if (wrap64 ((wrap64 ((wrap64 ((x3.length : Int) - 1)) - (wrap64 (8 * x4)))) - x24)) < (x3.length : Int) then (exact_pack.l1 k (x3.set ((wrap64 ((wrap64 ((wrap64 ((x3.length : Int) - 1)) - (wrap64 (8 * x4)))) - x24)) : Int).toNat ((shr .u64 x5 (wrap64 (8 * x24))) % 256)) x4 x5 x17 x18 x19 (wrap64 (x24 + 1))) else (none)) else (none)) else (none)) else (exact_pack.l0 k x3 x17 x18 (wrap64 (x19 + 1)))
def exact_pack.l2 : Nat → List Int → Int → Option (ByteArray)
 | 0, _, _ => none
 | k + 1, x3, x7 => if 0 ≤ x7 then (if x7 < (x3.length : Int) then (if (rd x3 x7) = 0 then (exact_pack.l2 k x3 (wrap64 (x7 + 1))) else (if x7 ≤ (x3.length : Int) then (some (strOfNums (x3.drop (x7 : Int).toNat))) else (none))) else (none)) else (none)
end
def exact_pack.f (k : Nat) (l0 : List Int) : Option (ByteArray) := (exact_trim.f k l0).bind fun t225 => (if (t225.length : Int) = 0 then (some (⟨#[]⟩ : ByteArray)) else (if 0 ≤ (wrap64 (8 * (t225.length : Int))) then (if (wrap64 (8 * (t225.length : Int)) : Int).toNat ≤ 281474976710656 then (exact_pack.l0 k (List.replicate (wrap64 (8 * (t225.length : Int)) : Int).toNat 0) t225 (t225.length : Int) 0) else (none)) else (none)))
theorem exact_pack.U1 {g : Prop} (h : g := by
 repeat' first
 | (with_reducible exact ih0 _ _ _ _)
 | (with_reducible exact ih1 _ _ _ _ _ _ _)
 | (with_reducible exact ih2 _ _)
 | (with_reducible exact exact_trim.mono _ _)
 | (with_reducible exact LeO.refl _)
 | (with_reducible exact LeO.none _)
 | (with_reducible refine LeO.ite ?_ ?_)
 | (with_reducible refine LeO.bind ?_ (fun _ => ?_))) : g := h
theorem exact_pack.mono_l : ∀ k, (∀ y0 y1 y2 y3, LeO (exact_pack.l0 k y0 y1 y2 y3) (exact_pack.l0 (k + 1) y0 y1 y2 y3)) ∧ (∀ y0 y1 y2 y3 y4 y5 y6, LeO (exact_pack.l1 k y0 y1 y2 y3 y4 y5 y6) (exact_pack.l1 (k + 1) y0 y1 y2 y3 y4 y5 y6)) ∧ (∀ y0 y1, LeO (exact_pack.l2 k y0 y1) (exact_pack.l2 (k + 1) y0 y1))
 | 0 => ⟨fun _ _ _ _ r h => by simp [exact_pack.l0] at h, fun _ _ _ _ _ _ _ r h => by simp [exact_pack.l1] at h, fun _ _ r h => by simp [exact_pack.l2] at h⟩
 | k + 1 => by
  obtain ⟨ih0, ih1, ih2⟩ := exact_pack.mono_l k
  refine ⟨?_, ?_, ?_⟩
  ·intro y0 y1 y2 y3
   unfold exact_pack.l0
   exact exact_pack.U1
  ·intro y0 y1 y2 y3 y4 y5 y6
   unfold exact_pack.l1
   exact exact_pack.U1
  ·intro y0 y1
   unfold exact_pack.l2
   exact exact_pack.U1
theorem exact_pack.mono : ∀ a0 k, LeO (exact_pack.f k a0) (exact_pack.f (k + 1) a0) := by
 intro a0 k
 obtain ⟨ih0, ih1, ih2⟩ := exact_pack.mono_l k
 unfold exact_pack.f
 exact exact_pack.U1
set_option maxHeartbeats 8000000 in
set_option maxRecDepth 100000 in
theorem exact_pack.calls (k : Nat) (P0_ : Nat → Prop) (u9000_ : Value) (l0 : List Int) (r : ByteArray) (w0 w : World) (hB : Below w0.heap.size w0 w) (ho0 : Kd.R (Kd.int .u64) 49 w w0.heap.size P0_ u9000_ l0) (h : exact_pack.f k l0 = some r) :
  Calls Try.prog 71 #[u9000_] w fun e w' => e = .returned (.string r) ∧ Below w0.heap.size w0 w' ∧ Kept w w' (fun k_ => P0_ k_) := by
 have HO0 := Aside0.mk (show Kd.R (Kd.int .u64) 49 w w0.heap.size (fun k_ => (P0_ k_ ∨ w.heap.size ≤ k_)) u9000_ l0 from Kd.R_mono ho0 (fun k_ hk => (.inl hk)))
 have HK := Aside0.mk (Kept.refl w (fun k_ => P0_ k_))
 have HW0 := Aside0.mk hB.size
 have HB := Aside0.mk hB
 clear hB
 have H := h
 unfold exact_pack.f at H
 clear h
 obtain ⟨t225, A2, H⟩ := ZO H
 by_cases c3 : (t225.length : Int) = 0
 ·rw [if_pos c3] at H
  have c3b0 : ((t225.length : Int) == 0) = true := beq_iff_eq.mpr c3
  have c3b1 : ((t225.length : Int) != 0) = false := bne_eq_false_iff_eq.mpr c3
  clear c3
  obtain rfl := Option.some.inj H
  obtain ⟨Ao4, co4, eo4⟩ := Kd.R_slice HO0.out
  subst eo4
  go_enter Try.func71, Try.ntmps71
  go_wp2_with (first | ((with_reducible refine gate_callee (f := 79) rfl ?_); refine goesL_ (some 9) rfl rfl Try.func79 (by kernel_rfl) rfl #[.slice Ao4 l0.length co4] rfl ZA ?_; (with_reducible refine (exact_trim.calls k (fun k_ => some k_ = (.slice Ao4 l0.length co4 : Value).ownBlock) (.slice Ao4 l0.length co4) l0 t225 w0 _ ?side1 ?side2 A2.out).mono ?_); (case side1 => repeat (first | (with_reducible first | exact HB.out | apply below_alloc | apply pw_below_drewN | apply below_drew1) | exact HB.out)); (case side2 => exact Kd.R_tight rfl HO0.out); rintro e w5 ⟨v226, rfl, ho0, hb, hkp⟩; refine ⟨_, rfl, ?_⟩; have HO227 := Aside0.mk (Kd.R_mono (ok' := fun k_ => (P0_ k_ ∨ w.heap.size ≤ k_)) ho0 (fun k_ hk_ => Or.elim hk_ (fun hs_ => (HO0.out.1 k_ (hs_).symm)) (fun hn_ => (.inr (Nat.le_trans (by first | exact HK.out.1 | exact (show Kept w _ (fun k_ => P0_ k_) from ZK).1) hn_))))); replace HK := Aside0.mk (Kept.then_ (S := (fun k_ => P0_ k_)) ZK hkp (fun k_ hs_ => (fun e_ => (HO0.out.1 k_ e_.symm)) hs_)); replace HB := Aside0.mk (hb); clear HO0; (try clear hb); (try clear hkp); (try clear ho0); obtain ⟨Ao6, co6, eo6⟩ := Kd.R_slice HO227.out; subst eo6))
  go_ret
  exact ⟨ZE, ZB, ZK⟩
 ·rw [if_neg c3] at H
  have c3b0 : ((t225.length : Int) == 0) = false := beq_eq_false_iff_ne.mpr c3
  have c3b1 : ((t225.length : Int) != 0) = true := bne_iff_ne.mpr c3
  have c3b2 : ¬ (t225 = []) := fun h_ => c3 (by rw [h_]; rfl)
  obtain ⟨ji7, hji7⟩ : ∃ j_ : Int, (wrap64 (8 * (t225.length : Int))) = j_ := ⟨_, rfl⟩
  (first | rw [hji7] at H | simp only [hji7] at H)
  (try rw [hji7] at A2)
  have hji7w : (IntKind.i64.wrap (8 * (t225.length : Int))) = ji7 := (i64_w _).trans hji7
  by_cases c8 : 0 ≤ (ji7)
  ·rw [if_pos c8] at H
   have c8b0 := eq_true c8
   have c8b1 : decide (0 ≤ (ji7)) = true := decide_eq_true c8
   clear c8
   obtain ⟨c9, H⟩ := ZI H
   have c9b0 := eq_true c9
   have c9b1 : decide ((ji7 : Int).toNat ≤ 281474976710656) = true := decide_eq_true c9
   clear c9
   obtain ⟨y228, hy228⟩ : ∃ y_ : List Int, y_ = (List.replicate (ji7 : Int).toNat 0) := ⟨_, rfl⟩
   replace H : (exact_pack.l0 k y228 t225 (t225.length : Int) 0) = some r := ZH hy228 H
   have Ny228 := Aside0.mk hy228
   clear hy228
   have H' := Aside0.mk H
   clear H
   obtain ⟨Ao10, co10, eo10⟩ := Kd.R_slice HO0.out
   subst eo10
   go_enter Try.func71, Try.ntmps71
   go_wp2_with (first | ((with_reducible refine gate_callee (f := 79) rfl ?_); refine goesL_ (some 9) rfl rfl Try.func79 (by kernel_rfl) rfl #[.slice Ao10 l0.length co10] rfl ZA ?_; (with_reducible refine (exact_trim.calls k (fun k_ => some k_ = (.slice Ao10 l0.length co10 : Value).ownBlock) (.slice Ao10 l0.length co10) l0 t225 w0 _ ?side1 ?side2 A2.out).mono ?_); (case side1 => repeat (first | (with_reducible first | exact HB.out | apply below_alloc | apply pw_below_drewN | apply below_drew1) | exact HB.out)); (case side2 => exact Kd.R_tight rfl HO0.out); rintro e w11 ⟨v226, rfl, ho0, hb, hkp⟩; refine ⟨_, rfl, ?_⟩; have HO227 := Aside0.mk (Kd.R_mono (ok' := fun k_ => (P0_ k_ ∨ w.heap.size ≤ k_)) ho0 (fun k_ hk_ => Or.elim hk_ (fun hs_ => (HO0.out.1 k_ (hs_).symm)) (fun hn_ => (.inr (Nat.le_trans (by first | exact HK.out.1 | exact (show Kept w _ (fun k_ => P0_ k_) from ZK).1) hn_))))); replace HK := Aside0.mk (Kept.then_ (S := (fun k_ => P0_ k_)) ZK hkp (fun k_ hs_ => (fun e_ => (HO0.out.1 k_ e_.symm)) hs_)); replace HB := Aside0.mk (hb); clear HO0; (try clear hb); (try clear hkp); (try clear ho0); obtain ⟨Ao12, co12, eo12⟩ := Kd.R_slice HO227.out; subst eo12) | ((with_reducible refine gate_dst (N := 16) rfl ?_); refine Kd.R_make (Kd.int .u8) _ 5 rfl (N := 16) rfl 75 _ _ rfl ji7 rfl rfl Try.underlying75 (.int .u8 0) 1 info5 rfl (by decide) (by omega) 0 (ok := fun _ => True) (okp := fun _ => True) rfl (fun _ hk => hk) trivial (of_decide_eq_true ZD) (Nat.le_trans (Nat.mul_le_mul_right _ (of_decide_eq_true ZD : ji7.toNat ≤ 281474976710656)) (by omega)) (Below.refl _ _) (Nat.le_refl _) ?_; intro v229 w13 ho14 hb hg_ hnew_; clear hg_ hnew_; (first | rw [← Ny228.out] at ho14 | (simp only [Int.reduceToNat] at ho14; rw [← Ny228.out] at ho14)); replace HO227 := Aside0.mk (Kd.R_below (ZR HO227.out) hb); have HO230 := Aside0.mk (Kd.R_lower (Kd.R_newM (M := fun k_ => (P0_ k_ ∨ w.heap.size ≤ k_)) ho14 (by first | exact HK.out.1 | exact (show Kept w _ (fun k_ => P0_ k_) from ZK).1) (fun k_ h_ => .inr h_)) (below_size ZB)); replace HK := Aside0.mk (Kept.below (S := (fun k_ => P0_ k_)) ZK hb); replace HB := Aside0.mk (below_step ZB hb); clear hb ho14))
   go_loopg [19] k (fun kq v19 w' => ∃ (x3_1 : List Int) (x19_1 : Int), v19 = .int .i64 x19_1 ∧ Aside0 (exact_pack.l0 kq x3_1 t225 (t225.length : Int) x19_1 = some r) ∧ Aside0 (kq ≤ k) ∧ Aside0 (Kd.R (Kd.int .u8) 5 w' w0.heap.size (fun k_ => (P0_ k_ ∨ w.heap.size ≤ k_)) v229 x3_1) ∧ Aside0 (Kd.R (Kd.int .u64) 49 w' w0.heap.size (fun k_ => (P0_ k_ ∨ w.heap.size ≤ k_)) (.slice Ao12 t225.length co12) t225) ∧ Aside0 (Kept w w' (fun k_ => P0_ k_)) ∧ Aside0 (Below w0.heap.size w0 w'))
   case atStart => exact ⟨(y228), (0), ZS, H', ⟨Nat.le_refl _⟩, ⟨by (with_reducible repeat (first | apply Kd.R_alloc | apply Kd.R_drewN | apply Kd.R_drew)); exact Kd.R_mono HO230.out (fun _ hk => hk.1)⟩, ⟨by (with_reducible repeat (first | apply Kd.R_alloc | apply Kd.R_drewN | apply Kd.R_drew)); exact HO227.out⟩, ⟨ZK⟩, ⟨ZB⟩⟩
   case round =>
    clear H'
    try clear c3
    try clear c3b0
    try clear c3b1
    try clear c3b2
    try clear c8
    try clear c8b0
    try clear c8b1
    try clear c9
    try clear c9b0
    try clear c9b1
    obtain ⟨x3_1, x19_1, rfl, HA, HK1, HO_3, HO_17, HK, HB⟩ := hrel
    cases gk with
    | zero => exact absurd HA.out (by simp [exact_pack.l0])
    | succ k1 =>
     have H := HA.out
     clear HA
     simp only [exact_pack.l0] at H
     by_cases c15 : x19_1 < (t225.length : Int)
     ·rw [if_pos c15] at H
      have c15b0 : decide (x19_1 < (t225.length : Int)) = true := decide_eq_true c15
      clear c15
      obtain ⟨c16, H⟩ := ZI H
      have c16b0 : decide (0 ≤ x19_1) = true := decide_eq_true c16
      clear c16
      obtain ⟨c17, H⟩ := ZI H
      have c17b0 : decide (x19_1 < (t225.length : Int)) = true := decide_eq_true c17
      clear c17
      have H' := Aside0.mk H
      clear H
      have p231 : 0 ≤ (x19_1 : Int) := of_decide_eq_true ZD
      have q231 : x19_1 < (t225.length : Int) := of_decide_eq_true ZD
      obtain ⟨ad231, e231, hx231_0⟩ := Kd.at_int (Kd.R_reads' HO_17.out).2.2 x19_1 p231 q231
      cases e231
      replace p231 := eq_true p231
      replace q231 := eq_true q231
      go_wp2
      go_loopg [24] k1 (fun kq v24 w' => ∃ (x3_2 : List Int) (x24_2 : Int), v24 = .int .i64 x24_2 ∧ Aside0 (exact_pack.l1 kq x3_2 x19_1 (rd t225 x19_1) t225 (t225.length : Int) x19_1 x24_2 = some r) ∧ Aside0 (kq ≤ k1) ∧ Aside0 (Kd.R (Kd.int .u8) 5 w' w0.heap.size (fun k_ => (P0_ k_ ∨ w.heap.size ≤ k_)) v229 x3_2) ∧ Aside0 (Kd.R (Kd.int .u64) 49 w' w0.heap.size (fun k_ => (P0_ k_ ∨ w.heap.size ≤ k_)) (.slice (some ad231) t225.length co12) t225) ∧ Aside0 (Kept w w' (fun k_ => P0_ k_)) ∧ Aside0 (Below w0.heap.size w0 w'))
      case atStart => exact ⟨(x3_1), (0), ZS, H', ⟨Nat.le_refl _⟩, ⟨by (with_reducible repeat (first | apply Kd.R_alloc | apply Kd.R_drewN | apply Kd.R_drew)); exact HO_3.out⟩, ⟨by (with_reducible repeat (first | apply Kd.R_alloc | apply Kd.R_drewN | apply Kd.R_drew)); exact HO_17.out⟩, ⟨ZK⟩, ⟨ZB⟩⟩
      case round =>
       clear H'
       try clear c15
       try clear c15b0
       try clear c16
       try clear c16b0
       try clear c17
       try clear c17b0
       try clear hx231_0
       try clear p231
       try clear q231
       obtain ⟨x3_2, x24_2, rfl, HA, HK2, HO_3, HO_17, HK, HB⟩ := hrel
       cases gk with
       | zero => exact absurd HA.out (by simp [exact_pack.l1])
       | succ k2 =>
        have H := HA.out
        clear HA
        simp only [exact_pack.l1] at H
        by_cases c18 : x24_2 < 8
        ·rw [if_pos c18] at H
         have c18b0 : decide (x24_2 < 8) = true := decide_eq_true c18
         clear c18
         obtain ⟨ji19, hji19⟩ : ∃ j_ : Int, (wrap64 (8 * x24_2)) = j_ := ⟨_, rfl⟩
         (first | rw [hji19] at H | simp only [hji19] at H)
         have hji19w : (IntKind.i64.wrap (8 * x24_2)) = ji19 := (i64_w _).trans hji19
         obtain ⟨c20, H⟩ := ZI H
         have c20b0 := eq_true c20
         have c20b1 : decide (0 ≤ (ji19)) = true := decide_eq_true c20
         clear c20
         obtain ⟨ji21, hji21⟩ : ∃ j_ : Int, (shr .u64 (rd t225 x19_1) (ji19)) = j_ := ⟨_, rfl⟩
         (first | rw [hji21] at H | simp only [hji21] at H)
         have hji21_ : ((rd t225 x19_1) / 2 ^ min (ji19).toNat 64) = ji21 := hji21
         have hji21z : (ji19) ≤ 64 → ((rd t225 x19_1) / 2 ^ (ji19).toNat) = ji21 := shr_small hji21
         obtain ⟨ji22, hji22⟩ : ∃ j_ : Int, (wrap64 ((wrap64 ((wrap64 ((x3_2.length : Int) - 1)) - (wrap64 (8 * x19_1)))) - x24_2)) = j_ := ⟨_, rfl⟩
         (first | rw [hji22] at H | simp only [hji22] at H)
         have hji22w : (IntKind.i64.wrap ((wrap64 ((wrap64 ((x3_2.length : Int) - 1)) - (wrap64 (8 * x19_1)))) - x24_2)) = ji22 := (i64_w _).trans hji22
         obtain ⟨c23, H⟩ := ZI H
         have c23b0 : decide (0 ≤ (ji22)) = true := decide_eq_true c23
         clear c23
         obtain ⟨c24, H⟩ := ZI H
         have c24b0 : decide ((ji22) < (x3_2.length : Int)) = true := decide_eq_true c24
         clear c24
         obtain ⟨y232, hy232⟩ : ∃ y_ : List Int, y_ = (x3_2.set ((ji22) : Int).toNat ((ji21) % 256)) := ⟨_, rfl⟩
         replace H : (exact_pack.l1 k2 y232 x19_1 (rd t225 x19_1) t225 (t225.length : Int) x19_1 (wrap64 (x24_2 + 1))) = some r := ZH hy232 H
         have Ny232 := Aside0.mk hy232
         clear hy232
         have H' := Aside0.mk H
         clear H
         obtain ⟨Ao26, co26, eo26⟩ := Kd.R_slice HO_3.out
         subst eo26
         have p25 : 0 ≤ ((ji22) : Int) := of_decide_eq_true ZD
         have q25 : ((ji22) : Int) < ((x3_2.length : Int) : Int) := of_decide_eq_true ZD
         obtain ⟨go25, co25, eo25, gb25, gl25, cl25, HG25⟩ := Kd.R_form HO_3.out (by omega)
         (first | cases eo25 | (injection eo25 with ea_ en_ ec_; (first | subst ea_ | (injection ea_ with ea_; subst ea_)); subst ec_; clear en_))
         have GB25 := Aside0.mk gb25
         have GG25 := Aside0.mk HG25
         clear gb25 gl25 HG25
         have HMgo25 := Aside0.mk (show (P0_ go25 ∨ w.heap.size ≤ go25) from (HO_3.out.1 _ rfl))
         obtain ⟨hx25_0, hf25_0⟩ := Kd.R_celln 0 HO_3.out ((ji22) : Int) p25 q25; (try simp only [Int.toNat_natCast] at hx25_0 hf25_0)
         replace p25 := eq_true p25
         replace q25 := eq_true q25
         have HP27 := Kd.R_putg HO_3.out ((ji22) : Int) ((ji21) % 256)
         go_wp2_with (first | ((with_reducible refine gate_store (t := 5) (p := 41) rfl ?_); refine store_event (t := 5) (p := 41) (v := ?vo_w28) (w1 := (wr.setCell ⟨go25, ((ji22) : Int).toNat, none⟩ (.int .u8 ((ji21) % 256)))) ?hg ?ho ?hn ?hr ?_; (case ho => rfl); (case hg => rfl); (case hn => rfl); (case hr => first | (go_simp; done) | (go_simp; rfl)); intro w28 hw; have hg : wr.grownBy w28 (some go25) := (by rw [hw]; exact HP27.2); have hp_ : Kd.R (Kd.int .u8) 5 w28 w0.heap.size (fun k_ => (P0_ k_ ∨ w.heap.size ≤ k_)) (.slice (some ⟨go25, 0, none⟩) x3_2.length co26) y232 := (by rw [hw, Ny232.out]; exact HP27.1); clear HP27; replace HO_17 := Aside0.mk (Kd.R_over' (v := (.slice (some ⟨go25, 0, none⟩) x3_2.length co26)) (ZR HO_17.out) (Kd.R_typed HO_3.out) (by decide) hg); replace HB := Aside0.mk ((by rw [hw]; exact below_set (HB.out) GB25.out : Below w0.heap.size w0 w28)); replace HK := Aside0.mk (Kept.of_grown (S := (fun k_ => P0_ k_)) hg ZK (fun k_ e_ => (HO_3.out.1 k_ e_))); replace HO_3 := Aside0.mk (hp_); clear hg hw hp_))
         go_roundg k2
         case measure => have := HK1.out; have := HK2.out; omega
         case rel => exact ⟨(y232), (wrap64 (x24_2 + 1)), ZS, H', ⟨by have := HK1.out; have := HK2.out; omega⟩, ⟨by (with_reducible repeat (first | apply Kd.R_alloc | apply Kd.R_drewN | apply Kd.R_drew)); exact HO_3.out⟩, ⟨by (with_reducible repeat (first | apply Kd.R_alloc | apply Kd.R_drewN | apply Kd.R_drew)); exact HO_17.out⟩, ⟨ZK⟩, ⟨ZB⟩⟩
        ·rw [if_neg c18] at H
         have c18b0 : decide (x24_2 < 8) = false := decide_eq_false c18
         clear c18
         have H' := Aside0.mk H
         clear H
         go_wp2
         go_roundg k2
         case measure => have := HK1.out; have := HK2.out; omega
         case rel => exact ⟨(x3_2), (wrap64 (x19_1 + 1)), ZS, H', ⟨by have := HK1.out; have := HK2.out; omega⟩, ⟨by (with_reducible repeat (first | apply Kd.R_alloc | apply Kd.R_drewN | apply Kd.R_drew)); exact HO_3.out⟩, ⟨by (with_reducible repeat (first | apply Kd.R_alloc | apply Kd.R_drewN | apply Kd.R_drew)); exact HO_17.out⟩, ⟨ZK⟩, ⟨ZB⟩⟩
     ·rw [if_neg c15] at H
      have c15b0 : decide (x19_1 < (t225.length : Int)) = false := decide_eq_false c15
      clear c15
      have H' := Aside0.mk H
      clear H
      go_wp2
      go_loopg [7] k1 (fun kq v7 w' => ∃ (x7_2 : Int), v7 = .int .i64 x7_2 ∧ Aside0 (exact_pack.l2 kq x3_1 x7_2 = some r) ∧ Aside0 (kq ≤ k1) ∧ Aside0 (Kd.R (Kd.int .u8) 5 w' w0.heap.size (fun k_ => (P0_ k_ ∨ w.heap.size ≤ k_)) v229 x3_1) ∧ Aside0 (Kept w w' (fun k_ => P0_ k_)) ∧ Aside0 (Below w0.heap.size w0 w'))
      case atStart => exact ⟨(0), ZS, H', ⟨Nat.le_refl _⟩, ⟨by (with_reducible repeat (first | apply Kd.R_alloc | apply Kd.R_drewN | apply Kd.R_drew)); exact HO_3.out⟩, ⟨ZK⟩, ⟨ZB⟩⟩
      case round =>
       clear H'
       try clear c15
       try clear c15b0
       obtain ⟨x7_2, rfl, HA, HK2, HO_3, HK, HB⟩ := hrel
       cases gk with
       | zero => exact absurd HA.out (by simp [exact_pack.l2])
       | succ k2 =>
        have H := HA.out
        clear HA
        simp only [exact_pack.l2] at H
        obtain ⟨c29, H⟩ := ZI H
        have c29b0 : decide (0 ≤ x7_2) = true := decide_eq_true c29
        clear c29
        obtain ⟨c30, H⟩ := ZI H
        have c30b0 : decide (x7_2 < (x3_1.length : Int)) = true := decide_eq_true c30
        clear c30
        by_cases c31 : (rd x3_1 x7_2) = 0
        ·rw [if_pos c31] at H
         have c31b0 : ((rd x3_1 x7_2) == 0) = true := beq_iff_eq.mpr c31
         have c31b1 : ((rd x3_1 x7_2) != 0) = false := bne_eq_false_iff_eq.mpr c31
         clear c31
         have H' := Aside0.mk H
         clear H
         obtain ⟨Ao32, co32, eo32⟩ := Kd.R_slice HO_3.out
         subst eo32
         have p233 : 0 ≤ (x7_2 : Int) := of_decide_eq_true ZD
         have q233 : x7_2 < (x3_1.length : Int) := of_decide_eq_true ZD
         obtain ⟨ad233, e233, hx233_0⟩ := Kd.at_int (Kd.R_reads' HO_3.out).2.2 x7_2 p233 q233
         cases e233
         replace p233 := eq_true p233
         replace q233 := eq_true q233
         go_wp2
         go_roundg k2
         case measure => have := HK1.out; have := HK2.out; omega
         case rel => exact ⟨(wrap64 (x7_2 + 1)), ZS, H', ⟨by have := HK1.out; have := HK2.out; omega⟩, ⟨by (with_reducible repeat (first | apply Kd.R_alloc | apply Kd.R_drewN | apply Kd.R_drew)); exact HO_3.out⟩, ⟨ZK⟩, ⟨ZB⟩⟩
        ·rw [if_neg c31] at H
         have c31b0 : ((rd x3_1 x7_2) == 0) = false := beq_eq_false_iff_ne.mpr c31
         have c31b1 : ((rd x3_1 x7_2) != 0) = true := bne_iff_ne.mpr c31
         have c33b0 := eq_true (of_decide_eq_true ZD : 0 ≤ x7_2)
         obtain ⟨c34, H⟩ := ZI H
         have c34b0 := eq_true c34
         have c34b1 : decide (x7_2 ≤ (x3_1.length : Int)) = true := decide_eq_true c34
         clear c34
         obtain ⟨y234, hy234⟩ : ∃ y_ : List Int, y_ = (x3_1.drop (x7_2 : Int).toNat) := ⟨_, rfl⟩
         replace H : (some (strOfNums y234)) = some r := ZH hy234 H
         have Ny234 := Aside0.mk hy234
         clear hy234
         obtain rfl := Option.some.inj H
         obtain ⟨Ao35, co35, eo35⟩ := Kd.R_slice HO_3.out
         subst eo35
         have p233 : 0 ≤ (x7_2 : Int) := of_decide_eq_true ZD
         have q233 : x7_2 < (x3_1.length : Int) := of_decide_eq_true ZD
         obtain ⟨ad233, e233, hx233_0⟩ := Kd.at_int (Kd.R_reads' HO_3.out).2.2 x7_2 p233 q233
         cases e233
         replace p233 := eq_true p233
         replace q233 := eq_true q233
         have q36 : (x7_2 : Int) ≤ ((x3_1.length : Int) : Int) := of_decide_eq_true ZD
         obtain ⟨i036, hi036, _, hsz36, _⟩ := info_parts info5
         have hroom36 : x3_1.length ≤ co35 := (Kd.R_reads' HO_3.out).2.1
         have hC36 : Kd.C (Kd.int .u8) _ (some ad233) x3_1.length x3_1 := (Kd.R_reads' HO_3.out).2.2
         have q036 : (0 : Int) ≤ (x7_2 : Int) := of_decide_eq_true ZD
         have hcut36 := cut_from (P := Try.prog) 75 5 .i64 Try.underlying75 hi036 1 hsz36 (some ad233) x3_1.length co35 x7_2 q036 q36
         have hr36 := Kd.C_drop (m := (x7_2 : Int).toNat) (c := co35) hC36 (by omega) hroom36
         obtain ⟨A36, hA36⟩ : ∃ A1, A1 = (if co35 = (x7_2 : Int).toNat then (some ad233) else ((some ad233) : Option Addr).map (·.add ((x7_2 : Int).toNat * 1))) := ⟨_, rfl⟩
         obtain ⟨c36, hc36⟩ : ∃ c1, c1 = co35 - (x7_2 : Int).toNat := ⟨_, rfl⟩
         have hy36 : y234.length = x3_1.length - (x7_2 : Int).toNat := (by rw [Ny234.out, List.length_drop] <;> omega)
         rw [show (x3_1).drop (x7_2 : Int).toNat = y234 from Ny234.out.symm] at hr36
         replace hr36 : Kd.C (Kd.int .u8) _ A36 y234.length y234 := (by rw [hA36]; exact hr36)
         rw [← hy36, ← hA36, ← hc36] at hcut36
         have HR237 := Aside0.mk hr36
         have HC237 := Aside0.mk (show y234.length ≤ c36 from by rw [hy36, hc36]; exact Nat.sub_le_sub_right hroom36 _)
         clear hr36 hC36 hroom36 hi036 hsz36 hc36
         have KY36 := Aside0.mk hy36
         have KA36 := Aside0.mk hA36
         clear hy36 hA36
         have KL36 := Aside0.mk (show (x7_2 : Int).toNat ≤ x3_1.length from by omega)
         replace q36 := eq_true q36
         have hcv37 := Kd.C_string (P := Try.prog) (A := A36) (c := c36) Try.underlying75 Try.underlying5 Try.underlying22 (by repeat (first | (with_reducible exact HR237.out) | (with_reducible refine Kd.C_alloc ?_ _) | (with_reducible refine Kd.C_drewN ?_ _) | (with_reducible refine Kd.C_drew ?_) | exact HR237.out))
         go_wp2
         go_ret
         exact ⟨by first | rfl | (simp [errW_none, errW_some] <;> rfl) | (simp only [← hji7]; first | rfl | (simp [errW_none, errW_some] <;> rfl)) | (simp [*, errW_none, errW_some] <;> rfl), ZB, ZK⟩
  ·rw [if_neg c8] at H
   exact absurd H (by simp)
def exact_NatDivMod.f (k : Nat) (a0 : ByteArray) (a1 : ByteArray) : Option (ByteArray × ByteArray) := (exact_words.f k a0).bind fun t238 => ((exact_words.f k a1).bind fun t241 => ((exact_divide.f k t238 t241).bind fun bt244 => ((exact_pack.f k bt244.1).bind fun t250 => ((exact_pack.f k bt244.2).bind fun t251 => (some (t250, t251))))))
theorem exact_NatDivMod.mono : ∀ a0 a1 k, LeO (exact_NatDivMod.f k a0 a1) (exact_NatDivMod.f (k + 1) a0 a1) := by
 intro a0 a1 k
 unfold exact_NatDivMod.f
 repeat' first
   | (with_reducible exact exact_divide.mono _ _ _)
   | (with_reducible exact exact_pack.mono _ _)
   | (with_reducible exact exact_words.mono _ _)
   | (with_reducible exact LeO.refl _)
   | (with_reducible exact LeO.none _)
   | (with_reducible refine LeO.ite ?_ ?_)
   | (with_reducible refine LeO.bind ?_ (fun _ => ?_))
set_option maxHeartbeats 8000000 in
set_option maxRecDepth 100000 in
theorem exact_NatDivMod.calls (k : Nat) (a0 : ByteArray) (a1 : ByteArray) (r1 : ByteArray) (r2 : ByteArray) (w : World) (h : exact_NatDivMod.f k a0 a1 = some (r1, r2)) :
  Calls Try.prog 48 #[.string a0, .string a1] w fun e w' => e = .returned (.tuple #[.string r1, .string r2]) ∧ Below w.heap.size w w' := by
 have HB := Aside0.mk (Below.refl w.heap.size w)
 have H := h
 unfold exact_NatDivMod.f at H
 clear h
 obtain ⟨t238, A3, H⟩ := ZO H
 obtain ⟨t241, A4, H⟩ := ZO H
 obtain ⟨⟨t244, t247⟩, A5, H⟩ := ZO H
 (try dsimp only at H)
 obtain ⟨t250, A6, H⟩ := ZO H
 obtain ⟨t251, A7, H⟩ := ZO H
 simp only [Option.some.injEq, Prod.mk.injEq] at H
 obtain ⟨rfl, rfl⟩ := H
 go_enter Try.func48, Try.ntmps48
 go_wp2_with (first | ((with_reducible refine gate_callee (f := 70) rfl ?_); refine goesL_ (some 10) rfl rfl Try.func70 (by kernel_rfl) rfl #[.string a0] rfl ZA ?_; (with_reducible refine (exact_words.calls k a0 t238 _ A3.out).mono ?_); rintro e w8 ⟨v239, rfl, ho0, hb⟩; refine ⟨_, rfl, ?_⟩; have HO240 := Aside0.mk (Kd.R_lower ho0 (below_size ZB)); replace HB := Aside0.mk (below_step ZB hb); (try clear hb); (try clear ho0)) | ((with_reducible refine gate_callee (f := 70) rfl ?_); refine goesL_ (some 12) rfl rfl Try.func70 (by kernel_rfl) rfl #[.string a1] rfl ZA ?_; (with_reducible refine (exact_words.calls k a1 t241 _ A4.out).mono ?_); rintro e w9 ⟨v242, rfl, ho0, hb⟩; refine ⟨_, rfl, ?_⟩; have HO243 := Aside0.mk (Kd.R_lower (Kd.R_new' ho0 (Kd.R_lt (ZR HO240.out))) (below_size ZB)); replace HO240 := Aside0.mk (Kd.R_elder' (ZR HO240.out) (Kd.R_base ho0) hb); replace HB := Aside0.mk (below_step ZB hb); (try clear hb); (try clear ho0); obtain ⟨Ao10, co10, eo10⟩ := Kd.R_slice HO240.out; subst eo10; obtain ⟨Ao11, co11, eo11⟩ := Kd.R_slice HO243.out; subst eo11) | ((with_reducible refine gate_callee (f := 69) rfl ?_); refine goesL_ (some 13) rfl rfl Try.func69 (by kernel_rfl) rfl #[.slice Ao10 t238.length co10, .slice Ao11 t241.length co11] rfl ZA ?_; (with_reducible refine (exact_divide.calls k (fun k_ => some k_ = (.slice Ao10 t238.length co10 : Value).ownBlock) (.slice Ao10 t238.length co10) t238 _ _ t241 t244 t247 w _ ?side1 ?side2 ?side3 ?side4 A5.out).mono ?_); (case side1 => repeat (first | (with_reducible first | exact HB.out | apply below_alloc | apply pw_below_drewN | apply below_drew1) | exact HB.out)); (case side2 => exact Kd.R_tight rfl HO240.out); (case side3 => exact Kd.C_kept_own (HO243.out) (fun k_ hk_ hs_ => (hk_.2) hs_)); (case side4 => exact (Kd.R_reads' HO243.out).2.1); rintro e w12 ⟨v245, v248, rfl, ho0, ho1, hb, hkp⟩; refine ⟨_, rfl, ?_⟩; have HO246 := Aside0.mk (Kd.R_mono (ok' := fun k_ => some k_ ≠ (v248 : Value).ownBlock ∧ some k_ ≠ (.slice Ao11 t241.length co11 : Value).ownBlock) ho0 (fun k_ hk_ => ⟨hk_.2, Or.elim hk_.1 (fun hs_ => fun e_ => (((HO243.out).1 k_ e_.symm).2) hs_) (fun hn_ => (Kd.fresh' (Kd.R_lt (ZR HO243.out)) k_ hn_))⟩)); have HO249 := Aside0.mk (Kd.R_mono (ok' := fun k_ => some k_ ≠ (v245 : Value).ownBlock ∧ some k_ ≠ (.slice Ao11 t241.length co11 : Value).ownBlock) ho1 (fun k_ hk_ => ⟨hk_.2, Or.elim hk_.1 (fun hs_ => fun e_ => (((HO243.out).1 k_ e_.symm).2) hs_) (fun hn_ => (Kd.fresh' (Kd.R_lt (ZR HO243.out)) k_ hn_))⟩)); replace HO243 := Aside0.mk (Kd.R_mono (ok' := fun k_ => some k_ ≠ (v245 : Value).ownBlock ∧ some k_ ≠ (v248 : Value).ownBlock) (Kd.R_keptB (HO243.out) hkp (fun k_ hk_ hs_ => (hk_.2) hs_)) (fun k_ hk_ => ⟨fun e_ => Or.elim (ho0.1 k_ e_.symm).1 (fun hs_ => hk_.2.1 hs_) (fun hn_ => Nat.not_le.2 hk_.2.2 hn_), fun e_ => Or.elim (ho1.1 k_ e_.symm).1 (fun hs_ => hk_.2.1 hs_) (fun hn_ => Nat.not_le.2 hk_.2.2 hn_)⟩)); replace HB := Aside0.mk (hb); clear HO240; (try clear hb); (try clear hkp); (try clear ho0); (try clear ho1); obtain ⟨Ao13, co13, eo13⟩ := Kd.R_slice HO246.out; subst eo13) | ((with_reducible refine gate_callee (f := 71) rfl ?_); refine goesL_ (some 17) rfl rfl Try.func71 (by kernel_rfl) rfl #[.slice Ao13 t244.length co13] rfl ZA ?_; (with_reducible refine (exact_pack.calls k (fun k_ => some k_ = (.slice Ao13 t244.length co13 : Value).ownBlock) (.slice Ao13 t244.length co13) t244 t250 w _ ?side1 ?side2 A6.out).mono ?_); (case side1 => repeat (first | (with_reducible first | exact HB.out | apply below_alloc | apply pw_below_drewN | apply below_drew1) | exact HB.out)); (case side2 => exact Kd.R_tight rfl HO246.out); rintro e w14 ⟨rfl, hb, hkp⟩; refine ⟨_, rfl, ?_⟩; replace HO243 := Aside0.mk (Kd.R_mono (ok' := fun k_ => some k_ ≠ (v248 : Value).ownBlock) (Kd.R_keptB (HO243.out) hkp (fun k_ hk_ hs_ => (hk_.1) hs_)) (fun k_ hk_ => hk_.1.2)); replace HO249 := Aside0.mk (Kd.R_mono (ok' := fun k_ => some k_ ≠ (.slice Ao11 t241.length co11 : Value).ownBlock) (Kd.R_keptB (HO249.out) hkp (fun k_ hk_ hs_ => (hk_.1) hs_)) (fun k_ hk_ => hk_.1.2)); replace HB := Aside0.mk (hb); clear HO246; (try clear hb); (try clear hkp); obtain ⟨Ao15, co15, eo15⟩ := Kd.R_slice HO249.out; subst eo15) | ((with_reducible refine gate_callee (f := 71) rfl ?_); refine goesL_ (some 19) rfl rfl Try.func71 (by kernel_rfl) rfl #[.slice Ao15 t247.length co15] rfl ZA ?_; (with_reducible refine (exact_pack.calls k (fun k_ => some k_ = (.slice Ao15 t247.length co15 : Value).ownBlock) (.slice Ao15 t247.length co15) t247 t251 w _ ?side1 ?side2 A7.out).mono ?_); (case side1 => repeat (first | (with_reducible first | exact HB.out | apply below_alloc | apply pw_below_drewN | apply below_drew1) | exact HB.out)); (case side2 => exact Kd.R_tight rfl HO249.out); rintro e w16 ⟨rfl, hb, hkp⟩; refine ⟨_, rfl, ?_⟩; replace HO243 := Aside0.mk (Kd.R_mono (ok' := fun k_ => True) (Kd.R_keptB (HO243.out) hkp (fun k_ hk_ hs_ => (hk_) hs_)) (fun k_ hk_ => trivial)); replace HB := Aside0.mk (hb); clear HO249; (try clear hb); (try clear hkp)))
 go_ret2
 exact ⟨ZE, ZB⟩
end Go.Proofs.Ytohkmnbnjacfaaa.All
namespace Go.Proofs.Ytohkmnbnjacfaaa.All
open Go.Proofs.YtohkmnbnjacfaaaX
open Go.RowKit Go.Proofs.YtohkmnbnjacfaaaW.PrintWords Go.Proofs.YtohkmnbnjacfaaaW.PrintLast Go.Proofs.YtohkmnbnjacfaaaW.PrintMore
attribute [local go_sem] max2_int min2_int max_two min_two max_three min_three max_four min_four
set_option linter.unusedVariables false
set_option linter.unusedSimpArgs false
def natural_DivMod.f (k : Nat) (a0 : ByteArray) (a1 : ByteArray) : Option (ByteArray × ByteArray × Int) := (natural_first.f k (([a0, a1] : List ByteArray))).bind fun t255 => (if t255 = 0 then (if a1.toList = ([] : List UInt8) then (some ((⟨#[]⟩ : ByteArray), (⟨#[]⟩ : ByteArray), 6)) else ((exact_NatDivMod.f k a0 a1).bind fun bt256 => (some (bt256.1, bt256.2, 0)))) else (some ((⟨#[]⟩ : ByteArray), (⟨#[]⟩ : ByteArray), t255)))
theorem natural_DivMod.mono : ∀ a0 a1 k, LeO (natural_DivMod.f k a0 a1) (natural_DivMod.f (k + 1) a0 a1) := by
 intro a0 a1 k
 unfold natural_DivMod.f
 repeat' first
   | (with_reducible exact exact_NatDivMod.mono _ _ _)
   | (with_reducible exact natural_first.mono _ _)
   | (with_reducible exact LeO.refl _)
   | (with_reducible exact LeO.none _)
   | (with_reducible refine LeO.ite ?_ ?_)
   | (with_reducible refine LeO.bind ?_ (fun _ => ?_))
theorem natural_DivMod.M1 {g : Prop} (h : g := by
 go_enter Try.func14, Try.ntmps14
 go_wp2_with (first | ((with_reducible refine gate_dst (N := 12) rfl ?_); refine Kd.R_lit Kd.string _ 22 ?hg (N := 12) ?hd (xs := ([a0, a1] : List ByteArray)) (inner := [.string a0, .string a1]) (ok := fun _ => True) (okp := fun _ => True) ?hr ?hp (fun _ hk => hk) trivial (Below.refl _ _) (Nat.le_refl _) (by simp) ?_; (case hd => rfl); (case hg => rfl); (case hr => first | (go_simp; done) | (go_simp; rfl)); (case hp => exact (Reps.one (show Kd.M Kd.string _ _ _ a0 [.string a0] from rfl) (Reps.one (show Kd.M Kd.string _ _ _ a1 [.string a1] from rfl) (Reps.none _ _)))); intro v9001 w9002 ho9003 hb hg_ hnew_; clear hg_ hnew_; (first | rw [← Ny252.out] at ho9003 | (simp only [Int.reduceToNat] at ho9003; rw [← Ny252.out] at ho9003)); have HO9004 := Aside0.mk (Kd.R_lower ho9003 (below_size ZB)); replace HB := Aside0.mk (below_step ZB hb); clear hb ho9003; obtain ⟨Ao9005, co9006, eo9007⟩ := Kd.R_slice HO9004.out; subst eo9007) | ((with_reducible refine gate_callee (f := 47) rfl ?_); refine goesL_ (some 13) rfl rfl Try.func47 (by kernel_rfl) rfl #[.slice Ao9005 y252.length co9006] rfl ZA ?_; (with_reducible refine (natural_first.calls k _ _ y252 t255 _ ?side1 ?side2 A3.out).mono ?_); (case side1 => exact ZC (Kd.R_reads' HO9004.out).2.2); (case side2 => exact (Kd.R_reads' HO9004.out).2.1); rintro e w' ⟨rfl, ⟨nd, rfl⟩⟩; refine ⟨_, rfl, ?_⟩) | ((with_reducible refine gate_callee (f := 48) rfl ?_); refine goesL_ (some 22) rfl rfl Try.func48 (by kernel_rfl) rfl #[.string a0, .string a1] rfl ZA ?_; (with_reducible refine (exact_NatDivMod.calls k a0 a1 t256 t257 _ A9.out).mono ?_); rintro e w9008 ⟨rfl, hb⟩; refine ⟨_, rfl, ?_⟩; replace HO9004 := Aside0.mk (Kd.R_below (ZR HO9004.out) hb); replace HB := Aside0.mk (below_step ZB hb); (try clear hb)))
 go_ret3
 exact ⟨ZE, ZB⟩) : g := h
set_option maxHeartbeats 8000000 in
set_option maxRecDepth 100000 in
theorem natural_DivMod.calls (k : Nat) (a0 : ByteArray) (a1 : ByteArray) (r1 : ByteArray) (r2 : ByteArray) (r3 : Int) (w : World) (h : natural_DivMod.f k a0 a1 = some (r1, r2, r3)) :
  Calls Try.prog 14 #[.string a0, .string a1] w fun e w' => e = .returned (.tuple #[.string r1, .string r2, .int .i64 r3]) ∧ Below w.heap.size w w' := by
 have HB := Aside0.mk (Below.refl w.heap.size w)
 have H := h
 unfold natural_DivMod.f at H
 clear h
 generalize hy252 : (([a0, a1] : List ByteArray)) = y252 at H
 have Ny252 := Aside0.mk hy252.symm
 clear hy252
 obtain ⟨t255, A3, H⟩ := ZO H
 by_cases c4 : t255 = 0
 ·rw [if_pos c4] at H
  have c4b0 : (t255 == 0) = true := beq_iff_eq.mpr c4
  have c4b1 : (t255 != 0) = false := bne_eq_false_iff_eq.mpr c4
  clear c4
  by_cases c5 : a1.toList = ([] : List UInt8)
  ·rw [if_pos c5] at H
   have c5b0 : (a1.toList == ([] : List UInt8)) = true := beq_iff_eq.mpr c5
   have c5b1 : (a1.toList != ([] : List UInt8)) = false := bne_eq_false_iff_eq.mpr c5
   clear c5
   simp only [Option.some.injEq, Prod.mk.injEq] at H
   obtain ⟨rfl, rfl, rfl⟩ := H
   exact natural_DivMod.M1
  ·rw [if_neg c5] at H
   have c5b0 : (a1.toList == ([] : List UInt8)) = false := beq_eq_false_iff_ne.mpr c5
   have c5b1 : (a1.toList != ([] : List UInt8)) = true := bne_iff_ne.mpr c5
   obtain ⟨⟨t256, t257⟩, A9, H⟩ := ZO H
   (try dsimp only at H)
   simp only [Option.some.injEq, Prod.mk.injEq] at H
   obtain ⟨rfl, rfl, rfl⟩ := H
   exact natural_DivMod.M1
 ·rw [if_neg c4] at H
  have c4b0 : (t255 == 0) = false := beq_eq_false_iff_ne.mpr c4
  have c4b1 : (t255 != 0) = true := bne_iff_ne.mpr c4
  simp only [Option.some.injEq, Prod.mk.injEq] at H
  obtain ⟨rfl, rfl, rfl⟩ := H
  go_enter Try.func14, Try.ntmps14
  go_wp2_with (first | ((with_reducible refine gate_dst (N := 12) rfl ?_); refine Kd.R_lit Kd.string _ 22 ?hg (N := 12) ?hd (xs := ([a0, a1] : List ByteArray)) (inner := [.string a0, .string a1]) (ok := fun _ => True) (okp := fun _ => True) ?hr ?hp (fun _ hk => hk) trivial (Below.refl _ _) (Nat.le_refl _) (by simp) ?_; (case hd => rfl); (case hg => rfl); (case hr => first | (go_simp; done) | (go_simp; rfl)); (case hp => exact (Reps.one (show Kd.M Kd.string _ _ _ a0 [.string a0] from rfl) (Reps.one (show Kd.M Kd.string _ _ _ a1 [.string a1] from rfl) (Reps.none _ _)))); intro v253 w14 ho15 hb hg_ hnew_; clear hg_ hnew_; (first | rw [← Ny252.out] at ho15 | (simp only [Int.reduceToNat] at ho15; rw [← Ny252.out] at ho15)); have HO254 := Aside0.mk (Kd.R_lower ho15 (below_size ZB)); replace HB := Aside0.mk (below_step ZB hb); clear hb ho15; obtain ⟨Ao16, co16, eo16⟩ := Kd.R_slice HO254.out; subst eo16) | ((with_reducible refine gate_callee (f := 47) rfl ?_); refine goesL_ (some 13) rfl rfl Try.func47 (by kernel_rfl) rfl #[.slice Ao16 y252.length co16] rfl ZA ?_; (with_reducible refine (natural_first.calls k _ _ y252 t255 _ ?side1 ?side2 A3.out).mono ?_); (case side1 => exact ZC (Kd.R_reads' HO254.out).2.2); (case side2 => exact (Kd.R_reads' HO254.out).2.1); rintro e w' ⟨rfl, ⟨nd, rfl⟩⟩; refine ⟨_, rfl, ?_⟩))
  go_ret3
  exact ⟨ZE, ZB⟩
def exact_NatGcd.l0 : Nat → List Int → List Int → Option (ByteArray)
 | 0, _, _ => none
 | k + 1, x5, x6 => if (x6.length : Int) > 0 then ((exact_divide.f k x5 x6).bind fun bt264 => (exact_NatGcd.l0 k x6 bt264.2)) else ((exact_pack.f k x5).bind fun t270 => (some t270))
def exact_NatGcd.f (k : Nat) (a0 : ByteArray) (a1 : ByteArray) : Option (ByteArray) := (exact_words.f k a0).bind fun t258 => ((exact_words.f k a1).bind fun t261 => (exact_NatGcd.l0 k t258 t261))
theorem exact_NatGcd.U1 {g : Prop} (h : g := by
 repeat' first
 | (with_reducible exact ih0 _ _)
 | (with_reducible exact exact_divide.mono _ _ _)
 | (with_reducible exact exact_pack.mono _ _)
 | (with_reducible exact exact_words.mono _ _)
 | (with_reducible exact LeO.refl _)
 | (with_reducible exact LeO.none _)
 | (with_reducible refine LeO.ite ?_ ?_)
 | (with_reducible refine LeO.bind ?_ (fun _ => ?_))) : g := h
theorem exact_NatGcd.mono_l : ∀ k, (∀ y0 y1, LeO (exact_NatGcd.l0 k y0 y1) (exact_NatGcd.l0 (k + 1) y0 y1))
 | 0 => fun _ _ r h => by simp [exact_NatGcd.l0] at h
 | k + 1 => by
  have ih0 := exact_NatGcd.mono_l k
  ·intro y0 y1
   unfold exact_NatGcd.l0
   exact exact_NatGcd.U1
theorem exact_NatGcd.mono : ∀ a0 a1 k, LeO (exact_NatGcd.f k a0 a1) (exact_NatGcd.f (k + 1) a0 a1) := by
 intro a0 a1 k
 have ih0 := exact_NatGcd.mono_l k
 unfold exact_NatGcd.f
 exact exact_NatGcd.U1
set_option maxHeartbeats 8000000 in
set_option maxRecDepth 100000 in
theorem exact_NatGcd.calls (k : Nat) (a0 : ByteArray) (a1 : ByteArray) (r : ByteArray) (w : World) (h : exact_NatGcd.f k a0 a1 = some r) :
  Calls Try.prog 49 #[.string a0, .string a1] w fun e w' => e = .returned (.string r) ∧ Below w.heap.size w w' := by
 have HB := Aside0.mk (Below.refl w.heap.size w)
 have H := h
 unfold exact_NatGcd.f at H
 clear h
 obtain ⟨t258, A3, H⟩ := ZO H
 obtain ⟨t261, A4, H⟩ := ZO H
 have H' := Aside0.mk H
 clear H
 go_enter Try.func49, Try.ntmps49
 go_wp2_with (first | ((with_reducible refine gate_callee (f := 70) rfl ?_); refine goesL_ (some 10) rfl rfl Try.func70 (by kernel_rfl) rfl #[.string a0] rfl ZA ?_; (with_reducible refine (exact_words.calls k a0 t258 _ A3.out).mono ?_); rintro e w5 ⟨v259, rfl, ho0, hb⟩; refine ⟨_, rfl, ?_⟩; have HO260 := Aside0.mk (Kd.R_lower ho0 (below_size ZB)); replace HB := Aside0.mk (below_step ZB hb); (try clear hb); (try clear ho0)) | ((with_reducible refine gate_callee (f := 70) rfl ?_); refine goesL_ (some 12) rfl rfl Try.func70 (by kernel_rfl) rfl #[.string a1] rfl ZA ?_; (with_reducible refine (exact_words.calls k a1 t261 _ A4.out).mono ?_); rintro e w6 ⟨v262, rfl, ho0, hb⟩; refine ⟨_, rfl, ?_⟩; have HO263 := Aside0.mk (Kd.R_lower (Kd.R_new' ho0 (Kd.R_lt (ZR HO260.out))) (below_size ZB)); replace HO260 := Aside0.mk (Kd.R_elder' (ZR HO260.out) (Kd.R_base ho0) hb); replace HB := Aside0.mk (below_step ZB hb); (try clear hb); (try clear ho0)))
 go_loopg [5, 6] k (fun kq v5 v6 w' => ∃ (x5_1 : List Int) (x6_1 : List Int), Aside0 (exact_NatGcd.l0 kq x5_1 x6_1 = some r) ∧ Aside0 (kq ≤ k) ∧ Aside0 (Kd.R (Kd.int .u64) 49 w' w.heap.size (fun k_ => some k_ ≠ (v6 : Value).ownBlock) v5 x5_1) ∧ Aside0 (Kd.R (Kd.int .u64) 49 w' w.heap.size (fun k_ => some k_ ≠ (v5 : Value).ownBlock) v6 x6_1) ∧ Aside0 (Below w.heap.size w w'))
 case atStart => exact ⟨(t258), (t261), H', ⟨Nat.le_refl _⟩, ⟨by (with_reducible repeat (first | apply Kd.R_alloc | apply Kd.R_drewN | apply Kd.R_drew)); exact Kd.R_mono HO260.out (fun _ hk => hk.2)⟩, ⟨by (with_reducible repeat (first | apply Kd.R_alloc | apply Kd.R_drewN | apply Kd.R_drew)); exact Kd.R_mono HO263.out (fun _ hk => hk.2)⟩, ⟨ZB⟩⟩
 case round =>
  clear H'
  obtain ⟨x5_1, x6_1, HA, HK1, HO_5, HO_6, HB⟩ := hrel
  cases gk with
  | zero => exact absurd HA.out (by simp [exact_NatGcd.l0])
  | succ k1 =>
   have H := HA.out
   clear HA
   simp only [exact_NatGcd.l0] at H
   by_cases c7 : (x6_1.length : Int) > 0
   ·rw [if_pos c7] at H
    have c7b0 : decide (0 < (x6_1.length : Int)) = true := decide_eq_true c7
    have c7b1 : decide (0 < x6_1.length) = true := decide_eq_true (by omega)
    clear c7
    obtain ⟨⟨t264, t267⟩, A8, H⟩ := ZO H
    (try dsimp only at H)
    have H' := Aside0.mk H
    clear H
    obtain ⟨Ao9, co9, eo9⟩ := Kd.R_slice HO_6.out
    subst eo9
    obtain ⟨Ao10, co10, eo10⟩ := Kd.R_slice HO_5.out
    subst eo10
    go_wp2_with (first | ((with_reducible refine gate_callee (f := 69) rfl ?_); refine goesL_ (some 19) rfl rfl Try.func69 (by kernel_rfl) rfl #[.slice Ao10 x5_1.length co10, .slice Ao9 x6_1.length co9] rfl ZA ?_; (with_reducible refine (exact_divide.calls k1 (fun k_ => some k_ = (.slice Ao10 x5_1.length co10 : Value).ownBlock) (.slice Ao10 x5_1.length co10) x5_1 _ _ x6_1 t264 t267 w _ ?side1 ?side2 ?side3 ?side4 A8.out).mono ?_); (case side1 => repeat (first | (with_reducible first | exact HB.out | apply below_alloc | apply pw_below_drewN | apply below_drew1) | exact HB.out)); (case side2 => exact Kd.R_tight rfl HO_5.out); (case side3 => exact Kd.C_kept_own (HO_6.out) (fun k_ hk_ hs_ => (hk_) hs_)); (case side4 => exact (Kd.R_reads' HO_6.out).2.1); rintro e w11 ⟨v265, v268, rfl, ho0, ho1, hb, hkp⟩; refine ⟨_, rfl, ?_⟩; have HO266 := Aside0.mk (Kd.R_mono (ok' := fun k_ => some k_ ≠ (v268 : Value).ownBlock ∧ some k_ ≠ (.slice Ao9 x6_1.length co9 : Value).ownBlock) ho0 (fun k_ hk_ => ⟨hk_.2, Or.elim hk_.1 (fun hs_ => fun e_ => (((HO_6.out).1 k_ e_.symm)) hs_) (fun hn_ => (Kd.fresh' (Kd.R_lt (ZR HO_6.out)) k_ hn_))⟩)); have HO269 := Aside0.mk (Kd.R_mono (ok' := fun k_ => some k_ ≠ (v265 : Value).ownBlock ∧ some k_ ≠ (.slice Ao9 x6_1.length co9 : Value).ownBlock) ho1 (fun k_ hk_ => ⟨hk_.2, Or.elim hk_.1 (fun hs_ => fun e_ => (((HO_6.out).1 k_ e_.symm)) hs_) (fun hn_ => (Kd.fresh' (Kd.R_lt (ZR HO_6.out)) k_ hn_))⟩)); replace HO_6 := Aside0.mk (Kd.R_mono (ok' := fun k_ => some k_ ≠ (v265 : Value).ownBlock ∧ some k_ ≠ (v268 : Value).ownBlock) (Kd.R_keptB (HO_6.out) hkp (fun k_ hk_ hs_ => (hk_) hs_)) (fun k_ hk_ => ⟨fun e_ => Or.elim (ho0.1 k_ e_.symm).1 (fun hs_ => hk_.2.1 hs_) (fun hn_ => Nat.not_le.2 hk_.2.2 hn_), fun e_ => Or.elim (ho1.1 k_ e_.symm).1 (fun hs_ => hk_.2.1 hs_) (fun hn_ => Nat.not_le.2 hk_.2.2 hn_)⟩)); replace HB := Aside0.mk (hb); clear HO_5; (try clear hb); (try clear hkp); (try clear ho0); (try clear ho1)))
    go_roundg k1
    case measure => have := HK1.out; omega
    case rel => exact ⟨(x6_1), (t267), H', ⟨by have := HK1.out; omega⟩, ⟨by (with_reducible repeat (first | apply Kd.R_alloc | apply Kd.R_drewN | apply Kd.R_drew)); exact Kd.R_mono HO_6.out (fun _ hk => hk.2)⟩, ⟨by (with_reducible repeat (first | apply Kd.R_alloc | apply Kd.R_drewN | apply Kd.R_drew)); exact Kd.R_mono HO269.out (fun _ hk => hk.2)⟩, ⟨ZB⟩⟩
   ·rw [if_neg c7] at H
    have c7b0 : decide (0 < (x6_1.length : Int)) = false := decide_eq_false c7
    have c7b1 : decide (0 < x6_1.length) = false := decide_eq_false (by omega)
    clear c7
    obtain ⟨t270, A12, H⟩ := ZO H
    obtain rfl := Option.some.inj H
    obtain ⟨Ao13, co13, eo13⟩ := Kd.R_slice HO_6.out
    subst eo13
    obtain ⟨Ao14, co14, eo14⟩ := Kd.R_slice HO_5.out
    subst eo14
    go_wp2_with (first | ((with_reducible refine gate_callee (f := 71) rfl ?_); refine goesL_ (some 25) rfl rfl Try.func71 (by kernel_rfl) rfl #[.slice Ao14 x5_1.length co14] rfl ZA ?_; (with_reducible refine (exact_pack.calls k1 (fun k_ => some k_ = (.slice Ao14 x5_1.length co14 : Value).ownBlock) (.slice Ao14 x5_1.length co14) x5_1 t270 w _ ?side1 ?side2 A12.out).mono ?_); (case side1 => repeat (first | (with_reducible first | exact HB.out | apply below_alloc | apply pw_below_drewN | apply below_drew1) | exact HB.out)); (case side2 => exact Kd.R_tight rfl HO_5.out); rintro e w15 ⟨rfl, hb, hkp⟩; refine ⟨_, rfl, ?_⟩; replace HO_6 := Aside0.mk (Kd.R_mono (ok' := fun k_ => True) (Kd.R_keptB (HO_6.out) hkp (fun k_ hk_ hs_ => (hk_) hs_)) (fun k_ hk_ => trivial)); replace HB := Aside0.mk (hb); clear HO_5; (try clear hb); (try clear hkp)))
    go_ret
    exact ⟨ZE, ZB⟩
def natural_Gcd.f (k : Nat) (a0 : ByteArray) (a1 : ByteArray) : Option (ByteArray × Int) := (natural_first.f k (([a0, a1] : List ByteArray))).bind fun t274 => (if t274 = 0 then ((exact_NatGcd.f k a0 a1).bind fun t275 => (some (t275, 0))) else (some ((⟨#[]⟩ : ByteArray), t274)))
theorem natural_Gcd.mono : ∀ a0 a1 k, LeO (natural_Gcd.f k a0 a1) (natural_Gcd.f (k + 1) a0 a1) := by
 intro a0 a1 k
 unfold natural_Gcd.f
 repeat' first
   | (with_reducible exact exact_NatGcd.mono _ _ _)
   | (with_reducible exact natural_first.mono _ _)
   | (with_reducible exact LeO.refl _)
   | (with_reducible exact LeO.none _)
   | (with_reducible refine LeO.ite ?_ ?_)
   | (with_reducible refine LeO.bind ?_ (fun _ => ?_))
set_option maxHeartbeats 8000000 in
set_option maxRecDepth 100000 in
theorem natural_Gcd.calls (k : Nat) (a0 : ByteArray) (a1 : ByteArray) (r1 : ByteArray) (r2 : Int) (w : World) (h : natural_Gcd.f k a0 a1 = some (r1, r2)) :
  Calls Try.prog 15 #[.string a0, .string a1] w fun e w' => e = .returned (.tuple #[.string r1, .int .i64 r2]) ∧ Below w.heap.size w w' := by
 have HB := Aside0.mk (Below.refl w.heap.size w)
 have H := h
 unfold natural_Gcd.f at H
 clear h
 generalize hy271 : (([a0, a1] : List ByteArray)) = y271 at H
 have Ny271 := Aside0.mk hy271.symm
 clear hy271
 obtain ⟨t274, A3, H⟩ := ZO H
 by_cases c4 : t274 = 0
 ·rw [if_pos c4] at H
  have c4b0 : (t274 == 0) = true := beq_iff_eq.mpr c4
  have c4b1 : (t274 != 0) = false := bne_eq_false_iff_eq.mpr c4
  clear c4
  obtain ⟨t275, A5, H⟩ := ZO H
  simp only [Option.some.injEq, Prod.mk.injEq] at H
  obtain ⟨rfl, rfl⟩ := H
  go_enter Try.func15, Try.ntmps15
  go_wp2_with (first | ((with_reducible refine gate_dst (N := 9) rfl ?_); refine Kd.R_lit Kd.string _ 22 ?hg (N := 9) ?hd (xs := ([a0, a1] : List ByteArray)) (inner := [.string a0, .string a1]) (ok := fun _ => True) (okp := fun _ => True) ?hr ?hp (fun _ hk => hk) trivial (Below.refl _ _) (Nat.le_refl _) (by simp) ?_; (case hd => rfl); (case hg => rfl); (case hr => first | (go_simp; done) | (go_simp; rfl)); (case hp => exact (Reps.one (show Kd.M Kd.string _ _ _ a0 [.string a0] from rfl) (Reps.one (show Kd.M Kd.string _ _ _ a1 [.string a1] from rfl) (Reps.none _ _)))); intro v272 w6 ho7 hb hg_ hnew_; clear hg_ hnew_; (first | rw [← Ny271.out] at ho7 | (simp only [Int.reduceToNat] at ho7; rw [← Ny271.out] at ho7)); have HO273 := Aside0.mk (Kd.R_lower ho7 (below_size ZB)); replace HB := Aside0.mk (below_step ZB hb); clear hb ho7; obtain ⟨Ao8, co8, eo8⟩ := Kd.R_slice HO273.out; subst eo8) | ((with_reducible refine gate_callee (f := 47) rfl ?_); refine goesL_ (some 10) rfl rfl Try.func47 (by kernel_rfl) rfl #[.slice Ao8 y271.length co8] rfl ZA ?_; (with_reducible refine (natural_first.calls k _ _ y271 t274 _ ?side1 ?side2 A3.out).mono ?_); (case side1 => exact ZC (Kd.R_reads' HO273.out).2.2); (case side2 => exact (Kd.R_reads' HO273.out).2.1); rintro e w' ⟨rfl, ⟨nd, rfl⟩⟩; refine ⟨_, rfl, ?_⟩) | ((with_reducible refine gate_callee (f := 49) rfl ?_); refine goesL_ (some 16) rfl rfl Try.func49 (by kernel_rfl) rfl #[.string a0, .string a1] rfl ZA ?_; (with_reducible refine (exact_NatGcd.calls k a0 a1 t275 _ A5.out).mono ?_); rintro e w9 ⟨rfl, hb⟩; refine ⟨_, rfl, ?_⟩; replace HO273 := Aside0.mk (Kd.R_below (ZR HO273.out) hb); replace HB := Aside0.mk (below_step ZB hb); (try clear hb)))
  go_ret2
  exact ⟨ZE, ZB⟩
 ·rw [if_neg c4] at H
  have c4b0 : (t274 == 0) = false := beq_eq_false_iff_ne.mpr c4
  have c4b1 : (t274 != 0) = true := bne_iff_ne.mpr c4
  simp only [Option.some.injEq, Prod.mk.injEq] at H
  obtain ⟨rfl, rfl⟩ := H
  go_enter Try.func15, Try.ntmps15
  go_wp2_with (first | ((with_reducible refine gate_dst (N := 9) rfl ?_); refine Kd.R_lit Kd.string _ 22 ?hg (N := 9) ?hd (xs := ([a0, a1] : List ByteArray)) (inner := [.string a0, .string a1]) (ok := fun _ => True) (okp := fun _ => True) ?hr ?hp (fun _ hk => hk) trivial (Below.refl _ _) (Nat.le_refl _) (by simp) ?_; (case hd => rfl); (case hg => rfl); (case hr => first | (go_simp; done) | (go_simp; rfl)); (case hp => exact (Reps.one (show Kd.M Kd.string _ _ _ a0 [.string a0] from rfl) (Reps.one (show Kd.M Kd.string _ _ _ a1 [.string a1] from rfl) (Reps.none _ _)))); intro v272 w10 ho11 hb hg_ hnew_; clear hg_ hnew_; (first | rw [← Ny271.out] at ho11 | (simp only [Int.reduceToNat] at ho11; rw [← Ny271.out] at ho11)); have HO273 := Aside0.mk (Kd.R_lower ho11 (below_size ZB)); replace HB := Aside0.mk (below_step ZB hb); clear hb ho11; obtain ⟨Ao12, co12, eo12⟩ := Kd.R_slice HO273.out; subst eo12) | ((with_reducible refine gate_callee (f := 47) rfl ?_); refine goesL_ (some 10) rfl rfl Try.func47 (by kernel_rfl) rfl #[.slice Ao12 y271.length co12] rfl ZA ?_; (with_reducible refine (natural_first.calls k _ _ y271 t274 _ ?side1 ?side2 A3.out).mono ?_); (case side1 => exact ZC (Kd.R_reads' HO273.out).2.2); (case side2 => exact (Kd.R_reads' HO273.out).2.1); rintro e w' ⟨rfl, ⟨nd, rfl⟩⟩; refine ⟨_, rfl, ?_⟩))
  go_ret2
  exact ⟨ZE, ZB⟩
def bits_Len8.f (a0 : Int) : Option (Int) := if 0 ≤ a0 ∧ a0 ≤ 255 then some (Lib.bitLen a0.toNat : Int) else none
theorem bits_Len8.calls (a0 : Int) (r : Int) (w : World) (h : bits_Len8.f a0 = some r) :
  Calls Try.prog 72 #[.int .u8 a0] w fun e w' => e = .returned (.int .i64 r) ∧ Drawn0 w w' := by
 unfold bits_Len8.f at h
 by_cases c : 0 ≤ a0 ∧ a0 ≤ 255
 ·rw [if_pos c] at h
  obtain rfl := Option.some.inj h
  refine (len8_says a0 w c.1 c.2).mono ?_
  rintro e w' ⟨he, rfl⟩
  exact ⟨he, Drawn0.refl _⟩
 ·rw [if_neg c] at h
  exact absurd h (by simp)
def exact_NatBits.f (a0 : ByteArray) : Option (Int) := if a0.toList = ([] : List UInt8) then (some 0) else (if 0 < (a0.size : Int) then ((bits_Len8.f (bt a0 0)).bind fun t276 => (some (wrap64 ((wrap64 (8 * (wrap64 ((a0.size : Int) - 1)))) + t276)))) else (none))
theorem exact_NatBits.M1 {g : Prop} (h : g := by
 go_enter Try.func54, Try.ntmps54
 go_wp2_with (first | ((with_reducible refine gate_callee (f := 72) rfl ?_); refine goesL_ (some 11) rfl rfl Try.func72 (by kernel_rfl) rfl #[.int .u8 (bt a0 0)] rfl ZA ?_; (with_reducible refine (bits_Len8.calls (bt a0 0) t276 _ A5.out).mono ?_); rintro e w' ⟨rfl, ⟨nd, rfl⟩⟩; refine ⟨_, rfl, ?_⟩))
 go_ret
 exact ⟨by first | rfl | (simp; done) | (simp [*]; done), by repeat (first | exact Drawn0.refl _ | apply Drawn0.step)⟩) : g := h
set_option maxHeartbeats 8000000 in
set_option maxRecDepth 100000 in
theorem exact_NatBits.calls (a0 : ByteArray) (r : Int) (w : World) (h : exact_NatBits.f a0 = some r) :
  Calls Try.prog 54 #[.string a0] w fun e w' => e = .returned (.int .i64 r) ∧ Drawn0 w w' := by
 have H := h
 unfold exact_NatBits.f at H
 clear h
 by_cases c2 : a0.toList = ([] : List UInt8)
 ·rw [if_pos c2] at H
  have c2b0 : (a0.toList == ([] : List UInt8)) = true := beq_iff_eq.mpr c2
  have c2b1 : (a0.toList != ([] : List UInt8)) = false := bne_eq_false_iff_eq.mpr c2
  clear c2
  obtain rfl := Option.some.inj H
  exact exact_NatBits.M1
 ·rw [if_neg c2] at H
  have c2b0 : (a0.toList == ([] : List UInt8)) = false := beq_eq_false_iff_ne.mpr c2
  have c2b1 : (a0.toList != ([] : List UInt8)) = true := bne_iff_ne.mpr c2
  by_cases c3 : 0 < (a0.size : Int)
  ·rw [if_pos c3] at H
   have c3b0 : decide (0 < (a0.size : Int)) = true := decide_eq_true c3
   have c3b1 : decide (0 < a0.size) = true := decide_eq_true (by omega)
   clear c3
   obtain ⟨t276, A5, H⟩ := ZO H
   obtain rfl := Option.some.inj H
   have p4 : 0 ≤ (0 : Int) := (by omega)
   have q4 : 0 < a0.size := (by have : (0 : Int) < (a0.size : Int) := of_decide_eq_true ZD; omega)
   have hx4 : ∀ h : 0 < a0.size, ((a0[0]'h).toNat : Int) = bt a0 0 := bt_at a0 0
   clear p4
   have qi4 : (0 < (a0.size : Int)) = True := eq_true (of_decide_eq_true ZD)
   replace q4 := eq_true q4
   exact exact_NatBits.M1
  ·rw [if_neg c3] at H
   exact absurd H (by simp)
def natural_bounded.f (a0 : ByteArray) : Option (ByteArray × Int) := if (a0.size : Int) > 1024 then (some ((⟨#[]⟩ : ByteArray), 4)) else (some (a0, 0))
set_option maxHeartbeats 8000000 in
set_option maxRecDepth 100000 in
theorem natural_bounded.calls (a0 : ByteArray) (r1 : ByteArray) (r2 : Int) (w : World) (h : natural_bounded.f a0 = some (r1, r2)) :
  Calls Try.prog 55 #[.string a0] w fun e w' => e = .returned (.tuple #[.string r1, .int .i64 r2]) ∧ Drawn0 w w' := by
 have H := h
 unfold natural_bounded.f at H
 clear h
 by_cases c2 : (a0.size : Int) > 1024
 ·rw [if_pos c2] at H
  have c2b0 : decide (1024 < (a0.size : Int)) = true := decide_eq_true c2
  have c2b1 : decide (1024 < a0.size) = true := decide_eq_true (by omega)
  clear c2
  simp only [Option.some.injEq, Prod.mk.injEq] at H
  obtain ⟨rfl, rfl⟩ := H
  go_enter Try.func55, Try.ntmps55
  go_wp2
  go_ret2
  exact ⟨by first | rfl | (simp; done) | (simp [*]; done), by repeat (first | exact Drawn0.refl _ | apply Drawn0.step)⟩
 ·rw [if_neg c2] at H
  have c2b0 : decide (1024 < (a0.size : Int)) = false := decide_eq_false c2
  have c2b1 : decide (1024 < a0.size) = false := decide_eq_false (by omega)
  clear c2
  simp only [Option.some.injEq, Prod.mk.injEq] at H
  obtain ⟨rfl, rfl⟩ := H
  go_enter Try.func55, Try.ntmps55
  go_wp2
  go_ret2
  exact ⟨by first | rfl | (simp; done) | (simp [*]; done), by repeat (first | exact Drawn0.refl _ | apply Drawn0.step)⟩
mutual
def exact_mulWords.l0 : Nat → List Int → List Int → List Int → Int → Int → Option (List Int)
 | 0, _, _, _, _, _ => none
 | k + 1, x1, x5, x20, x21, x22 => if x22 < x21 then (if 0 ≤ x22 then (if x22 < (x20.length : Int) then (exact_mulWords.l1 k x1 x5 x22 (rd x20 x22) 0 x20 x21 x22 x1 (x1.length : Int) 0) else (none)) else (none)) else ((exact_trim.f k x5).bind fun t280 => (some t280))
def exact_mulWords.l1 : Nat → List Int → List Int → Int → Int → Int → List Int → Int → Int → List Int → Int → Int → Option (List Int)
 | 0, _, _, _, _, _, _, _, _, _, _, _ => none
 | k + 1, x1, x5, x6, x7, x8, x20, x21, x22, x27, x28, x29 => if x29 < x28 then (if 0 ≤ x29 then (if x29 < (x27.length : Int) then ((bits_Mul64.f x7 (rd x27 x29)).bind fun bt285 => (if 0 ≤ (wrap64 (x6 + x29)) then (if (wrap64 (x6 + x29)) < (x5.length : Int) then ((bits_Add64.f bt285.2 (rd x5 (wrap64 (x6 + x29))) 0).bind fun bt288 => ((bits_Add64.f bt288.1 x8 0).bind fun bt290 => (exact_mulWords.l1 k x1 (x5.set ((wrap64 (x6 + x29)) : Int).toNat bt290.1) x6 x7 (IntKind.u64.wrap ((IntKind.u64.wrap (bt285.1 + bt288.2)) + bt290.2)) x20 x21 x22 x27 x28 (wrap64 (x29 + 1))))) else (none)) else (none))) else (none)) else (none)) else (if 0 ≤ (wrap64 (x6 + (x1.length : Int))) then (if (wrap64 (x6 + (x1.length : Int))) < (x5.length : Int) then (exact_mulWords.l0 k x1 (x5.set ((wrap64 (x6 + (x1.length : Int))) : Int).toNat x8) x20 x21 (wrap64 (x22 + 1))) else (none)) else (none))
end
def exact_mulWords.f (k : Nat) (l0 : List Int) (l1 : List Int) : Option (List Int) := if 0 ≤ (wrap64 ((l0.length : Int) + (l1.length : Int))) then (if (wrap64 ((l0.length : Int) + (l1.length : Int)) : Int).toNat ≤ 35184372088832 then (exact_mulWords.l0 k l1 (List.replicate (wrap64 ((l0.length : Int) + (l1.length : Int)) : Int).toNat 0) l0 (l0.length : Int) 0) else (none)) else (none)
theorem exact_mulWords.U1 {g : Prop} (h : g := by
 repeat' first
 | (with_reducible exact ih0 _ _ _ _ _)
 | (with_reducible exact ih1 _ _ _ _ _ _ _ _ _ _ _)
 | (with_reducible exact exact_trim.mono _ _)
 | (with_reducible exact LeO.refl _)
 | (with_reducible exact LeO.none _)
 | (with_reducible refine LeO.ite ?_ ?_)
 | (with_reducible refine LeO.bind ?_ (fun _ => ?_))) : g := h
theorem exact_mulWords.mono_l : ∀ k, (∀ y0 y1 y2 y3 y4, LeO (exact_mulWords.l0 k y0 y1 y2 y3 y4) (exact_mulWords.l0 (k + 1) y0 y1 y2 y3 y4)) ∧ (∀ y0 y1 y2 y3 y4 y5 y6 y7 y8 y9 y10, LeO (exact_mulWords.l1 k y0 y1 y2 y3 y4 y5 y6 y7 y8 y9 y10) (exact_mulWords.l1 (k + 1) y0 y1 y2 y3 y4 y5 y6 y7 y8 y9 y10))
 | 0 => ⟨fun _ _ _ _ _ r h => by simp [exact_mulWords.l0] at h, fun _ _ _ _ _ _ _ _ _ _ _ r h => by simp [exact_mulWords.l1] at h⟩
 | k + 1 => by
  obtain ⟨ih0, ih1⟩ := exact_mulWords.mono_l k
  refine ⟨?_, ?_⟩
  ·intro y0 y1 y2 y3 y4
   unfold exact_mulWords.l0
   exact exact_mulWords.U1
  ·intro y0 y1 y2 y3 y4 y5 y6 y7 y8 y9 y10
   unfold exact_mulWords.l1
   exact exact_mulWords.U1
theorem exact_mulWords.mono : ∀ a0 a1 k, LeO (exact_mulWords.f k a0 a1) (exact_mulWords.f (k + 1) a0 a1) := by
 intro a0 a1 k
 obtain ⟨ih0, ih1⟩ := exact_mulWords.mono_l k
 unfold exact_mulWords.f
 exact exact_mulWords.U1
set_option maxHeartbeats 8000000 in
set_option maxRecDepth 100000 in
theorem exact_mulWords.calls (k : Nat) (A0 : Option Addr) (c0 : Nat) (l0 : List Int) (A1 : Option Addr) (c1 : Nat) (l1 : List Int) (r : List Int) (w : World) (hr0 : Kd.C (Kd.int .u64) w A0 l0.length l0) (hc0 : l0.length ≤ c0) (hr1 : Kd.C (Kd.int .u64) w A1 l1.length l1) (hc1 : l1.length ≤ c1) (h : exact_mulWords.f k l0 l1 = some r) :
  Calls Try.prog 73 #[.slice A0 l0.length c0, .slice A1 l1.length c1] w fun e w' => ∃ v0_ : Value, e = .returned (v0_) ∧ Kd.R (Kd.int .u64) 49 w' w.heap.size (fun _ => True) v0_ r ∧ Below w.heap.size w w' := by
 have HR0 := Aside0.mk hr0
 have HC0 := Aside0.mk hc0
 clear hr0 hc0
 have HR1 := Aside0.mk hr1
 have HC1 := Aside0.mk hc1
 clear hr1 hc1
 have HB := Aside0.mk (Below.refl w.heap.size w)
 have H := h
 unfold exact_mulWords.f at H
 clear h
 obtain ⟨ji3, hji3⟩ : ∃ j_ : Int, (wrap64 ((l0.length : Int) + (l1.length : Int))) = j_ := ⟨_, rfl⟩
 (first | rw [hji3] at H | simp only [hji3] at H)
 have hji3w : (IntKind.i64.wrap ((l0.length : Int) + (l1.length : Int))) = ji3 := (i64_w _).trans hji3
 by_cases c4 : 0 ≤ (ji3)
 ·rw [if_pos c4] at H
  have c4b0 := eq_true c4
  have c4b1 : decide (0 ≤ (ji3)) = true := decide_eq_true c4
  clear c4
  obtain ⟨c5, H⟩ := ZI H
  have c5b0 := eq_true c5
  have c5b1 : decide ((ji3 : Int).toNat ≤ 35184372088832) = true := decide_eq_true c5
  clear c5
  obtain ⟨y277, hy277⟩ : ∃ y_ : List Int, y_ = (List.replicate (ji3 : Int).toNat 0) := ⟨_, rfl⟩
  replace H : (exact_mulWords.l0 k l1 y277 l0 (l0.length : Int) 0) = some r := ZH hy277 H
  have Ny277 := Aside0.mk hy277
  clear hy277
  have H' := Aside0.mk H
  clear H
  go_enter Try.func73, Try.ntmps73
  go_wp2_with (first | ((with_reducible refine gate_dst (N := 19) rfl ?_); refine Kd.R_make (Kd.int .u64) _ 49 rfl (N := 19) rfl 68 _ _ rfl ji3 rfl rfl Try.underlying68 (.int .u64 0) 8 info49 rfl (by decide) (by omega) 0 (ok := fun _ => True) (okp := fun _ => True) rfl (fun _ hk => hk) trivial (of_decide_eq_true ZD) (Nat.le_trans (Nat.mul_le_mul_right _ (of_decide_eq_true ZD : ji3.toNat ≤ 35184372088832)) (by omega)) (Below.refl _ _) (Nat.le_refl _) ?_; intro v278 w6 ho7 hb hg_ hnew_; clear hg_ hnew_; (first | rw [← Ny277.out] at ho7 | (simp only [Int.reduceToNat] at ho7; rw [← Ny277.out] at ho7)); have HO279 := Aside0.mk (Kd.R_lower ho7 (below_size ZB)); replace HB := Aside0.mk (below_step ZB hb); clear hb ho7))
  go_loopg [22] k (fun kq v22 w' => ∃ (x5_1 : List Int) (x22_1 : Int), v22 = .int .i64 x22_1 ∧ Aside0 (exact_mulWords.l0 kq l1 x5_1 l0 (l0.length : Int) x22_1 = some r) ∧ Aside0 (kq ≤ k) ∧ Aside0 (Kd.R (Kd.int .u64) 49 w' w.heap.size (fun _ => True) v278 x5_1) ∧ Aside0 (Below w.heap.size w w'))
  case atStart => exact ⟨(y277), (0), ZS, H', ⟨Nat.le_refl _⟩, ⟨by (with_reducible repeat (first | apply Kd.R_alloc | apply Kd.R_drewN | apply Kd.R_drew)); exact HO279.out⟩, ⟨ZB⟩⟩
  case round =>
   clear H'
   try clear c1
   try clear c4
   try clear c4b0
   try clear c4b1
   try clear c5
   try clear c5b0
   try clear c5b1
   obtain ⟨x5_1, x22_1, rfl, HA, HK1, HO_5, HB⟩ := hrel
   cases gk with
   | zero => exact absurd HA.out (by simp [exact_mulWords.l0])
   | succ k1 =>
    have H := HA.out
    clear HA
    simp only [exact_mulWords.l0] at H
    by_cases c8 : x22_1 < (l0.length : Int)
    ·rw [if_pos c8] at H
     have c8b0 : decide (x22_1 < (l0.length : Int)) = true := decide_eq_true c8
     clear c8
     obtain ⟨c9, H⟩ := ZI H
     have c9b0 : decide (0 ≤ x22_1) = true := decide_eq_true c9
     clear c9
     obtain ⟨c10, H⟩ := ZI H
     have c10b0 : decide (x22_1 < (l0.length : Int)) = true := decide_eq_true c10
     clear c10
     have H' := Aside0.mk H
     clear H
     have p283 : 0 ≤ (x22_1 : Int) := of_decide_eq_true ZD
     have q283 : x22_1 < (l0.length : Int) := of_decide_eq_true ZD
     obtain ⟨ad283, e283, hx283_0⟩ := Kd.at_int HR0.out x22_1 p283 q283
     cases e283
     replace hx283_0 := (HB.out.cell (World.block_lt_of_cell? w _ hx283_0)).trans hx283_0
     replace p283 := eq_true p283
     replace q283 := eq_true q283
     go_wp2
     go_loopg [8, 29] k1 (fun kq v8 v29 w' => ∃ (x5_2 : List Int) (x8_2 : Int) (x29_2 : Int), v8 = .int .u64 x8_2 ∧ v29 = .int .i64 x29_2 ∧ Aside0 (exact_mulWords.l1 kq l1 x5_2 x22_1 (rd l0 x22_1) x8_2 l0 (l0.length : Int) x22_1 l1 (l1.length : Int) x29_2 = some r) ∧ Aside0 (kq ≤ k1) ∧ Aside0 (Kd.R (Kd.int .u64) 49 w' w.heap.size (fun _ => True) v278 x5_2) ∧ Aside0 (Below w.heap.size w w'))
     case atStart => exact ⟨(x5_1), (0), (0), ZS, ZS, H', ⟨Nat.le_refl _⟩, ⟨by (with_reducible repeat (first | apply Kd.R_alloc | apply Kd.R_drewN | apply Kd.R_drew)); exact HO_5.out⟩, ⟨ZB⟩⟩
     case round =>
      clear H'
      try clear c8
      try clear c8b0
      try clear c9
      try clear c9b0
      try clear c10
      try clear c10b0
      try clear hx283_0
      try clear p283
      try clear q283
      obtain ⟨x5_2, x8_2, x29_2, rfl, rfl, HA, HK2, HO_5, HB⟩ := hrel
      cases gk with
      | zero => exact absurd HA.out (by simp [exact_mulWords.l1])
      | succ k2 =>
       have H := HA.out
       clear HA
       simp only [exact_mulWords.l1] at H
       by_cases c11 : x29_2 < (l1.length : Int)
       ·rw [if_pos c11] at H
        have c11b0 : decide (x29_2 < (l1.length : Int)) = true := decide_eq_true c11
        clear c11
        obtain ⟨c12, H⟩ := ZI H
        have c12b0 : decide (0 ≤ x29_2) = true := decide_eq_true c12
        clear c12
        obtain ⟨c13, H⟩ := ZI H
        have c13b0 : decide (x29_2 < (l1.length : Int)) = true := decide_eq_true c13
        clear c13
        obtain ⟨⟨t285, t286⟩, A14, H⟩ := ZO H
        (try dsimp only at H)
        obtain ⟨ji15, hji15⟩ : ∃ j_ : Int, (wrap64 (x22_1 + x29_2)) = j_ := ⟨_, rfl⟩
        (first | rw [hji15] at H | simp only [hji15] at H)
        (try rw [hji15] at A14)
        have hji15w : (IntKind.i64.wrap (x22_1 + x29_2)) = ji15 := (i64_w _).trans hji15
        obtain ⟨c16, H⟩ := ZI H
        have c16b0 : decide (0 ≤ (ji15)) = true := decide_eq_true c16
        clear c16
        obtain ⟨c17, H⟩ := ZI H
        have c17b0 : decide ((ji15) < (x5_2.length : Int)) = true := decide_eq_true c17
        clear c17
        obtain ⟨⟨t288, t289⟩, A18, H⟩ := ZO H
        (try dsimp only at H)
        obtain ⟨⟨t290, t291⟩, A19, H⟩ := ZO H
        (try dsimp only at H)
        generalize hy292 : (x5_2.set ((ji15) : Int).toNat t290) = y292 at H
        have Ny292 := Aside0.mk hy292.symm
        clear hy292
        have H' := Aside0.mk H
        clear H
        have p284 : 0 ≤ (x29_2 : Int) := of_decide_eq_true ZD
        have q284 : x29_2 < (l1.length : Int) := of_decide_eq_true ZD
        obtain ⟨ad284, e284, hx284_0⟩ := Kd.at_int HR1.out x29_2 p284 q284
        cases e284
        replace hx284_0 := (HB.out.cell (World.block_lt_of_cell? w _ hx284_0)).trans hx284_0
        replace p284 := eq_true p284
        replace q284 := eq_true q284
        go_wp2_with (first | ((with_reducible refine gate_callee (f := 83) rfl ?_); refine goesL_ (some 37) rfl rfl Try.func83 (by kernel_rfl) rfl #[.int .u64 (rd l0 x22_1), .int .u64 (rd l1 x29_2)] rfl ZA ?_; (with_reducible refine (bits_Mul64.calls (rd l0 x22_1) (rd l1 x29_2) t285 t286 _ A14.out).mono ?_); rintro e w' ⟨rfl, ⟨nd, rfl⟩⟩; refine ⟨_, rfl, ?_⟩; (try (rw [drewN_self wr]; generalize hq_ : World.drewN wr _ = wr; have n0_ : Aside0 (Kd.R (Kd.int .u64) 49 wr w.heap.size (fun _ => True) v278 x5_2) := ⟨by rw [← hq_]; exact (ZR HO_5.out)⟩; have n1_ : Aside0 (Below w.heap.size w wr) := ⟨by rw [← hq_]; exact ZB⟩; clear HO_5 HB hq_; have HO_5 := n0_; have HB := n1_; clear n0_ n1_)); obtain ⟨Ao21, co21, eo21⟩ := Kd.R_slice HO_5.out; subst eo21; have p287 : 0 ≤ ((ji15) : Int) := of_decide_eq_true ZD; have q287 : (ji15) < (x5_2.length : Int) := of_decide_eq_true ZD; obtain ⟨ad287, e287, hx287_0⟩ := Kd.at_int (Kd.R_reads' HO_5.out).2.2 (ji15) p287 q287; cases e287; replace p287 := eq_true p287; replace q287 := eq_true q287) | ((with_reducible refine gate_callee (f := 75) rfl ?_); refine goesXL_ (some 48) rfl rfl Try.func75 (by kernel_rfl) #[.int .u64 t286, .int .u64 (rd x5_2 (ji15)), .int .u64 0] rfl (by (try simp only [List.map_toArray, List.map_cons, List.map_nil]); first | done | (simp only [hji15]; rfl) | rfl | (simp only [List.length_drop, List.length_take]; rfl)) ?_; (with_reducible refine (bits_Add64.calls t286 (rd x5_2 (ji15)) 0 t288 t289 _ A18.out).mono ?_); rintro e w' ⟨rfl, ⟨nd, rfl⟩⟩; refine ⟨_, rfl, ?_⟩; (try (rw [drewN_self wr]; generalize hq_ : World.drewN wr _ = wr; have n0_ : Aside0 (Kd.R (Kd.int .u64) 49 wr w.heap.size (fun _ => True) (.slice (some ad287) x5_2.length co21) x5_2) := ⟨by rw [← hq_]; exact (ZR HO_5.out)⟩; have n1_ : Aside0 (Below w.heap.size w wr) := ⟨by rw [← hq_]; exact ZB⟩; clear HO_5 HB hq_; have HO_5 := n0_; have HB := n1_; clear n0_ n1_))) | ((with_reducible refine gate_callee (f := 75) rfl ?_); refine goesXL_ (some 57) rfl rfl Try.func75 (by kernel_rfl) #[.int .u64 t288, .int .u64 x8_2, .int .u64 0] rfl ZA ?_; (with_reducible refine (bits_Add64.calls t288 x8_2 0 t290 t291 _ A19.out).mono ?_); rintro e w' ⟨rfl, ⟨nd, rfl⟩⟩; refine ⟨_, rfl, ?_⟩; (try (rw [drewN_self wr]; generalize hq_ : World.drewN wr _ = wr; have n0_ : Aside0 (Kd.R (Kd.int .u64) 49 wr w.heap.size (fun _ => True) (.slice (some ad287) x5_2.length co21) x5_2) := ⟨by rw [← hq_]; exact (ZR HO_5.out)⟩; have n1_ : Aside0 (Below w.heap.size w wr) := ⟨by rw [← hq_]; exact ZB⟩; clear HO_5 HB hq_; have HO_5 := n0_; have HB := n1_; clear n0_ n1_)); have p20 : 0 ≤ ((ji15) : Int) := of_decide_eq_true ZD; have q20 : ((ji15) : Int) < ((x5_2.length : Int) : Int) := of_decide_eq_true ZD; obtain ⟨go20, co20, eo20, gb20, gl20, cl20, HG20⟩ := Kd.R_form HO_5.out (by omega); (first | cases eo20 | (injection eo20 with ea_ en_ ec_; (first | subst ea_ | (injection ea_ with ea_; subst ea_)); subst ec_; clear en_)); have GB20 := Aside0.mk gb20; have GG20 := Aside0.mk HG20; clear gb20 gl20 HG20; (first | simp only [add_plain] at hx287_0 | skip); obtain ⟨hx20_0, hf20_0⟩ := Kd.R_celln 0 HO_5.out ((ji15) : Int) p20 q20; (try simp only [Int.toNat_natCast] at hx20_0 hf20_0); replace p20 := eq_true p20; replace q20 := eq_true q20; obtain ⟨hy22_, hz22_⟩ := Kd.R_celln 0 HO_5.out ((ji15) : Int) (of_decide_eq_true ZD) (of_decide_eq_true ZD); (try simp only [Int.toNat_natCast] at hy22_ hz22_); have HP22 := Kd.R_putg HO_5.out ((ji15) : Int) t290) | ((with_reducible refine gate_store (t := 49) (p := 68) rfl ?_); refine store_event (t := 49) (p := 68) (v := ?vo_w23) (w1 := (wr.setCell ⟨go20, ((ji15) : Int).toNat, none⟩ (.int .u64 t290))) ?hg ?ho ?hn ?hr ?_; (case ho => rfl); (case hg => rfl); (case hn => rfl); (case hr => first | (go_simp; done) | (go_simp; rfl)); intro w23 hw; have hg : wr.grownBy w23 (some go20) := (by rw [hw]; exact HP22.2); have hp_ : Kd.R (Kd.int .u64) 49 w23 w.heap.size (fun _ => True) (.slice (some ⟨go20, 0, none⟩) x5_2.length co21) y292 := (by rw [hw, Ny292.out]; exact HP22.1); clear HP22; replace HO_5 := Aside0.mk (hp_); replace HB := Aside0.mk ((by rw [hw]; exact below_set (HB.out) GB20.out : Below w.heap.size w w23)); clear hg hw hp_))
        go_roundg k2
        case measure => have := HK1.out; have := HK2.out; omega
        case rel => exact ⟨(y292), (IntKind.u64.wrap ((IntKind.u64.wrap (t285 + t289)) + t291)), (wrap64 (x29_2 + 1)), ZS, ZS, H', ⟨by have := HK1.out; have := HK2.out; omega⟩, ⟨by (with_reducible repeat (first | apply Kd.R_alloc | apply Kd.R_drewN | apply Kd.R_drew)); exact HO_5.out⟩, ⟨ZB⟩⟩
       ·rw [if_neg c11] at H
        have c11b0 : decide (x29_2 < (l1.length : Int)) = false := decide_eq_false c11
        clear c11
        obtain ⟨ji24, hji24⟩ : ∃ j_ : Int, (wrap64 (x22_1 + (l1.length : Int))) = j_ := ⟨_, rfl⟩
        (first | rw [hji24] at H | simp only [hji24] at H)
        have hji24w : (IntKind.i64.wrap (x22_1 + (l1.length : Int))) = ji24 := (i64_w _).trans hji24
        obtain ⟨c25, H⟩ := ZI H
        have c25b0 : decide (0 ≤ (ji24)) = true := decide_eq_true c25
        clear c25
        obtain ⟨c26, H⟩ := ZI H
        have c26b0 : decide ((ji24) < (x5_2.length : Int)) = true := decide_eq_true c26
        clear c26
        obtain ⟨y293, hy293⟩ : ∃ y_ : List Int, y_ = (x5_2.set ((ji24) : Int).toNat x8_2) := ⟨_, rfl⟩
        replace H : (exact_mulWords.l0 k2 l1 y293 l0 (l0.length : Int) (wrap64 (x22_1 + 1))) = some r := ZH hy293 H
        have Ny293 := Aside0.mk hy293
        clear hy293
        have H' := Aside0.mk H
        clear H
        have p27 : 0 ≤ ((ji24) : Int) := of_decide_eq_true ZD
        have q27 : ((ji24) : Int) < ((x5_2.length : Int) : Int) := of_decide_eq_true ZD
        obtain ⟨go27, co27, eo27, gb27, gl27, cl27, HG27⟩ := Kd.R_form HO_5.out (by omega)
        (first | cases eo27 | (injection eo27 with ea_ en_ ec_; (first | subst ea_ | (injection ea_ with ea_; subst ea_)); subst ec_; clear en_))
        have GB27 := Aside0.mk gb27
        have GG27 := Aside0.mk HG27
        clear gb27 gl27 HG27
        obtain ⟨hx27_0, hf27_0⟩ := Kd.R_celln 0 HO_5.out ((ji24) : Int) p27 q27; (try simp only [Int.toNat_natCast] at hx27_0 hf27_0)
        replace p27 := eq_true p27
        replace q27 := eq_true q27
        have HP28 := Kd.R_putg HO_5.out ((ji24) : Int) x8_2
        go_wp2_with (first | ((with_reducible refine gate_store (t := 49) (p := 76) rfl ?_); refine store_event (t := 49) (p := 76) (v := ?vo_w29) (w1 := (wr.setCell ⟨go27, ((ji24) : Int).toNat, none⟩ (.int .u64 x8_2))) ?hg ?ho ?hn ?hr ?_; (case ho => rfl); (case hg => rfl); (case hn => rfl); (case hr => first | (go_simp; done) | (go_simp; rfl)); intro w29 hw; have hg : wr.grownBy w29 (some go27) := (by rw [hw]; exact HP28.2); have hp_ : Kd.R (Kd.int .u64) 49 w29 w.heap.size (fun _ => True) (.slice (some ⟨go27, 0, none⟩) x5_2.length co27) y293 := (by rw [hw, Ny293.out]; exact HP28.1); clear HP28; replace HO_5 := Aside0.mk (hp_); replace HB := Aside0.mk ((by rw [hw]; exact below_set (HB.out) GB27.out : Below w.heap.size w w29)); clear hg hw hp_))
        go_roundg k2
        case measure => have := HK1.out; have := HK2.out; omega
        case rel => exact ⟨(y293), (wrap64 (x22_1 + 1)), ZS, H', ⟨by have := HK1.out; have := HK2.out; omega⟩, ⟨by (with_reducible repeat (first | apply Kd.R_alloc | apply Kd.R_drewN | apply Kd.R_drew)); exact HO_5.out⟩, ⟨ZB⟩⟩
    ·rw [if_neg c8] at H
     have c8b0 : decide (x22_1 < (l0.length : Int)) = false := decide_eq_false c8
     clear c8
     obtain ⟨t280, A30, H⟩ := ZO H
     obtain rfl := Option.some.inj H
     obtain ⟨Ao31, co31, eo31⟩ := Kd.R_slice HO_5.out
     subst eo31
     go_wp2_with (first | ((with_reducible refine gate_callee (f := 79) rfl ?_); refine goesL_ (some 79) rfl rfl Try.func79 (by kernel_rfl) rfl #[.slice Ao31 x5_1.length co31] rfl ZA ?_; (with_reducible refine (exact_trim.calls k1 (fun k_ => some k_ = (.slice Ao31 x5_1.length co31 : Value).ownBlock) (.slice Ao31 x5_1.length co31) x5_1 t280 w _ ?side1 ?side2 A30.out).mono ?_); (case side1 => repeat (first | (with_reducible first | exact HB.out | apply below_alloc | apply pw_below_drewN | apply below_drew1) | exact HB.out)); (case side2 => exact Kd.R_tight rfl HO_5.out); rintro e w32 ⟨v281, rfl, ho0, hb, hkp⟩; refine ⟨_, rfl, ?_⟩; have HO282 := Aside0.mk (Kd.R_mono (ok' := fun k_ => True) ho0 (fun k_ hk_ => trivial)); replace HB := Aside0.mk (hb); clear HO_5; (try clear hb); (try clear hkp); (try clear ho0)))
     go_ret
     exact ⟨_, by first | rfl | (simp [errW_none, errW_some] <;> rfl) | (simp only [← hji3]; first | rfl | (simp [errW_none, errW_some] <;> rfl)) | (simp [*, errW_none, errW_some] <;> rfl), by (with_reducible repeat (first | apply Kd.R_alloc | apply Kd.R_drewN | apply Kd.R_drew)); exact HO282.out, ZB⟩
 ·rw [if_neg c4] at H
  exact absurd H (by simp)
def exact_NatPow.l0 : Nat → Int → List Int → List Int → Option (ByteArray)
 | 0, _, _, _ => none
 | k + 1, x1, x5, x6 => if x1 > 0 then (if (Go.bits .and .i64 x1 1) = 1 then ((exact_mulWords.f k x5 x6).bind fun t301 => ((exact_mulWords.f k x6 x6).bind fun t304 => (exact_NatPow.l0 k (x1 / 2) t301 t304))) else ((exact_mulWords.f k x6 x6).bind fun t307 => (exact_NatPow.l0 k (x1 / 2) x5 t307))) else ((exact_pack.f k x5).bind fun t300 => (some t300))
def exact_NatPow.f (k : Nat) (a0 : ByteArray) (a1 : Int) : Option (ByteArray) := (exact_words.f k a0).bind fun t297 => (exact_NatPow.l0 k a1 (([1] : List Int)) t297)
theorem exact_NatPow.U1 {g : Prop} (h : g := by
 repeat' first
 | (with_reducible exact ih0 _ _ _)
 | (with_reducible exact exact_mulWords.mono _ _ _)
 | (with_reducible exact exact_pack.mono _ _)
 | (with_reducible exact exact_words.mono _ _)
 | (with_reducible exact LeO.refl _)
 | (with_reducible exact LeO.none _)
 | (with_reducible refine LeO.ite ?_ ?_)
 | (with_reducible refine LeO.bind ?_ (fun _ => ?_))) : g := h
theorem exact_NatPow.mono_l : ∀ k, (∀ y0 y1 y2, LeO (exact_NatPow.l0 k y0 y1 y2) (exact_NatPow.l0 (k + 1) y0 y1 y2))
 | 0 => fun _ _ _ r h => by simp [exact_NatPow.l0] at h
 | k + 1 => by
  have ih0 := exact_NatPow.mono_l k
  ·intro y0 y1 y2
   unfold exact_NatPow.l0
   exact exact_NatPow.U1
theorem exact_NatPow.mono : ∀ a0 a1 k, LeO (exact_NatPow.f k a0 a1) (exact_NatPow.f (k + 1) a0 a1) := by
 intro a0 a1 k
 have ih0 := exact_NatPow.mono_l k
 unfold exact_NatPow.f
 exact exact_NatPow.U1
set_option maxHeartbeats 8000000 in
set_option maxRecDepth 100000 in
theorem exact_NatPow.calls (k : Nat) (a0 : ByteArray) (a1 : Int) (r : ByteArray) (w : World) (h : exact_NatPow.f k a0 a1 = some r) :
  Calls Try.prog 56 #[.string a0, .int .i64 a1] w fun e w' => e = .returned (.string r) ∧ Below w.heap.size w w' := by
 have HB := Aside0.mk (Below.refl w.heap.size w)
 have H := h
 unfold exact_NatPow.f at H
 clear h
 generalize hy294 : (([1] : List Int)) = y294 at H
 have Ny294 := Aside0.mk hy294.symm
 clear hy294
 obtain ⟨t297, A3, H⟩ := ZO H
 have H' := Aside0.mk H
 clear H
 go_enter Try.func56, Try.ntmps56
 go_wp2_with (first | ((with_reducible refine gate_dst (N := 7) rfl ?_); refine Kd.R_lit (Kd.int .u64) _ 49 ?hg (N := 7) ?hd (xs := ([1] : List Int)) (inner := [.int .u64 1]) (ok := fun _ => True) (okp := fun _ => True) ?hr ?hp (fun _ hk => hk) trivial (Below.refl _ _) (Nat.le_refl _) (by simp) ?_; (case hd => rfl); (case hg => rfl); (case hr => first | (go_simp; done) | (go_simp; rfl)); (case hp => exact (Reps.one (show Kd.M (Kd.int .u64) _ _ _ 1 [.int .u64 1] from rfl) (Reps.none _ _))); intro v295 w4 ho5 hb hg_ hnew_; clear hg_ hnew_; (first | rw [← Ny294.out] at ho5 | (simp only [Int.reduceToNat] at ho5; rw [← Ny294.out] at ho5)); have HO296 := Aside0.mk (Kd.R_lower ho5 (below_size ZB)); replace HB := Aside0.mk (below_step ZB hb); clear hb ho5) | ((with_reducible refine gate_callee (f := 70) rfl ?_); refine goesL_ (some 9) rfl rfl Try.func70 (by kernel_rfl) rfl #[.string a0] rfl ZA ?_; (with_reducible refine (exact_words.calls k a0 t297 _ A3.out).mono ?_); rintro e w6 ⟨v298, rfl, ho0, hb⟩; refine ⟨_, rfl, ?_⟩; have HO299 := Aside0.mk (Kd.R_lower (Kd.R_new' ho0 (Kd.R_lt (ZR HO296.out))) (below_size ZB)); replace HO296 := Aside0.mk (Kd.R_elder' (ZR HO296.out) (Kd.R_base ho0) hb); replace HB := Aside0.mk (below_step ZB hb); (try clear hb); (try clear ho0)))
 go_loopg [1, 5, 6] k (fun kq v1 v5 v6 w' => ∃ (x1_1 : Int) (x5_1 : List Int) (x6_1 : List Int), v1 = .int .i64 x1_1 ∧ Aside0 (exact_NatPow.l0 kq x1_1 x5_1 x6_1 = some r) ∧ Aside0 (kq ≤ k) ∧ Aside0 (Kd.R (Kd.int .u64) 49 w' w.heap.size (fun k_ => some k_ ≠ (v6 : Value).ownBlock) v5 x5_1) ∧ Aside0 (Kd.R (Kd.int .u64) 49 w' w.heap.size (fun k_ => some k_ ≠ (v5 : Value).ownBlock) v6 x6_1) ∧ Aside0 (Below w.heap.size w w'))
 case atStart => exact ⟨(a1), (y294), (t297), ZS, H', ⟨Nat.le_refl _⟩, ⟨by (with_reducible repeat (first | apply Kd.R_alloc | apply Kd.R_drewN | apply Kd.R_drew)); exact Kd.R_mono HO296.out (fun _ hk => hk.2)⟩, ⟨by (with_reducible repeat (first | apply Kd.R_alloc | apply Kd.R_drewN | apply Kd.R_drew)); exact Kd.R_mono HO299.out (fun _ hk => hk.2)⟩, ⟨ZB⟩⟩
 case round =>
  clear H'
  obtain ⟨x1_1, x5_1, x6_1, rfl, HA, HK1, HO_5, HO_6, HB⟩ := hrel
  cases gk with
  | zero => exact absurd HA.out (by simp [exact_NatPow.l0])
  | succ k1 =>
   have H := HA.out
   clear HA
   simp only [exact_NatPow.l0] at H
   by_cases c7 : x1_1 > 0
   ·rw [if_pos c7] at H
    have c7b0 : decide (0 < x1_1) = true := decide_eq_true c7
    clear c7
    by_cases c8 : (Go.bits .and .i64 x1_1 1) = 1
    ·rw [if_pos c8] at H
     have c8b0 : ((Go.bits .and .i64 x1_1 1) == 1) = true := beq_iff_eq.mpr c8
     have c8b1 : ((Go.bits .and .i64 x1_1 1) != 1) = false := bne_eq_false_iff_eq.mpr c8
     clear c8
     obtain ⟨t301, A9, H⟩ := ZO H
     obtain ⟨t304, A10, H⟩ := ZO H
     have H' := Aside0.mk H
     clear H
     obtain ⟨Ao11, co11, eo11⟩ := Kd.R_slice HO_5.out
     subst eo11
     obtain ⟨Ao12, co12, eo12⟩ := Kd.R_slice HO_6.out
     subst eo12
     go_wp2_with (first | ((with_reducible refine gate_callee (f := 73) rfl ?_); refine goesL_ (some 19) rfl rfl Try.func73 (by kernel_rfl) rfl #[.slice Ao11 x5_1.length co11, .slice Ao12 x6_1.length co12] rfl ZA ?_; (with_reducible refine (exact_mulWords.calls k1 _ _ x5_1 _ _ x6_1 t301 _ ?side1 ?side2 ?side3 ?side4 A9.out).mono ?_); (case side1 => exact ZC (Kd.R_reads' HO_5.out).2.2); (case side2 => exact (Kd.R_reads' HO_5.out).2.1); (case side3 => exact ZC (Kd.R_reads' HO_6.out).2.2); (case side4 => exact (Kd.R_reads' HO_6.out).2.1); rintro e w13 ⟨v302, rfl, ho0, hb⟩; refine ⟨_, rfl, ?_⟩; have HO303 := Aside0.mk (Kd.R_lower (Kd.R_new' (Kd.R_new' ho0 (Kd.R_lt (ZR HO_5.out))) (Kd.R_lt (ZR HO_6.out))) (below_size ZB)); replace HO_5 := Aside0.mk (Kd.R_elder' (ZR HO_5.out) (Kd.R_base ho0) hb); replace HO_6 := Aside0.mk (Kd.R_elder' (ZR HO_6.out) (Kd.R_base ho0) hb); replace HB := Aside0.mk (below_step ZB hb); (try clear hb); (try clear ho0)) | ((with_reducible refine gate_callee (f := 73) rfl ?_); refine goesL_ (some 22) rfl rfl Try.func73 (by kernel_rfl) rfl #[.slice Ao12 x6_1.length co12, .slice Ao12 x6_1.length co12] rfl ZA ?_; (with_reducible refine (exact_mulWords.calls k1 _ _ x6_1 _ _ x6_1 t304 _ ?side1 ?side2 ?side3 ?side4 A10.out).mono ?_); (case side1 => exact ZC (Kd.R_reads' HO_6.out).2.2); (case side2 => exact (Kd.R_reads' HO_6.out).2.1); (case side3 => exact ZC (Kd.R_reads' HO_6.out).2.2); (case side4 => exact (Kd.R_reads' HO_6.out).2.1); rintro e w14 ⟨v305, rfl, ho0, hb⟩; refine ⟨_, rfl, ?_⟩; have HO306 := Aside0.mk (Kd.R_lower (Kd.R_new' (Kd.R_new' (Kd.R_new' ho0 (Kd.R_lt (ZR HO_5.out))) (Kd.R_lt (ZR HO_6.out))) (Kd.R_lt (ZR HO303.out))) (below_size ZB)); replace HO_5 := Aside0.mk (Kd.R_elder' (ZR HO_5.out) (Kd.R_base ho0) hb); replace HO_6 := Aside0.mk (Kd.R_elder' (ZR HO_6.out) (Kd.R_base ho0) hb); replace HO303 := Aside0.mk (Kd.R_elder' (ZR HO303.out) (Kd.R_base ho0) hb); replace HB := Aside0.mk (below_step ZB hb); (try clear hb); (try clear ho0)))
     go_roundg k1
     case measure => have := HK1.out; omega
     case rel => exact ⟨(x1_1 / 2), (t301), (t304), ZS, H', ⟨by have := HK1.out; omega⟩, ⟨by (with_reducible repeat (first | apply Kd.R_alloc | apply Kd.R_drewN | apply Kd.R_drew)); exact Kd.R_mono HO303.out (fun _ hk => hk.2)⟩, ⟨by (with_reducible repeat (first | apply Kd.R_alloc | apply Kd.R_drewN | apply Kd.R_drew)); exact Kd.R_mono HO306.out (fun _ hk => hk.2)⟩, ⟨ZB⟩⟩
    ·rw [if_neg c8] at H
     have c8b0 : ((Go.bits .and .i64 x1_1 1) == 1) = false := beq_eq_false_iff_ne.mpr c8
     have c8b1 : ((Go.bits .and .i64 x1_1 1) != 1) = true := bne_iff_ne.mpr c8
     obtain ⟨t307, A15, H⟩ := ZO H
     have H' := Aside0.mk H
     clear H
     obtain ⟨Ao16, co16, eo16⟩ := Kd.R_slice HO_6.out
     subst eo16
     go_wp2_with (first | ((with_reducible refine gate_callee (f := 73) rfl ?_); refine goesL_ (some 22) rfl rfl Try.func73 (by kernel_rfl) rfl #[.slice Ao16 x6_1.length co16, .slice Ao16 x6_1.length co16] rfl ZA ?_; (with_reducible refine (exact_mulWords.calls k1 _ _ x6_1 _ _ x6_1 t307 _ ?side1 ?side2 ?side3 ?side4 A15.out).mono ?_); (case side1 => exact ZC (Kd.R_reads' HO_6.out).2.2); (case side2 => exact (Kd.R_reads' HO_6.out).2.1); (case side3 => exact ZC (Kd.R_reads' HO_6.out).2.2); (case side4 => exact (Kd.R_reads' HO_6.out).2.1); rintro e w17 ⟨v308, rfl, ho0, hb⟩; refine ⟨_, rfl, ?_⟩; have HO309 := Aside0.mk (Kd.R_lower (Kd.R_new' (Kd.R_new' ho0 (Kd.R_lt (ZR HO_5.out))) (Kd.R_lt (ZR HO_6.out))) (below_size ZB)); replace HO_5 := Aside0.mk (Kd.R_elder' (ZR HO_5.out) (Kd.R_base ho0) hb); replace HO_6 := Aside0.mk (Kd.R_elder' (ZR HO_6.out) (Kd.R_base ho0) hb); replace HB := Aside0.mk (below_step ZB hb); (try clear hb); (try clear ho0)))
     go_roundg k1
     case measure => have := HK1.out; omega
     case rel => exact ⟨(x1_1 / 2), (x5_1), (t307), ZS, H', ⟨by have := HK1.out; omega⟩, ⟨by (with_reducible repeat (first | apply Kd.R_alloc | apply Kd.R_drewN | apply Kd.R_drew)); exact Kd.R_mono HO_5.out (fun _ hk => hk.2)⟩, ⟨by (with_reducible repeat (first | apply Kd.R_alloc | apply Kd.R_drewN | apply Kd.R_drew)); exact Kd.R_mono HO309.out (fun _ hk => hk.1.2)⟩, ⟨ZB⟩⟩
   ·rw [if_neg c7] at H
    have c7b0 : decide (0 < x1_1) = false := decide_eq_false c7
    clear c7
    obtain ⟨t300, A18, H⟩ := ZO H
    obtain rfl := Option.some.inj H
    obtain ⟨Ao19, co19, eo19⟩ := Kd.R_slice HO_5.out
    subst eo19
    go_wp2_with (first | ((with_reducible refine gate_callee (f := 71) rfl ?_); refine goesL_ (some 24) rfl rfl Try.func71 (by kernel_rfl) rfl #[.slice Ao19 x5_1.length co19] rfl ZA ?_; (with_reducible refine (exact_pack.calls k1 (fun k_ => some k_ = (.slice Ao19 x5_1.length co19 : Value).ownBlock) (.slice Ao19 x5_1.length co19) x5_1 t300 w _ ?side1 ?side2 A18.out).mono ?_); (case side1 => repeat (first | (with_reducible first | exact HB.out | apply below_alloc | apply pw_below_drewN | apply below_drew1) | exact HB.out)); (case side2 => exact Kd.R_tight rfl HO_5.out); rintro e w20 ⟨rfl, hb, hkp⟩; refine ⟨_, rfl, ?_⟩; replace HO_6 := Aside0.mk (Kd.R_mono (ok' := fun k_ => True) (Kd.R_keptB (HO_6.out) hkp (fun k_ hk_ hs_ => (hk_) hs_)) (fun k_ hk_ => trivial)); replace HB := Aside0.mk (hb); clear HO_5; (try clear hb); (try clear hkp)))
    go_ret
    exact ⟨ZE, ZB⟩
end Go.Proofs.Ytohkmnbnjacfaaa.All
namespace Go.Proofs.Ytohkmnbnjacfaaa.All
open Go.Proofs.YtohkmnbnjacfaaaX
open Go.RowKit Go.Proofs.YtohkmnbnjacfaaaW.PrintWords Go.Proofs.YtohkmnbnjacfaaaW.PrintLast Go.Proofs.YtohkmnbnjacfaaaW.PrintMore
attribute [local go_sem] max2_int min2_int max_two min_two max_three min_three max_four min_four
set_option linter.unusedVariables false
set_option linter.unusedSimpArgs false
mutual
def natural_Pow.j0 : Nat → ByteArray → Int → Bool → Option (ByteArray × Int)
 | 0, _, _, _ => none
 | k + 1, x0, x1, x18 => if x18 = true then (some ((⟨#[]⟩ : ByteArray), 3)) else (if x0.toList = ([] : List UInt8) then (natural_Pow.j1 k x0 x1 false) else ((exact_NatBits.f x0).bind fun t314 => (natural_Pow.j1 k x0 x1 (decide ((wrap64 ((wrap64 (t314 - 1)) * x1)) > 8192)))))
def natural_Pow.j1 : Nat → ByteArray → Int → Bool → Option (ByteArray × Int)
 | 0, _, _, _ => none
 | k + 1, x0, x1, x28 => if x28 = true then (some ((⟨#[]⟩ : ByteArray), 4)) else ((exact_NatPow.f k x0 x1).bind fun t315 => ((natural_bounded.f t315).bind fun bt316 => (some (bt316.1, bt316.2))))
end
def natural_Pow.f (k : Nat) (a0 : ByteArray) (a1 : Int) : Option (ByteArray × Int) := (natural_first.f k (([a0] : List ByteArray))).bind fun t313 => (if t313 = 0 then (if a1 < 0 then (natural_Pow.j0 k a0 a1 true) else (natural_Pow.j0 k a0 a1 (decide (a1 > 4096)))) else (some ((⟨#[]⟩ : ByteArray), t313)))
theorem natural_Pow.U1 {g : Prop} (h : g := by
 repeat' first
 | (with_reducible exact ih0 _ _ _)
 | (with_reducible exact ih1 _ _ _)
 | (with_reducible exact exact_NatPow.mono _ _ _)
 | (with_reducible exact natural_first.mono _ _)
 | (with_reducible exact LeO.refl _)
 | (with_reducible exact LeO.none _)
 | (with_reducible refine LeO.ite ?_ ?_)
 | (with_reducible refine LeO.bind ?_ (fun _ => ?_))) : g := h
theorem natural_Pow.mono_l : ∀ k, (∀ y0 y1 y2, LeO (natural_Pow.j0 k y0 y1 y2) (natural_Pow.j0 (k + 1) y0 y1 y2)) ∧ (∀ y0 y1 y2, LeO (natural_Pow.j1 k y0 y1 y2) (natural_Pow.j1 (k + 1) y0 y1 y2))
 | 0 => ⟨fun _ _ _ r h => by simp [natural_Pow.j0] at h, fun _ _ _ r h => by simp [natural_Pow.j1] at h⟩
 | k + 1 => by
  obtain ⟨ih0, ih1⟩ := natural_Pow.mono_l k
  refine ⟨?_, ?_⟩
  ·intro y0 y1 y2
   unfold natural_Pow.j0
   exact natural_Pow.U1
  ·intro y0 y1 y2
   unfold natural_Pow.j1
   exact natural_Pow.U1
theorem natural_Pow.mono : ∀ a0 a1 k, LeO (natural_Pow.f k a0 a1) (natural_Pow.f (k + 1) a0 a1) := by
 intro a0 a1 k
 obtain ⟨ih0, ih1⟩ := natural_Pow.mono_l k
 unfold natural_Pow.f
 exact natural_Pow.U1
theorem natural_Pow.M1 {g : Prop} (h : g := by
 have H' := Aside0.mk H
 clear H
 go_wp2
 go_meet
 case rel => exact ⟨_, _, ZS, H', ⟨ZN⟩, ⟨ZB⟩⟩) : g := h
set_option maxHeartbeats 8000000 in
set_option maxRecDepth 100000 in
theorem natural_Pow.calls (k : Nat) (a0 : ByteArray) (a1 : Int) (r1 : ByteArray) (r2 : Int) (w : World) (h : natural_Pow.f k a0 a1 = some (r1, r2)) :
  Calls Try.prog 20 #[.string a0, .int .i64 a1] w fun e w' => e = .returned (.tuple #[.string r1, .int .i64 r2]) ∧ Below w.heap.size w w' := by
 have HB := Aside0.mk (Below.refl w.heap.size w)
 have H := h
 unfold natural_Pow.f at H
 clear h
 generalize hy310 : (([a0] : List ByteArray)) = y310 at H
 have Ny310 := Aside0.mk hy310.symm
 clear hy310
 obtain ⟨t313, A3, H⟩ := ZO H
 by_cases c4 : t313 = 0
 ·rw [if_pos c4] at H
  have c4b0 : (t313 == 0) = true := beq_iff_eq.mpr c4
  have c4b1 : (t313 != 0) = false := bne_eq_false_iff_eq.mpr c4
  clear c4
  have HC5 := Aside0.mk H
  clear H
  go_enter Try.func20, Try.ntmps20
  go_upto_region 4 with (first | ((with_reducible refine gate_dst (N := 8) rfl ?_); refine Kd.R_lit Kd.string _ 22 ?hg (N := 8) ?hd (xs := ([a0] : List ByteArray)) (inner := [.string a0]) (ok := fun _ => True) (okp := fun _ => True) ?hr ?hp (fun _ hk => hk) trivial (Below.refl _ _) (Nat.le_refl _) (by simp) ?_; (case hd => rfl); (case hg => rfl); (case hr => first | (go_simp; done) | (go_simp; rfl)); (case hp => exact (Reps.one (show Kd.M Kd.string _ _ _ a0 [.string a0] from rfl) (Reps.none _ _))); intro v311 w6 ho7 hb hg_ hnew_; clear hg_ hnew_; (first | rw [← Ny310.out] at ho7 | (simp only [Int.reduceToNat] at ho7; rw [← Ny310.out] at ho7)); have HO312 := Aside0.mk (Kd.R_lower ho7 (below_size ZB)); replace HB := Aside0.mk (below_step ZB hb); clear hb ho7; obtain ⟨Ao8, co8, eo8⟩ := Kd.R_slice HO312.out; subst eo8) | ((with_reducible refine gate_callee (f := 47) rfl ?_); refine goesL_ (some 9) rfl rfl Try.func47 (by kernel_rfl) rfl #[.slice Ao8 y310.length co8] rfl ZA ?_; (with_reducible refine (natural_first.calls k _ _ y310 t313 _ ?side1 ?side2 A3.out).mono ?_); (case side1 => exact ZC (Kd.R_reads' HO312.out).2.2); (case side2 => exact (Kd.R_reads' HO312.out).2.1); rintro e w' ⟨rfl, ⟨nd, rfl⟩⟩; refine ⟨_, rfl, ?_⟩))
  (try simp only [Act.put, List.setIfInBounds_toArray, List.set_cons_zero, List.set_cons_succ])
  go_cut [18] (fun v18 wc => ∃ (kq : Nat) (x18_4 : Bool), v18 = .bool x18_4 ∧ Aside0 (natural_Pow.j0 kq a0 a1 x18_4 = some (r1, r2)) ∧ Aside0 (kq ≤ k) ∧ Aside0 (Below w.heap.size w wc))
  case first =>
   have H := HC5.out
   clear HC5
   by_cases c9 : a1 < 0
   ·rw [if_pos c9] at H
    have c9b0 : decide (a1 < 0) = true := decide_eq_true c9
    clear c9
    (first | rw [c9b0] | rw [c9b1] | (simp only [i64_w, i32_w]; rw [c9b0]) | skip)
    exact natural_Pow.M1
   ·rw [if_neg c9] at H
    have c9b0 : decide (a1 < 0) = false := decide_eq_false c9
    clear c9
    (first | rw [c9b0] | rw [c9b1] | (simp only [i64_w, i32_w]; rw [c9b0]) | skip)
    exact natural_Pow.M1
  case rest =>
   clear HC5
   try clear c4
   try clear c4b0
   try clear c4b1
   obtain ⟨kq, x18_4, rfl, HA, HJ4, HB⟩ := hcut
   cases kq with
   | zero => exact absurd HA.out (by simp [natural_Pow.j0])
   | succ kj4 =>
    have H := HA.out
    clear HA
    simp only [natural_Pow.j0] at H
    by_cases c10 : x18_4 = true
    ·subst c10
     rw [if_pos rfl] at H
     simp only [Option.some.injEq, Prod.mk.injEq] at H
     obtain ⟨rfl, rfl⟩ := H
     go_wp2
     go_ret2
     exact ⟨ZE, ZB⟩
    ·replace c10 := Bool.eq_false_iff.mpr c10
     subst c10
     rw [if_neg Bool.false_ne_true] at H
     have HC11 := Aside0.mk H
     clear H
     go_upto_region 6 with (fail)
     go_cut [28] (fun v28 wc => ∃ (kq : Nat) (x28_10 : Bool), v28 = .bool x28_10 ∧ Aside0 (natural_Pow.j1 kq a0 a1 x28_10 = some (r1, r2)) ∧ Aside0 (kq ≤ kj4) ∧ Aside0 (Below w.heap.size w wc))
     case first =>
      have H := HC11.out
      clear HC11
      by_cases c12 : a0.toList = ([] : List UInt8)
      ·rw [if_pos c12] at H
       have c12b0 : (a0.toList == ([] : List UInt8)) = true := beq_iff_eq.mpr c12
       have c12b1 : (a0.toList != ([] : List UInt8)) = false := bne_eq_false_iff_eq.mpr c12
       clear c12
       (first | rw [c12b0] | rw [c12b1] | (simp only [i64_w, i32_w]; rw [c12b0]) | skip)
       have H' := Aside0.mk H
       clear H
       go_wp2
       go_meet
       case rel => exact ⟨_, (false), ZS, H', ⟨by have := HJ4.out; first | omega | exact Nat.le_refl _⟩, ⟨ZB⟩⟩
      ·rw [if_neg c12] at H
       have c12b0 : (a0.toList == ([] : List UInt8)) = false := beq_eq_false_iff_ne.mpr c12
       have c12b1 : (a0.toList != ([] : List UInt8)) = true := bne_iff_ne.mpr c12
       (first | rw [c12b0] | rw [c12b1] | (simp only [i64_w, i32_w]; rw [c12b0]) | skip)
       obtain ⟨t314, A13, H⟩ := ZO H
       have H' := Aside0.mk H
       clear H
       go_wp2_with (first | (go_at_call 54; (with_reducible refine (exact_NatBits.calls a0 t314 _ A13.out).mono ?_); rintro e w' ⟨rfl, ⟨nd, rfl⟩⟩))
       go_meet
       case rel => exact ⟨_, (decide ((wrap64 ((wrap64 (t314 - 1)) * a1)) > 8192)), ZS, H', ⟨by have := HJ4.out; first | omega | exact Nat.le_refl _⟩, ⟨ZB⟩⟩
     case rest =>
      clear HC11
      try clear c10
      obtain ⟨kq, x28_10, rfl, HA, HJ10, HB⟩ := hcut
      cases kq with
      | zero => exact absurd HA.out (by simp [natural_Pow.j1])
      | succ kj10 =>
       have H := HA.out
       clear HA
       simp only [natural_Pow.j1] at H
       by_cases c14 : x28_10 = true
       ·subst c14
        rw [if_pos rfl] at H
        simp only [Option.some.injEq, Prod.mk.injEq] at H
        obtain ⟨rfl, rfl⟩ := H
        go_wp2
        go_ret2
        exact ⟨ZE, ZB⟩
       ·replace c14 := Bool.eq_false_iff.mpr c14
        subst c14
        rw [if_neg Bool.false_ne_true] at H
        obtain ⟨t315, A15, H⟩ := ZO H
        obtain ⟨⟨t316, t317⟩, A16, H⟩ := ZO H
        (try dsimp only at H)
        simp only [Option.some.injEq, Prod.mk.injEq] at H
        obtain ⟨rfl, rfl⟩ := H
        go_wp2_with (first | ((with_reducible refine gate_callee (f := 56) rfl ?_); refine goesL_ (some 31) rfl rfl Try.func56 (by kernel_rfl) rfl #[.string a0, .int .i64 a1] rfl ZA ?_; (with_reducible refine (exact_NatPow.calls kj10 a0 a1 t315 _ A15.out).mono ?_); rintro e w17 ⟨rfl, hb⟩; refine ⟨_, rfl, ?_⟩; replace HB := Aside0.mk (below_step ZB hb); (try clear hb)) | ((with_reducible refine gate_callee (f := 55) rfl ?_); refine goesL_ (some 32) rfl rfl Try.func55 (by kernel_rfl) rfl #[.string t315] rfl ZA ?_; (with_reducible refine (natural_bounded.calls t315 t316 t317 _ A16.out).mono ?_); rintro e w' ⟨rfl, ⟨nd, rfl⟩⟩; refine ⟨_, rfl, ?_⟩))
        go_ret2
        exact ⟨ZE, ZB⟩
 ·rw [if_neg c4] at H
  have c4b0 : (t313 == 0) = false := beq_eq_false_iff_ne.mpr c4
  have c4b1 : (t313 != 0) = true := bne_iff_ne.mpr c4
  simp only [Option.some.injEq, Prod.mk.injEq] at H
  obtain ⟨rfl, rfl⟩ := H
  go_enter Try.func20, Try.ntmps20
  go_wp2_with (first | ((with_reducible refine gate_dst (N := 8) rfl ?_); refine Kd.R_lit Kd.string _ 22 ?hg (N := 8) ?hd (xs := ([a0] : List ByteArray)) (inner := [.string a0]) (ok := fun _ => True) (okp := fun _ => True) ?hr ?hp (fun _ hk => hk) trivial (Below.refl _ _) (Nat.le_refl _) (by simp) ?_; (case hd => rfl); (case hg => rfl); (case hr => first | (go_simp; done) | (go_simp; rfl)); (case hp => exact (Reps.one (show Kd.M Kd.string _ _ _ a0 [.string a0] from rfl) (Reps.none _ _))); intro v311 w18 ho19 hb hg_ hnew_; clear hg_ hnew_; (first | rw [← Ny310.out] at ho19 | (simp only [Int.reduceToNat] at ho19; rw [← Ny310.out] at ho19)); have HO312 := Aside0.mk (Kd.R_lower ho19 (below_size ZB)); replace HB := Aside0.mk (below_step ZB hb); clear hb ho19; obtain ⟨Ao20, co20, eo20⟩ := Kd.R_slice HO312.out; subst eo20) | ((with_reducible refine gate_callee (f := 47) rfl ?_); refine goesL_ (some 9) rfl rfl Try.func47 (by kernel_rfl) rfl #[.slice Ao20 y310.length co20] rfl ZA ?_; (with_reducible refine (natural_first.calls k _ _ y310 t313 _ ?side1 ?side2 A3.out).mono ?_); (case side1 => exact ZC (Kd.R_reads' HO312.out).2.2); (case side2 => exact (Kd.R_reads' HO312.out).2.1); rintro e w' ⟨rfl, ⟨nd, rfl⟩⟩; refine ⟨_, rfl, ?_⟩))
  go_ret2
  exact ⟨ZE, ZB⟩
def natural_Of.byte (a : Int) (j : Nat) : Int := (a / 2 ^ (56 - 8 * j)) % 256
def natural_Of.bytes (a : Int) (k : Nat) : List Int := (List.range k).map (natural_Of.byte a) ++ List.replicate (8 - k) 0
theorem natural_Of.bytes_len (a : Int) (k : Nat) (h : k ≤ 8) : (natural_Of.bytes a k).length = 8 := by simp [natural_Of.bytes]; omega
theorem natural_Of.bytes_set (a : Int) (k : Nat) (h : k < 8) : (natural_Of.bytes a k).set k (natural_Of.byte a k) = natural_Of.bytes a (k + 1) := by
 unfold natural_Of.bytes
 rw [List.set_append_right _ _ (by simp)]
 simp only [List.length_map, List.length_range, Nat.sub_self, List.range_succ, List.map_append, List.map_cons, List.map_nil, List.append_assoc]
 congr 1
 obtain ⟨m, hm⟩ : ∃ m, 8 - k = m + 1 := ⟨7 - k, by omega⟩
 rw [hm, show 8 - (k + 1) = m by omega, List.replicate_succ]
 rfl
def natural_Of.f (a0 : Int) : Option (ByteArray) := if 0 ≤ a0 ∧ a0 ≤ 18446744073709551615 then some (strOfNums ((natural_Of.bytes a0 8).dropWhile (· == 0))) else none
theorem natural_Of.made (w : World) : Kd.R (Kd.int .u8) 74 (w.alloc (.cells #[.int .u8 0, .int .u8 0, .int .u8 0, .int .u8 0, .int .u8 0, .int .u8 0, .int .u8 0, .int .u8 0] 74)) w.heap.size (fun _ => True) (.slice (some ⟨w.heap.size, 0, none⟩) 8 8) (List.replicate 8 0) :=
 Kd.R_of_own (own_lit w w.heap.size 74 .u8 (List.replicate 8 0) (Nat.le_refl _) (by simp)) (fun _ _ => trivial)
theorem natural_Of.info5s : (Try.prog.info? 5).map (·.size) = some 1 := by kernel_rfl
theorem natural_Of.reads {w : World} {base g : Nat} {ok : Nat → Prop} {a : Int} (h : Kd.R (Kd.int .u8) 74 w base ok (.slice (some ⟨g, 0, none⟩) 8 8) (natural_Of.bytes a 8)) : Kd.C (Kd.int .u8) w (some ⟨g, 0, none⟩) 8 (natural_Of.bytes a 8) := by
 have := (Kd.R_reads' h).2.2
 rwa [natural_Of.bytes_len a 8 (Nat.le_refl _)] at this
theorem natural_Of.copied {w : World} {base : Nat} {ok : Nat → Prop} {v : Value} {a : Int} (h : Kd.R (Kd.int .u8) 5 w base ok v ((natural_Of.bytes a 8).take (min 8 (List.replicate 8 (0 : Int)).length) ++ (List.replicate 8 (0 : Int)).drop (min 8 (List.replicate 8 (0 : Int)).length))) : Kd.R (Kd.int .u8) 5 w base ok v (natural_Of.bytes a 8) := by
 rw [List.take_of_length_le (by rw [natural_Of.bytes_len a 8 (Nat.le_refl _)]; simp), List.drop_of_length_le (by simp), List.append_nil] at h
 exact h
theorem natural_Of.then_ {w w1 w2 : World} (h : Below w.heap.size w w1) (k : Below w1.heap.size w1 w2) : Below w.heap.size w w2 := below_then h h.size k
def natural_Of.len (v : Value) : Nat := match v with | .slice _ n _ => n | _ => 0
theorem natural_Of.drop1 (l : List Int) (h : ¬ l.length = 0) (h0 : rd l 0 = 0) : (l.drop 1).dropWhile (· == 0) = l.dropWhile (· == 0) := by
 cases l with
 | nil => exact absurd rfl h
 | cons x l =>
  have : x = 0 := h0
  subst this
  simp
theorem natural_Of.keep (l : List Int) (h0 : ¬ rd l 0 = 0) : l.dropWhile (· == 0) = l := by
 cases l with
 | nil => rfl
 | cons x l =>
  have : ¬ x = 0 := h0
  simp [this]
theorem natural_Of.add0 (a : Addr) : a.add 0 = a := by
 unfold Addr.add
 split <;> simp_all
set_option maxHeartbeats 2000000 in
set_option maxRecDepth 100000 in
theorem natural_Of.calls (a0 : Int) (r : ByteArray) (w : World) (h : natural_Of.f a0 = some r) :
  Calls Try.prog 30 #[.int .u64 a0] w fun e w' => e = .returned (.string r) ∧ Below w.heap.size w w' := by
 unfold natural_Of.f at h
 by_cases c : 0 ≤ a0 ∧ a0 ≤ 18446744073709551615
 case neg =>
  rw [if_neg c] at h
  exact absurd h (by simp)
 rw [if_pos c] at h
 obtain rfl := Option.some.inj h
 clear h
 obtain ⟨h0, h1⟩ := c
 go_enter Try.func30, Try.ntmps30
 go_wp2
 have HR0 := Aside0.mk (natural_Of.made w)
 have HB0 := Aside0.mk (below_alloc (Below.refl w.heap.size w) (.cells #[.int .u8 0, .int .u8 0, .int .u8 0, .int .u8 0, .int .u8 0, .int .u8 0, .int .u8 0, .int .u8 0] 74))
 go_loopw [6] (fun i wr => ∃ k : Nat, k ≤ 8 ∧ i = .int .i64 k ∧ Aside0 (Kd.R (Kd.int .u8) 74 wr w.heap.size (fun _ => True) (.slice (some ⟨w.heap.size, 0, none⟩) 8 8) (natural_Of.bytes a0 k)) ∧ Aside0 (Below w.heap.size w wr)) (fun i _ => 8 - (intOf i).toNat)
 case atStart => exact ⟨0, by omega, rfl, HR0, HB0⟩
 case round =>
  obtain ⟨k, hk, rfl, HR, HB⟩ := hrel
  clear HR0 HB0
  by_cases hlt : k < 8
  ·have e1 : IntKind.i64.wrap (8 * (k : Int)) = 8 * (k : Int) := IntWalk.i64_in _ (by omega)
   have e2 : IntKind.i64.wrap (56 - 8 * (k : Int)) = 56 - 8 * (k : Int) := IntWalk.i64_in _ (by omega)
   have e3 : (0 : Int) ≤ 56 - 8 * (k : Int) := by omega
   obtain ⟨hc, hf⟩ := Kd.R_celln (0 : Int) HR.out (k : Int) (by omega) (by omega); (try simp only [Int.toNat_natCast] at hc hf)
   (try simp only [Int.toNat_natCast] at hc hf)
   go_wp2
   go_roundw
   case rel =>
    have hp := (Kd.R_putg HR.out (k : Int) (natural_Of.byte a0 k)).1
    rw [Int.toNat_natCast, natural_Of.bytes_set a0 k hlt] at hp
    exact ⟨k + 1, by omega, by go_num, ⟨hp⟩, ⟨below_set HB.out (Nat.le_refl _)⟩⟩
   case measure => simp [intOf]; omega
  ·obtain rfl : k = 8 := by omega
   clear hlt hk
   go_wp2_with (first
    | ((with_reducible refine gate_dst (N := 18) rfl ?_); refine Kd.R_make (Kd.int .u8) _ 5 rfl (N := 18) rfl 75 _ _ rfl 8 rfl rfl Try.underlying75 (.int .u8 0) 1 info5 rfl (by decide) (by omega) 0 (ok := fun _ => True) (okp := fun _ => True) rfl (fun _ hk => hk) trivial (by omega) (by decide) (Below.refl _ _) (Nat.le_refl _) ?_; intro v1 w1 ho hb hg hn; have HO := Aside0.mk ho; have HG := Aside0.mk hb; have HC := Aside0.mk (natural_Of.reads (Kd.R_below HR.out hb)); clear ho hb hg hn)
    | ((with_reducible refine gate_builtin (b := .copy) rfl ?_); refine Kd.R_copy (0 : Int) wr.heap.size rfl _ _ 75 75 5 rfl Try.underlying75 natural_Of.info5s v1 (List.replicate 8 0) (natural_Of.bytes a0 8) (some ⟨w.heap.size, 0, none⟩) 8 8 (fun _ => True) rfl rfl HO.out HC.out HG.out HG.out.size ?_; intro w2 ho hb hg; have HO2 := Aside0.mk (natural_Of.copied ho); have HB2 := Aside0.mk (natural_Of.then_ HB.out hb); clear ho hb hg HR HB HO HG HC))
   obtain ⟨A, cp, hv, hcp, hC⟩ := Kd.Q_reads (Kd.Q_of_R HO2.out)
   have HQ := Aside0.mk (Kd.Q_of_R HO2.out)
   clear HO2
   rw [natural_Of.bytes_len a0 8 (Nat.le_refl _)] at hv
   subst hv
   have hl8 := natural_Of.bytes_len a0 8 (Nat.le_refl _)
   have HQ' : Aside0 (Kd.Q (Kd.int .u8) 5 w2 wr.heap.size (fun _ => True) (.slice A (natural_Of.bytes a0 8).length cp) (natural_Of.bytes a0 8)) := ⟨by rw [hl8]; exact HQ.out⟩
   have HL := Aside0.mk hl8
   clear hl8 hC hcp HQ
   (try simp only [Act.put, List.setIfInBounds_toArray, List.set_cons_zero, List.set_cons_succ])
   go_loop [5] (fun v => ∃ (l : List Int) (A : Option Addr) (c : Nat), v = .slice A l.length c ∧ Aside0 (Kd.Q (Kd.int .u8) 5 w2 wr.heap.size (fun _ => True) (.slice A l.length c) l) ∧ Aside0 (l.dropWhile (· == 0) = (natural_Of.bytes a0 8).dropWhile (· == 0))) (fun v => natural_Of.len v)
   case atStart => exact ⟨natural_Of.bytes a0 8, A, cp, by rw [HL.out], HQ', ⟨rfl⟩⟩
   case round =>
    obtain ⟨l, A1, c1, rfl, HQ1, HD⟩ := hrel
    clear HQ' HL
    obtain ⟨hn, hcp, hC⟩ := Kd.Q_reads' HQ1.out
    have HC := Aside0.mk hC
    clear hC hn
    by_cases hz : l.length = 0
    ·have hnil : l = [] := List.eq_nil_of_length_eq_zero hz
     have hstr := Kd.C_string (P := Try.prog) Try.underlying75 Try.underlying5 Try.underlying22 (c := c1) HC.out
     have c1b : decide (0 < l.length) = false := by rw [hz]; rfl
     have HN := Aside0.mk hnil
     clear hz hnil hcp
     go_wp2
     go_ret
     refine ⟨?_, HB2.out⟩
     rw [← HD.out, HN.out]
     rfl
    ·obtain ⟨ad, rfl, hx⟩ := Kd.at_int HC.out 0 (by omega) (by omega)
     have hx' : w2.cell? ad = some (.int .u8 (rd l 0)) := by rw [← natural_Of.add0 ad]; exact hx
     clear hx
     have c1b : decide (0 < l.length) = true := by simp; omega
     have c2b : decide ((0 : Int) < (l.length : Int)) = true := by simp; omega
     have c4b : (0 < l.length) = True := eq_true (by omega)
     have c5b : ((0 : Int) < (l.length : Int)) = True := eq_true (by omega)
     have HZ := Aside0.mk hz
     by_cases hx0 : rd l 0 = 0
     ·have c3b : (rd l 0 == 0) = true := beq_iff_eq.mpr hx0
      have HX := Aside0.mk hx0
      obtain ⟨i0, hi0, _, hsz, _⟩ := info_parts info5
      have hcut := cut_from (P := Try.prog) 75 5 .i64 Try.underlying75 hi0 1 hsz (some ad) l.length c1 1 (by omega) (by omega)
      have hq := Kd.Q_drop (k := 1) HQ1.out (by omega)
      obtain ⟨A2, hA2⟩ : ∃ A2, A2 = (if c1 = 1 then some ad else (some ad : Option Addr).map (·.add (1 * 1))) := ⟨_, rfl⟩
      have hl2 : (l.drop 1).length = l.length - 1 := by simp
      have hq2 : Kd.Q (Kd.int .u8) 5 w2 wr.heap.size (fun _ => True) (.slice A2 (l.drop 1).length (c1 - 1)) (l.drop 1) := by rw [hl2, hA2]; exact hq
      obtain ⟨l2, hl2'⟩ : ∃ l2, l2 = l.drop 1 := ⟨_, rfl⟩
      obtain ⟨c2, hc2⟩ : ∃ c2, c2 = c1 - 1 := ⟨_, rfl⟩
      have hcut2 : ∀ W : World, (Instr.slice 75 (.slice (some ad) l.length c1) (some (.int .i64 1)) none none).run Try.prog W = .ok (.slice A2 l2.length c2) W := by
       intro W
       rw [hcut W, hl2', hl2, hc2, hA2]
       rfl
      rw [← hl2', ← hc2] at hq2
      have HQ2 := Aside0.mk hq2
      have HL2 := Aside0.mk hl2'
      clear hcut hq hA2 hl2 hq2 hl2' hc2 hx0 hi0 hsz hcp hz
      go_wp2
      go_round
      case rel =>
       refine ⟨l2, A2, c2, by first | rfl | exact ⟨rfl, rfl, rfl⟩, HQ2, ⟨?_⟩⟩
       rw [← HD.out, HL2.out]
       exact natural_Of.drop1 l HZ.out HX.out
      case measure =>
       show natural_Of.len (.slice A2 l2.length c2) < natural_Of.len (.slice (some ad) l.length c1)
       rw [HL2.out]
       have := HZ.out
       simp [natural_Of.len]
       omega
     ·have c3b : (rd l 0 == 0) = false := beq_eq_false_iff_ne.mpr hx0
      have HX := Aside0.mk hx0
      have hstr := Kd.C_string (P := Try.prog) Try.underlying75 Try.underlying5 Try.underlying22 (c := c1) HC.out
      clear hz hcp hx0
      go_wp2
      go_ret
      refine ⟨?_, HB2.out⟩
      rw [← HD.out, natural_Of.keep l HX.out]
      rfl
mutual
def exact_NatAdd.j0 : Nat → List Int → List Int → Option (ByteArray)
 | 0, _, _ => none
 | k + 1, x5, x6 => if 0 ≤ (wrap64 ((x5.length : Int) + 1)) then (if (wrap64 ((x5.length : Int) + 1) : Int).toNat ≤ 35184372088832 then (exact_NatAdd.l0 k x5 x6 (List.replicate (wrap64 ((x5.length : Int) + 1) : Int).toNat 0) 0 (x5.length : Int) 0) else (none)) else (none)
def exact_NatAdd.l0 : Nat → List Int → List Int → List Int → Int → Int → Int → Option (ByteArray)
 | 0, _, _, _, _, _, _ => none
 | k + 1, x5, x6, x7, x8, x27, x28 => if x28 < x27 then (if x28 < (x6.length : Int) then (if 0 ≤ x28 then (if x28 < (x5.length : Int) then ((bits_Add64.f (rd x5 x28) (rd x6 x28) x8).bind fun bt329 => (if x28 < (x7.length : Int) then (exact_NatAdd.l0 k x5 x6 (x7.set (x28 : Int).toNat bt329.1) bt329.2 x27 (wrap64 (x28 + 1))) else (none))) else (none)) else (none)) else (if 0 ≤ x28 then (if x28 < (x5.length : Int) then ((bits_Add64.f (rd x5 x28) 0 x8).bind fun bt333 => (if x28 < (x7.length : Int) then (exact_NatAdd.l0 k x5 x6 (x7.set (x28 : Int).toNat bt333.1) bt333.2 x27 (wrap64 (x28 + 1))) else (none))) else (none)) else (none))) else (if 0 ≤ (x5.length : Int) then (if (x5.length : Int) < (x7.length : Int) then ((exact_pack.f k (x7.set ((x5.length : Int) : Int).toNat x8)).bind fun t337 => (some t337)) else (none)) else (none))
end
def exact_NatAdd.f (k : Nat) (a0 : ByteArray) (a1 : ByteArray) : Option (ByteArray) := (exact_words.f k a0).bind fun t318 => ((exact_words.f k a1).bind fun t321 => (if (t318.length : Int) < (t321.length : Int) then (exact_NatAdd.j0 k t321 t318) else (exact_NatAdd.j0 k t318 t321)))
theorem exact_NatAdd.U1 {g : Prop} (h : g := by
 repeat' first
 | (with_reducible exact ih0 _ _)
 | (with_reducible exact ih1 _ _ _ _ _ _)
 | (with_reducible exact exact_pack.mono _ _)
 | (with_reducible exact exact_words.mono _ _)
 | (with_reducible exact LeO.refl _)
 | (with_reducible exact LeO.none _)
 | (with_reducible refine LeO.ite ?_ ?_)
 | (with_reducible refine LeO.bind ?_ (fun _ => ?_))) : g := h
theorem exact_NatAdd.mono_l : ∀ k, (∀ y0 y1, LeO (exact_NatAdd.j0 k y0 y1) (exact_NatAdd.j0 (k + 1) y0 y1)) ∧ (∀ y0 y1 y2 y3 y4 y5, LeO (exact_NatAdd.l0 k y0 y1 y2 y3 y4 y5) (exact_NatAdd.l0 (k + 1) y0 y1 y2 y3 y4 y5))
 | 0 => ⟨fun _ _ r h => by simp [exact_NatAdd.j0] at h, fun _ _ _ _ _ _ r h => by simp [exact_NatAdd.l0] at h⟩
 | k + 1 => by
  obtain ⟨ih0, ih1⟩ := exact_NatAdd.mono_l k
  refine ⟨?_, ?_⟩
  ·intro y0 y1
   unfold exact_NatAdd.j0
   exact exact_NatAdd.U1
  ·intro y0 y1 y2 y3 y4 y5
   unfold exact_NatAdd.l0
   exact exact_NatAdd.U1
theorem exact_NatAdd.mono : ∀ a0 a1 k, LeO (exact_NatAdd.f k a0 a1) (exact_NatAdd.f (k + 1) a0 a1) := by
 intro a0 a1 k
 obtain ⟨ih0, ih1⟩ := exact_NatAdd.mono_l k
 unfold exact_NatAdd.f
 exact exact_NatAdd.U1
set_option maxHeartbeats 8000000 in
set_option maxRecDepth 100000 in
theorem exact_NatAdd.calls (k : Nat) (a0 : ByteArray) (a1 : ByteArray) (r : ByteArray) (w : World) (h : exact_NatAdd.f k a0 a1 = some r) :
  Calls Try.prog 63 #[.string a0, .string a1] w fun e w' => e = .returned (.string r) ∧ Below w.heap.size w w' := by
 have HB := Aside0.mk (Below.refl w.heap.size w)
 have H := h
 unfold exact_NatAdd.f at H
 clear h
 obtain ⟨t318, A3, H⟩ := ZO H
 obtain ⟨t321, A4, H⟩ := ZO H
 have HC5 := Aside0.mk H
 clear H
 go_enter Try.func63, Try.ntmps63
 go_upto_if 19 with (first | ((with_reducible refine gate_callee (f := 70) rfl ?_); refine goesL_ (some 12) rfl rfl Try.func70 (by kernel_rfl) rfl #[.string a0] rfl ZA ?_; (with_reducible refine (exact_words.calls k a0 t318 _ A3.out).mono ?_); rintro e w6 ⟨v319, rfl, ho0, hb⟩; refine ⟨_, rfl, ?_⟩; have HO320 := Aside0.mk (Kd.R_lower ho0 (below_size ZB)); replace HB := Aside0.mk (below_step ZB hb); (try clear hb); (try clear ho0)) | ((with_reducible refine gate_callee (f := 70) rfl ?_); refine goesL_ (some 14) rfl rfl Try.func70 (by kernel_rfl) rfl #[.string a1] rfl ZA ?_; (with_reducible refine (exact_words.calls k a1 t321 _ A4.out).mono ?_); rintro e w7 ⟨v322, rfl, ho0, hb⟩; refine ⟨_, rfl, ?_⟩; have HO323 := Aside0.mk (Kd.R_lower (Kd.R_new' ho0 (Kd.R_lt (ZR HO320.out))) (below_size ZB)); replace HO320 := Aside0.mk (Kd.R_elder' (ZR HO320.out) (Kd.R_base ho0) hb); replace HB := Aside0.mk (below_step ZB hb); (try clear hb); (try clear ho0); obtain ⟨Ao8, co8, eo8⟩ := Kd.R_slice HO320.out; subst eo8; obtain ⟨Ao9, co9, eo9⟩ := Kd.R_slice HO323.out; subst eo9))
 (try simp only [Act.put, List.setIfInBounds_toArray, List.set_cons_zero, List.set_cons_succ])
 go_cut [5, 6] (fun v5 v6 wc => ∃ (kq : Nat) (x5_4 : List Int) (x6_4 : List Int), Aside0 (exact_NatAdd.j0 kq x5_4 x6_4 = some r) ∧ Aside0 (kq ≤ k) ∧ Aside0 (Kd.R (Kd.int .u64) 49 wc w.heap.size (fun k_ => some k_ ≠ (v6 : Value).ownBlock) v5 x5_4) ∧ Aside0 (Kd.R (Kd.int .u64) 49 wc w.heap.size (fun k_ => some k_ ≠ (v5 : Value).ownBlock) v6 x6_4) ∧ Aside0 (Below w.heap.size w wc))
 case first =>
  have H := HC5.out
  clear HC5
  by_cases c10 : (t318.length : Int) < (t321.length : Int)
  ·rw [if_pos c10] at H
   have c10b0 : decide ((t318.length : Int) < (t321.length : Int)) = true := decide_eq_true c10
   have c10b1 : decide (t318.length < t321.length) = true := decide_eq_true (Int.ofNat_lt.mp c10)
   clear c10
   (first | rw [c10b0] | rw [c10b1] | (simp only [i64_w, i32_w]; rw [c10b0]) | skip)
   have H' := Aside0.mk H
   clear H
   go_wp2
   go_meet
   case rel => exact ⟨_, (t321), (t318), H', ⟨ZN⟩, ⟨by (with_reducible repeat (first | apply Kd.R_alloc | apply Kd.R_drewN | apply Kd.R_drew)); exact Kd.R_mono HO323.out (fun _ hk => hk.2)⟩, ⟨by (with_reducible repeat (first | apply Kd.R_alloc | apply Kd.R_drewN | apply Kd.R_drew)); exact Kd.R_mono HO320.out (fun _ hk => hk.2)⟩, ⟨ZB⟩⟩
  ·rw [if_neg c10] at H
   have c10b0 : decide ((t318.length : Int) < (t321.length : Int)) = false := decide_eq_false c10
   have c10b1 : decide (t318.length < t321.length) = false := decide_eq_false (fun h => c10 (Int.ofNat_lt.mpr h))
   clear c10
   (first | rw [c10b0] | rw [c10b1] | (simp only [i64_w, i32_w]; rw [c10b0]) | skip)
   have H' := Aside0.mk H
   clear H
   go_wp2
   go_meet
   case rel => exact ⟨_, (t318), (t321), H', ⟨ZN⟩, ⟨by (with_reducible repeat (first | apply Kd.R_alloc | apply Kd.R_drewN | apply Kd.R_drew)); exact Kd.R_mono HO320.out (fun _ hk => hk.2)⟩, ⟨by (with_reducible repeat (first | apply Kd.R_alloc | apply Kd.R_drewN | apply Kd.R_drew)); exact Kd.R_mono HO323.out (fun _ hk => hk.2)⟩, ⟨ZB⟩⟩
 case rest =>
  clear HC5
  obtain ⟨kq, x5_4, x6_4, HA, HJ4, HO_5, HO_6, HB⟩ := hcut
  cases kq with
  | zero => exact absurd HA.out (by simp [exact_NatAdd.j0])
  | succ kj4 =>
   have H := HA.out
   clear HA
   simp only [exact_NatAdd.j0] at H
   obtain ⟨ji11, hji11⟩ : ∃ j_ : Int, (wrap64 ((x5_4.length : Int) + 1)) = j_ := ⟨_, rfl⟩
   (first | rw [hji11] at H | simp only [hji11] at H)
   have hji11w : (IntKind.i64.wrap ((x5_4.length : Int) + 1)) = ji11 := (i64_w _).trans hji11
   by_cases c12 : 0 ≤ (ji11)
   ·rw [if_pos c12] at H
    have c12b0 := eq_true c12
    have c12b1 : decide (0 ≤ (ji11)) = true := decide_eq_true c12
    clear c12
    obtain ⟨c13, H⟩ := ZI H
    have c13b0 := eq_true c13
    have c13b1 : decide ((ji11 : Int).toNat ≤ 35184372088832) = true := decide_eq_true c13
    clear c13
    obtain ⟨y324, hy324⟩ : ∃ y_ : List Int, y_ = (List.replicate (ji11 : Int).toNat 0) := ⟨_, rfl⟩
    replace H : (exact_NatAdd.l0 kj4 x5_4 x6_4 y324 0 (x5_4.length : Int) 0) = some r := ZH hy324 H
    have Ny324 := Aside0.mk hy324
    clear hy324
    have H' := Aside0.mk H
    clear H
    obtain ⟨Ao14, co14, eo14⟩ := Kd.R_slice HO_5.out
    subst eo14
    go_wp2_with (first | ((with_reducible refine gate_dst (N := 25) rfl ?_); refine Kd.R_make (Kd.int .u64) _ 49 rfl (N := 25) rfl 68 _ _ rfl ji11 rfl rfl Try.underlying68 (.int .u64 0) 8 info49 rfl (by decide) (by omega) 0 (ok := fun _ => True) (okp := fun _ => True) rfl (fun _ hk => hk) trivial (of_decide_eq_true ZD) (Nat.le_trans (Nat.mul_le_mul_right _ (of_decide_eq_true ZD : ji11.toNat ≤ 35184372088832)) (by omega)) (Below.refl _ _) (Nat.le_refl _) ?_; intro v325 w15 ho16 hb hg_ hnew_; clear hg_ hnew_; (first | rw [← Ny324.out] at ho16 | (simp only [Int.reduceToNat] at ho16; rw [← Ny324.out] at ho16)); have HO326 := Aside0.mk (Kd.R_lower (Kd.R_new' (Kd.R_new' ho16 (Kd.R_lt (ZR HO_5.out))) (Kd.R_lt (ZR HO_6.out))) (below_size ZB)); replace HO_5 := Aside0.mk (Kd.R_elder' (ZR HO_5.out) (Kd.R_base ho16) hb); replace HO_6 := Aside0.mk (Kd.R_elder' (ZR HO_6.out) (Kd.R_base ho16) hb); replace HB := Aside0.mk (below_step ZB hb); clear hb ho16))
    go_loopg [8, 28] kj4 (fun kq v8 v28 w' => ∃ (x7_2 : List Int) (x8_2 : Int) (x28_2 : Int), v8 = .int .u64 x8_2 ∧ v28 = .int .i64 x28_2 ∧ Aside0 (exact_NatAdd.l0 kq x5_4 x6_4 x7_2 x8_2 (x5_4.length : Int) x28_2 = some r) ∧ Aside0 (kq ≤ kj4) ∧ Aside0 (Kd.R (Kd.int .u64) 49 w' w.heap.size (fun k_ => some k_ ≠ (u6 : Value).ownBlock ∧ some k_ ≠ (v325 : Value).ownBlock) (.slice Ao14 x5_4.length co14) x5_4) ∧ Aside0 (Kd.R (Kd.int .u64) 49 w' w.heap.size (fun k_ => some k_ ≠ ((.slice Ao14 x5_4.length co14) : Value).ownBlock ∧ some k_ ≠ (v325 : Value).ownBlock) u6 x6_4) ∧ Aside0 (Kd.R (Kd.int .u64) 49 w' w.heap.size (fun k_ => some k_ ≠ ((.slice Ao14 x5_4.length co14) : Value).ownBlock ∧ some k_ ≠ (u6 : Value).ownBlock) v325 x7_2) ∧ Aside0 (Below w.heap.size w w'))
    case atStart => exact ⟨(y324), (0), (0), ZS, ZS, H', ⟨Nat.le_refl _⟩, ⟨by (with_reducible repeat (first | apply Kd.R_alloc | apply Kd.R_drewN | apply Kd.R_drew)); exact HO_5.out⟩, ⟨by (with_reducible repeat (first | apply Kd.R_alloc | apply Kd.R_drewN | apply Kd.R_drew)); exact HO_6.out⟩, ⟨by (with_reducible repeat (first | apply Kd.R_alloc | apply Kd.R_drewN | apply Kd.R_drew)); exact Kd.R_mono HO326.out (fun _ hk => ⟨hk.1.2, hk.2⟩)⟩, ⟨ZB⟩⟩
    case round =>
     clear H'
     try clear c12
     try clear c12b0
     try clear c12b1
     try clear c13
     try clear c13b0
     try clear c13b1
     obtain ⟨x7_2, x8_2, x28_2, rfl, rfl, HA, HK2, HO_5, HO_6, HO_7, HB⟩ := hrel
     cases gk with
     | zero => exact absurd HA.out (by simp [exact_NatAdd.l0])
     | succ k2 =>
      have H := HA.out
      clear HA
      simp only [exact_NatAdd.l0] at H
      by_cases c17 : x28_2 < (x5_4.length : Int)
      ·rw [if_pos c17] at H
       have c17b0 : decide (x28_2 < (x5_4.length : Int)) = true := decide_eq_true c17
       clear c17
       by_cases c18 : x28_2 < (x6_4.length : Int)
       ·rw [if_pos c18] at H
        have c18b0 : decide (x28_2 < (x6_4.length : Int)) = true := decide_eq_true c18
        clear c18
        obtain ⟨c19, H⟩ := ZI H
        have c19b0 : decide (0 ≤ x28_2) = true := decide_eq_true c19
        clear c19
        obtain ⟨c20, H⟩ := ZI H
        have c20b0 : decide (x28_2 < (x5_4.length : Int)) = true := decide_eq_true c20
        clear c20
        obtain ⟨⟨t329, t330⟩, A21, H⟩ := ZO H
        (try dsimp only at H)
        obtain ⟨c22, H⟩ := ZI H
        have c22b0 : decide (x28_2 < (x7_2.length : Int)) = true := decide_eq_true c22
        clear c22
        obtain ⟨y331, hy331⟩ : ∃ y_ : List Int, y_ = (x7_2.set (x28_2 : Int).toNat t329) := ⟨_, rfl⟩
        replace H : (exact_NatAdd.l0 k2 x5_4 x6_4 y331 t330 (x5_4.length : Int) (wrap64 (x28_2 + 1))) = some r := ZH hy331 H
        have Ny331 := Aside0.mk hy331
        clear hy331
        have H' := Aside0.mk H
        clear H
        obtain ⟨Ao24, co24, eo24⟩ := Kd.R_slice HO_6.out
        subst eo24
        have p327 : 0 ≤ (x28_2 : Int) := of_decide_eq_true ZD
        have q327 : x28_2 < (x6_4.length : Int) := of_decide_eq_true ZD
        obtain ⟨ad327, e327, hx327_0⟩ := Kd.at_int (Kd.R_reads' HO_6.out).2.2 x28_2 p327 q327
        cases e327
        replace p327 := eq_true p327
        replace q327 := eq_true q327
        have p328 : 0 ≤ (x28_2 : Int) := of_decide_eq_true ZD
        have q328 : x28_2 < (x5_4.length : Int) := of_decide_eq_true ZD
        obtain ⟨ad328, e328, hx328_0⟩ := Kd.at_int (Kd.R_reads' HO_5.out).2.2 x28_2 p328 q328
        cases e328
        replace p328 := eq_true p328
        replace q328 := eq_true q328
        go_wp2_with (first | ((with_reducible refine gate_callee (f := 75) rfl ?_); refine goesXL_ (some 48) rfl rfl Try.func75 (by kernel_rfl) #[.int .u64 (rd x5_4 x28_2), .int .u64 (rd x6_4 x28_2), .int .u64 x8_2] rfl ZA ?_; (with_reducible refine (bits_Add64.calls (rd x5_4 x28_2) (rd x6_4 x28_2) x8_2 t329 t330 _ A21.out).mono ?_); rintro e w' ⟨rfl, ⟨nd, rfl⟩⟩; refine ⟨_, rfl, ?_⟩; (try (rw [drewN_self wr]; generalize hq_ : World.drewN wr _ = wr; have n0_ : Aside0 (Kd.R (Kd.int .u64) 49 wr w.heap.size (fun k_ => some k_ ≠ (.slice (some ad327) x6_4.length co24 : Value).ownBlock ∧ some k_ ≠ (v325 : Value).ownBlock) (.slice (some ad328) x5_4.length co14) x5_4) := ⟨by rw [← hq_]; exact (ZR HO_5.out)⟩; have n1_ : Aside0 (Kd.R (Kd.int .u64) 49 wr w.heap.size (fun k_ => some k_ ≠ (.slice (some ad328) x5_4.length co14 : Value).ownBlock ∧ some k_ ≠ (v325 : Value).ownBlock) (.slice (some ad327) x6_4.length co24) x6_4) := ⟨by rw [← hq_]; exact (ZR HO_6.out)⟩; have n2_ : Aside0 (Kd.R (Kd.int .u64) 49 wr w.heap.size (fun k_ => some k_ ≠ (.slice (some ad328) x5_4.length co14 : Value).ownBlock ∧ some k_ ≠ (.slice (some ad327) x6_4.length co24 : Value).ownBlock) v325 x7_2) := ⟨by rw [← hq_]; exact (ZR HO_7.out)⟩; have n3_ : Aside0 (Below w.heap.size w wr) := ⟨by rw [← hq_]; exact ZB⟩; clear HO_5 HO_6 HO_7 HB hq_; have HO_5 := n0_; have HO_6 := n1_; have HO_7 := n2_; have HB := n3_; clear n0_ n1_ n2_ n3_)); have p23 : 0 ≤ (x28_2 : Int) := of_decide_eq_true ZD; have q23 : (x28_2 : Int) < ((x7_2.length : Int) : Int) := of_decide_eq_true ZD; obtain ⟨go23, co23, eo23, gb23, gl23, cl23, HG23⟩ := Kd.R_form HO_7.out (by omega); (first | cases eo23 | (injection eo23 with ea_ en_ ec_; (first | subst ea_ | (injection ea_ with ea_; subst ea_)); subst ec_; clear en_)); have GB23 := Aside0.mk gb23; have GG23 := Aside0.mk HG23; clear gb23 gl23 HG23; obtain ⟨hx23_0, hf23_0⟩ := Kd.R_celln 0 HO_7.out (x28_2 : Int) p23 q23; (try simp only [Int.toNat_natCast] at hx23_0 hf23_0); replace p23 := eq_true p23; replace q23 := eq_true q23; obtain ⟨hy25_, hz25_⟩ := Kd.R_celln 0 HO_7.out (x28_2 : Int) (of_decide_eq_true ZD) (of_decide_eq_true ZD); (try simp only [Int.toNat_natCast] at hy25_ hz25_); have HP25 := Kd.R_putg HO_7.out (x28_2 : Int) t329) | ((with_reducible refine gate_store (t := 49) (p := 51) rfl ?_); refine store_event (t := 49) (p := 51) (v := ?vo_w26) (w1 := (wr.setCell ⟨go23, (x28_2 : Int).toNat, none⟩ (.int .u64 t329))) ?hg ?ho ?hn ?hr ?_; (case ho => rfl); (case hg => rfl); (case hn => rfl); (case hr => first | (go_simp; done) | (go_simp; rfl)); intro w26 hw; have hg : wr.grownBy w26 (some go23) := (by rw [hw]; exact HP25.2); have hp_ : Kd.R (Kd.int .u64) 49 w26 w.heap.size (fun k_ => some k_ ≠ (.slice (some ad328) x5_4.length co14 : Value).ownBlock ∧ some k_ ≠ (.slice (some ad327) x6_4.length co24 : Value).ownBlock) (.slice (some ⟨go23, 0, none⟩) x7_2.length co23) y331 := (by rw [hw, Ny331.out]; exact HP25.1); clear HP25; replace HO_5 := Aside0.mk (Kd.R_after (v := (.slice (some ⟨go23, 0, none⟩) x7_2.length co23)) (v1 := (.slice (some ⟨go23, 0, none⟩) x7_2.length co23)) (ok := (fun k_ => some k_ ≠ (.slice (some ad327) x6_4.length co24 : Value).ownBlock)) (ZR HO_5.out) hg (.inl rfl)); replace HO_6 := Aside0.mk (Kd.R_after (v := (.slice (some ⟨go23, 0, none⟩) x7_2.length co23)) (v1 := (.slice (some ⟨go23, 0, none⟩) x7_2.length co23)) (ok := (fun k_ => some k_ ≠ (.slice (some ad328) x5_4.length co14 : Value).ownBlock)) (ZR HO_6.out) hg (.inl rfl)); replace HO_7 := Aside0.mk (hp_); replace HB := Aside0.mk ((by rw [hw]; exact below_set (HB.out) GB23.out : Below w.heap.size w w26)); clear hg hw hp_))
        go_roundg k2
        case measure => have := HJ4.out; have := HK2.out; omega
        case rel => exact ⟨(y331), (t330), (wrap64 (x28_2 + 1)), ZS, ZS, H', ⟨by have := HJ4.out; have := HK2.out; omega⟩, ⟨by (with_reducible repeat (first | apply Kd.R_alloc | apply Kd.R_drewN | apply Kd.R_drew)); exact HO_5.out⟩, ⟨by (with_reducible repeat (first | apply Kd.R_alloc | apply Kd.R_drewN | apply Kd.R_drew)); exact HO_6.out⟩, ⟨by (with_reducible repeat (first | apply Kd.R_alloc | apply Kd.R_drewN | apply Kd.R_drew)); exact HO_7.out⟩, ⟨ZB⟩⟩
       ·rw [if_neg c18] at H
        have c18b0 : decide (x28_2 < (x6_4.length : Int)) = false := decide_eq_false c18
        clear c18
        obtain ⟨c27, H⟩ := ZI H
        have c27b0 : decide (0 ≤ x28_2) = true := decide_eq_true c27
        clear c27
        obtain ⟨c28, H⟩ := ZI H
        have c28b0 : decide (x28_2 < (x5_4.length : Int)) = true := decide_eq_true c28
        clear c28
        obtain ⟨⟨t333, t334⟩, A29, H⟩ := ZO H
        (try dsimp only at H)
        obtain ⟨c30, H⟩ := ZI H
        have c30b0 : decide (x28_2 < (x7_2.length : Int)) = true := decide_eq_true c30
        clear c30
        obtain ⟨y335, hy335⟩ : ∃ y_ : List Int, y_ = (x7_2.set (x28_2 : Int).toNat t333) := ⟨_, rfl⟩
        replace H : (exact_NatAdd.l0 k2 x5_4 x6_4 y335 t334 (x5_4.length : Int) (wrap64 (x28_2 + 1))) = some r := ZH hy335 H
        have Ny335 := Aside0.mk hy335
        clear hy335
        have H' := Aside0.mk H
        clear H
        obtain ⟨Ao32, co32, eo32⟩ := Kd.R_slice HO_6.out
        subst eo32
        have p332 : 0 ≤ (x28_2 : Int) := of_decide_eq_true ZD
        have q332 : x28_2 < (x5_4.length : Int) := of_decide_eq_true ZD
        obtain ⟨ad332, e332, hx332_0⟩ := Kd.at_int (Kd.R_reads' HO_5.out).2.2 x28_2 p332 q332
        cases e332
        replace p332 := eq_true p332
        replace q332 := eq_true q332
        go_wp2_with (first | ((with_reducible refine gate_callee (f := 75) rfl ?_); refine goesXL_ (some 48) rfl rfl Try.func75 (by kernel_rfl) #[.int .u64 (rd x5_4 x28_2), .int .u64 0, .int .u64 x8_2] rfl ZA ?_; (with_reducible refine (bits_Add64.calls (rd x5_4 x28_2) 0 x8_2 t333 t334 _ A29.out).mono ?_); rintro e w' ⟨rfl, ⟨nd, rfl⟩⟩; refine ⟨_, rfl, ?_⟩; (try (rw [drewN_self wr]; generalize hq_ : World.drewN wr _ = wr; have n0_ : Aside0 (Kd.R (Kd.int .u64) 49 wr w.heap.size (fun k_ => some k_ ≠ (.slice Ao32 x6_4.length co32 : Value).ownBlock ∧ some k_ ≠ (v325 : Value).ownBlock) (.slice (some ad332) x5_4.length co14) x5_4) := ⟨by rw [← hq_]; exact (ZR HO_5.out)⟩; have n1_ : Aside0 (Kd.R (Kd.int .u64) 49 wr w.heap.size (fun k_ => some k_ ≠ (.slice (some ad332) x5_4.length co14 : Value).ownBlock ∧ some k_ ≠ (v325 : Value).ownBlock) (.slice Ao32 x6_4.length co32) x6_4) := ⟨by rw [← hq_]; exact (ZR HO_6.out)⟩; have n2_ : Aside0 (Kd.R (Kd.int .u64) 49 wr w.heap.size (fun k_ => some k_ ≠ (.slice (some ad332) x5_4.length co14 : Value).ownBlock ∧ some k_ ≠ (.slice Ao32 x6_4.length co32 : Value).ownBlock) v325 x7_2) := ⟨by rw [← hq_]; exact (ZR HO_7.out)⟩; have n3_ : Aside0 (Below w.heap.size w wr) := ⟨by rw [← hq_]; exact ZB⟩; clear HO_5 HO_6 HO_7 HB hq_; have HO_5 := n0_; have HO_6 := n1_; have HO_7 := n2_; have HB := n3_; clear n0_ n1_ n2_ n3_)); have p31 : 0 ≤ (x28_2 : Int) := of_decide_eq_true ZD; have q31 : (x28_2 : Int) < ((x7_2.length : Int) : Int) := of_decide_eq_true ZD; obtain ⟨go31, co31, eo31, gb31, gl31, cl31, HG31⟩ := Kd.R_form HO_7.out (by omega); (first | cases eo31 | (injection eo31 with ea_ en_ ec_; (first | subst ea_ | (injection ea_ with ea_; subst ea_)); subst ec_; clear en_)); have GB31 := Aside0.mk gb31; have GG31 := Aside0.mk HG31; clear gb31 gl31 HG31; obtain ⟨hx31_0, hf31_0⟩ := Kd.R_celln 0 HO_7.out (x28_2 : Int) p31 q31; (try simp only [Int.toNat_natCast] at hx31_0 hf31_0); replace p31 := eq_true p31; replace q31 := eq_true q31; obtain ⟨hy33_, hz33_⟩ := Kd.R_celln 0 HO_7.out (x28_2 : Int) (of_decide_eq_true ZD) (of_decide_eq_true ZD); (try simp only [Int.toNat_natCast] at hy33_ hz33_); have HP33 := Kd.R_putg HO_7.out (x28_2 : Int) t333) | ((with_reducible refine gate_store (t := 49) (p := 51) rfl ?_); refine store_event (t := 49) (p := 51) (v := ?vo_w34) (w1 := (wr.setCell ⟨go31, (x28_2 : Int).toNat, none⟩ (.int .u64 t333))) ?hg ?ho ?hn ?hr ?_; (case ho => rfl); (case hg => rfl); (case hn => rfl); (case hr => first | (go_simp; done) | (go_simp; rfl)); intro w34 hw; have hg : wr.grownBy w34 (some go31) := (by rw [hw]; exact HP33.2); have hp_ : Kd.R (Kd.int .u64) 49 w34 w.heap.size (fun k_ => some k_ ≠ (.slice (some ad332) x5_4.length co14 : Value).ownBlock ∧ some k_ ≠ (.slice Ao32 x6_4.length co32 : Value).ownBlock) (.slice (some ⟨go31, 0, none⟩) x7_2.length co31) y335 := (by rw [hw, Ny335.out]; exact HP33.1); clear HP33; replace HO_5 := Aside0.mk (Kd.R_after (v := (.slice (some ⟨go31, 0, none⟩) x7_2.length co31)) (v1 := (.slice (some ⟨go31, 0, none⟩) x7_2.length co31)) (ok := (fun k_ => some k_ ≠ (.slice Ao32 x6_4.length co32 : Value).ownBlock)) (ZR HO_5.out) hg (.inl rfl)); replace HO_6 := Aside0.mk (Kd.R_after (v := (.slice (some ⟨go31, 0, none⟩) x7_2.length co31)) (v1 := (.slice (some ⟨go31, 0, none⟩) x7_2.length co31)) (ok := (fun k_ => some k_ ≠ (.slice (some ad332) x5_4.length co14 : Value).ownBlock)) (ZR HO_6.out) hg (.inl rfl)); replace HO_7 := Aside0.mk (hp_); replace HB := Aside0.mk ((by rw [hw]; exact below_set (HB.out) GB31.out : Below w.heap.size w w34)); clear hg hw hp_))
        go_roundg k2
        case measure => have := HJ4.out; have := HK2.out; omega
        case rel => exact ⟨(y335), (t334), (wrap64 (x28_2 + 1)), ZS, ZS, H', ⟨by have := HJ4.out; have := HK2.out; omega⟩, ⟨by (with_reducible repeat (first | apply Kd.R_alloc | apply Kd.R_drewN | apply Kd.R_drew)); exact HO_5.out⟩, ⟨by (with_reducible repeat (first | apply Kd.R_alloc | apply Kd.R_drewN | apply Kd.R_drew)); exact HO_6.out⟩, ⟨by (with_reducible repeat (first | apply Kd.R_alloc | apply Kd.R_drewN | apply Kd.R_drew)); exact HO_7.out⟩, ⟨ZB⟩⟩
      ·rw [if_neg c17] at H
       have c17b0 : decide (x28_2 < (x5_4.length : Int)) = false := decide_eq_false c17
       clear c17
       obtain ⟨c35, H⟩ := ZI H
       have c35b0 : decide (0 ≤ (x5_4.length : Int)) = true := decide_eq_true c35
       have c35b1 : decide (0 ≤ x5_4.length) = true := decide_eq_true (by omega)
       clear c35
       obtain ⟨c36, H⟩ := ZI H
       have c36b0 : decide ((x5_4.length : Int) < (x7_2.length : Int)) = true := decide_eq_true c36
       have c36b1 : decide (x5_4.length < x7_2.length) = true := decide_eq_true (Int.ofNat_lt.mp c36)
       clear c36
       obtain ⟨y336, hy336⟩ : ∃ y_ : List Int, y_ = (x7_2.set ((x5_4.length : Int) : Int).toNat x8_2) := ⟨_, rfl⟩
       replace H : ((exact_pack.f k2 y336).bind fun t337 => (some t337)) = some r := ZH hy336 H
       have Ny336 := Aside0.mk hy336
       clear hy336
       obtain ⟨t337, A38, H⟩ := ZO H
       obtain rfl := Option.some.inj H
       have p37 : 0 ≤ ((x5_4.length : Int) : Int) := of_decide_eq_true ZD
       have q37 : ((x5_4.length : Int) : Int) < ((x7_2.length : Int) : Int) := of_decide_eq_true ZD
       obtain ⟨go37, co37, eo37, gb37, gl37, cl37, HG37⟩ := Kd.R_form HO_7.out (by omega)
       (first | cases eo37 | (injection eo37 with ea_ en_ ec_; (first | subst ea_ | (injection ea_ with ea_; subst ea_)); subst ec_; clear en_))
       have GB37 := Aside0.mk gb37
       have GG37 := Aside0.mk HG37
       clear gb37 gl37 HG37
       obtain ⟨hx37_0, hf37_0⟩ := Kd.R_celln 0 HO_7.out ((x5_4.length : Int) : Int) p37 q37; (try simp only [Int.toNat_natCast] at hx37_0 hf37_0)
       replace p37 := eq_true p37
       replace q37 := eq_true q37
       have HP39 := Kd.R_putg HO_7.out ((x5_4.length : Int) : Int) x8_2
       go_wp2_with (first | ((with_reducible refine gate_store (t := 49) (p := 57) rfl ?_); refine store_event (t := 49) (p := 57) (v := ?vo_w40) (w1 := (wr.setCell ⟨go37, x5_4.length, none⟩ (.int .u64 x8_2))) ?hg ?ho ?hn ?hr ?_; (case ho => rfl); (case hg => rfl); (case hn => rfl); (case hr => first | (go_simp; done) | (go_simp; rfl)); intro w40 hw; have hg : wr.grownBy w40 (some go37) := (by rw [hw]; exact HP39.2); have hp_ : Kd.R (Kd.int .u64) 49 w40 w.heap.size (fun k_ => some k_ ≠ (.slice Ao14 x5_4.length co14 : Value).ownBlock ∧ some k_ ≠ (u6 : Value).ownBlock) (.slice (some ⟨go37, 0, none⟩) x7_2.length co37) y336 := (by rw [hw, Ny336.out]; exact HP39.1); clear HP39; replace HO_5 := Aside0.mk (Kd.R_after (v := (.slice (some ⟨go37, 0, none⟩) x7_2.length co37)) (v1 := (.slice (some ⟨go37, 0, none⟩) x7_2.length co37)) (ok := (fun k_ => some k_ ≠ (u6 : Value).ownBlock)) (ZR HO_5.out) hg (.inl rfl)); replace HO_6 := Aside0.mk (Kd.R_after (v := (.slice (some ⟨go37, 0, none⟩) x7_2.length co37)) (v1 := (.slice (some ⟨go37, 0, none⟩) x7_2.length co37)) (ok := (fun k_ => some k_ ≠ (.slice Ao14 x5_4.length co14 : Value).ownBlock)) (ZR HO_6.out) hg (.inl rfl)); replace HO_7 := Aside0.mk (hp_); replace HB := Aside0.mk ((by rw [hw]; exact below_set (HB.out) GB37.out : Below w.heap.size w w40)); clear hg hw hp_) | ((with_reducible refine gate_callee (f := 71) rfl ?_); refine goesL_ (some 59) rfl rfl Try.func71 (by kernel_rfl) rfl #[.slice (some ⟨go37, 0, none⟩) x7_2.length co37] rfl ZA ?_; (with_reducible refine (exact_pack.calls k2 (fun k_ => some k_ = (.slice (some ⟨go37, 0, none⟩) x7_2.length co37 : Value).ownBlock) (.slice (some ⟨go37, 0, none⟩) x7_2.length co37) y336 t337 w _ ?side1 ?side2 A38.out).mono ?_); (case side1 => repeat (first | (with_reducible first | exact HB.out | apply below_alloc | apply pw_below_drewN | apply below_drew1) | exact HB.out)); (case side2 => exact Kd.R_tight rfl HO_7.out); rintro e w41 ⟨rfl, hb, hkp⟩; refine ⟨_, rfl, ?_⟩; replace HO_5 := Aside0.mk (Kd.R_mono (ok' := fun k_ => some k_ ≠ (u6 : Value).ownBlock) (Kd.R_keptB (HO_5.out) hkp (fun k_ hk_ hs_ => (hk_.2) hs_)) (fun k_ hk_ => hk_.1.1)); replace HO_6 := Aside0.mk (Kd.R_mono (ok' := fun k_ => some k_ ≠ (.slice Ao14 x5_4.length co14 : Value).ownBlock) (Kd.R_keptB (HO_6.out) hkp (fun k_ hk_ hs_ => (hk_.2) hs_)) (fun k_ hk_ => hk_.1.1)); replace HB := Aside0.mk (hb); clear HO_7; (try clear hb); (try clear hkp)))
       go_ret
       exact ⟨by first | rfl | (simp [errW_none, errW_some] <;> rfl) | (simp only [← hji11]; first | rfl | (simp [errW_none, errW_some] <;> rfl)) | (simp [*, errW_none, errW_some] <;> rfl), ZB⟩
   ·rw [if_neg c12] at H
    exact absurd H (by simp)
def exact_NatCmp.j0 : Nat → ByteArray → ByteArray → Bool → Option (Int)
 | 0, _, _, _ => none
 | k + 1, x0, x1, x5 => if x5 = true then (some (-1)) else (if x0.toList = x1.toList then (some 0) else (some 1))
def exact_NatCmp.f (k : Nat) (a0 : ByteArray) (a1 : ByteArray) : Option (Int) := if (a0.size : Int) < (a1.size : Int) then (exact_NatCmp.j0 k a0 a1 true) else (if (a0.size : Int) = (a1.size : Int) then (exact_NatCmp.j0 k a0 a1 (Op.bytesLess a0.toList a1.toList)) else (exact_NatCmp.j0 k a0 a1 false))
theorem exact_NatCmp.U1 {g : Prop} (h : g := by
 repeat' first
 | (with_reducible exact ih0 _ _ _)
 | (with_reducible exact LeO.refl _)
 | (with_reducible exact LeO.none _)
 | (with_reducible refine LeO.ite ?_ ?_)
 | (with_reducible refine LeO.bind ?_ (fun _ => ?_))) : g := h
theorem exact_NatCmp.mono_l : ∀ k, (∀ y0 y1 y2, LeO (exact_NatCmp.j0 k y0 y1 y2) (exact_NatCmp.j0 (k + 1) y0 y1 y2))
 | 0 => fun _ _ _ r h => by simp [exact_NatCmp.j0] at h
 | k + 1 => by
  have ih0 := exact_NatCmp.mono_l k
  ·intro y0 y1 y2
   unfold exact_NatCmp.j0
   exact exact_NatCmp.U1
theorem exact_NatCmp.mono : ∀ a0 a1 k, LeO (exact_NatCmp.f k a0 a1) (exact_NatCmp.f (k + 1) a0 a1) := by
 intro a0 a1 k
 have ih0 := exact_NatCmp.mono_l k
 unfold exact_NatCmp.f
 exact exact_NatCmp.U1
theorem exact_NatCmp.M1 {g : Prop} (h : g := by
 have H' := Aside0.mk H
 clear H
 go_wp2
 go_meet
 case rel => exact ⟨_, _, ZS, H', ⟨ZN⟩, by repeat (first | exact Drawn0.refl _ | apply Drawn0.step)⟩) : g := h
theorem exact_NatCmp.M2 {g : Prop} (h : g := by
 go_wp2
 go_ret
 exact ⟨by first | rfl | (simp; done) | (simp [*]; done), by repeat (first | exact Drawn0.refl _ | apply Drawn0.step)⟩) : g := h
set_option maxHeartbeats 8000000 in
set_option maxRecDepth 100000 in
theorem exact_NatCmp.calls (k : Nat) (a0 : ByteArray) (a1 : ByteArray) (r : Int) (w : World) (h : exact_NatCmp.f k a0 a1 = some r) :
  Calls Try.prog 64 #[.string a0, .string a1] w fun e w' => e = .returned (.int .i64 r) ∧ Drawn0 w w' := by
 have H := h
 unfold exact_NatCmp.f at H
 clear h
 have HC3 := Aside0.mk H
 clear H
 go_enter Try.func64, Try.ntmps64
 go_upto_region 1 with (fail)
 go_cut [5] (fun v5 wc => ∃ (kq : Nat) (x5_2 : Bool), v5 = .bool x5_2 ∧ Aside0 (exact_NatCmp.j0 kq a0 a1 x5_2 = some r) ∧ Aside0 (kq ≤ k) ∧ Drawn0 w wc)
 case first =>
  have H := HC3.out
  clear HC3
  by_cases c4 : (a0.size : Int) < (a1.size : Int)
  ·rw [if_pos c4] at H
   have c4b0 : decide ((a0.size : Int) < (a1.size : Int)) = true := decide_eq_true c4
   have c4b1 : decide (a0.size < a1.size) = true := decide_eq_true (Int.ofNat_lt.mp c4)
   clear c4
   (first | rw [c4b0] | rw [c4b1] | (simp only [i64_w, i32_w]; rw [c4b0]) | skip)
   exact exact_NatCmp.M1
  ·rw [if_neg c4] at H
   have c4b0 : decide ((a0.size : Int) < (a1.size : Int)) = false := decide_eq_false c4
   have c4b1 : decide (a0.size < a1.size) = false := decide_eq_false (fun h => c4 (Int.ofNat_lt.mpr h))
   clear c4
   (first | rw [c4b0] | rw [c4b1] | (simp only [i64_w, i32_w]; rw [c4b0]) | skip)
   by_cases c5 : (a0.size : Int) = (a1.size : Int)
   ·rw [if_pos c5] at H
    have c5b0 : ((a0.size : Int) == (a1.size : Int)) = true := beq_iff_eq.mpr c5
    have c5b1 : ((a0.size : Int) != (a1.size : Int)) = false := bne_eq_false_iff_eq.mpr c5
    have c5b2 : (a0.size == a1.size) = true := by first | simpa using c5 | (simp at c5 ⊢; omega)
    clear c5
    exact exact_NatCmp.M1
   ·rw [if_neg c5] at H
    have c5b0 : ((a0.size : Int) == (a1.size : Int)) = false := beq_eq_false_iff_ne.mpr c5
    have c5b1 : ((a0.size : Int) != (a1.size : Int)) = true := bne_iff_ne.mpr c5
    have c5b2 : (a0.size == a1.size) = false := by first | simpa using c5 | (simp at c5 ⊢; omega)
    exact exact_NatCmp.M1
 case rest =>
  clear HC3
  obtain ⟨kq, x5_2, rfl, HA, HJ2, ⟨mc2, rfl⟩⟩ := hcut
  cases kq with
  | zero => exact absurd HA.out (by simp [exact_NatCmp.j0])
  | succ kj2 =>
   have H := HA.out
   clear HA
   simp only [exact_NatCmp.j0] at H
   by_cases c6 : x5_2 = true
   ·subst c6
    rw [if_pos rfl] at H
    obtain rfl := Option.some.inj H
    exact exact_NatCmp.M2
   ·replace c6 := Bool.eq_false_iff.mpr c6
    subst c6
    rw [if_neg Bool.false_ne_true] at H
    by_cases c7 : a0.toList = a1.toList
    ·rw [if_pos c7] at H
     have c7b0 : (a0.toList == a1.toList) = true := beq_iff_eq.mpr c7
     have c7b1 : (a0.toList != a1.toList) = false := bne_eq_false_iff_eq.mpr c7
     clear c7
     obtain rfl := Option.some.inj H
     exact exact_NatCmp.M2
    ·rw [if_neg c7] at H
     have c7b0 : (a0.toList == a1.toList) = false := beq_eq_false_iff_ne.mpr c7
     have c7b1 : (a0.toList != a1.toList) = true := bne_iff_ne.mpr c7
     obtain rfl := Option.some.inj H
     go_wp2
     go_ret
     exact ⟨by first | rfl | (simp; done) | (simp [*]; done), by repeat (first | exact Drawn0.refl _ | apply Drawn0.step)⟩
end Go.Proofs.Ytohkmnbnjacfaaa.All
namespace Go.Proofs.Ytohkmnbnjacfaaa.All
open Go.Proofs.YtohkmnbnjacfaaaX
open Go.RowKit Go.Proofs.YtohkmnbnjacfaaaW.PrintWords Go.Proofs.YtohkmnbnjacfaaaW.PrintLast Go.Proofs.YtohkmnbnjacfaaaW.PrintMore
attribute [local go_sem] max2_int min2_int max_two min_two max_three min_three max_four min_four
set_option linter.unusedVariables false
set_option linter.unusedSimpArgs false
def exact_NatTwo.f (a0 : Int) : Option (ByteArray) := if 0 ≤ (wrap64 ((wrap64 (Int.tdiv a0 8)) + 1)) then (if (wrap64 ((wrap64 (Int.tdiv a0 8)) + 1) : Int).toNat ≤ 281474976710656 then ((some (List.replicate (wrap64 ((wrap64 (Int.tdiv a0 8)) + 1) : Int).toNat 0 : List Int)).bind fun y338 => (if 0 ≤ (Int.tmod a0 8) then (if 0 < (y338.length : Int) then (some (strOfNums (y338.set (0 : Int).toNat (shl .u8 1 (Int.tmod a0 8))))) else (none)) else (none))) else (none)) else (none)
set_option maxHeartbeats 8000000 in
set_option maxRecDepth 100000 in
theorem exact_NatTwo.calls (a0 : Int) (r : ByteArray) (w : World) (h : exact_NatTwo.f a0 = some r) :
  Calls Try.prog 74 #[.int .i64 a0] w fun e w' => e = .returned (.string r) ∧ Below w.heap.size w w' := by
 have HB := Aside0.mk (Below.refl w.heap.size w)
 have H := h
 unfold exact_NatTwo.f at H
 clear h
 obtain ⟨ji2, hji2⟩ : ∃ j_ : Int, (wrap64 ((wrap64 (Int.tdiv a0 8)) + 1)) = j_ := ⟨_, rfl⟩
 (first | rw [hji2] at H | simp only [hji2] at H)
 have hji2w : (IntKind.i64.wrap ((wrap64 (Int.tdiv a0 8)) + 1)) = ji2 := (i64_w _).trans hji2
 by_cases c3 : 0 ≤ (ji2)
 ·rw [if_pos c3] at H
  have c3b0 := eq_true c3
  have c3b1 : decide (0 ≤ (ji2)) = true := decide_eq_true c3
  clear c3
  obtain ⟨c4, H⟩ := ZI H
  have c4b0 := eq_true c4
  have c4b1 : decide ((ji2 : Int).toNat ≤ 281474976710656) = true := decide_eq_true c4
  clear c4
  obtain ⟨y338, hy338⟩ : ∃ y_ : List Int, y_ = (List.replicate (ji2 : Int).toNat 0) := ⟨_, rfl⟩
  replace H : (if 0 ≤ (Int.tmod a0 8) then (if 0 < (y338.length : Int) then (some (strOfNums (y338.set (0 : Int).toNat (shl .u8 1 (Int.tmod a0 8))))) else (none)) else (none)) = some r := ZH hy338 H
  have Ny338 := Aside0.mk hy338
  clear hy338
  obtain ⟨ji5, hji5⟩ : ∃ j_ : Int, (Int.tmod a0 8) = j_ := ⟨_, rfl⟩
  (first | rw [hji5] at H | simp only [hji5] at H)
  obtain ⟨c6, H⟩ := ZI H
  have c6b0 := eq_true c6
  have c6b1 : decide (0 ≤ (ji5)) = true := decide_eq_true c6
  clear c6
  obtain ⟨ji7, hji7⟩ : ∃ j_ : Int, (shl .u8 1 (ji5)) = j_ := ⟨_, rfl⟩
  (first | rw [hji7] at H | simp only [hji7] at H)
  have hji7_ : (IntKind.u8.wrap (1 * 2 ^ min (ji5).toNat 8)) = ji7 := hji7
  have hji7z : (ji5) ≤ 8 → (IntKind.u8.wrap (1 * 2 ^ (ji5).toNat)) = ji7 := shl_small hji7
  have hji7u : (IntKind.u8.wrap (2 ^ min (ji5).toNat 8)) = ji7 := by have h_ := hji7_; rw [Int.one_mul] at h_; exact h_
  have hji7v : (ji5) ≤ 8 → (IntKind.u8.wrap (2 ^ (ji5).toNat)) = ji7 := fun hle_ => by have h_ := hji7z hle_; rw [Int.one_mul] at h_; exact h_
  obtain ⟨c8, H⟩ := ZI H
  have c8b0 : decide (0 < (y338.length : Int)) = true := decide_eq_true c8
  have c8b1 : decide (0 < y338.length) = true := decide_eq_true (by omega)
  clear c8
  obtain ⟨y341, hy341⟩ : ∃ y_ : List Int, y_ = (y338.set (0 : Int).toNat (ji7)) := ⟨_, rfl⟩
  replace H : (some (strOfNums y341)) = some r := ZH hy341 H
  have Ny341 := Aside0.mk hy341
  clear hy341
  obtain rfl := Option.some.inj H
  go_enter Try.func74, Try.ntmps74
  go_wp2_with (first | ((with_reducible refine gate_dst (N := 7) rfl ?_); refine Kd.R_make (Kd.int .u8) _ 5 rfl (N := 7) rfl 75 _ _ rfl ji2 rfl rfl Try.underlying75 (.int .u8 0) 1 info5 rfl (by decide) (by omega) 0 (ok := fun _ => True) (okp := fun _ => True) rfl (fun _ hk => hk) trivial (of_decide_eq_true ZD) (Nat.le_trans (Nat.mul_le_mul_right _ (of_decide_eq_true ZD : ji2.toNat ≤ 281474976710656)) (by omega)) (Below.refl _ _) (Nat.le_refl _) ?_; intro v339 w10 ho11 hb hg_ hnew_; clear hg_ hnew_; (first | rw [← Ny338.out] at ho11 | (simp only [Int.reduceToNat] at ho11; rw [← Ny338.out] at ho11)); have HO340 := Aside0.mk (Kd.R_lower ho11 (below_size ZB)); replace HB := Aside0.mk (below_step ZB hb); clear hb ho11; have p9 : 0 ≤ (0 : Int) := (by omega); have q9 : (0 : Int) < ((y338.length : Int) : Int) := of_decide_eq_true ZD; have qi9 : (0 < y338.length) = True := eq_true (by omega); obtain ⟨go9, co9, eo9, gb9, gl9, cl9, HG9⟩ := Kd.R_form HO340.out (by omega); (first | cases eo9 | (injection eo9 with ea_ en_ ec_; (first | subst ea_ | (injection ea_ with ea_; subst ea_)); subst ec_; clear en_)); have GB9 := Aside0.mk gb9; have GG9 := Aside0.mk HG9; clear gb9 gl9 HG9; obtain ⟨hx9_0, hf9_0⟩ := Kd.R_celln 0 HO340.out (0 : Int) p9 q9; (try simp only [Int.toNat_natCast] at hx9_0 hf9_0); (try rw [show ((0 : Int)).toNat = 0 from rfl] at hx9_0); (try simp only [Nat.reduceMul, Nat.zero_mul, Nat.zero_add, Nat.reduceAdd] at hx9_0); (try rw [show ((0 : Int)).toNat = 0 from rfl] at hf9_0); (try simp only [Nat.reduceMul, Nat.zero_mul, Nat.zero_add, Nat.reduceAdd] at hf9_0); replace p9 := eq_true p9; replace q9 := eq_true q9; obtain ⟨hy12_, hz12_⟩ := Kd.R_celln 0 HO340.out (0 : Int) (by omega) (of_decide_eq_true ZD); (try simp only [Int.toNat_natCast] at hy12_ hz12_); (try simp only [Int.reduceToNat, Int.toNat_zero, Int.toNat_ofNat, Nat.reduceMul, Nat.zero_mul, Nat.zero_add] at hy12_ hz12_); (try rw [show ((0 : Int)).toNat = 0 from rfl] at hy12_); (try rw [show ((0 : Int)).toNat = 0 from rfl] at hz12_); have HP12 := Kd.R_putg HO340.out (0 : Int) ji7) | ((with_reducible refine gate_store (t := 5) (p := 12) rfl ?_); refine store_event (t := 5) (p := 12) (v := ?vo_w13) (w1 := (w10.setCell ⟨go9, (0 : Int).toNat, none⟩ (.int .u8 ji7))) ?hg ?ho ?hn ?hr ?_; (case ho => rfl); (case hg => rfl); (case hn => rfl); (case hr => first | (go_simp; done) | (go_simp; rfl)); intro w13 hw; have hg : w10.grownBy w13 (some go9) := (by rw [hw]; exact HP12.2); have hp_ : Kd.R (Kd.int .u8) 5 w13 w.heap.size (fun _ => True) (.slice (some ⟨go9, 0, none⟩) y338.length co9) y341 := (by rw [hw, Ny341.out]; exact HP12.1); clear HP12; replace HO340 := Aside0.mk (hp_); replace HB := Aside0.mk ((by rw [hw]; exact below_set (HB.out) GB9.out : Below w.heap.size w w13)); clear hg hw hp_; have hcv14 := own_string (P := Try.prog) Try.underlying75 Try.underlying5 Try.underlying22 (Kd.own_of_R HO340.out)))
  go_ret
  exact ⟨by first | rfl | (simp [errW_none, errW_some] <;> rfl) | (simp only [← hji2, ← hji5, ← hji7]; first | rfl | (simp [errW_none, errW_some] <;> rfl)) | (simp [*, errW_none, errW_some] <;> rfl), ZB⟩
 ·rw [if_neg c3] at H
  exact absurd H (by simp)
def exact_NatRoot.l0 : Nat → ByteArray → Int → ByteArray → Int → Option (ByteArray)
 | 0, _, _, _, _ => none
 | k + 1, x0, x1, x5, x6 => if x6 ≥ 0 then ((exact_NatTwo.f x6).bind fun t343 => ((exact_NatAdd.f k x5 t343).bind fun t344 => ((exact_NatPow.f k t344 x1).bind fun t345 => ((exact_NatCmp.f k t345 x0).bind fun t346 => (if t346 ≤ 0 then (exact_NatRoot.l0 k x0 x1 t344 (wrap64 (x6 - 1))) else (exact_NatRoot.l0 k x0 x1 x5 (wrap64 (x6 - 1)))))))) else (some x5)
def exact_NatRoot.f (k : Nat) (a0 : ByteArray) (a1 : Int) : Option (ByteArray) := (exact_NatBits.f a0).bind fun t342 => (if a1 = 0 then (none) else (exact_NatRoot.l0 k a0 a1 (⟨#[]⟩ : ByteArray) (wrap64 (Int.tdiv (wrap64 ((wrap64 (t342 + a1)) - 1)) a1))))
theorem exact_NatRoot.U1 {g : Prop} (h : g := by
 repeat' first
 | (with_reducible exact ih0 _ _ _ _)
 | (with_reducible exact exact_NatAdd.mono _ _ _)
 | (with_reducible exact exact_NatCmp.mono _ _ _)
 | (with_reducible exact exact_NatPow.mono _ _ _)
 | (with_reducible exact LeO.refl _)
 | (with_reducible exact LeO.none _)
 | (with_reducible refine LeO.ite ?_ ?_)
 | (with_reducible refine LeO.bind ?_ (fun _ => ?_))) : g := h
theorem exact_NatRoot.mono_l : ∀ k, (∀ y0 y1 y2 y3, LeO (exact_NatRoot.l0 k y0 y1 y2 y3) (exact_NatRoot.l0 (k + 1) y0 y1 y2 y3))
 | 0 => fun _ _ _ _ r h => by simp [exact_NatRoot.l0] at h
 | k + 1 => by
  have ih0 := exact_NatRoot.mono_l k
  ·intro y0 y1 y2 y3
   unfold exact_NatRoot.l0
   exact exact_NatRoot.U1
theorem exact_NatRoot.mono : ∀ a0 a1 k, LeO (exact_NatRoot.f k a0 a1) (exact_NatRoot.f (k + 1) a0 a1) := by
 intro a0 a1 k
 have ih0 := exact_NatRoot.mono_l k
 unfold exact_NatRoot.f
 exact exact_NatRoot.U1
theorem exact_NatRoot.M1 {g : Prop} (h : g := by
 have H' := Aside0.mk H
 clear H
 go_wp2_with (first | ((with_reducible refine gate_callee (f := 74) rfl ?_); refine goesL_ (some 21) rfl rfl Try.func74 (by kernel_rfl) rfl #[.int .i64 x6_1] rfl ZA ?_; (with_reducible refine (exact_NatTwo.calls x6_1 t343 _ A6.out).mono ?_); rintro e w9001 ⟨rfl, hb⟩; refine ⟨_, rfl, ?_⟩; replace HB := Aside0.mk (below_step ZB hb); (try clear hb)) | ((with_reducible refine gate_callee (f := 63) rfl ?_); refine goesL_ (some 22) rfl rfl Try.func63 (by kernel_rfl) rfl #[.string x5_1, .string t343] rfl ZA ?_; (with_reducible refine (exact_NatAdd.calls k1 x5_1 t343 t344 _ A7.out).mono ?_); rintro e w9002 ⟨rfl, hb⟩; refine ⟨_, rfl, ?_⟩; replace HB := Aside0.mk (below_step ZB hb); (try clear hb)) | ((with_reducible refine gate_callee (f := 56) rfl ?_); refine goesL_ (some 25) rfl rfl Try.func56 (by kernel_rfl) rfl #[.string t344, .int .i64 a1] rfl ZA ?_; (with_reducible refine (exact_NatPow.calls k1 t344 a1 t345 _ A8.out).mono ?_); rintro e w9003 ⟨rfl, hb⟩; refine ⟨_, rfl, ?_⟩; replace HB := Aside0.mk (below_step ZB hb); (try clear hb)) | ((with_reducible refine gate_callee (f := 64) rfl ?_); refine goesL_ (some 27) rfl rfl Try.func64 (by kernel_rfl) rfl #[.string t345, .string a0] rfl ZA ?_; (with_reducible refine (exact_NatCmp.calls k1 t345 a0 t346 _ A9.out).mono ?_); rintro e w' ⟨rfl, ⟨nd, rfl⟩⟩; refine ⟨_, rfl, ?_⟩))
 go_roundg k1
 case measure => have := HK1.out; omega
 case rel => exact ⟨_, _, ZS, ZS, H', ⟨by have := HK1.out; omega⟩, ⟨ZB⟩⟩) : g := h
set_option maxHeartbeats 8000000 in
set_option maxRecDepth 100000 in
theorem exact_NatRoot.calls (k : Nat) (a0 : ByteArray) (a1 : Int) (r : ByteArray) (w : World) (h : exact_NatRoot.f k a0 a1 = some r) :
  Calls Try.prog 57 #[.string a0, .int .i64 a1] w fun e w' => e = .returned (.string r) ∧ Below w.heap.size w w' := by
 have HB := Aside0.mk (Below.refl w.heap.size w)
 have H := h
 unfold exact_NatRoot.f at H
 clear h
 obtain ⟨t342, A3, H⟩ := ZO H
 obtain ⟨c4, H⟩ := ZJ H
 have c4b0 : (a1 == 0) = false := beq_eq_false_iff_ne.mpr c4
 have c4b1 : (a1 != 0) = true := bne_iff_ne.mpr c4
 have H' := Aside0.mk H
 clear H
 go_enter Try.func57, Try.ntmps57
 go_wp2_with (first | ((with_reducible refine gate_callee (f := 54) rfl ?_); refine goesL_ (some 9) rfl rfl Try.func54 (by kernel_rfl) rfl #[.string a0] rfl ZA ?_; (with_reducible refine (exact_NatBits.calls a0 t342 _ A3.out).mono ?_); rintro e w' ⟨rfl, ⟨nd, rfl⟩⟩; refine ⟨_, rfl, ?_⟩))
 go_loopg [5, 6] k (fun kq v5 v6 w' => ∃ (x5_1 : ByteArray) (x6_1 : Int), v5 = .string x5_1 ∧ v6 = .int .i64 x6_1 ∧ Aside0 (exact_NatRoot.l0 kq a0 a1 x5_1 x6_1 = some r) ∧ Aside0 (kq ≤ k) ∧ Aside0 (Below w.heap.size w w'))
 case atStart => exact ⟨((⟨#[]⟩ : ByteArray)), (wrap64 (Int.tdiv (wrap64 ((wrap64 (t342 + a1)) - 1)) a1)), ZS, ZS, H', ⟨Nat.le_refl _⟩, ⟨ZB⟩⟩
 case round =>
  clear H'
  try clear c4
  try clear c4b0
  try clear c4b1
  obtain ⟨x5_1, x6_1, rfl, rfl, HA, HK1, HB⟩ := hrel
  cases gk with
  | zero => exact absurd HA.out (by simp [exact_NatRoot.l0])
  | succ k1 =>
   have H := HA.out
   clear HA
   simp only [exact_NatRoot.l0] at H
   by_cases c5 : x6_1 ≥ 0
   ·rw [if_pos c5] at H
    have c5b0 : decide (0 ≤ x6_1) = true := decide_eq_true c5
    clear c5
    obtain ⟨t343, A6, H⟩ := ZO H
    obtain ⟨t344, A7, H⟩ := ZO H
    obtain ⟨t345, A8, H⟩ := ZO H
    obtain ⟨t346, A9, H⟩ := ZO H
    by_cases c10 : t346 ≤ 0
    ·rw [if_pos c10] at H
     have c10b0 : decide (t346 ≤ 0) = true := decide_eq_true c10
     clear c10
     exact exact_NatRoot.M1
    ·rw [if_neg c10] at H
     have c10b0 : decide (t346 ≤ 0) = false := decide_eq_false c10
     clear c10
     exact exact_NatRoot.M1
   ·rw [if_neg c5] at H
    have c5b0 : decide (0 ≤ x6_1) = false := decide_eq_false c5
    clear c5
    obtain rfl := Option.some.inj H
    go_wp2
    go_ret
    exact ⟨ZE, ZB⟩
mutual
def natural_Root.j0 : Nat → ByteArray → Int → Bool → Option (ByteArray × Int)
 | 0, _, _, _ => none
 | k + 1, x0, x1, x18 => if x18 = true then (some ((⟨#[]⟩ : ByteArray), 3)) else (if x0.toList = ([] : List UInt8) then (natural_Root.j1 k x0 x1 false) else ((exact_NatBits.f x0).bind fun t351 => (natural_Root.j1 k x0 x1 (decide (x1 ≥ t351)))))
def natural_Root.j1 : Nat → ByteArray → Int → Bool → Option (ByteArray × Int)
 | 0, _, _, _ => none
 | k + 1, x0, x1, x26 => if x26 = true then ((natural_Of.f 1).bind fun t352 => (some (t352, 0))) else ((exact_NatRoot.f k x0 x1).bind fun t353 => (some (t353, 0)))
end
def natural_Root.f (k : Nat) (a0 : ByteArray) (a1 : Int) : Option (ByteArray × Int) := (natural_first.f k (([a0] : List ByteArray))).bind fun t350 => (if t350 = 0 then (if a1 < 1 then (natural_Root.j0 k a0 a1 true) else (natural_Root.j0 k a0 a1 (decide (a1 > 4096)))) else (some ((⟨#[]⟩ : ByteArray), t350)))
theorem natural_Root.U1 {g : Prop} (h : g := by
 repeat' first
 | (with_reducible exact ih0 _ _ _)
 | (with_reducible exact ih1 _ _ _)
 | (with_reducible exact exact_NatRoot.mono _ _ _)
 | (with_reducible exact natural_first.mono _ _)
 | (with_reducible exact LeO.refl _)
 | (with_reducible exact LeO.none _)
 | (with_reducible refine LeO.ite ?_ ?_)
 | (with_reducible refine LeO.bind ?_ (fun _ => ?_))) : g := h
theorem natural_Root.mono_l : ∀ k, (∀ y0 y1 y2, LeO (natural_Root.j0 k y0 y1 y2) (natural_Root.j0 (k + 1) y0 y1 y2)) ∧ (∀ y0 y1 y2, LeO (natural_Root.j1 k y0 y1 y2) (natural_Root.j1 (k + 1) y0 y1 y2))
 | 0 => ⟨fun _ _ _ r h => by simp [natural_Root.j0] at h, fun _ _ _ r h => by simp [natural_Root.j1] at h⟩
 | k + 1 => by
  obtain ⟨ih0, ih1⟩ := natural_Root.mono_l k
  refine ⟨?_, ?_⟩
  ·intro y0 y1 y2
   unfold natural_Root.j0
   exact natural_Root.U1
  ·intro y0 y1 y2
   unfold natural_Root.j1
   exact natural_Root.U1
theorem natural_Root.mono : ∀ a0 a1 k, LeO (natural_Root.f k a0 a1) (natural_Root.f (k + 1) a0 a1) := by
 intro a0 a1 k
 obtain ⟨ih0, ih1⟩ := natural_Root.mono_l k
 unfold natural_Root.f
 exact natural_Root.U1
theorem natural_Root.M1 {g : Prop} (h : g := by
 have H' := Aside0.mk H
 clear H
 go_wp2
 go_meet
 case rel => exact ⟨_, _, ZS, H', ⟨ZN⟩, ⟨ZB⟩⟩) : g := h
theorem natural_Root.M2 {g : Prop} (h : g := by
 have H' := Aside0.mk H
 clear H
 go_wp2_with (first | (go_at_call 54; (with_reducible refine (exact_NatBits.calls a0 t351 _ A13.out).mono ?_); rintro e w' ⟨rfl, ⟨nd, rfl⟩⟩))
 go_meet
 case rel => exact ⟨_, _, ZS, H', ⟨by have := HJ4.out; first | omega | exact Nat.le_refl _⟩, ⟨ZB⟩⟩) : g := h
set_option maxHeartbeats 8000000 in
set_option maxRecDepth 100000 in
theorem natural_Root.calls (k : Nat) (a0 : ByteArray) (a1 : Int) (r1 : ByteArray) (r2 : Int) (w : World) (h : natural_Root.f k a0 a1 = some (r1, r2)) :
  Calls Try.prog 21 #[.string a0, .int .i64 a1] w fun e w' => e = .returned (.tuple #[.string r1, .int .i64 r2]) ∧ Below w.heap.size w w' := by
 have HB := Aside0.mk (Below.refl w.heap.size w)
 have H := h
 unfold natural_Root.f at H
 clear h
 generalize hy347 : (([a0] : List ByteArray)) = y347 at H
 have Ny347 := Aside0.mk hy347.symm
 clear hy347
 obtain ⟨t350, A3, H⟩ := ZO H
 by_cases c4 : t350 = 0
 ·rw [if_pos c4] at H
  have c4b0 : (t350 == 0) = true := beq_iff_eq.mpr c4
  have c4b1 : (t350 != 0) = false := bne_eq_false_iff_eq.mpr c4
  clear c4
  have HC5 := Aside0.mk H
  clear H
  go_enter Try.func21, Try.ntmps21
  go_upto_region 4 with (first | ((with_reducible refine gate_dst (N := 8) rfl ?_); refine Kd.R_lit Kd.string _ 22 ?hg (N := 8) ?hd (xs := ([a0] : List ByteArray)) (inner := [.string a0]) (ok := fun _ => True) (okp := fun _ => True) ?hr ?hp (fun _ hk => hk) trivial (Below.refl _ _) (Nat.le_refl _) (by simp) ?_; (case hd => rfl); (case hg => rfl); (case hr => first | (go_simp; done) | (go_simp; rfl)); (case hp => exact (Reps.one (show Kd.M Kd.string _ _ _ a0 [.string a0] from rfl) (Reps.none _ _))); intro v348 w6 ho7 hb hg_ hnew_; clear hg_ hnew_; (first | rw [← Ny347.out] at ho7 | (simp only [Int.reduceToNat] at ho7; rw [← Ny347.out] at ho7)); have HO349 := Aside0.mk (Kd.R_lower ho7 (below_size ZB)); replace HB := Aside0.mk (below_step ZB hb); clear hb ho7; obtain ⟨Ao8, co8, eo8⟩ := Kd.R_slice HO349.out; subst eo8) | ((with_reducible refine gate_callee (f := 47) rfl ?_); refine goesL_ (some 9) rfl rfl Try.func47 (by kernel_rfl) rfl #[.slice Ao8 y347.length co8] rfl ZA ?_; (with_reducible refine (natural_first.calls k _ _ y347 t350 _ ?side1 ?side2 A3.out).mono ?_); (case side1 => exact ZC (Kd.R_reads' HO349.out).2.2); (case side2 => exact (Kd.R_reads' HO349.out).2.1); rintro e w' ⟨rfl, ⟨nd, rfl⟩⟩; refine ⟨_, rfl, ?_⟩))
  (try simp only [Act.put, List.setIfInBounds_toArray, List.set_cons_zero, List.set_cons_succ])
  go_cut [18] (fun v18 wc => ∃ (kq : Nat) (x18_4 : Bool), v18 = .bool x18_4 ∧ Aside0 (natural_Root.j0 kq a0 a1 x18_4 = some (r1, r2)) ∧ Aside0 (kq ≤ k) ∧ Aside0 (Below w.heap.size w wc))
  case first =>
   have H := HC5.out
   clear HC5
   by_cases c9 : a1 < 1
   ·rw [if_pos c9] at H
    have c9b0 : decide (a1 < 1) = true := decide_eq_true c9
    clear c9
    (first | rw [c9b0] | rw [c9b1] | (simp only [i64_w, i32_w]; rw [c9b0]) | skip)
    exact natural_Root.M1
   ·rw [if_neg c9] at H
    have c9b0 : decide (a1 < 1) = false := decide_eq_false c9
    clear c9
    (first | rw [c9b0] | rw [c9b1] | (simp only [i64_w, i32_w]; rw [c9b0]) | skip)
    exact natural_Root.M1
  case rest =>
   clear HC5
   try clear c4
   try clear c4b0
   try clear c4b1
   obtain ⟨kq, x18_4, rfl, HA, HJ4, HB⟩ := hcut
   cases kq with
   | zero => exact absurd HA.out (by simp [natural_Root.j0])
   | succ kj4 =>
    have H := HA.out
    clear HA
    simp only [natural_Root.j0] at H
    by_cases c10 : x18_4 = true
    ·subst c10
     rw [if_pos rfl] at H
     simp only [Option.some.injEq, Prod.mk.injEq] at H
     obtain ⟨rfl, rfl⟩ := H
     go_wp2
     go_ret2
     exact ⟨ZE, ZB⟩
    ·replace c10 := Bool.eq_false_iff.mpr c10
     subst c10
     rw [if_neg Bool.false_ne_true] at H
     have HC11 := Aside0.mk H
     clear H
     go_upto_region 6 with (fail)
     go_cut [26] (fun v26 wc => ∃ (kq : Nat) (x26_10 : Bool), v26 = .bool x26_10 ∧ Aside0 (natural_Root.j1 kq a0 a1 x26_10 = some (r1, r2)) ∧ Aside0 (kq ≤ kj4) ∧ Aside0 (Below w.heap.size w wc))
     case first =>
      have H := HC11.out
      clear HC11
      by_cases c12 : a0.toList = ([] : List UInt8)
      ·rw [if_pos c12] at H
       have c12b0 : (a0.toList == ([] : List UInt8)) = true := beq_iff_eq.mpr c12
       have c12b1 : (a0.toList != ([] : List UInt8)) = false := bne_eq_false_iff_eq.mpr c12
       clear c12
       (first | rw [c12b0] | rw [c12b1] | (simp only [i64_w, i32_w]; rw [c12b0]) | skip)
       exact natural_Root.M2
      ·rw [if_neg c12] at H
       have c12b0 : (a0.toList == ([] : List UInt8)) = false := beq_eq_false_iff_ne.mpr c12
       have c12b1 : (a0.toList != ([] : List UInt8)) = true := bne_iff_ne.mpr c12
       (first | rw [c12b0] | rw [c12b1] | (simp only [i64_w, i32_w]; rw [c12b0]) | skip)
       obtain ⟨t351, A13, H⟩ := ZO H
       exact natural_Root.M2
     case rest =>
      clear HC11
      try clear c10
      obtain ⟨kq, x26_10, rfl, HA, HJ10, HB⟩ := hcut
      cases kq with
      | zero => exact absurd HA.out (by simp [natural_Root.j1])
      | succ kj10 =>
       have H := HA.out
       clear HA
       simp only [natural_Root.j1] at H
       by_cases c14 : x26_10 = true
       ·subst c14
        rw [if_pos rfl] at H
        obtain ⟨t352, A15, H⟩ := ZO H
        simp only [Option.some.injEq, Prod.mk.injEq] at H
        obtain ⟨rfl, rfl⟩ := H
        go_wp2_with (first | ((with_reducible refine gate_callee (f := 30) rfl ?_); refine goesL_ (some 27) rfl rfl Try.func30 (by kernel_rfl) rfl #[.int .u64 1] rfl ZA ?_; (with_reducible refine (natural_Of.calls 1 t352 _ A15.out).mono ?_); rintro e w16 ⟨rfl, hb⟩; refine ⟨_, rfl, ?_⟩; replace HB := Aside0.mk (below_step ZB hb); (try clear hb)))
        go_ret2
        exact ⟨ZE, ZB⟩
       ·replace c14 := Bool.eq_false_iff.mpr c14
        subst c14
        rw [if_neg Bool.false_ne_true] at H
        obtain ⟨t353, A17, H⟩ := ZO H
        simp only [Option.some.injEq, Prod.mk.injEq] at H
        obtain ⟨rfl, rfl⟩ := H
        go_wp2_with (first | ((with_reducible refine gate_callee (f := 57) rfl ?_); refine goesL_ (some 30) rfl rfl Try.func57 (by kernel_rfl) rfl #[.string a0, .int .i64 a1] rfl ZA ?_; (with_reducible refine (exact_NatRoot.calls kj10 a0 a1 t353 _ A17.out).mono ?_); rintro e w18 ⟨rfl, hb⟩; refine ⟨_, rfl, ?_⟩; replace HB := Aside0.mk (below_step ZB hb); (try clear hb)))
        go_ret2
        exact ⟨ZE, ZB⟩
 ·rw [if_neg c4] at H
  have c4b0 : (t350 == 0) = false := beq_eq_false_iff_ne.mpr c4
  have c4b1 : (t350 != 0) = true := bne_iff_ne.mpr c4
  simp only [Option.some.injEq, Prod.mk.injEq] at H
  obtain ⟨rfl, rfl⟩ := H
  go_enter Try.func21, Try.ntmps21
  go_wp2_with (first | ((with_reducible refine gate_dst (N := 8) rfl ?_); refine Kd.R_lit Kd.string _ 22 ?hg (N := 8) ?hd (xs := ([a0] : List ByteArray)) (inner := [.string a0]) (ok := fun _ => True) (okp := fun _ => True) ?hr ?hp (fun _ hk => hk) trivial (Below.refl _ _) (Nat.le_refl _) (by simp) ?_; (case hd => rfl); (case hg => rfl); (case hr => first | (go_simp; done) | (go_simp; rfl)); (case hp => exact (Reps.one (show Kd.M Kd.string _ _ _ a0 [.string a0] from rfl) (Reps.none _ _))); intro v348 w19 ho20 hb hg_ hnew_; clear hg_ hnew_; (first | rw [← Ny347.out] at ho20 | (simp only [Int.reduceToNat] at ho20; rw [← Ny347.out] at ho20)); have HO349 := Aside0.mk (Kd.R_lower ho20 (below_size ZB)); replace HB := Aside0.mk (below_step ZB hb); clear hb ho20; obtain ⟨Ao21, co21, eo21⟩ := Kd.R_slice HO349.out; subst eo21) | ((with_reducible refine gate_callee (f := 47) rfl ?_); refine goesL_ (some 9) rfl rfl Try.func47 (by kernel_rfl) rfl #[.slice Ao21 y347.length co21] rfl ZA ?_; (with_reducible refine (natural_first.calls k _ _ y347 t350 _ ?side1 ?side2 A3.out).mono ?_); (case side1 => exact ZC (Kd.R_reads' HO349.out).2.2); (case side2 => exact (Kd.R_reads' HO349.out).2.1); rintro e w' ⟨rfl, ⟨nd, rfl⟩⟩; refine ⟨_, rfl, ?_⟩))
  go_ret2
  exact ⟨ZE, ZB⟩
mutual
def galoisref01_pack.l0 : Nat → List Int → List Int → Int → Option (ByteArray)
 | 0, _, _, _ => none
 | k + 1, x0, x3, x4 => if x4 ≥ 0 then (galoisref01_pack.l1 k x0 x3 x4 24) else (some (strOfNums x3))
def galoisref01_pack.l1 : Nat → List Int → List Int → Int → Int → Option (ByteArray)
 | 0, _, _, _, _ => none
 | k + 1, x0, x3, x4, x5 => if x5 ≥ 0 then (if 0 ≤ x4 then (if x4 < (x0.length : Int) then (if 0 ≤ x5 then (if (x3.length : Int) > 0 then (if x3.length < 140737488355328 then (galoisref01_pack.l1 k x0 (x3 ++ [(shr .u64 (rd x0 x4) x5) % 256]) x4 (wrap64 (x5 - 8))) else (none)) else (if ((shr .u64 (rd x0 x4) x5) % 256) > 0 then (if x3.length < 140737488355328 then (galoisref01_pack.l1 k x0 (x3 ++ [(shr .u64 (rd x0 x4) x5) % 256]) x4 (wrap64 (x5 - 8))) else (none)) else (galoisref01_pack.l1 k x0 x3 x4 (wrap64 (x5 - 8))))) else (none)) else (none)) else (none)) else (galoisref01_pack.l0 k x0 x3 (wrap64 (x4 - 1)))
end
def galoisref01_pack.f (k : Nat) (l0 : List Int) : Option (ByteArray) := galoisref01_pack.l0 k l0 ([] : List Int) (wrap64 ((l0.length : Int) - 1))
theorem galoisref01_pack.U1 {g : Prop} (h : g := by
 repeat' first
 | (with_reducible exact ih0 _ _ _)
 | (with_reducible exact ih1 _ _ _ _)
 | (with_reducible exact LeO.refl _)
 | (with_reducible exact LeO.none _)
 | (with_reducible refine LeO.ite ?_ ?_)
 | (with_reducible refine LeO.bind ?_ (fun _ => ?_))) : g := h
theorem galoisref01_pack.mono_l : ∀ k, (∀ y0 y1 y2, LeO (galoisref01_pack.l0 k y0 y1 y2) (galoisref01_pack.l0 (k + 1) y0 y1 y2)) ∧ (∀ y0 y1 y2 y3, LeO (galoisref01_pack.l1 k y0 y1 y2 y3) (galoisref01_pack.l1 (k + 1) y0 y1 y2 y3))
 | 0 => ⟨fun _ _ _ r h => by simp [galoisref01_pack.l0] at h, fun _ _ _ _ r h => by simp [galoisref01_pack.l1] at h⟩
 | k + 1 => by
  obtain ⟨ih0, ih1⟩ := galoisref01_pack.mono_l k
  refine ⟨?_, ?_⟩
  ·intro y0 y1 y2
   unfold galoisref01_pack.l0
   exact galoisref01_pack.U1
  ·intro y0 y1 y2 y3
   unfold galoisref01_pack.l1
   exact galoisref01_pack.U1
theorem galoisref01_pack.mono : ∀ a0 k, LeO (galoisref01_pack.f k a0) (galoisref01_pack.f (k + 1) a0) := by
 intro a0 k
 obtain ⟨ih0, ih1⟩ := galoisref01_pack.mono_l k
 unfold galoisref01_pack.f
 exact galoisref01_pack.U1
set_option maxHeartbeats 8000000 in
set_option maxRecDepth 100000 in
theorem galoisref01_pack.calls (k : Nat) (A0 : Option Addr) (c0 : Nat) (l0 : List Int) (r : ByteArray) (w : World) (hr0 : Kd.C (Kd.int .u64) w A0 l0.length l0) (hc0 : l0.length ≤ c0) (h : galoisref01_pack.f k l0 = some r) :
  Calls Try.prog 53 #[.slice A0 l0.length c0] w fun e w' => e = .returned (.string r) ∧ Below w.heap.size w w' := by
 have HR0 := Aside0.mk hr0
 have HC0 := Aside0.mk hc0
 clear hr0 hc0
 have HB := Aside0.mk (Below.refl w.heap.size w)
 have H := h
 unfold galoisref01_pack.f at H
 clear h
 have H' := Aside0.mk H
 clear H
 go_enter Try.func53, Try.ntmps53
 go_wp2
 go_loopg [3, 4] k (fun kq v3 v4 w' => ∃ (x3_1 : List Int) (x4_1 : Int), v4 = .int .i64 x4_1 ∧ Aside0 (galoisref01_pack.l0 kq l0 x3_1 x4_1 = some r) ∧ Aside0 (kq ≤ k) ∧ Aside0 (Kd.R (Kd.int .u8) 5 w' w.heap.size (fun _ => True) v3 x3_1) ∧ Aside0 (Below w.heap.size w w'))
 case atStart => exact ⟨(([] : List Int)), (wrap64 ((l0.length : Int) - 1)), ZS, H', ⟨Nat.le_refl _⟩, ⟨by first | exact Kd.R_nil _ _ _ _ _ | exact Kd.N_nil _ _ _ _ _ | exact Kd.V_nil _ _ _ _ _ | exact Kd.Q_nil _ _ _ _ _ | exact Kd.S_nil _ _ _ _ _⟩, ⟨ZB⟩⟩
 case round =>
  clear H'
  obtain ⟨x3_1, x4_1, rfl, HA, HK1, HO_3, HB⟩ := hrel
  cases gk with
  | zero => exact absurd HA.out (by simp [galoisref01_pack.l0])
  | succ k1 =>
   have H := HA.out
   clear HA
   simp only [galoisref01_pack.l0] at H
   by_cases c2 : x4_1 ≥ 0
   ·rw [if_pos c2] at H
    have c2b0 : decide (0 ≤ x4_1) = true := decide_eq_true c2
    clear c2
    have H' := Aside0.mk H
    clear H
    go_wp2
    go_loopg [3, 5] k1 (fun kq v3 v5 w' => ∃ (x3_2 : List Int) (x5_2 : Int), v5 = .int .i64 x5_2 ∧ Aside0 (galoisref01_pack.l1 kq l0 x3_2 x4_1 x5_2 = some r) ∧ Aside0 (kq ≤ k1) ∧ Aside0 (Kd.R (Kd.int .u8) 5 w' w.heap.size (fun _ => True) v3 x3_2) ∧ Aside0 (Below w.heap.size w w'))
    case atStart => exact ⟨(x3_1), (24), ZS, H', ⟨Nat.le_refl _⟩, ⟨by (with_reducible repeat (first | apply Kd.R_alloc | apply Kd.R_drewN | apply Kd.R_drew)); exact HO_3.out⟩, ⟨ZB⟩⟩
    case round =>
     clear H'
     try clear c2
     try clear c2b0
     obtain ⟨x3_2, x5_2, rfl, HA, HK2, HO_3, HB⟩ := hrel
     cases gk with
     | zero => exact absurd HA.out (by simp [galoisref01_pack.l1])
     | succ k2 =>
      have H := HA.out
      clear HA
      simp only [galoisref01_pack.l1] at H
      by_cases c3 : x5_2 ≥ 0
      ·rw [if_pos c3] at H
       have c3b0 : decide (0 ≤ x5_2) = true := decide_eq_true c3
       clear c3
       obtain ⟨c4, H⟩ := ZI H
       have c4b0 : decide (0 ≤ x4_1) = true := decide_eq_true c4
       clear c4
       obtain ⟨c5, H⟩ := ZI H
       have c5b0 : decide (x4_1 < (l0.length : Int)) = true := decide_eq_true c5
       clear c5
       obtain ⟨c6, H⟩ := ZI H
       have c6b0 := eq_true c6
       have c6b1 : decide (0 ≤ x5_2) = true := decide_eq_true c6
       clear c6
       obtain ⟨ji7, hji7⟩ : ∃ j_ : Int, (shr .u64 (rd l0 x4_1) x5_2) = j_ := ⟨_, rfl⟩
       (first | rw [hji7] at H | simp only [hji7] at H)
       have hji7_ : ((rd l0 x4_1) / 2 ^ min x5_2.toNat 64) = ji7 := hji7
       have hji7z : x5_2 ≤ 64 → ((rd l0 x4_1) / 2 ^ x5_2.toNat) = ji7 := shr_small hji7
       by_cases c8 : (x3_2.length : Int) > 0
       ·rw [if_pos c8] at H
        have c8b0 : decide (0 < (x3_2.length : Int)) = true := decide_eq_true c8
        have c8b1 : decide (0 < x3_2.length) = true := decide_eq_true (by omega)
        clear c8
        obtain ⟨c9, H⟩ := ZI H
        have LMc9 := Aside0.mk c9
        clear c9
        obtain ⟨y355, hy355⟩ : ∃ y_ : List Int, y_ = (x3_2 ++ [(ji7) % 256]) := ⟨_, rfl⟩
        replace H : (galoisref01_pack.l1 k2 l0 y355 x4_1 (wrap64 (x5_2 - 8))) = some r := ZH hy355 H
        have Ny355 := Aside0.mk hy355
        clear hy355
        have H' := Aside0.mk H
        clear H
        have p354 : 0 ≤ (x4_1 : Int) := of_decide_eq_true ZD
        have q354 : x4_1 < (l0.length : Int) := of_decide_eq_true ZD
        obtain ⟨ad354, e354, hx354_0⟩ := Kd.at_int HR0.out x4_1 p354 q354
        cases e354
        replace hx354_0 := (HB.out.cell (World.block_lt_of_cell? w _ hx354_0)).trans hx354_0
        replace p354 := eq_true p354
        replace q354 := eq_true q354
        obtain ⟨Ao10, co10, eo10⟩ := Kd.R_slice HO_3.out
        subst eo10
        go_wp2_with (first | ((with_reducible refine gate_builtin (b := .append) (xs := #[.tmp 32, .tmp 34]) rfl ?_); at_builtin; refine Kd.R_append (Kd.int .u8) (w0 := w) w.heap.size rfl (.tmp 32) (.tmp 34) 75 5 (.int .u8 0) 1 rfl Try.underlying75 info5 rfl (by decide) (by omega) (.slice Ao10 x3_2.length co10) x3_2 ((ji7) % 256) [.int .u8 ((ji7) % 256)] (fun _ => True) (fun _ => False) rfl rfl ?aP (fun _ hk => hk.elim) ?aF ?aO ?aB ?aS ?aL ?_; (case aP => exact rfl); (case aB => exact ZB); (case aF => exact (fun _ _ => trivial)); (case aO => exact (ZR HO_3.out)); (case aS => exact (below_size ZB)); (case aL => have := LMc9.out; omega); intro v356 w11 ho hb hg hat; rw [← Ny355.out] at ho; replace HB := Aside0.mk (hb); have HO357 := Aside0.mk (ho); clear HO_3; clear ho hb hg hat))
        go_roundg k2
        case measure => have := HK1.out; have := HK2.out; omega
        case rel => exact ⟨(y355), (wrap64 (x5_2 - 8)), ZS, H', ⟨by have := HK1.out; have := HK2.out; omega⟩, ⟨by (with_reducible repeat (first | apply Kd.R_alloc | apply Kd.R_drewN | apply Kd.R_drew)); exact HO357.out⟩, ⟨ZB⟩⟩
       ·rw [if_neg c8] at H
        have c8b0 : decide (0 < (x3_2.length : Int)) = false := decide_eq_false c8
        have c8b1 : decide (0 < x3_2.length) = false := decide_eq_false (by omega)
        clear c8
        by_cases c12 : ((ji7) % 256) > 0
        ·rw [if_pos c12] at H
         have c12b0 : decide (0 < ((ji7) % 256)) = true := decide_eq_true c12
         clear c12
         obtain ⟨c13, H⟩ := ZI H
         have LMc13 := Aside0.mk c13
         clear c13
         obtain ⟨y358, hy358⟩ : ∃ y_ : List Int, y_ = (x3_2 ++ [(ji7) % 256]) := ⟨_, rfl⟩
         replace H : (galoisref01_pack.l1 k2 l0 y358 x4_1 (wrap64 (x5_2 - 8))) = some r := ZH hy358 H
         have Ny358 := Aside0.mk hy358
         clear hy358
         have H' := Aside0.mk H
         clear H
         have p354 : 0 ≤ (x4_1 : Int) := of_decide_eq_true ZD
         have q354 : x4_1 < (l0.length : Int) := of_decide_eq_true ZD
         obtain ⟨ad354, e354, hx354_0⟩ := Kd.at_int HR0.out x4_1 p354 q354
         cases e354
         replace hx354_0 := (HB.out.cell (World.block_lt_of_cell? w _ hx354_0)).trans hx354_0
         replace p354 := eq_true p354
         replace q354 := eq_true q354
         obtain ⟨Ao14, co14, eo14⟩ := Kd.R_slice HO_3.out
         subst eo14
         go_wp2_with (first | ((with_reducible refine gate_builtin (b := .append) (xs := #[.tmp 32, .tmp 34]) rfl ?_); at_builtin; refine Kd.R_append (Kd.int .u8) (w0 := w) w.heap.size rfl (.tmp 32) (.tmp 34) 75 5 (.int .u8 0) 1 rfl Try.underlying75 info5 rfl (by decide) (by omega) (.slice Ao14 x3_2.length co14) x3_2 ((ji7) % 256) [.int .u8 ((ji7) % 256)] (fun _ => True) (fun _ => False) rfl rfl ?aP (fun _ hk => hk.elim) ?aF ?aO ?aB ?aS ?aL ?_; (case aP => exact rfl); (case aB => exact ZB); (case aF => exact (fun _ _ => trivial)); (case aO => exact (ZR HO_3.out)); (case aS => exact (below_size ZB)); (case aL => have := LMc13.out; omega); intro v359 w15 ho hb hg hat; rw [← Ny358.out] at ho; replace HB := Aside0.mk (hb); have HO360 := Aside0.mk (ho); clear HO_3; clear ho hb hg hat))
         go_roundg k2
         case measure => have := HK1.out; have := HK2.out; omega
         case rel => exact ⟨(y358), (wrap64 (x5_2 - 8)), ZS, H', ⟨by have := HK1.out; have := HK2.out; omega⟩, ⟨by (with_reducible repeat (first | apply Kd.R_alloc | apply Kd.R_drewN | apply Kd.R_drew)); exact HO360.out⟩, ⟨ZB⟩⟩
        ·rw [if_neg c12] at H
         have c12b0 : decide (0 < ((ji7) % 256)) = false := decide_eq_false c12
         clear c12
         have H' := Aside0.mk H
         clear H
         have p354 : 0 ≤ (x4_1 : Int) := of_decide_eq_true ZD
         have q354 : x4_1 < (l0.length : Int) := of_decide_eq_true ZD
         obtain ⟨ad354, e354, hx354_0⟩ := Kd.at_int HR0.out x4_1 p354 q354
         cases e354
         replace hx354_0 := (HB.out.cell (World.block_lt_of_cell? w _ hx354_0)).trans hx354_0
         replace p354 := eq_true p354
         replace q354 := eq_true q354
         obtain ⟨Ao16, co16, eo16⟩ := Kd.R_slice HO_3.out
         subst eo16
         go_wp2
         go_roundg k2
         case measure => have := HK1.out; have := HK2.out; omega
         case rel => exact ⟨(x3_2), (wrap64 (x5_2 - 8)), ZS, H', ⟨by have := HK1.out; have := HK2.out; omega⟩, ⟨by (with_reducible repeat (first | apply Kd.R_alloc | apply Kd.R_drewN | apply Kd.R_drew)); exact HO_3.out⟩, ⟨ZB⟩⟩
      ·rw [if_neg c3] at H
       have c3b0 : decide (0 ≤ x5_2) = false := decide_eq_false c3
       clear c3
       have H' := Aside0.mk H
       clear H
       go_wp2
       go_roundg k2
       case measure => have := HK1.out; have := HK2.out; omega
       case rel => exact ⟨(x3_2), (wrap64 (x4_1 - 1)), ZS, H', ⟨by have := HK1.out; have := HK2.out; omega⟩, ⟨by (with_reducible repeat (first | apply Kd.R_alloc | apply Kd.R_drewN | apply Kd.R_drew)); exact HO_3.out⟩, ⟨ZB⟩⟩
   ·rw [if_neg c2] at H
    have c2b0 : decide (0 ≤ x4_1) = false := decide_eq_false c2
    clear c2
    obtain rfl := Option.some.inj H
    have hcv17 := own_string (P := Try.prog) Try.underlying75 Try.underlying5 Try.underlying9 (Kd.own_of_R HO_3.out)
    go_wp2
    go_ret
    exact ⟨ZE, ZB⟩
def galoisref01_Of.f (k : Nat) (a0 : Int) : Option (ByteArray) := (galoisref01_pack.f k (([Go.bits .and .u64 a0 4294967295, a0 / 4294967296] : List Int))).bind fun t364 => (some t364)
theorem galoisref01_Of.mono : ∀ a0 k, LeO (galoisref01_Of.f k a0) (galoisref01_Of.f (k + 1) a0) := by
 intro a0 k
 unfold galoisref01_Of.f
 repeat' first
   | (with_reducible exact galoisref01_pack.mono _ _)
   | (with_reducible exact LeO.refl _)
   | (with_reducible exact LeO.none _)
   | (with_reducible refine LeO.ite ?_ ?_)
   | (with_reducible refine LeO.bind ?_ (fun _ => ?_))
set_option maxHeartbeats 8000000 in
set_option maxRecDepth 100000 in
theorem galoisref01_Of.calls (k : Nat) (a0 : Int) (r : ByteArray) (w : World) (h : galoisref01_Of.f k a0 = some r) :
  Calls Try.prog 33 #[.int .u64 a0] w fun e w' => e = .returned (.string r) ∧ Below w.heap.size w w' := by
 have HB := Aside0.mk (Below.refl w.heap.size w)
 have H := h
 unfold galoisref01_Of.f at H
 clear h
 generalize hy361 : (([Go.bits .and .u64 a0 4294967295, a0 / 4294967296] : List Int)) = y361 at H
 have Ny361 := Aside0.mk hy361.symm
 clear hy361
 obtain ⟨t364, A2, H⟩ := ZO H
 obtain rfl := Option.some.inj H
 go_enter Try.func33, Try.ntmps33
 go_wp2_with (first | ((with_reducible refine gate_dst (N := 7) rfl ?_); refine Kd.R_lit (Kd.int .u64) _ 49 ?hg (N := 7) ?hd (xs := ([Go.bits .and .u64 a0 4294967295, a0 / 4294967296] : List Int)) (inner := [.int .u64 (Go.bits .and .u64 a0 4294967295), .int .u64 (a0 / 4294967296)]) (ok := fun _ => True) (okp := fun _ => True) ?hr ?hp (fun _ hk => hk) trivial (Below.refl _ _) (Nat.le_refl _) (by simp) ?_; (case hd => rfl); (case hg => rfl); (case hr => first | (go_simp; done) | (go_simp; rfl)); (case hp => exact (Reps.one (show Kd.M (Kd.int .u64) _ _ _ (Go.bits .and .u64 a0 4294967295) [.int .u64 (Go.bits .and .u64 a0 4294967295)] from rfl) (Reps.one (show Kd.M (Kd.int .u64) _ _ _ (a0 / 4294967296) [.int .u64 (a0 / 4294967296)] from rfl) (Reps.none _ _)))); intro v362 w3 ho4 hb hg_ hnew_; clear hg_ hnew_; (first | rw [← Ny361.out] at ho4 | (simp only [Int.reduceToNat] at ho4; rw [← Ny361.out] at ho4)); have HO363 := Aside0.mk (Kd.R_lower ho4 (below_size ZB)); replace HB := Aside0.mk (below_step ZB hb); clear hb ho4; obtain ⟨Ao5, co5, eo5⟩ := Kd.R_slice HO363.out; subst eo5) | ((with_reducible refine gate_callee (f := 53) rfl ?_); refine goesL_ (some 8) rfl rfl Try.func53 (by kernel_rfl) rfl #[.slice Ao5 y361.length co5] rfl ZA ?_; (with_reducible refine (galoisref01_pack.calls k _ _ y361 t364 _ ?side1 ?side2 A2.out).mono ?_); (case side1 => exact ZC (Kd.R_reads' HO363.out).2.2); (case side2 => exact (Kd.R_reads' HO363.out).2.1); rintro e w6 ⟨rfl, hb⟩; refine ⟨_, rfl, ?_⟩; replace HO363 := Aside0.mk (Kd.R_below (ZR HO363.out) hb); replace HB := Aside0.mk (below_step ZB hb); (try clear hb)))
 go_ret
 exact ⟨ZE, ZB⟩
def galoisref01_FromInt.f (k : Nat) (a0 : Int) : Option (ByteArray) := (galoisref01_Of.f k (IntKind.u64.wrap (a0))).bind fun t365 => (some t365)
theorem galoisref01_FromInt.mono : ∀ a0 k, LeO (galoisref01_FromInt.f k a0) (galoisref01_FromInt.f (k + 1) a0) := by
 intro a0 k
 unfold galoisref01_FromInt.f
 repeat' first
   | (with_reducible exact galoisref01_Of.mono _ _)
   | (with_reducible exact LeO.refl _)
   | (with_reducible exact LeO.none _)
   | (with_reducible refine LeO.ite ?_ ?_)
   | (with_reducible refine LeO.bind ?_ (fun _ => ?_))
set_option maxHeartbeats 8000000 in
set_option maxRecDepth 100000 in
theorem galoisref01_FromInt.calls (k : Nat) (a0 : Int) (r : ByteArray) (w : World) (h : galoisref01_FromInt.f k a0 = some r) :
  Calls Try.prog 59 #[.int .i64 a0] w fun e w' => e = .returned (.string r) ∧ Below w.heap.size w w' := by
 have HB := Aside0.mk (Below.refl w.heap.size w)
 have H := h
 unfold galoisref01_FromInt.f at H
 clear h
 obtain ⟨t365, A2, H⟩ := ZO H
 obtain rfl := Option.some.inj H
 go_enter Try.func59, Try.ntmps59
 go_wp2_with (first | ((with_reducible refine gate_callee (f := 33) rfl ?_); refine goesL_ (some 5) rfl rfl Try.func33 (by kernel_rfl) rfl #[.int .u64 (IntKind.u64.wrap (a0))] rfl ZA ?_; (with_reducible refine (galoisref01_Of.calls k (IntKind.u64.wrap (a0)) t365 _ A2.out).mono ?_); rintro e w3 ⟨rfl, hb⟩; refine ⟨_, rfl, ?_⟩; replace HB := Aside0.mk (below_step ZB hb); (try clear hb)))
 go_ret
 exact ⟨ZE, ZB⟩
def galoislaw01_nat.f (k : Nat) (a0 : Int) : Option (ByteArray) := (galoisref01_FromInt.f k a0).bind fun t366 => (some t366)
theorem galoislaw01_nat.mono : ∀ a0 k, LeO (galoislaw01_nat.f k a0) (galoislaw01_nat.f (k + 1) a0) := by
 intro a0 k
 unfold galoislaw01_nat.f
 repeat' first
   | (with_reducible exact galoisref01_FromInt.mono _ _)
   | (with_reducible exact LeO.refl _)
   | (with_reducible exact LeO.none _)
   | (with_reducible refine LeO.ite ?_ ?_)
   | (with_reducible refine LeO.bind ?_ (fun _ => ?_))
set_option maxHeartbeats 8000000 in
set_option maxRecDepth 100000 in
theorem galoislaw01_nat.calls (k : Nat) (a0 : Int) (r : ByteArray) (w : World) (h : galoislaw01_nat.f k a0 = some r) :
  Calls Try.prog 27 #[.int .i64 a0] w fun e w' => e = .returned (.string r) ∧ Below w.heap.size w w' := by
 have HB := Aside0.mk (Below.refl w.heap.size w)
 have H := h
 unfold galoislaw01_nat.f at H
 clear h
 obtain ⟨t366, A2, H⟩ := ZO H
 obtain rfl := Option.some.inj H
 go_enter Try.func27, Try.ntmps27
 go_wp2_with (first | ((with_reducible refine gate_callee (f := 59) rfl ?_); refine goesL_ (some 4) rfl rfl Try.func59 (by kernel_rfl) rfl #[.int .i64 a0] rfl ZA ?_; (with_reducible refine (galoisref01_FromInt.calls k a0 t366 _ A2.out).mono ?_); rintro e w3 ⟨rfl, hb⟩; refine ⟨_, rfl, ?_⟩; replace HB := Aside0.mk (below_step ZB hb); (try clear hb)))
 go_ret
 exact ⟨ZE, ZB⟩
end Go.Proofs.Ytohkmnbnjacfaaa.All
namespace Go.Proofs.Ytohkmnbnjacfaaa.All
open Go.Proofs.YtohkmnbnjacfaaaX
open Go.RowKit Go.Proofs.YtohkmnbnjacfaaaW.PrintWords Go.Proofs.YtohkmnbnjacfaaaW.PrintLast Go.Proofs.YtohkmnbnjacfaaaW.PrintMore
attribute [local go_sem] max2_int min2_int max_two min_two max_three min_three max_four min_four
set_option linter.unusedVariables false
set_option linter.unusedSimpArgs false
def exact_NatSub.l0 : Nat → List Int → List Int → Int → Int → Int → Option (ByteArray)
 | 0, _, _, _, _, _ => none
 | k + 1, x5, x6, x7, x15, x16 => if x16 < x15 then (if x16 < (x6.length : Int) then (if 0 ≤ x16 then (if x16 < (x5.length : Int) then ((bits_Sub64.f (rd x5 x16) (rd x6 x16) x7).bind fun bt375 => (exact_NatSub.l0 k (x5.set (x16 : Int).toNat bt375.1) x6 bt375.2 x15 (wrap64 (x16 + 1)))) else (none)) else (none)) else (if 0 ≤ x16 then (if x16 < (x5.length : Int) then ((bits_Sub64.f (rd x5 x16) 0 x7).bind fun bt379 => (exact_NatSub.l0 k (x5.set (x16 : Int).toNat bt379.1) x6 bt379.2 x15 (wrap64 (x16 + 1)))) else (none)) else (none))) else ((exact_pack.f k x5).bind fun t382 => (some t382))
def exact_NatSub.f (k : Nat) (a0 : ByteArray) (a1 : ByteArray) : Option (ByteArray) := (exact_words.f k a0).bind fun t367 => ((exact_words.f k a1).bind fun t370 => (exact_NatSub.l0 k t367 t370 0 (t367.length : Int) 0))
theorem exact_NatSub.U1 {g : Prop} (h : g := by
 repeat' first
 | (with_reducible exact ih0 _ _ _ _ _)
 | (with_reducible exact exact_pack.mono _ _)
 | (with_reducible exact exact_words.mono _ _)
 | (with_reducible exact LeO.refl _)
 | (with_reducible exact LeO.none _)
 | (with_reducible refine LeO.ite ?_ ?_)
 | (with_reducible refine LeO.bind ?_ (fun _ => ?_))) : g := h
theorem exact_NatSub.mono_l : ∀ k, (∀ y0 y1 y2 y3 y4, LeO (exact_NatSub.l0 k y0 y1 y2 y3 y4) (exact_NatSub.l0 (k + 1) y0 y1 y2 y3 y4))
 | 0 => fun _ _ _ _ _ r h => by simp [exact_NatSub.l0] at h
 | k + 1 => by
  have ih0 := exact_NatSub.mono_l k
  ·intro y0 y1 y2 y3 y4
   unfold exact_NatSub.l0
   exact exact_NatSub.U1
theorem exact_NatSub.mono : ∀ a0 a1 k, LeO (exact_NatSub.f k a0 a1) (exact_NatSub.f (k + 1) a0 a1) := by
 intro a0 a1 k
 have ih0 := exact_NatSub.mono_l k
 unfold exact_NatSub.f
 exact exact_NatSub.U1
set_option maxHeartbeats 8000000 in
set_option maxRecDepth 100000 in
theorem exact_NatSub.calls (k : Nat) (a0 : ByteArray) (a1 : ByteArray) (r : ByteArray) (w : World) (h : exact_NatSub.f k a0 a1 = some r) :
  Calls Try.prog 65 #[.string a0, .string a1] w fun e w' => e = .returned (.string r) ∧ Below w.heap.size w w' := by
 have HB := Aside0.mk (Below.refl w.heap.size w)
 have H := h
 unfold exact_NatSub.f at H
 clear h
 obtain ⟨t367, A3, H⟩ := ZO H
 obtain ⟨t370, A4, H⟩ := ZO H
 have H' := Aside0.mk H
 clear H
 go_enter Try.func65, Try.ntmps65
 go_wp2_with (first | ((with_reducible refine gate_callee (f := 70) rfl ?_); refine goesL_ (some 11) rfl rfl Try.func70 (by kernel_rfl) rfl #[.string a0] rfl ZA ?_; (with_reducible refine (exact_words.calls k a0 t367 _ A3.out).mono ?_); rintro e w5 ⟨v368, rfl, ho0, hb⟩; refine ⟨_, rfl, ?_⟩; have HO369 := Aside0.mk (Kd.R_lower ho0 (below_size ZB)); replace HB := Aside0.mk (below_step ZB hb); (try clear hb); (try clear ho0)) | ((with_reducible refine gate_callee (f := 70) rfl ?_); refine goesL_ (some 13) rfl rfl Try.func70 (by kernel_rfl) rfl #[.string a1] rfl ZA ?_; (with_reducible refine (exact_words.calls k a1 t370 _ A4.out).mono ?_); rintro e w6 ⟨v371, rfl, ho0, hb⟩; refine ⟨_, rfl, ?_⟩; have HO372 := Aside0.mk (Kd.R_lower (Kd.R_new' ho0 (Kd.R_lt (ZR HO369.out))) (below_size ZB)); replace HO369 := Aside0.mk (Kd.R_elder' (ZR HO369.out) (Kd.R_base ho0) hb); replace HB := Aside0.mk (below_step ZB hb); (try clear hb); (try clear ho0); obtain ⟨Ao7, co7, eo7⟩ := Kd.R_slice HO369.out; subst eo7))
 go_loopg [7, 16] k (fun kq v7 v16 w' => ∃ (x5_1 : List Int) (x7_1 : Int) (x16_1 : Int), v7 = .int .u64 x7_1 ∧ v16 = .int .i64 x16_1 ∧ Aside0 (exact_NatSub.l0 kq x5_1 t370 x7_1 (t367.length : Int) x16_1 = some r) ∧ Aside0 (kq ≤ k) ∧ Aside0 (Kd.R (Kd.int .u64) 49 w' w.heap.size (fun k_ => some k_ ≠ (v371 : Value).ownBlock) (.slice Ao7 t367.length co7) x5_1) ∧ Aside0 (Kd.R (Kd.int .u64) 49 w' w.heap.size (fun k_ => some k_ ≠ ((.slice Ao7 t367.length co7) : Value).ownBlock) v371 t370) ∧ Aside0 (Below w.heap.size w w'))
 case atStart => exact ⟨(t367), (0), (0), ZS, ZS, H', ⟨Nat.le_refl _⟩, ⟨by (with_reducible repeat (first | apply Kd.R_alloc | apply Kd.R_drewN | apply Kd.R_drew)); exact Kd.R_mono HO369.out (fun _ hk => hk.2)⟩, ⟨by (with_reducible repeat (first | apply Kd.R_alloc | apply Kd.R_drewN | apply Kd.R_drew)); exact Kd.R_mono HO372.out (fun _ hk => hk.2)⟩, ⟨ZB⟩⟩
 case round =>
  clear H'
  obtain ⟨x5_1, x7_1, x16_1, rfl, rfl, HA, HK1, HO_5, HO_6, HB⟩ := hrel
  have hl5_1 := (Kd.R_reads' HO_5.out).1
  rw [hl5_1] at HO_5
  (try simp only [hl5_1])
  (try simp only [hl5_1] at HO_6)
  cases gk with
  | zero => exact absurd HA.out (by simp [exact_NatSub.l0])
  | succ k1 =>
   have H := HA.out
   clear HA
   simp only [exact_NatSub.l0] at H
   by_cases c8 : x16_1 < (t367.length : Int)
   ·rw [if_pos c8] at H
    have c8b0 : decide (x16_1 < (t367.length : Int)) = true := decide_eq_true c8
    (try (have c8b0y := c8b0; simp only [hl5_1] at c8b0y))
    clear c8
    by_cases c9 : x16_1 < (t370.length : Int)
    ·rw [if_pos c9] at H
     have c9b0 : decide (x16_1 < (t370.length : Int)) = true := decide_eq_true c9
     (try (have c9b0y := c9b0; simp only [hl5_1] at c9b0y))
     clear c9
     obtain ⟨c10, H⟩ := ZI H
     have c10b0 : decide (0 ≤ x16_1) = true := decide_eq_true c10
     clear c10
     obtain ⟨c11, H⟩ := ZI H
     have c11b0 : decide (x16_1 < (x5_1.length : Int)) = true := decide_eq_true c11
     (try (have c11b0y := c11b0; simp only [hl5_1] at c11b0y))
     clear c11
     obtain ⟨⟨t375, t376⟩, A12, H⟩ := ZO H
     (try dsimp only at H)
     generalize hy377 : (x5_1.set (x16_1 : Int).toNat t375) = y377 at H
     have Ny377 := Aside0.mk hy377.symm
     clear hy377
     have H' := Aside0.mk H
     clear H
     obtain ⟨Ao14, co14, eo14⟩ := Kd.R_slice HO_6.out
     subst eo14
     have p373 : 0 ≤ (x16_1 : Int) := of_decide_eq_true ZD
     have q373 : x16_1 < (t370.length : Int) := of_decide_eq_true ZD
     obtain ⟨ad373, e373, hx373_0⟩ := Kd.at_int (Kd.R_reads' HO_6.out).2.2 x16_1 p373 q373
     cases e373
     replace p373 := eq_true p373
     replace q373 := eq_true q373
     have p374 : 0 ≤ (x16_1 : Int) := of_decide_eq_true ZD
     have q374 : x16_1 < (x5_1.length : Int) := of_decide_eq_true ZD
     obtain ⟨ad374, e374, hx374_0⟩ := Kd.at_int (Kd.R_reads' HO_5.out).2.2 x16_1 p374 q374
     cases e374
     replace p374 := eq_true p374
     replace q374 := eq_true q374
     go_wp2_with (first | ((with_reducible refine gate_callee (f := 76) rfl ?_); refine goesXL_ (some 36) rfl rfl Try.func76 (by kernel_rfl) #[.int .u64 (rd x5_1 x16_1), .int .u64 (rd t370 x16_1), .int .u64 x7_1] rfl ZA ?_; (with_reducible refine (bits_Sub64.calls (rd x5_1 x16_1) (rd t370 x16_1) x7_1 t375 t376 _ A12.out).mono ?_); rintro e w' ⟨rfl, ⟨nd, rfl⟩⟩; refine ⟨_, rfl, ?_⟩; (try (rw [drewN_self wr]; generalize hq_ : World.drewN wr _ = wr; have n0_ : Aside0 (Kd.R (Kd.int .u64) 49 wr w.heap.size (fun k_ => some k_ ≠ (.slice (some ad373) t370.length co14 : Value).ownBlock) (.slice (some ad374) x5_1.length co7) x5_1) := ⟨by rw [← hq_]; exact (ZR HO_5.out)⟩; have n1_ : Aside0 (Kd.R (Kd.int .u64) 49 wr w.heap.size (fun k_ => some k_ ≠ (.slice (some ad374) x5_1.length co7 : Value).ownBlock) (.slice (some ad373) t370.length co14) t370) := ⟨by rw [← hq_]; exact (ZR HO_6.out)⟩; have n2_ : Aside0 (Below w.heap.size w wr) := ⟨by rw [← hq_]; exact ZB⟩; clear HO_5 HO_6 HB hq_; have HO_5 := n0_; have HO_6 := n1_; have HB := n2_; clear n0_ n1_ n2_)); have p13 : 0 ≤ (x16_1 : Int) := of_decide_eq_true ZD; have q13 : (x16_1 : Int) < ((x5_1.length : Int) : Int) := of_decide_eq_true ZD; obtain ⟨go13, co13, eo13, gb13, gl13, cl13, HG13⟩ := Kd.R_form HO_5.out (by omega); (first | cases eo13 | (injection eo13 with ea_ en_ ec_; (first | subst ea_ | (injection ea_ with ea_; subst ea_)); subst ec_; clear en_)); have GB13 := Aside0.mk gb13; have GG13 := Aside0.mk HG13; clear gb13 gl13 HG13; (first | simp only [add_plain] at hx374_0 | skip); obtain ⟨hx13_0, hf13_0⟩ := Kd.R_celln 0 HO_5.out (x16_1 : Int) p13 q13; (try simp only [Int.toNat_natCast] at hx13_0 hf13_0); replace p13 := eq_true p13; replace q13 := eq_true q13; obtain ⟨hy15_, hz15_⟩ := Kd.R_celln 0 HO_5.out (x16_1 : Int) (of_decide_eq_true ZD) (of_decide_eq_true ZD); (try simp only [Int.toNat_natCast] at hy15_ hz15_); have HP15 := Kd.R_putg HO_5.out (x16_1 : Int) t375) | ((with_reducible refine gate_store (t := 49) (p := 39) rfl ?_); refine store_event (t := 49) (p := 39) (v := ?vo_w16) (w1 := (wr.setCell ⟨go13, (x16_1 : Int).toNat, none⟩ (.int .u64 t375))) ?hg ?ho ?hn ?hr ?_; (case ho => rfl); (case hg => rfl); (case hn => rfl); (case hr => first | (go_simp; done) | (go_simp; rfl)); intro w16 hw; have hg : wr.grownBy w16 (some go13) := (by rw [hw]; exact HP15.2); have hp_ : Kd.R (Kd.int .u64) 49 w16 w.heap.size (fun k_ => some k_ ≠ (.slice (some ad373) t370.length co14 : Value).ownBlock) (.slice (some ⟨go13, 0, none⟩) x5_1.length co7) y377 := (by rw [hw, Ny377.out]; exact HP15.1); clear HP15; replace HO_5 := Aside0.mk (hp_); replace HO_6 := Aside0.mk (Kd.R_after (v := (.slice (some ⟨go13, 0, none⟩) x5_1.length co7)) (v1 := (.slice (some ⟨go13, 0, none⟩) x5_1.length co7)) (ok := (fun _ => True)) (by (with_reducible repeat (first | apply Kd.R_alloc | apply Kd.R_drewN | apply Kd.R_drew)); exact Kd.R_mono HO_6.out (fun _ hk => ⟨trivial, hk⟩)) hg (.inl rfl)); replace HB := Aside0.mk ((by rw [hw]; exact below_set (HB.out) GB13.out : Below w.heap.size w w16)); clear hg hw hp_))
     (try simp only [← hl5_1])
     go_roundg k1
     case measure => have := HK1.out; omega
     case rel => exact ⟨(y377), (t376), (wrap64 (x16_1 + 1)), ZS, ZS, H', ⟨by have := HK1.out; omega⟩, ⟨by (try simp only [hl5_1]); (with_reducible repeat (first | apply Kd.R_alloc | apply Kd.R_drewN | apply Kd.R_drew)); exact HO_5.out⟩, ⟨by (try simp only [hl5_1]); (with_reducible repeat (first | apply Kd.R_alloc | apply Kd.R_drewN | apply Kd.R_drew)); exact Kd.R_mono HO_6.out (fun _ hk => hk.2)⟩, ⟨ZB⟩⟩
    ·rw [if_neg c9] at H
     have c9b0 : decide (x16_1 < (t370.length : Int)) = false := decide_eq_false c9
     (try (have c9b0y := c9b0; simp only [hl5_1] at c9b0y))
     clear c9
     obtain ⟨c17, H⟩ := ZI H
     have c17b0 : decide (0 ≤ x16_1) = true := decide_eq_true c17
     clear c17
     obtain ⟨c18, H⟩ := ZI H
     have c18b0 : decide (x16_1 < (x5_1.length : Int)) = true := decide_eq_true c18
     (try (have c18b0y := c18b0; simp only [hl5_1] at c18b0y))
     clear c18
     obtain ⟨⟨t379, t380⟩, A19, H⟩ := ZO H
     (try dsimp only at H)
     generalize hy381 : (x5_1.set (x16_1 : Int).toNat t379) = y381 at H
     have Ny381 := Aside0.mk hy381.symm
     clear hy381
     have H' := Aside0.mk H
     clear H
     obtain ⟨Ao21, co21, eo21⟩ := Kd.R_slice HO_6.out
     subst eo21
     have p378 : 0 ≤ (x16_1 : Int) := of_decide_eq_true ZD
     have q378 : x16_1 < (x5_1.length : Int) := of_decide_eq_true ZD
     obtain ⟨ad378, e378, hx378_0⟩ := Kd.at_int (Kd.R_reads' HO_5.out).2.2 x16_1 p378 q378
     cases e378
     replace p378 := eq_true p378
     replace q378 := eq_true q378
     go_wp2_with (first | ((with_reducible refine gate_callee (f := 76) rfl ?_); refine goesXL_ (some 36) rfl rfl Try.func76 (by kernel_rfl) #[.int .u64 (rd x5_1 x16_1), .int .u64 0, .int .u64 x7_1] rfl ZA ?_; (with_reducible refine (bits_Sub64.calls (rd x5_1 x16_1) 0 x7_1 t379 t380 _ A19.out).mono ?_); rintro e w' ⟨rfl, ⟨nd, rfl⟩⟩; refine ⟨_, rfl, ?_⟩; (try (rw [drewN_self wr]; generalize hq_ : World.drewN wr _ = wr; have n0_ : Aside0 (Kd.R (Kd.int .u64) 49 wr w.heap.size (fun k_ => some k_ ≠ (.slice Ao21 t370.length co21 : Value).ownBlock) (.slice (some ad378) x5_1.length co7) x5_1) := ⟨by rw [← hq_]; exact (ZR HO_5.out)⟩; have n1_ : Aside0 (Kd.R (Kd.int .u64) 49 wr w.heap.size (fun k_ => some k_ ≠ (.slice (some ad378) x5_1.length co7 : Value).ownBlock) (.slice Ao21 t370.length co21) t370) := ⟨by rw [← hq_]; exact (ZR HO_6.out)⟩; have n2_ : Aside0 (Below w.heap.size w wr) := ⟨by rw [← hq_]; exact ZB⟩; clear HO_5 HO_6 HB hq_; have HO_5 := n0_; have HO_6 := n1_; have HB := n2_; clear n0_ n1_ n2_)); have p20 : 0 ≤ (x16_1 : Int) := of_decide_eq_true ZD; have q20 : (x16_1 : Int) < ((x5_1.length : Int) : Int) := of_decide_eq_true ZD; obtain ⟨go20, co20, eo20, gb20, gl20, cl20, HG20⟩ := Kd.R_form HO_5.out (by omega); (first | cases eo20 | (injection eo20 with ea_ en_ ec_; (first | subst ea_ | (injection ea_ with ea_; subst ea_)); subst ec_; clear en_)); have GB20 := Aside0.mk gb20; have GG20 := Aside0.mk HG20; clear gb20 gl20 HG20; (first | simp only [add_plain] at hx378_0 | skip); obtain ⟨hx20_0, hf20_0⟩ := Kd.R_celln 0 HO_5.out (x16_1 : Int) p20 q20; (try simp only [Int.toNat_natCast] at hx20_0 hf20_0); replace p20 := eq_true p20; replace q20 := eq_true q20; obtain ⟨hy22_, hz22_⟩ := Kd.R_celln 0 HO_5.out (x16_1 : Int) (of_decide_eq_true ZD) (of_decide_eq_true ZD); (try simp only [Int.toNat_natCast] at hy22_ hz22_); have HP22 := Kd.R_putg HO_5.out (x16_1 : Int) t379) | ((with_reducible refine gate_store (t := 49) (p := 39) rfl ?_); refine store_event (t := 49) (p := 39) (v := ?vo_w23) (w1 := (wr.setCell ⟨go20, (x16_1 : Int).toNat, none⟩ (.int .u64 t379))) ?hg ?ho ?hn ?hr ?_; (case ho => rfl); (case hg => rfl); (case hn => rfl); (case hr => first | (go_simp; done) | (go_simp; rfl)); intro w23 hw; have hg : wr.grownBy w23 (some go20) := (by rw [hw]; exact HP22.2); have hp_ : Kd.R (Kd.int .u64) 49 w23 w.heap.size (fun k_ => some k_ ≠ (.slice Ao21 t370.length co21 : Value).ownBlock) (.slice (some ⟨go20, 0, none⟩) x5_1.length co7) y381 := (by rw [hw, Ny381.out]; exact HP22.1); clear HP22; replace HO_5 := Aside0.mk (hp_); replace HO_6 := Aside0.mk (Kd.R_after (v := (.slice (some ⟨go20, 0, none⟩) x5_1.length co7)) (v1 := (.slice (some ⟨go20, 0, none⟩) x5_1.length co7)) (ok := (fun _ => True)) (by (with_reducible repeat (first | apply Kd.R_alloc | apply Kd.R_drewN | apply Kd.R_drew)); exact Kd.R_mono HO_6.out (fun _ hk => ⟨trivial, hk⟩)) hg (.inl rfl)); replace HB := Aside0.mk ((by rw [hw]; exact below_set (HB.out) GB20.out : Below w.heap.size w w23)); clear hg hw hp_))
     (try simp only [← hl5_1])
     go_roundg k1
     case measure => have := HK1.out; omega
     case rel => exact ⟨(y381), (t380), (wrap64 (x16_1 + 1)), ZS, ZS, H', ⟨by have := HK1.out; omega⟩, ⟨by (try simp only [hl5_1]); (with_reducible repeat (first | apply Kd.R_alloc | apply Kd.R_drewN | apply Kd.R_drew)); exact HO_5.out⟩, ⟨by (try simp only [hl5_1]); (with_reducible repeat (first | apply Kd.R_alloc | apply Kd.R_drewN | apply Kd.R_drew)); exact Kd.R_mono HO_6.out (fun _ hk => hk.2)⟩, ⟨ZB⟩⟩
   ·rw [if_neg c8] at H
    have c8b0 : decide (x16_1 < (t367.length : Int)) = false := decide_eq_false c8
    (try (have c8b0y := c8b0; simp only [hl5_1] at c8b0y))
    clear c8
    obtain ⟨t382, A24, H⟩ := ZO H
    obtain rfl := Option.some.inj H
    go_wp2_with (first | ((with_reducible refine gate_callee (f := 71) rfl ?_); refine goesL_ (some 42) rfl rfl Try.func71 (by kernel_rfl) rfl #[.slice Ao7 x5_1.length co7] rfl ZA ?_; (with_reducible refine (exact_pack.calls k1 (fun k_ => some k_ = (.slice Ao7 x5_1.length co7 : Value).ownBlock) (.slice Ao7 x5_1.length co7) x5_1 t382 w _ ?side1 ?side2 A24.out).mono ?_); (case side1 => repeat (first | (with_reducible first | exact HB.out | apply below_alloc | apply pw_below_drewN | apply below_drew1) | exact HB.out)); (case side2 => exact Kd.R_tight rfl HO_5.out); rintro e w25 ⟨rfl, hb, hkp⟩; refine ⟨_, rfl, ?_⟩; replace HO_6 := Aside0.mk (Kd.R_mono (ok' := fun k_ => True) (Kd.R_keptB (HO_6.out) hkp (fun k_ hk_ hs_ => (hk_) hs_)) (fun k_ hk_ => trivial)); replace HB := Aside0.mk (hb); clear HO_5; (try clear hb); (try clear hkp)))
    go_ret
    exact ⟨ZE, ZB⟩
def natural_Sub.f (k : Nat) (a0 : ByteArray) (a1 : ByteArray) : Option (ByteArray × Int) := (natural_first.f k (([a0, a1] : List ByteArray))).bind fun t386 => (if t386 = 0 then ((exact_NatCmp.f k a0 a1).bind fun t387 => (if t387 < 0 then (some ((⟨#[]⟩ : ByteArray), 3)) else ((exact_NatSub.f k a0 a1).bind fun t388 => (some (t388, 0))))) else (some ((⟨#[]⟩ : ByteArray), t386)))
theorem natural_Sub.mono : ∀ a0 a1 k, LeO (natural_Sub.f k a0 a1) (natural_Sub.f (k + 1) a0 a1) := by
 intro a0 a1 k
 unfold natural_Sub.f
 repeat' first
   | (with_reducible exact exact_NatCmp.mono _ _ _)
   | (with_reducible exact exact_NatSub.mono _ _ _)
   | (with_reducible exact natural_first.mono _ _)
   | (with_reducible exact LeO.refl _)
   | (with_reducible exact LeO.none _)
   | (with_reducible refine LeO.ite ?_ ?_)
   | (with_reducible refine LeO.bind ?_ (fun _ => ?_))
theorem natural_Sub.M1 {g : Prop} (h : g := by
 go_enter Try.func37, Try.ntmps37
 go_wp2_with (first | ((with_reducible refine gate_dst (N := 9) rfl ?_); refine Kd.R_lit Kd.string _ 22 ?hg (N := 9) ?hd (xs := ([a0, a1] : List ByteArray)) (inner := [.string a0, .string a1]) (ok := fun _ => True) (okp := fun _ => True) ?hr ?hp (fun _ hk => hk) trivial (Below.refl _ _) (Nat.le_refl _) (by simp) ?_; (case hd => rfl); (case hg => rfl); (case hr => first | (go_simp; done) | (go_simp; rfl)); (case hp => exact (Reps.one (show Kd.M Kd.string _ _ _ a0 [.string a0] from rfl) (Reps.one (show Kd.M Kd.string _ _ _ a1 [.string a1] from rfl) (Reps.none _ _)))); intro v9001 w9002 ho9003 hb hg_ hnew_; clear hg_ hnew_; (first | rw [← Ny383.out] at ho9003 | (simp only [Int.reduceToNat] at ho9003; rw [← Ny383.out] at ho9003)); have HO9004 := Aside0.mk (Kd.R_lower ho9003 (below_size ZB)); replace HB := Aside0.mk (below_step ZB hb); clear hb ho9003; obtain ⟨Ao9005, co9006, eo9007⟩ := Kd.R_slice HO9004.out; subst eo9007) | ((with_reducible refine gate_callee (f := 47) rfl ?_); refine goesL_ (some 10) rfl rfl Try.func47 (by kernel_rfl) rfl #[.slice Ao9005 y383.length co9006] rfl ZA ?_; (with_reducible refine (natural_first.calls k _ _ y383 t386 _ ?side1 ?side2 A3.out).mono ?_); (case side1 => exact ZC (Kd.R_reads' HO9004.out).2.2); (case side2 => exact (Kd.R_reads' HO9004.out).2.1); rintro e w' ⟨rfl, ⟨nd, rfl⟩⟩; refine ⟨_, rfl, ?_⟩) | ((with_reducible refine gate_callee (f := 64) rfl ?_); refine goesL_ (some 16) rfl rfl Try.func64 (by kernel_rfl) rfl #[.string a0, .string a1] rfl ZA ?_; (with_reducible refine (exact_NatCmp.calls k a0 a1 t387 _ A5.out).mono ?_); rintro e w' ⟨rfl, ⟨nd, rfl⟩⟩; refine ⟨_, rfl, ?_⟩) | ((with_reducible refine gate_callee (f := 65) rfl ?_); refine goesL_ (some 20) rfl rfl Try.func65 (by kernel_rfl) rfl #[.string a0, .string a1] rfl ZA ?_; (with_reducible refine (exact_NatSub.calls k a0 a1 t388 _ A10.out).mono ?_); rintro e w9008 ⟨rfl, hb⟩; refine ⟨_, rfl, ?_⟩; replace HO9004 := Aside0.mk (Kd.R_below (ZR HO9004.out) hb); replace HB := Aside0.mk (below_step ZB hb); (try clear hb)))
 go_ret2
 exact ⟨ZE, ZB⟩) : g := h
set_option maxHeartbeats 8000000 in
set_option maxRecDepth 100000 in
theorem natural_Sub.calls (k : Nat) (a0 : ByteArray) (a1 : ByteArray) (r1 : ByteArray) (r2 : Int) (w : World) (h : natural_Sub.f k a0 a1 = some (r1, r2)) :
  Calls Try.prog 37 #[.string a0, .string a1] w fun e w' => e = .returned (.tuple #[.string r1, .int .i64 r2]) ∧ Below w.heap.size w w' := by
 have HB := Aside0.mk (Below.refl w.heap.size w)
 have H := h
 unfold natural_Sub.f at H
 clear h
 generalize hy383 : (([a0, a1] : List ByteArray)) = y383 at H
 have Ny383 := Aside0.mk hy383.symm
 clear hy383
 obtain ⟨t386, A3, H⟩ := ZO H
 by_cases c4 : t386 = 0
 ·rw [if_pos c4] at H
  have c4b0 : (t386 == 0) = true := beq_iff_eq.mpr c4
  have c4b1 : (t386 != 0) = false := bne_eq_false_iff_eq.mpr c4
  clear c4
  obtain ⟨t387, A5, H⟩ := ZO H
  by_cases c6 : t387 < 0
  ·rw [if_pos c6] at H
   have c6b0 : decide (t387 < 0) = true := decide_eq_true c6
   clear c6
   simp only [Option.some.injEq, Prod.mk.injEq] at H
   obtain ⟨rfl, rfl⟩ := H
   exact natural_Sub.M1
  ·rw [if_neg c6] at H
   have c6b0 : decide (t387 < 0) = false := decide_eq_false c6
   clear c6
   obtain ⟨t388, A10, H⟩ := ZO H
   simp only [Option.some.injEq, Prod.mk.injEq] at H
   obtain ⟨rfl, rfl⟩ := H
   exact natural_Sub.M1
 ·rw [if_neg c4] at H
  have c4b0 : (t386 == 0) = false := beq_eq_false_iff_ne.mpr c4
  have c4b1 : (t386 != 0) = true := bne_iff_ne.mpr c4
  simp only [Option.some.injEq, Prod.mk.injEq] at H
  obtain ⟨rfl, rfl⟩ := H
  go_enter Try.func37, Try.ntmps37
  go_wp2_with (first | ((with_reducible refine gate_dst (N := 9) rfl ?_); refine Kd.R_lit Kd.string _ 22 ?hg (N := 9) ?hd (xs := ([a0, a1] : List ByteArray)) (inner := [.string a0, .string a1]) (ok := fun _ => True) (okp := fun _ => True) ?hr ?hp (fun _ hk => hk) trivial (Below.refl _ _) (Nat.le_refl _) (by simp) ?_; (case hd => rfl); (case hg => rfl); (case hr => first | (go_simp; done) | (go_simp; rfl)); (case hp => exact (Reps.one (show Kd.M Kd.string _ _ _ a0 [.string a0] from rfl) (Reps.one (show Kd.M Kd.string _ _ _ a1 [.string a1] from rfl) (Reps.none _ _)))); intro v384 w15 ho16 hb hg_ hnew_; clear hg_ hnew_; (first | rw [← Ny383.out] at ho16 | (simp only [Int.reduceToNat] at ho16; rw [← Ny383.out] at ho16)); have HO385 := Aside0.mk (Kd.R_lower ho16 (below_size ZB)); replace HB := Aside0.mk (below_step ZB hb); clear hb ho16; obtain ⟨Ao17, co17, eo17⟩ := Kd.R_slice HO385.out; subst eo17) | ((with_reducible refine gate_callee (f := 47) rfl ?_); refine goesL_ (some 10) rfl rfl Try.func47 (by kernel_rfl) rfl #[.slice Ao17 y383.length co17] rfl ZA ?_; (with_reducible refine (natural_first.calls k _ _ y383 t386 _ ?side1 ?side2 A3.out).mono ?_); (case side1 => exact ZC (Kd.R_reads' HO385.out).2.2); (case side2 => exact (Kd.R_reads' HO385.out).2.1); rintro e w' ⟨rfl, ⟨nd, rfl⟩⟩; refine ⟨_, rfl, ?_⟩))
  go_ret2
  exact ⟨ZE, ZB⟩
def galoislaw01_awake.j0 : Nat → ByteArray → ByteArray → ByteArray → ByteArray → ByteArray → ByteArray → Bool → Option (Bool)
 | 0, _, _, _, _, _, _, _ => none
 | k + 1, x1, x2, x4, x6, x8, x10, x69 => if x69 = true then (some false) else ((galoislaw01_nat.f k 142).bind fun t411 => (if x1.toList = t411.toList then ((galoislaw01_nat.f k 6).bind fun t412 => (if x2.toList = t412.toList then ((galoislaw01_nat.f k 6).bind fun t413 => (if x4.toList = t413.toList then ((galoislaw01_nat.f k 10).bind fun t414 => (if x6.toList = t414.toList then ((galoislaw01_nat.f k 9).bind fun t415 => (if x8.toList = t415.toList then (if x10.toList = ([4, 0] : List UInt8) then ((natural_Of.f 256).bind fun t416 => (some (t416.toList == ([1, 0] : List UInt8)))) else (some false)) else (some false))) else (some false))) else (some false))) else (some false))) else (some false)))
def galoislaw01_awake.f (k : Nat)  : Option (Bool) := (galoislaw01_nat.f k 1000).bind fun t389 => ((galoislaw01_nat.f k 7).bind fun t390 => ((natural_DivMod.f k t389 t390).bind fun bt391 => ((galoislaw01_nat.f k 12).bind fun t394 => ((galoislaw01_nat.f k 18).bind fun t395 => ((natural_Gcd.f k t394 t395).bind fun bt396 => ((galoislaw01_nat.f k 1000).bind fun t398 => ((natural_Root.f k t398 3).bind fun bt399 => ((galoislaw01_nat.f k 999).bind fun t401 => ((natural_Root.f k t401 3).bind fun bt402 => ((galoislaw01_nat.f k 2).bind fun t404 => ((natural_Pow.f k t404 10).bind fun bt405 => ((galoislaw01_nat.f k 3).bind fun t407 => ((galoislaw01_nat.f k 5).bind fun t408 => ((natural_Sub.f k t407 t408).bind fun bt409 => (if bt391.2.2 = 0 then (if bt396.2 = 0 then (if bt399.2 = 0 then (if bt402.2 = 0 then (if bt405.2 = 0 then (galoislaw01_awake.j0 k bt391.1 bt391.2.1 bt396.1 bt399.1 bt402.1 bt405.1 (bt409.2 != 3)) else (galoislaw01_awake.j0 k bt391.1 bt391.2.1 bt396.1 bt399.1 bt402.1 bt405.1 true)) else (galoislaw01_awake.j0 k bt391.1 bt391.2.1 bt396.1 bt399.1 bt402.1 bt405.1 true)) else (galoislaw01_awake.j0 k bt391.1 bt391.2.1 bt396.1 bt399.1 bt402.1 bt405.1 true)) else (galoislaw01_awake.j0 k bt391.1 bt391.2.1 bt396.1 bt399.1 bt402.1 bt405.1 true)) else (galoislaw01_awake.j0 k bt391.1 bt391.2.1 bt396.1 bt399.1 bt402.1 bt405.1 true))))))))))))))))
theorem galoislaw01_awake.U1 {g : Prop} (h : g := by
 repeat' first
 | (with_reducible exact ih0 _ _ _ _ _ _ _)
 | (with_reducible exact galoislaw01_nat.mono _ _)
 | (with_reducible exact natural_DivMod.mono _ _ _)
 | (with_reducible exact natural_Gcd.mono _ _ _)
 | (with_reducible exact natural_Pow.mono _ _ _)
 | (with_reducible exact natural_Root.mono _ _ _)
 | (with_reducible exact natural_Sub.mono _ _ _)
 | (with_reducible exact LeO.refl _)
 | (with_reducible exact LeO.none _)
 | (with_reducible refine LeO.ite ?_ ?_)
 | (with_reducible refine LeO.bind ?_ (fun _ => ?_))) : g := h
theorem galoislaw01_awake.mono_l : ∀ k, (∀ y0 y1 y2 y3 y4 y5 y6, LeO (galoislaw01_awake.j0 k y0 y1 y2 y3 y4 y5 y6) (galoislaw01_awake.j0 (k + 1) y0 y1 y2 y3 y4 y5 y6))
 | 0 => fun _ _ _ _ _ _ _ r h => by simp [galoislaw01_awake.j0] at h
 | k + 1 => by
  have ih0 := galoislaw01_awake.mono_l k
  ·intro y0 y1 y2 y3 y4 y5 y6
   unfold galoislaw01_awake.j0
   exact galoislaw01_awake.U1
theorem galoislaw01_awake.mono : ∀ k, LeO (galoislaw01_awake.f k ) (galoislaw01_awake.f (k + 1) ) := by
 intro  k
 have ih0 := galoislaw01_awake.mono_l k
 unfold galoislaw01_awake.f
 exact galoislaw01_awake.U1
theorem galoislaw01_awake.M1 {g : Prop} (h : g := by
 have H' := Aside0.mk H
 clear H
 go_wp2
 go_meet
 case rel => exact ⟨_, _, ZS, H', ⟨ZN⟩, ⟨ZB⟩⟩) : g := h
theorem galoislaw01_awake.M2 {g : Prop} (h : g := by
 go_wp2_with (first | ((with_reducible refine gate_callee (f := 27) rfl ?_); refine goesL_ (some 71) rfl rfl Try.func27 (by kernel_rfl) rfl #[.int .i64 142] rfl ZA ?_; (with_reducible refine (galoislaw01_nat.calls kj15 142 t411 _ A38.out).mono ?_); rintro e w9001 ⟨rfl, hb⟩; refine ⟨_, rfl, ?_⟩; replace HB := Aside0.mk (below_step ZB hb); (try clear hb)) | (go_at_call 27; (with_reducible refine (galoislaw01_nat.calls kj15 6 t412 _ A40.out).mono ?_); rintro e w9002 ⟨rfl, hb⟩; replace HB := Aside0.mk (below_step ZB hb); (try clear hb)) | (go_at_call 27; (with_reducible refine (galoislaw01_nat.calls kj15 6 t412 _ A42.out).mono ?_); rintro e w9003 ⟨rfl, hb⟩; replace HB := Aside0.mk (below_step ZB hb); (try clear hb)) | (go_at_call 27; (with_reducible refine (galoislaw01_nat.calls kj15 10 t414 _ A44.out).mono ?_); rintro e w9004 ⟨rfl, hb⟩; replace HB := Aside0.mk (below_step ZB hb); (try clear hb)) | (go_at_call 27; (with_reducible refine (galoislaw01_nat.calls kj15 9 t415 _ A46.out).mono ?_); rintro e w9005 ⟨rfl, hb⟩; replace HB := Aside0.mk (below_step ZB hb); (try clear hb)) | (go_at_call 30; (with_reducible refine (natural_Of.calls 256 t416 _ A49.out).mono ?_); rintro e w9006 ⟨rfl, hb⟩; replace HB := Aside0.mk (below_step ZB hb); (try clear hb)))
 go_ret
 exact ⟨ZE, ZB⟩) : g := h
set_option maxHeartbeats 8000000 in
set_option maxRecDepth 100000 in
theorem galoislaw01_awake.calls (k : Nat)  (r : Bool) (w : World) (h : galoislaw01_awake.f k  = some r) :
  Calls Try.prog 12 #[] w fun e w' => e = .returned (.bool r) ∧ Below w.heap.size w w' := by
 have HB := Aside0.mk (Below.refl w.heap.size w)
 have H := h
 unfold galoislaw01_awake.f at H
 clear h
 obtain ⟨t389, A1, H⟩ := ZO H
 obtain ⟨t390, A2, H⟩ := ZO H
 obtain ⟨⟨t391, t392, t393⟩, A3, H⟩ := ZO H
 (try dsimp only at H)
 obtain ⟨t394, A4, H⟩ := ZO H
 obtain ⟨t395, A5, H⟩ := ZO H
 obtain ⟨⟨t396, t397⟩, A6, H⟩ := ZO H
 (try dsimp only at H)
 obtain ⟨t398, A7, H⟩ := ZO H
 obtain rfl : t389 = t398 := Option.some.inj (A1.out.symm.trans A7.out)
 obtain ⟨⟨t399, t400⟩, A8, H⟩ := ZO H
 (try dsimp only at H)
 obtain ⟨t401, A9, H⟩ := ZO H
 obtain ⟨⟨t402, t403⟩, A10, H⟩ := ZO H
 (try dsimp only at H)
 obtain ⟨t404, A11, H⟩ := ZO H
 obtain ⟨⟨t405, t406⟩, A12, H⟩ := ZO H
 (try dsimp only at H)
 obtain ⟨t407, A13, H⟩ := ZO H
 obtain ⟨t408, A14, H⟩ := ZO H
 obtain ⟨⟨t409, t410⟩, A15, H⟩ := ZO H
 (try dsimp only at H)
 have HC16 := Aside0.mk H
 clear H
 go_enter Try.func12, Try.ntmps12
 go_upto_region 7 with (first | ((with_reducible refine gate_callee (f := 27) rfl ?_); refine goesL_ (some 15) rfl rfl Try.func27 (by kernel_rfl) rfl #[.int .i64 1000] rfl ZA ?_; (with_reducible refine (galoislaw01_nat.calls k 1000 t389 _ A1.out).mono ?_); rintro e w17 ⟨rfl, hb⟩; refine ⟨_, rfl, ?_⟩; replace HB := Aside0.mk (below_step ZB hb); (try clear hb)) | ((with_reducible refine gate_callee (f := 27) rfl ?_); refine goesL_ (some 16) rfl rfl Try.func27 (by kernel_rfl) rfl #[.int .i64 7] rfl ZA ?_; (with_reducible refine (galoislaw01_nat.calls k 7 t390 _ A2.out).mono ?_); rintro e w18 ⟨rfl, hb⟩; refine ⟨_, rfl, ?_⟩; replace HB := Aside0.mk (below_step ZB hb); (try clear hb)) | ((with_reducible refine gate_callee (f := 14) rfl ?_); refine goesL_ (some 17) rfl rfl Try.func14 (by kernel_rfl) rfl #[.string t389, .string t390] rfl ZA ?_; (with_reducible refine (natural_DivMod.calls k t389 t390 t391 t392 t393 _ A3.out).mono ?_); rintro e w19 ⟨rfl, hb⟩; refine ⟨_, rfl, ?_⟩; replace HB := Aside0.mk (below_step ZB hb); (try clear hb)) | ((with_reducible refine gate_callee (f := 27) rfl ?_); refine goesL_ (some 22) rfl rfl Try.func27 (by kernel_rfl) rfl #[.int .i64 12] rfl ZA ?_; (with_reducible refine (galoislaw01_nat.calls k 12 t394 _ A4.out).mono ?_); rintro e w20 ⟨rfl, hb⟩; refine ⟨_, rfl, ?_⟩; replace HB := Aside0.mk (below_step ZB hb); (try clear hb)) | ((with_reducible refine gate_callee (f := 27) rfl ?_); refine goesL_ (some 23) rfl rfl Try.func27 (by kernel_rfl) rfl #[.int .i64 18] rfl ZA ?_; (with_reducible refine (galoislaw01_nat.calls k 18 t395 _ A5.out).mono ?_); rintro e w21 ⟨rfl, hb⟩; refine ⟨_, rfl, ?_⟩; replace HB := Aside0.mk (below_step ZB hb); (try clear hb)) | ((with_reducible refine gate_callee (f := 15) rfl ?_); refine goesL_ (some 24) rfl rfl Try.func15 (by kernel_rfl) rfl #[.string t394, .string t395] rfl ZA ?_; (with_reducible refine (natural_Gcd.calls k t394 t395 t396 t397 _ A6.out).mono ?_); rintro e w22 ⟨rfl, hb⟩; refine ⟨_, rfl, ?_⟩; replace HB := Aside0.mk (below_step ZB hb); (try clear hb)) | ((with_reducible refine gate_callee (f := 27) rfl ?_); refine goesL_ (some 28) rfl rfl Try.func27 (by kernel_rfl) rfl #[.int .i64 1000] rfl ZA ?_; (with_reducible refine (galoislaw01_nat.calls k 1000 t389 _ A7.out).mono ?_); rintro e w23 ⟨rfl, hb⟩; refine ⟨_, rfl, ?_⟩; replace HB := Aside0.mk (below_step ZB hb); (try clear hb)) | ((with_reducible refine gate_callee (f := 21) rfl ?_); refine goesL_ (some 29) rfl rfl Try.func21 (by kernel_rfl) rfl #[.string t389, .int .i64 3] rfl ZA ?_; (with_reducible refine (natural_Root.calls k t389 3 t399 t400 _ A8.out).mono ?_); rintro e w24 ⟨rfl, hb⟩; refine ⟨_, rfl, ?_⟩; replace HB := Aside0.mk (below_step ZB hb); (try clear hb)) | ((with_reducible refine gate_callee (f := 27) rfl ?_); refine goesL_ (some 33) rfl rfl Try.func27 (by kernel_rfl) rfl #[.int .i64 999] rfl ZA ?_; (with_reducible refine (galoislaw01_nat.calls k 999 t401 _ A9.out).mono ?_); rintro e w25 ⟨rfl, hb⟩; refine ⟨_, rfl, ?_⟩; replace HB := Aside0.mk (below_step ZB hb); (try clear hb)) | ((with_reducible refine gate_callee (f := 21) rfl ?_); refine goesL_ (some 34) rfl rfl Try.func21 (by kernel_rfl) rfl #[.string t401, .int .i64 3] rfl ZA ?_; (with_reducible refine (natural_Root.calls k t401 3 t402 t403 _ A10.out).mono ?_); rintro e w26 ⟨rfl, hb⟩; refine ⟨_, rfl, ?_⟩; replace HB := Aside0.mk (below_step ZB hb); (try clear hb)) | ((with_reducible refine gate_callee (f := 27) rfl ?_); refine goesL_ (some 38) rfl rfl Try.func27 (by kernel_rfl) rfl #[.int .i64 2] rfl ZA ?_; (with_reducible refine (galoislaw01_nat.calls k 2 t404 _ A11.out).mono ?_); rintro e w27 ⟨rfl, hb⟩; refine ⟨_, rfl, ?_⟩; replace HB := Aside0.mk (below_step ZB hb); (try clear hb)) | ((with_reducible refine gate_callee (f := 20) rfl ?_); refine goesL_ (some 39) rfl rfl Try.func20 (by kernel_rfl) rfl #[.string t404, .int .i64 10] rfl ZA ?_; (with_reducible refine (natural_Pow.calls k t404 10 t405 t406 _ A12.out).mono ?_); rintro e w28 ⟨rfl, hb⟩; refine ⟨_, rfl, ?_⟩; replace HB := Aside0.mk (below_step ZB hb); (try clear hb)) | ((with_reducible refine gate_callee (f := 27) rfl ?_); refine goesL_ (some 43) rfl rfl Try.func27 (by kernel_rfl) rfl #[.int .i64 3] rfl ZA ?_; (with_reducible refine (galoislaw01_nat.calls k 3 t407 _ A13.out).mono ?_); rintro e w29 ⟨rfl, hb⟩; refine ⟨_, rfl, ?_⟩; replace HB := Aside0.mk (below_step ZB hb); (try clear hb)) | ((with_reducible refine gate_callee (f := 27) rfl ?_); refine goesL_ (some 44) rfl rfl Try.func27 (by kernel_rfl) rfl #[.int .i64 5] rfl ZA ?_; (with_reducible refine (galoislaw01_nat.calls k 5 t408 _ A14.out).mono ?_); rintro e w30 ⟨rfl, hb⟩; refine ⟨_, rfl, ?_⟩; replace HB := Aside0.mk (below_step ZB hb); (try clear hb)) | ((with_reducible refine gate_callee (f := 37) rfl ?_); refine goesL_ (some 45) rfl rfl Try.func37 (by kernel_rfl) rfl #[.string t407, .string t408] rfl ZA ?_; (with_reducible refine (natural_Sub.calls k t407 t408 t409 t410 _ A15.out).mono ?_); rintro e w31 ⟨rfl, hb⟩; refine ⟨_, rfl, ?_⟩; replace HB := Aside0.mk (below_step ZB hb); (try clear hb)))
 (try simp only [Act.put, List.setIfInBounds_toArray, List.set_cons_zero, List.set_cons_succ])
 go_cut [69] (fun v69 wc => ∃ (kq : Nat) (x69_15 : Bool), v69 = .bool x69_15 ∧ Aside0 (galoislaw01_awake.j0 kq t391 t392 t396 t399 t402 t405 x69_15 = some r) ∧ Aside0 (kq ≤ k) ∧ Aside0 (Below w.heap.size w wc))
 case first =>
  have H := HC16.out
  clear HC16
  by_cases c32 : t393 = 0
  ·rw [if_pos c32] at H
   have c32b0 : (t393 == 0) = true := beq_iff_eq.mpr c32
   have c32b1 : (t393 != 0) = false := bne_eq_false_iff_eq.mpr c32
   clear c32
   (first | rw [c32b0] | rw [c32b1] | (simp only [i64_w, i32_w]; rw [c32b0]) | skip)
   by_cases c33 : t397 = 0
   ·rw [if_pos c33] at H
    have c33b0 : (t397 == 0) = true := beq_iff_eq.mpr c33
    have c33b1 : (t397 != 0) = false := bne_eq_false_iff_eq.mpr c33
    clear c33
    by_cases c34 : t400 = 0
    ·rw [if_pos c34] at H
     have c34b0 : (t400 == 0) = true := beq_iff_eq.mpr c34
     have c34b1 : (t400 != 0) = false := bne_eq_false_iff_eq.mpr c34
     clear c34
     by_cases c35 : t403 = 0
     ·rw [if_pos c35] at H
      have c35b0 : (t403 == 0) = true := beq_iff_eq.mpr c35
      have c35b1 : (t403 != 0) = false := bne_eq_false_iff_eq.mpr c35
      clear c35
      by_cases c36 : t406 = 0
      ·rw [if_pos c36] at H
       have c36b0 : (t406 == 0) = true := beq_iff_eq.mpr c36
       have c36b1 : (t406 != 0) = false := bne_eq_false_iff_eq.mpr c36
       clear c36
       exact galoislaw01_awake.M1
      ·rw [if_neg c36] at H
       have c36b0 : (t406 == 0) = false := beq_eq_false_iff_ne.mpr c36
       have c36b1 : (t406 != 0) = true := bne_iff_ne.mpr c36
       exact galoislaw01_awake.M1
     ·rw [if_neg c35] at H
      have c35b0 : (t403 == 0) = false := beq_eq_false_iff_ne.mpr c35
      have c35b1 : (t403 != 0) = true := bne_iff_ne.mpr c35
      exact galoislaw01_awake.M1
    ·rw [if_neg c34] at H
     have c34b0 : (t400 == 0) = false := beq_eq_false_iff_ne.mpr c34
     have c34b1 : (t400 != 0) = true := bne_iff_ne.mpr c34
     exact galoislaw01_awake.M1
   ·rw [if_neg c33] at H
    have c33b0 : (t397 == 0) = false := beq_eq_false_iff_ne.mpr c33
    have c33b1 : (t397 != 0) = true := bne_iff_ne.mpr c33
    exact galoislaw01_awake.M1
  ·rw [if_neg c32] at H
   have c32b0 : (t393 == 0) = false := beq_eq_false_iff_ne.mpr c32
   have c32b1 : (t393 != 0) = true := bne_iff_ne.mpr c32
   (first | rw [c32b0] | rw [c32b1] | (simp only [i64_w, i32_w]; rw [c32b0]) | skip)
   exact galoislaw01_awake.M1
 case rest =>
  clear HC16
  obtain ⟨kq, x69_15, rfl, HA, HJ15, HB⟩ := hcut
  cases kq with
  | zero => exact absurd HA.out (by simp [galoislaw01_awake.j0])
  | succ kj15 =>
   have H := HA.out
   clear HA
   simp only [galoislaw01_awake.j0] at H
   by_cases c37 : x69_15 = true
   ·subst c37
    rw [if_pos rfl] at H
    obtain rfl := Option.some.inj H
    exact galoislaw01_awake.M2
   ·replace c37 := Bool.eq_false_iff.mpr c37
    subst c37
    rw [if_neg Bool.false_ne_true] at H
    obtain ⟨t411, A38, H⟩ := ZO H
    by_cases c39 : t391.toList = t411.toList
    ·rw [if_pos c39] at H
     have c39b0 : (t391.toList == t411.toList) = true := beq_iff_eq.mpr c39
     have c39b1 : (t391.toList != t411.toList) = false := bne_eq_false_iff_eq.mpr c39
     clear c39
     obtain ⟨t412, A40, H⟩ := ZO H
     by_cases c41 : t392.toList = t412.toList
     ·rw [if_pos c41] at H
      have c41b0 : (t392.toList == t412.toList) = true := beq_iff_eq.mpr c41
      have c41b1 : (t392.toList != t412.toList) = false := bne_eq_false_iff_eq.mpr c41
      clear c41
      obtain ⟨t413, A42, H⟩ := ZO H
      obtain rfl : t412 = t413 := Option.some.inj (A40.out.symm.trans A42.out)
      by_cases c43 : t396.toList = t412.toList
      ·rw [if_pos c43] at H
       have c43b0 : (t396.toList == t412.toList) = true := beq_iff_eq.mpr c43
       have c43b1 : (t396.toList != t412.toList) = false := bne_eq_false_iff_eq.mpr c43
       clear c43
       obtain ⟨t414, A44, H⟩ := ZO H
       by_cases c45 : t399.toList = t414.toList
       ·rw [if_pos c45] at H
        have c45b0 : (t399.toList == t414.toList) = true := beq_iff_eq.mpr c45
        have c45b1 : (t399.toList != t414.toList) = false := bne_eq_false_iff_eq.mpr c45
        clear c45
        obtain ⟨t415, A46, H⟩ := ZO H
        by_cases c47 : t402.toList = t415.toList
        ·rw [if_pos c47] at H
         have c47b0 : (t402.toList == t415.toList) = true := beq_iff_eq.mpr c47
         have c47b1 : (t402.toList != t415.toList) = false := bne_eq_false_iff_eq.mpr c47
         clear c47
         by_cases c48 : t405.toList = ([4, 0] : List UInt8)
         ·rw [if_pos c48] at H
          have c48b0 : (t405.toList == ([4, 0] : List UInt8)) = true := beq_iff_eq.mpr c48
          have c48b1 : (t405.toList != ([4, 0] : List UInt8)) = false := bne_eq_false_iff_eq.mpr c48
          clear c48
          obtain ⟨t416, A49, H⟩ := ZO H
          obtain rfl := Option.some.inj H
          exact galoislaw01_awake.M2
         ·rw [if_neg c48] at H
          have c48b0 : (t405.toList == ([4, 0] : List UInt8)) = false := beq_eq_false_iff_ne.mpr c48
          have c48b1 : (t405.toList != ([4, 0] : List UInt8)) = true := bne_iff_ne.mpr c48
          obtain rfl := Option.some.inj H
          exact galoislaw01_awake.M2
        ·rw [if_neg c47] at H
         have c47b0 : (t402.toList == t415.toList) = false := beq_eq_false_iff_ne.mpr c47
         have c47b1 : (t402.toList != t415.toList) = true := bne_iff_ne.mpr c47
         obtain rfl := Option.some.inj H
         exact galoislaw01_awake.M2
       ·rw [if_neg c45] at H
        have c45b0 : (t399.toList == t414.toList) = false := beq_eq_false_iff_ne.mpr c45
        have c45b1 : (t399.toList != t414.toList) = true := bne_iff_ne.mpr c45
        obtain rfl := Option.some.inj H
        exact galoislaw01_awake.M2
      ·rw [if_neg c43] at H
       have c43b0 : (t396.toList == t412.toList) = false := beq_eq_false_iff_ne.mpr c43
       have c43b1 : (t396.toList != t412.toList) = true := bne_iff_ne.mpr c43
       obtain rfl := Option.some.inj H
       exact galoislaw01_awake.M2
     ·rw [if_neg c41] at H
      have c41b0 : (t392.toList == t412.toList) = false := beq_eq_false_iff_ne.mpr c41
      have c41b1 : (t392.toList != t412.toList) = true := bne_iff_ne.mpr c41
      obtain rfl := Option.some.inj H
      exact galoislaw01_awake.M2
    ·rw [if_neg c39] at H
     have c39b0 : (t391.toList == t411.toList) = false := beq_eq_false_iff_ne.mpr c39
     have c39b1 : (t391.toList != t411.toList) = true := bne_iff_ne.mpr c39
     obtain rfl := Option.some.inj H
     go_wp2_with (first | ((with_reducible refine gate_callee (f := 27) rfl ?_); refine goesL_ (some 71) rfl rfl Try.func27 (by kernel_rfl) rfl #[.int .i64 142] rfl ZA ?_; (with_reducible refine (galoislaw01_nat.calls kj15 142 t411 _ A38.out).mono ?_); rintro e w75 ⟨rfl, hb⟩; refine ⟨_, rfl, ?_⟩; replace HB := Aside0.mk (below_step ZB hb); (try clear hb)))
     go_ret
     exact ⟨ZE, ZB⟩
def galoisref01_Fits.f (a0 : ByteArray) : Option (Int) := if (a0.size : Int) > 1024 then (some 4) else (some 0)
set_option maxHeartbeats 8000000 in
set_option maxRecDepth 100000 in
theorem galoisref01_Fits.calls (a0 : ByteArray) (r : Int) (w : World) (h : galoisref01_Fits.f a0 = some r) :
  Calls Try.prog 50 #[.string a0] w fun e w' => e = .returned (.int .i64 r) ∧ Drawn0 w w' := by
 have H : (if (a0.size : Int) > 1024 then (some 4) else (some 0)) = some r := h
 clear h
 by_cases c2 : (a0.size : Int) > 1024
 ·rw [if_pos c2] at H
  have c2b0 : decide (1024 < (a0.size : Int)) = true := decide_eq_true c2
  have c2b1 : decide (1024 < a0.size) = true := decide_eq_true (by omega)
  clear c2
  obtain rfl := Option.some.inj H
  go_enter Try.func50, Try.ntmps50
  go_wp2
  go_ret
  exact ⟨by first | rfl | (simp; done) | (simp [*]; done), by repeat (first | exact Drawn0.refl _ | apply Drawn0.step)⟩
 ·rw [if_neg c2] at H
  have c2b0 : decide (1024 < (a0.size : Int)) = false := decide_eq_false c2
  have c2b1 : decide (1024 < a0.size) = false := decide_eq_false (by omega)
  clear c2
  obtain rfl := Option.some.inj H
  go_enter Try.func50, Try.ntmps50
  go_wp2
  go_ret
  exact ⟨by first | rfl | (simp; done) | (simp [*]; done), by repeat (first | exact Drawn0.refl _ | apply Drawn0.step)⟩
def galoisref01_Valid.f (a0 : ByteArray) : Option (Bool) := if a0.toList = ([] : List UInt8) then (some true) else (if 0 < (a0.size : Int) then (some ((bt a0 0) != 0)) else (none))
theorem galoisref01_Valid.M1 {g : Prop} (h : g := by
 go_enter Try.func58, Try.ntmps58
 go_wp2
 go_ret
 exact ⟨by first | rfl | (simp; done) | (simp [*]; done), by repeat (first | exact Drawn0.refl _ | apply Drawn0.step)⟩) : g := h
set_option maxHeartbeats 8000000 in
set_option maxRecDepth 100000 in
theorem galoisref01_Valid.calls (a0 : ByteArray) (r : Bool) (w : World) (h : galoisref01_Valid.f a0 = some r) :
  Calls Try.prog 58 #[.string a0] w fun e w' => e = .returned (.bool r) ∧ Drawn0 w w' := by
 have H := h
 unfold galoisref01_Valid.f at H
 clear h
 by_cases c2 : a0.toList = ([] : List UInt8)
 ·rw [if_pos c2] at H
  have c2b0 : (a0.toList == ([] : List UInt8)) = true := beq_iff_eq.mpr c2
  have c2b1 : (a0.toList != ([] : List UInt8)) = false := bne_eq_false_iff_eq.mpr c2
  clear c2
  obtain rfl := Option.some.inj H
  exact galoisref01_Valid.M1
 ·rw [if_neg c2] at H
  have c2b0 : (a0.toList == ([] : List UInt8)) = false := beq_eq_false_iff_ne.mpr c2
  have c2b1 : (a0.toList != ([] : List UInt8)) = true := bne_iff_ne.mpr c2
  by_cases c3 : 0 < (a0.size : Int)
  ·rw [if_pos c3] at H
   have c3b0 : decide (0 < (a0.size : Int)) = true := decide_eq_true c3
   have c3b1 : decide (0 < a0.size) = true := decide_eq_true (by omega)
   clear c3
   obtain rfl := Option.some.inj H
   have p4 : 0 ≤ (0 : Int) := (by omega)
   have q4 : 0 < a0.size := (by have : (0 : Int) < (a0.size : Int) := of_decide_eq_true ZD; omega)
   have hx4 : ∀ h : 0 < a0.size, ((a0[0]'h).toNat : Int) = bt a0 0 := bt_at a0 0
   clear p4
   have qi4 : (0 < (a0.size : Int)) = True := eq_true (of_decide_eq_true ZD)
   replace q4 := eq_true q4
   exact galoisref01_Valid.M1
  ·rw [if_neg c3] at H
   exact absurd H (by simp)
def galoisref01_Check.f (a0 : ByteArray) : Option (Int) := (galoisref01_Valid.f a0).bind fun t417 => (if t417 = true then ((galoisref01_Fits.f a0).bind fun t418 => (some t418)) else (some 1))
set_option maxHeartbeats 8000000 in
set_option maxRecDepth 100000 in
theorem galoisref01_Check.calls (a0 : ByteArray) (r : Int) (w : World) (h : galoisref01_Check.f a0 = some r) :
  Calls Try.prog 24 #[.string a0] w fun e w' => e = .returned (.int .i64 r) ∧ Drawn0 w w' := by
 have H := h
 unfold galoisref01_Check.f at H
 clear h
 obtain ⟨t417, A2, H⟩ := ZO H
 by_cases c3 : t417 = true
 ·subst c3
  rw [if_pos rfl] at H
  obtain ⟨t418, A4, H⟩ := ZO H
  obtain rfl := Option.some.inj H
  go_enter Try.func24, Try.ntmps24
  go_wp2_with (first | ((with_reducible refine gate_callee (f := 58) rfl ?_); refine goesL_ (some 4) rfl rfl Try.func58 (by kernel_rfl) rfl #[.string a0] rfl ZA ?_; (with_reducible refine (galoisref01_Valid.calls a0 true _ A2.out).mono ?_); rintro e w' ⟨rfl, ⟨nd, rfl⟩⟩; refine ⟨_, rfl, ?_⟩) | ((with_reducible refine gate_callee (f := 50) rfl ?_); refine goesL_ (some 7) rfl rfl Try.func50 (by kernel_rfl) rfl #[.string a0] rfl ZA ?_; (with_reducible refine (galoisref01_Fits.calls a0 t418 _ A4.out).mono ?_); rintro e w' ⟨rfl, ⟨nd, rfl⟩⟩; refine ⟨_, rfl, ?_⟩))
  go_ret
  exact ⟨by first | rfl | (simp; done) | (simp [*]; done), by repeat (first | exact Drawn0.refl _ | apply Drawn0.step)⟩
 ·replace c3 := Bool.eq_false_iff.mpr c3
  subst c3
  rw [if_neg Bool.false_ne_true] at H
  obtain rfl := Option.some.inj H
  go_enter Try.func24, Try.ntmps24
  go_wp2_with (first | ((with_reducible refine gate_callee (f := 58) rfl ?_); refine goesL_ (some 4) rfl rfl Try.func58 (by kernel_rfl) rfl #[.string a0] rfl ZA ?_; (with_reducible refine (galoisref01_Valid.calls a0 false _ A2.out).mono ?_); rintro e w' ⟨rfl, ⟨nd, rfl⟩⟩; refine ⟨_, rfl, ?_⟩))
  go_ret
  exact ⟨by first | rfl | (simp; done) | (simp [*]; done), by repeat (first | exact Drawn0.refl _ | apply Drawn0.step)⟩
def galoislaw01_right.f (a0 : ByteArray) (a1 : Int) (a2 : Int) (a3 : ByteArray) : Option (Bool) := if a2 = 0 then ((galoisref01_Fits.f a3).bind fun t422 => (if t422 = 0 then (if a0.toList = a3.toList then (some (a1 == 0)) else (some false)) else (if a0.toList = ([] : List UInt8) then (some (a1 == t422)) else (some false)))) else (if a0.toList = ([] : List UInt8) then (some (a1 == a2)) else (some false))
theorem galoislaw01_right.M1 {g : Prop} (h : g := by
 go_enter Try.func17, Try.ntmps17
 go_wp2_with (first | ((with_reducible refine gate_callee (f := 50) rfl ?_); refine goesL_ (some 12) rfl rfl Try.func50 (by kernel_rfl) rfl #[.string a3] rfl ZA ?_; (with_reducible refine (galoisref01_Fits.calls a3 t422 _ A6.out).mono ?_); rintro e w' ⟨rfl, ⟨nd, rfl⟩⟩; refine ⟨_, rfl, ?_⟩))
 go_ret
 exact ⟨by first | rfl | (simp; done) | (simp [*]; done), by repeat (first | exact Drawn0.refl _ | apply Drawn0.step)⟩) : g := h
set_option maxHeartbeats 8000000 in
set_option maxRecDepth 100000 in
theorem galoislaw01_right.calls (a0 : ByteArray) (a1 : Int) (a2 : Int) (a3 : ByteArray) (r : Bool) (w : World) (h : galoislaw01_right.f a0 a1 a2 a3 = some r) :
  Calls Try.prog 17 #[.string a0, .int .i64 a1, .int .i64 a2, .string a3] w fun e w' => e = .returned (.bool r) ∧ Drawn0 w w' := by
 have H := h
 unfold galoislaw01_right.f at H
 clear h
 by_cases c5 : a2 = 0
 ·rw [if_pos c5] at H
  have c5b0 : (a2 == 0) = true := beq_iff_eq.mpr c5
  have c5b1 : (a2 != 0) = false := bne_eq_false_iff_eq.mpr c5
  clear c5
  obtain ⟨t422, A6, H⟩ := ZO H
  by_cases c7 : t422 = 0
  ·rw [if_pos c7] at H
   have c7b0 : (t422 == 0) = true := beq_iff_eq.mpr c7
   have c7b1 : (t422 != 0) = false := bne_eq_false_iff_eq.mpr c7
   clear c7
   by_cases c8 : a0.toList = a3.toList
   ·rw [if_pos c8] at H
    have c8b0 : (a0.toList == a3.toList) = true := beq_iff_eq.mpr c8
    have c8b1 : (a0.toList != a3.toList) = false := bne_eq_false_iff_eq.mpr c8
    clear c8
    obtain rfl := Option.some.inj H
    exact galoislaw01_right.M1
   ·rw [if_neg c8] at H
    have c8b0 : (a0.toList == a3.toList) = false := beq_eq_false_iff_ne.mpr c8
    have c8b1 : (a0.toList != a3.toList) = true := bne_iff_ne.mpr c8
    obtain rfl := Option.some.inj H
    exact galoislaw01_right.M1
  ·rw [if_neg c7] at H
   have c7b0 : (t422 == 0) = false := beq_eq_false_iff_ne.mpr c7
   have c7b1 : (t422 != 0) = true := bne_iff_ne.mpr c7
   by_cases c9 : a0.toList = ([] : List UInt8)
   ·rw [if_pos c9] at H
    have c9b0 : (a0.toList == ([] : List UInt8)) = true := beq_iff_eq.mpr c9
    have c9b1 : (a0.toList != ([] : List UInt8)) = false := bne_eq_false_iff_eq.mpr c9
    clear c9
    obtain rfl := Option.some.inj H
    exact galoislaw01_right.M1
   ·rw [if_neg c9] at H
    have c9b0 : (a0.toList == ([] : List UInt8)) = false := beq_eq_false_iff_ne.mpr c9
    have c9b1 : (a0.toList != ([] : List UInt8)) = true := bne_iff_ne.mpr c9
    obtain rfl := Option.some.inj H
    exact galoislaw01_right.M1
 ·rw [if_neg c5] at H
  have c5b0 : (a2 == 0) = false := beq_eq_false_iff_ne.mpr c5
  have c5b1 : (a2 != 0) = true := bne_iff_ne.mpr c5
  by_cases c10 : a0.toList = ([] : List UInt8)
  ·rw [if_pos c10] at H
   have c10b0 : (a0.toList == ([] : List UInt8)) = true := beq_iff_eq.mpr c10
   have c10b1 : (a0.toList != ([] : List UInt8)) = false := bne_eq_false_iff_eq.mpr c10
   clear c10
   obtain rfl := Option.some.inj H
   exact galoislaw01_right.M1
  ·rw [if_neg c10] at H
   have c10b0 : (a0.toList == ([] : List UInt8)) = false := beq_eq_false_iff_ne.mpr c10
   have c10b1 : (a0.toList != ([] : List UInt8)) = true := bne_iff_ne.mpr c10
   obtain rfl := Option.some.inj H
   go_enter Try.func17, Try.ntmps17
   go_wp2
   go_ret
   exact ⟨by first | rfl | (simp; done) | (simp [*]; done), by repeat (first | exact Drawn0.refl _ | apply Drawn0.step)⟩
end Go.Proofs.Ytohkmnbnjacfaaa.All
namespace Go.Proofs.Ytohkmnbnjacfaaa.All
open Go.Proofs.YtohkmnbnjacfaaaX
open Go.RowKit Go.Proofs.YtohkmnbnjacfaaaW.PrintWords Go.Proofs.YtohkmnbnjacfaaaW.PrintLast Go.Proofs.YtohkmnbnjacfaaaW.PrintMore
attribute [local go_sem] max2_int min2_int max_two min_two max_three min_three max_four min_four
set_option linter.unusedVariables false
set_option linter.unusedSimpArgs false
def galoisref01_trim.l0 : Nat → List Int → Option (List Int)
 | 0, _ => none
 | k + 1, x0 => if (x0.length : Int) > 0 then (if 0 ≤ (wrap64 ((x0.length : Int) - 1)) then (if (wrap64 ((x0.length : Int) - 1)) < (x0.length : Int) then (if (rd x0 (wrap64 ((x0.length : Int) - 1))) = 0 then (if (wrap64 ((x0.length : Int) - 1)) ≤ (x0.length : Int) then (galoisref01_trim.l0 k (x0.take ((wrap64 ((x0.length : Int) - 1)) : Int).toNat)) else (none)) else (some x0)) else (none)) else (none)) else (some x0)
def galoisref01_trim.f (k : Nat) (l0 : List Int) : Option (List Int) := galoisref01_trim.l0 k l0
theorem galoisref01_trim.U1 {g : Prop} (h : g := by
 repeat' first
 | (with_reducible exact ih0 _)
 | (with_reducible exact LeO.refl _)
 | (with_reducible exact LeO.none _)
 | (with_reducible refine LeO.ite ?_ ?_)
 | (with_reducible refine LeO.bind ?_ (fun _ => ?_))) : g := h
theorem galoisref01_trim.mono_l : ∀ k, (∀ y0, LeO (galoisref01_trim.l0 k y0) (galoisref01_trim.l0 (k + 1) y0))
 | 0 => fun _ r h => by simp [galoisref01_trim.l0] at h
 | k + 1 => by
  have ih0 := galoisref01_trim.mono_l k
  ·intro y0
   unfold galoisref01_trim.l0
   exact galoisref01_trim.U1
theorem galoisref01_trim.mono : ∀ a0 k, LeO (galoisref01_trim.f k a0) (galoisref01_trim.f (k + 1) a0) := by
 intro a0 k
 have ih0 := galoisref01_trim.mono_l k
 unfold galoisref01_trim.f
 exact galoisref01_trim.U1
set_option maxHeartbeats 8000000 in
set_option maxRecDepth 100000 in
theorem galoisref01_trim.calls (k : Nat) (P0_ : Nat → Prop) (u9000_ : Value) (l0 : List Int) (r : List Int) (w0 w : World) (hB : Below w0.heap.size w0 w) (ho0 : Kd.R (Kd.int .u64) 49 w w0.heap.size P0_ u9000_ l0) (h : galoisref01_trim.f k l0 = some r) :
  Calls Try.prog 68 #[u9000_] w fun e w' => ∃ v0_ : Value, e = .returned (v0_) ∧ Kd.R (Kd.int .u64) 49 w' w0.heap.size (fun k_ => (P0_ k_ ∨ w.heap.size ≤ k_)) v0_ r ∧ Below w0.heap.size w0 w' ∧ Kept w w' (fun k_ => P0_ k_) := by
 have HO0 := Aside0.mk (show Kd.R (Kd.int .u64) 49 w w0.heap.size (fun k_ => (P0_ k_ ∨ w.heap.size ≤ k_)) u9000_ l0 from Kd.R_mono ho0 (fun k_ hk => (.inl hk)))
 have HK := Aside0.mk (Kept.refl w (fun k_ => P0_ k_))
 have HW0 := Aside0.mk hB.size
 have HB := Aside0.mk hB
 clear hB
 have H : (galoisref01_trim.l0 k l0) = some r := h
 clear h
 have H' := Aside0.mk H
 clear H
 go_enter Try.func68, Try.ntmps68
 go_wp2
 go_loopg [0] k (fun kq v0 w' => ∃ (x0_1 : List Int), Aside0 (galoisref01_trim.l0 kq x0_1 = some r) ∧ Aside0 (kq ≤ k) ∧ Aside0 (Kd.R (Kd.int .u64) 49 w' w0.heap.size (fun k_ => (P0_ k_ ∨ w.heap.size ≤ k_)) v0 x0_1) ∧ Aside0 (Kept w w' (fun k_ => P0_ k_)) ∧ Aside0 (Below w0.heap.size w0 w'))
 case atStart => exact ⟨(l0), H', ⟨Nat.le_refl _⟩, ⟨by (with_reducible repeat (first | apply Kd.R_alloc | apply Kd.R_drewN | apply Kd.R_drew)); exact HO0.out⟩, ⟨ZK⟩, ⟨ZB⟩⟩
 case round =>
  clear H'
  obtain ⟨x0_1, HA, HK1, HO_0, HK, HB⟩ := hrel
  cases gk with
  | zero => exact absurd HA.out (by simp [galoisref01_trim.l0])
  | succ k1 =>
   have H := HA.out
   clear HA
   simp only [galoisref01_trim.l0] at H
   by_cases c2 : (x0_1.length : Int) > 0
   ·rw [if_pos c2] at H
    have c2b0 : decide (0 < (x0_1.length : Int)) = true := decide_eq_true c2
    have c2b1 : decide (0 < x0_1.length) = true := decide_eq_true (by omega)
    clear c2
    obtain ⟨ji3, hji3⟩ : ∃ j_ : Int, (wrap64 ((x0_1.length : Int) - 1)) = j_ := ⟨_, rfl⟩
    (first | rw [hji3] at H | simp only [hji3] at H)
    have hji3w : (IntKind.i64.wrap ((x0_1.length : Int) - 1)) = ji3 := (i64_w _).trans hji3
    obtain ⟨c4, H⟩ := ZI H
    have c4b0 : decide (0 ≤ (ji3)) = true := decide_eq_true c4
    clear c4
    obtain ⟨c5, H⟩ := ZI H
    have c5b0 : decide ((ji3) < (x0_1.length : Int)) = true := decide_eq_true c5
    clear c5
    by_cases c6 : (rd x0_1 (ji3)) = 0
    ·rw [if_pos c6] at H
     have c6b0 : ((rd x0_1 (ji3)) == 0) = true := beq_iff_eq.mpr c6
     have c6b1 : ((rd x0_1 (ji3)) != 0) = false := bne_eq_false_iff_eq.mpr c6
     clear c6
     obtain ⟨c7, H⟩ := ZI H
     have c7b0 := eq_true c7
     have c7b1 : decide ((ji3) ≤ (x0_1.length : Int)) = true := decide_eq_true c7
     clear c7
     obtain ⟨y430, hy430⟩ : ∃ y_ : List Int, y_ = (x0_1.take ((ji3) : Int).toNat) := ⟨_, rfl⟩
     replace H : (galoisref01_trim.l0 k1 y430) = some r := ZH hy430 H
     have Ny430 := Aside0.mk hy430
     clear hy430
     have H' := Aside0.mk H
     clear H
     obtain ⟨Ao8, co8, eo8⟩ := Kd.R_slice HO_0.out
     subst eo8
     have p429 : 0 ≤ ((ji3) : Int) := of_decide_eq_true ZD
     have q429 : (ji3) < (x0_1.length : Int) := of_decide_eq_true ZD
     obtain ⟨ad429, e429, hx429_0⟩ := Kd.at_int (Kd.R_reads' HO_0.out).2.2 (ji3) p429 q429
     cases e429
     replace p429 := eq_true p429
     replace q429 := eq_true q429
     have q9 : ((ji3) : Int) ≤ ((x0_1.length : Int) : Int) := of_decide_eq_true ZD
     obtain ⟨i09, hi09, _, hsz9, _⟩ := info_parts info49
     have hcut9 := cut_to (P := Try.prog) 68 49 .i64 Try.underlying68 hi09 (some ad429) x0_1.length co8 (ji3) (of_decide_eq_true ZD) q9 (Kd.R_reads' HO_0.out).2.1
     have hr9 := Kd.R_take (m := ((ji3) : Int).toNat) HO_0.out (by omega)
     have hy9 : y430.length = ((ji3) : Int).toNat := (by rw [Ny430.out, List.length_take]; omega)
     rw [← Ny430.out] at hr9
     rw [← hy9] at hr9 hcut9
     clear hy9 hi09 hsz9 HO_0
     have HO432 := Aside0.mk hr9
     clear hr9
     replace q9 := eq_true q9
     go_wp2
     go_roundg k1
     case measure => have := HK1.out; omega
     case rel => exact ⟨(y430), H', ⟨by have := HK1.out; omega⟩, ⟨by (with_reducible repeat (first | apply Kd.R_alloc | apply Kd.R_drewN | apply Kd.R_drew)); exact HO432.out⟩, ⟨ZK⟩, ⟨ZB⟩⟩
    ·rw [if_neg c6] at H
     have c6b0 : ((rd x0_1 (ji3)) == 0) = false := beq_eq_false_iff_ne.mpr c6
     have c6b1 : ((rd x0_1 (ji3)) != 0) = true := bne_iff_ne.mpr c6
     obtain rfl := Option.some.inj H
     obtain ⟨Ao10, co10, eo10⟩ := Kd.R_slice HO_0.out
     subst eo10
     have p429 : 0 ≤ ((ji3) : Int) := of_decide_eq_true ZD
     have q429 : (ji3) < (x0_1.length : Int) := of_decide_eq_true ZD
     obtain ⟨ad429, e429, hx429_0⟩ := Kd.at_int (Kd.R_reads' HO_0.out).2.2 (ji3) p429 q429
     cases e429
     replace p429 := eq_true p429
     replace q429 := eq_true q429
     go_wp2
     go_ret
     exact ⟨_, by first | rfl | (simp [errW_none, errW_some] <;> rfl) | (simp only [← hji3]; first | rfl | (simp [errW_none, errW_some] <;> rfl)) | (simp [*, errW_none, errW_some] <;> rfl), by (with_reducible repeat (first | apply Kd.R_alloc | apply Kd.R_drewN | apply Kd.R_drew)); exact HO_0.out, ZB, ZK⟩
   ·rw [if_neg c2] at H
    have c2b0 : decide (0 < (x0_1.length : Int)) = false := decide_eq_false c2
    have c2b1 : decide (0 < x0_1.length) = false := decide_eq_false (by omega)
    clear c2
    obtain rfl := Option.some.inj H
    obtain ⟨Ao11, co11, eo11⟩ := Kd.R_slice HO_0.out
    subst eo11
    go_wp2
    go_ret
    exact ⟨_, ZE, by (with_reducible repeat (first | apply Kd.R_alloc | apply Kd.R_drewN | apply Kd.R_drew)); exact HO_0.out, ZB, ZK⟩
mutual
def galoisref01_limbs.l0 : Nat → ByteArray → List Int → Int → Option (List Int)
 | 0, _, _, _ => none
 | k + 1, x0, x3, x4 => if x4 > 0 then (galoisref01_limbs.l1 k x0 x3 x4 0 (mx 0 (wrap64 (x4 - 4)))) else ((galoisref01_trim.f k x3).bind fun t433 => (some t433))
def galoisref01_limbs.l1 : Nat → ByteArray → List Int → Int → Int → Int → Option (List Int)
 | 0, _, _, _, _, _ => none
 | k + 1, x0, x3, x4, x5, x6 => if x6 < x4 then (if 0 ≤ x6 then (if x6 < (x0.size : Int) then (galoisref01_limbs.l1 k x0 x3 x4 (IntKind.u64.wrap ((IntKind.u64.wrap (x5 * 256)) + (IntKind.u64.wrap (bt x0 x6)))) (wrap64 (x6 + 1))) else (none)) else (none)) else (if x3.length < 17592186044416 then (galoisref01_limbs.l0 k x0 (x3 ++ [x5]) (wrap64 (x4 - 4))) else (none))
end
def galoisref01_limbs.f (k : Nat) (a0 : ByteArray) : Option (List Int) := galoisref01_limbs.l0 k a0 ([] : List Int) (a0.size : Int)
theorem galoisref01_limbs.U1 {g : Prop} (h : g := by
 repeat' first
 | (with_reducible exact ih0 _ _ _)
 | (with_reducible exact ih1 _ _ _ _ _)
 | (with_reducible exact galoisref01_trim.mono _ _)
 | (with_reducible exact LeO.refl _)
 | (with_reducible exact LeO.none _)
 | (with_reducible refine LeO.ite ?_ ?_)
 | (with_reducible refine LeO.bind ?_ (fun _ => ?_))) : g := h
theorem galoisref01_limbs.mono_l : ∀ k, (∀ y0 y1 y2, LeO (galoisref01_limbs.l0 k y0 y1 y2) (galoisref01_limbs.l0 (k + 1) y0 y1 y2)) ∧ (∀ y0 y1 y2 y3 y4, LeO (galoisref01_limbs.l1 k y0 y1 y2 y3 y4) (galoisref01_limbs.l1 (k + 1) y0 y1 y2 y3 y4))
 | 0 => ⟨fun _ _ _ r h => by simp [galoisref01_limbs.l0] at h, fun _ _ _ _ _ r h => by simp [galoisref01_limbs.l1] at h⟩
 | k + 1 => by
  obtain ⟨ih0, ih1⟩ := galoisref01_limbs.mono_l k
  refine ⟨?_, ?_⟩
  ·intro y0 y1 y2
   unfold galoisref01_limbs.l0
   exact galoisref01_limbs.U1
  ·intro y0 y1 y2 y3 y4
   unfold galoisref01_limbs.l1
   exact galoisref01_limbs.U1
theorem galoisref01_limbs.mono : ∀ a0 k, LeO (galoisref01_limbs.f k a0) (galoisref01_limbs.f (k + 1) a0) := by
 intro a0 k
 obtain ⟨ih0, ih1⟩ := galoisref01_limbs.mono_l k
 unfold galoisref01_limbs.f
 exact galoisref01_limbs.U1
set_option maxHeartbeats 8000000 in
set_option maxRecDepth 100000 in
theorem galoisref01_limbs.calls (k : Nat) (a0 : ByteArray) (r : List Int) (w : World) (h : galoisref01_limbs.f k a0 = some r) :
  Calls Try.prog 51 #[.string a0] w fun e w' => ∃ v0_ : Value, e = .returned (v0_) ∧ Kd.R (Kd.int .u64) 49 w' w.heap.size (fun _ => True) v0_ r ∧ Below w.heap.size w w' := by
 have HB := Aside0.mk (Below.refl w.heap.size w)
 have H := h
 unfold galoisref01_limbs.f at H
 clear h
 have H' := Aside0.mk H
 clear H
 go_enter Try.func51, Try.ntmps51
 go_wp2
 go_loopg [3, 4] k (fun kq v3 v4 w' => ∃ (x3_1 : List Int) (x4_1 : Int), v4 = .int .i64 x4_1 ∧ Aside0 (galoisref01_limbs.l0 kq a0 x3_1 x4_1 = some r) ∧ Aside0 (kq ≤ k) ∧ Aside0 (Kd.R (Kd.int .u64) 49 w' w.heap.size (fun _ => True) v3 x3_1) ∧ Aside0 (Below w.heap.size w w'))
 case atStart => exact ⟨(([] : List Int)), ((a0.size : Int)), ZS, H', ⟨Nat.le_refl _⟩, ⟨by first | exact Kd.R_nil _ _ _ _ _ | exact Kd.N_nil _ _ _ _ _ | exact Kd.V_nil _ _ _ _ _ | exact Kd.Q_nil _ _ _ _ _ | exact Kd.S_nil _ _ _ _ _⟩, ⟨ZB⟩⟩
 case round =>
  clear H'
  obtain ⟨x3_1, x4_1, rfl, HA, HK1, HO_3, HB⟩ := hrel
  cases gk with
  | zero => exact absurd HA.out (by simp [galoisref01_limbs.l0])
  | succ k1 =>
   have H := HA.out
   clear HA
   simp only [galoisref01_limbs.l0] at H
   by_cases c2 : x4_1 > 0
   ·rw [if_pos c2] at H
    have c2b0 : decide (0 < x4_1) = true := decide_eq_true c2
    clear c2
    obtain ⟨ji3, hji3⟩ : ∃ j_ : Int, (mx 0 (wrap64 (x4_1 - 4))) = j_ := ⟨_, rfl⟩
    (first | rw [hji3] at H | simp only [hji3] at H)
    have hji3_ : (if 0 < (wrap64 (x4_1 - 4)) then (wrap64 (x4_1 - 4)) else 0) = ji3 := hji3
    have H' := Aside0.mk H
    clear H
    go_wp2
    go_loopg [5, 6] k1 (fun kq v5 v6 w' => ∃ (x5_2 : Int) (x6_2 : Int), v5 = .int .u64 x5_2 ∧ v6 = .int .i64 x6_2 ∧ Aside0 (galoisref01_limbs.l1 kq a0 x3_1 x4_1 x5_2 x6_2 = some r) ∧ Aside0 (kq ≤ k1) ∧ Aside0 (Kd.R (Kd.int .u64) 49 w' w.heap.size (fun _ => True) u3 x3_1) ∧ Aside0 (Below w.heap.size w w'))
    case atStart => exact ⟨(0), (ji3), ZS, (by first | rfl | (simp; done) | (simp only [← hji3] <;> (first | rfl | simp)) | (simp [*]; done)), H', ⟨Nat.le_refl _⟩, ⟨by (with_reducible repeat (first | apply Kd.R_alloc | apply Kd.R_drewN | apply Kd.R_drew)); exact HO_3.out⟩, ⟨ZB⟩⟩
    case round =>
     clear H'
     try clear c2
     try clear c2b0
     obtain ⟨x5_2, x6_2, rfl, rfl, HA, HK2, HO_3, HB⟩ := hrel
     cases gk with
     | zero => exact absurd HA.out (by simp [galoisref01_limbs.l1])
     | succ k2 =>
      have H := HA.out
      clear HA
      simp only [galoisref01_limbs.l1] at H
      by_cases c4 : x6_2 < x4_1
      ·rw [if_pos c4] at H
       have c4b0 : decide (x6_2 < x4_1) = true := decide_eq_true c4
       clear c4
       obtain ⟨c5, H⟩ := ZI H
       have c5b0 : decide (0 ≤ x6_2) = true := decide_eq_true c5
       clear c5
       obtain ⟨c6, H⟩ := ZI H
       have c6b0 : decide (x6_2 < (a0.size : Int)) = true := decide_eq_true c6
       clear c6
       have H' := Aside0.mk H
       clear H
       have p7 : 0 ≤ (x6_2 : Int) := of_decide_eq_true ZD
       have q7 : x6_2 < (a0.size : Int) := of_decide_eq_true ZD
       have hx7 := bt_at a0 x6_2
       replace p7 := eq_true p7
       replace q7 := eq_true q7
       go_wp2
       go_roundg k2
       case measure => have := HK1.out; have := HK2.out; omega
       case rel => exact ⟨(IntKind.u64.wrap ((IntKind.u64.wrap (x5_2 * 256)) + (IntKind.u64.wrap (bt a0 x6_2)))), (wrap64 (x6_2 + 1)), ZS, ZS, H', ⟨by have := HK1.out; have := HK2.out; omega⟩, ⟨by (with_reducible repeat (first | apply Kd.R_alloc | apply Kd.R_drewN | apply Kd.R_drew)); exact HO_3.out⟩, ⟨ZB⟩⟩
      ·rw [if_neg c4] at H
       have c4b0 : decide (x6_2 < x4_1) = false := decide_eq_false c4
       clear c4
       obtain ⟨c8, H⟩ := ZI H
       have LMc8 := Aside0.mk c8
       clear c8
       obtain ⟨y436, hy436⟩ : ∃ y_ : List Int, y_ = (x3_1 ++ [x5_2]) := ⟨_, rfl⟩
       replace H : (galoisref01_limbs.l0 k2 a0 y436 (wrap64 (x4_1 - 4))) = some r := ZH hy436 H
       have Ny436 := Aside0.mk hy436
       clear hy436
       have H' := Aside0.mk H
       clear H
       go_wp2_with (first | ((with_reducible refine gate_builtin (b := .append) (xs := #[.tmp 28, .tmp 30]) rfl ?_); at_builtin; refine Kd.R_append (Kd.int .u64) (w0 := w) w.heap.size rfl (.tmp 28) (.tmp 30) 68 49 (.int .u64 0) 8 rfl Try.underlying68 info49 rfl (by decide) (by omega) u3 x3_1 x5_2 [.int .u64 x5_2] (fun _ => True) (fun _ => False) rfl rfl ?aP (fun _ hk => hk.elim) ?aF ?aO ?aB ?aS ?aL ?_; (case aP => exact rfl); (case aB => exact ZB); (case aF => exact (fun _ _ => trivial)); (case aO => exact (ZR HO_3.out)); (case aS => exact (below_size ZB)); (case aL => have := LMc8.out; omega); intro v437 w9 ho hb hg hat; rw [← Ny436.out] at ho; replace HB := Aside0.mk (hb); have HO438 := Aside0.mk (ho); clear HO_3; clear ho hb hg hat))
       go_roundg k2
       case measure => have := HK1.out; have := HK2.out; omega
       case rel => exact ⟨(y436), (wrap64 (x4_1 - 4)), ZS, H', ⟨by have := HK1.out; have := HK2.out; omega⟩, ⟨by (with_reducible repeat (first | apply Kd.R_alloc | apply Kd.R_drewN | apply Kd.R_drew)); exact HO438.out⟩, ⟨ZB⟩⟩
   ·rw [if_neg c2] at H
    have c2b0 : decide (0 < x4_1) = false := decide_eq_false c2
    clear c2
    obtain ⟨t433, A10, H⟩ := ZO H
    obtain rfl := Option.some.inj H
    obtain ⟨Ao11, co11, eo11⟩ := Kd.R_slice HO_3.out
    subst eo11
    go_wp2_with (first | ((with_reducible refine gate_callee (f := 68) rfl ?_); refine goesL_ (some 33) rfl rfl Try.func68 (by kernel_rfl) rfl #[.slice Ao11 x3_1.length co11] rfl ZA ?_; (with_reducible refine (galoisref01_trim.calls k1 (fun k_ => some k_ = (.slice Ao11 x3_1.length co11 : Value).ownBlock) (.slice Ao11 x3_1.length co11) x3_1 t433 w _ ?side1 ?side2 A10.out).mono ?_); (case side1 => repeat (first | (with_reducible first | exact HB.out | apply below_alloc | apply pw_below_drewN | apply below_drew1) | exact HB.out)); (case side2 => exact Kd.R_tight rfl HO_3.out); rintro e w12 ⟨v434, rfl, ho0, hb, hkp⟩; refine ⟨_, rfl, ?_⟩; have HO435 := Aside0.mk (Kd.R_mono (ok' := fun k_ => True) ho0 (fun k_ hk_ => trivial)); replace HB := Aside0.mk (hb); clear HO_3; (try clear hb); (try clear hkp); (try clear ho0)))
    go_ret
    exact ⟨_, ZE, by (with_reducible repeat (first | apply Kd.R_alloc | apply Kd.R_drewN | apply Kd.R_drew)); exact HO435.out, ZB⟩
end Go.Proofs.Ytohkmnbnjacfaaa.All
namespace Go.Proofs.Ytohkmnbnjacfaaa.All
open Go.Proofs.YtohkmnbnjacfaaaX
open Go.RowKit Go.Proofs.YtohkmnbnjacfaaaW.PrintWords Go.Proofs.YtohkmnbnjacfaaaW.PrintLast Go.Proofs.YtohkmnbnjacfaaaW.PrintMore
attribute [local go_sem] max2_int min2_int max_two min_two max_three min_three max_four min_four
set_option linter.unusedVariables false
set_option linter.unusedSimpArgs false
end Go.Proofs.Ytohkmnbnjacfaaa.All
namespace Go.Proofs.Ytohkmnbnjacfaaa.All
open Go.Proofs.YtohkmnbnjacfaaaX
open Go.RowKit Go.Proofs.YtohkmnbnjacfaaaW.PrintWords Go.Proofs.YtohkmnbnjacfaaaW.PrintLast Go.Proofs.YtohkmnbnjacfaaaW.PrintMore
attribute [local go_sem] max2_int min2_int max_two min_two max_three min_three max_four min_four
set_option linter.unusedVariables false
set_option linter.unusedSimpArgs false
end Go.Proofs.Ytohkmnbnjacfaaa.All
namespace Go.Proofs.Ytohkmnbnjacfaaa.All
open Go.Proofs.YtohkmnbnjacfaaaX
open Go.RowKit Go.Proofs.YtohkmnbnjacfaaaW.PrintWords Go.Proofs.YtohkmnbnjacfaaaW.PrintLast Go.Proofs.YtohkmnbnjacfaaaW.PrintMore
attribute [local go_sem] max2_int min2_int max_two min_two max_three min_three max_four min_four
set_option linter.unusedVariables false
set_option linter.unusedSimpArgs false
end Go.Proofs.Ytohkmnbnjacfaaa.All
namespace Go.Proofs.Ytohkmnbnjacfaaa.All
open Go.Proofs.YtohkmnbnjacfaaaX
open Go.RowKit Go.Proofs.YtohkmnbnjacfaaaW.PrintWords Go.Proofs.YtohkmnbnjacfaaaW.PrintLast Go.Proofs.YtohkmnbnjacfaaaW.PrintMore
attribute [local go_sem] max2_int min2_int max_two min_two max_three min_three max_four min_four
set_option linter.unusedVariables false
set_option linter.unusedSimpArgs false
end Go.Proofs.Ytohkmnbnjacfaaa.All
namespace Go.Proofs.Ytohkmnbnjacfaaa.All
open Go.Proofs.YtohkmnbnjacfaaaX
open Go.RowKit Go.Proofs.YtohkmnbnjacfaaaW.PrintWords Go.Proofs.YtohkmnbnjacfaaaW.PrintLast Go.Proofs.YtohkmnbnjacfaaaW.PrintMore
attribute [local go_sem] max2_int min2_int max_two min_two max_three min_three max_four min_four
set_option linter.unusedVariables false
set_option linter.unusedSimpArgs false
def exact_NatMul.f (k : Nat) (a0 : ByteArray) (a1 : ByteArray) : Option (ByteArray) := (exact_words.f k a0).bind fun t595 => ((exact_words.f k a1).bind fun t598 => ((exact_mulWords.f k t595 t598).bind fun t601 => ((exact_pack.f k t601).bind fun t604 => (some t604))))
theorem exact_NatMul.mono : ∀ a0 a1 k, LeO (exact_NatMul.f k a0 a1) (exact_NatMul.f (k + 1) a0 a1) := by
 intro a0 a1 k
 unfold exact_NatMul.f
 repeat' first
   | (with_reducible exact exact_mulWords.mono _ _ _)
   | (with_reducible exact exact_pack.mono _ _)
   | (with_reducible exact exact_words.mono _ _)
   | (with_reducible exact LeO.refl _)
   | (with_reducible exact LeO.none _)
   | (with_reducible refine LeO.ite ?_ ?_)
   | (with_reducible refine LeO.bind ?_ (fun _ => ?_))
set_option maxHeartbeats 8000000 in
set_option maxRecDepth 100000 in
theorem exact_NatMul.calls (k : Nat) (a0 : ByteArray) (a1 : ByteArray) (r : ByteArray) (w : World) (h : exact_NatMul.f k a0 a1 = some r) :
  Calls Try.prog 62 #[.string a0, .string a1] w fun e w' => e = .returned (.string r) ∧ Below w.heap.size w w' := by
 have HB := Aside0.mk (Below.refl w.heap.size w)
 have H := h
 unfold exact_NatMul.f at H
 clear h
 obtain ⟨t595, A3, H⟩ := ZO H
 obtain ⟨t598, A4, H⟩ := ZO H
 obtain ⟨t601, A5, H⟩ := ZO H
 obtain ⟨t604, A6, H⟩ := ZO H
 obtain rfl := Option.some.inj H
 go_enter Try.func62, Try.ntmps62
 go_wp2_with (first | ((with_reducible refine gate_callee (f := 70) rfl ?_); refine goesL_ (some 6) rfl rfl Try.func70 (by kernel_rfl) rfl #[.string a0] rfl ZA ?_; (with_reducible refine (exact_words.calls k a0 t595 _ A3.out).mono ?_); rintro e w7 ⟨v596, rfl, ho0, hb⟩; refine ⟨_, rfl, ?_⟩; have HO597 := Aside0.mk (Kd.R_lower ho0 (below_size ZB)); replace HB := Aside0.mk (below_step ZB hb); (try clear hb); (try clear ho0)) | ((with_reducible refine gate_callee (f := 70) rfl ?_); refine goesL_ (some 8) rfl rfl Try.func70 (by kernel_rfl) rfl #[.string a1] rfl ZA ?_; (with_reducible refine (exact_words.calls k a1 t598 _ A4.out).mono ?_); rintro e w8 ⟨v599, rfl, ho0, hb⟩; refine ⟨_, rfl, ?_⟩; have HO600 := Aside0.mk (Kd.R_lower (Kd.R_new' ho0 (Kd.R_lt (ZR HO597.out))) (below_size ZB)); replace HO597 := Aside0.mk (Kd.R_elder' (ZR HO597.out) (Kd.R_base ho0) hb); replace HB := Aside0.mk (below_step ZB hb); (try clear hb); (try clear ho0); obtain ⟨Ao9, co9, eo9⟩ := Kd.R_slice HO597.out; subst eo9; obtain ⟨Ao10, co10, eo10⟩ := Kd.R_slice HO600.out; subst eo10) | ((with_reducible refine gate_callee (f := 73) rfl ?_); refine goesL_ (some 9) rfl rfl Try.func73 (by kernel_rfl) rfl #[.slice Ao9 t595.length co9, .slice Ao10 t598.length co10] rfl ZA ?_; (with_reducible refine (exact_mulWords.calls k _ _ t595 _ _ t598 t601 _ ?side1 ?side2 ?side3 ?side4 A5.out).mono ?_); (case side1 => exact ZC (Kd.R_reads' HO597.out).2.2); (case side2 => exact (Kd.R_reads' HO597.out).2.1); (case side3 => exact ZC (Kd.R_reads' HO600.out).2.2); (case side4 => exact (Kd.R_reads' HO600.out).2.1); rintro e w11 ⟨v602, rfl, ho0, hb⟩; refine ⟨_, rfl, ?_⟩; have HO603 := Aside0.mk (Kd.R_lower (Kd.R_new' (Kd.R_new' ho0 (Kd.R_lt (ZR HO597.out))) (Kd.R_lt (ZR HO600.out))) (below_size ZB)); replace HO597 := Aside0.mk (Kd.R_elder' (ZR HO597.out) (Kd.R_base ho0) hb); replace HO600 := Aside0.mk (Kd.R_elder' (ZR HO600.out) (Kd.R_base ho0) hb); replace HB := Aside0.mk (below_step ZB hb); (try clear hb); (try clear ho0); obtain ⟨Ao12, co12, eo12⟩ := Kd.R_slice HO603.out; subst eo12) | ((with_reducible refine gate_callee (f := 71) rfl ?_); refine goesL_ (some 10) rfl rfl Try.func71 (by kernel_rfl) rfl #[.slice Ao12 t601.length co12] rfl ZA ?_; (with_reducible refine (exact_pack.calls k (fun k_ => some k_ = (.slice Ao12 t601.length co12 : Value).ownBlock) (.slice Ao12 t601.length co12) t601 t604 w _ ?side1 ?side2 A6.out).mono ?_); (case side1 => repeat (first | (with_reducible first | exact HB.out | apply below_alloc | apply pw_below_drewN | apply below_drew1) | exact HB.out)); (case side2 => exact Kd.R_tight rfl HO603.out); rintro e w13 ⟨rfl, hb, hkp⟩; refine ⟨_, rfl, ?_⟩; replace HO597 := Aside0.mk (Kd.R_mono (ok' := fun k_ => some k_ ≠ (.slice Ao10 t598.length co10 : Value).ownBlock) (Kd.R_keptB (HO597.out) hkp (fun k_ hk_ hs_ => (hk_.2) hs_)) (fun k_ hk_ => hk_.1.1.2)); replace HO600 := Aside0.mk (Kd.R_mono (ok' := fun k_ => some k_ ≠ (.slice Ao9 t595.length co9 : Value).ownBlock) (Kd.R_keptB (HO600.out) hkp (fun k_ hk_ hs_ => (hk_.2) hs_)) (fun k_ hk_ => hk_.1.1.2)); replace HB := Aside0.mk (hb); clear HO603; (try clear hb); (try clear hkp)))
 go_ret
 exact ⟨ZE, ZB⟩
end Go.Proofs.Ytohkmnbnjacfaaa.All
namespace Go.Proofs.Ytohkmnbnjacfaaa.All
open Go.Proofs.YtohkmnbnjacfaaaX
open Go.RowKit Go.Proofs.YtohkmnbnjacfaaaW.PrintWords Go.Proofs.YtohkmnbnjacfaaaW.PrintLast Go.Proofs.YtohkmnbnjacfaaaW.PrintMore
attribute [local go_sem] max2_int min2_int max_two min_two max_three min_three max_four min_four
set_option linter.unusedVariables false
set_option linter.unusedSimpArgs false
end Go.Proofs.Ytohkmnbnjacfaaa.All
namespace Go.Proofs.Ytohkmnbnjacfaaa.All
open Go.Proofs.YtohkmnbnjacfaaaX
open Go.RowKit Go.Proofs.YtohkmnbnjacfaaaW.PrintWords Go.Proofs.YtohkmnbnjacfaaaW.PrintLast Go.Proofs.YtohkmnbnjacfaaaW.PrintMore
attribute [local go_sem] max2_int min2_int max_two min_two max_three min_three max_four min_four
set_option linter.unusedVariables false
set_option linter.unusedSimpArgs false
end Go.Proofs.Ytohkmnbnjacfaaa.All
namespace Go.Proofs.Ytohkmnbnjacfaaa.All
open Go.Proofs.YtohkmnbnjacfaaaX
open Go.RowKit Go.Proofs.YtohkmnbnjacfaaaW.PrintWords Go.Proofs.YtohkmnbnjacfaaaW.PrintLast Go.Proofs.YtohkmnbnjacfaaaW.PrintMore
attribute [local go_sem] max2_int min2_int max_two min_two max_three min_three max_four min_four
set_option linter.unusedVariables false
set_option linter.unusedSimpArgs false
end Go.Proofs.Ytohkmnbnjacfaaa.All
namespace Go.Proofs.Ytohkmnbnjacfaaa.All
open Go.Proofs.YtohkmnbnjacfaaaX
open Go.RowKit Go.Proofs.YtohkmnbnjacfaaaW.PrintWords Go.Proofs.YtohkmnbnjacfaaaW.PrintLast Go.Proofs.YtohkmnbnjacfaaaW.PrintMore
attribute [local go_sem] max2_int min2_int max_two min_two max_three min_three max_four min_four
set_option linter.unusedVariables false
set_option linter.unusedSimpArgs false
def exact_NatUint.f (k : Nat) (a0 : ByteArray) : Option (Int × Bool) := (exact_words.f k a0).bind fun t779 => (if (t779.length : Int) > 1 then (some (0, false)) else (if (t779.length : Int) = 0 then (some (0, true)) else (if 0 < (t779.length : Int) then (some (rd t779 0, true)) else (none))))
theorem exact_NatUint.mono : ∀ a0 k, LeO (exact_NatUint.f k a0) (exact_NatUint.f (k + 1) a0) := by
 intro a0 k
 unfold exact_NatUint.f
 repeat' first
   | (with_reducible exact exact_words.mono _ _)
   | (with_reducible exact LeO.refl _)
   | (with_reducible exact LeO.none _)
   | (with_reducible refine LeO.ite ?_ ?_)
   | (with_reducible refine LeO.bind ?_ (fun _ => ?_))
theorem exact_NatUint.M1 {g : Prop} (h : g := by
 go_enter Try.func66, Try.ntmps66
 go_wp2_with (first | ((with_reducible refine gate_callee (f := 70) rfl ?_); refine goesL_ (some 6) rfl rfl Try.func70 (by kernel_rfl) rfl #[.string a0] rfl ZA ?_; (with_reducible refine (exact_words.calls k a0 t779 _ A2.out).mono ?_); rintro e w9001 ⟨v9002, rfl, ho9003, hb⟩; refine ⟨_, rfl, ?_⟩; have HO9004 := Aside0.mk (Kd.R_lower ho9003 (below_size ZB)); replace HB := Aside0.mk (below_step ZB hb); (try clear hb); (try clear ho9003); obtain ⟨Ao9005, co9006, eo9007⟩ := Kd.R_slice HO9004.out; subst eo9007; have p782 : 0 ≤ (0 : Int) := (by omega); have q782 : 0 < (t779.length : Int) := of_decide_eq_true ZD; obtain ⟨ad9008, e9009, hx9010⟩ := Kd.at_int (Kd.R_reads' HO9004.out).2.2 0 p782 q782; cases e9009; have qi782 : (0 < t779.length) = True := eq_true (by omega); (try rw [show ((0 : Int)).toNat = 0 from rfl] at hx9010); (try rw [Addr.add_zero'] at hx9010); replace p782 := eq_true p782; replace q782 := eq_true q782) | ((with_reducible refine gate_callee (f := 70) rfl ?_); refine goesL_ (some 6) rfl rfl Try.func70 (by kernel_rfl) rfl #[.string a0] rfl ZA ?_; (with_reducible refine (exact_words.calls k a0 t779 _ A2.out).mono ?_); rintro e w9001 ⟨v9002, rfl, ho9003, hb⟩; refine ⟨_, rfl, ?_⟩; have HO9004 := Aside0.mk (Kd.R_lower ho9003 (below_size ZB)); replace HB := Aside0.mk (below_step ZB hb); (try clear hb); (try clear ho9003); obtain ⟨Ao9005, co9006, eo9007⟩ := Kd.R_slice HO9004.out; subst eo9007))
 go_ret2
 exact ⟨ZE, ZB⟩) : g := h
set_option maxHeartbeats 8000000 in
set_option maxRecDepth 100000 in
theorem exact_NatUint.calls (k : Nat) (a0 : ByteArray) (r1 : Int) (r2 : Bool) (w : World) (h : exact_NatUint.f k a0 = some (r1, r2)) :
  Calls Try.prog 66 #[.string a0] w fun e w' => e = .returned (.tuple #[.int .u64 r1, .bool r2]) ∧ Below w.heap.size w w' := by
 have HB := Aside0.mk (Below.refl w.heap.size w)
 have H := h
 unfold exact_NatUint.f at H
 clear h
 obtain ⟨t779, A2, H⟩ := ZO H
 by_cases c3 : (t779.length : Int) > 1
 ·rw [if_pos c3] at H
  have c3b0 : decide (1 < (t779.length : Int)) = true := decide_eq_true c3
  have c3b1 : decide (1 < t779.length) = true := decide_eq_true (by omega)
  clear c3
  simp only [Option.some.injEq, Prod.mk.injEq] at H
  obtain ⟨rfl, rfl⟩ := H
  exact exact_NatUint.M1
 ·rw [if_neg c3] at H
  have c3b0 : decide (1 < (t779.length : Int)) = false := decide_eq_false c3
  have c3b1 : decide (1 < t779.length) = false := decide_eq_false (by omega)
  clear c3
  by_cases c6 : (t779.length : Int) = 0
  ·rw [if_pos c6] at H
   have c6b0 : ((t779.length : Int) == 0) = true := beq_iff_eq.mpr c6
   have c6b1 : ((t779.length : Int) != 0) = false := bne_eq_false_iff_eq.mpr c6
   clear c6
   simp only [Option.some.injEq, Prod.mk.injEq] at H
   obtain ⟨rfl, rfl⟩ := H
   exact exact_NatUint.M1
  ·rw [if_neg c6] at H
   have c6b0 : ((t779.length : Int) == 0) = false := beq_eq_false_iff_ne.mpr c6
   have c6b1 : ((t779.length : Int) != 0) = true := bne_iff_ne.mpr c6
   have c6b2 : ¬ (t779 = []) := fun h_ => c6 (by rw [h_]; rfl)
   by_cases c9 : 0 < (t779.length : Int)
   ·rw [if_pos c9] at H
    have c9b0 : decide (0 < (t779.length : Int)) = true := decide_eq_true c9
    have c9b1 : decide (0 < t779.length) = true := decide_eq_true (by omega)
    clear c9
    simp only [Option.some.injEq, Prod.mk.injEq] at H
    obtain ⟨rfl, rfl⟩ := H
    exact exact_NatUint.M1
   ·rw [if_neg c9] at H
    exact absurd H (by simp)
end Go.Proofs.Ytohkmnbnjacfaaa.All
namespace Go.Proofs.Ytohkmnbnjacfaaa.All
open Go.Proofs.YtohkmnbnjacfaaaX
open Go.RowKit Go.Proofs.YtohkmnbnjacfaaaW.PrintWords Go.Proofs.YtohkmnbnjacfaaaW.PrintLast Go.Proofs.YtohkmnbnjacfaaaW.PrintMore
attribute [local go_sem] max2_int min2_int max_two min_two max_three min_three max_four min_four
set_option linter.unusedVariables false
set_option linter.unusedSimpArgs false
end Go.Proofs.Ytohkmnbnjacfaaa.All
