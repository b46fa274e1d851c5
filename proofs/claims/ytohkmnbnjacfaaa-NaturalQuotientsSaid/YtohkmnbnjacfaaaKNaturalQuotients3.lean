/- Part of the proof of the statement NaturalQuotients: lemmas on the model's steps, Lean functions that say what the program's functions compute, and proofs that the calls do just that. No hypothesis is added. -/
import Derived.Test.YtohkmnbnjacfaaaKNaturalQuotients2
set_option linter.all false
namespace Go.Proofs.Ytohkmnbnjacfaaa.All
open Go.Proofs.YtohkmnbnjacfaaaX
open Go.RowKit Go.Proofs.YtohkmnbnjacfaaaW.PrintWords Go.Proofs.YtohkmnbnjacfaaaW.PrintLast Go.Proofs.YtohkmnbnjacfaaaW.PrintMore
attribute [local go_sem] max2_int min2_int max_two min_two max_three min_three max_four min_four
set_option linter.unusedVariables false
set_option linter.unusedSimpArgs false
def exact_NatPow.l0 : Nat → Int → List Int → List Int → Option (ByteArray)
 | 0, _, _, _ => none
 | k + 1, x1, x5, x6 => if x1 > 0 then (if (Go.bits .and .i64 x1 1) = 1 then ((exact_mulWords.f k x5 x6).bind fun t301 => ((exact_mulWords.f k x6 x6).bind fun t304 => (exact_NatPow.l0 k (x1 / 2) t301 t304))) else ((exact_mulWords.f k x6 x6).bind fun t307 => (exact_NatPow.l0 k (x1 / 2) x5 t307))) else ((exact_pack.f k x5).bind fun t300 => (some t300))
def exact_NatPow.f (k : Nat) (a0 : ByteArray) (a1 : Int) : Option (ByteArray) := (exact_words.f k a0).bind fun t297 => (exact_NatPow.l0 k a1 (([1] : List Int)) t297)
theorem exact_NatPow.mono_l : ∀ k, (∀ y0 y1 y2, LeO (exact_NatPow.l0 k y0 y1 y2) (exact_NatPow.l0 (k + 1) y0 y1 y2))
 | 0 => fun _ _ _ r h => by simp [exact_NatPow.l0] at h
 | k + 1 => by
  have ih0 := exact_NatPow.mono_l k
  ·intro y0 y1 y2
   unfold exact_NatPow.l0
   repeat' first
   | (with_reducible exact ih0 _ _ _)
   | (with_reducible exact exact_mulWords.mono _ _ _)
   | (with_reducible exact exact_pack.mono _ _)
   | (with_reducible exact exact_words.mono _ _)
   | (with_reducible exact LeO.refl _)
   | (with_reducible exact LeO.none _)
   | (with_reducible refine LeO.ite ?_ ?_)
   | (with_reducible refine LeO.bind ?_ (fun _ => ?_))
   | exact ih0 _ _ _
   | exact exact_mulWords.mono _ _ _
   | exact exact_pack.mono _ _
   | exact exact_words.mono _ _
   | exact LeO.none _
   | refine LeO.ite ?_ ?_
   | refine LeO.bind ?_ (fun _ => ?_)
theorem exact_NatPow.mono : ∀ a0 a1 k, LeO (exact_NatPow.f k a0 a1) (exact_NatPow.f (k + 1) a0 a1) := by
 intro a0 a1 k
 have ih0 := exact_NatPow.mono_l k
 unfold exact_NatPow.f
 repeat' first
   | (with_reducible exact ih0 _ _ _)
   | (with_reducible exact exact_mulWords.mono _ _ _)
   | (with_reducible exact exact_pack.mono _ _)
   | (with_reducible exact exact_words.mono _ _)
   | (with_reducible exact LeO.refl _)
   | (with_reducible exact LeO.none _)
   | (with_reducible refine LeO.ite ?_ ?_)
   | (with_reducible refine LeO.bind ?_ (fun _ => ?_))
   | exact ih0 _ _ _
   | exact exact_mulWords.mono _ _ _
   | exact exact_pack.mono _ _
   | exact exact_words.mono _ _
   | exact LeO.none _
   | refine LeO.ite ?_ ?_
   | refine LeO.bind ?_ (fun _ => ?_)
set_option maxHeartbeats 8000000 in
set_option maxRecDepth 100000 in
theorem exact_NatPow.calls (k : Nat) (a0 : ByteArray) (a1 : Int) (r : ByteArray) (w : World) (h : exact_NatPow.f k a0 a1 = some r) :
  Calls Try.prog 56 #[.string a0, .int .i64 a1] w fun e w' => e = .returned (.string r) ∧ Below w.heap.size w w' := by
 have HB := Aside0.mk (Below.refl w.heap.size w)
 have H : ((exact_words.f k a0).bind fun t297 => (exact_NatPow.l0 k a1 (([1] : List Int)) t297)) = some r := h
 clear h
 obtain ⟨y294, hy294⟩ : ∃ y_ : List Int, y_ = (([1] : List Int)) := ⟨_, rfl⟩
 replace H : ((exact_words.f k a0).bind fun t297 => (exact_NatPow.l0 k a1 y294 t297)) = some r := by first | (rw [hy294]; with_reducible exact H) | (have H2_ := (Option.bind_some _ _).symm.trans H; rw [hy294]; with_reducible exact H2_) | (have H2_ := (Option.bind_some _ _).symm.trans H; with_reducible exact H2_) | with_reducible exact H | (rw [hy294]; exact H) | exact H
 have Ny294 := Aside0.mk hy294
 clear hy294
 replace H := Option.bind_eq_some_iff.mp H
 obtain ⟨t297, A30, H⟩ := H
 replace H : (exact_NatPow.l0 k a1 y294 t297) = some r := H
 have A3 := Aside0.mk A30
 clear A30
 have H' := Aside0.mk H
 clear H
 go_enter Try.func56, Try.ntmps56
 go_wp2_with (first | ((with_reducible refine gate_dst (N := 7) rfl ?_); refine Kd.R_lit (Kd.int .u64) _ 49 ?hg (N := 7) ?hd (xs := ([1] : List Int)) (inner := [.int .u64 1]) (ok := fun _ => True) (okp := fun _ => True) ?hr ?hp (fun _ hk => hk) trivial (Below.refl _ _) (Nat.le_refl _) (by simp) ?_; (case hd => rfl); (case hg => rfl); (case hr => first | (go_simp; done) | (go_simp; rfl)); (case hp => exact (Reps.one (show Kd.M (Kd.int .u64) _ _ _ 1 [.int .u64 1] from rfl) (Reps.none _ _))); intro v295 w4 ho5 hb hg_ hnew_; clear hg_ hnew_; (first | rw [← Ny294.out] at ho5 | (simp only [Int.reduceToNat] at ho5; rw [← Ny294.out] at ho5)); have n0_ := Aside0.mk (Kd.R_lower ho5 (below_size (by repeat (first | (with_reducible first | exact HB.out | apply below_alloc | apply pw_below_drewN | apply below_drew1) | exact HB.out)))); have n1_ := Aside0.mk (below_step (by repeat (first | (with_reducible first | exact HB.out | apply below_alloc | apply pw_below_drewN | apply below_drew1) | exact HB.out)) hb); clear HB; have HO296 := n0_; have HB := n1_; clear n0_ n1_; clear hb ho5) | ((with_reducible refine gate_callee (f := 70) rfl ?_); refine goesL_ (some 9) rfl rfl Try.func70 (by kernel_rfl) rfl #[.string a0] rfl (by (try simp only [List.map_toArray, List.map_cons, List.map_nil]); first | done | rfl | (simp only [List.length_drop, List.length_take]; rfl)) ?_; (with_reducible refine (exact_words.calls k a0 t297 _ A3.out).mono ?_); rintro e w6 ⟨v298, rfl, ho0, hb⟩; refine ⟨_, rfl, ?_⟩; have n0_ := Aside0.mk (Kd.R_elder' (by (with_reducible repeat (first | apply Kd.R_alloc | apply Kd.R_drewN | apply Kd.R_drew)); exact HO296.out) (Kd.R_base ho0) hb); have n1_ := Aside0.mk (Kd.R_lower (Kd.R_new' ho0 (Kd.R_lt (by (with_reducible repeat (first | apply Kd.R_alloc | apply Kd.R_drewN | apply Kd.R_drew)); exact HO296.out))) (below_size (by repeat (first | (with_reducible first | exact HB.out | apply below_alloc | apply pw_below_drewN | apply below_drew1) | exact HB.out)))); have n2_ := Aside0.mk (below_step (by repeat (first | (with_reducible first | exact HB.out | apply below_alloc | apply pw_below_drewN | apply below_drew1) | exact HB.out)) hb); clear HO296; clear HB; have HO296 := n0_; have HO299 := n1_; have HB := n2_; clear n0_ n1_ n2_; (try clear hb); (try clear hb2); (try clear hk); (try clear hi); (try clear ho0)))
 go_loopg [1, 5, 6] k (fun kq v1 v5 v6 w' => ∃ (x1_1 : Int) (x5_1 : List Int) (x6_1 : List Int), v1 = .int .i64 x1_1 ∧ Aside0 (exact_NatPow.l0 kq x1_1 x5_1 x6_1 = some r) ∧ Aside0 (kq ≤ k) ∧ Aside0 (Kd.R (Kd.int .u64) 49 w' w.heap.size (fun k_ => some k_ ≠ (v6 : Value).ownBlock) v5 x5_1) ∧ Aside0 (Kd.R (Kd.int .u64) 49 w' w.heap.size (fun k_ => some k_ ≠ (v5 : Value).ownBlock) v6 x6_1) ∧ Aside0 (Below w.heap.size w w'))
 case atStart => exact ⟨(a1), (y294), (t297), (by first | rfl | (simp; done) | (simp [*]; done)), H', ⟨Nat.le_refl _⟩, ⟨by (with_reducible repeat (first | apply Kd.R_alloc | apply Kd.R_drewN | apply Kd.R_drew)); exact Kd.R_mono HO296.out (fun _ hk => hk.2)⟩, ⟨by (with_reducible repeat (first | apply Kd.R_alloc | apply Kd.R_drewN | apply Kd.R_drew)); exact Kd.R_mono HO299.out (fun _ hk => hk.2)⟩, ⟨by repeat (first | (with_reducible first | exact HB.out | apply below_alloc | apply pw_below_drewN | apply below_drew1) | exact HB.out)⟩⟩
 case round =>
  clear H'
  try clear p2
  try clear c5
  obtain ⟨x1_1, x5_1, x6_1, rfl, HA, HK1, HO_5, HO_6, HB⟩ := hrel
  cases gk with
  | zero => exact absurd HA.out (by simp [exact_NatPow.l0])
  | succ k1 =>
   have H := HA.out
   clear HA
   simp only [exact_NatPow.l0] at H
   by_cases c7 : x1_1 > 0
   ·rw [if_pos c7] at H
    have c7b0 : decide (0 < x1_1) = true := decide_eq_true c7
    clear c7
    by_cases c8 : (Go.bits .and .i64 x1_1 1) = 1
    ·rw [if_pos c8] at H
     have c8b0 : ((Go.bits .and .i64 x1_1 1) == 1) = true := beq_iff_eq.mpr c8
     have c8b1 : ((Go.bits .and .i64 x1_1 1) != 1) = false := bne_eq_false_iff_eq.mpr c8
     clear c8
     replace H := Option.bind_eq_some_iff.mp H
     obtain ⟨t301, A90, H⟩ := H
     replace H : ((exact_mulWords.f k1 x6_1 x6_1).bind fun t304 => (exact_NatPow.l0 k1 (x1_1 / 2) t301 t304)) = some r := H
     have A9 := Aside0.mk A90
     clear A90
     replace H := Option.bind_eq_some_iff.mp H
     obtain ⟨t304, A100, H⟩ := H
     replace H : (exact_NatPow.l0 k1 (x1_1 / 2) t301 t304) = some r := H
     have A10 := Aside0.mk A100
     clear A100
     have H' := Aside0.mk H
     clear H
     obtain ⟨Ao11, co11, eo11⟩ := Kd.R_slice HO_5.out
     subst eo11
     obtain ⟨Ao12, co12, eo12⟩ := Kd.R_slice HO_6.out
     subst eo12
     go_wp2_with (first | ((with_reducible refine gate_callee (f := 73) rfl ?_); refine goesL_ (some 19) rfl rfl Try.func73 (by kernel_rfl) rfl #[.slice Ao11 x5_1.length co11, .slice Ao12 x6_1.length co12] rfl (by (try simp only [List.map_toArray, List.map_cons, List.map_nil]); first | done | rfl | (simp only [List.length_drop, List.length_take]; rfl)) ?_; (with_reducible refine (exact_mulWords.calls k1 _ _ x5_1 _ _ x6_1 t301 _ ?side1 ?side2 ?side3 ?side4 A9.out).mono ?_); (case side1 => repeat (first | exact (Kd.R_reads' HO_5.out).2.2 | (with_reducible refine Kd.C_alloc ?_ _) | (with_reducible refine Kd.C_drewN ?_ _) | (with_reducible refine Kd.C_drew ?_))); (case side2 => exact (Kd.R_reads' HO_5.out).2.1); (case side3 => repeat (first | exact (Kd.R_reads' HO_6.out).2.2 | (with_reducible refine Kd.C_alloc ?_ _) | (with_reducible refine Kd.C_drewN ?_ _) | (with_reducible refine Kd.C_drew ?_))); (case side4 => exact (Kd.R_reads' HO_6.out).2.1); rintro e w13 ⟨v302, rfl, ho0, hb⟩; refine ⟨_, rfl, ?_⟩; have n0_ := Aside0.mk (Kd.R_elder' (by (with_reducible repeat (first | apply Kd.R_alloc | apply Kd.R_drewN | apply Kd.R_drew)); exact HO_5.out) (Kd.R_base ho0) hb); have n1_ := Aside0.mk (Kd.R_elder' (by (with_reducible repeat (first | apply Kd.R_alloc | apply Kd.R_drewN | apply Kd.R_drew)); exact HO_6.out) (Kd.R_base ho0) hb); have n2_ := Aside0.mk (Kd.R_lower (Kd.R_new' (Kd.R_new' ho0 (Kd.R_lt (by (with_reducible repeat (first | apply Kd.R_alloc | apply Kd.R_drewN | apply Kd.R_drew)); exact HO_5.out))) (Kd.R_lt (by (with_reducible repeat (first | apply Kd.R_alloc | apply Kd.R_drewN | apply Kd.R_drew)); exact HO_6.out))) (below_size (by repeat (first | (with_reducible first | exact HB.out | apply below_alloc | apply pw_below_drewN | apply below_drew1) | exact HB.out)))); have n3_ := Aside0.mk (below_step (by repeat (first | (with_reducible first | exact HB.out | apply below_alloc | apply pw_below_drewN | apply below_drew1) | exact HB.out)) hb); clear HO_5; clear HO_6; clear HB; have HO_5 := n0_; have HO_6 := n1_; have HO303 := n2_; have HB := n3_; clear n0_ n1_ n2_ n3_; (try clear hb); (try clear hb2); (try clear hk); (try clear hi); (try clear ho0)) | ((with_reducible refine gate_callee (f := 73) rfl ?_); refine goesL_ (some 22) rfl rfl Try.func73 (by kernel_rfl) rfl #[.slice Ao12 x6_1.length co12, .slice Ao12 x6_1.length co12] rfl (by (try simp only [List.map_toArray, List.map_cons, List.map_nil]); first | done | rfl | (simp only [List.length_drop, List.length_take]; rfl)) ?_; (with_reducible refine (exact_mulWords.calls k1 _ _ x6_1 _ _ x6_1 t304 _ ?side1 ?side2 ?side3 ?side4 A10.out).mono ?_); (case side1 => repeat (first | exact (Kd.R_reads' HO_6.out).2.2 | (with_reducible refine Kd.C_alloc ?_ _) | (with_reducible refine Kd.C_drewN ?_ _) | (with_reducible refine Kd.C_drew ?_))); (case side2 => exact (Kd.R_reads' HO_6.out).2.1); (case side3 => repeat (first | exact (Kd.R_reads' HO_6.out).2.2 | (with_reducible refine Kd.C_alloc ?_ _) | (with_reducible refine Kd.C_drewN ?_ _) | (with_reducible refine Kd.C_drew ?_))); (case side4 => exact (Kd.R_reads' HO_6.out).2.1); rintro e w14 ⟨v305, rfl, ho0, hb⟩; refine ⟨_, rfl, ?_⟩; have n0_ := Aside0.mk (Kd.R_elder' (by (with_reducible repeat (first | apply Kd.R_alloc | apply Kd.R_drewN | apply Kd.R_drew)); exact HO_5.out) (Kd.R_base ho0) hb); have n1_ := Aside0.mk (Kd.R_elder' (by (with_reducible repeat (first | apply Kd.R_alloc | apply Kd.R_drewN | apply Kd.R_drew)); exact HO_6.out) (Kd.R_base ho0) hb); have n2_ := Aside0.mk (Kd.R_elder' (by (with_reducible repeat (first | apply Kd.R_alloc | apply Kd.R_drewN | apply Kd.R_drew)); exact HO303.out) (Kd.R_base ho0) hb); have n3_ := Aside0.mk (Kd.R_lower (Kd.R_new' (Kd.R_new' (Kd.R_new' ho0 (Kd.R_lt (by (with_reducible repeat (first | apply Kd.R_alloc | apply Kd.R_drewN | apply Kd.R_drew)); exact HO_5.out))) (Kd.R_lt (by (with_reducible repeat (first | apply Kd.R_alloc | apply Kd.R_drewN | apply Kd.R_drew)); exact HO_6.out))) (Kd.R_lt (by (with_reducible repeat (first | apply Kd.R_alloc | apply Kd.R_drewN | apply Kd.R_drew)); exact HO303.out))) (below_size (by repeat (first | (with_reducible first | exact HB.out | apply below_alloc | apply pw_below_drewN | apply below_drew1) | exact HB.out)))); have n4_ := Aside0.mk (below_step (by repeat (first | (with_reducible first | exact HB.out | apply below_alloc | apply pw_below_drewN | apply below_drew1) | exact HB.out)) hb); clear HO_5; clear HO_6; clear HO303; clear HB; have HO_5 := n0_; have HO_6 := n1_; have HO303 := n2_; have HO306 := n3_; have HB := n4_; clear n0_ n1_ n2_ n3_ n4_; (try clear hb); (try clear hb2); (try clear hk); (try clear hi); (try clear ho0)))
     go_roundg k1
     case measure => have := HK1.out; omega
     case rel => exact ⟨(x1_1 / 2), (t301), (t304), (by first | rfl | (simp; done) | (simp [*]; done)), H', ⟨by have := HK1.out; omega⟩, ⟨by (with_reducible repeat (first | apply Kd.R_alloc | apply Kd.R_drewN | apply Kd.R_drew)); exact Kd.R_mono HO303.out (fun _ hk => hk.2)⟩, ⟨by (with_reducible repeat (first | apply Kd.R_alloc | apply Kd.R_drewN | apply Kd.R_drew)); exact Kd.R_mono HO306.out (fun _ hk => hk.2)⟩, ⟨by repeat (first | (with_reducible first | exact HB.out | apply below_alloc | apply pw_below_drewN | apply below_drew1) | exact HB.out)⟩⟩
    ·rw [if_neg c8] at H
     have c8b0 : ((Go.bits .and .i64 x1_1 1) == 1) = false := beq_eq_false_iff_ne.mpr c8
     have c8b1 : ((Go.bits .and .i64 x1_1 1) != 1) = true := bne_iff_ne.mpr c8
     replace H := Option.bind_eq_some_iff.mp H
     obtain ⟨t307, A150, H⟩ := H
     replace H : (exact_NatPow.l0 k1 (x1_1 / 2) x5_1 t307) = some r := H
     have A15 := Aside0.mk A150
     clear A150
     have H' := Aside0.mk H
     clear H
     obtain ⟨Ao16, co16, eo16⟩ := Kd.R_slice HO_6.out
     subst eo16
     go_wp2_with (first | ((with_reducible refine gate_callee (f := 73) rfl ?_); refine goesL_ (some 22) rfl rfl Try.func73 (by kernel_rfl) rfl #[.slice Ao16 x6_1.length co16, .slice Ao16 x6_1.length co16] rfl (by (try simp only [List.map_toArray, List.map_cons, List.map_nil]); first | done | rfl | (simp only [List.length_drop, List.length_take]; rfl)) ?_; (with_reducible refine (exact_mulWords.calls k1 _ _ x6_1 _ _ x6_1 t307 _ ?side1 ?side2 ?side3 ?side4 A15.out).mono ?_); (case side1 => repeat (first | exact (Kd.R_reads' HO_6.out).2.2 | (with_reducible refine Kd.C_alloc ?_ _) | (with_reducible refine Kd.C_drewN ?_ _) | (with_reducible refine Kd.C_drew ?_))); (case side2 => exact (Kd.R_reads' HO_6.out).2.1); (case side3 => repeat (first | exact (Kd.R_reads' HO_6.out).2.2 | (with_reducible refine Kd.C_alloc ?_ _) | (with_reducible refine Kd.C_drewN ?_ _) | (with_reducible refine Kd.C_drew ?_))); (case side4 => exact (Kd.R_reads' HO_6.out).2.1); rintro e w17 ⟨v308, rfl, ho0, hb⟩; refine ⟨_, rfl, ?_⟩; have n0_ := Aside0.mk (Kd.R_elder' (by (with_reducible repeat (first | apply Kd.R_alloc | apply Kd.R_drewN | apply Kd.R_drew)); exact HO_5.out) (Kd.R_base ho0) hb); have n1_ := Aside0.mk (Kd.R_elder' (by (with_reducible repeat (first | apply Kd.R_alloc | apply Kd.R_drewN | apply Kd.R_drew)); exact HO_6.out) (Kd.R_base ho0) hb); have n2_ := Aside0.mk (Kd.R_lower (Kd.R_new' (Kd.R_new' ho0 (Kd.R_lt (by (with_reducible repeat (first | apply Kd.R_alloc | apply Kd.R_drewN | apply Kd.R_drew)); exact HO_5.out))) (Kd.R_lt (by (with_reducible repeat (first | apply Kd.R_alloc | apply Kd.R_drewN | apply Kd.R_drew)); exact HO_6.out))) (below_size (by repeat (first | (with_reducible first | exact HB.out | apply below_alloc | apply pw_below_drewN | apply below_drew1) | exact HB.out)))); have n3_ := Aside0.mk (below_step (by repeat (first | (with_reducible first | exact HB.out | apply below_alloc | apply pw_below_drewN | apply below_drew1) | exact HB.out)) hb); clear HO_5; clear HO_6; clear HB; have HO_5 := n0_; have HO_6 := n1_; have HO309 := n2_; have HB := n3_; clear n0_ n1_ n2_ n3_; (try clear hb); (try clear hb2); (try clear hk); (try clear hi); (try clear ho0)))
     go_roundg k1
     case measure => have := HK1.out; omega
     case rel => exact ⟨(x1_1 / 2), (x5_1), (t307), (by first | rfl | (simp; done) | (simp [*]; done)), H', ⟨by have := HK1.out; omega⟩, ⟨by (with_reducible repeat (first | apply Kd.R_alloc | apply Kd.R_drewN | apply Kd.R_drew)); exact Kd.R_mono HO_5.out (fun _ hk => hk.2)⟩, ⟨by (with_reducible repeat (first | apply Kd.R_alloc | apply Kd.R_drewN | apply Kd.R_drew)); exact Kd.R_mono HO309.out (fun _ hk => hk.1.2)⟩, ⟨by repeat (first | (with_reducible first | exact HB.out | apply below_alloc | apply pw_below_drewN | apply below_drew1) | exact HB.out)⟩⟩
   ·rw [if_neg c7] at H
    have c7b0 : decide (0 < x1_1) = false := decide_eq_false c7
    clear c7
    replace H := Option.bind_eq_some_iff.mp H
    obtain ⟨t300, A180, H⟩ := H
    replace H : (some t300) = some r := H
    have A18 := Aside0.mk A180
    clear A180
    obtain rfl := Option.some.inj H
    obtain ⟨Ao19, co19, eo19⟩ := Kd.R_slice HO_5.out
    subst eo19
    go_wp2_with (first | ((with_reducible refine gate_callee (f := 71) rfl ?_); refine goesL_ (some 24) rfl rfl Try.func71 (by kernel_rfl) rfl #[.slice Ao19 x5_1.length co19] rfl (by (try simp only [List.map_toArray, List.map_cons, List.map_nil]); first | done | rfl | (simp only [List.length_drop, List.length_take]; rfl)) ?_; (with_reducible refine (exact_pack.calls k1 (fun k_ => some k_ = (.slice Ao19 x5_1.length co19 : Value).ownBlock) (.slice Ao19 x5_1.length co19) x5_1 t300 w _ ?side1 ?side2 A18.out).mono ?_); (case side1 => repeat (first | (with_reducible first | exact HB.out | apply below_alloc | apply pw_below_drewN | apply below_drew1) | exact HB.out)); (case side2 => exact Kd.R_tight rfl HO_5.out); rintro e w20 ⟨rfl, hb, hkp⟩; refine ⟨_, rfl, ?_⟩; have n0_ := Aside0.mk (Kd.R_mono (ok' := fun k_ => True) (Kd.R_keptB (HO_6.out) hkp (fun k_ hk_ hs_ => (hk_) hs_)) (fun k_ hk_ => trivial)); have n1_ := Aside0.mk (hb); clear HO_6; clear HB; clear HO_5; have HO_6 := n0_; have HB := n1_; clear n0_ n1_; (try clear hb); (try clear hkp)))
    go_ret
    exact ⟨by first | rfl | (simp [errW_none, errW_some] <;> rfl) | (simp [*, errW_none, errW_some] <;> rfl), by repeat (first | (with_reducible first | exact HB.out | apply below_alloc | apply pw_below_drewN | apply below_drew1) | exact HB.out)⟩
end Go.Proofs.Ytohkmnbnjacfaaa.All
namespace Go.Proofs.Ytohkmnbnjacfaaa.All
open Go.Proofs.YtohkmnbnjacfaaaX
open Go.RowKit Go.Proofs.YtohkmnbnjacfaaaW.PrintWords Go.Proofs.YtohkmnbnjacfaaaW.PrintLast Go.Proofs.YtohkmnbnjacfaaaW.PrintMore
attribute [local go_sem] max2_int min2_int max_two min_two max_three min_three max_four min_four
set_option linter.unusedVariables false
set_option linter.unusedSimpArgs false
mutual
def natural_Pow.j0 : Nat → ByteArray → Int → Bool → Option (ByteArray × Int)
 | 0, _, _, _ => none
 | k + 1, x0, x1, x18 => if x18 = true then (some ((⟨#[]⟩ : ByteArray), 3)) else (if x0.toList = ([] : List UInt8) then (natural_Pow.j1 k x0 x1 false) else ((exact_NatBits.f x0).bind fun t314 => (natural_Pow.j1 k x0 x1 (decide ((wrap64 ((wrap64 (t314 - 1)) * x1)) > 8192)))))
def natural_Pow.j1 : Nat → ByteArray → Int → Bool → Option (ByteArray × Int)
 | 0, _, _, _ => none
 | k + 1, x0, x1, x28 => if x28 = true then (some ((⟨#[]⟩ : ByteArray), 4)) else ((exact_NatPow.f k x0 x1).bind fun t315 => ((natural_bounded.f t315).bind fun bt316 => (some (bt316.1, bt316.2))))
end
def natural_Pow.f (k : Nat) (a0 : ByteArray) (a1 : Int) : Option (ByteArray × Int) := (natural_first.f k (([a0] : List ByteArray))).bind fun t313 => (if t313 = 0 then (if a1 < 0 then (natural_Pow.j0 k a0 a1 true) else (natural_Pow.j0 k a0 a1 (decide (a1 > 4096)))) else (some ((⟨#[]⟩ : ByteArray), t313)))
theorem natural_Pow.mono_l : ∀ k, (∀ y0 y1 y2, LeO (natural_Pow.j0 k y0 y1 y2) (natural_Pow.j0 (k + 1) y0 y1 y2)) ∧ (∀ y0 y1 y2, LeO (natural_Pow.j1 k y0 y1 y2) (natural_Pow.j1 (k + 1) y0 y1 y2))
 | 0 => ⟨fun _ _ _ r h => by simp [natural_Pow.j0] at h, fun _ _ _ r h => by simp [natural_Pow.j1] at h⟩
 | k + 1 => by
  obtain ⟨ih0, ih1⟩ := natural_Pow.mono_l k
  refine ⟨?_, ?_⟩
  ·intro y0 y1 y2
   unfold natural_Pow.j0
   repeat' first
   | (with_reducible exact ih0 _ _ _)
   | (with_reducible exact ih1 _ _ _)
   | (with_reducible exact exact_NatPow.mono _ _ _)
   | (with_reducible exact natural_first.mono _ _)
   | (with_reducible exact LeO.refl _)
   | (with_reducible exact LeO.none _)
   | (with_reducible refine LeO.ite ?_ ?_)
   | (with_reducible refine LeO.bind ?_ (fun _ => ?_))
   | exact ih0 _ _ _
   | exact ih1 _ _ _
   | exact exact_NatPow.mono _ _ _
   | exact natural_first.mono _ _
   | exact LeO.none _
   | refine LeO.ite ?_ ?_
   | refine LeO.bind ?_ (fun _ => ?_)
  ·intro y0 y1 y2
   unfold natural_Pow.j1
   repeat' first
   | (with_reducible exact ih0 _ _ _)
   | (with_reducible exact ih1 _ _ _)
   | (with_reducible exact exact_NatPow.mono _ _ _)
   | (with_reducible exact natural_first.mono _ _)
   | (with_reducible exact LeO.refl _)
   | (with_reducible exact LeO.none _)
   | (with_reducible refine LeO.ite ?_ ?_)
   | (with_reducible refine LeO.bind ?_ (fun _ => ?_))
   | exact ih0 _ _ _
   | exact ih1 _ _ _
   | exact exact_NatPow.mono _ _ _
   | exact natural_first.mono _ _
   | exact LeO.none _
   | refine LeO.ite ?_ ?_
   | refine LeO.bind ?_ (fun _ => ?_)
theorem natural_Pow.mono : ∀ a0 a1 k, LeO (natural_Pow.f k a0 a1) (natural_Pow.f (k + 1) a0 a1) := by
 intro a0 a1 k
 obtain ⟨ih0, ih1⟩ := natural_Pow.mono_l k
 unfold natural_Pow.f
 repeat' first
   | (with_reducible exact ih0 _ _ _)
   | (with_reducible exact ih1 _ _ _)
   | (with_reducible exact exact_NatPow.mono _ _ _)
   | (with_reducible exact natural_first.mono _ _)
   | (with_reducible exact LeO.refl _)
   | (with_reducible exact LeO.none _)
   | (with_reducible refine LeO.ite ?_ ?_)
   | (with_reducible refine LeO.bind ?_ (fun _ => ?_))
   | exact ih0 _ _ _
   | exact ih1 _ _ _
   | exact exact_NatPow.mono _ _ _
   | exact natural_first.mono _ _
   | exact LeO.none _
   | refine LeO.ite ?_ ?_
   | refine LeO.bind ?_ (fun _ => ?_)
set_option maxHeartbeats 8000000 in
set_option maxRecDepth 100000 in
theorem natural_Pow.calls (k : Nat) (a0 : ByteArray) (a1 : Int) (r1 : ByteArray) (r2 : Int) (w : World) (h : natural_Pow.f k a0 a1 = some (r1, r2)) :
  Calls Try.prog 20 #[.string a0, .int .i64 a1] w fun e w' => e = .returned (.tuple #[.string r1, .int .i64 r2]) ∧ Below w.heap.size w w' := by
 have HB := Aside0.mk (Below.refl w.heap.size w)
 have H : ((natural_first.f k (([a0] : List ByteArray))).bind fun t313 => (if t313 = 0 then (if a1 < 0 then (natural_Pow.j0 k a0 a1 true) else (natural_Pow.j0 k a0 a1 (decide (a1 > 4096)))) else (some ((⟨#[]⟩ : ByteArray), t313)))) = some (r1, r2) := h
 clear h
 obtain ⟨y310, hy310⟩ : ∃ y_ : List ByteArray, y_ = (([a0] : List ByteArray)) := ⟨_, rfl⟩
 replace H : ((natural_first.f k y310).bind fun t313 => (if t313 = 0 then (if a1 < 0 then (natural_Pow.j0 k a0 a1 true) else (natural_Pow.j0 k a0 a1 (decide (a1 > 4096)))) else (some ((⟨#[]⟩ : ByteArray), t313)))) = some (r1, r2) := by first | (rw [hy310]; with_reducible exact H) | (have H2_ := (Option.bind_some _ _).symm.trans H; rw [hy310]; with_reducible exact H2_) | (have H2_ := (Option.bind_some _ _).symm.trans H; with_reducible exact H2_) | with_reducible exact H | (rw [hy310]; exact H) | exact H
 have Ny310 := Aside0.mk hy310
 clear hy310
 replace H := Option.bind_eq_some_iff.mp H
 obtain ⟨t313, A30, H⟩ := H
 replace H : (if t313 = 0 then (if a1 < 0 then (natural_Pow.j0 k a0 a1 true) else (natural_Pow.j0 k a0 a1 (decide (a1 > 4096)))) else (some ((⟨#[]⟩ : ByteArray), t313))) = some (r1, r2) := H
 have A3 := Aside0.mk A30
 clear A30
 by_cases c4 : t313 = 0
 ·rw [if_pos c4] at H
  have c4b0 : (t313 == 0) = true := beq_iff_eq.mpr c4
  have c4b1 : (t313 != 0) = false := bne_eq_false_iff_eq.mpr c4
  clear c4
  have HC5 := Aside0.mk H
  clear H
  go_enter Try.func20, Try.ntmps20
  go_upto_region 4 with (first | ((with_reducible refine gate_dst (N := 8) rfl ?_); refine Kd.R_lit Kd.string _ 22 ?hg (N := 8) ?hd (xs := ([a0] : List ByteArray)) (inner := [.string a0]) (ok := fun _ => True) (okp := fun _ => True) ?hr ?hp (fun _ hk => hk) trivial (Below.refl _ _) (Nat.le_refl _) (by simp) ?_; (case hd => rfl); (case hg => rfl); (case hr => first | (go_simp; done) | (go_simp; rfl)); (case hp => exact (Reps.one (show Kd.M Kd.string _ _ _ a0 [.string a0] from rfl) (Reps.none _ _))); intro v311 w6 ho7 hb hg_ hnew_; clear hg_ hnew_; (first | rw [← Ny310.out] at ho7 | (simp only [Int.reduceToNat] at ho7; rw [← Ny310.out] at ho7)); have n0_ := Aside0.mk (Kd.R_lower ho7 (below_size (by repeat (first | (with_reducible first | exact HB.out | apply below_alloc | apply pw_below_drewN | apply below_drew1) | exact HB.out)))); have n1_ := Aside0.mk (below_step (by repeat (first | (with_reducible first | exact HB.out | apply below_alloc | apply pw_below_drewN | apply below_drew1) | exact HB.out)) hb); clear HB; have HO312 := n0_; have HB := n1_; clear n0_ n1_; clear hb ho7; obtain ⟨Ao8, co8, eo8⟩ := Kd.R_slice HO312.out; subst eo8) | ((with_reducible refine gate_callee (f := 47) rfl ?_); refine goesL_ (some 9) rfl rfl Try.func47 (by kernel_rfl) rfl #[.slice Ao8 y310.length co8] rfl (by (try simp only [List.map_toArray, List.map_cons, List.map_nil]); first | done | rfl | (simp only [List.length_drop, List.length_take]; rfl)) ?_; (with_reducible refine (natural_first.calls k _ _ y310 t313 _ ?side1 ?side2 A3.out).mono ?_); (case side1 => repeat (first | exact (Kd.R_reads' HO312.out).2.2 | (with_reducible refine Kd.C_alloc ?_ _) | (with_reducible refine Kd.C_drewN ?_ _) | (with_reducible refine Kd.C_drew ?_))); (case side2 => exact (Kd.R_reads' HO312.out).2.1); rintro e w' ⟨rfl, ⟨nd, rfl⟩⟩; refine ⟨_, rfl, ?_⟩))
  (try simp only [Act.put, List.setIfInBounds_toArray, List.set_cons_zero, List.set_cons_succ])
  go_cut [18] (fun v18 wc => ∃ (kq : Nat) (x18_4 : Bool), v18 = .bool x18_4 ∧ Aside0 (natural_Pow.j0 kq a0 a1 x18_4 = some (r1, r2)) ∧ Aside0 (kq ≤ k) ∧ Aside0 (Below w.heap.size w wc))
  case first =>
   have H := HC5.out
   clear HC5
   by_cases c9 : a1 < 0
   ·rw [if_pos c9] at H
    have c9b0 : decide (a1 < 0) = true := decide_eq_true c9
    clear c9
    (first | rw [c9b0] | rw [c9b1] | (simp only [i64_w, i32_w]; rw [c9b0]) | skip)
    have H' := Aside0.mk H
    clear H
    go_wp2
    go_meet
    case rel => exact ⟨_, (true), (by first | rfl | (simp; done) | (simp [*]; done)), H', ⟨by first | omega | exact Nat.le_refl _⟩, ⟨by repeat (first | (with_reducible first | exact HB.out | apply below_alloc | apply pw_below_drewN | apply below_drew1) | exact HB.out)⟩⟩
   ·rw [if_neg c9] at H
    have c9b0 : decide (a1 < 0) = false := decide_eq_false c9
    clear c9
    (first | rw [c9b0] | rw [c9b1] | (simp only [i64_w, i32_w]; rw [c9b0]) | skip)
    have H' := Aside0.mk H
    clear H
    go_wp2
    go_meet
    case rel => exact ⟨_, (decide (a1 > 4096)), (by first | rfl | (simp; done) | (simp [*]; done)), H', ⟨by first | omega | exact Nat.le_refl _⟩, ⟨by repeat (first | (with_reducible first | exact HB.out | apply below_alloc | apply pw_below_drewN | apply below_drew1) | exact HB.out)⟩⟩
  case rest =>
   clear HC5
   try clear c2
   try clear p2
   try clear c4
   try clear c4b0
   try clear c4b1
   try clear c9
   try clear c9b0
   obtain ⟨kq, x18_4, rfl, HA, HJ4, HB⟩ := hcut
   cases kq with
   | zero => exact absurd HA.out (by simp [natural_Pow.j0])
   | succ kj4 =>
    have H := HA.out
    clear HA
    simp only [natural_Pow.j0] at H
    by_cases c10 : x18_4 = true
    ·subst c10
     have H1 : (some ((⟨#[]⟩ : ByteArray), 3)) = some (r1, r2) := by rw [if_pos rfl] at H; exact H
     clear H
     have H := H1
     clear H1
     simp only [Option.some.injEq, Prod.mk.injEq] at H
     obtain ⟨rfl, rfl⟩ := H
     go_wp2
     go_ret2
     exact ⟨by first | rfl | (simp [errW_none, errW_some] <;> rfl) | (simp [*, errW_none, errW_some] <;> rfl), by repeat (first | (with_reducible first | exact HB.out | apply below_alloc | apply pw_below_drewN | apply below_drew1) | exact HB.out)⟩
    ·replace c10 := Bool.eq_false_iff.mpr c10
     subst c10
     have H1 : (if a0.toList = ([] : List UInt8) then (natural_Pow.j1 kj4 a0 a1 false) else ((exact_NatBits.f a0).bind fun t314 => (natural_Pow.j1 kj4 a0 a1 (decide ((wrap64 ((wrap64 (t314 - 1)) * a1)) > 8192))))) = some (r1, r2) := by rw [if_neg (show ¬ (false = true) by decide)] at H; exact H
     clear H
     have H := H1
     clear H1
     have HC11 := Aside0.mk H
     clear H
     go_upto_region 6 with (fail)
     go_cut [28] (fun v28 wc => ∃ (kq : Nat) (x28_10 : Bool), v28 = .bool x28_10 ∧ Aside0 (natural_Pow.j1 kq a0 a1 x28_10 = some (r1, r2)) ∧ Aside0 (kq ≤ kj4) ∧ Aside0 (Below w.heap.size w wc))
     case first =>
      have H := HC11.out
      clear HC11
      by_cases c12 : a0.toList = ([] : List UInt8)
      ·rw [if_pos c12] at H
       have c12b0 : (a0.toList == ([] : List UInt8)) = true := beq_iff_eq.mpr c12
       have c12b1 : (a0.toList != ([] : List UInt8)) = false := bne_eq_false_iff_eq.mpr c12
       clear c12
       (first | rw [c12b0] | rw [c12b1] | (simp only [i64_w, i32_w]; rw [c12b0]) | skip)
       have H' := Aside0.mk H
       clear H
       go_wp2
       go_meet
       case rel => exact ⟨_, (false), (by first | rfl | (simp; done) | (simp [*]; done)), H', ⟨by have := HJ4.out; first | omega | exact Nat.le_refl _⟩, ⟨by repeat (first | (with_reducible first | exact HB.out | apply below_alloc | apply pw_below_drewN | apply below_drew1) | exact HB.out)⟩⟩
      ·rw [if_neg c12] at H
       have c12b0 : (a0.toList == ([] : List UInt8)) = false := beq_eq_false_iff_ne.mpr c12
       have c12b1 : (a0.toList != ([] : List UInt8)) = true := bne_iff_ne.mpr c12
       (first | rw [c12b0] | rw [c12b1] | (simp only [i64_w, i32_w]; rw [c12b0]) | skip)
       replace H := Option.bind_eq_some_iff.mp H
       obtain ⟨t314, A130, H⟩ := H
       replace H : (natural_Pow.j1 kj4 a0 a1 (decide ((wrap64 ((wrap64 (t314 - 1)) * a1)) > 8192))) = some (r1, r2) := H
       have A13 := Aside0.mk A130
       clear A130
       have H' := Aside0.mk H
       clear H
       go_wp2_with (first | (go_at_call 54; (with_reducible refine (exact_NatBits.calls a0 t314 _ A13.out).mono ?_); rintro e w' ⟨rfl, ⟨nd, rfl⟩⟩))
       go_meet
       case rel => exact ⟨_, (decide ((wrap64 ((wrap64 (t314 - 1)) * a1)) > 8192)), (by first | rfl | (simp; done) | (simp [*]; done)), H', ⟨by have := HJ4.out; first | omega | exact Nat.le_refl _⟩, ⟨by repeat (first | (with_reducible first | exact HB.out | apply below_alloc | apply pw_below_drewN | apply below_drew1) | exact HB.out)⟩⟩
     case rest =>
      clear HC11
      try clear c1
      try clear c2
      try clear p2
      try clear c4
      try clear c4b0
      try clear c4b1
      try clear p6
      try clear c9
      try clear c9b0
      try clear c10
      try clear c12
      try clear c12b0
      try clear c12b1
      try clear p2
      obtain ⟨kq, x28_10, rfl, HA, HJ10, HB⟩ := hcut
      cases kq with
      | zero => exact absurd HA.out (by simp [natural_Pow.j1])
      | succ kj10 =>
       have H := HA.out
       clear HA
       simp only [natural_Pow.j1] at H
       by_cases c14 : x28_10 = true
       ·subst c14
        have H1 : (some ((⟨#[]⟩ : ByteArray), 4)) = some (r1, r2) := by rw [if_pos rfl] at H; exact H
        clear H
        have H := H1
        clear H1
        simp only [Option.some.injEq, Prod.mk.injEq] at H
        obtain ⟨rfl, rfl⟩ := H
        go_wp2
        go_ret2
        exact ⟨by first | rfl | (simp [errW_none, errW_some] <;> rfl) | (simp [*, errW_none, errW_some] <;> rfl), by repeat (first | (with_reducible first | exact HB.out | apply below_alloc | apply pw_below_drewN | apply below_drew1) | exact HB.out)⟩
       ·replace c14 := Bool.eq_false_iff.mpr c14
        subst c14
        have H1 : ((exact_NatPow.f kj10 a0 a1).bind fun t315 => ((natural_bounded.f t315).bind fun bt316 => (some (bt316.1, bt316.2)))) = some (r1, r2) := by rw [if_neg (show ¬ (false = true) by decide)] at H; exact H
        clear H
        have H := H1
        clear H1
        replace H := Option.bind_eq_some_iff.mp H
        obtain ⟨t315, A150, H⟩ := H
        replace H : ((natural_bounded.f t315).bind fun bt316 => (some (bt316.1, bt316.2))) = some (r1, r2) := H
        have A15 := Aside0.mk A150
        clear A150
        replace H := Option.bind_eq_some_iff.mp H
        obtain ⟨⟨t316, t317⟩, A160, H⟩ := H
        replace H : (some (t316, t317)) = some (r1, r2) := H
        have A16 := Aside0.mk A160
        clear A160
        simp only [Option.some.injEq, Prod.mk.injEq] at H
        obtain ⟨rfl, rfl⟩ := H
        go_wp2_with (first | ((with_reducible refine gate_callee (f := 56) rfl ?_); refine goesL_ (some 31) rfl rfl Try.func56 (by kernel_rfl) rfl #[.string a0, .int .i64 a1] rfl (by (try simp only [List.map_toArray, List.map_cons, List.map_nil]); first | done | rfl | (simp only [List.length_drop, List.length_take]; rfl)) ?_; (with_reducible refine (exact_NatPow.calls kj10 a0 a1 t315 _ A15.out).mono ?_); rintro e w17 ⟨rfl, hb⟩; refine ⟨_, rfl, ?_⟩; have n0_ := Aside0.mk (below_step (by repeat (first | (with_reducible first | exact HB.out | apply below_alloc | apply pw_below_drewN | apply below_drew1) | exact HB.out)) hb); clear HB; have HB := n0_; clear n0_; (try clear hb); (try clear hb2); (try clear hk); (try clear hi)) | ((with_reducible refine gate_callee (f := 55) rfl ?_); refine goesL_ (some 32) rfl rfl Try.func55 (by kernel_rfl) rfl #[.string t315] rfl (by (try simp only [List.map_toArray, List.map_cons, List.map_nil]); first | done | rfl | (simp only [List.length_drop, List.length_take]; rfl)) ?_; (with_reducible refine (natural_bounded.calls t315 t316 t317 _ A16.out).mono ?_); rintro e w' ⟨rfl, ⟨nd, rfl⟩⟩; refine ⟨_, rfl, ?_⟩))
        go_ret2
        exact ⟨by first | rfl | (simp [errW_none, errW_some] <;> rfl) | (simp [*, errW_none, errW_some] <;> rfl), by repeat (first | (with_reducible first | exact HB.out | apply below_alloc | apply pw_below_drewN | apply below_drew1) | exact HB.out)⟩
 ·rw [if_neg c4] at H
  have c4b0 : (t313 == 0) = false := beq_eq_false_iff_ne.mpr c4
  have c4b1 : (t313 != 0) = true := bne_iff_ne.mpr c4
  simp only [Option.some.injEq, Prod.mk.injEq] at H
  obtain ⟨rfl, rfl⟩ := H
  go_enter Try.func20, Try.ntmps20
  go_wp2_with (first | ((with_reducible refine gate_dst (N := 8) rfl ?_); refine Kd.R_lit Kd.string _ 22 ?hg (N := 8) ?hd (xs := ([a0] : List ByteArray)) (inner := [.string a0]) (ok := fun _ => True) (okp := fun _ => True) ?hr ?hp (fun _ hk => hk) trivial (Below.refl _ _) (Nat.le_refl _) (by simp) ?_; (case hd => rfl); (case hg => rfl); (case hr => first | (go_simp; done) | (go_simp; rfl)); (case hp => exact (Reps.one (show Kd.M Kd.string _ _ _ a0 [.string a0] from rfl) (Reps.none _ _))); intro v311 w18 ho19 hb hg_ hnew_; clear hg_ hnew_; (first | rw [← Ny310.out] at ho19 | (simp only [Int.reduceToNat] at ho19; rw [← Ny310.out] at ho19)); have n0_ := Aside0.mk (Kd.R_lower ho19 (below_size (by repeat (first | (with_reducible first | exact HB.out | apply below_alloc | apply pw_below_drewN | apply below_drew1) | exact HB.out)))); have n1_ := Aside0.mk (below_step (by repeat (first | (with_reducible first | exact HB.out | apply below_alloc | apply pw_below_drewN | apply below_drew1) | exact HB.out)) hb); clear HB; have HO312 := n0_; have HB := n1_; clear n0_ n1_; clear hb ho19; obtain ⟨Ao20, co20, eo20⟩ := Kd.R_slice HO312.out; subst eo20) | ((with_reducible refine gate_callee (f := 47) rfl ?_); refine goesL_ (some 9) rfl rfl Try.func47 (by kernel_rfl) rfl #[.slice Ao20 y310.length co20] rfl (by (try simp only [List.map_toArray, List.map_cons, List.map_nil]); first | done | rfl | (simp only [List.length_drop, List.length_take]; rfl)) ?_; (with_reducible refine (natural_first.calls k _ _ y310 t313 _ ?side1 ?side2 A3.out).mono ?_); (case side1 => repeat (first | exact (Kd.R_reads' HO312.out).2.2 | (with_reducible refine Kd.C_alloc ?_ _) | (with_reducible refine Kd.C_drewN ?_ _) | (with_reducible refine Kd.C_drew ?_))); (case side2 => exact (Kd.R_reads' HO312.out).2.1); rintro e w' ⟨rfl, ⟨nd, rfl⟩⟩; refine ⟨_, rfl, ?_⟩))
  go_ret2
  exact ⟨by first | rfl | (simp [errW_none, errW_some] <;> rfl) | (simp [*, errW_none, errW_some] <;> rfl), by repeat (first | (with_reducible first | exact HB.out | apply below_alloc | apply pw_below_drewN | apply below_drew1) | exact HB.out)⟩
def natural_Of.byte (a : Int) (j : Nat) : Int := (a / 2 ^ (56 - 8 * j)) % 256
def natural_Of.bytes (a : Int) (k : Nat) : List Int := (List.range k).map (natural_Of.byte a) ++ List.replicate (8 - k) 0
theorem natural_Of.bytes_len (a : Int) (k : Nat) (h : k ≤ 8) : (natural_Of.bytes a k).length = 8 := by simp [natural_Of.bytes]; omega
theorem natural_Of.bytes_set (a : Int) (k : Nat) (h : k < 8) : (natural_Of.bytes a k).set k (natural_Of.byte a k) = natural_Of.bytes a (k + 1) := by
 unfold natural_Of.bytes
 rw [List.set_append_right _ _ (by simp)]
 simp only [List.length_map, List.length_range, Nat.sub_self, List.range_succ, List.map_append, List.map_cons, List.map_nil, List.append_assoc]
 congr 1
 obtain ⟨m, hm⟩ : ∃ m, 8 - k = m + 1 := ⟨7 - k, by omega⟩
 rw [hm, show 8 - (k + 1) = m by omega, List.replicate_succ]
 rfl
def natural_Of.f (a0 : Int) : Option (ByteArray) := if 0 ≤ a0 ∧ a0 ≤ 18446744073709551615 then some (strOfNums ((natural_Of.bytes a0 8).dropWhile (· == 0))) else none
theorem natural_Of.made (w : World) : Kd.R (Kd.int .u8) 74 (w.alloc (.cells #[.int .u8 0, .int .u8 0, .int .u8 0, .int .u8 0, .int .u8 0, .int .u8 0, .int .u8 0, .int .u8 0] 74)) w.heap.size (fun _ => True) (.slice (some ⟨w.heap.size, 0, none⟩) 8 8) (List.replicate 8 0) :=
 Kd.R_of_own (own_lit w w.heap.size 74 .u8 (List.replicate 8 0) (Nat.le_refl _) (by simp)) (fun _ _ => trivial)
theorem natural_Of.info5s : (Try.prog.info? 5).map (·.size) = some 1 := by kernel_rfl
theorem natural_Of.reads {w : World} {base g : Nat} {ok : Nat → Prop} {a : Int} (h : Kd.R (Kd.int .u8) 74 w base ok (.slice (some ⟨g, 0, none⟩) 8 8) (natural_Of.bytes a 8)) : Kd.C (Kd.int .u8) w (some ⟨g, 0, none⟩) 8 (natural_Of.bytes a 8) := by
 have := (Kd.R_reads' h).2.2
 rwa [natural_Of.bytes_len a 8 (Nat.le_refl _)] at this
theorem natural_Of.copied {w : World} {base : Nat} {ok : Nat → Prop} {v : Value} {a : Int} (h : Kd.R (Kd.int .u8) 5 w base ok v ((natural_Of.bytes a 8).take (min 8 (List.replicate 8 (0 : Int)).length) ++ (List.replicate 8 (0 : Int)).drop (min 8 (List.replicate 8 (0 : Int)).length))) : Kd.R (Kd.int .u8) 5 w base ok v (natural_Of.bytes a 8) := by
 rw [List.take_of_length_le (by rw [natural_Of.bytes_len a 8 (Nat.le_refl _)]; simp), List.drop_of_length_le (by simp), List.append_nil] at h
 exact h
theorem natural_Of.then_ {w w1 w2 : World} (h : Below w.heap.size w w1) (k : Below w1.heap.size w1 w2) : Below w.heap.size w w2 := below_then h h.size k
def natural_Of.len (v : Value) : Nat := match v with | .slice _ n _ => n | _ => 0
theorem natural_Of.drop1 (l : List Int) (h : ¬ l.length = 0) (h0 : rd l 0 = 0) : (l.drop 1).dropWhile (· == 0) = l.dropWhile (· == 0) := by
 cases l with
 | nil => exact absurd rfl h
 | cons x l =>
  have : x = 0 := h0
  subst this
  simp
theorem natural_Of.keep (l : List Int) (h0 : ¬ rd l 0 = 0) : l.dropWhile (· == 0) = l := by
 cases l with
 | nil => rfl
 | cons x l =>
  have : ¬ x = 0 := h0
  simp [this]
theorem natural_Of.add0 (a : Addr) : a.add 0 = a := by
 unfold Addr.add
 split <;> simp_all
set_option maxHeartbeats 2000000 in
set_option maxRecDepth 100000 in
theorem natural_Of.calls (a0 : Int) (r : ByteArray) (w : World) (h : natural_Of.f a0 = some r) :
  Calls Try.prog 30 #[.int .u64 a0] w fun e w' => e = .returned (.string r) ∧ Below w.heap.size w w' := by
 unfold natural_Of.f at h
 by_cases c : 0 ≤ a0 ∧ a0 ≤ 18446744073709551615
 case neg =>
  rw [if_neg c] at h
  exact absurd h (by simp)
 rw [if_pos c] at h
 obtain rfl := Option.some.inj h
 clear h
 obtain ⟨h0, h1⟩ := c
 go_enter Try.func30, Try.ntmps30
 go_wp2
 have HR0 := Aside0.mk (natural_Of.made w)
 have HB0 := Aside0.mk (below_alloc (Below.refl w.heap.size w) (.cells #[.int .u8 0, .int .u8 0, .int .u8 0, .int .u8 0, .int .u8 0, .int .u8 0, .int .u8 0, .int .u8 0] 74))
 go_loopw [6] (fun i wr => ∃ k : Nat, k ≤ 8 ∧ i = .int .i64 k ∧ Aside0 (Kd.R (Kd.int .u8) 74 wr w.heap.size (fun _ => True) (.slice (some ⟨w.heap.size, 0, none⟩) 8 8) (natural_Of.bytes a0 k)) ∧ Aside0 (Below w.heap.size w wr)) (fun i _ => 8 - (intOf i).toNat)
 case atStart => exact ⟨0, by omega, rfl, HR0, HB0⟩
 case round =>
  obtain ⟨k, hk, rfl, HR, HB⟩ := hrel
  clear HR0 HB0
  by_cases hlt : k < 8
  ·have e1 : IntKind.i64.wrap (8 * (k : Int)) = 8 * (k : Int) := IntWalk.i64_in _ (by omega)
   have e2 : IntKind.i64.wrap (56 - 8 * (k : Int)) = 56 - 8 * (k : Int) := IntWalk.i64_in _ (by omega)
   have e3 : (0 : Int) ≤ 56 - 8 * (k : Int) := by omega
   obtain ⟨hc, hf⟩ := Kd.R_celln (0 : Int) HR.out (k : Int) (by omega) (by omega); (try simp only [Int.toNat_natCast] at hc hf)
   (try simp only [Int.toNat_natCast] at hc hf)
   go_wp2
   go_roundw
   case rel =>
    have hp := (Kd.R_putg HR.out (k : Int) (natural_Of.byte a0 k)).1
    rw [Int.toNat_natCast, natural_Of.bytes_set a0 k hlt] at hp
    exact ⟨k + 1, by omega, by go_num, ⟨hp⟩, ⟨below_set HB.out (Nat.le_refl _)⟩⟩
   case measure => simp [intOf]; omega
  ·obtain rfl : k = 8 := by omega
   clear hlt hk
   go_wp2_with (first
    | ((with_reducible refine gate_dst (N := 18) rfl ?_); refine Kd.R_make (Kd.int .u8) _ 5 rfl (N := 18) rfl 75 _ _ rfl 8 rfl rfl Try.underlying75 (.int .u8 0) 1 info5 rfl (by decide) (by omega) 0 (ok := fun _ => True) (okp := fun _ => True) rfl (fun _ hk => hk) trivial (by omega) (by decide) (Below.refl _ _) (Nat.le_refl _) ?_; intro v1 w1 ho hb hg hn; have HO := Aside0.mk ho; have HG := Aside0.mk hb; have HC := Aside0.mk (natural_Of.reads (Kd.R_below HR.out hb)); clear ho hb hg hn)
    | ((with_reducible refine gate_builtin (b := .copy) rfl ?_); refine Kd.R_copy (0 : Int) wr.heap.size rfl _ _ 75 75 5 rfl Try.underlying75 natural_Of.info5s v1 (List.replicate 8 0) (natural_Of.bytes a0 8) (some ⟨w.heap.size, 0, none⟩) 8 8 (fun _ => True) rfl rfl HO.out HC.out HG.out HG.out.size ?_; intro w2 ho hb hg; have HO2 := Aside0.mk (natural_Of.copied ho); have HB2 := Aside0.mk (natural_Of.then_ HB.out hb); clear ho hb hg HR HB HO HG HC))
   obtain ⟨A, cp, hv, hcp, hC⟩ := Kd.Q_reads (Kd.Q_of_R HO2.out)
   have HQ := Aside0.mk (Kd.Q_of_R HO2.out)
   clear HO2
   rw [natural_Of.bytes_len a0 8 (Nat.le_refl _)] at hv
   subst hv
   have hl8 := natural_Of.bytes_len a0 8 (Nat.le_refl _)
   have HQ' : Aside0 (Kd.Q (Kd.int .u8) 5 w2 wr.heap.size (fun _ => True) (.slice A (natural_Of.bytes a0 8).length cp) (natural_Of.bytes a0 8)) := ⟨by rw [hl8]; exact HQ.out⟩
   have HL := Aside0.mk hl8
   clear hl8 hC hcp HQ
   (try simp only [Act.put, List.setIfInBounds_toArray, List.set_cons_zero, List.set_cons_succ])
   go_loop [5] (fun v => ∃ (l : List Int) (A : Option Addr) (c : Nat), v = .slice A l.length c ∧ Aside0 (Kd.Q (Kd.int .u8) 5 w2 wr.heap.size (fun _ => True) (.slice A l.length c) l) ∧ Aside0 (l.dropWhile (· == 0) = (natural_Of.bytes a0 8).dropWhile (· == 0))) (fun v => natural_Of.len v)
   case atStart => exact ⟨natural_Of.bytes a0 8, A, cp, by rw [HL.out], HQ', ⟨rfl⟩⟩
   case round =>
    obtain ⟨l, A1, c1, rfl, HQ1, HD⟩ := hrel
    clear HQ' HL
    obtain ⟨hn, hcp, hC⟩ := Kd.Q_reads' HQ1.out
    have HC := Aside0.mk hC
    clear hC hn
    by_cases hz : l.length = 0
    ·have hnil : l = [] := List.eq_nil_of_length_eq_zero hz
     have hstr := Kd.C_string (P := Try.prog) Try.underlying75 Try.underlying5 Try.underlying22 (c := c1) HC.out
     have c1b : decide (0 < l.length) = false := by rw [hz]; rfl
     have HN := Aside0.mk hnil
     clear hz hnil hcp
     go_wp2
     go_ret
     refine ⟨?_, HB2.out⟩
     rw [← HD.out, HN.out]
     rfl
    ·obtain ⟨ad, rfl, hx⟩ := Kd.at_int HC.out 0 (by omega) (by omega)
     have hx' : w2.cell? ad = some (.int .u8 (rd l 0)) := by rw [← natural_Of.add0 ad]; exact hx
     clear hx
     have c1b : decide (0 < l.length) = true := by simp; omega
     have c2b : decide ((0 : Int) < (l.length : Int)) = true := by simp; omega
     have c4b : (0 < l.length) = True := eq_true (by omega)
     have c5b : ((0 : Int) < (l.length : Int)) = True := eq_true (by omega)
     have HZ := Aside0.mk hz
     by_cases hx0 : rd l 0 = 0
     ·have c3b : (rd l 0 == 0) = true := beq_iff_eq.mpr hx0
      have HX := Aside0.mk hx0
      obtain ⟨i0, hi0, _, hsz, _⟩ := info_parts info5
      have hcut := cut_from (P := Try.prog) 75 5 .i64 Try.underlying75 hi0 1 hsz (some ad) l.length c1 1 (by omega) (by omega)
      have hq := Kd.Q_drop (k := 1) HQ1.out (by omega)
      obtain ⟨A2, hA2⟩ : ∃ A2, A2 = (if c1 = 1 then some ad else (some ad : Option Addr).map (·.add (1 * 1))) := ⟨_, rfl⟩
      have hl2 : (l.drop 1).length = l.length - 1 := by simp
      have hq2 : Kd.Q (Kd.int .u8) 5 w2 wr.heap.size (fun _ => True) (.slice A2 (l.drop 1).length (c1 - 1)) (l.drop 1) := by rw [hl2, hA2]; exact hq
      obtain ⟨l2, hl2'⟩ : ∃ l2, l2 = l.drop 1 := ⟨_, rfl⟩
      obtain ⟨c2, hc2⟩ : ∃ c2, c2 = c1 - 1 := ⟨_, rfl⟩
      have hcut2 : ∀ W : World, (Instr.slice 75 (.slice (some ad) l.length c1) (some (.int .i64 1)) none none).run Try.prog W = .ok (.slice A2 l2.length c2) W := by
       intro W
       rw [hcut W, hl2', hl2, hc2, hA2]
       rfl
      rw [← hl2', ← hc2] at hq2
      have HQ2 := Aside0.mk hq2
      have HL2 := Aside0.mk hl2'
      clear hcut hq hA2 hl2 hq2 hl2' hc2 hx0 hi0 hsz hcp hz
      go_wp2
      go_round
      case rel =>
       refine ⟨l2, A2, c2, by first | rfl | exact ⟨rfl, rfl, rfl⟩, HQ2, ⟨?_⟩⟩
       rw [← HD.out, HL2.out]
       exact natural_Of.drop1 l HZ.out HX.out
      case measure =>
       show natural_Of.len (.slice A2 l2.length c2) < natural_Of.len (.slice (some ad) l.length c1)
       rw [HL2.out]
       have := HZ.out
       simp [natural_Of.len]
       omega
     ·have c3b : (rd l 0 == 0) = false := beq_eq_false_iff_ne.mpr hx0
      have HX := Aside0.mk hx0
      have hstr := Kd.C_string (P := Try.prog) Try.underlying75 Try.underlying5 Try.underlying22 (c := c1) HC.out
      clear hz hcp hx0
      go_wp2
      go_ret
      refine ⟨?_, HB2.out⟩
      rw [← HD.out, natural_Of.keep l HX.out]
      rfl
mutual
def exact_NatAdd.j0 : Nat → List Int → List Int → Option (ByteArray)
 | 0, _, _ => none
 | k + 1, x5, x6 => if 0 ≤ (wrap64 ((x5.length : Int) + 1)) then (if (wrap64 ((x5.length : Int) + 1) : Int).toNat ≤ 35184372088832 then (exact_NatAdd.l0 k x5 x6 (List.replicate (wrap64 ((x5.length : Int) + 1) : Int).toNat 0) 0 (x5.length : Int) 0) else (none)) else (none)
def exact_NatAdd.l0 : Nat → List Int → List Int → List Int → Int → Int → Int → Option (ByteArray)
 | 0, _, _, _, _, _, _ => none
 | k + 1, x5, x6, x7, x8, x27, x28 => if x28 < x27 then (if x28 < (x6.length : Int) then (if 0 ≤ x28 then (if x28 < (x5.length : Int) then ((bits_Add64.f (rd x5 x28) (rd x6 x28) x8).bind fun bt329 => (if x28 < (x7.length : Int) then (exact_NatAdd.l0 k x5 x6 (x7.set (x28 : Int).toNat bt329.1) bt329.2 x27 (wrap64 (x28 + 1))) else (none))) else (none)) else (none)) else (if 0 ≤ x28 then (if x28 < (x5.length : Int) then ((bits_Add64.f (rd x5 x28) 0 x8).bind fun bt333 => (if x28 < (x7.length : Int) then (exact_NatAdd.l0 k x5 x6 (x7.set (x28 : Int).toNat bt333.1) bt333.2 x27 (wrap64 (x28 + 1))) else (none))) else (none)) else (none))) else (if 0 ≤ (x5.length : Int) then (if (x5.length : Int) < (x7.length : Int) then ((exact_pack.f k (x7.set ((x5.length : Int) : Int).toNat x8)).bind fun t337 => (some t337)) else (none)) else (none))
end
def exact_NatAdd.f (k : Nat) (a0 : ByteArray) (a1 : ByteArray) : Option (ByteArray) := (exact_words.f k a0).bind fun t318 => ((exact_words.f k a1).bind fun t321 => (if (t318.length : Int) < (t321.length : Int) then (exact_NatAdd.j0 k t321 t318) else (exact_NatAdd.j0 k t318 t321)))
theorem exact_NatAdd.mono_l : ∀ k, (∀ y0 y1, LeO (exact_NatAdd.j0 k y0 y1) (exact_NatAdd.j0 (k + 1) y0 y1)) ∧ (∀ y0 y1 y2 y3 y4 y5, LeO (exact_NatAdd.l0 k y0 y1 y2 y3 y4 y5) (exact_NatAdd.l0 (k + 1) y0 y1 y2 y3 y4 y5))
 | 0 => ⟨fun _ _ r h => by simp [exact_NatAdd.j0] at h, fun _ _ _ _ _ _ r h => by simp [exact_NatAdd.l0] at h⟩
 | k + 1 => by
  obtain ⟨ih0, ih1⟩ := exact_NatAdd.mono_l k
  refine ⟨?_, ?_⟩
  ·intro y0 y1
   unfold exact_NatAdd.j0
   repeat' first
   | (with_reducible exact ih0 _ _)
   | (with_reducible exact ih1 _ _ _ _ _ _)
   | (with_reducible exact exact_pack.mono _ _)
   | (with_reducible exact exact_words.mono _ _)
   | (with_reducible exact LeO.refl _)
   | (with_reducible exact LeO.none _)
   | (with_reducible refine LeO.ite ?_ ?_)
   | (with_reducible refine LeO.bind ?_ (fun _ => ?_))
   | exact ih0 _ _
   | exact ih1 _ _ _ _ _ _
   | exact exact_pack.mono _ _
   | exact exact_words.mono _ _
   | exact LeO.none _
   | refine LeO.ite ?_ ?_
   | refine LeO.bind ?_ (fun _ => ?_)
  ·intro y0 y1 y2 y3 y4 y5
   unfold exact_NatAdd.l0
   repeat' first
   | (with_reducible exact ih0 _ _)
   | (with_reducible exact ih1 _ _ _ _ _ _)
   | (with_reducible exact exact_pack.mono _ _)
   | (with_reducible exact exact_words.mono _ _)
   | (with_reducible exact LeO.refl _)
   | (with_reducible exact LeO.none _)
   | (with_reducible refine LeO.ite ?_ ?_)
   | (with_reducible refine LeO.bind ?_ (fun _ => ?_))
   | exact ih0 _ _
   | exact ih1 _ _ _ _ _ _
   | exact exact_pack.mono _ _
   | exact exact_words.mono _ _
   | exact LeO.none _
   | refine LeO.ite ?_ ?_
   | refine LeO.bind ?_ (fun _ => ?_)
theorem exact_NatAdd.mono : ∀ a0 a1 k, LeO (exact_NatAdd.f k a0 a1) (exact_NatAdd.f (k + 1) a0 a1) := by
 intro a0 a1 k
 obtain ⟨ih0, ih1⟩ := exact_NatAdd.mono_l k
 unfold exact_NatAdd.f
 repeat' first
   | (with_reducible exact ih0 _ _)
   | (with_reducible exact ih1 _ _ _ _ _ _)
   | (with_reducible exact exact_pack.mono _ _)
   | (with_reducible exact exact_words.mono _ _)
   | (with_reducible exact LeO.refl _)
   | (with_reducible exact LeO.none _)
   | (with_reducible refine LeO.ite ?_ ?_)
   | (with_reducible refine LeO.bind ?_ (fun _ => ?_))
   | exact ih0 _ _
   | exact ih1 _ _ _ _ _ _
   | exact exact_pack.mono _ _
   | exact exact_words.mono _ _
   | exact LeO.none _
   | refine LeO.ite ?_ ?_
   | refine LeO.bind ?_ (fun _ => ?_)
set_option maxHeartbeats 8000000 in
set_option maxRecDepth 100000 in
theorem exact_NatAdd.calls (k : Nat) (a0 : ByteArray) (a1 : ByteArray) (r : ByteArray) (w : World) (h : exact_NatAdd.f k a0 a1 = some r) :
  Calls Try.prog 63 #[.string a0, .string a1] w fun e w' => e = .returned (.string r) ∧ Below w.heap.size w w' := by
 have HB := Aside0.mk (Below.refl w.heap.size w)
 have H : ((exact_words.f k a0).bind fun t318 => ((exact_words.f k a1).bind fun t321 => (if (t318.length : Int) < (t321.length : Int) then (exact_NatAdd.j0 k t321 t318) else (exact_NatAdd.j0 k t318 t321)))) = some r := h
 clear h
 replace H := Option.bind_eq_some_iff.mp H
 obtain ⟨t318, A30, H⟩ := H
 replace H : ((exact_words.f k a1).bind fun t321 => (if (t318.length : Int) < (t321.length : Int) then (exact_NatAdd.j0 k t321 t318) else (exact_NatAdd.j0 k t318 t321))) = some r := H
 have A3 := Aside0.mk A30
 clear A30
 replace H := Option.bind_eq_some_iff.mp H
 obtain ⟨t321, A40, H⟩ := H
 replace H : (if (t318.length : Int) < (t321.length : Int) then (exact_NatAdd.j0 k t321 t318) else (exact_NatAdd.j0 k t318 t321)) = some r := H
 have A4 := Aside0.mk A40
 clear A40
 have HC5 := Aside0.mk H
 clear H
 go_enter Try.func63, Try.ntmps63
 go_upto_if 19 with (first | ((with_reducible refine gate_callee (f := 70) rfl ?_); refine goesL_ (some 12) rfl rfl Try.func70 (by kernel_rfl) rfl #[.string a0] rfl (by (try simp only [List.map_toArray, List.map_cons, List.map_nil]); first | done | rfl | (simp only [List.length_drop, List.length_take]; rfl)) ?_; (with_reducible refine (exact_words.calls k a0 t318 _ A3.out).mono ?_); rintro e w6 ⟨v319, rfl, ho0, hb⟩; refine ⟨_, rfl, ?_⟩; have n0_ := Aside0.mk (Kd.R_lower ho0 (below_size (by repeat (first | (with_reducible first | exact HB.out | apply below_alloc | apply pw_below_drewN | apply below_drew1) | exact HB.out)))); have n1_ := Aside0.mk (below_step (by repeat (first | (with_reducible first | exact HB.out | apply below_alloc | apply pw_below_drewN | apply below_drew1) | exact HB.out)) hb); clear HB; have HO320 := n0_; have HB := n1_; clear n0_ n1_; (try clear hb); (try clear hb2); (try clear hk); (try clear hi); (try clear ho0)) | ((with_reducible refine gate_callee (f := 70) rfl ?_); refine goesL_ (some 14) rfl rfl Try.func70 (by kernel_rfl) rfl #[.string a1] rfl (by (try simp only [List.map_toArray, List.map_cons, List.map_nil]); first | done | rfl | (simp only [List.length_drop, List.length_take]; rfl)) ?_; (with_reducible refine (exact_words.calls k a1 t321 _ A4.out).mono ?_); rintro e w7 ⟨v322, rfl, ho0, hb⟩; refine ⟨_, rfl, ?_⟩; have n0_ := Aside0.mk (Kd.R_elder' (by (with_reducible repeat (first | apply Kd.R_alloc | apply Kd.R_drewN | apply Kd.R_drew)); exact HO320.out) (Kd.R_base ho0) hb); have n1_ := Aside0.mk (Kd.R_lower (Kd.R_new' ho0 (Kd.R_lt (by (with_reducible repeat (first | apply Kd.R_alloc | apply Kd.R_drewN | apply Kd.R_drew)); exact HO320.out))) (below_size (by repeat (first | (with_reducible first | exact HB.out | apply below_alloc | apply pw_below_drewN | apply below_drew1) | exact HB.out)))); have n2_ := Aside0.mk (below_step (by repeat (first | (with_reducible first | exact HB.out | apply below_alloc | apply pw_below_drewN | apply below_drew1) | exact HB.out)) hb); clear HO320; clear HB; have HO320 := n0_; have HO323 := n1_; have HB := n2_; clear n0_ n1_ n2_; (try clear hb); (try clear hb2); (try clear hk); (try clear hi); (try clear ho0); obtain ⟨Ao8, co8, eo8⟩ := Kd.R_slice HO320.out; subst eo8; obtain ⟨Ao9, co9, eo9⟩ := Kd.R_slice HO323.out; subst eo9))
 (try simp only [Act.put, List.setIfInBounds_toArray, List.set_cons_zero, List.set_cons_succ])
 go_cut [5, 6] (fun v5 v6 wc => ∃ (kq : Nat) (x5_4 : List Int) (x6_4 : List Int), Aside0 (exact_NatAdd.j0 kq x5_4 x6_4 = some r) ∧ Aside0 (kq ≤ k) ∧ Aside0 (Kd.R (Kd.int .u64) 49 wc w.heap.size (fun k_ => some k_ ≠ (v6 : Value).ownBlock) v5 x5_4) ∧ Aside0 (Kd.R (Kd.int .u64) 49 wc w.heap.size (fun k_ => some k_ ≠ (v5 : Value).ownBlock) v6 x6_4) ∧ Aside0 (Below w.heap.size w wc))
 case first =>
  have H := HC5.out
  clear HC5
  by_cases c10 : (t318.length : Int) < (t321.length : Int)
  ·rw [if_pos c10] at H
   have c10b0 : decide ((t318.length : Int) < (t321.length : Int)) = true := decide_eq_true c10
   have c10b1 : decide (t318.length < t321.length) = true := decide_eq_true (Int.ofNat_lt.mp c10)
   clear c10
   (first | rw [c10b0] | rw [c10b1] | (simp only [i64_w, i32_w]; rw [c10b0]) | skip)
   have H' := Aside0.mk H
   clear H
   go_wp2
   go_meet
   case rel => exact ⟨_, (t321), (t318), H', ⟨by first | omega | exact Nat.le_refl _⟩, ⟨by (with_reducible repeat (first | apply Kd.R_alloc | apply Kd.R_drewN | apply Kd.R_drew)); exact Kd.R_mono HO323.out (fun _ hk => hk.2)⟩, ⟨by (with_reducible repeat (first | apply Kd.R_alloc | apply Kd.R_drewN | apply Kd.R_drew)); exact Kd.R_mono HO320.out (fun _ hk => hk.2)⟩, ⟨by repeat (first | (with_reducible first | exact HB.out | apply below_alloc | apply pw_below_drewN | apply below_drew1) | exact HB.out)⟩⟩
  ·rw [if_neg c10] at H
   have c10b0 : decide ((t318.length : Int) < (t321.length : Int)) = false := decide_eq_false c10
   have c10b1 : decide (t318.length < t321.length) = false := decide_eq_false (fun h => c10 (Int.ofNat_lt.mpr h))
   clear c10
   (first | rw [c10b0] | rw [c10b1] | (simp only [i64_w, i32_w]; rw [c10b0]) | skip)
   have H' := Aside0.mk H
   clear H
   go_wp2
   go_meet
   case rel => exact ⟨_, (t318), (t321), H', ⟨by first | omega | exact Nat.le_refl _⟩, ⟨by (with_reducible repeat (first | apply Kd.R_alloc | apply Kd.R_drewN | apply Kd.R_drew)); exact Kd.R_mono HO320.out (fun _ hk => hk.2)⟩, ⟨by (with_reducible repeat (first | apply Kd.R_alloc | apply Kd.R_drewN | apply Kd.R_drew)); exact Kd.R_mono HO323.out (fun _ hk => hk.2)⟩, ⟨by repeat (first | (with_reducible first | exact HB.out | apply below_alloc | apply pw_below_drewN | apply below_drew1) | exact HB.out)⟩⟩
 case rest =>
  clear HC5
  try clear c1
  try clear p2
  try clear c6
  try clear c7
  try clear c10
  try clear c10b0
  try clear c10b1
  obtain ⟨kq, x5_4, x6_4, HA, HJ4, HO_5, HO_6, HB⟩ := hcut
  cases kq with
  | zero => exact absurd HA.out (by simp [exact_NatAdd.j0])
  | succ kj4 =>
   have H := HA.out
   clear HA
   simp only [exact_NatAdd.j0] at H
   obtain ⟨ji11, hji11⟩ : ∃ j_ : Int, (wrap64 ((x5_4.length : Int) + 1)) = j_ := ⟨_, rfl⟩
   replace H : (if 0 ≤ (ji11) then (if (ji11 : Int).toNat ≤ 35184372088832 then (exact_NatAdd.l0 kj4 x5_4 x6_4 (List.replicate (ji11 : Int).toNat 0) 0 (x5_4.length : Int) 0) else (none)) else (none)) = some r := by first | (rw [hji11] at H; exact H) | (simp only [hji11] at H ⊢; exact H)
   have hji11w : (IntKind.i64.wrap ((x5_4.length : Int) + 1)) = ji11 := (i64_w _).trans hji11
   by_cases c12 : 0 ≤ (ji11)
   ·rw [if_pos c12] at H
    have c12b0 := eq_true c12
    have c12b1 : decide (0 ≤ (ji11)) = true := decide_eq_true c12
    clear c12
    by_cases c13 : (ji11 : Int).toNat ≤ 35184372088832
    ·rw [if_pos c13] at H
     have c13b0 := eq_true c13
     have c13b1 : decide ((ji11 : Int).toNat ≤ 35184372088832) = true := decide_eq_true c13
     clear c13
     obtain ⟨y324, hy324⟩ : ∃ y_ : List Int, y_ = (List.replicate (ji11 : Int).toNat 0) := ⟨_, rfl⟩
     replace H : (exact_NatAdd.l0 kj4 x5_4 x6_4 y324 0 (x5_4.length : Int) 0) = some r := by first | (rw [hy324]; with_reducible exact H) | (have H2_ := (Option.bind_some _ _).symm.trans H; rw [hy324]; with_reducible exact H2_) | (have H2_ := (Option.bind_some _ _).symm.trans H; with_reducible exact H2_) | with_reducible exact H | (rw [hy324]; exact H) | exact H
     have Ny324 := Aside0.mk hy324
     clear hy324
     have H' := Aside0.mk H
     clear H
     obtain ⟨Ao14, co14, eo14⟩ := Kd.R_slice HO_5.out
     subst eo14
     go_wp2_with (first | ((with_reducible refine gate_dst (N := 25) rfl ?_); refine Kd.R_make (Kd.int .u64) _ 49 rfl (N := 25) rfl 68 _ _ rfl ji11 rfl rfl Try.underlying68 (.int .u64 0) 8 info49 rfl (by decide) (by omega) 0 (ok := fun _ => True) (okp := fun _ => True) rfl (fun _ hk => hk) trivial (of_decide_eq_true (by first | (with_reducible assumption) | assumption)) (Nat.le_trans (Nat.mul_le_mul_right _ (of_decide_eq_true (by first | (with_reducible assumption) | assumption) : ji11.toNat ≤ 35184372088832)) (by omega)) (Below.refl _ _) (Nat.le_refl _) ?_; intro v325 w15 ho16 hb hg_ hnew_; clear hg_ hnew_; (first | rw [← Ny324.out] at ho16 | (simp only [Int.reduceToNat] at ho16; rw [← Ny324.out] at ho16)); have n0_ := Aside0.mk (Kd.R_elder' (by (with_reducible repeat (first | apply Kd.R_alloc | apply Kd.R_drewN | apply Kd.R_drew)); exact HO_5.out) (Kd.R_base ho16) hb); have n1_ := Aside0.mk (Kd.R_elder' (by (with_reducible repeat (first | apply Kd.R_alloc | apply Kd.R_drewN | apply Kd.R_drew)); exact HO_6.out) (Kd.R_base ho16) hb); have n2_ := Aside0.mk (Kd.R_lower (Kd.R_new' (Kd.R_new' ho16 (Kd.R_lt (by (with_reducible repeat (first | apply Kd.R_alloc | apply Kd.R_drewN | apply Kd.R_drew)); exact HO_5.out))) (Kd.R_lt (by (with_reducible repeat (first | apply Kd.R_alloc | apply Kd.R_drewN | apply Kd.R_drew)); exact HO_6.out))) (below_size (by repeat (first | (with_reducible first | exact HB.out | apply below_alloc | apply pw_below_drewN | apply below_drew1) | exact HB.out)))); have n3_ := Aside0.mk (below_step (by repeat (first | (with_reducible first | exact HB.out | apply below_alloc | apply pw_below_drewN | apply below_drew1) | exact HB.out)) hb); clear HO_5; clear HO_6; clear HB; have HO_5 := n0_; have HO_6 := n1_; have HO326 := n2_; have HB := n3_; clear n0_ n1_ n2_ n3_; clear hb ho16))
     go_loopg [8, 28] kj4 (fun kq v8 v28 w' => ∃ (x7_2 : List Int) (x8_2 : Int) (x28_2 : Int), v8 = .int .u64 x8_2 ∧ v28 = .int .i64 x28_2 ∧ Aside0 (exact_NatAdd.l0 kq x5_4 x6_4 x7_2 x8_2 (x5_4.length : Int) x28_2 = some r) ∧ Aside0 (kq ≤ kj4) ∧ Aside0 (Kd.R (Kd.int .u64) 49 w' w.heap.size (fun k_ => some k_ ≠ (u6 : Value).ownBlock ∧ some k_ ≠ (v325 : Value).ownBlock) (.slice Ao14 x5_4.length co14) x5_4) ∧ Aside0 (Kd.R (Kd.int .u64) 49 w' w.heap.size (fun k_ => some k_ ≠ ((.slice Ao14 x5_4.length co14) : Value).ownBlock ∧ some k_ ≠ (v325 : Value).ownBlock) u6 x6_4) ∧ Aside0 (Kd.R (Kd.int .u64) 49 w' w.heap.size (fun k_ => some k_ ≠ ((.slice Ao14 x5_4.length co14) : Value).ownBlock ∧ some k_ ≠ (u6 : Value).ownBlock) v325 x7_2) ∧ Aside0 (Below w.heap.size w w'))
     case atStart => exact ⟨(y324), (0), (0), (by first | rfl | (simp; done) | (simp [*]; done)), (by first | rfl | (simp; done) | (simp [*]; done)), H', ⟨Nat.le_refl _⟩, ⟨by (with_reducible repeat (first | apply Kd.R_alloc | apply Kd.R_drewN | apply Kd.R_drew)); exact HO_5.out⟩, ⟨by (with_reducible repeat (first | apply Kd.R_alloc | apply Kd.R_drewN | apply Kd.R_drew)); exact HO_6.out⟩, ⟨by (with_reducible repeat (first | apply Kd.R_alloc | apply Kd.R_drewN | apply Kd.R_drew)); exact Kd.R_mono HO326.out (fun _ hk => ⟨hk.1.2, hk.2⟩)⟩, ⟨by repeat (first | (with_reducible first | exact HB.out | apply below_alloc | apply pw_below_drewN | apply below_drew1) | exact HB.out)⟩⟩
     case round =>
      clear H'
      try clear c1
      try clear p2
      try clear c6
      try clear p6
      try clear c7
      try clear c10
      try clear c10b0
      try clear c10b1
      try clear c12
      try clear c12b0
      try clear c12b1
      try clear c13
      try clear c13b0
      try clear c13b1
      try clear p2
      obtain ⟨x7_2, x8_2, x28_2, rfl, rfl, HA, HK2, HO_5, HO_6, HO_7, HB⟩ := hrel
      cases gk with
      | zero => exact absurd HA.out (by simp [exact_NatAdd.l0])
      | succ k2 =>
       have H := HA.out
       clear HA
       simp only [exact_NatAdd.l0] at H
       by_cases c17 : x28_2 < (x5_4.length : Int)
       ·rw [if_pos c17] at H
        have c17b0 : decide (x28_2 < (x5_4.length : Int)) = true := decide_eq_true c17
        clear c17
        by_cases c18 : x28_2 < (x6_4.length : Int)
        ·rw [if_pos c18] at H
         have c18b0 : decide (x28_2 < (x6_4.length : Int)) = true := decide_eq_true c18
         clear c18
         by_cases c19 : 0 ≤ x28_2
         ·rw [if_pos c19] at H
          have c19b0 : decide (0 ≤ x28_2) = true := decide_eq_true c19
          clear c19
          by_cases c20 : x28_2 < (x5_4.length : Int)
          ·rw [if_pos c20] at H
           have c20b0 : decide (x28_2 < (x5_4.length : Int)) = true := decide_eq_true c20
           clear c20
           replace H := Option.bind_eq_some_iff.mp H
           obtain ⟨⟨t329, t330⟩, A210, H⟩ := H
           replace H : (if x28_2 < (x7_2.length : Int) then (exact_NatAdd.l0 k2 x5_4 x6_4 (x7_2.set (x28_2 : Int).toNat t329) t330 (x5_4.length : Int) (wrap64 (x28_2 + 1))) else (none)) = some r := H
           have A21 := Aside0.mk A210
           clear A210
           by_cases c22 : x28_2 < (x7_2.length : Int)
           ·rw [if_pos c22] at H
            have c22b0 : decide (x28_2 < (x7_2.length : Int)) = true := decide_eq_true c22
            clear c22
            obtain ⟨y331, hy331⟩ : ∃ y_ : List Int, y_ = (x7_2.set (x28_2 : Int).toNat t329) := ⟨_, rfl⟩
            replace H : (exact_NatAdd.l0 k2 x5_4 x6_4 y331 t330 (x5_4.length : Int) (wrap64 (x28_2 + 1))) = some r := by first | (rw [hy331]; with_reducible exact H) | (have H2_ := (Option.bind_some _ _).symm.trans H; rw [hy331]; with_reducible exact H2_) | (have H2_ := (Option.bind_some _ _).symm.trans H; with_reducible exact H2_) | with_reducible exact H | (rw [hy331]; exact H) | exact H
            have Ny331 := Aside0.mk hy331
            clear hy331
            have H' := Aside0.mk H
            clear H
            obtain ⟨Ao24, co24, eo24⟩ := Kd.R_slice HO_6.out
            subst eo24
            have p327 : 0 ≤ (x28_2 : Int) := of_decide_eq_true (by first | (with_reducible assumption) | assumption)
            have q327 : x28_2 < (x6_4.length : Int) := of_decide_eq_true (by first | (with_reducible assumption) | assumption)
            obtain ⟨ad327, e327, hx327_0⟩ := Kd.at_int (Kd.R_reads' HO_6.out).2.2 x28_2 p327 q327
            cases e327
            replace p327 := eq_true p327
            replace q327 := eq_true q327
            have p328 : 0 ≤ (x28_2 : Int) := of_decide_eq_true (by first | (with_reducible assumption) | assumption)
            have q328 : x28_2 < (x5_4.length : Int) := of_decide_eq_true (by first | (with_reducible assumption) | assumption)
            obtain ⟨ad328, e328, hx328_0⟩ := Kd.at_int (Kd.R_reads' HO_5.out).2.2 x28_2 p328 q328
            cases e328
            replace p328 := eq_true p328
            replace q328 := eq_true q328
            go_wp2_with (first | ((with_reducible refine gate_callee (f := 75) rfl ?_); refine goesXL_ (some 48) rfl rfl Try.func75 (by kernel_rfl) #[.int .u64 (rd x5_4 x28_2), .int .u64 (rd x6_4 x28_2), .int .u64 x8_2] rfl (by (try simp only [List.map_toArray, List.map_cons, List.map_nil]); first | done | rfl | (simp only [List.length_drop, List.length_take]; rfl)) ?_; (with_reducible refine (bits_Add64.calls (rd x5_4 x28_2) (rd x6_4 x28_2) x8_2 t329 t330 _ A21.out).mono ?_); rintro e w' ⟨rfl, ⟨nd, rfl⟩⟩; refine ⟨_, rfl, ?_⟩; (try (rw [drewN_self wr]; generalize hq_ : World.drewN wr _ = wr; have n0_ : Aside0 (Kd.R (Kd.int .u64) 49 wr w.heap.size (fun k_ => some k_ ≠ (.slice (some ad327) x6_4.length co24 : Value).ownBlock ∧ some k_ ≠ (v325 : Value).ownBlock) (.slice (some ad328) x5_4.length co14) x5_4) := ⟨by rw [← hq_]; exact (by (with_reducible repeat (first | apply Kd.R_alloc | apply Kd.R_drewN | apply Kd.R_drew)); exact HO_5.out)⟩; have n1_ : Aside0 (Kd.R (Kd.int .u64) 49 wr w.heap.size (fun k_ => some k_ ≠ (.slice (some ad328) x5_4.length co14 : Value).ownBlock ∧ some k_ ≠ (v325 : Value).ownBlock) (.slice (some ad327) x6_4.length co24) x6_4) := ⟨by rw [← hq_]; exact (by (with_reducible repeat (first | apply Kd.R_alloc | apply Kd.R_drewN | apply Kd.R_drew)); exact HO_6.out)⟩; have n2_ : Aside0 (Kd.R (Kd.int .u64) 49 wr w.heap.size (fun k_ => some k_ ≠ (.slice (some ad328) x5_4.length co14 : Value).ownBlock ∧ some k_ ≠ (.slice (some ad327) x6_4.length co24 : Value).ownBlock) v325 x7_2) := ⟨by rw [← hq_]; exact (by (with_reducible repeat (first | apply Kd.R_alloc | apply Kd.R_drewN | apply Kd.R_drew)); exact HO_7.out)⟩; have n3_ : Aside0 (Below w.heap.size w wr) := ⟨by rw [← hq_]; exact (by repeat (first | (with_reducible first | exact HB.out | apply below_alloc | apply pw_below_drewN | apply below_drew1) | exact HB.out))⟩; clear HO_5 HO_6 HO_7 HB hq_; have HO_5 := n0_; have HO_6 := n1_; have HO_7 := n2_; have HB := n3_; clear n0_ n1_ n2_ n3_)); have p23 : 0 ≤ (x28_2 : Int) := of_decide_eq_true (by first | (with_reducible assumption) | assumption); have q23 : (x28_2 : Int) < ((x7_2.length : Int) : Int) := of_decide_eq_true (by first | (with_reducible assumption) | assumption); obtain ⟨go23, co23, eo23, gb23, gl23, cl23, HG23⟩ := Kd.R_form HO_7.out (by omega); (first | cases eo23 | (injection eo23 with ea_ en_ ec_; (first | subst ea_ | (injection ea_ with ea_; subst ea_)); subst ec_; clear en_)); have GB23 := Aside0.mk gb23; have GG23 := Aside0.mk HG23; clear gb23 gl23 HG23; obtain ⟨hx23_0, hf23_0⟩ := Kd.R_celln 0 HO_7.out (x28_2 : Int) p23 q23; (try simp only [Int.toNat_natCast] at hx23_0 hf23_0); replace p23 := eq_true p23; replace q23 := eq_true q23; obtain ⟨hy25_, hz25_⟩ := Kd.R_celln 0 HO_7.out (x28_2 : Int) (of_decide_eq_true (by first | (with_reducible assumption) | assumption)) (of_decide_eq_true (by first | (with_reducible assumption) | assumption)); (try simp only [Int.toNat_natCast] at hy25_ hz25_); have HP25 := Kd.R_putg HO_7.out (x28_2 : Int) t329) | ((with_reducible refine gate_store (t := 49) (p := 51) rfl ?_); refine store_event (t := 49) (p := 51) (v := ?vo_w26) (w1 := (wr.setCell ⟨go23, (x28_2 : Int).toNat, none⟩ (.int .u64 t329))) ?hg ?ho ?hn ?hr ?_; (case ho => rfl); (case hg => rfl); (case hn => rfl); (case hr => first | (go_simp; done) | (go_simp; rfl)); intro w26 hw; have hg : wr.grownBy w26 (some go23) := (by rw [hw]; exact HP25.2); have hp_ : Kd.R (Kd.int .u64) 49 w26 w.heap.size (fun k_ => some k_ ≠ (.slice (some ad328) x5_4.length co14 : Value).ownBlock ∧ some k_ ≠ (.slice (some ad327) x6_4.length co24 : Value).ownBlock) (.slice (some ⟨go23, 0, none⟩) x7_2.length co23) y331 := (by rw [hw, Ny331.out]; exact HP25.1); clear HP25; have n0_ := Aside0.mk (Kd.R_after (v := (.slice (some ⟨go23, 0, none⟩) x7_2.length co23)) (v1 := (.slice (some ⟨go23, 0, none⟩) x7_2.length co23)) (ok := (fun k_ => some k_ ≠ (.slice (some ad327) x6_4.length co24 : Value).ownBlock)) (by (with_reducible repeat (first | apply Kd.R_alloc | apply Kd.R_drewN | apply Kd.R_drew)); exact HO_5.out) hg (.inl rfl)); have n1_ := Aside0.mk (Kd.R_after (v := (.slice (some ⟨go23, 0, none⟩) x7_2.length co23)) (v1 := (.slice (some ⟨go23, 0, none⟩) x7_2.length co23)) (ok := (fun k_ => some k_ ≠ (.slice (some ad328) x5_4.length co14 : Value).ownBlock)) (by (with_reducible repeat (first | apply Kd.R_alloc | apply Kd.R_drewN | apply Kd.R_drew)); exact HO_6.out) hg (.inl rfl)); have n2_ := Aside0.mk (hp_); have n3_ := Aside0.mk ((by rw [hw]; exact below_set (HB.out) GB23.out : Below w.heap.size w w26)); clear HO_5; clear HO_6; clear HO_7; clear HB; have HO_5 := n0_; have HO_6 := n1_; have HO_7 := n2_; have HB := n3_; clear n0_ n1_ n2_ n3_; clear hg hw hp_))
            go_roundg k2
            case measure => have := HJ4.out; have := HK2.out; omega
            case rel => exact ⟨(y331), (t330), (wrap64 (x28_2 + 1)), (by first | rfl | (simp; done) | (simp [*]; done)), (by first | rfl | (simp; done) | (simp [*]; done)), H', ⟨by have := HJ4.out; have := HK2.out; omega⟩, ⟨by (with_reducible repeat (first | apply Kd.R_alloc | apply Kd.R_drewN | apply Kd.R_drew)); exact HO_5.out⟩, ⟨by (with_reducible repeat (first | apply Kd.R_alloc | apply Kd.R_drewN | apply Kd.R_drew)); exact HO_6.out⟩, ⟨by (with_reducible repeat (first | apply Kd.R_alloc | apply Kd.R_drewN | apply Kd.R_drew)); exact HO_7.out⟩, ⟨by repeat (first | (with_reducible first | exact HB.out | apply below_alloc | apply pw_below_drewN | apply below_drew1) | exact HB.out)⟩⟩
           ·rw [if_neg c22] at H
            exact absurd H (by simp)
          ·rw [if_neg c20] at H
           exact absurd H (by simp)
         ·rw [if_neg c19] at H
          exact absurd H (by simp)
        ·rw [if_neg c18] at H
         have c18b0 : decide (x28_2 < (x6_4.length : Int)) = false := decide_eq_false c18
         clear c18
         by_cases c27 : 0 ≤ x28_2
         ·rw [if_pos c27] at H
          have c27b0 : decide (0 ≤ x28_2) = true := decide_eq_true c27
          clear c27
          by_cases c28 : x28_2 < (x5_4.length : Int)
          ·rw [if_pos c28] at H
           have c28b0 : decide (x28_2 < (x5_4.length : Int)) = true := decide_eq_true c28
           clear c28
           replace H := Option.bind_eq_some_iff.mp H
           obtain ⟨⟨t333, t334⟩, A290, H⟩ := H
           replace H : (if x28_2 < (x7_2.length : Int) then (exact_NatAdd.l0 k2 x5_4 x6_4 (x7_2.set (x28_2 : Int).toNat t333) t334 (x5_4.length : Int) (wrap64 (x28_2 + 1))) else (none)) = some r := H
           have A29 := Aside0.mk A290
           clear A290
           by_cases c30 : x28_2 < (x7_2.length : Int)
           ·rw [if_pos c30] at H
            have c30b0 : decide (x28_2 < (x7_2.length : Int)) = true := decide_eq_true c30
            clear c30
            obtain ⟨y335, hy335⟩ : ∃ y_ : List Int, y_ = (x7_2.set (x28_2 : Int).toNat t333) := ⟨_, rfl⟩
            replace H : (exact_NatAdd.l0 k2 x5_4 x6_4 y335 t334 (x5_4.length : Int) (wrap64 (x28_2 + 1))) = some r := by first | (rw [hy335]; with_reducible exact H) | (have H2_ := (Option.bind_some _ _).symm.trans H; rw [hy335]; with_reducible exact H2_) | (have H2_ := (Option.bind_some _ _).symm.trans H; with_reducible exact H2_) | with_reducible exact H | (rw [hy335]; exact H) | exact H
            have Ny335 := Aside0.mk hy335
            clear hy335
            have H' := Aside0.mk H
            clear H
            obtain ⟨Ao32, co32, eo32⟩ := Kd.R_slice HO_6.out
            subst eo32
            have p332 : 0 ≤ (x28_2 : Int) := of_decide_eq_true (by first | (with_reducible assumption) | assumption)
            have q332 : x28_2 < (x5_4.length : Int) := of_decide_eq_true (by first | (with_reducible assumption) | assumption)
            obtain ⟨ad332, e332, hx332_0⟩ := Kd.at_int (Kd.R_reads' HO_5.out).2.2 x28_2 p332 q332
            cases e332
            replace p332 := eq_true p332
            replace q332 := eq_true q332
            go_wp2_with (first | ((with_reducible refine gate_callee (f := 75) rfl ?_); refine goesXL_ (some 48) rfl rfl Try.func75 (by kernel_rfl) #[.int .u64 (rd x5_4 x28_2), .int .u64 0, .int .u64 x8_2] rfl (by (try simp only [List.map_toArray, List.map_cons, List.map_nil]); first | done | rfl | (simp only [List.length_drop, List.length_take]; rfl)) ?_; (with_reducible refine (bits_Add64.calls (rd x5_4 x28_2) 0 x8_2 t333 t334 _ A29.out).mono ?_); rintro e w' ⟨rfl, ⟨nd, rfl⟩⟩; refine ⟨_, rfl, ?_⟩; (try (rw [drewN_self wr]; generalize hq_ : World.drewN wr _ = wr; have n0_ : Aside0 (Kd.R (Kd.int .u64) 49 wr w.heap.size (fun k_ => some k_ ≠ (.slice Ao32 x6_4.length co32 : Value).ownBlock ∧ some k_ ≠ (v325 : Value).ownBlock) (.slice (some ad332) x5_4.length co14) x5_4) := ⟨by rw [← hq_]; exact (by (with_reducible repeat (first | apply Kd.R_alloc | apply Kd.R_drewN | apply Kd.R_drew)); exact HO_5.out)⟩; have n1_ : Aside0 (Kd.R (Kd.int .u64) 49 wr w.heap.size (fun k_ => some k_ ≠ (.slice (some ad332) x5_4.length co14 : Value).ownBlock ∧ some k_ ≠ (v325 : Value).ownBlock) (.slice Ao32 x6_4.length co32) x6_4) := ⟨by rw [← hq_]; exact (by (with_reducible repeat (first | apply Kd.R_alloc | apply Kd.R_drewN | apply Kd.R_drew)); exact HO_6.out)⟩; have n2_ : Aside0 (Kd.R (Kd.int .u64) 49 wr w.heap.size (fun k_ => some k_ ≠ (.slice (some ad332) x5_4.length co14 : Value).ownBlock ∧ some k_ ≠ (.slice Ao32 x6_4.length co32 : Value).ownBlock) v325 x7_2) := ⟨by rw [← hq_]; exact (by (with_reducible repeat (first | apply Kd.R_alloc | apply Kd.R_drewN | apply Kd.R_drew)); exact HO_7.out)⟩; have n3_ : Aside0 (Below w.heap.size w wr) := ⟨by rw [← hq_]; exact (by repeat (first | (with_reducible first | exact HB.out | apply below_alloc | apply pw_below_drewN | apply below_drew1) | exact HB.out))⟩; clear HO_5 HO_6 HO_7 HB hq_; have HO_5 := n0_; have HO_6 := n1_; have HO_7 := n2_; have HB := n3_; clear n0_ n1_ n2_ n3_)); have p31 : 0 ≤ (x28_2 : Int) := of_decide_eq_true (by first | (with_reducible assumption) | assumption); have q31 : (x28_2 : Int) < ((x7_2.length : Int) : Int) := of_decide_eq_true (by first | (with_reducible assumption) | assumption); obtain ⟨go31, co31, eo31, gb31, gl31, cl31, HG31⟩ := Kd.R_form HO_7.out (by omega); (first | cases eo31 | (injection eo31 with ea_ en_ ec_; (first | subst ea_ | (injection ea_ with ea_; subst ea_)); subst ec_; clear en_)); have GB31 := Aside0.mk gb31; have GG31 := Aside0.mk HG31; clear gb31 gl31 HG31; obtain ⟨hx31_0, hf31_0⟩ := Kd.R_celln 0 HO_7.out (x28_2 : Int) p31 q31; (try simp only [Int.toNat_natCast] at hx31_0 hf31_0); replace p31 := eq_true p31; replace q31 := eq_true q31; obtain ⟨hy33_, hz33_⟩ := Kd.R_celln 0 HO_7.out (x28_2 : Int) (of_decide_eq_true (by first | (with_reducible assumption) | assumption)) (of_decide_eq_true (by first | (with_reducible assumption) | assumption)); (try simp only [Int.toNat_natCast] at hy33_ hz33_); have HP33 := Kd.R_putg HO_7.out (x28_2 : Int) t333) | ((with_reducible refine gate_store (t := 49) (p := 51) rfl ?_); refine store_event (t := 49) (p := 51) (v := ?vo_w34) (w1 := (wr.setCell ⟨go31, (x28_2 : Int).toNat, none⟩ (.int .u64 t333))) ?hg ?ho ?hn ?hr ?_; (case ho => rfl); (case hg => rfl); (case hn => rfl); (case hr => first | (go_simp; done) | (go_simp; rfl)); intro w34 hw; have hg : wr.grownBy w34 (some go31) := (by rw [hw]; exact HP33.2); have hp_ : Kd.R (Kd.int .u64) 49 w34 w.heap.size (fun k_ => some k_ ≠ (.slice (some ad332) x5_4.length co14 : Value).ownBlock ∧ some k_ ≠ (.slice Ao32 x6_4.length co32 : Value).ownBlock) (.slice (some ⟨go31, 0, none⟩) x7_2.length co31) y335 := (by rw [hw, Ny335.out]; exact HP33.1); clear HP33; have n0_ := Aside0.mk (Kd.R_after (v := (.slice (some ⟨go31, 0, none⟩) x7_2.length co31)) (v1 := (.slice (some ⟨go31, 0, none⟩) x7_2.length co31)) (ok := (fun k_ => some k_ ≠ (.slice Ao32 x6_4.length co32 : Value).ownBlock)) (by (with_reducible repeat (first | apply Kd.R_alloc | apply Kd.R_drewN | apply Kd.R_drew)); exact HO_5.out) hg (.inl rfl)); have n1_ := Aside0.mk (Kd.R_after (v := (.slice (some ⟨go31, 0, none⟩) x7_2.length co31)) (v1 := (.slice (some ⟨go31, 0, none⟩) x7_2.length co31)) (ok := (fun k_ => some k_ ≠ (.slice (some ad332) x5_4.length co14 : Value).ownBlock)) (by (with_reducible repeat (first | apply Kd.R_alloc | apply Kd.R_drewN | apply Kd.R_drew)); exact HO_6.out) hg (.inl rfl)); have n2_ := Aside0.mk (hp_); have n3_ := Aside0.mk ((by rw [hw]; exact below_set (HB.out) GB31.out : Below w.heap.size w w34)); clear HO_5; clear HO_6; clear HO_7; clear HB; have HO_5 := n0_; have HO_6 := n1_; have HO_7 := n2_; have HB := n3_; clear n0_ n1_ n2_ n3_; clear hg hw hp_))
            go_roundg k2
            case measure => have := HJ4.out; have := HK2.out; omega
            case rel => exact ⟨(y335), (t334), (wrap64 (x28_2 + 1)), (by first | rfl | (simp; done) | (simp [*]; done)), (by first | rfl | (simp; done) | (simp [*]; done)), H', ⟨by have := HJ4.out; have := HK2.out; omega⟩, ⟨by (with_reducible repeat (first | apply Kd.R_alloc | apply Kd.R_drewN | apply Kd.R_drew)); exact HO_5.out⟩, ⟨by (with_reducible repeat (first | apply Kd.R_alloc | apply Kd.R_drewN | apply Kd.R_drew)); exact HO_6.out⟩, ⟨by (with_reducible repeat (first | apply Kd.R_alloc | apply Kd.R_drewN | apply Kd.R_drew)); exact HO_7.out⟩, ⟨by repeat (first | (with_reducible first | exact HB.out | apply below_alloc | apply pw_below_drewN | apply below_drew1) | exact HB.out)⟩⟩
           ·rw [if_neg c30] at H
            exact absurd H (by simp)
          ·rw [if_neg c28] at H
           exact absurd H (by simp)
         ·rw [if_neg c27] at H
          exact absurd H (by simp)
       ·rw [if_neg c17] at H
        have c17b0 : decide (x28_2 < (x5_4.length : Int)) = false := decide_eq_false c17
        clear c17
        by_cases c35 : 0 ≤ (x5_4.length : Int)
        ·rw [if_pos c35] at H
         have c35b0 : decide (0 ≤ (x5_4.length : Int)) = true := decide_eq_true c35
         have c35b1 : decide (0 ≤ x5_4.length) = true := decide_eq_true (by omega)
         clear c35
         by_cases c36 : (x5_4.length : Int) < (x7_2.length : Int)
         ·rw [if_pos c36] at H
          have c36b0 : decide ((x5_4.length : Int) < (x7_2.length : Int)) = true := decide_eq_true c36
          have c36b1 : decide (x5_4.length < x7_2.length) = true := decide_eq_true (Int.ofNat_lt.mp c36)
          clear c36
          obtain ⟨y336, hy336⟩ : ∃ y_ : List Int, y_ = (x7_2.set ((x5_4.length : Int) : Int).toNat x8_2) := ⟨_, rfl⟩
          replace H : ((exact_pack.f k2 y336).bind fun t337 => (some t337)) = some r := by first | (rw [hy336]; with_reducible exact H) | (have H2_ := (Option.bind_some _ _).symm.trans H; rw [hy336]; with_reducible exact H2_) | (have H2_ := (Option.bind_some _ _).symm.trans H; with_reducible exact H2_) | with_reducible exact H | (rw [hy336]; exact H) | exact H
          have Ny336 := Aside0.mk hy336
          clear hy336
          replace H := Option.bind_eq_some_iff.mp H
          obtain ⟨t337, A380, H⟩ := H
          replace H : (some t337) = some r := H
          have A38 := Aside0.mk A380
          clear A380
          obtain rfl := Option.some.inj H
          have p37 : 0 ≤ ((x5_4.length : Int) : Int) := of_decide_eq_true (by first | (with_reducible assumption) | assumption)
          have q37 : ((x5_4.length : Int) : Int) < ((x7_2.length : Int) : Int) := of_decide_eq_true (by first | (with_reducible assumption) | assumption)
          obtain ⟨go37, co37, eo37, gb37, gl37, cl37, HG37⟩ := Kd.R_form HO_7.out (by omega)
          (first | cases eo37 | (injection eo37 with ea_ en_ ec_; (first | subst ea_ | (injection ea_ with ea_; subst ea_)); subst ec_; clear en_))
          have GB37 := Aside0.mk gb37
          have GG37 := Aside0.mk HG37
          clear gb37 gl37 HG37
          obtain ⟨hx37_0, hf37_0⟩ := Kd.R_celln 0 HO_7.out ((x5_4.length : Int) : Int) p37 q37; (try simp only [Int.toNat_natCast] at hx37_0 hf37_0)
          replace p37 := eq_true p37
          replace q37 := eq_true q37
          have HP39 := Kd.R_putg HO_7.out ((x5_4.length : Int) : Int) x8_2
          go_wp2_with (first | ((with_reducible refine gate_store (t := 49) (p := 57) rfl ?_); refine store_event (t := 49) (p := 57) (v := ?vo_w40) (w1 := (wr.setCell ⟨go37, x5_4.length, none⟩ (.int .u64 x8_2))) ?hg ?ho ?hn ?hr ?_; (case ho => rfl); (case hg => rfl); (case hn => rfl); (case hr => first | (go_simp; done) | (go_simp; rfl)); intro w40 hw; have hg : wr.grownBy w40 (some go37) := (by rw [hw]; exact HP39.2); have hp_ : Kd.R (Kd.int .u64) 49 w40 w.heap.size (fun k_ => some k_ ≠ (.slice Ao14 x5_4.length co14 : Value).ownBlock ∧ some k_ ≠ (u6 : Value).ownBlock) (.slice (some ⟨go37, 0, none⟩) x7_2.length co37) y336 := (by rw [hw, Ny336.out]; exact HP39.1); clear HP39; have n0_ := Aside0.mk (Kd.R_after (v := (.slice (some ⟨go37, 0, none⟩) x7_2.length co37)) (v1 := (.slice (some ⟨go37, 0, none⟩) x7_2.length co37)) (ok := (fun k_ => some k_ ≠ (u6 : Value).ownBlock)) (by (with_reducible repeat (first | apply Kd.R_alloc | apply Kd.R_drewN | apply Kd.R_drew)); exact HO_5.out) hg (.inl rfl)); have n1_ := Aside0.mk (Kd.R_after (v := (.slice (some ⟨go37, 0, none⟩) x7_2.length co37)) (v1 := (.slice (some ⟨go37, 0, none⟩) x7_2.length co37)) (ok := (fun k_ => some k_ ≠ (.slice Ao14 x5_4.length co14 : Value).ownBlock)) (by (with_reducible repeat (first | apply Kd.R_alloc | apply Kd.R_drewN | apply Kd.R_drew)); exact HO_6.out) hg (.inl rfl)); have n2_ := Aside0.mk (hp_); have n3_ := Aside0.mk ((by rw [hw]; exact below_set (HB.out) GB37.out : Below w.heap.size w w40)); clear HO_5; clear HO_6; clear HO_7; clear HB; have HO_5 := n0_; have HO_6 := n1_; have HO_7 := n2_; have HB := n3_; clear n0_ n1_ n2_ n3_; clear hg hw hp_) | ((with_reducible refine gate_callee (f := 71) rfl ?_); refine goesL_ (some 59) rfl rfl Try.func71 (by kernel_rfl) rfl #[.slice (some ⟨go37, 0, none⟩) x7_2.length co37] rfl (by (try simp only [List.map_toArray, List.map_cons, List.map_nil]); first | done | rfl | (simp only [List.length_drop, List.length_take]; rfl)) ?_; (with_reducible refine (exact_pack.calls k2 (fun k_ => some k_ = (.slice (some ⟨go37, 0, none⟩) x7_2.length co37 : Value).ownBlock) (.slice (some ⟨go37, 0, none⟩) x7_2.length co37) y336 t337 w _ ?side1 ?side2 A38.out).mono ?_); (case side1 => repeat (first | (with_reducible first | exact HB.out | apply below_alloc | apply pw_below_drewN | apply below_drew1) | exact HB.out)); (case side2 => exact Kd.R_tight rfl HO_7.out); rintro e w41 ⟨rfl, hb, hkp⟩; refine ⟨_, rfl, ?_⟩; have n0_ := Aside0.mk (Kd.R_mono (ok' := fun k_ => some k_ ≠ (u6 : Value).ownBlock) (Kd.R_keptB (HO_5.out) hkp (fun k_ hk_ hs_ => (hk_.2) hs_)) (fun k_ hk_ => hk_.1.1)); have n1_ := Aside0.mk (Kd.R_mono (ok' := fun k_ => some k_ ≠ (.slice Ao14 x5_4.length co14 : Value).ownBlock) (Kd.R_keptB (HO_6.out) hkp (fun k_ hk_ hs_ => (hk_.2) hs_)) (fun k_ hk_ => hk_.1.1)); have n2_ := Aside0.mk (hb); clear HO_5; clear HO_6; clear HB; clear HO_7; have HO_5 := n0_; have HO_6 := n1_; have HB := n2_; clear n0_ n1_ n2_; (try clear hb); (try clear hkp)))
          go_ret
          exact ⟨by first | rfl | (simp [errW_none, errW_some] <;> rfl) | (simp only [← hji11]; first | rfl | (simp [errW_none, errW_some] <;> rfl)) | (simp [*, errW_none, errW_some] <;> rfl), by repeat (first | (with_reducible first | exact HB.out | apply below_alloc | apply pw_below_drewN | apply below_drew1) | exact HB.out)⟩
         ·rw [if_neg c36] at H
          exact absurd H (by simp)
        ·rw [if_neg c35] at H
         exact absurd H (by simp)
    ·rw [if_neg c13] at H
     exact absurd H (by simp)
   ·rw [if_neg c12] at H
    exact absurd H (by simp)
def exact_NatCmp.j0 : Nat → ByteArray → ByteArray → Bool → Option (Int)
 | 0, _, _, _ => none
 | k + 1, x0, x1, x5 => if x5 = true then (some (-1)) else (if x0.toList = x1.toList then (some 0) else (some 1))
def exact_NatCmp.f (k : Nat) (a0 : ByteArray) (a1 : ByteArray) : Option (Int) := if (a0.size : Int) < (a1.size : Int) then (exact_NatCmp.j0 k a0 a1 true) else (if (a0.size : Int) = (a1.size : Int) then (exact_NatCmp.j0 k a0 a1 (Op.bytesLess a0.toList a1.toList)) else (exact_NatCmp.j0 k a0 a1 false))
theorem exact_NatCmp.mono_l : ∀ k, (∀ y0 y1 y2, LeO (exact_NatCmp.j0 k y0 y1 y2) (exact_NatCmp.j0 (k + 1) y0 y1 y2))
 | 0 => fun _ _ _ r h => by simp [exact_NatCmp.j0] at h
 | k + 1 => by
  have ih0 := exact_NatCmp.mono_l k
  ·intro y0 y1 y2
   unfold exact_NatCmp.j0
   repeat' first
   | (with_reducible exact ih0 _ _ _)
   | (with_reducible exact LeO.refl _)
   | (with_reducible exact LeO.none _)
   | (with_reducible refine LeO.ite ?_ ?_)
   | (with_reducible refine LeO.bind ?_ (fun _ => ?_))
   | exact ih0 _ _ _
   | exact LeO.none _
   | refine LeO.ite ?_ ?_
   | refine LeO.bind ?_ (fun _ => ?_)
theorem exact_NatCmp.mono : ∀ a0 a1 k, LeO (exact_NatCmp.f k a0 a1) (exact_NatCmp.f (k + 1) a0 a1) := by
 intro a0 a1 k
 have ih0 := exact_NatCmp.mono_l k
 unfold exact_NatCmp.f
 repeat' first
   | (with_reducible exact ih0 _ _ _)
   | (with_reducible exact LeO.refl _)
   | (with_reducible exact LeO.none _)
   | (with_reducible refine LeO.ite ?_ ?_)
   | (with_reducible refine LeO.bind ?_ (fun _ => ?_))
   | exact ih0 _ _ _
   | exact LeO.none _
   | refine LeO.ite ?_ ?_
   | refine LeO.bind ?_ (fun _ => ?_)
set_option maxHeartbeats 8000000 in
set_option maxRecDepth 100000 in
theorem exact_NatCmp.calls (k : Nat) (a0 : ByteArray) (a1 : ByteArray) (r : Int) (w : World) (h : exact_NatCmp.f k a0 a1 = some r) :
  Calls Try.prog 64 #[.string a0, .string a1] w fun e w' => e = .returned (.int .i64 r) ∧ Drawn0 w w' := by
 have H : (if (a0.size : Int) < (a1.size : Int) then (exact_NatCmp.j0 k a0 a1 true) else (if (a0.size : Int) = (a1.size : Int) then (exact_NatCmp.j0 k a0 a1 (Op.bytesLess a0.toList a1.toList)) else (exact_NatCmp.j0 k a0 a1 false))) = some r := h
 clear h
 have HC3 := Aside0.mk H
 clear H
 go_enter Try.func64, Try.ntmps64
 go_upto_region 1 with (fail)
 go_cut [5] (fun v5 wc => ∃ (kq : Nat) (x5_2 : Bool), v5 = .bool x5_2 ∧ Aside0 (exact_NatCmp.j0 kq a0 a1 x5_2 = some r) ∧ Aside0 (kq ≤ k) ∧ Drawn0 w wc)
 case first =>
  have H := HC3.out
  clear HC3
  by_cases c4 : (a0.size : Int) < (a1.size : Int)
  ·rw [if_pos c4] at H
   have c4b0 : decide ((a0.size : Int) < (a1.size : Int)) = true := decide_eq_true c4
   have c4b1 : decide (a0.size < a1.size) = true := decide_eq_true (Int.ofNat_lt.mp c4)
   clear c4
   (first | rw [c4b0] | rw [c4b1] | (simp only [i64_w, i32_w]; rw [c4b0]) | skip)
   have H' := Aside0.mk H
   clear H
   go_wp2
   go_meet
   case rel => exact ⟨_, (true), (by first | rfl | (simp; done) | (simp [*]; done)), H', ⟨by first | omega | exact Nat.le_refl _⟩, by repeat (first | exact Drawn0.refl _ | apply Drawn0.step)⟩
  ·rw [if_neg c4] at H
   have c4b0 : decide ((a0.size : Int) < (a1.size : Int)) = false := decide_eq_false c4
   have c4b1 : decide (a0.size < a1.size) = false := decide_eq_false (fun h => c4 (Int.ofNat_lt.mpr h))
   clear c4
   (first | rw [c4b0] | rw [c4b1] | (simp only [i64_w, i32_w]; rw [c4b0]) | skip)
   by_cases c5 : (a0.size : Int) = (a1.size : Int)
   ·rw [if_pos c5] at H
    have c5b0 : ((a0.size : Int) == (a1.size : Int)) = true := beq_iff_eq.mpr c5
    have c5b1 : ((a0.size : Int) != (a1.size : Int)) = false := bne_eq_false_iff_eq.mpr c5
    have c5b2 : (a0.size == a1.size) = true := by first | simpa using c5 | (simp at c5 ⊢; omega)
    clear c5
    have H' := Aside0.mk H
    clear H
    go_wp2
    go_meet
    case rel => exact ⟨_, ((Op.bytesLess a0.toList a1.toList)), (by first | rfl | (simp; done) | (simp [*]; done)), H', ⟨by first | omega | exact Nat.le_refl _⟩, by repeat (first | exact Drawn0.refl _ | apply Drawn0.step)⟩
   ·rw [if_neg c5] at H
    have c5b0 : ((a0.size : Int) == (a1.size : Int)) = false := beq_eq_false_iff_ne.mpr c5
    have c5b1 : ((a0.size : Int) != (a1.size : Int)) = true := bne_iff_ne.mpr c5
    have c5b2 : (a0.size == a1.size) = false := by first | simpa using c5 | (simp at c5 ⊢; omega)
    have H' := Aside0.mk H
    clear H
    go_wp2
    go_meet
    case rel => exact ⟨_, (false), (by first | rfl | (simp; done) | (simp [*]; done)), H', ⟨by first | omega | exact Nat.le_refl _⟩, by repeat (first | exact Drawn0.refl _ | apply Drawn0.step)⟩
 case rest =>
  clear HC3
  try clear p2
  try clear c4
  try clear c4b0
  try clear c4b1
  try clear c5
  try clear c5b0
  try clear c5b1
  try clear c5b2
  obtain ⟨kq, x5_2, rfl, HA, HJ2, ⟨mc2, rfl⟩⟩ := hcut
  cases kq with
  | zero => exact absurd HA.out (by simp [exact_NatCmp.j0])
  | succ kj2 =>
   have H := HA.out
   clear HA
   simp only [exact_NatCmp.j0] at H
   by_cases c6 : x5_2 = true
   ·subst c6
    have H1 : (some (-1)) = some r := by rw [if_pos rfl] at H; exact H
    clear H
    have H := H1
    clear H1
    obtain rfl := Option.some.inj H
    go_wp2
    go_ret
    exact ⟨by first | rfl | (simp; done) | (simp [*]; done), by repeat (first | exact Drawn0.refl _ | apply Drawn0.step)⟩
   ·replace c6 := Bool.eq_false_iff.mpr c6
    subst c6
    have H1 : (if a0.toList = a1.toList then (some 0) else (some 1)) = some r := by rw [if_neg (show ¬ (false = true) by decide)] at H; exact H
    clear H
    have H := H1
    clear H1
    by_cases c7 : a0.toList = a1.toList
    ·rw [if_pos c7] at H
     have c7b0 : (a0.toList == a1.toList) = true := beq_iff_eq.mpr c7
     have c7b1 : (a0.toList != a1.toList) = false := bne_eq_false_iff_eq.mpr c7
     clear c7
     obtain rfl := Option.some.inj H
     go_wp2
     go_ret
     exact ⟨by first | rfl | (simp; done) | (simp [*]; done), by repeat (first | exact Drawn0.refl _ | apply Drawn0.step)⟩
    ·rw [if_neg c7] at H
     have c7b0 : (a0.toList == a1.toList) = false := beq_eq_false_iff_ne.mpr c7
     have c7b1 : (a0.toList != a1.toList) = true := bne_iff_ne.mpr c7
     obtain rfl := Option.some.inj H
     go_wp2
     go_ret
     exact ⟨by first | rfl | (simp; done) | (simp [*]; done), by repeat (first | exact Drawn0.refl _ | apply Drawn0.step)⟩
end Go.Proofs.Ytohkmnbnjacfaaa.All
namespace Go.Proofs.Ytohkmnbnjacfaaa.All
open Go.Proofs.YtohkmnbnjacfaaaX
open Go.RowKit Go.Proofs.YtohkmnbnjacfaaaW.PrintWords Go.Proofs.YtohkmnbnjacfaaaW.PrintLast Go.Proofs.YtohkmnbnjacfaaaW.PrintMore
attribute [local go_sem] max2_int min2_int max_two min_two max_three min_three max_four min_four
set_option linter.unusedVariables false
set_option linter.unusedSimpArgs false
def exact_NatTwo.f (a0 : Int) : Option (ByteArray) := if 0 ≤ (wrap64 ((wrap64 (Int.tdiv a0 8)) + 1)) then (if (wrap64 ((wrap64 (Int.tdiv a0 8)) + 1) : Int).toNat ≤ 281474976710656 then ((some (List.replicate (wrap64 ((wrap64 (Int.tdiv a0 8)) + 1) : Int).toNat 0 : List Int)).bind fun y338 => (if 0 ≤ (Int.tmod a0 8) then (if 0 < (y338.length : Int) then (some (strOfNums (y338.set (0 : Int).toNat (shl .u8 1 (Int.tmod a0 8))))) else (none)) else (none))) else (none)) else (none)
set_option maxHeartbeats 8000000 in
set_option maxRecDepth 100000 in
theorem exact_NatTwo.calls (a0 : Int) (r : ByteArray) (w : World) (h : exact_NatTwo.f a0 = some r) :
  Calls Try.prog 74 #[.int .i64 a0] w fun e w' => e = .returned (.string r) ∧ Below w.heap.size w w' := by
 have HB := Aside0.mk (Below.refl w.heap.size w)
 have H : (if 0 ≤ (wrap64 ((wrap64 (Int.tdiv a0 8)) + 1)) then (if (wrap64 ((wrap64 (Int.tdiv a0 8)) + 1) : Int).toNat ≤ 281474976710656 then ((some (List.replicate (wrap64 ((wrap64 (Int.tdiv a0 8)) + 1) : Int).toNat 0 : List Int)).bind fun y338 => (if 0 ≤ (Int.tmod a0 8) then (if 0 < (y338.length : Int) then (some (strOfNums (y338.set (0 : Int).toNat (shl .u8 1 (Int.tmod a0 8))))) else (none)) else (none))) else (none)) else (none)) = some r := h
 clear h
 obtain ⟨ji2, hji2⟩ : ∃ j_ : Int, (wrap64 ((wrap64 (Int.tdiv a0 8)) + 1)) = j_ := ⟨_, rfl⟩
 replace H : (if 0 ≤ (ji2) then (if (ji2 : Int).toNat ≤ 281474976710656 then ((some (List.replicate (ji2 : Int).toNat 0 : List Int)).bind fun y338 => (if 0 ≤ (Int.tmod a0 8) then (if 0 < (y338.length : Int) then (some (strOfNums (y338.set (0 : Int).toNat (shl .u8 1 (Int.tmod a0 8))))) else (none)) else (none))) else (none)) else (none)) = some r := by first | (rw [hji2] at H; exact H) | (simp only [hji2] at H ⊢; exact H)
 have hji2w : (IntKind.i64.wrap ((wrap64 (Int.tdiv a0 8)) + 1)) = ji2 := (i64_w _).trans hji2
 by_cases c3 : 0 ≤ (ji2)
 ·rw [if_pos c3] at H
  have c3b0 := eq_true c3
  have c3b1 : decide (0 ≤ (ji2)) = true := decide_eq_true c3
  clear c3
  by_cases c4 : (ji2 : Int).toNat ≤ 281474976710656
  ·rw [if_pos c4] at H
   have c4b0 := eq_true c4
   have c4b1 : decide ((ji2 : Int).toNat ≤ 281474976710656) = true := decide_eq_true c4
   clear c4
   obtain ⟨y338, hy338⟩ : ∃ y_ : List Int, y_ = (List.replicate (ji2 : Int).toNat 0) := ⟨_, rfl⟩
   replace H : (if 0 ≤ (Int.tmod a0 8) then (if 0 < (y338.length : Int) then (some (strOfNums (y338.set (0 : Int).toNat (shl .u8 1 (Int.tmod a0 8))))) else (none)) else (none)) = some r := by first | (rw [hy338]; with_reducible exact H) | (have H2_ := (Option.bind_some _ _).symm.trans H; rw [hy338]; with_reducible exact H2_) | (have H2_ := (Option.bind_some _ _).symm.trans H; with_reducible exact H2_) | with_reducible exact H | (rw [hy338]; exact H) | exact H
   have Ny338 := Aside0.mk hy338
   clear hy338
   obtain ⟨ji5, hji5⟩ : ∃ j_ : Int, (Int.tmod a0 8) = j_ := ⟨_, rfl⟩
   replace H : (if 0 ≤ (ji5) then (if 0 < (y338.length : Int) then (some (strOfNums (y338.set (0 : Int).toNat (shl .u8 1 (ji5))))) else (none)) else (none)) = some r := by first | (rw [hji5] at H; exact H) | (simp only [hji5] at H ⊢; exact H)
   by_cases c6 : 0 ≤ (ji5)
   ·rw [if_pos c6] at H
    have c6b0 := eq_true c6
    have c6b1 : decide (0 ≤ (ji5)) = true := decide_eq_true c6
    clear c6
    obtain ⟨ji7, hji7⟩ : ∃ j_ : Int, (shl .u8 1 (ji5)) = j_ := ⟨_, rfl⟩
    replace H : (if 0 < (y338.length : Int) then (some (strOfNums (y338.set (0 : Int).toNat (ji7)))) else (none)) = some r := by first | (rw [hji7] at H; exact H) | (simp only [hji7] at H ⊢; exact H)
    have hji7_ : (IntKind.u8.wrap (1 * 2 ^ min (ji5).toNat 8)) = ji7 := hji7
    have hji7z : (ji5) ≤ 8 → (IntKind.u8.wrap (1 * 2 ^ (ji5).toNat)) = ji7 := shl_small hji7
    have hji7u : (IntKind.u8.wrap (2 ^ min (ji5).toNat 8)) = ji7 := by have h_ := hji7_; rw [Int.one_mul] at h_; exact h_
    have hji7v : (ji5) ≤ 8 → (IntKind.u8.wrap (2 ^ (ji5).toNat)) = ji7 := fun hle_ => by have h_ := hji7z hle_; rw [Int.one_mul] at h_; exact h_
    by_cases c8 : 0 < (y338.length : Int)
    ·rw [if_pos c8] at H
     have c8b0 : decide (0 < (y338.length : Int)) = true := decide_eq_true c8
     have c8b1 : decide (0 < y338.length) = true := decide_eq_true (by omega)
     clear c8
     obtain ⟨y341, hy341⟩ : ∃ y_ : List Int, y_ = (y338.set (0 : Int).toNat (ji7)) := ⟨_, rfl⟩
     replace H : (some (strOfNums y341)) = some r := by first | (rw [hy341]; with_reducible exact H) | (have H2_ := (Option.bind_some _ _).symm.trans H; rw [hy341]; with_reducible exact H2_) | (have H2_ := (Option.bind_some _ _).symm.trans H; with_reducible exact H2_) | with_reducible exact H | (rw [hy341]; exact H) | exact H
     have Ny341 := Aside0.mk hy341
     clear hy341
     obtain rfl := Option.some.inj H
     go_enter Try.func74, Try.ntmps74
     go_wp2_with (first | ((with_reducible refine gate_dst (N := 7) rfl ?_); refine Kd.R_make (Kd.int .u8) _ 5 rfl (N := 7) rfl 75 _ _ rfl ji2 rfl rfl Try.underlying75 (.int .u8 0) 1 info5 rfl (by decide) (by omega) 0 (ok := fun _ => True) (okp := fun _ => True) rfl (fun _ hk => hk) trivial (of_decide_eq_true (by first | (with_reducible assumption) | assumption)) (Nat.le_trans (Nat.mul_le_mul_right _ (of_decide_eq_true (by first | (with_reducible assumption) | assumption) : ji2.toNat ≤ 281474976710656)) (by omega)) (Below.refl _ _) (Nat.le_refl _) ?_; intro v339 w10 ho11 hb hg_ hnew_; clear hg_ hnew_; (first | rw [← Ny338.out] at ho11 | (simp only [Int.reduceToNat] at ho11; rw [← Ny338.out] at ho11)); have n0_ := Aside0.mk (Kd.R_lower ho11 (below_size (by repeat (first | (with_reducible first | exact HB.out | apply below_alloc | apply pw_below_drewN | apply below_drew1) | exact HB.out)))); have n1_ := Aside0.mk (below_step (by repeat (first | (with_reducible first | exact HB.out | apply below_alloc | apply pw_below_drewN | apply below_drew1) | exact HB.out)) hb); clear HB; have HO340 := n0_; have HB := n1_; clear n0_ n1_; clear hb ho11; have p9 : 0 ≤ (0 : Int) := (by omega); have q9 : (0 : Int) < ((y338.length : Int) : Int) := of_decide_eq_true (by first | (with_reducible assumption) | assumption); have qi9 : (0 < y338.length) = True := eq_true (by omega); obtain ⟨go9, co9, eo9, gb9, gl9, cl9, HG9⟩ := Kd.R_form HO340.out (by omega); (first | cases eo9 | (injection eo9 with ea_ en_ ec_; (first | subst ea_ | (injection ea_ with ea_; subst ea_)); subst ec_; clear en_)); have GB9 := Aside0.mk gb9; have GG9 := Aside0.mk HG9; clear gb9 gl9 HG9; obtain ⟨hx9_0, hf9_0⟩ := Kd.R_celln 0 HO340.out (0 : Int) p9 q9; (try simp only [Int.toNat_natCast] at hx9_0 hf9_0); (try rw [show ((0 : Int)).toNat = 0 from rfl] at hx9_0); (try simp only [Nat.reduceMul, Nat.zero_mul, Nat.zero_add, Nat.reduceAdd] at hx9_0); (try rw [show ((0 : Int)).toNat = 0 from rfl] at hf9_0); (try simp only [Nat.reduceMul, Nat.zero_mul, Nat.zero_add, Nat.reduceAdd] at hf9_0); replace p9 := eq_true p9; replace q9 := eq_true q9; obtain ⟨hy12_, hz12_⟩ := Kd.R_celln 0 HO340.out (0 : Int) (by omega) (of_decide_eq_true (by first | (with_reducible assumption) | assumption)); (try simp only [Int.toNat_natCast] at hy12_ hz12_); (try simp only [Int.reduceToNat, Int.toNat_zero, Int.toNat_ofNat, Nat.reduceMul, Nat.zero_mul, Nat.zero_add] at hy12_ hz12_); (try rw [show ((0 : Int)).toNat = 0 from rfl] at hy12_); (try rw [show ((0 : Int)).toNat = 0 from rfl] at hz12_); have HP12 := Kd.R_putg HO340.out (0 : Int) ji7) | ((with_reducible refine gate_store (t := 5) (p := 12) rfl ?_); refine store_event (t := 5) (p := 12) (v := ?vo_w13) (w1 := (w10.setCell ⟨go9, (0 : Int).toNat, none⟩ (.int .u8 ji7))) ?hg ?ho ?hn ?hr ?_; (case ho => rfl); (case hg => rfl); (case hn => rfl); (case hr => first | (go_simp; done) | (go_simp; rfl)); intro w13 hw; have hg : w10.grownBy w13 (some go9) := (by rw [hw]; exact HP12.2); have hp_ : Kd.R (Kd.int .u8) 5 w13 w.heap.size (fun _ => True) (.slice (some ⟨go9, 0, none⟩) y338.length co9) y341 := (by rw [hw, Ny341.out]; exact HP12.1); clear HP12; have n0_ := Aside0.mk (hp_); have n1_ := Aside0.mk ((by rw [hw]; exact below_set (HB.out) GB9.out : Below w.heap.size w w13)); clear HO340; clear HB; have HO340 := n0_; have HB := n1_; clear n0_ n1_; clear hg hw hp_; have hcv14 := own_string (P := Try.prog) Try.underlying75 Try.underlying5 Try.underlying22 (Kd.own_of_R HO340.out)))
     go_ret
     exact ⟨by first | rfl | (simp [errW_none, errW_some] <;> rfl) | (simp only [← hji2, ← hji5, ← hji7]; first | rfl | (simp [errW_none, errW_some] <;> rfl)) | (simp [*, errW_none, errW_some] <;> rfl), by repeat (first | (with_reducible first | exact HB.out | apply below_alloc | apply pw_below_drewN | apply below_drew1) | exact HB.out)⟩
    ·rw [if_neg c8] at H
     exact absurd H (by simp)
   ·rw [if_neg c6] at H
    exact absurd H (by simp)
  ·rw [if_neg c4] at H
   exact absurd H (by simp)
 ·rw [if_neg c3] at H
  exact absurd H (by simp)
def exact_NatRoot.l0 : Nat → ByteArray → Int → ByteArray → Int → Option (ByteArray)
 | 0, _, _, _, _ => none
 | k + 1, x0, x1, x5, x6 => if x6 ≥ 0 then ((exact_NatTwo.f x6).bind fun t343 => ((exact_NatAdd.f k x5 t343).bind fun t344 => ((exact_NatPow.f k t344 x1).bind fun t345 => ((exact_NatCmp.f k t345 x0).bind fun t346 => (if t346 ≤ 0 then (exact_NatRoot.l0 k x0 x1 t344 (wrap64 (x6 - 1))) else (exact_NatRoot.l0 k x0 x1 x5 (wrap64 (x6 - 1)))))))) else (some x5)
def exact_NatRoot.f (k : Nat) (a0 : ByteArray) (a1 : Int) : Option (ByteArray) := (exact_NatBits.f a0).bind fun t342 => (if a1 = 0 then (none) else (exact_NatRoot.l0 k a0 a1 (⟨#[]⟩ : ByteArray) (wrap64 (Int.tdiv (wrap64 ((wrap64 (t342 + a1)) - 1)) a1))))
theorem exact_NatRoot.mono_l : ∀ k, (∀ y0 y1 y2 y3, LeO (exact_NatRoot.l0 k y0 y1 y2 y3) (exact_NatRoot.l0 (k + 1) y0 y1 y2 y3))
 | 0 => fun _ _ _ _ r h => by simp [exact_NatRoot.l0] at h
 | k + 1 => by
  have ih0 := exact_NatRoot.mono_l k
  ·intro y0 y1 y2 y3
   unfold exact_NatRoot.l0
   repeat' first
   | (with_reducible exact ih0 _ _ _ _)
   | (with_reducible exact exact_NatAdd.mono _ _ _)
   | (with_reducible exact exact_NatCmp.mono _ _ _)
   | (with_reducible exact exact_NatPow.mono _ _ _)
   | (with_reducible exact LeO.refl _)
   | (with_reducible exact LeO.none _)
   | (with_reducible refine LeO.ite ?_ ?_)
   | (with_reducible refine LeO.bind ?_ (fun _ => ?_))
   | exact ih0 _ _ _ _
   | exact exact_NatAdd.mono _ _ _
   | exact exact_NatCmp.mono _ _ _
   | exact exact_NatPow.mono _ _ _
   | exact LeO.none _
   | refine LeO.ite ?_ ?_
   | refine LeO.bind ?_ (fun _ => ?_)
theorem exact_NatRoot.mono : ∀ a0 a1 k, LeO (exact_NatRoot.f k a0 a1) (exact_NatRoot.f (k + 1) a0 a1) := by
 intro a0 a1 k
 have ih0 := exact_NatRoot.mono_l k
 unfold exact_NatRoot.f
 repeat' first
   | (with_reducible exact ih0 _ _ _ _)
   | (with_reducible exact exact_NatAdd.mono _ _ _)
   | (with_reducible exact exact_NatCmp.mono _ _ _)
   | (with_reducible exact exact_NatPow.mono _ _ _)
   | (with_reducible exact LeO.refl _)
   | (with_reducible exact LeO.none _)
   | (with_reducible refine LeO.ite ?_ ?_)
   | (with_reducible refine LeO.bind ?_ (fun _ => ?_))
   | exact ih0 _ _ _ _
   | exact exact_NatAdd.mono _ _ _
   | exact exact_NatCmp.mono _ _ _
   | exact exact_NatPow.mono _ _ _
   | exact LeO.none _
   | refine LeO.ite ?_ ?_
   | refine LeO.bind ?_ (fun _ => ?_)
set_option maxHeartbeats 8000000 in
set_option maxRecDepth 100000 in
theorem exact_NatRoot.calls (k : Nat) (a0 : ByteArray) (a1 : Int) (r : ByteArray) (w : World) (h : exact_NatRoot.f k a0 a1 = some r) :
  Calls Try.prog 57 #[.string a0, .int .i64 a1] w fun e w' => e = .returned (.string r) ∧ Below w.heap.size w w' := by
 have HB := Aside0.mk (Below.refl w.heap.size w)
 have H : ((exact_NatBits.f a0).bind fun t342 => (if a1 = 0 then (none) else (exact_NatRoot.l0 k a0 a1 (⟨#[]⟩ : ByteArray) (wrap64 (Int.tdiv (wrap64 ((wrap64 (t342 + a1)) - 1)) a1))))) = some r := h
 clear h
 replace H := Option.bind_eq_some_iff.mp H
 obtain ⟨t342, A30, H⟩ := H
 replace H : (if a1 = 0 then (none) else (exact_NatRoot.l0 k a0 a1 (⟨#[]⟩ : ByteArray) (wrap64 (Int.tdiv (wrap64 ((wrap64 (t342 + a1)) - 1)) a1)))) = some r := H
 have A3 := Aside0.mk A30
 clear A30
 by_cases c4 : a1 = 0
 ·rw [if_pos c4] at H
  exact absurd H (by simp)
 ·rw [if_neg c4] at H
  have c4b0 : (a1 == 0) = false := beq_eq_false_iff_ne.mpr c4
  have c4b1 : (a1 != 0) = true := bne_iff_ne.mpr c4
  have H' := Aside0.mk H
  clear H
  go_enter Try.func57, Try.ntmps57
  go_wp2_with (first | ((with_reducible refine gate_callee (f := 54) rfl ?_); refine goesL_ (some 9) rfl rfl Try.func54 (by kernel_rfl) rfl #[.string a0] rfl (by (try simp only [List.map_toArray, List.map_cons, List.map_nil]); first | done | rfl | (simp only [List.length_drop, List.length_take]; rfl)) ?_; (with_reducible refine (exact_NatBits.calls a0 t342 _ A3.out).mono ?_); rintro e w' ⟨rfl, ⟨nd, rfl⟩⟩; refine ⟨_, rfl, ?_⟩))
  go_loopg [5, 6] k (fun kq v5 v6 w' => ∃ (x5_1 : ByteArray) (x6_1 : Int), v5 = .string x5_1 ∧ v6 = .int .i64 x6_1 ∧ Aside0 (exact_NatRoot.l0 kq a0 a1 x5_1 x6_1 = some r) ∧ Aside0 (kq ≤ k) ∧ Aside0 (Below w.heap.size w w'))
  case atStart => exact ⟨((⟨#[]⟩ : ByteArray)), (wrap64 (Int.tdiv (wrap64 ((wrap64 (t342 + a1)) - 1)) a1)), (by first | rfl | (simp; done) | (simp [*]; done)), (by first | rfl | (simp; done) | (simp [*]; done)), H', ⟨Nat.le_refl _⟩, ⟨by repeat (first | (with_reducible first | exact HB.out | apply below_alloc | apply pw_below_drewN | apply below_drew1) | exact HB.out)⟩⟩
  case round =>
   clear H'
   try clear p2
   try clear c4
   try clear c4b0
   try clear c4b1
   obtain ⟨x5_1, x6_1, rfl, rfl, HA, HK1, HB⟩ := hrel
   cases gk with
   | zero => exact absurd HA.out (by simp [exact_NatRoot.l0])
   | succ k1 =>
    have H := HA.out
    clear HA
    simp only [exact_NatRoot.l0] at H
    by_cases c5 : x6_1 ≥ 0
    ·rw [if_pos c5] at H
     have c5b0 : decide (0 ≤ x6_1) = true := decide_eq_true c5
     clear c5
     replace H := Option.bind_eq_some_iff.mp H
     obtain ⟨t343, A60, H⟩ := H
     replace H : ((exact_NatAdd.f k1 x5_1 t343).bind fun t344 => ((exact_NatPow.f k1 t344 a1).bind fun t345 => ((exact_NatCmp.f k1 t345 a0).bind fun t346 => (if t346 ≤ 0 then (exact_NatRoot.l0 k1 a0 a1 t344 (wrap64 (x6_1 - 1))) else (exact_NatRoot.l0 k1 a0 a1 x5_1 (wrap64 (x6_1 - 1))))))) = some r := H
     have A6 := Aside0.mk A60
     clear A60
     replace H := Option.bind_eq_some_iff.mp H
     obtain ⟨t344, A70, H⟩ := H
     replace H : ((exact_NatPow.f k1 t344 a1).bind fun t345 => ((exact_NatCmp.f k1 t345 a0).bind fun t346 => (if t346 ≤ 0 then (exact_NatRoot.l0 k1 a0 a1 t344 (wrap64 (x6_1 - 1))) else (exact_NatRoot.l0 k1 a0 a1 x5_1 (wrap64 (x6_1 - 1)))))) = some r := H
     have A7 := Aside0.mk A70
     clear A70
     replace H := Option.bind_eq_some_iff.mp H
     obtain ⟨t345, A80, H⟩ := H
     replace H : ((exact_NatCmp.f k1 t345 a0).bind fun t346 => (if t346 ≤ 0 then (exact_NatRoot.l0 k1 a0 a1 t344 (wrap64 (x6_1 - 1))) else (exact_NatRoot.l0 k1 a0 a1 x5_1 (wrap64 (x6_1 - 1))))) = some r := H
     have A8 := Aside0.mk A80
     clear A80
     replace H := Option.bind_eq_some_iff.mp H
     obtain ⟨t346, A90, H⟩ := H
     replace H : (if t346 ≤ 0 then (exact_NatRoot.l0 k1 a0 a1 t344 (wrap64 (x6_1 - 1))) else (exact_NatRoot.l0 k1 a0 a1 x5_1 (wrap64 (x6_1 - 1)))) = some r := H
     have A9 := Aside0.mk A90
     clear A90
     by_cases c10 : t346 ≤ 0
     ·rw [if_pos c10] at H
      have c10b0 : decide (t346 ≤ 0) = true := decide_eq_true c10
      clear c10
      have H' := Aside0.mk H
      clear H
      go_wp2_with (first | ((with_reducible refine gate_callee (f := 74) rfl ?_); refine goesL_ (some 21) rfl rfl Try.func74 (by kernel_rfl) rfl #[.int .i64 x6_1] rfl (by (try simp only [List.map_toArray, List.map_cons, List.map_nil]); first | done | rfl | (simp only [List.length_drop, List.length_take]; rfl)) ?_; (with_reducible refine (exact_NatTwo.calls x6_1 t343 _ A6.out).mono ?_); rintro e w11 ⟨rfl, hb⟩; refine ⟨_, rfl, ?_⟩; have n0_ := Aside0.mk (below_step (by repeat (first | (with_reducible first | exact HB.out | apply below_alloc | apply pw_below_drewN | apply below_drew1) | exact HB.out)) hb); clear HB; have HB := n0_; clear n0_; (try clear hb); (try clear hb2); (try clear hk); (try clear hi)) | ((with_reducible refine gate_callee (f := 63) rfl ?_); refine goesL_ (some 22) rfl rfl Try.func63 (by kernel_rfl) rfl #[.string x5_1, .string t343] rfl (by (try simp only [List.map_toArray, List.map_cons, List.map_nil]); first | done | rfl | (simp only [List.length_drop, List.length_take]; rfl)) ?_; (with_reducible refine (exact_NatAdd.calls k1 x5_1 t343 t344 _ A7.out).mono ?_); rintro e w12 ⟨rfl, hb⟩; refine ⟨_, rfl, ?_⟩; have n0_ := Aside0.mk (below_step (by repeat (first | (with_reducible first | exact HB.out | apply below_alloc | apply pw_below_drewN | apply below_drew1) | exact HB.out)) hb); clear HB; have HB := n0_; clear n0_; (try clear hb); (try clear hb2); (try clear hk); (try clear hi)) | ((with_reducible refine gate_callee (f := 56) rfl ?_); refine goesL_ (some 25) rfl rfl Try.func56 (by kernel_rfl) rfl #[.string t344, .int .i64 a1] rfl (by (try simp only [List.map_toArray, List.map_cons, List.map_nil]); first | done | rfl | (simp only [List.length_drop, List.length_take]; rfl)) ?_; (with_reducible refine (exact_NatPow.calls k1 t344 a1 t345 _ A8.out).mono ?_); rintro e w13 ⟨rfl, hb⟩; refine ⟨_, rfl, ?_⟩; have n0_ := Aside0.mk (below_step (by repeat (first | (with_reducible first | exact HB.out | apply below_alloc | apply pw_below_drewN | apply below_drew1) | exact HB.out)) hb); clear HB; have HB := n0_; clear n0_; (try clear hb); (try clear hb2); (try clear hk); (try clear hi)) | ((with_reducible refine gate_callee (f := 64) rfl ?_); refine goesL_ (some 27) rfl rfl Try.func64 (by kernel_rfl) rfl #[.string t345, .string a0] rfl (by (try simp only [List.map_toArray, List.map_cons, List.map_nil]); first | done | rfl | (simp only [List.length_drop, List.length_take]; rfl)) ?_; (with_reducible refine (exact_NatCmp.calls k1 t345 a0 t346 _ A9.out).mono ?_); rintro e w' ⟨rfl, ⟨nd, rfl⟩⟩; refine ⟨_, rfl, ?_⟩))
      go_roundg k1
      case measure => have := HK1.out; omega
      case rel => exact ⟨(t344), (wrap64 (x6_1 - 1)), (by first | rfl | (simp; done) | (simp [*]; done)), (by first | rfl | (simp; done) | (simp [*]; done)), H', ⟨by have := HK1.out; omega⟩, ⟨by repeat (first | (with_reducible first | exact HB.out | apply below_alloc | apply pw_below_drewN | apply below_drew1) | exact HB.out)⟩⟩
     ·rw [if_neg c10] at H
      have c10b0 : decide (t346 ≤ 0) = false := decide_eq_false c10
      clear c10
      have H' := Aside0.mk H
      clear H
      go_wp2_with (first | ((with_reducible refine gate_callee (f := 74) rfl ?_); refine goesL_ (some 21) rfl rfl Try.func74 (by kernel_rfl) rfl #[.int .i64 x6_1] rfl (by (try simp only [List.map_toArray, List.map_cons, List.map_nil]); first | done | rfl | (simp only [List.length_drop, List.length_take]; rfl)) ?_; (with_reducible refine (exact_NatTwo.calls x6_1 t343 _ A6.out).mono ?_); rintro e w14 ⟨rfl, hb⟩; refine ⟨_, rfl, ?_⟩; have n0_ := Aside0.mk (below_step (by repeat (first | (with_reducible first | exact HB.out | apply below_alloc | apply pw_below_drewN | apply below_drew1) | exact HB.out)) hb); clear HB; have HB := n0_; clear n0_; (try clear hb); (try clear hb2); (try clear hk); (try clear hi)) | ((with_reducible refine gate_callee (f := 63) rfl ?_); refine goesL_ (some 22) rfl rfl Try.func63 (by kernel_rfl) rfl #[.string x5_1, .string t343] rfl (by (try simp only [List.map_toArray, List.map_cons, List.map_nil]); first | done | rfl | (simp only [List.length_drop, List.length_take]; rfl)) ?_; (with_reducible refine (exact_NatAdd.calls k1 x5_1 t343 t344 _ A7.out).mono ?_); rintro e w15 ⟨rfl, hb⟩; refine ⟨_, rfl, ?_⟩; have n0_ := Aside0.mk (below_step (by repeat (first | (with_reducible first | exact HB.out | apply below_alloc | apply pw_below_drewN | apply below_drew1) | exact HB.out)) hb); clear HB; have HB := n0_; clear n0_; (try clear hb); (try clear hb2); (try clear hk); (try clear hi)) | ((with_reducible refine gate_callee (f := 56) rfl ?_); refine goesL_ (some 25) rfl rfl Try.func56 (by kernel_rfl) rfl #[.string t344, .int .i64 a1] rfl (by (try simp only [List.map_toArray, List.map_cons, List.map_nil]); first | done | rfl | (simp only [List.length_drop, List.length_take]; rfl)) ?_; (with_reducible refine (exact_NatPow.calls k1 t344 a1 t345 _ A8.out).mono ?_); rintro e w16 ⟨rfl, hb⟩; refine ⟨_, rfl, ?_⟩; have n0_ := Aside0.mk (below_step (by repeat (first | (with_reducible first | exact HB.out | apply below_alloc | apply pw_below_drewN | apply below_drew1) | exact HB.out)) hb); clear HB; have HB := n0_; clear n0_; (try clear hb); (try clear hb2); (try clear hk); (try clear hi)) | ((with_reducible refine gate_callee (f := 64) rfl ?_); refine goesL_ (some 27) rfl rfl Try.func64 (by kernel_rfl) rfl #[.string t345, .string a0] rfl (by (try simp only [List.map_toArray, List.map_cons, List.map_nil]); first | done | rfl | (simp only [List.length_drop, List.length_take]; rfl)) ?_; (with_reducible refine (exact_NatCmp.calls k1 t345 a0 t346 _ A9.out).mono ?_); rintro e w' ⟨rfl, ⟨nd, rfl⟩⟩; refine ⟨_, rfl, ?_⟩))
      go_roundg k1
      case measure => have := HK1.out; omega
      case rel => exact ⟨(x5_1), (wrap64 (x6_1 - 1)), (by first | rfl | (simp; done) | (simp [*]; done)), (by first | rfl | (simp; done) | (simp [*]; done)), H', ⟨by have := HK1.out; omega⟩, ⟨by repeat (first | (with_reducible first | exact HB.out | apply below_alloc | apply pw_below_drewN | apply below_drew1) | exact HB.out)⟩⟩
    ·rw [if_neg c5] at H
     have c5b0 : decide (0 ≤ x6_1) = false := decide_eq_false c5
     clear c5
     obtain rfl := Option.some.inj H
     go_wp2
     go_ret
     exact ⟨by first | rfl | (simp [errW_none, errW_some] <;> rfl) | (simp [*, errW_none, errW_some] <;> rfl), by repeat (first | (with_reducible first | exact HB.out | apply below_alloc | apply pw_below_drewN | apply below_drew1) | exact HB.out)⟩
mutual
def natural_Root.j0 : Nat → ByteArray → Int → Bool → Option (ByteArray × Int)
 | 0, _, _, _ => none
 | k + 1, x0, x1, x18 => if x18 = true then (some ((⟨#[]⟩ : ByteArray), 3)) else (if x0.toList = ([] : List UInt8) then (natural_Root.j1 k x0 x1 false) else ((exact_NatBits.f x0).bind fun t351 => (natural_Root.j1 k x0 x1 (decide (x1 ≥ t351)))))
def natural_Root.j1 : Nat → ByteArray → Int → Bool → Option (ByteArray × Int)
 | 0, _, _, _ => none
 | k + 1, x0, x1, x26 => if x26 = true then ((natural_Of.f 1).bind fun t352 => (some (t352, 0))) else ((exact_NatRoot.f k x0 x1).bind fun t353 => (some (t353, 0)))
end
def natural_Root.f (k : Nat) (a0 : ByteArray) (a1 : Int) : Option (ByteArray × Int) := (natural_first.f k (([a0] : List ByteArray))).bind fun t350 => (if t350 = 0 then (if a1 < 1 then (natural_Root.j0 k a0 a1 true) else (natural_Root.j0 k a0 a1 (decide (a1 > 4096)))) else (some ((⟨#[]⟩ : ByteArray), t350)))
theorem natural_Root.mono_l : ∀ k, (∀ y0 y1 y2, LeO (natural_Root.j0 k y0 y1 y2) (natural_Root.j0 (k + 1) y0 y1 y2)) ∧ (∀ y0 y1 y2, LeO (natural_Root.j1 k y0 y1 y2) (natural_Root.j1 (k + 1) y0 y1 y2))
 | 0 => ⟨fun _ _ _ r h => by simp [natural_Root.j0] at h, fun _ _ _ r h => by simp [natural_Root.j1] at h⟩
 | k + 1 => by
  obtain ⟨ih0, ih1⟩ := natural_Root.mono_l k
  refine ⟨?_, ?_⟩
  ·intro y0 y1 y2
   unfold natural_Root.j0
   repeat' first
   | (with_reducible exact ih0 _ _ _)
   | (with_reducible exact ih1 _ _ _)
   | (with_reducible exact exact_NatRoot.mono _ _ _)
   | (with_reducible exact natural_first.mono _ _)
   | (with_reducible exact LeO.refl _)
   | (with_reducible exact LeO.none _)
   | (with_reducible refine LeO.ite ?_ ?_)
   | (with_reducible refine LeO.bind ?_ (fun _ => ?_))
   | exact ih0 _ _ _
   | exact ih1 _ _ _
   | exact exact_NatRoot.mono _ _ _
   | exact natural_first.mono _ _
   | exact LeO.none _
   | refine LeO.ite ?_ ?_
   | refine LeO.bind ?_ (fun _ => ?_)
  ·intro y0 y1 y2
   unfold natural_Root.j1
   repeat' first
   | (with_reducible exact ih0 _ _ _)
   | (with_reducible exact ih1 _ _ _)
   | (with_reducible exact exact_NatRoot.mono _ _ _)
   | (with_reducible exact natural_first.mono _ _)
   | (with_reducible exact LeO.refl _)
   | (with_reducible exact LeO.none _)
   | (with_reducible refine LeO.ite ?_ ?_)
   | (with_reducible refine LeO.bind ?_ (fun _ => ?_))
   | exact ih0 _ _ _
   | exact ih1 _ _ _
   | exact exact_NatRoot.mono _ _ _
   | exact natural_first.mono _ _
   | exact LeO.none _
   | refine LeO.ite ?_ ?_
   | refine LeO.bind ?_ (fun _ => ?_)
theorem natural_Root.mono : ∀ a0 a1 k, LeO (natural_Root.f k a0 a1) (natural_Root.f (k + 1) a0 a1) := by
 intro a0 a1 k
 obtain ⟨ih0, ih1⟩ := natural_Root.mono_l k
 unfold natural_Root.f
 repeat' first
   | (with_reducible exact ih0 _ _ _)
   | (with_reducible exact ih1 _ _ _)
   | (with_reducible exact exact_NatRoot.mono _ _ _)
   | (with_reducible exact natural_first.mono _ _)
   | (with_reducible exact LeO.refl _)
   | (with_reducible exact LeO.none _)
   | (with_reducible refine LeO.ite ?_ ?_)
   | (with_reducible refine LeO.bind ?_ (fun _ => ?_))
   | exact ih0 _ _ _
   | exact ih1 _ _ _
   | exact exact_NatRoot.mono _ _ _
   | exact natural_first.mono _ _
   | exact LeO.none _
   | refine LeO.ite ?_ ?_
   | refine LeO.bind ?_ (fun _ => ?_)
set_option maxHeartbeats 8000000 in
set_option maxRecDepth 100000 in
theorem natural_Root.calls (k : Nat) (a0 : ByteArray) (a1 : Int) (r1 : ByteArray) (r2 : Int) (w : World) (h : natural_Root.f k a0 a1 = some (r1, r2)) :
  Calls Try.prog 21 #[.string a0, .int .i64 a1] w fun e w' => e = .returned (.tuple #[.string r1, .int .i64 r2]) ∧ Below w.heap.size w w' := by
 have HB := Aside0.mk (Below.refl w.heap.size w)
 have H : ((natural_first.f k (([a0] : List ByteArray))).bind fun t350 => (if t350 = 0 then (if a1 < 1 then (natural_Root.j0 k a0 a1 true) else (natural_Root.j0 k a0 a1 (decide (a1 > 4096)))) else (some ((⟨#[]⟩ : ByteArray), t350)))) = some (r1, r2) := h
 clear h
 obtain ⟨y347, hy347⟩ : ∃ y_ : List ByteArray, y_ = (([a0] : List ByteArray)) := ⟨_, rfl⟩
 replace H : ((natural_first.f k y347).bind fun t350 => (if t350 = 0 then (if a1 < 1 then (natural_Root.j0 k a0 a1 true) else (natural_Root.j0 k a0 a1 (decide (a1 > 4096)))) else (some ((⟨#[]⟩ : ByteArray), t350)))) = some (r1, r2) := by first | (rw [hy347]; with_reducible exact H) | (have H2_ := (Option.bind_some _ _).symm.trans H; rw [hy347]; with_reducible exact H2_) | (have H2_ := (Option.bind_some _ _).symm.trans H; with_reducible exact H2_) | with_reducible exact H | (rw [hy347]; exact H) | exact H
 have Ny347 := Aside0.mk hy347
 clear hy347
 replace H := Option.bind_eq_some_iff.mp H
 obtain ⟨t350, A30, H⟩ := H
 replace H : (if t350 = 0 then (if a1 < 1 then (natural_Root.j0 k a0 a1 true) else (natural_Root.j0 k a0 a1 (decide (a1 > 4096)))) else (some ((⟨#[]⟩ : ByteArray), t350))) = some (r1, r2) := H
 have A3 := Aside0.mk A30
 clear A30
 by_cases c4 : t350 = 0
 ·rw [if_pos c4] at H
  have c4b0 : (t350 == 0) = true := beq_iff_eq.mpr c4
  have c4b1 : (t350 != 0) = false := bne_eq_false_iff_eq.mpr c4
  clear c4
  have HC5 := Aside0.mk H
  clear H
  go_enter Try.func21, Try.ntmps21
  go_upto_region 4 with (first | ((with_reducible refine gate_dst (N := 8) rfl ?_); refine Kd.R_lit Kd.string _ 22 ?hg (N := 8) ?hd (xs := ([a0] : List ByteArray)) (inner := [.string a0]) (ok := fun _ => True) (okp := fun _ => True) ?hr ?hp (fun _ hk => hk) trivial (Below.refl _ _) (Nat.le_refl _) (by simp) ?_; (case hd => rfl); (case hg => rfl); (case hr => first | (go_simp; done) | (go_simp; rfl)); (case hp => exact (Reps.one (show Kd.M Kd.string _ _ _ a0 [.string a0] from rfl) (Reps.none _ _))); intro v348 w6 ho7 hb hg_ hnew_; clear hg_ hnew_; (first | rw [← Ny347.out] at ho7 | (simp only [Int.reduceToNat] at ho7; rw [← Ny347.out] at ho7)); have n0_ := Aside0.mk (Kd.R_lower ho7 (below_size (by repeat (first | (with_reducible first | exact HB.out | apply below_alloc | apply pw_below_drewN | apply below_drew1) | exact HB.out)))); have n1_ := Aside0.mk (below_step (by repeat (first | (with_reducible first | exact HB.out | apply below_alloc | apply pw_below_drewN | apply below_drew1) | exact HB.out)) hb); clear HB; have HO349 := n0_; have HB := n1_; clear n0_ n1_; clear hb ho7; obtain ⟨Ao8, co8, eo8⟩ := Kd.R_slice HO349.out; subst eo8) | ((with_reducible refine gate_callee (f := 47) rfl ?_); refine goesL_ (some 9) rfl rfl Try.func47 (by kernel_rfl) rfl #[.slice Ao8 y347.length co8] rfl (by (try simp only [List.map_toArray, List.map_cons, List.map_nil]); first | done | rfl | (simp only [List.length_drop, List.length_take]; rfl)) ?_; (with_reducible refine (natural_first.calls k _ _ y347 t350 _ ?side1 ?side2 A3.out).mono ?_); (case side1 => repeat (first | exact (Kd.R_reads' HO349.out).2.2 | (with_reducible refine Kd.C_alloc ?_ _) | (with_reducible refine Kd.C_drewN ?_ _) | (with_reducible refine Kd.C_drew ?_))); (case side2 => exact (Kd.R_reads' HO349.out).2.1); rintro e w' ⟨rfl, ⟨nd, rfl⟩⟩; refine ⟨_, rfl, ?_⟩))
  (try simp only [Act.put, List.setIfInBounds_toArray, List.set_cons_zero, List.set_cons_succ])
  go_cut [18] (fun v18 wc => ∃ (kq : Nat) (x18_4 : Bool), v18 = .bool x18_4 ∧ Aside0 (natural_Root.j0 kq a0 a1 x18_4 = some (r1, r2)) ∧ Aside0 (kq ≤ k) ∧ Aside0 (Below w.heap.size w wc))
  case first =>
   have H := HC5.out
   clear HC5
   by_cases c9 : a1 < 1
   ·rw [if_pos c9] at H
    have c9b0 : decide (a1 < 1) = true := decide_eq_true c9
    clear c9
    (first | rw [c9b0] | rw [c9b1] | (simp only [i64_w, i32_w]; rw [c9b0]) | skip)
    have H' := Aside0.mk H
    clear H
    go_wp2
    go_meet
    case rel => exact ⟨_, (true), (by first | rfl | (simp; done) | (simp [*]; done)), H', ⟨by first | omega | exact Nat.le_refl _⟩, ⟨by repeat (first | (with_reducible first | exact HB.out | apply below_alloc | apply pw_below_drewN | apply below_drew1) | exact HB.out)⟩⟩
   ·rw [if_neg c9] at H
    have c9b0 : decide (a1 < 1) = false := decide_eq_false c9
    clear c9
    (first | rw [c9b0] | rw [c9b1] | (simp only [i64_w, i32_w]; rw [c9b0]) | skip)
    have H' := Aside0.mk H
    clear H
    go_wp2
    go_meet
    case rel => exact ⟨_, (decide (a1 > 4096)), (by first | rfl | (simp; done) | (simp [*]; done)), H', ⟨by first | omega | exact Nat.le_refl _⟩, ⟨by repeat (first | (with_reducible first | exact HB.out | apply below_alloc | apply pw_below_drewN | apply below_drew1) | exact HB.out)⟩⟩
  case rest =>
   clear HC5
   try clear c2
   try clear p2
   try clear c4
   try clear c4b0
   try clear c4b1
   try clear c9
   try clear c9b0
   obtain ⟨kq, x18_4, rfl, HA, HJ4, HB⟩ := hcut
   cases kq with
   | zero => exact absurd HA.out (by simp [natural_Root.j0])
   | succ kj4 =>
    have H := HA.out
    clear HA
    simp only [natural_Root.j0] at H
    by_cases c10 : x18_4 = true
    ·subst c10
     have H1 : (some ((⟨#[]⟩ : ByteArray), 3)) = some (r1, r2) := by rw [if_pos rfl] at H; exact H
     clear H
     have H := H1
     clear H1
     simp only [Option.some.injEq, Prod.mk.injEq] at H
     obtain ⟨rfl, rfl⟩ := H
     go_wp2
     go_ret2
     exact ⟨by first | rfl | (simp [errW_none, errW_some] <;> rfl) | (simp [*, errW_none, errW_some] <;> rfl), by repeat (first | (with_reducible first | exact HB.out | apply below_alloc | apply pw_below_drewN | apply below_drew1) | exact HB.out)⟩
    ·replace c10 := Bool.eq_false_iff.mpr c10
     subst c10
     have H1 : (if a0.toList = ([] : List UInt8) then (natural_Root.j1 kj4 a0 a1 false) else ((exact_NatBits.f a0).bind fun t351 => (natural_Root.j1 kj4 a0 a1 (decide (a1 ≥ t351))))) = some (r1, r2) := by rw [if_neg (show ¬ (false = true) by decide)] at H; exact H
     clear H
     have H := H1
     clear H1
     have HC11 := Aside0.mk H
     clear H
     go_upto_region 6 with (fail)
     go_cut [26] (fun v26 wc => ∃ (kq : Nat) (x26_10 : Bool), v26 = .bool x26_10 ∧ Aside0 (natural_Root.j1 kq a0 a1 x26_10 = some (r1, r2)) ∧ Aside0 (kq ≤ kj4) ∧ Aside0 (Below w.heap.size w wc))
     case first =>
      have H := HC11.out
      clear HC11
      by_cases c12 : a0.toList = ([] : List UInt8)
      ·rw [if_pos c12] at H
       have c12b0 : (a0.toList == ([] : List UInt8)) = true := beq_iff_eq.mpr c12
       have c12b1 : (a0.toList != ([] : List UInt8)) = false := bne_eq_false_iff_eq.mpr c12
       clear c12
       (first | rw [c12b0] | rw [c12b1] | (simp only [i64_w, i32_w]; rw [c12b0]) | skip)
       have H' := Aside0.mk H
       clear H
       go_wp2
       go_meet
       case rel => exact ⟨_, (false), (by first | rfl | (simp; done) | (simp [*]; done)), H', ⟨by have := HJ4.out; first | omega | exact Nat.le_refl _⟩, ⟨by repeat (first | (with_reducible first | exact HB.out | apply below_alloc | apply pw_below_drewN | apply below_drew1) | exact HB.out)⟩⟩
      ·rw [if_neg c12] at H
       have c12b0 : (a0.toList == ([] : List UInt8)) = false := beq_eq_false_iff_ne.mpr c12
       have c12b1 : (a0.toList != ([] : List UInt8)) = true := bne_iff_ne.mpr c12
       (first | rw [c12b0] | rw [c12b1] | (simp only [i64_w, i32_w]; rw [c12b0]) | skip)
       replace H := Option.bind_eq_some_iff.mp H
       obtain ⟨t351, A130, H⟩ := H
       replace H : (natural_Root.j1 kj4 a0 a1 (decide (a1 ≥ t351))) = some (r1, r2) := H
       have A13 := Aside0.mk A130
       clear A130
       have H' := Aside0.mk H
       clear H
       go_wp2_with (first | (go_at_call 54; (with_reducible refine (exact_NatBits.calls a0 t351 _ A13.out).mono ?_); rintro e w' ⟨rfl, ⟨nd, rfl⟩⟩))
       go_meet
       case rel => exact ⟨_, (decide (a1 ≥ t351)), (by first | rfl | (simp; done) | (simp [*]; done)), H', ⟨by have := HJ4.out; first | omega | exact Nat.le_refl _⟩, ⟨by repeat (first | (with_reducible first | exact HB.out | apply below_alloc | apply pw_below_drewN | apply below_drew1) | exact HB.out)⟩⟩
     case rest =>
      clear HC11
      try clear c1
      try clear c2
      try clear p2
      try clear c4
      try clear c4b0
      try clear c4b1
      try clear c9
      try clear c9b0
      try clear c10
      try clear c12
      try clear c12b0
      try clear c12b1
      try clear p2
      obtain ⟨kq, x26_10, rfl, HA, HJ10, HB⟩ := hcut
      cases kq with
      | zero => exact absurd HA.out (by simp [natural_Root.j1])
      | succ kj10 =>
       have H := HA.out
       clear HA
       simp only [natural_Root.j1] at H
       by_cases c14 : x26_10 = true
       ·subst c14
        have H1 : ((natural_Of.f 1).bind fun t352 => (some (t352, 0))) = some (r1, r2) := by rw [if_pos rfl] at H; exact H
        clear H
        have H := H1
        clear H1
        replace H := Option.bind_eq_some_iff.mp H
        obtain ⟨t352, A150, H⟩ := H
        replace H : (some (t352, 0)) = some (r1, r2) := H
        have A15 := Aside0.mk A150
        clear A150
        simp only [Option.some.injEq, Prod.mk.injEq] at H
        obtain ⟨rfl, rfl⟩ := H
        go_wp2_with (first | ((with_reducible refine gate_callee (f := 30) rfl ?_); refine goesL_ (some 27) rfl rfl Try.func30 (by kernel_rfl) rfl #[.int .u64 1] rfl (by (try simp only [List.map_toArray, List.map_cons, List.map_nil]); first | done | rfl | (simp only [List.length_drop, List.length_take]; rfl)) ?_; (with_reducible refine (natural_Of.calls 1 t352 _ A15.out).mono ?_); rintro e w16 ⟨rfl, hb⟩; refine ⟨_, rfl, ?_⟩; have n0_ := Aside0.mk (below_step (by repeat (first | (with_reducible first | exact HB.out | apply below_alloc | apply pw_below_drewN | apply below_drew1) | exact HB.out)) hb); clear HB; have HB := n0_; clear n0_; (try clear hb); (try clear hb2); (try clear hk); (try clear hi)))
        go_ret2
        exact ⟨by first | rfl | (simp [errW_none, errW_some] <;> rfl) | (simp [*, errW_none, errW_some] <;> rfl), by repeat (first | (with_reducible first | exact HB.out | apply below_alloc | apply pw_below_drewN | apply below_drew1) | exact HB.out)⟩
       ·replace c14 := Bool.eq_false_iff.mpr c14
        subst c14
        have H1 : ((exact_NatRoot.f kj10 a0 a1).bind fun t353 => (some (t353, 0))) = some (r1, r2) := by rw [if_neg (show ¬ (false = true) by decide)] at H; exact H
        clear H
        have H := H1
        clear H1
        replace H := Option.bind_eq_some_iff.mp H
        obtain ⟨t353, A170, H⟩ := H
        replace H : (some (t353, 0)) = some (r1, r2) := H
        have A17 := Aside0.mk A170
        clear A170
        simp only [Option.some.injEq, Prod.mk.injEq] at H
        obtain ⟨rfl, rfl⟩ := H
        go_wp2_with (first | ((with_reducible refine gate_callee (f := 57) rfl ?_); refine goesL_ (some 30) rfl rfl Try.func57 (by kernel_rfl) rfl #[.string a0, .int .i64 a1] rfl (by (try simp only [List.map_toArray, List.map_cons, List.map_nil]); first | done | rfl | (simp only [List.length_drop, List.length_take]; rfl)) ?_; (with_reducible refine (exact_NatRoot.calls kj10 a0 a1 t353 _ A17.out).mono ?_); rintro e w18 ⟨rfl, hb⟩; refine ⟨_, rfl, ?_⟩; have n0_ := Aside0.mk (below_step (by repeat (first | (with_reducible first | exact HB.out | apply below_alloc | apply pw_below_drewN | apply below_drew1) | exact HB.out)) hb); clear HB; have HB := n0_; clear n0_; (try clear hb); (try clear hb2); (try clear hk); (try clear hi)))
        go_ret2
        exact ⟨by first | rfl | (simp [errW_none, errW_some] <;> rfl) | (simp [*, errW_none, errW_some] <;> rfl), by repeat (first | (with_reducible first | exact HB.out | apply below_alloc | apply pw_below_drewN | apply below_drew1) | exact HB.out)⟩
 ·rw [if_neg c4] at H
  have c4b0 : (t350 == 0) = false := beq_eq_false_iff_ne.mpr c4
  have c4b1 : (t350 != 0) = true := bne_iff_ne.mpr c4
  simp only [Option.some.injEq, Prod.mk.injEq] at H
  obtain ⟨rfl, rfl⟩ := H
  go_enter Try.func21, Try.ntmps21
  go_wp2_with (first | ((with_reducible refine gate_dst (N := 8) rfl ?_); refine Kd.R_lit Kd.string _ 22 ?hg (N := 8) ?hd (xs := ([a0] : List ByteArray)) (inner := [.string a0]) (ok := fun _ => True) (okp := fun _ => True) ?hr ?hp (fun _ hk => hk) trivial (Below.refl _ _) (Nat.le_refl _) (by simp) ?_; (case hd => rfl); (case hg => rfl); (case hr => first | (go_simp; done) | (go_simp; rfl)); (case hp => exact (Reps.one (show Kd.M Kd.string _ _ _ a0 [.string a0] from rfl) (Reps.none _ _))); intro v348 w19 ho20 hb hg_ hnew_; clear hg_ hnew_; (first | rw [← Ny347.out] at ho20 | (simp only [Int.reduceToNat] at ho20; rw [← Ny347.out] at ho20)); have n0_ := Aside0.mk (Kd.R_lower ho20 (below_size (by repeat (first | (with_reducible first | exact HB.out | apply below_alloc | apply pw_below_drewN | apply below_drew1) | exact HB.out)))); have n1_ := Aside0.mk (below_step (by repeat (first | (with_reducible first | exact HB.out | apply below_alloc | apply pw_below_drewN | apply below_drew1) | exact HB.out)) hb); clear HB; have HO349 := n0_; have HB := n1_; clear n0_ n1_; clear hb ho20; obtain ⟨Ao21, co21, eo21⟩ := Kd.R_slice HO349.out; subst eo21) | ((with_reducible refine gate_callee (f := 47) rfl ?_); refine goesL_ (some 9) rfl rfl Try.func47 (by kernel_rfl) rfl #[.slice Ao21 y347.length co21] rfl (by (try simp only [List.map_toArray, List.map_cons, List.map_nil]); first | done | rfl | (simp only [List.length_drop, List.length_take]; rfl)) ?_; (with_reducible refine (natural_first.calls k _ _ y347 t350 _ ?side1 ?side2 A3.out).mono ?_); (case side1 => repeat (first | exact (Kd.R_reads' HO349.out).2.2 | (with_reducible refine Kd.C_alloc ?_ _) | (with_reducible refine Kd.C_drewN ?_ _) | (with_reducible refine Kd.C_drew ?_))); (case side2 => exact (Kd.R_reads' HO349.out).2.1); rintro e w' ⟨rfl, ⟨nd, rfl⟩⟩; refine ⟨_, rfl, ?_⟩))
  go_ret2
  exact ⟨by first | rfl | (simp [errW_none, errW_some] <;> rfl) | (simp [*, errW_none, errW_some] <;> rfl), by repeat (first | (with_reducible first | exact HB.out | apply below_alloc | apply pw_below_drewN | apply below_drew1) | exact HB.out)⟩
mutual
def galoisref01_pack.l0 : Nat → List Int → List Int → Int → Option (ByteArray)
 | 0, _, _, _ => none
 | k + 1, x0, x3, x4 => if x4 ≥ 0 then (galoisref01_pack.l1 k x0 x3 x4 24) else (some (strOfNums x3))
def galoisref01_pack.l1 : Nat → List Int → List Int → Int → Int → Option (ByteArray)
 | 0, _, _, _, _ => none
 | k + 1, x0, x3, x4, x5 => if x5 ≥ 0 then (if 0 ≤ x4 then (if x4 < (x0.length : Int) then (if 0 ≤ x5 then (if (x3.length : Int) > 0 then (if x3.length < 140737488355328 then (galoisref01_pack.l1 k x0 (x3 ++ [(shr .u64 (rd x0 x4) x5) % 256]) x4 (wrap64 (x5 - 8))) else (none)) else (if ((shr .u64 (rd x0 x4) x5) % 256) > 0 then (if x3.length < 140737488355328 then (galoisref01_pack.l1 k x0 (x3 ++ [(shr .u64 (rd x0 x4) x5) % 256]) x4 (wrap64 (x5 - 8))) else (none)) else (galoisref01_pack.l1 k x0 x3 x4 (wrap64 (x5 - 8))))) else (none)) else (none)) else (none)) else (galoisref01_pack.l0 k x0 x3 (wrap64 (x4 - 1)))
end
def galoisref01_pack.f (k : Nat) (l0 : List Int) : Option (ByteArray) := galoisref01_pack.l0 k l0 ([] : List Int) (wrap64 ((l0.length : Int) - 1))
theorem galoisref01_pack.mono_l : ∀ k, (∀ y0 y1 y2, LeO (galoisref01_pack.l0 k y0 y1 y2) (galoisref01_pack.l0 (k + 1) y0 y1 y2)) ∧ (∀ y0 y1 y2 y3, LeO (galoisref01_pack.l1 k y0 y1 y2 y3) (galoisref01_pack.l1 (k + 1) y0 y1 y2 y3))
 | 0 => ⟨fun _ _ _ r h => by simp [galoisref01_pack.l0] at h, fun _ _ _ _ r h => by simp [galoisref01_pack.l1] at h⟩
 | k + 1 => by
  obtain ⟨ih0, ih1⟩ := galoisref01_pack.mono_l k
  refine ⟨?_, ?_⟩
  ·intro y0 y1 y2
   unfold galoisref01_pack.l0
   repeat' first
   | (with_reducible exact ih0 _ _ _)
   | (with_reducible exact ih1 _ _ _ _)
   | (with_reducible exact LeO.refl _)
   | (with_reducible exact LeO.none _)
   | (with_reducible refine LeO.ite ?_ ?_)
   | (with_reducible refine LeO.bind ?_ (fun _ => ?_))
   | exact ih0 _ _ _
   | exact ih1 _ _ _ _
   | exact LeO.none _
   | refine LeO.ite ?_ ?_
   | refine LeO.bind ?_ (fun _ => ?_)
  ·intro y0 y1 y2 y3
   unfold galoisref01_pack.l1
   repeat' first
   | (with_reducible exact ih0 _ _ _)
   | (with_reducible exact ih1 _ _ _ _)
   | (with_reducible exact LeO.refl _)
   | (with_reducible exact LeO.none _)
   | (with_reducible refine LeO.ite ?_ ?_)
   | (with_reducible refine LeO.bind ?_ (fun _ => ?_))
   | exact ih0 _ _ _
   | exact ih1 _ _ _ _
   | exact LeO.none _
   | refine LeO.ite ?_ ?_
   | refine LeO.bind ?_ (fun _ => ?_)
theorem galoisref01_pack.mono : ∀ a0 k, LeO (galoisref01_pack.f k a0) (galoisref01_pack.f (k + 1) a0) := by
 intro a0 k
 obtain ⟨ih0, ih1⟩ := galoisref01_pack.mono_l k
 unfold galoisref01_pack.f
 repeat' first
   | (with_reducible exact ih0 _ _ _)
   | (with_reducible exact ih1 _ _ _ _)
   | (with_reducible exact LeO.refl _)
   | (with_reducible exact LeO.none _)
   | (with_reducible refine LeO.ite ?_ ?_)
   | (with_reducible refine LeO.bind ?_ (fun _ => ?_))
   | exact ih0 _ _ _
   | exact ih1 _ _ _ _
   | exact LeO.none _
   | refine LeO.ite ?_ ?_
   | refine LeO.bind ?_ (fun _ => ?_)
set_option maxHeartbeats 8000000 in
set_option maxRecDepth 100000 in
theorem galoisref01_pack.calls (k : Nat) (A0 : Option Addr) (c0 : Nat) (l0 : List Int) (r : ByteArray) (w : World) (hr0 : Kd.C (Kd.int .u64) w A0 l0.length l0) (hc0 : l0.length ≤ c0) (h : galoisref01_pack.f k l0 = some r) :
  Calls Try.prog 53 #[.slice A0 l0.length c0] w fun e w' => e = .returned (.string r) ∧ Below w.heap.size w w' := by
 have HR0 := Aside0.mk hr0
 have HC0 := Aside0.mk hc0
 clear hr0 hc0
 have HB := Aside0.mk (Below.refl w.heap.size w)
 have H : (galoisref01_pack.l0 k l0 ([] : List Int) (wrap64 ((l0.length : Int) - 1))) = some r := h
 clear h
 have H' := Aside0.mk H
 clear H
 go_enter Try.func53, Try.ntmps53
 go_wp2
 go_loopg [3, 4] k (fun kq v3 v4 w' => ∃ (x3_1 : List Int) (x4_1 : Int), v4 = .int .i64 x4_1 ∧ Aside0 (galoisref01_pack.l0 kq l0 x3_1 x4_1 = some r) ∧ Aside0 (kq ≤ k) ∧ Aside0 (Kd.R (Kd.int .u8) 5 w' w.heap.size (fun _ => True) v3 x3_1) ∧ Aside0 (Below w.heap.size w w'))
 case atStart => exact ⟨(([] : List Int)), (wrap64 ((l0.length : Int) - 1)), (by first | rfl | (simp; done) | (simp [*]; done)), H', ⟨Nat.le_refl _⟩, ⟨by first | exact Kd.R_nil _ _ _ _ _ | exact Kd.N_nil _ _ _ _ _ | exact Kd.V_nil _ _ _ _ _ | exact Kd.Q_nil _ _ _ _ _ | exact Kd.S_nil _ _ _ _ _⟩, ⟨by repeat (first | (with_reducible first | exact HB.out | apply below_alloc | apply pw_below_drewN | apply below_drew1) | exact HB.out)⟩⟩
 case round =>
  clear H'
  obtain ⟨x3_1, x4_1, rfl, HA, HK1, HO_3, HB⟩ := hrel
  cases gk with
  | zero => exact absurd HA.out (by simp [galoisref01_pack.l0])
  | succ k1 =>
   have H := HA.out
   clear HA
   simp only [galoisref01_pack.l0] at H
   by_cases c2 : x4_1 ≥ 0
   ·rw [if_pos c2] at H
    have c2b0 : decide (0 ≤ x4_1) = true := decide_eq_true c2
    clear c2
    have H' := Aside0.mk H
    clear H
    go_wp2
    go_loopg [3, 5] k1 (fun kq v3 v5 w' => ∃ (x3_2 : List Int) (x5_2 : Int), v5 = .int .i64 x5_2 ∧ Aside0 (galoisref01_pack.l1 kq l0 x3_2 x4_1 x5_2 = some r) ∧ Aside0 (kq ≤ k1) ∧ Aside0 (Kd.R (Kd.int .u8) 5 w' w.heap.size (fun _ => True) v3 x3_2) ∧ Aside0 (Below w.heap.size w w'))
    case atStart => exact ⟨(x3_1), (24), (by first | rfl | (simp; done) | (simp [*]; done)), H', ⟨Nat.le_refl _⟩, ⟨by (with_reducible repeat (first | apply Kd.R_alloc | apply Kd.R_drewN | apply Kd.R_drew)); exact HO_3.out⟩, ⟨by repeat (first | (with_reducible first | exact HB.out | apply below_alloc | apply pw_below_drewN | apply below_drew1) | exact HB.out)⟩⟩
    case round =>
     clear H'
     try clear c2
     try clear c2b0
     try clear p2
     obtain ⟨x3_2, x5_2, rfl, HA, HK2, HO_3, HB⟩ := hrel
     cases gk with
     | zero => exact absurd HA.out (by simp [galoisref01_pack.l1])
     | succ k2 =>
      have H := HA.out
      clear HA
      simp only [galoisref01_pack.l1] at H
      by_cases c3 : x5_2 ≥ 0
      ·rw [if_pos c3] at H
       have c3b0 : decide (0 ≤ x5_2) = true := decide_eq_true c3
       clear c3
       by_cases c4 : 0 ≤ x4_1
       ·rw [if_pos c4] at H
        have c4b0 : decide (0 ≤ x4_1) = true := decide_eq_true c4
        clear c4
        by_cases c5 : x4_1 < (l0.length : Int)
        ·rw [if_pos c5] at H
         have c5b0 : decide (x4_1 < (l0.length : Int)) = true := decide_eq_true c5
         clear c5
         by_cases c6 : 0 ≤ x5_2
         ·rw [if_pos c6] at H
          have c6b0 := eq_true c6
          have c6b1 : decide (0 ≤ x5_2) = true := decide_eq_true c6
          clear c6
          obtain ⟨ji7, hji7⟩ : ∃ j_ : Int, (shr .u64 (rd l0 x4_1) x5_2) = j_ := ⟨_, rfl⟩
          replace H : (if (x3_2.length : Int) > 0 then (if x3_2.length < 140737488355328 then (galoisref01_pack.l1 k2 l0 (x3_2 ++ [(ji7) % 256]) x4_1 (wrap64 (x5_2 - 8))) else (none)) else (if ((ji7) % 256) > 0 then (if x3_2.length < 140737488355328 then (galoisref01_pack.l1 k2 l0 (x3_2 ++ [(ji7) % 256]) x4_1 (wrap64 (x5_2 - 8))) else (none)) else (galoisref01_pack.l1 k2 l0 x3_2 x4_1 (wrap64 (x5_2 - 8))))) = some r := by first | (rw [hji7] at H; exact H) | (simp only [hji7] at H ⊢; exact H)
          have hji7_ : ((rd l0 x4_1) / 2 ^ min x5_2.toNat 64) = ji7 := hji7
          have hji7z : x5_2 ≤ 64 → ((rd l0 x4_1) / 2 ^ x5_2.toNat) = ji7 := shr_small hji7
          by_cases c8 : (x3_2.length : Int) > 0
          ·rw [if_pos c8] at H
           have c8b0 : decide (0 < (x3_2.length : Int)) = true := decide_eq_true c8
           have c8b1 : decide (0 < x3_2.length) = true := decide_eq_true (by omega)
           clear c8
           by_cases c9 : x3_2.length < 140737488355328
           ·rw [if_pos c9] at H
            have LMc9 := Aside0.mk c9
            clear c9
            obtain ⟨y355, hy355⟩ : ∃ y_ : List Int, y_ = (x3_2 ++ [(ji7) % 256]) := ⟨_, rfl⟩
            replace H : (galoisref01_pack.l1 k2 l0 y355 x4_1 (wrap64 (x5_2 - 8))) = some r := by first | (rw [hy355]; with_reducible exact H) | (have H2_ := (Option.bind_some _ _).symm.trans H; rw [hy355]; with_reducible exact H2_) | (have H2_ := (Option.bind_some _ _).symm.trans H; with_reducible exact H2_) | with_reducible exact H | (rw [hy355]; exact H) | exact H
            have Ny355 := Aside0.mk hy355
            clear hy355
            have H' := Aside0.mk H
            clear H
            have p354 : 0 ≤ (x4_1 : Int) := of_decide_eq_true (by first | (with_reducible assumption) | assumption)
            have q354 : x4_1 < (l0.length : Int) := of_decide_eq_true (by first | (with_reducible assumption) | assumption)
            obtain ⟨ad354, e354, hx354_0⟩ := Kd.at_int HR0.out x4_1 p354 q354
            cases e354
            replace hx354_0 := (HB.out.cell (World.block_lt_of_cell? w _ hx354_0)).trans hx354_0
            replace p354 := eq_true p354
            replace q354 := eq_true q354
            obtain ⟨Ao10, co10, eo10⟩ := Kd.R_slice HO_3.out
            subst eo10
            go_wp2_with (first | ((with_reducible refine gate_builtin (b := .append) (xs := #[.tmp 32, .tmp 34]) rfl ?_); at_builtin; refine Kd.R_append (Kd.int .u8) (w0 := w) w.heap.size rfl (.tmp 32) (.tmp 34) 75 5 (.int .u8 0) 1 rfl Try.underlying75 info5 rfl (by decide) (by omega) (.slice Ao10 x3_2.length co10) x3_2 ((ji7) % 256) [.int .u8 ((ji7) % 256)] (fun _ => True) (fun _ => False) rfl rfl ?aP (fun _ hk => hk.elim) ?aF ?aO ?aB ?aS ?aL ?_; (case aP => exact rfl); (case aB => exact (by repeat (first | (with_reducible first | exact HB.out | apply below_alloc | apply pw_below_drewN | apply below_drew1) | exact HB.out))); (case aF => exact (fun _ _ => trivial)); (case aO => exact (by (with_reducible repeat (first | apply Kd.R_alloc | apply Kd.R_drewN | apply Kd.R_drew)); exact HO_3.out)); (case aS => exact (below_size (by repeat (first | (with_reducible first | exact HB.out | apply below_alloc | apply pw_below_drewN | apply below_drew1) | exact HB.out)))); (case aL => have := LMc9.out; omega); intro v356 w11 ho hb hg hat; rw [← Ny355.out] at ho; have n0_ := Aside0.mk (hb); have n1_ := Aside0.mk (ho); clear HB; clear HO_3; have HB := n0_; have HO357 := n1_; clear n0_ n1_; clear ho hb hg hat))
            go_roundg k2
            case measure => have := HK1.out; have := HK2.out; omega
            case rel => exact ⟨(y355), (wrap64 (x5_2 - 8)), (by first | rfl | (simp; done) | (simp [*]; done)), H', ⟨by have := HK1.out; have := HK2.out; omega⟩, ⟨by (with_reducible repeat (first | apply Kd.R_alloc | apply Kd.R_drewN | apply Kd.R_drew)); exact HO357.out⟩, ⟨by repeat (first | (with_reducible first | exact HB.out | apply below_alloc | apply pw_below_drewN | apply below_drew1) | exact HB.out)⟩⟩
           ·rw [if_neg c9] at H
            exact absurd H (by simp)
          ·rw [if_neg c8] at H
           have c8b0 : decide (0 < (x3_2.length : Int)) = false := decide_eq_false c8
           have c8b1 : decide (0 < x3_2.length) = false := decide_eq_false (by omega)
           clear c8
           by_cases c12 : ((ji7) % 256) > 0
           ·rw [if_pos c12] at H
            have c12b0 : decide (0 < ((ji7) % 256)) = true := decide_eq_true c12
            clear c12
            by_cases c13 : x3_2.length < 140737488355328
            ·rw [if_pos c13] at H
             have LMc13 := Aside0.mk c13
             clear c13
             obtain ⟨y358, hy358⟩ : ∃ y_ : List Int, y_ = (x3_2 ++ [(ji7) % 256]) := ⟨_, rfl⟩
             replace H : (galoisref01_pack.l1 k2 l0 y358 x4_1 (wrap64 (x5_2 - 8))) = some r := by first | (rw [hy358]; with_reducible exact H) | (have H2_ := (Option.bind_some _ _).symm.trans H; rw [hy358]; with_reducible exact H2_) | (have H2_ := (Option.bind_some _ _).symm.trans H; with_reducible exact H2_) | with_reducible exact H | (rw [hy358]; exact H) | exact H
             have Ny358 := Aside0.mk hy358
             clear hy358
             have H' := Aside0.mk H
             clear H
             have p354 : 0 ≤ (x4_1 : Int) := of_decide_eq_true (by first | (with_reducible assumption) | assumption)
             have q354 : x4_1 < (l0.length : Int) := of_decide_eq_true (by first | (with_reducible assumption) | assumption)
             obtain ⟨ad354, e354, hx354_0⟩ := Kd.at_int HR0.out x4_1 p354 q354
             cases e354
             replace hx354_0 := (HB.out.cell (World.block_lt_of_cell? w _ hx354_0)).trans hx354_0
             replace p354 := eq_true p354
             replace q354 := eq_true q354
             obtain ⟨Ao14, co14, eo14⟩ := Kd.R_slice HO_3.out
             subst eo14
             go_wp2_with (first | ((with_reducible refine gate_builtin (b := .append) (xs := #[.tmp 32, .tmp 34]) rfl ?_); at_builtin; refine Kd.R_append (Kd.int .u8) (w0 := w) w.heap.size rfl (.tmp 32) (.tmp 34) 75 5 (.int .u8 0) 1 rfl Try.underlying75 info5 rfl (by decide) (by omega) (.slice Ao14 x3_2.length co14) x3_2 ((ji7) % 256) [.int .u8 ((ji7) % 256)] (fun _ => True) (fun _ => False) rfl rfl ?aP (fun _ hk => hk.elim) ?aF ?aO ?aB ?aS ?aL ?_; (case aP => exact rfl); (case aB => exact (by repeat (first | (with_reducible first | exact HB.out | apply below_alloc | apply pw_below_drewN | apply below_drew1) | exact HB.out))); (case aF => exact (fun _ _ => trivial)); (case aO => exact (by (with_reducible repeat (first | apply Kd.R_alloc | apply Kd.R_drewN | apply Kd.R_drew)); exact HO_3.out)); (case aS => exact (below_size (by repeat (first | (with_reducible first | exact HB.out | apply below_alloc | apply pw_below_drewN | apply below_drew1) | exact HB.out)))); (case aL => have := LMc13.out; omega); intro v359 w15 ho hb hg hat; rw [← Ny358.out] at ho; have n0_ := Aside0.mk (hb); have n1_ := Aside0.mk (ho); clear HB; clear HO_3; have HB := n0_; have HO360 := n1_; clear n0_ n1_; clear ho hb hg hat))
             go_roundg k2
             case measure => have := HK1.out; have := HK2.out; omega
             case rel => exact ⟨(y358), (wrap64 (x5_2 - 8)), (by first | rfl | (simp; done) | (simp [*]; done)), H', ⟨by have := HK1.out; have := HK2.out; omega⟩, ⟨by (with_reducible repeat (first | apply Kd.R_alloc | apply Kd.R_drewN | apply Kd.R_drew)); exact HO360.out⟩, ⟨by repeat (first | (with_reducible first | exact HB.out | apply below_alloc | apply pw_below_drewN | apply below_drew1) | exact HB.out)⟩⟩
            ·rw [if_neg c13] at H
             exact absurd H (by simp)
           ·rw [if_neg c12] at H
            have c12b0 : decide (0 < ((ji7) % 256)) = false := decide_eq_false c12
            clear c12
            have H' := Aside0.mk H
            clear H
            have p354 : 0 ≤ (x4_1 : Int) := of_decide_eq_true (by first | (with_reducible assumption) | assumption)
            have q354 : x4_1 < (l0.length : Int) := of_decide_eq_true (by first | (with_reducible assumption) | assumption)
            obtain ⟨ad354, e354, hx354_0⟩ := Kd.at_int HR0.out x4_1 p354 q354
            cases e354
            replace hx354_0 := (HB.out.cell (World.block_lt_of_cell? w _ hx354_0)).trans hx354_0
            replace p354 := eq_true p354
            replace q354 := eq_true q354
            obtain ⟨Ao16, co16, eo16⟩ := Kd.R_slice HO_3.out
            subst eo16
            go_wp2
            go_roundg k2
            case measure => have := HK1.out; have := HK2.out; omega
            case rel => exact ⟨(x3_2), (wrap64 (x5_2 - 8)), (by first | rfl | (simp; done) | (simp [*]; done)), H', ⟨by have := HK1.out; have := HK2.out; omega⟩, ⟨by (with_reducible repeat (first | apply Kd.R_alloc | apply Kd.R_drewN | apply Kd.R_drew)); exact HO_3.out⟩, ⟨by repeat (first | (with_reducible first | exact HB.out | apply below_alloc | apply pw_below_drewN | apply below_drew1) | exact HB.out)⟩⟩
         ·rw [if_neg c6] at H
          exact absurd H (by simp)
        ·rw [if_neg c5] at H
         exact absurd H (by simp)
       ·rw [if_neg c4] at H
        exact absurd H (by simp)
      ·rw [if_neg c3] at H
       have c3b0 : decide (0 ≤ x5_2) = false := decide_eq_false c3
       clear c3
       have H' := Aside0.mk H
       clear H
       go_wp2
       go_roundg k2
       case measure => have := HK1.out; have := HK2.out; omega
       case rel => exact ⟨(x3_2), (wrap64 (x4_1 - 1)), (by first | rfl | (simp; done) | (simp [*]; done)), H', ⟨by have := HK1.out; have := HK2.out; omega⟩, ⟨by (with_reducible repeat (first | apply Kd.R_alloc | apply Kd.R_drewN | apply Kd.R_drew)); exact HO_3.out⟩, ⟨by repeat (first | (with_reducible first | exact HB.out | apply below_alloc | apply pw_below_drewN | apply below_drew1) | exact HB.out)⟩⟩
   ·rw [if_neg c2] at H
    have c2b0 : decide (0 ≤ x4_1) = false := decide_eq_false c2
    clear c2
    obtain rfl := Option.some.inj H
    have hcv17 := own_string (P := Try.prog) Try.underlying75 Try.underlying5 Try.underlying9 (Kd.own_of_R HO_3.out)
    go_wp2
    go_ret
    exact ⟨by first | rfl | (simp [errW_none, errW_some] <;> rfl) | (simp [*, errW_none, errW_some] <;> rfl), by repeat (first | (with_reducible first | exact HB.out | apply below_alloc | apply pw_below_drewN | apply below_drew1) | exact HB.out)⟩
def galoisref01_Of.f (k : Nat) (a0 : Int) : Option (ByteArray) := (galoisref01_pack.f k (([Go.bits .and .u64 a0 4294967295, a0 / 4294967296] : List Int))).bind fun t364 => (some t364)
theorem galoisref01_Of.mono : ∀ a0 k, LeO (galoisref01_Of.f k a0) (galoisref01_Of.f (k + 1) a0) := by
 intro a0 k
 unfold galoisref01_Of.f
 repeat' first
   | (with_reducible exact galoisref01_pack.mono _ _)
   | (with_reducible exact LeO.refl _)
   | (with_reducible exact LeO.none _)
   | (with_reducible refine LeO.ite ?_ ?_)
   | (with_reducible refine LeO.bind ?_ (fun _ => ?_))
   | exact galoisref01_pack.mono _ _
   | exact LeO.none _
   | refine LeO.ite ?_ ?_
   | refine LeO.bind ?_ (fun _ => ?_)
set_option maxHeartbeats 8000000 in
set_option maxRecDepth 100000 in
theorem galoisref01_Of.calls (k : Nat) (a0 : Int) (r : ByteArray) (w : World) (h : galoisref01_Of.f k a0 = some r) :
  Calls Try.prog 33 #[.int .u64 a0] w fun e w' => e = .returned (.string r) ∧ Below w.heap.size w w' := by
 have HB := Aside0.mk (Below.refl w.heap.size w)
 have H : ((galoisref01_pack.f k (([Go.bits .and .u64 a0 4294967295, a0 / 4294967296] : List Int))).bind fun t364 => (some t364)) = some r := h
 clear h
 obtain ⟨y361, hy361⟩ : ∃ y_ : List Int, y_ = (([Go.bits .and .u64 a0 4294967295, a0 / 4294967296] : List Int)) := ⟨_, rfl⟩
 replace H : ((galoisref01_pack.f k y361).bind fun t364 => (some t364)) = some r := by first | (rw [hy361]; with_reducible exact H) | (have H2_ := (Option.bind_some _ _).symm.trans H; rw [hy361]; with_reducible exact H2_) | (have H2_ := (Option.bind_some _ _).symm.trans H; with_reducible exact H2_) | with_reducible exact H | (rw [hy361]; exact H) | exact H
 have Ny361 := Aside0.mk hy361
 clear hy361
 replace H := Option.bind_eq_some_iff.mp H
 obtain ⟨t364, A20, H⟩ := H
 replace H : (some t364) = some r := H
 have A2 := Aside0.mk A20
 clear A20
 obtain rfl := Option.some.inj H
 go_enter Try.func33, Try.ntmps33
 go_wp2_with (first | ((with_reducible refine gate_dst (N := 7) rfl ?_); refine Kd.R_lit (Kd.int .u64) _ 49 ?hg (N := 7) ?hd (xs := ([Go.bits .and .u64 a0 4294967295, a0 / 4294967296] : List Int)) (inner := [.int .u64 (Go.bits .and .u64 a0 4294967295), .int .u64 (a0 / 4294967296)]) (ok := fun _ => True) (okp := fun _ => True) ?hr ?hp (fun _ hk => hk) trivial (Below.refl _ _) (Nat.le_refl _) (by simp) ?_; (case hd => rfl); (case hg => rfl); (case hr => first | (go_simp; done) | (go_simp; rfl)); (case hp => exact (Reps.one (show Kd.M (Kd.int .u64) _ _ _ (Go.bits .and .u64 a0 4294967295) [.int .u64 (Go.bits .and .u64 a0 4294967295)] from rfl) (Reps.one (show Kd.M (Kd.int .u64) _ _ _ (a0 / 4294967296) [.int .u64 (a0 / 4294967296)] from rfl) (Reps.none _ _)))); intro v362 w3 ho4 hb hg_ hnew_; clear hg_ hnew_; (first | rw [← Ny361.out] at ho4 | (simp only [Int.reduceToNat] at ho4; rw [← Ny361.out] at ho4)); have n0_ := Aside0.mk (Kd.R_lower ho4 (below_size (by repeat (first | (with_reducible first | exact HB.out | apply below_alloc | apply pw_below_drewN | apply below_drew1) | exact HB.out)))); have n1_ := Aside0.mk (below_step (by repeat (first | (with_reducible first | exact HB.out | apply below_alloc | apply pw_below_drewN | apply below_drew1) | exact HB.out)) hb); clear HB; have HO363 := n0_; have HB := n1_; clear n0_ n1_; clear hb ho4; obtain ⟨Ao5, co5, eo5⟩ := Kd.R_slice HO363.out; subst eo5) | ((with_reducible refine gate_callee (f := 53) rfl ?_); refine goesL_ (some 8) rfl rfl Try.func53 (by kernel_rfl) rfl #[.slice Ao5 y361.length co5] rfl (by (try simp only [List.map_toArray, List.map_cons, List.map_nil]); first | done | rfl | (simp only [List.length_drop, List.length_take]; rfl)) ?_; (with_reducible refine (galoisref01_pack.calls k _ _ y361 t364 _ ?side1 ?side2 A2.out).mono ?_); (case side1 => repeat (first | exact (Kd.R_reads' HO363.out).2.2 | (with_reducible refine Kd.C_alloc ?_ _) | (with_reducible refine Kd.C_drewN ?_ _) | (with_reducible refine Kd.C_drew ?_))); (case side2 => exact (Kd.R_reads' HO363.out).2.1); rintro e w6 ⟨rfl, hb⟩; refine ⟨_, rfl, ?_⟩; have n0_ := Aside0.mk (Kd.R_below (by (with_reducible repeat (first | apply Kd.R_alloc | apply Kd.R_drewN | apply Kd.R_drew)); exact HO363.out) hb); have n1_ := Aside0.mk (below_step (by repeat (first | (with_reducible first | exact HB.out | apply below_alloc | apply pw_below_drewN | apply below_drew1) | exact HB.out)) hb); clear HO363; clear HB; have HO363 := n0_; have HB := n1_; clear n0_ n1_; (try clear hb); (try clear hb2); (try clear hk); (try clear hi)))
 go_ret
 exact ⟨by first | rfl | (simp [errW_none, errW_some] <;> rfl) | (simp [*, errW_none, errW_some] <;> rfl), by repeat (first | (with_reducible first | exact HB.out | apply below_alloc | apply pw_below_drewN | apply below_drew1) | exact HB.out)⟩
def galoisref01_FromInt.f (k : Nat) (a0 : Int) : Option (ByteArray) := (galoisref01_Of.f k (IntKind.u64.wrap (a0))).bind fun t365 => (some t365)
theorem galoisref01_FromInt.mono : ∀ a0 k, LeO (galoisref01_FromInt.f k a0) (galoisref01_FromInt.f (k + 1) a0) := by
 intro a0 k
 unfold galoisref01_FromInt.f
 repeat' first
   | (with_reducible exact galoisref01_Of.mono _ _)
   | (with_reducible exact LeO.refl _)
   | (with_reducible exact LeO.none _)
   | (with_reducible refine LeO.ite ?_ ?_)
   | (with_reducible refine LeO.bind ?_ (fun _ => ?_))
   | exact galoisref01_Of.mono _ _
   | exact LeO.none _
   | refine LeO.ite ?_ ?_
   | refine LeO.bind ?_ (fun _ => ?_)
set_option maxHeartbeats 8000000 in
set_option maxRecDepth 100000 in
theorem galoisref01_FromInt.calls (k : Nat) (a0 : Int) (r : ByteArray) (w : World) (h : galoisref01_FromInt.f k a0 = some r) :
  Calls Try.prog 59 #[.int .i64 a0] w fun e w' => e = .returned (.string r) ∧ Below w.heap.size w w' := by
 have HB := Aside0.mk (Below.refl w.heap.size w)
 have H : ((galoisref01_Of.f k (IntKind.u64.wrap (a0))).bind fun t365 => (some t365)) = some r := h
 clear h
 replace H := Option.bind_eq_some_iff.mp H
 obtain ⟨t365, A20, H⟩ := H
 replace H : (some t365) = some r := H
 have A2 := Aside0.mk A20
 clear A20
 obtain rfl := Option.some.inj H
 go_enter Try.func59, Try.ntmps59
 go_wp2_with (first | ((with_reducible refine gate_callee (f := 33) rfl ?_); refine goesL_ (some 5) rfl rfl Try.func33 (by kernel_rfl) rfl #[.int .u64 (IntKind.u64.wrap (a0))] rfl (by (try simp only [List.map_toArray, List.map_cons, List.map_nil]); first | done | rfl | (simp only [List.length_drop, List.length_take]; rfl)) ?_; (with_reducible refine (galoisref01_Of.calls k (IntKind.u64.wrap (a0)) t365 _ A2.out).mono ?_); rintro e w3 ⟨rfl, hb⟩; refine ⟨_, rfl, ?_⟩; have n0_ := Aside0.mk (below_step (by repeat (first | (with_reducible first | exact HB.out | apply below_alloc | apply pw_below_drewN | apply below_drew1) | exact HB.out)) hb); clear HB; have HB := n0_; clear n0_; (try clear hb); (try clear hb2); (try clear hk); (try clear hi)))
 go_ret
 exact ⟨by first | rfl | (simp [errW_none, errW_some] <;> rfl) | (simp [*, errW_none, errW_some] <;> rfl), by repeat (first | (with_reducible first | exact HB.out | apply below_alloc | apply pw_below_drewN | apply below_drew1) | exact HB.out)⟩
def galoislaw01_nat.f (k : Nat) (a0 : Int) : Option (ByteArray) := (galoisref01_FromInt.f k a0).bind fun t366 => (some t366)
theorem galoislaw01_nat.mono : ∀ a0 k, LeO (galoislaw01_nat.f k a0) (galoislaw01_nat.f (k + 1) a0) := by
 intro a0 k
 unfold galoislaw01_nat.f
 repeat' first
   | (with_reducible exact galoisref01_FromInt.mono _ _)
   | (with_reducible exact LeO.refl _)
   | (with_reducible exact LeO.none _)
   | (with_reducible refine LeO.ite ?_ ?_)
   | (with_reducible refine LeO.bind ?_ (fun _ => ?_))
   | exact galoisref01_FromInt.mono _ _
   | exact LeO.none _
   | refine LeO.ite ?_ ?_
   | refine LeO.bind ?_ (fun _ => ?_)
set_option maxHeartbeats 8000000 in
set_option maxRecDepth 100000 in
theorem galoislaw01_nat.calls (k : Nat) (a0 : Int) (r : ByteArray) (w : World) (h : galoislaw01_nat.f k a0 = some r) :
  Calls Try.prog 27 #[.int .i64 a0] w fun e w' => e = .returned (.string r) ∧ Below w.heap.size w w' := by
 have HB := Aside0.mk (Below.refl w.heap.size w)
 have H : ((galoisref01_FromInt.f k a0).bind fun t366 => (some t366)) = some r := h
 clear h
 replace H := Option.bind_eq_some_iff.mp H
 obtain ⟨t366, A20, H⟩ := H
 replace H : (some t366) = some r := H
 have A2 := Aside0.mk A20
 clear A20
 obtain rfl := Option.some.inj H
 go_enter Try.func27, Try.ntmps27
 go_wp2_with (first | ((with_reducible refine gate_callee (f := 59) rfl ?_); refine goesL_ (some 4) rfl rfl Try.func59 (by kernel_rfl) rfl #[.int .i64 a0] rfl (by (try simp only [List.map_toArray, List.map_cons, List.map_nil]); first | done | rfl | (simp only [List.length_drop, List.length_take]; rfl)) ?_; (with_reducible refine (galoisref01_FromInt.calls k a0 t366 _ A2.out).mono ?_); rintro e w3 ⟨rfl, hb⟩; refine ⟨_, rfl, ?_⟩; have n0_ := Aside0.mk (below_step (by repeat (first | (with_reducible first | exact HB.out | apply below_alloc | apply pw_below_drewN | apply below_drew1) | exact HB.out)) hb); clear HB; have HB := n0_; clear n0_; (try clear hb); (try clear hb2); (try clear hk); (try clear hi)))
 go_ret
 exact ⟨by first | rfl | (simp [errW_none, errW_some] <;> rfl) | (simp [*, errW_none, errW_some] <;> rfl), by repeat (first | (with_reducible first | exact HB.out | apply below_alloc | apply pw_below_drewN | apply below_drew1) | exact HB.out)⟩
end Go.Proofs.Ytohkmnbnjacfaaa.All
namespace Go.Proofs.Ytohkmnbnjacfaaa.All
open Go.Proofs.YtohkmnbnjacfaaaX
open Go.RowKit Go.Proofs.YtohkmnbnjacfaaaW.PrintWords Go.Proofs.YtohkmnbnjacfaaaW.PrintLast Go.Proofs.YtohkmnbnjacfaaaW.PrintMore
attribute [local go_sem] max2_int min2_int max_two min_two max_three min_three max_four min_four
set_option linter.unusedVariables false
set_option linter.unusedSimpArgs false
def exact_NatSub.l0 : Nat → List Int → List Int → Int → Int → Int → Option (ByteArray)
 | 0, _, _, _, _, _ => none
 | k + 1, x5, x6, x7, x15, x16 => if x16 < x15 then (if x16 < (x6.length : Int) then (if 0 ≤ x16 then (if x16 < (x5.length : Int) then ((bits_Sub64.f (rd x5 x16) (rd x6 x16) x7).bind fun bt375 => (exact_NatSub.l0 k (x5.set (x16 : Int).toNat bt375.1) x6 bt375.2 x15 (wrap64 (x16 + 1)))) else (none)) else (none)) else (if 0 ≤ x16 then (if x16 < (x5.length : Int) then ((bits_Sub64.f (rd x5 x16) 0 x7).bind fun bt379 => (exact_NatSub.l0 k (x5.set (x16 : Int).toNat bt379.1) x6 bt379.2 x15 (wrap64 (x16 + 1)))) else (none)) else (none))) else ((exact_pack.f k x5).bind fun t382 => (some t382))
def exact_NatSub.f (k : Nat) (a0 : ByteArray) (a1 : ByteArray) : Option (ByteArray) := (exact_words.f k a0).bind fun t367 => ((exact_words.f k a1).bind fun t370 => (exact_NatSub.l0 k t367 t370 0 (t367.length : Int) 0))
theorem exact_NatSub.mono_l : ∀ k, (∀ y0 y1 y2 y3 y4, LeO (exact_NatSub.l0 k y0 y1 y2 y3 y4) (exact_NatSub.l0 (k + 1) y0 y1 y2 y3 y4))
 | 0 => fun _ _ _ _ _ r h => by simp [exact_NatSub.l0] at h
 | k + 1 => by
  have ih0 := exact_NatSub.mono_l k
  ·intro y0 y1 y2 y3 y4
   unfold exact_NatSub.l0
   repeat' first
   | (with_reducible exact ih0 _ _ _ _ _)
   | (with_reducible exact exact_pack.mono _ _)
   | (with_reducible exact exact_words.mono _ _)
   | (with_reducible exact LeO.refl _)
   | (with_reducible exact LeO.none _)
   | (with_reducible refine LeO.ite ?_ ?_)
   | (with_reducible refine LeO.bind ?_ (fun _ => ?_))
   | exact ih0 _ _ _ _ _
   | exact exact_pack.mono _ _
   | exact exact_words.mono _ _
   | exact LeO.none _
   | refine LeO.ite ?_ ?_
   | refine LeO.bind ?_ (fun _ => ?_)
theorem exact_NatSub.mono : ∀ a0 a1 k, LeO (exact_NatSub.f k a0 a1) (exact_NatSub.f (k + 1) a0 a1) := by
 intro a0 a1 k
 have ih0 := exact_NatSub.mono_l k
 unfold exact_NatSub.f
 repeat' first
   | (with_reducible exact ih0 _ _ _ _ _)
   | (with_reducible exact exact_pack.mono _ _)
   | (with_reducible exact exact_words.mono _ _)
   | (with_reducible exact LeO.refl _)
   | (with_reducible exact LeO.none _)
   | (with_reducible refine LeO.ite ?_ ?_)
   | (with_reducible refine LeO.bind ?_ (fun _ => ?_))
   | exact ih0 _ _ _ _ _
   | exact exact_pack.mono _ _
   | exact exact_words.mono _ _
   | exact LeO.none _
   | refine LeO.ite ?_ ?_
   | refine LeO.bind ?_ (fun _ => ?_)
set_option maxHeartbeats 8000000 in
set_option maxRecDepth 100000 in
theorem exact_NatSub.calls (k : Nat) (a0 : ByteArray) (a1 : ByteArray) (r : ByteArray) (w : World) (h : exact_NatSub.f k a0 a1 = some r) :
  Calls Try.prog 65 #[.string a0, .string a1] w fun e w' => e = .returned (.string r) ∧ Below w.heap.size w w' := by
 have HB := Aside0.mk (Below.refl w.heap.size w)
 have H : ((exact_words.f k a0).bind fun t367 => ((exact_words.f k a1).bind fun t370 => (exact_NatSub.l0 k t367 t370 0 (t367.length : Int) 0))) = some r := h
 clear h
 replace H := Option.bind_eq_some_iff.mp H
 obtain ⟨t367, A30, H⟩ := H
 replace H : ((exact_words.f k a1).bind fun t370 => (exact_NatSub.l0 k t367 t370 0 (t367.length : Int) 0)) = some r := H
 have A3 := Aside0.mk A30
 clear A30
 replace H := Option.bind_eq_some_iff.mp H
 obtain ⟨t370, A40, H⟩ := H
 replace H : (exact_NatSub.l0 k t367 t370 0 (t367.length : Int) 0) = some r := H
 have A4 := Aside0.mk A40
 clear A40
 have H' := Aside0.mk H
 clear H
 go_enter Try.func65, Try.ntmps65
 go_wp2_with (first | ((with_reducible refine gate_callee (f := 70) rfl ?_); refine goesL_ (some 11) rfl rfl Try.func70 (by kernel_rfl) rfl #[.string a0] rfl (by (try simp only [List.map_toArray, List.map_cons, List.map_nil]); first | done | rfl | (simp only [List.length_drop, List.length_take]; rfl)) ?_; (with_reducible refine (exact_words.calls k a0 t367 _ A3.out).mono ?_); rintro e w5 ⟨v368, rfl, ho0, hb⟩; refine ⟨_, rfl, ?_⟩; have n0_ := Aside0.mk (Kd.R_lower ho0 (below_size (by repeat (first | (with_reducible first | exact HB.out | apply below_alloc | apply pw_below_drewN | apply below_drew1) | exact HB.out)))); have n1_ := Aside0.mk (below_step (by repeat (first | (with_reducible first | exact HB.out | apply below_alloc | apply pw_below_drewN | apply below_drew1) | exact HB.out)) hb); clear HB; have HO369 := n0_; have HB := n1_; clear n0_ n1_; (try clear hb); (try clear hb2); (try clear hk); (try clear hi); (try clear ho0)) | ((with_reducible refine gate_callee (f := 70) rfl ?_); refine goesL_ (some 13) rfl rfl Try.func70 (by kernel_rfl) rfl #[.string a1] rfl (by (try simp only [List.map_toArray, List.map_cons, List.map_nil]); first | done | rfl | (simp only [List.length_drop, List.length_take]; rfl)) ?_; (with_reducible refine (exact_words.calls k a1 t370 _ A4.out).mono ?_); rintro e w6 ⟨v371, rfl, ho0, hb⟩; refine ⟨_, rfl, ?_⟩; have n0_ := Aside0.mk (Kd.R_elder' (by (with_reducible repeat (first | apply Kd.R_alloc | apply Kd.R_drewN | apply Kd.R_drew)); exact HO369.out) (Kd.R_base ho0) hb); have n1_ := Aside0.mk (Kd.R_lower (Kd.R_new' ho0 (Kd.R_lt (by (with_reducible repeat (first | apply Kd.R_alloc | apply Kd.R_drewN | apply Kd.R_drew)); exact HO369.out))) (below_size (by repeat (first | (with_reducible first | exact HB.out | apply below_alloc | apply pw_below_drewN | apply below_drew1) | exact HB.out)))); have n2_ := Aside0.mk (below_step (by repeat (first | (with_reducible first | exact HB.out | apply below_alloc | apply pw_below_drewN | apply below_drew1) | exact HB.out)) hb); clear HO369; clear HB; have HO369 := n0_; have HO372 := n1_; have HB := n2_; clear n0_ n1_ n2_; (try clear hb); (try clear hb2); (try clear hk); (try clear hi); (try clear ho0); obtain ⟨Ao7, co7, eo7⟩ := Kd.R_slice HO369.out; subst eo7))
 go_loopg [7, 16] k (fun kq v7 v16 w' => ∃ (x5_1 : List Int) (x7_1 : Int) (x16_1 : Int), v7 = .int .u64 x7_1 ∧ v16 = .int .i64 x16_1 ∧ Aside0 (exact_NatSub.l0 kq x5_1 t370 x7_1 (t367.length : Int) x16_1 = some r) ∧ Aside0 (kq ≤ k) ∧ Aside0 (Kd.R (Kd.int .u64) 49 w' w.heap.size (fun k_ => some k_ ≠ (v371 : Value).ownBlock) (.slice Ao7 t367.length co7) x5_1) ∧ Aside0 (Kd.R (Kd.int .u64) 49 w' w.heap.size (fun k_ => some k_ ≠ ((.slice Ao7 t367.length co7) : Value).ownBlock) v371 t370) ∧ Aside0 (Below w.heap.size w w'))
 case atStart => exact ⟨(t367), (0), (0), (by first | rfl | (simp; done) | (simp [*]; done)), (by first | rfl | (simp; done) | (simp [*]; done)), H', ⟨Nat.le_refl _⟩, ⟨by (with_reducible repeat (first | apply Kd.R_alloc | apply Kd.R_drewN | apply Kd.R_drew)); exact Kd.R_mono HO369.out (fun _ hk => hk.2)⟩, ⟨by (with_reducible repeat (first | apply Kd.R_alloc | apply Kd.R_drewN | apply Kd.R_drew)); exact Kd.R_mono HO372.out (fun _ hk => hk.2)⟩, ⟨by repeat (first | (with_reducible first | exact HB.out | apply below_alloc | apply pw_below_drewN | apply below_drew1) | exact HB.out)⟩⟩
 case round =>
  clear H'
  try clear p2
  try clear c6
  try clear c7
  obtain ⟨x5_1, x7_1, x16_1, rfl, rfl, HA, HK1, HO_5, HO_6, HB⟩ := hrel
  have hl5_1 := (Kd.R_reads' HO_5.out).1
  rw [hl5_1] at HO_5
  (try simp only [hl5_1])
  (try simp only [hl5_1] at HO_6)
  cases gk with
  | zero => exact absurd HA.out (by simp [exact_NatSub.l0])
  | succ k1 =>
   have H := HA.out
   clear HA
   simp only [exact_NatSub.l0] at H
   by_cases c8 : x16_1 < (t367.length : Int)
   ·rw [if_pos c8] at H
    have c8b0 : decide (x16_1 < (t367.length : Int)) = true := decide_eq_true c8
    (try (have c8b0y := c8b0; simp only [hl5_1] at c8b0y))
    clear c8
    by_cases c9 : x16_1 < (t370.length : Int)
    ·rw [if_pos c9] at H
     have c9b0 : decide (x16_1 < (t370.length : Int)) = true := decide_eq_true c9
     (try (have c9b0y := c9b0; simp only [hl5_1] at c9b0y))
     clear c9
     by_cases c10 : 0 ≤ x16_1
     ·rw [if_pos c10] at H
      have c10b0 : decide (0 ≤ x16_1) = true := decide_eq_true c10
      clear c10
      by_cases c11 : x16_1 < (x5_1.length : Int)
      ·rw [if_pos c11] at H
       have c11b0 : decide (x16_1 < (x5_1.length : Int)) = true := decide_eq_true c11
       (try (have c11b0y := c11b0; simp only [hl5_1] at c11b0y))
       clear c11
       replace H := Option.bind_eq_some_iff.mp H
       obtain ⟨⟨t375, t376⟩, A120, H⟩ := H
       replace H : (exact_NatSub.l0 k1 (x5_1.set (x16_1 : Int).toNat t375) t370 t376 (t367.length : Int) (wrap64 (x16_1 + 1))) = some r := H
       have A12 := Aside0.mk A120
       clear A120
       obtain ⟨y377, hy377⟩ : ∃ y_ : List Int, y_ = (x5_1.set (x16_1 : Int).toNat t375) := ⟨_, rfl⟩
       replace H : (exact_NatSub.l0 k1 y377 t370 t376 (t367.length : Int) (wrap64 (x16_1 + 1))) = some r := by first | (rw [hy377]; with_reducible exact H) | (have H2_ := (Option.bind_some _ _).symm.trans H; rw [hy377]; with_reducible exact H2_) | (have H2_ := (Option.bind_some _ _).symm.trans H; with_reducible exact H2_) | with_reducible exact H | (rw [hy377]; exact H) | exact H
       have Ny377 := Aside0.mk hy377
       clear hy377
       have H' := Aside0.mk H
       clear H
       obtain ⟨Ao14, co14, eo14⟩ := Kd.R_slice HO_6.out
       subst eo14
       have p373 : 0 ≤ (x16_1 : Int) := of_decide_eq_true (by first | (with_reducible assumption) | assumption)
       have q373 : x16_1 < (t370.length : Int) := of_decide_eq_true (by first | (with_reducible assumption) | assumption)
       obtain ⟨ad373, e373, hx373_0⟩ := Kd.at_int (Kd.R_reads' HO_6.out).2.2 x16_1 p373 q373
       cases e373
       replace p373 := eq_true p373
       replace q373 := eq_true q373
       have p374 : 0 ≤ (x16_1 : Int) := of_decide_eq_true (by first | (with_reducible assumption) | assumption)
       have q374 : x16_1 < (x5_1.length : Int) := of_decide_eq_true (by first | (with_reducible assumption) | assumption)
       obtain ⟨ad374, e374, hx374_0⟩ := Kd.at_int (Kd.R_reads' HO_5.out).2.2 x16_1 p374 q374
       cases e374
       replace p374 := eq_true p374
       replace q374 := eq_true q374
       go_wp2_with (first | ((with_reducible refine gate_callee (f := 76) rfl ?_); refine goesXL_ (some 36) rfl rfl Try.func76 (by kernel_rfl) #[.int .u64 (rd x5_1 x16_1), .int .u64 (rd t370 x16_1), .int .u64 x7_1] rfl (by (try simp only [List.map_toArray, List.map_cons, List.map_nil]); first | done | rfl | (simp only [List.length_drop, List.length_take]; rfl)) ?_; (with_reducible refine (bits_Sub64.calls (rd x5_1 x16_1) (rd t370 x16_1) x7_1 t375 t376 _ A12.out).mono ?_); rintro e w' ⟨rfl, ⟨nd, rfl⟩⟩; refine ⟨_, rfl, ?_⟩; (try (rw [drewN_self wr]; generalize hq_ : World.drewN wr _ = wr; have n0_ : Aside0 (Kd.R (Kd.int .u64) 49 wr w.heap.size (fun k_ => some k_ ≠ (.slice (some ad373) t370.length co14 : Value).ownBlock) (.slice (some ad374) x5_1.length co7) x5_1) := ⟨by rw [← hq_]; exact (by (with_reducible repeat (first | apply Kd.R_alloc | apply Kd.R_drewN | apply Kd.R_drew)); exact HO_5.out)⟩; have n1_ : Aside0 (Kd.R (Kd.int .u64) 49 wr w.heap.size (fun k_ => some k_ ≠ (.slice (some ad374) x5_1.length co7 : Value).ownBlock) (.slice (some ad373) t370.length co14) t370) := ⟨by rw [← hq_]; exact (by (with_reducible repeat (first | apply Kd.R_alloc | apply Kd.R_drewN | apply Kd.R_drew)); exact HO_6.out)⟩; have n2_ : Aside0 (Below w.heap.size w wr) := ⟨by rw [← hq_]; exact (by repeat (first | (with_reducible first | exact HB.out | apply below_alloc | apply pw_below_drewN | apply below_drew1) | exact HB.out))⟩; clear HO_5 HO_6 HB hq_; have HO_5 := n0_; have HO_6 := n1_; have HB := n2_; clear n0_ n1_ n2_)); have p13 : 0 ≤ (x16_1 : Int) := of_decide_eq_true (by first | (with_reducible assumption) | assumption); have q13 : (x16_1 : Int) < ((x5_1.length : Int) : Int) := of_decide_eq_true (by first | (with_reducible assumption) | assumption); obtain ⟨go13, co13, eo13, gb13, gl13, cl13, HG13⟩ := Kd.R_form HO_5.out (by omega); (first | cases eo13 | (injection eo13 with ea_ en_ ec_; (first | subst ea_ | (injection ea_ with ea_; subst ea_)); subst ec_; clear en_)); have GB13 := Aside0.mk gb13; have GG13 := Aside0.mk HG13; clear gb13 gl13 HG13; (first | simp only [add_plain] at hx374_0 | skip); obtain ⟨hx13_0, hf13_0⟩ := Kd.R_celln 0 HO_5.out (x16_1 : Int) p13 q13; (try simp only [Int.toNat_natCast] at hx13_0 hf13_0); replace p13 := eq_true p13; replace q13 := eq_true q13; obtain ⟨hy15_, hz15_⟩ := Kd.R_celln 0 HO_5.out (x16_1 : Int) (of_decide_eq_true (by first | (with_reducible assumption) | assumption)) (of_decide_eq_true (by first | (with_reducible assumption) | assumption)); (try simp only [Int.toNat_natCast] at hy15_ hz15_); have HP15 := Kd.R_putg HO_5.out (x16_1 : Int) t375) | ((with_reducible refine gate_store (t := 49) (p := 39) rfl ?_); refine store_event (t := 49) (p := 39) (v := ?vo_w16) (w1 := (wr.setCell ⟨go13, (x16_1 : Int).toNat, none⟩ (.int .u64 t375))) ?hg ?ho ?hn ?hr ?_; (case ho => rfl); (case hg => rfl); (case hn => rfl); (case hr => first | (go_simp; done) | (go_simp; rfl)); intro w16 hw; have hg : wr.grownBy w16 (some go13) := (by rw [hw]; exact HP15.2); have hp_ : Kd.R (Kd.int .u64) 49 w16 w.heap.size (fun k_ => some k_ ≠ (.slice (some ad373) t370.length co14 : Value).ownBlock) (.slice (some ⟨go13, 0, none⟩) x5_1.length co7) y377 := (by rw [hw, Ny377.out]; exact HP15.1); clear HP15; have n0_ := Aside0.mk (hp_); have n1_ := Aside0.mk (Kd.R_after (v := (.slice (some ⟨go13, 0, none⟩) x5_1.length co7)) (v1 := (.slice (some ⟨go13, 0, none⟩) x5_1.length co7)) (ok := (fun _ => True)) (by (with_reducible repeat (first | apply Kd.R_alloc | apply Kd.R_drewN | apply Kd.R_drew)); exact Kd.R_mono HO_6.out (fun _ hk => ⟨trivial, hk⟩)) hg (.inl rfl)); have n2_ := Aside0.mk ((by rw [hw]; exact below_set (HB.out) GB13.out : Below w.heap.size w w16)); clear HO_5; clear HO_6; clear HB; have HO_5 := n0_; have HO_6 := n1_; have HB := n2_; clear n0_ n1_ n2_; clear hg hw hp_))
       (try simp only [← hl5_1])
       go_roundg k1
       case measure => have := HK1.out; omega
       case rel => exact ⟨(y377), (t376), (wrap64 (x16_1 + 1)), (by first | rfl | (simp; done) | (simp [*]; done)), (by first | rfl | (simp; done) | (simp [*]; done)), H', ⟨by have := HK1.out; omega⟩, ⟨by (try simp only [hl5_1]); (with_reducible repeat (first | apply Kd.R_alloc | apply Kd.R_drewN | apply Kd.R_drew)); exact HO_5.out⟩, ⟨by (try simp only [hl5_1]); (with_reducible repeat (first | apply Kd.R_alloc | apply Kd.R_drewN | apply Kd.R_drew)); exact Kd.R_mono HO_6.out (fun _ hk => hk.2)⟩, ⟨by repeat (first | (with_reducible first | exact HB.out | apply below_alloc | apply pw_below_drewN | apply below_drew1) | exact HB.out)⟩⟩
      ·rw [if_neg c11] at H
       exact absurd H (by simp)
     ·rw [if_neg c10] at H
      exact absurd H (by simp)
    ·rw [if_neg c9] at H
     have c9b0 : decide (x16_1 < (t370.length : Int)) = false := decide_eq_false c9
     (try (have c9b0y := c9b0; simp only [hl5_1] at c9b0y))
     clear c9
     by_cases c17 : 0 ≤ x16_1
     ·rw [if_pos c17] at H
      have c17b0 : decide (0 ≤ x16_1) = true := decide_eq_true c17
      clear c17
      by_cases c18 : x16_1 < (x5_1.length : Int)
      ·rw [if_pos c18] at H
       have c18b0 : decide (x16_1 < (x5_1.length : Int)) = true := decide_eq_true c18
       (try (have c18b0y := c18b0; simp only [hl5_1] at c18b0y))
       clear c18
       replace H := Option.bind_eq_some_iff.mp H
       obtain ⟨⟨t379, t380⟩, A190, H⟩ := H
       replace H : (exact_NatSub.l0 k1 (x5_1.set (x16_1 : Int).toNat t379) t370 t380 (t367.length : Int) (wrap64 (x16_1 + 1))) = some r := H
       have A19 := Aside0.mk A190
       clear A190
       obtain ⟨y381, hy381⟩ : ∃ y_ : List Int, y_ = (x5_1.set (x16_1 : Int).toNat t379) := ⟨_, rfl⟩
       replace H : (exact_NatSub.l0 k1 y381 t370 t380 (t367.length : Int) (wrap64 (x16_1 + 1))) = some r := by first | (rw [hy381]; with_reducible exact H) | (have H2_ := (Option.bind_some _ _).symm.trans H; rw [hy381]; with_reducible exact H2_) | (have H2_ := (Option.bind_some _ _).symm.trans H; with_reducible exact H2_) | with_reducible exact H | (rw [hy381]; exact H) | exact H
       have Ny381 := Aside0.mk hy381
       clear hy381
       have H' := Aside0.mk H
       clear H
       obtain ⟨Ao21, co21, eo21⟩ := Kd.R_slice HO_6.out
       subst eo21
       have p378 : 0 ≤ (x16_1 : Int) := of_decide_eq_true (by first | (with_reducible assumption) | assumption)
       have q378 : x16_1 < (x5_1.length : Int) := of_decide_eq_true (by first | (with_reducible assumption) | assumption)
       obtain ⟨ad378, e378, hx378_0⟩ := Kd.at_int (Kd.R_reads' HO_5.out).2.2 x16_1 p378 q378
       cases e378
       replace p378 := eq_true p378
       replace q378 := eq_true q378
       go_wp2_with (first | ((with_reducible refine gate_callee (f := 76) rfl ?_); refine goesXL_ (some 36) rfl rfl Try.func76 (by kernel_rfl) #[.int .u64 (rd x5_1 x16_1), .int .u64 0, .int .u64 x7_1] rfl (by (try simp only [List.map_toArray, List.map_cons, List.map_nil]); first | done | rfl | (simp only [List.length_drop, List.length_take]; rfl)) ?_; (with_reducible refine (bits_Sub64.calls (rd x5_1 x16_1) 0 x7_1 t379 t380 _ A19.out).mono ?_); rintro e w' ⟨rfl, ⟨nd, rfl⟩⟩; refine ⟨_, rfl, ?_⟩; (try (rw [drewN_self wr]; generalize hq_ : World.drewN wr _ = wr; have n0_ : Aside0 (Kd.R (Kd.int .u64) 49 wr w.heap.size (fun k_ => some k_ ≠ (.slice Ao21 t370.length co21 : Value).ownBlock) (.slice (some ad378) x5_1.length co7) x5_1) := ⟨by rw [← hq_]; exact (by (with_reducible repeat (first | apply Kd.R_alloc | apply Kd.R_drewN | apply Kd.R_drew)); exact HO_5.out)⟩; have n1_ : Aside0 (Kd.R (Kd.int .u64) 49 wr w.heap.size (fun k_ => some k_ ≠ (.slice (some ad378) x5_1.length co7 : Value).ownBlock) (.slice Ao21 t370.length co21) t370) := ⟨by rw [← hq_]; exact (by (with_reducible repeat (first | apply Kd.R_alloc | apply Kd.R_drewN | apply Kd.R_drew)); exact HO_6.out)⟩; have n2_ : Aside0 (Below w.heap.size w wr) := ⟨by rw [← hq_]; exact (by repeat (first | (with_reducible first | exact HB.out | apply below_alloc | apply pw_below_drewN | apply below_drew1) | exact HB.out))⟩; clear HO_5 HO_6 HB hq_; have HO_5 := n0_; have HO_6 := n1_; have HB := n2_; clear n0_ n1_ n2_)); have p20 : 0 ≤ (x16_1 : Int) := of_decide_eq_true (by first | (with_reducible assumption) | assumption); have q20 : (x16_1 : Int) < ((x5_1.length : Int) : Int) := of_decide_eq_true (by first | (with_reducible assumption) | assumption); obtain ⟨go20, co20, eo20, gb20, gl20, cl20, HG20⟩ := Kd.R_form HO_5.out (by omega); (first | cases eo20 | (injection eo20 with ea_ en_ ec_; (first | subst ea_ | (injection ea_ with ea_; subst ea_)); subst ec_; clear en_)); have GB20 := Aside0.mk gb20; have GG20 := Aside0.mk HG20; clear gb20 gl20 HG20; (first | simp only [add_plain] at hx378_0 | skip); obtain ⟨hx20_0, hf20_0⟩ := Kd.R_celln 0 HO_5.out (x16_1 : Int) p20 q20; (try simp only [Int.toNat_natCast] at hx20_0 hf20_0); replace p20 := eq_true p20; replace q20 := eq_true q20; obtain ⟨hy22_, hz22_⟩ := Kd.R_celln 0 HO_5.out (x16_1 : Int) (of_decide_eq_true (by first | (with_reducible assumption) | assumption)) (of_decide_eq_true (by first | (with_reducible assumption) | assumption)); (try simp only [Int.toNat_natCast] at hy22_ hz22_); have HP22 := Kd.R_putg HO_5.out (x16_1 : Int) t379) | ((with_reducible refine gate_store (t := 49) (p := 39) rfl ?_); refine store_event (t := 49) (p := 39) (v := ?vo_w23) (w1 := (wr.setCell ⟨go20, (x16_1 : Int).toNat, none⟩ (.int .u64 t379))) ?hg ?ho ?hn ?hr ?_; (case ho => rfl); (case hg => rfl); (case hn => rfl); (case hr => first | (go_simp; done) | (go_simp; rfl)); intro w23 hw; have hg : wr.grownBy w23 (some go20) := (by rw [hw]; exact HP22.2); have hp_ : Kd.R (Kd.int .u64) 49 w23 w.heap.size (fun k_ => some k_ ≠ (.slice Ao21 t370.length co21 : Value).ownBlock) (.slice (some ⟨go20, 0, none⟩) x5_1.length co7) y381 := (by rw [hw, Ny381.out]; exact HP22.1); clear HP22; have n0_ := Aside0.mk (hp_); have n1_ := Aside0.mk (Kd.R_after (v := (.slice (some ⟨go20, 0, none⟩) x5_1.length co7)) (v1 := (.slice (some ⟨go20, 0, none⟩) x5_1.length co7)) (ok := (fun _ => True)) (by (with_reducible repeat (first | apply Kd.R_alloc | apply Kd.R_drewN | apply Kd.R_drew)); exact Kd.R_mono HO_6.out (fun _ hk => ⟨trivial, hk⟩)) hg (.inl rfl)); have n2_ := Aside0.mk ((by rw [hw]; exact below_set (HB.out) GB20.out : Below w.heap.size w w23)); clear HO_5; clear HO_6; clear HB; have HO_5 := n0_; have HO_6 := n1_; have HB := n2_; clear n0_ n1_ n2_; clear hg hw hp_))
       (try simp only [← hl5_1])
       go_roundg k1
       case measure => have := HK1.out; omega
       case rel => exact ⟨(y381), (t380), (wrap64 (x16_1 + 1)), (by first | rfl | (simp; done) | (simp [*]; done)), (by first | rfl | (simp; done) | (simp [*]; done)), H', ⟨by have := HK1.out; omega⟩, ⟨by (try simp only [hl5_1]); (with_reducible repeat (first | apply Kd.R_alloc | apply Kd.R_drewN | apply Kd.R_drew)); exact HO_5.out⟩, ⟨by (try simp only [hl5_1]); (with_reducible repeat (first | apply Kd.R_alloc | apply Kd.R_drewN | apply Kd.R_drew)); exact Kd.R_mono HO_6.out (fun _ hk => hk.2)⟩, ⟨by repeat (first | (with_reducible first | exact HB.out | apply below_alloc | apply pw_below_drewN | apply below_drew1) | exact HB.out)⟩⟩
      ·rw [if_neg c18] at H
       exact absurd H (by simp)
     ·rw [if_neg c17] at H
      exact absurd H (by simp)
   ·rw [if_neg c8] at H
    have c8b0 : decide (x16_1 < (t367.length : Int)) = false := decide_eq_false c8
    (try (have c8b0y := c8b0; simp only [hl5_1] at c8b0y))
    clear c8
    replace H := Option.bind_eq_some_iff.mp H
    obtain ⟨t382, A240, H⟩ := H
    replace H : (some t382) = some r := H
    have A24 := Aside0.mk A240
    clear A240
    obtain rfl := Option.some.inj H
    go_wp2_with (first | ((with_reducible refine gate_callee (f := 71) rfl ?_); refine goesL_ (some 42) rfl rfl Try.func71 (by kernel_rfl) rfl #[.slice Ao7 x5_1.length co7] rfl (by (try simp only [List.map_toArray, List.map_cons, List.map_nil]); first | done | rfl | (simp only [List.length_drop, List.length_take]; rfl)) ?_; (with_reducible refine (exact_pack.calls k1 (fun k_ => some k_ = (.slice Ao7 x5_1.length co7 : Value).ownBlock) (.slice Ao7 x5_1.length co7) x5_1 t382 w _ ?side1 ?side2 A24.out).mono ?_); (case side1 => repeat (first | (with_reducible first | exact HB.out | apply below_alloc | apply pw_below_drewN | apply below_drew1) | exact HB.out)); (case side2 => exact Kd.R_tight rfl HO_5.out); rintro e w25 ⟨rfl, hb, hkp⟩; refine ⟨_, rfl, ?_⟩; have n0_ := Aside0.mk (Kd.R_mono (ok' := fun k_ => True) (Kd.R_keptB (HO_6.out) hkp (fun k_ hk_ hs_ => (hk_) hs_)) (fun k_ hk_ => trivial)); have n1_ := Aside0.mk (hb); clear HO_6; clear HB; clear HO_5; have HO_6 := n0_; have HB := n1_; clear n0_ n1_; (try clear hb); (try clear hkp)))
    go_ret
    exact ⟨by first | rfl | (simp [errW_none, errW_some] <;> rfl) | (simp [*, errW_none, errW_some] <;> rfl), by repeat (first | (with_reducible first | exact HB.out | apply below_alloc | apply pw_below_drewN | apply below_drew1) | exact HB.out)⟩
def natural_Sub.f (k : Nat) (a0 : ByteArray) (a1 : ByteArray) : Option (ByteArray × Int) := (natural_first.f k (([a0, a1] : List ByteArray))).bind fun t386 => (if t386 = 0 then ((exact_NatCmp.f k a0 a1).bind fun t387 => (if t387 < 0 then (some ((⟨#[]⟩ : ByteArray), 3)) else ((exact_NatSub.f k a0 a1).bind fun t388 => (some (t388, 0))))) else (some ((⟨#[]⟩ : ByteArray), t386)))
theorem natural_Sub.mono : ∀ a0 a1 k, LeO (natural_Sub.f k a0 a1) (natural_Sub.f (k + 1) a0 a1) := by
 intro a0 a1 k
 unfold natural_Sub.f
 repeat' first
   | (with_reducible exact exact_NatCmp.mono _ _ _)
   | (with_reducible exact exact_NatSub.mono _ _ _)
   | (with_reducible exact natural_first.mono _ _)
   | (with_reducible exact LeO.refl _)
   | (with_reducible exact LeO.none _)
   | (with_reducible refine LeO.ite ?_ ?_)
   | (with_reducible refine LeO.bind ?_ (fun _ => ?_))
   | exact exact_NatCmp.mono _ _ _
   | exact exact_NatSub.mono _ _ _
   | exact natural_first.mono _ _
   | exact LeO.none _
   | refine LeO.ite ?_ ?_
   | refine LeO.bind ?_ (fun _ => ?_)
set_option maxHeartbeats 8000000 in
set_option maxRecDepth 100000 in
theorem natural_Sub.calls (k : Nat) (a0 : ByteArray) (a1 : ByteArray) (r1 : ByteArray) (r2 : Int) (w : World) (h : natural_Sub.f k a0 a1 = some (r1, r2)) :
  Calls Try.prog 37 #[.string a0, .string a1] w fun e w' => e = .returned (.tuple #[.string r1, .int .i64 r2]) ∧ Below w.heap.size w w' := by
 have HB := Aside0.mk (Below.refl w.heap.size w)
 have H : ((natural_first.f k (([a0, a1] : List ByteArray))).bind fun t386 => (if t386 = 0 then ((exact_NatCmp.f k a0 a1).bind fun t387 => (if t387 < 0 then (some ((⟨#[]⟩ : ByteArray), 3)) else ((exact_NatSub.f k a0 a1).bind fun t388 => (some (t388, 0))))) else (some ((⟨#[]⟩ : ByteArray), t386)))) = some (r1, r2) := h
 clear h
 obtain ⟨y383, hy383⟩ : ∃ y_ : List ByteArray, y_ = (([a0, a1] : List ByteArray)) := ⟨_, rfl⟩
 replace H : ((natural_first.f k y383).bind fun t386 => (if t386 = 0 then ((exact_NatCmp.f k a0 a1).bind fun t387 => (if t387 < 0 then (some ((⟨#[]⟩ : ByteArray), 3)) else ((exact_NatSub.f k a0 a1).bind fun t388 => (some (t388, 0))))) else (some ((⟨#[]⟩ : ByteArray), t386)))) = some (r1, r2) := by first | (rw [hy383]; with_reducible exact H) | (have H2_ := (Option.bind_some _ _).symm.trans H; rw [hy383]; with_reducible exact H2_) | (have H2_ := (Option.bind_some _ _).symm.trans H; with_reducible exact H2_) | with_reducible exact H | (rw [hy383]; exact H) | exact H
 have Ny383 := Aside0.mk hy383
 clear hy383
 replace H := Option.bind_eq_some_iff.mp H
 obtain ⟨t386, A30, H⟩ := H
 replace H : (if t386 = 0 then ((exact_NatCmp.f k a0 a1).bind fun t387 => (if t387 < 0 then (some ((⟨#[]⟩ : ByteArray), 3)) else ((exact_NatSub.f k a0 a1).bind fun t388 => (some (t388, 0))))) else (some ((⟨#[]⟩ : ByteArray), t386))) = some (r1, r2) := H
 have A3 := Aside0.mk A30
 clear A30
 by_cases c4 : t386 = 0
 ·rw [if_pos c4] at H
  have c4b0 : (t386 == 0) = true := beq_iff_eq.mpr c4
  have c4b1 : (t386 != 0) = false := bne_eq_false_iff_eq.mpr c4
  clear c4
  replace H := Option.bind_eq_some_iff.mp H
  obtain ⟨t387, A50, H⟩ := H
  replace H : (if t387 < 0 then (some ((⟨#[]⟩ : ByteArray), 3)) else ((exact_NatSub.f k a0 a1).bind fun t388 => (some (t388, 0)))) = some (r1, r2) := H
  have A5 := Aside0.mk A50
  clear A50
  by_cases c6 : t387 < 0
  ·rw [if_pos c6] at H
   have c6b0 : decide (t387 < 0) = true := decide_eq_true c6
   clear c6
   simp only [Option.some.injEq, Prod.mk.injEq] at H
   obtain ⟨rfl, rfl⟩ := H
   go_enter Try.func37, Try.ntmps37
   go_wp2_with (first | ((with_reducible refine gate_dst (N := 9) rfl ?_); refine Kd.R_lit Kd.string _ 22 ?hg (N := 9) ?hd (xs := ([a0, a1] : List ByteArray)) (inner := [.string a0, .string a1]) (ok := fun _ => True) (okp := fun _ => True) ?hr ?hp (fun _ hk => hk) trivial (Below.refl _ _) (Nat.le_refl _) (by simp) ?_; (case hd => rfl); (case hg => rfl); (case hr => first | (go_simp; done) | (go_simp; rfl)); (case hp => exact (Reps.one (show Kd.M Kd.string _ _ _ a0 [.string a0] from rfl) (Reps.one (show Kd.M Kd.string _ _ _ a1 [.string a1] from rfl) (Reps.none _ _)))); intro v384 w7 ho8 hb hg_ hnew_; clear hg_ hnew_; (first | rw [← Ny383.out] at ho8 | (simp only [Int.reduceToNat] at ho8; rw [← Ny383.out] at ho8)); have n0_ := Aside0.mk (Kd.R_lower ho8 (below_size (by repeat (first | (with_reducible first | exact HB.out | apply below_alloc | apply pw_below_drewN | apply below_drew1) | exact HB.out)))); have n1_ := Aside0.mk (below_step (by repeat (first | (with_reducible first | exact HB.out | apply below_alloc | apply pw_below_drewN | apply below_drew1) | exact HB.out)) hb); clear HB; have HO385 := n0_; have HB := n1_; clear n0_ n1_; clear hb ho8; obtain ⟨Ao9, co9, eo9⟩ := Kd.R_slice HO385.out; subst eo9) | ((with_reducible refine gate_callee (f := 47) rfl ?_); refine goesL_ (some 10) rfl rfl Try.func47 (by kernel_rfl) rfl #[.slice Ao9 y383.length co9] rfl (by (try simp only [List.map_toArray, List.map_cons, List.map_nil]); first | done | rfl | (simp only [List.length_drop, List.length_take]; rfl)) ?_; (with_reducible refine (natural_first.calls k _ _ y383 t386 _ ?side1 ?side2 A3.out).mono ?_); (case side1 => repeat (first | exact (Kd.R_reads' HO385.out).2.2 | (with_reducible refine Kd.C_alloc ?_ _) | (with_reducible refine Kd.C_drewN ?_ _) | (with_reducible refine Kd.C_drew ?_))); (case side2 => exact (Kd.R_reads' HO385.out).2.1); rintro e w' ⟨rfl, ⟨nd, rfl⟩⟩; refine ⟨_, rfl, ?_⟩) | ((with_reducible refine gate_callee (f := 64) rfl ?_); refine goesL_ (some 16) rfl rfl Try.func64 (by kernel_rfl) rfl #[.string a0, .string a1] rfl (by (try simp only [List.map_toArray, List.map_cons, List.map_nil]); first | done | rfl | (simp only [List.length_drop, List.length_take]; rfl)) ?_; (with_reducible refine (exact_NatCmp.calls k a0 a1 t387 _ A5.out).mono ?_); rintro e w' ⟨rfl, ⟨nd, rfl⟩⟩; refine ⟨_, rfl, ?_⟩))
   go_ret2
   exact ⟨by first | rfl | (simp [errW_none, errW_some] <;> rfl) | (simp [*, errW_none, errW_some] <;> rfl), by repeat (first | (with_reducible first | exact HB.out | apply below_alloc | apply pw_below_drewN | apply below_drew1) | exact HB.out)⟩
  ·rw [if_neg c6] at H
   have c6b0 : decide (t387 < 0) = false := decide_eq_false c6
   clear c6
   replace H := Option.bind_eq_some_iff.mp H
   obtain ⟨t388, A100, H⟩ := H
   replace H : (some (t388, 0)) = some (r1, r2) := H
   have A10 := Aside0.mk A100
   clear A100
   simp only [Option.some.injEq, Prod.mk.injEq] at H
   obtain ⟨rfl, rfl⟩ := H
   go_enter Try.func37, Try.ntmps37
   go_wp2_with (first | ((with_reducible refine gate_dst (N := 9) rfl ?_); refine Kd.R_lit Kd.string _ 22 ?hg (N := 9) ?hd (xs := ([a0, a1] : List ByteArray)) (inner := [.string a0, .string a1]) (ok := fun _ => True) (okp := fun _ => True) ?hr ?hp (fun _ hk => hk) trivial (Below.refl _ _) (Nat.le_refl _) (by simp) ?_; (case hd => rfl); (case hg => rfl); (case hr => first | (go_simp; done) | (go_simp; rfl)); (case hp => exact (Reps.one (show Kd.M Kd.string _ _ _ a0 [.string a0] from rfl) (Reps.one (show Kd.M Kd.string _ _ _ a1 [.string a1] from rfl) (Reps.none _ _)))); intro v384 w11 ho12 hb hg_ hnew_; clear hg_ hnew_; (first | rw [← Ny383.out] at ho12 | (simp only [Int.reduceToNat] at ho12; rw [← Ny383.out] at ho12)); have n0_ := Aside0.mk (Kd.R_lower ho12 (below_size (by repeat (first | (with_reducible first | exact HB.out | apply below_alloc | apply pw_below_drewN | apply below_drew1) | exact HB.out)))); have n1_ := Aside0.mk (below_step (by repeat (first | (with_reducible first | exact HB.out | apply below_alloc | apply pw_below_drewN | apply below_drew1) | exact HB.out)) hb); clear HB; have HO385 := n0_; have HB := n1_; clear n0_ n1_; clear hb ho12; obtain ⟨Ao13, co13, eo13⟩ := Kd.R_slice HO385.out; subst eo13) | ((with_reducible refine gate_callee (f := 47) rfl ?_); refine goesL_ (some 10) rfl rfl Try.func47 (by kernel_rfl) rfl #[.slice Ao13 y383.length co13] rfl (by (try simp only [List.map_toArray, List.map_cons, List.map_nil]); first | done | rfl | (simp only [List.length_drop, List.length_take]; rfl)) ?_; (with_reducible refine (natural_first.calls k _ _ y383 t386 _ ?side1 ?side2 A3.out).mono ?_); (case side1 => repeat (first | exact (Kd.R_reads' HO385.out).2.2 | (with_reducible refine Kd.C_alloc ?_ _) | (with_reducible refine Kd.C_drewN ?_ _) | (with_reducible refine Kd.C_drew ?_))); (case side2 => exact (Kd.R_reads' HO385.out).2.1); rintro e w' ⟨rfl, ⟨nd, rfl⟩⟩; refine ⟨_, rfl, ?_⟩) | ((with_reducible refine gate_callee (f := 64) rfl ?_); refine goesL_ (some 16) rfl rfl Try.func64 (by kernel_rfl) rfl #[.string a0, .string a1] rfl (by (try simp only [List.map_toArray, List.map_cons, List.map_nil]); first | done | rfl | (simp only [List.length_drop, List.length_take]; rfl)) ?_; (with_reducible refine (exact_NatCmp.calls k a0 a1 t387 _ A5.out).mono ?_); rintro e w' ⟨rfl, ⟨nd, rfl⟩⟩; refine ⟨_, rfl, ?_⟩) | ((with_reducible refine gate_callee (f := 65) rfl ?_); refine goesL_ (some 20) rfl rfl Try.func65 (by kernel_rfl) rfl #[.string a0, .string a1] rfl (by (try simp only [List.map_toArray, List.map_cons, List.map_nil]); first | done | rfl | (simp only [List.length_drop, List.length_take]; rfl)) ?_; (with_reducible refine (exact_NatSub.calls k a0 a1 t388 _ A10.out).mono ?_); rintro e w14 ⟨rfl, hb⟩; refine ⟨_, rfl, ?_⟩; have n0_ := Aside0.mk (Kd.R_below (by (with_reducible repeat (first | apply Kd.R_alloc | apply Kd.R_drewN | apply Kd.R_drew)); exact HO385.out) hb); have n1_ := Aside0.mk (below_step (by repeat (first | (with_reducible first | exact HB.out | apply below_alloc | apply pw_below_drewN | apply below_drew1) | exact HB.out)) hb); clear HO385; clear HB; have HO385 := n0_; have HB := n1_; clear n0_ n1_; (try clear hb); (try clear hb2); (try clear hk); (try clear hi)))
   go_ret2
   exact ⟨by first | rfl | (simp [errW_none, errW_some] <;> rfl) | (simp [*, errW_none, errW_some] <;> rfl), by repeat (first | (with_reducible first | exact HB.out | apply below_alloc | apply pw_below_drewN | apply below_drew1) | exact HB.out)⟩
 ·rw [if_neg c4] at H
  have c4b0 : (t386 == 0) = false := beq_eq_false_iff_ne.mpr c4
  have c4b1 : (t386 != 0) = true := bne_iff_ne.mpr c4
  simp only [Option.some.injEq, Prod.mk.injEq] at H
  obtain ⟨rfl, rfl⟩ := H
  go_enter Try.func37, Try.ntmps37
  go_wp2_with (first | ((with_reducible refine gate_dst (N := 9) rfl ?_); refine Kd.R_lit Kd.string _ 22 ?hg (N := 9) ?hd (xs := ([a0, a1] : List ByteArray)) (inner := [.string a0, .string a1]) (ok := fun _ => True) (okp := fun _ => True) ?hr ?hp (fun _ hk => hk) trivial (Below.refl _ _) (Nat.le_refl _) (by simp) ?_; (case hd => rfl); (case hg => rfl); (case hr => first | (go_simp; done) | (go_simp; rfl)); (case hp => exact (Reps.one (show Kd.M Kd.string _ _ _ a0 [.string a0] from rfl) (Reps.one (show Kd.M Kd.string _ _ _ a1 [.string a1] from rfl) (Reps.none _ _)))); intro v384 w15 ho16 hb hg_ hnew_; clear hg_ hnew_; (first | rw [← Ny383.out] at ho16 | (simp only [Int.reduceToNat] at ho16; rw [← Ny383.out] at ho16)); have n0_ := Aside0.mk (Kd.R_lower ho16 (below_size (by repeat (first | (with_reducible first | exact HB.out | apply below_alloc | apply pw_below_drewN | apply below_drew1) | exact HB.out)))); have n1_ := Aside0.mk (below_step (by repeat (first | (with_reducible first | exact HB.out | apply below_alloc | apply pw_below_drewN | apply below_drew1) | exact HB.out)) hb); clear HB; have HO385 := n0_; have HB := n1_; clear n0_ n1_; clear hb ho16; obtain ⟨Ao17, co17, eo17⟩ := Kd.R_slice HO385.out; subst eo17) | ((with_reducible refine gate_callee (f := 47) rfl ?_); refine goesL_ (some 10) rfl rfl Try.func47 (by kernel_rfl) rfl #[.slice Ao17 y383.length co17] rfl (by (try simp only [List.map_toArray, List.map_cons, List.map_nil]); first | done | rfl | (simp only [List.length_drop, List.length_take]; rfl)) ?_; (with_reducible refine (natural_first.calls k _ _ y383 t386 _ ?side1 ?side2 A3.out).mono ?_); (case side1 => repeat (first | exact (Kd.R_reads' HO385.out).2.2 | (with_reducible refine Kd.C_alloc ?_ _) | (with_reducible refine Kd.C_drewN ?_ _) | (with_reducible refine Kd.C_drew ?_))); (case side2 => exact (Kd.R_reads' HO385.out).2.1); rintro e w' ⟨rfl, ⟨nd, rfl⟩⟩; refine ⟨_, rfl, ?_⟩))
  go_ret2
  exact ⟨by first | rfl | (simp [errW_none, errW_some] <;> rfl) | (simp [*, errW_none, errW_some] <;> rfl), by repeat (first | (with_reducible first | exact HB.out | apply below_alloc | apply pw_below_drewN | apply below_drew1) | exact HB.out)⟩
def galoislaw01_awake.j0 : Nat → ByteArray → ByteArray → ByteArray → ByteArray → ByteArray → ByteArray → Bool → Option (Bool)
 | 0, _, _, _, _, _, _, _ => none
 | k + 1, x1, x2, x4, x6, x8, x10, x69 => if x69 = true then (some false) else ((galoislaw01_nat.f k 142).bind fun t411 => (if x1.toList = t411.toList then ((galoislaw01_nat.f k 6).bind fun t412 => (if x2.toList = t412.toList then ((galoislaw01_nat.f k 6).bind fun t413 => (if x4.toList = t413.toList then ((galoislaw01_nat.f k 10).bind fun t414 => (if x6.toList = t414.toList then ((galoislaw01_nat.f k 9).bind fun t415 => (if x8.toList = t415.toList then (if x10.toList = ([4, 0] : List UInt8) then ((natural_Of.f 256).bind fun t416 => (some (t416.toList == ([1, 0] : List UInt8)))) else (some false)) else (some false))) else (some false))) else (some false))) else (some false))) else (some false)))
def galoislaw01_awake.f (k : Nat)  : Option (Bool) := (galoislaw01_nat.f k 1000).bind fun t389 => ((galoislaw01_nat.f k 7).bind fun t390 => ((natural_DivMod.f k t389 t390).bind fun bt391 => ((galoislaw01_nat.f k 12).bind fun t394 => ((galoislaw01_nat.f k 18).bind fun t395 => ((natural_Gcd.f k t394 t395).bind fun bt396 => ((galoislaw01_nat.f k 1000).bind fun t398 => ((natural_Root.f k t398 3).bind fun bt399 => ((galoislaw01_nat.f k 999).bind fun t401 => ((natural_Root.f k t401 3).bind fun bt402 => ((galoislaw01_nat.f k 2).bind fun t404 => ((natural_Pow.f k t404 10).bind fun bt405 => ((galoislaw01_nat.f k 3).bind fun t407 => ((galoislaw01_nat.f k 5).bind fun t408 => ((natural_Sub.f k t407 t408).bind fun bt409 => (if bt391.2.2 = 0 then (if bt396.2 = 0 then (if bt399.2 = 0 then (if bt402.2 = 0 then (if bt405.2 = 0 then (galoislaw01_awake.j0 k bt391.1 bt391.2.1 bt396.1 bt399.1 bt402.1 bt405.1 (bt409.2 != 3)) else (galoislaw01_awake.j0 k bt391.1 bt391.2.1 bt396.1 bt399.1 bt402.1 bt405.1 true)) else (galoislaw01_awake.j0 k bt391.1 bt391.2.1 bt396.1 bt399.1 bt402.1 bt405.1 true)) else (galoislaw01_awake.j0 k bt391.1 bt391.2.1 bt396.1 bt399.1 bt402.1 bt405.1 true)) else (galoislaw01_awake.j0 k bt391.1 bt391.2.1 bt396.1 bt399.1 bt402.1 bt405.1 true)) else (galoislaw01_awake.j0 k bt391.1 bt391.2.1 bt396.1 bt399.1 bt402.1 bt405.1 true))))))))))))))))
theorem galoislaw01_awake.mono_l : ∀ k, (∀ y0 y1 y2 y3 y4 y5 y6, LeO (galoislaw01_awake.j0 k y0 y1 y2 y3 y4 y5 y6) (galoislaw01_awake.j0 (k + 1) y0 y1 y2 y3 y4 y5 y6))
 | 0 => fun _ _ _ _ _ _ _ r h => by simp [galoislaw01_awake.j0] at h
 | k + 1 => by
  have ih0 := galoislaw01_awake.mono_l k
  ·intro y0 y1 y2 y3 y4 y5 y6
   unfold galoislaw01_awake.j0
   repeat' first
   | (with_reducible exact ih0 _ _ _ _ _ _ _)
   | (with_reducible exact galoislaw01_nat.mono _ _)
   | (with_reducible exact natural_DivMod.mono _ _ _)
   | (with_reducible exact natural_Gcd.mono _ _ _)
   | (with_reducible exact natural_Pow.mono _ _ _)
   | (with_reducible exact natural_Root.mono _ _ _)
   | (with_reducible exact natural_Sub.mono _ _ _)
   | (with_reducible exact LeO.refl _)
   | (with_reducible exact LeO.none _)
   | (with_reducible refine LeO.ite ?_ ?_)
   | (with_reducible refine LeO.bind ?_ (fun _ => ?_))
   | exact ih0 _ _ _ _ _ _ _
   | exact galoislaw01_nat.mono _ _
   | exact natural_DivMod.mono _ _ _
   | exact natural_Gcd.mono _ _ _
   | exact natural_Pow.mono _ _ _
   | exact natural_Root.mono _ _ _
   | exact natural_Sub.mono _ _ _
   | exact LeO.none _
   | refine LeO.ite ?_ ?_
   | refine LeO.bind ?_ (fun _ => ?_)
theorem galoislaw01_awake.mono : ∀ k, LeO (galoislaw01_awake.f k ) (galoislaw01_awake.f (k + 1) ) := by
 intro  k
 have ih0 := galoislaw01_awake.mono_l k
 unfold galoislaw01_awake.f
 repeat' first
   | (with_reducible exact ih0 _ _ _ _ _ _ _)
   | (with_reducible exact galoislaw01_nat.mono _ _)
   | (with_reducible exact natural_DivMod.mono _ _ _)
   | (with_reducible exact natural_Gcd.mono _ _ _)
   | (with_reducible exact natural_Pow.mono _ _ _)
   | (with_reducible exact natural_Root.mono _ _ _)
   | (with_reducible exact natural_Sub.mono _ _ _)
   | (with_reducible exact LeO.refl _)
   | (with_reducible exact LeO.none _)
   | (with_reducible refine LeO.ite ?_ ?_)
   | (with_reducible refine LeO.bind ?_ (fun _ => ?_))
   | exact ih0 _ _ _ _ _ _ _
   | exact galoislaw01_nat.mono _ _
   | exact natural_DivMod.mono _ _ _
   | exact natural_Gcd.mono _ _ _
   | exact natural_Pow.mono _ _ _
   | exact natural_Root.mono _ _ _
   | exact natural_Sub.mono _ _ _
   | exact LeO.none _
   | refine LeO.ite ?_ ?_
   | refine LeO.bind ?_ (fun _ => ?_)
set_option maxHeartbeats 8000000 in
set_option maxRecDepth 100000 in
theorem galoislaw01_awake.calls (k : Nat)  (r : Bool) (w : World) (h : galoislaw01_awake.f k  = some r) :
  Calls Try.prog 12 #[] w fun e w' => e = .returned (.bool r) ∧ Below w.heap.size w w' := by
 have HB := Aside0.mk (Below.refl w.heap.size w)
 have H : ((galoislaw01_nat.f k 1000).bind fun t389 => ((galoislaw01_nat.f k 7).bind fun t390 => ((natural_DivMod.f k t389 t390).bind fun bt391 => ((galoislaw01_nat.f k 12).bind fun t394 => ((galoislaw01_nat.f k 18).bind fun t395 => ((natural_Gcd.f k t394 t395).bind fun bt396 => ((galoislaw01_nat.f k 1000).bind fun t398 => ((natural_Root.f k t398 3).bind fun bt399 => ((galoislaw01_nat.f k 999).bind fun t401 => ((natural_Root.f k t401 3).bind fun bt402 => ((galoislaw01_nat.f k 2).bind fun t404 => ((natural_Pow.f k t404 10).bind fun bt405 => ((galoislaw01_nat.f k 3).bind fun t407 => ((galoislaw01_nat.f k 5).bind fun t408 => ((natural_Sub.f k t407 t408).bind fun bt409 => (if bt391.2.2 = 0 then (if bt396.2 = 0 then (if bt399.2 = 0 then (if bt402.2 = 0 then (if bt405.2 = 0 then (galoislaw01_awake.j0 k bt391.1 bt391.2.1 bt396.1 bt399.1 bt402.1 bt405.1 (bt409.2 != 3)) else (galoislaw01_awake.j0 k bt391.1 bt391.2.1 bt396.1 bt399.1 bt402.1 bt405.1 true)) else (galoislaw01_awake.j0 k bt391.1 bt391.2.1 bt396.1 bt399.1 bt402.1 bt405.1 true)) else (galoislaw01_awake.j0 k bt391.1 bt391.2.1 bt396.1 bt399.1 bt402.1 bt405.1 true)) else (galoislaw01_awake.j0 k bt391.1 bt391.2.1 bt396.1 bt399.1 bt402.1 bt405.1 true)) else (galoislaw01_awake.j0 k bt391.1 bt391.2.1 bt396.1 bt399.1 bt402.1 bt405.1 true))))))))))))))))) = some r := h
 clear h
 replace H := Option.bind_eq_some_iff.mp H
 obtain ⟨t389, A10, H⟩ := H
 replace H : ((galoislaw01_nat.f k 7).bind fun t390 => ((natural_DivMod.f k t389 t390).bind fun bt391 => ((galoislaw01_nat.f k 12).bind fun t394 => ((galoislaw01_nat.f k 18).bind fun t395 => ((natural_Gcd.f k t394 t395).bind fun bt396 => ((galoislaw01_nat.f k 1000).bind fun t398 => ((natural_Root.f k t398 3).bind fun bt399 => ((galoislaw01_nat.f k 999).bind fun t401 => ((natural_Root.f k t401 3).bind fun bt402 => ((galoislaw01_nat.f k 2).bind fun t404 => ((natural_Pow.f k t404 10).bind fun bt405 => ((galoislaw01_nat.f k 3).bind fun t407 => ((galoislaw01_nat.f k 5).bind fun t408 => ((natural_Sub.f k t407 t408).bind fun bt409 => (if bt391.2.2 = 0 then (if bt396.2 = 0 then (if bt399.2 = 0 then (if bt402.2 = 0 then (if bt405.2 = 0 then (galoislaw01_awake.j0 k bt391.1 bt391.2.1 bt396.1 bt399.1 bt402.1 bt405.1 (bt409.2 != 3)) else (galoislaw01_awake.j0 k bt391.1 bt391.2.1 bt396.1 bt399.1 bt402.1 bt405.1 true)) else (galoislaw01_awake.j0 k bt391.1 bt391.2.1 bt396.1 bt399.1 bt402.1 bt405.1 true)) else (galoislaw01_awake.j0 k bt391.1 bt391.2.1 bt396.1 bt399.1 bt402.1 bt405.1 true)) else (galoislaw01_awake.j0 k bt391.1 bt391.2.1 bt396.1 bt399.1 bt402.1 bt405.1 true)) else (galoislaw01_awake.j0 k bt391.1 bt391.2.1 bt396.1 bt399.1 bt402.1 bt405.1 true)))))))))))))))) = some r := H
 have A1 := Aside0.mk A10
 clear A10
 replace H := Option.bind_eq_some_iff.mp H
 obtain ⟨t390, A20, H⟩ := H
 replace H : ((natural_DivMod.f k t389 t390).bind fun bt391 => ((galoislaw01_nat.f k 12).bind fun t394 => ((galoislaw01_nat.f k 18).bind fun t395 => ((natural_Gcd.f k t394 t395).bind fun bt396 => ((galoislaw01_nat.f k 1000).bind fun t398 => ((natural_Root.f k t398 3).bind fun bt399 => ((galoislaw01_nat.f k 999).bind fun t401 => ((natural_Root.f k t401 3).bind fun bt402 => ((galoislaw01_nat.f k 2).bind fun t404 => ((natural_Pow.f k t404 10).bind fun bt405 => ((galoislaw01_nat.f k 3).bind fun t407 => ((galoislaw01_nat.f k 5).bind fun t408 => ((natural_Sub.f k t407 t408).bind fun bt409 => (if bt391.2.2 = 0 then (if bt396.2 = 0 then (if bt399.2 = 0 then (if bt402.2 = 0 then (if bt405.2 = 0 then (galoislaw01_awake.j0 k bt391.1 bt391.2.1 bt396.1 bt399.1 bt402.1 bt405.1 (bt409.2 != 3)) else (galoislaw01_awake.j0 k bt391.1 bt391.2.1 bt396.1 bt399.1 bt402.1 bt405.1 true)) else (galoislaw01_awake.j0 k bt391.1 bt391.2.1 bt396.1 bt399.1 bt402.1 bt405.1 true)) else (galoislaw01_awake.j0 k bt391.1 bt391.2.1 bt396.1 bt399.1 bt402.1 bt405.1 true)) else (galoislaw01_awake.j0 k bt391.1 bt391.2.1 bt396.1 bt399.1 bt402.1 bt405.1 true)) else (galoislaw01_awake.j0 k bt391.1 bt391.2.1 bt396.1 bt399.1 bt402.1 bt405.1 true))))))))))))))) = some r := H
 have A2 := Aside0.mk A20
 clear A20
 replace H := Option.bind_eq_some_iff.mp H
 obtain ⟨⟨t391, t392, t393⟩, A30, H⟩ := H
 replace H : ((galoislaw01_nat.f k 12).bind fun t394 => ((galoislaw01_nat.f k 18).bind fun t395 => ((natural_Gcd.f k t394 t395).bind fun bt396 => ((galoislaw01_nat.f k 1000).bind fun t398 => ((natural_Root.f k t398 3).bind fun bt399 => ((galoislaw01_nat.f k 999).bind fun t401 => ((natural_Root.f k t401 3).bind fun bt402 => ((galoislaw01_nat.f k 2).bind fun t404 => ((natural_Pow.f k t404 10).bind fun bt405 => ((galoislaw01_nat.f k 3).bind fun t407 => ((galoislaw01_nat.f k 5).bind fun t408 => ((natural_Sub.f k t407 t408).bind fun bt409 => (if t393 = 0 then (if bt396.2 = 0 then (if bt399.2 = 0 then (if bt402.2 = 0 then (if bt405.2 = 0 then (galoislaw01_awake.j0 k t391 t392 bt396.1 bt399.1 bt402.1 bt405.1 (bt409.2 != 3)) else (galoislaw01_awake.j0 k t391 t392 bt396.1 bt399.1 bt402.1 bt405.1 true)) else (galoislaw01_awake.j0 k t391 t392 bt396.1 bt399.1 bt402.1 bt405.1 true)) else (galoislaw01_awake.j0 k t391 t392 bt396.1 bt399.1 bt402.1 bt405.1 true)) else (galoislaw01_awake.j0 k t391 t392 bt396.1 bt399.1 bt402.1 bt405.1 true)) else (galoislaw01_awake.j0 k t391 t392 bt396.1 bt399.1 bt402.1 bt405.1 true)))))))))))))) = some r := H
 have A3 := Aside0.mk A30
 clear A30
 replace H := Option.bind_eq_some_iff.mp H
 obtain ⟨t394, A40, H⟩ := H
 replace H : ((galoislaw01_nat.f k 18).bind fun t395 => ((natural_Gcd.f k t394 t395).bind fun bt396 => ((galoislaw01_nat.f k 1000).bind fun t398 => ((natural_Root.f k t398 3).bind fun bt399 => ((galoislaw01_nat.f k 999).bind fun t401 => ((natural_Root.f k t401 3).bind fun bt402 => ((galoislaw01_nat.f k 2).bind fun t404 => ((natural_Pow.f k t404 10).bind fun bt405 => ((galoislaw01_nat.f k 3).bind fun t407 => ((galoislaw01_nat.f k 5).bind fun t408 => ((natural_Sub.f k t407 t408).bind fun bt409 => (if t393 = 0 then (if bt396.2 = 0 then (if bt399.2 = 0 then (if bt402.2 = 0 then (if bt405.2 = 0 then (galoislaw01_awake.j0 k t391 t392 bt396.1 bt399.1 bt402.1 bt405.1 (bt409.2 != 3)) else (galoislaw01_awake.j0 k t391 t392 bt396.1 bt399.1 bt402.1 bt405.1 true)) else (galoislaw01_awake.j0 k t391 t392 bt396.1 bt399.1 bt402.1 bt405.1 true)) else (galoislaw01_awake.j0 k t391 t392 bt396.1 bt399.1 bt402.1 bt405.1 true)) else (galoislaw01_awake.j0 k t391 t392 bt396.1 bt399.1 bt402.1 bt405.1 true)) else (galoislaw01_awake.j0 k t391 t392 bt396.1 bt399.1 bt402.1 bt405.1 true))))))))))))) = some r := H
 have A4 := Aside0.mk A40
 clear A40
 replace H := Option.bind_eq_some_iff.mp H
 obtain ⟨t395, A50, H⟩ := H
 replace H : ((natural_Gcd.f k t394 t395).bind fun bt396 => ((galoislaw01_nat.f k 1000).bind fun t398 => ((natural_Root.f k t398 3).bind fun bt399 => ((galoislaw01_nat.f k 999).bind fun t401 => ((natural_Root.f k t401 3).bind fun bt402 => ((galoislaw01_nat.f k 2).bind fun t404 => ((natural_Pow.f k t404 10).bind fun bt405 => ((galoislaw01_nat.f k 3).bind fun t407 => ((galoislaw01_nat.f k 5).bind fun t408 => ((natural_Sub.f k t407 t408).bind fun bt409 => (if t393 = 0 then (if bt396.2 = 0 then (if bt399.2 = 0 then (if bt402.2 = 0 then (if bt405.2 = 0 then (galoislaw01_awake.j0 k t391 t392 bt396.1 bt399.1 bt402.1 bt405.1 (bt409.2 != 3)) else (galoislaw01_awake.j0 k t391 t392 bt396.1 bt399.1 bt402.1 bt405.1 true)) else (galoislaw01_awake.j0 k t391 t392 bt396.1 bt399.1 bt402.1 bt405.1 true)) else (galoislaw01_awake.j0 k t391 t392 bt396.1 bt399.1 bt402.1 bt405.1 true)) else (galoislaw01_awake.j0 k t391 t392 bt396.1 bt399.1 bt402.1 bt405.1 true)) else (galoislaw01_awake.j0 k t391 t392 bt396.1 bt399.1 bt402.1 bt405.1 true)))))))))))) = some r := H
 have A5 := Aside0.mk A50
 clear A50
 replace H := Option.bind_eq_some_iff.mp H
 obtain ⟨⟨t396, t397⟩, A60, H⟩ := H
 replace H : ((galoislaw01_nat.f k 1000).bind fun t398 => ((natural_Root.f k t398 3).bind fun bt399 => ((galoislaw01_nat.f k 999).bind fun t401 => ((natural_Root.f k t401 3).bind fun bt402 => ((galoislaw01_nat.f k 2).bind fun t404 => ((natural_Pow.f k t404 10).bind fun bt405 => ((galoislaw01_nat.f k 3).bind fun t407 => ((galoislaw01_nat.f k 5).bind fun t408 => ((natural_Sub.f k t407 t408).bind fun bt409 => (if t393 = 0 then (if t397 = 0 then (if bt399.2 = 0 then (if bt402.2 = 0 then (if bt405.2 = 0 then (galoislaw01_awake.j0 k t391 t392 t396 bt399.1 bt402.1 bt405.1 (bt409.2 != 3)) else (galoislaw01_awake.j0 k t391 t392 t396 bt399.1 bt402.1 bt405.1 true)) else (galoislaw01_awake.j0 k t391 t392 t396 bt399.1 bt402.1 bt405.1 true)) else (galoislaw01_awake.j0 k t391 t392 t396 bt399.1 bt402.1 bt405.1 true)) else (galoislaw01_awake.j0 k t391 t392 t396 bt399.1 bt402.1 bt405.1 true)) else (galoislaw01_awake.j0 k t391 t392 t396 bt399.1 bt402.1 bt405.1 true))))))))))) = some r := H
 have A6 := Aside0.mk A60
 clear A60
 replace H := Option.bind_eq_some_iff.mp H
 obtain ⟨t398, A70, H⟩ := H
 replace H : ((natural_Root.f k t398 3).bind fun bt399 => ((galoislaw01_nat.f k 999).bind fun t401 => ((natural_Root.f k t401 3).bind fun bt402 => ((galoislaw01_nat.f k 2).bind fun t404 => ((natural_Pow.f k t404 10).bind fun bt405 => ((galoislaw01_nat.f k 3).bind fun t407 => ((galoislaw01_nat.f k 5).bind fun t408 => ((natural_Sub.f k t407 t408).bind fun bt409 => (if t393 = 0 then (if t397 = 0 then (if bt399.2 = 0 then (if bt402.2 = 0 then (if bt405.2 = 0 then (galoislaw01_awake.j0 k t391 t392 t396 bt399.1 bt402.1 bt405.1 (bt409.2 != 3)) else (galoislaw01_awake.j0 k t391 t392 t396 bt399.1 bt402.1 bt405.1 true)) else (galoislaw01_awake.j0 k t391 t392 t396 bt399.1 bt402.1 bt405.1 true)) else (galoislaw01_awake.j0 k t391 t392 t396 bt399.1 bt402.1 bt405.1 true)) else (galoislaw01_awake.j0 k t391 t392 t396 bt399.1 bt402.1 bt405.1 true)) else (galoislaw01_awake.j0 k t391 t392 t396 bt399.1 bt402.1 bt405.1 true)))))))))) = some r := H
 have A7 := Aside0.mk A70
 clear A70
 obtain rfl : t389 = t398 := Option.some.inj (A1.out.symm.trans A7.out)
 replace H := Option.bind_eq_some_iff.mp H
 obtain ⟨⟨t399, t400⟩, A80, H⟩ := H
 replace H : ((galoislaw01_nat.f k 999).bind fun t401 => ((natural_Root.f k t401 3).bind fun bt402 => ((galoislaw01_nat.f k 2).bind fun t404 => ((natural_Pow.f k t404 10).bind fun bt405 => ((galoislaw01_nat.f k 3).bind fun t407 => ((galoislaw01_nat.f k 5).bind fun t408 => ((natural_Sub.f k t407 t408).bind fun bt409 => (if t393 = 0 then (if t397 = 0 then (if t400 = 0 then (if bt402.2 = 0 then (if bt405.2 = 0 then (galoislaw01_awake.j0 k t391 t392 t396 t399 bt402.1 bt405.1 (bt409.2 != 3)) else (galoislaw01_awake.j0 k t391 t392 t396 t399 bt402.1 bt405.1 true)) else (galoislaw01_awake.j0 k t391 t392 t396 t399 bt402.1 bt405.1 true)) else (galoislaw01_awake.j0 k t391 t392 t396 t399 bt402.1 bt405.1 true)) else (galoislaw01_awake.j0 k t391 t392 t396 t399 bt402.1 bt405.1 true)) else (galoislaw01_awake.j0 k t391 t392 t396 t399 bt402.1 bt405.1 true))))))))) = some r := H
 have A8 := Aside0.mk A80
 clear A80
 replace H := Option.bind_eq_some_iff.mp H
 obtain ⟨t401, A90, H⟩ := H
 replace H : ((natural_Root.f k t401 3).bind fun bt402 => ((galoislaw01_nat.f k 2).bind fun t404 => ((natural_Pow.f k t404 10).bind fun bt405 => ((galoislaw01_nat.f k 3).bind fun t407 => ((galoislaw01_nat.f k 5).bind fun t408 => ((natural_Sub.f k t407 t408).bind fun bt409 => (if t393 = 0 then (if t397 = 0 then (if t400 = 0 then (if bt402.2 = 0 then (if bt405.2 = 0 then (galoislaw01_awake.j0 k t391 t392 t396 t399 bt402.1 bt405.1 (bt409.2 != 3)) else (galoislaw01_awake.j0 k t391 t392 t396 t399 bt402.1 bt405.1 true)) else (galoislaw01_awake.j0 k t391 t392 t396 t399 bt402.1 bt405.1 true)) else (galoislaw01_awake.j0 k t391 t392 t396 t399 bt402.1 bt405.1 true)) else (galoislaw01_awake.j0 k t391 t392 t396 t399 bt402.1 bt405.1 true)) else (galoislaw01_awake.j0 k t391 t392 t396 t399 bt402.1 bt405.1 true)))))))) = some r := H
 have A9 := Aside0.mk A90
 clear A90
 replace H := Option.bind_eq_some_iff.mp H
 obtain ⟨⟨t402, t403⟩, A100, H⟩ := H
 replace H : ((galoislaw01_nat.f k 2).bind fun t404 => ((natural_Pow.f k t404 10).bind fun bt405 => ((galoislaw01_nat.f k 3).bind fun t407 => ((galoislaw01_nat.f k 5).bind fun t408 => ((natural_Sub.f k t407 t408).bind fun bt409 => (if t393 = 0 then (if t397 = 0 then (if t400 = 0 then (if t403 = 0 then (if bt405.2 = 0 then (galoislaw01_awake.j0 k t391 t392 t396 t399 t402 bt405.1 (bt409.2 != 3)) else (galoislaw01_awake.j0 k t391 t392 t396 t399 t402 bt405.1 true)) else (galoislaw01_awake.j0 k t391 t392 t396 t399 t402 bt405.1 true)) else (galoislaw01_awake.j0 k t391 t392 t396 t399 t402 bt405.1 true)) else (galoislaw01_awake.j0 k t391 t392 t396 t399 t402 bt405.1 true)) else (galoislaw01_awake.j0 k t391 t392 t396 t399 t402 bt405.1 true))))))) = some r := H
 have A10 := Aside0.mk A100
 clear A100
 replace H := Option.bind_eq_some_iff.mp H
 obtain ⟨t404, A110, H⟩ := H
 replace H : ((natural_Pow.f k t404 10).bind fun bt405 => ((galoislaw01_nat.f k 3).bind fun t407 => ((galoislaw01_nat.f k 5).bind fun t408 => ((natural_Sub.f k t407 t408).bind fun bt409 => (if t393 = 0 then (if t397 = 0 then (if t400 = 0 then (if t403 = 0 then (if bt405.2 = 0 then (galoislaw01_awake.j0 k t391 t392 t396 t399 t402 bt405.1 (bt409.2 != 3)) else (galoislaw01_awake.j0 k t391 t392 t396 t399 t402 bt405.1 true)) else (galoislaw01_awake.j0 k t391 t392 t396 t399 t402 bt405.1 true)) else (galoislaw01_awake.j0 k t391 t392 t396 t399 t402 bt405.1 true)) else (galoislaw01_awake.j0 k t391 t392 t396 t399 t402 bt405.1 true)) else (galoislaw01_awake.j0 k t391 t392 t396 t399 t402 bt405.1 true)))))) = some r := H
 have A11 := Aside0.mk A110
 clear A110
 replace H := Option.bind_eq_some_iff.mp H
 obtain ⟨⟨t405, t406⟩, A120, H⟩ := H
 replace H : ((galoislaw01_nat.f k 3).bind fun t407 => ((galoislaw01_nat.f k 5).bind fun t408 => ((natural_Sub.f k t407 t408).bind fun bt409 => (if t393 = 0 then (if t397 = 0 then (if t400 = 0 then (if t403 = 0 then (if t406 = 0 then (galoislaw01_awake.j0 k t391 t392 t396 t399 t402 t405 (bt409.2 != 3)) else (galoislaw01_awake.j0 k t391 t392 t396 t399 t402 t405 true)) else (galoislaw01_awake.j0 k t391 t392 t396 t399 t402 t405 true)) else (galoislaw01_awake.j0 k t391 t392 t396 t399 t402 t405 true)) else (galoislaw01_awake.j0 k t391 t392 t396 t399 t402 t405 true)) else (galoislaw01_awake.j0 k t391 t392 t396 t399 t402 t405 true))))) = some r := H
 have A12 := Aside0.mk A120
 clear A120
 replace H := Option.bind_eq_some_iff.mp H
 obtain ⟨t407, A130, H⟩ := H
 replace H : ((galoislaw01_nat.f k 5).bind fun t408 => ((natural_Sub.f k t407 t408).bind fun bt409 => (if t393 = 0 then (if t397 = 0 then (if t400 = 0 then (if t403 = 0 then (if t406 = 0 then (galoislaw01_awake.j0 k t391 t392 t396 t399 t402 t405 (bt409.2 != 3)) else (galoislaw01_awake.j0 k t391 t392 t396 t399 t402 t405 true)) else (galoislaw01_awake.j0 k t391 t392 t396 t399 t402 t405 true)) else (galoislaw01_awake.j0 k t391 t392 t396 t399 t402 t405 true)) else (galoislaw01_awake.j0 k t391 t392 t396 t399 t402 t405 true)) else (galoislaw01_awake.j0 k t391 t392 t396 t399 t402 t405 true)))) = some r := H
 have A13 := Aside0.mk A130
 clear A130
 replace H := Option.bind_eq_some_iff.mp H
 obtain ⟨t408, A140, H⟩ := H
 replace H : ((natural_Sub.f k t407 t408).bind fun bt409 => (if t393 = 0 then (if t397 = 0 then (if t400 = 0 then (if t403 = 0 then (if t406 = 0 then (galoislaw01_awake.j0 k t391 t392 t396 t399 t402 t405 (bt409.2 != 3)) else (galoislaw01_awake.j0 k t391 t392 t396 t399 t402 t405 true)) else (galoislaw01_awake.j0 k t391 t392 t396 t399 t402 t405 true)) else (galoislaw01_awake.j0 k t391 t392 t396 t399 t402 t405 true)) else (galoislaw01_awake.j0 k t391 t392 t396 t399 t402 t405 true)) else (galoislaw01_awake.j0 k t391 t392 t396 t399 t402 t405 true))) = some r := H
 have A14 := Aside0.mk A140
 clear A140
 replace H := Option.bind_eq_some_iff.mp H
 obtain ⟨⟨t409, t410⟩, A150, H⟩ := H
 replace H : (if t393 = 0 then (if t397 = 0 then (if t400 = 0 then (if t403 = 0 then (if t406 = 0 then (galoislaw01_awake.j0 k t391 t392 t396 t399 t402 t405 (t410 != 3)) else (galoislaw01_awake.j0 k t391 t392 t396 t399 t402 t405 true)) else (galoislaw01_awake.j0 k t391 t392 t396 t399 t402 t405 true)) else (galoislaw01_awake.j0 k t391 t392 t396 t399 t402 t405 true)) else (galoislaw01_awake.j0 k t391 t392 t396 t399 t402 t405 true)) else (galoislaw01_awake.j0 k t391 t392 t396 t399 t402 t405 true)) = some r := H
 have A15 := Aside0.mk A150
 clear A150
 have HC16 := Aside0.mk H
 clear H
 go_enter Try.func12, Try.ntmps12
 go_upto_region 7 with (first | ((with_reducible refine gate_callee (f := 27) rfl ?_); refine goesL_ (some 15) rfl rfl Try.func27 (by kernel_rfl) rfl #[.int .i64 1000] rfl (by (try simp only [List.map_toArray, List.map_cons, List.map_nil]); first | done | rfl | (simp only [List.length_drop, List.length_take]; rfl)) ?_; (with_reducible refine (galoislaw01_nat.calls k 1000 t389 _ A1.out).mono ?_); rintro e w17 ⟨rfl, hb⟩; refine ⟨_, rfl, ?_⟩; have n0_ := Aside0.mk (below_step (by repeat (first | (with_reducible first | exact HB.out | apply below_alloc | apply pw_below_drewN | apply below_drew1) | exact HB.out)) hb); clear HB; have HB := n0_; clear n0_; (try clear hb); (try clear hb2); (try clear hk); (try clear hi)) | ((with_reducible refine gate_callee (f := 27) rfl ?_); refine goesL_ (some 16) rfl rfl Try.func27 (by kernel_rfl) rfl #[.int .i64 7] rfl (by (try simp only [List.map_toArray, List.map_cons, List.map_nil]); first | done | rfl | (simp only [List.length_drop, List.length_take]; rfl)) ?_; (with_reducible refine (galoislaw01_nat.calls k 7 t390 _ A2.out).mono ?_); rintro e w18 ⟨rfl, hb⟩; refine ⟨_, rfl, ?_⟩; have n0_ := Aside0.mk (below_step (by repeat (first | (with_reducible first | exact HB.out | apply below_alloc | apply pw_below_drewN | apply below_drew1) | exact HB.out)) hb); clear HB; have HB := n0_; clear n0_; (try clear hb); (try clear hb2); (try clear hk); (try clear hi)) | ((with_reducible refine gate_callee (f := 14) rfl ?_); refine goesL_ (some 17) rfl rfl Try.func14 (by kernel_rfl) rfl #[.string t389, .string t390] rfl (by (try simp only [List.map_toArray, List.map_cons, List.map_nil]); first | done | rfl | (simp only [List.length_drop, List.length_take]; rfl)) ?_; (with_reducible refine (natural_DivMod.calls k t389 t390 t391 t392 t393 _ A3.out).mono ?_); rintro e w19 ⟨rfl, hb⟩; refine ⟨_, rfl, ?_⟩; have n0_ := Aside0.mk (below_step (by repeat (first | (with_reducible first | exact HB.out | apply below_alloc | apply pw_below_drewN | apply below_drew1) | exact HB.out)) hb); clear HB; have HB := n0_; clear n0_; (try clear hb); (try clear hb2); (try clear hk); (try clear hi)) | ((with_reducible refine gate_callee (f := 27) rfl ?_); refine goesL_ (some 22) rfl rfl Try.func27 (by kernel_rfl) rfl #[.int .i64 12] rfl (by (try simp only [List.map_toArray, List.map_cons, List.map_nil]); first | done | rfl | (simp only [List.length_drop, List.length_take]; rfl)) ?_; (with_reducible refine (galoislaw01_nat.calls k 12 t394 _ A4.out).mono ?_); rintro e w20 ⟨rfl, hb⟩; refine ⟨_, rfl, ?_⟩; have n0_ := Aside0.mk (below_step (by repeat (first | (with_reducible first | exact HB.out | apply below_alloc | apply pw_below_drewN | apply below_drew1) | exact HB.out)) hb); clear HB; have HB := n0_; clear n0_; (try clear hb); (try clear hb2); (try clear hk); (try clear hi)) | ((with_reducible refine gate_callee (f := 27) rfl ?_); refine goesL_ (some 23) rfl rfl Try.func27 (by kernel_rfl) rfl #[.int .i64 18] rfl (by (try simp only [List.map_toArray, List.map_cons, List.map_nil]); first | done | rfl | (simp only [List.length_drop, List.length_take]; rfl)) ?_; (with_reducible refine (galoislaw01_nat.calls k 18 t395 _ A5.out).mono ?_); rintro e w21 ⟨rfl, hb⟩; refine ⟨_, rfl, ?_⟩; have n0_ := Aside0.mk (below_step (by repeat (first | (with_reducible first | exact HB.out | apply below_alloc | apply pw_below_drewN | apply below_drew1) | exact HB.out)) hb); clear HB; have HB := n0_; clear n0_; (try clear hb); (try clear hb2); (try clear hk); (try clear hi)) | ((with_reducible refine gate_callee (f := 15) rfl ?_); refine goesL_ (some 24) rfl rfl Try.func15 (by kernel_rfl) rfl #[.string t394, .string t395] rfl (by (try simp only [List.map_toArray, List.map_cons, List.map_nil]); first | done | rfl | (simp only [List.length_drop, List.length_take]; rfl)) ?_; (with_reducible refine (natural_Gcd.calls k t394 t395 t396 t397 _ A6.out).mono ?_); rintro e w22 ⟨rfl, hb⟩; refine ⟨_, rfl, ?_⟩; have n0_ := Aside0.mk (below_step (by repeat (first | (with_reducible first | exact HB.out | apply below_alloc | apply pw_below_drewN | apply below_drew1) | exact HB.out)) hb); clear HB; have HB := n0_; clear n0_; (try clear hb); (try clear hb2); (try clear hk); (try clear hi)) | ((with_reducible refine gate_callee (f := 27) rfl ?_); refine goesL_ (some 28) rfl rfl Try.func27 (by kernel_rfl) rfl #[.int .i64 1000] rfl (by (try simp only [List.map_toArray, List.map_cons, List.map_nil]); first | done | rfl | (simp only [List.length_drop, List.length_take]; rfl)) ?_; (with_reducible refine (galoislaw01_nat.calls k 1000 t389 _ A7.out).mono ?_); rintro e w23 ⟨rfl, hb⟩; refine ⟨_, rfl, ?_⟩; have n0_ := Aside0.mk (below_step (by repeat (first | (with_reducible first | exact HB.out | apply below_alloc | apply pw_below_drewN | apply below_drew1) | exact HB.out)) hb); clear HB; have HB := n0_; clear n0_; (try clear hb); (try clear hb2); (try clear hk); (try clear hi)) | ((with_reducible refine gate_callee (f := 21) rfl ?_); refine goesL_ (some 29) rfl rfl Try.func21 (by kernel_rfl) rfl #[.string t389, .int .i64 3] rfl (by (try simp only [List.map_toArray, List.map_cons, List.map_nil]); first | done | rfl | (simp only [List.length_drop, List.length_take]; rfl)) ?_; (with_reducible refine (natural_Root.calls k t389 3 t399 t400 _ A8.out).mono ?_); rintro e w24 ⟨rfl, hb⟩; refine ⟨_, rfl, ?_⟩; have n0_ := Aside0.mk (below_step (by repeat (first | (with_reducible first | exact HB.out | apply below_alloc | apply pw_below_drewN | apply below_drew1) | exact HB.out)) hb); clear HB; have HB := n0_; clear n0_; (try clear hb); (try clear hb2); (try clear hk); (try clear hi)) | ((with_reducible refine gate_callee (f := 27) rfl ?_); refine goesL_ (some 33) rfl rfl Try.func27 (by kernel_rfl) rfl #[.int .i64 999] rfl (by (try simp only [List.map_toArray, List.map_cons, List.map_nil]); first | done | rfl | (simp only [List.length_drop, List.length_take]; rfl)) ?_; (with_reducible refine (galoislaw01_nat.calls k 999 t401 _ A9.out).mono ?_); rintro e w25 ⟨rfl, hb⟩; refine ⟨_, rfl, ?_⟩; have n0_ := Aside0.mk (below_step (by repeat (first | (with_reducible first | exact HB.out | apply below_alloc | apply pw_below_drewN | apply below_drew1) | exact HB.out)) hb); clear HB; have HB := n0_; clear n0_; (try clear hb); (try clear hb2); (try clear hk); (try clear hi)) | ((with_reducible refine gate_callee (f := 21) rfl ?_); refine goesL_ (some 34) rfl rfl Try.func21 (by kernel_rfl) rfl #[.string t401, .int .i64 3] rfl (by (try simp only [List.map_toArray, List.map_cons, List.map_nil]); first | done | rfl | (simp only [List.length_drop, List.length_take]; rfl)) ?_; (with_reducible refine (natural_Root.calls k t401 3 t402 t403 _ A10.out).mono ?_); rintro e w26 ⟨rfl, hb⟩; refine ⟨_, rfl, ?_⟩; have n0_ := Aside0.mk (below_step (by repeat (first | (with_reducible first | exact HB.out | apply below_alloc | apply pw_below_drewN | apply below_drew1) | exact HB.out)) hb); clear HB; have HB := n0_; clear n0_; (try clear hb); (try clear hb2); (try clear hk); (try clear hi)) | ((with_reducible refine gate_callee (f := 27) rfl ?_); refine goesL_ (some 38) rfl rfl Try.func27 (by kernel_rfl) rfl #[.int .i64 2] rfl (by (try simp only [List.map_toArray, List.map_cons, List.map_nil]); first | done | rfl | (simp only [List.length_drop, List.length_take]; rfl)) ?_; (with_reducible refine (galoislaw01_nat.calls k 2 t404 _ A11.out).mono ?_); rintro e w27 ⟨rfl, hb⟩; refine ⟨_, rfl, ?_⟩; have n0_ := Aside0.mk (below_step (by repeat (first | (with_reducible first | exact HB.out | apply below_alloc | apply pw_below_drewN | apply below_drew1) | exact HB.out)) hb); clear HB; have HB := n0_; clear n0_; (try clear hb); (try clear hb2); (try clear hk); (try clear hi)) | ((with_reducible refine gate_callee (f := 20) rfl ?_); refine goesL_ (some 39) rfl rfl Try.func20 (by kernel_rfl) rfl #[.string t404, .int .i64 10] rfl (by (try simp only [List.map_toArray, List.map_cons, List.map_nil]); first | done | rfl | (simp only [List.length_drop, List.length_take]; rfl)) ?_; (with_reducible refine (natural_Pow.calls k t404 10 t405 t406 _ A12.out).mono ?_); rintro e w28 ⟨rfl, hb⟩; refine ⟨_, rfl, ?_⟩; have n0_ := Aside0.mk (below_step (by repeat (first | (with_reducible first | exact HB.out | apply below_alloc | apply pw_below_drewN | apply below_drew1) | exact HB.out)) hb); clear HB; have HB := n0_; clear n0_; (try clear hb); (try clear hb2); (try clear hk); (try clear hi)) | ((with_reducible refine gate_callee (f := 27) rfl ?_); refine goesL_ (some 43) rfl rfl Try.func27 (by kernel_rfl) rfl #[.int .i64 3] rfl (by (try simp only [List.map_toArray, List.map_cons, List.map_nil]); first | done | rfl | (simp only [List.length_drop, List.length_take]; rfl)) ?_; (with_reducible refine (galoislaw01_nat.calls k 3 t407 _ A13.out).mono ?_); rintro e w29 ⟨rfl, hb⟩; refine ⟨_, rfl, ?_⟩; have n0_ := Aside0.mk (below_step (by repeat (first | (with_reducible first | exact HB.out | apply below_alloc | apply pw_below_drewN | apply below_drew1) | exact HB.out)) hb); clear HB; have HB := n0_; clear n0_; (try clear hb); (try clear hb2); (try clear hk); (try clear hi)) | ((with_reducible refine gate_callee (f := 27) rfl ?_); refine goesL_ (some 44) rfl rfl Try.func27 (by kernel_rfl) rfl #[.int .i64 5] rfl (by (try simp only [List.map_toArray, List.map_cons, List.map_nil]); first | done | rfl | (simp only [List.length_drop, List.length_take]; rfl)) ?_; (with_reducible refine (galoislaw01_nat.calls k 5 t408 _ A14.out).mono ?_); rintro e w30 ⟨rfl, hb⟩; refine ⟨_, rfl, ?_⟩; have n0_ := Aside0.mk (below_step (by repeat (first | (with_reducible first | exact HB.out | apply below_alloc | apply pw_below_drewN | apply below_drew1) | exact HB.out)) hb); clear HB; have HB := n0_; clear n0_; (try clear hb); (try clear hb2); (try clear hk); (try clear hi)) | ((with_reducible refine gate_callee (f := 37) rfl ?_); refine goesL_ (some 45) rfl rfl Try.func37 (by kernel_rfl) rfl #[.string t407, .string t408] rfl (by (try simp only [List.map_toArray, List.map_cons, List.map_nil]); first | done | rfl | (simp only [List.length_drop, List.length_take]; rfl)) ?_; (with_reducible refine (natural_Sub.calls k t407 t408 t409 t410 _ A15.out).mono ?_); rintro e w31 ⟨rfl, hb⟩; refine ⟨_, rfl, ?_⟩; have n0_ := Aside0.mk (below_step (by repeat (first | (with_reducible first | exact HB.out | apply below_alloc | apply pw_below_drewN | apply below_drew1) | exact HB.out)) hb); clear HB; have HB := n0_; clear n0_; (try clear hb); (try clear hb2); (try clear hk); (try clear hi)))
 (try simp only [Act.put, List.setIfInBounds_toArray, List.set_cons_zero, List.set_cons_succ])
 go_cut [69] (fun v69 wc => ∃ (kq : Nat) (x69_15 : Bool), v69 = .bool x69_15 ∧ Aside0 (galoislaw01_awake.j0 kq t391 t392 t396 t399 t402 t405 x69_15 = some r) ∧ Aside0 (kq ≤ k) ∧ Aside0 (Below w.heap.size w wc))
 case first =>
  have H := HC16.out
  clear HC16
  by_cases c32 : t393 = 0
  ·rw [if_pos c32] at H
   have c32b0 : (t393 == 0) = true := beq_iff_eq.mpr c32
   have c32b1 : (t393 != 0) = false := bne_eq_false_iff_eq.mpr c32
   clear c32
   (first | rw [c32b0] | rw [c32b1] | (simp only [i64_w, i32_w]; rw [c32b0]) | skip)
   by_cases c33 : t397 = 0
   ·rw [if_pos c33] at H
    have c33b0 : (t397 == 0) = true := beq_iff_eq.mpr c33
    have c33b1 : (t397 != 0) = false := bne_eq_false_iff_eq.mpr c33
    clear c33
    by_cases c34 : t400 = 0
    ·rw [if_pos c34] at H
     have c34b0 : (t400 == 0) = true := beq_iff_eq.mpr c34
     have c34b1 : (t400 != 0) = false := bne_eq_false_iff_eq.mpr c34
     clear c34
     by_cases c35 : t403 = 0
     ·rw [if_pos c35] at H
      have c35b0 : (t403 == 0) = true := beq_iff_eq.mpr c35
      have c35b1 : (t403 != 0) = false := bne_eq_false_iff_eq.mpr c35
      clear c35
      by_cases c36 : t406 = 0
      ·rw [if_pos c36] at H
       have c36b0 : (t406 == 0) = true := beq_iff_eq.mpr c36
       have c36b1 : (t406 != 0) = false := bne_eq_false_iff_eq.mpr c36
       clear c36
       have H' := Aside0.mk H
       clear H
       go_wp2
       go_meet
       case rel => exact ⟨_, ((t410 != 3)), (by first | rfl | (simp; done) | (simp [*]; done)), H', ⟨by first | omega | exact Nat.le_refl _⟩, ⟨by repeat (first | (with_reducible first | exact HB.out | apply below_alloc | apply pw_below_drewN | apply below_drew1) | exact HB.out)⟩⟩
      ·rw [if_neg c36] at H
       have c36b0 : (t406 == 0) = false := beq_eq_false_iff_ne.mpr c36
       have c36b1 : (t406 != 0) = true := bne_iff_ne.mpr c36
       have H' := Aside0.mk H
       clear H
       go_wp2
       go_meet
       case rel => exact ⟨_, (true), (by first | rfl | (simp; done) | (simp [*]; done)), H', ⟨by first | omega | exact Nat.le_refl _⟩, ⟨by repeat (first | (with_reducible first | exact HB.out | apply below_alloc | apply pw_below_drewN | apply below_drew1) | exact HB.out)⟩⟩
     ·rw [if_neg c35] at H
      have c35b0 : (t403 == 0) = false := beq_eq_false_iff_ne.mpr c35
      have c35b1 : (t403 != 0) = true := bne_iff_ne.mpr c35
      have H' := Aside0.mk H
      clear H
      go_wp2
      go_meet
      case rel => exact ⟨_, (true), (by first | rfl | (simp; done) | (simp [*]; done)), H', ⟨by first | omega | exact Nat.le_refl _⟩, ⟨by repeat (first | (with_reducible first | exact HB.out | apply below_alloc | apply pw_below_drewN | apply below_drew1) | exact HB.out)⟩⟩
    ·rw [if_neg c34] at H
     have c34b0 : (t400 == 0) = false := beq_eq_false_iff_ne.mpr c34
     have c34b1 : (t400 != 0) = true := bne_iff_ne.mpr c34
     have H' := Aside0.mk H
     clear H
     go_wp2
     go_meet
     case rel => exact ⟨_, (true), (by first | rfl | (simp; done) | (simp [*]; done)), H', ⟨by first | omega | exact Nat.le_refl _⟩, ⟨by repeat (first | (with_reducible first | exact HB.out | apply below_alloc | apply pw_below_drewN | apply below_drew1) | exact HB.out)⟩⟩
   ·rw [if_neg c33] at H
    have c33b0 : (t397 == 0) = false := beq_eq_false_iff_ne.mpr c33
    have c33b1 : (t397 != 0) = true := bne_iff_ne.mpr c33
    have H' := Aside0.mk H
    clear H
    go_wp2
    go_meet
    case rel => exact ⟨_, (true), (by first | rfl | (simp; done) | (simp [*]; done)), H', ⟨by first | omega | exact Nat.le_refl _⟩, ⟨by repeat (first | (with_reducible first | exact HB.out | apply below_alloc | apply pw_below_drewN | apply below_drew1) | exact HB.out)⟩⟩
  ·rw [if_neg c32] at H
   have c32b0 : (t393 == 0) = false := beq_eq_false_iff_ne.mpr c32
   have c32b1 : (t393 != 0) = true := bne_iff_ne.mpr c32
   (first | rw [c32b0] | rw [c32b1] | (simp only [i64_w, i32_w]; rw [c32b0]) | skip)
   have H' := Aside0.mk H
   clear H
   go_wp2
   go_meet
   case rel => exact ⟨_, (true), (by first | rfl | (simp; done) | (simp [*]; done)), H', ⟨by first | omega | exact Nat.le_refl _⟩, ⟨by repeat (first | (with_reducible first | exact HB.out | apply below_alloc | apply pw_below_drewN | apply below_drew1) | exact HB.out)⟩⟩
 case rest =>
  clear HC16
  try clear c1
  try clear c2
  try clear p2
  try clear c3
  try clear c12
  try clear c14
  try clear c15
  try clear c20
  try clear c21
  try clear c27
  try clear c32
  try clear c32b0
  try clear c32b1
  try clear c33
  try clear c33b0
  try clear c33b1
  try clear c34
  try clear c34b0
  try clear c34b1
  try clear c35
  try clear c35b0
  try clear c35b1
  try clear c36
  try clear c36b0
  try clear c36b1
  obtain ⟨kq, x69_15, rfl, HA, HJ15, HB⟩ := hcut
  cases kq with
  | zero => exact absurd HA.out (by simp [galoislaw01_awake.j0])
  | succ kj15 =>
   have H := HA.out
   clear HA
   simp only [galoislaw01_awake.j0] at H
   by_cases c37 : x69_15 = true
   ·subst c37
    have H1 : (some false) = some r := by rw [if_pos rfl] at H; exact H
    clear H
    have H := H1
    clear H1
    obtain rfl := Option.some.inj H
    go_wp2
    go_ret
    exact ⟨by first | rfl | (simp [errW_none, errW_some] <;> rfl) | (simp [*, errW_none, errW_some] <;> rfl), by repeat (first | (with_reducible first | exact HB.out | apply below_alloc | apply pw_below_drewN | apply below_drew1) | exact HB.out)⟩
   ·replace c37 := Bool.eq_false_iff.mpr c37
    subst c37
    have H1 : ((galoislaw01_nat.f kj15 142).bind fun t411 => (if t391.toList = t411.toList then ((galoislaw01_nat.f kj15 6).bind fun t412 => (if t392.toList = t412.toList then ((galoislaw01_nat.f kj15 6).bind fun t413 => (if t396.toList = t413.toList then ((galoislaw01_nat.f kj15 10).bind fun t414 => (if t399.toList = t414.toList then ((galoislaw01_nat.f kj15 9).bind fun t415 => (if t402.toList = t415.toList then (if t405.toList = ([4, 0] : List UInt8) then ((natural_Of.f 256).bind fun t416 => (some (t416.toList == ([1, 0] : List UInt8)))) else (some false)) else (some false))) else (some false))) else (some false))) else (some false))) else (some false))) = some r := by rw [if_neg (show ¬ (false = true) by decide)] at H; exact H
    clear H
    have H := H1
    clear H1
    replace H := Option.bind_eq_some_iff.mp H
    obtain ⟨t411, A380, H⟩ := H
    replace H : (if t391.toList = t411.toList then ((galoislaw01_nat.f kj15 6).bind fun t412 => (if t392.toList = t412.toList then ((galoislaw01_nat.f kj15 6).bind fun t413 => (if t396.toList = t413.toList then ((galoislaw01_nat.f kj15 10).bind fun t414 => (if t399.toList = t414.toList then ((galoislaw01_nat.f kj15 9).bind fun t415 => (if t402.toList = t415.toList then (if t405.toList = ([4, 0] : List UInt8) then ((natural_Of.f 256).bind fun t416 => (some (t416.toList == ([1, 0] : List UInt8)))) else (some false)) else (some false))) else (some false))) else (some false))) else (some false))) else (some false)) = some r := H
    have A38 := Aside0.mk A380
    clear A380
    by_cases c39 : t391.toList = t411.toList
    ·rw [if_pos c39] at H
     have c39b0 : (t391.toList == t411.toList) = true := beq_iff_eq.mpr c39
     have c39b1 : (t391.toList != t411.toList) = false := bne_eq_false_iff_eq.mpr c39
     clear c39
     replace H := Option.bind_eq_some_iff.mp H
     obtain ⟨t412, A400, H⟩ := H
     replace H : (if t392.toList = t412.toList then ((galoislaw01_nat.f kj15 6).bind fun t413 => (if t396.toList = t413.toList then ((galoislaw01_nat.f kj15 10).bind fun t414 => (if t399.toList = t414.toList then ((galoislaw01_nat.f kj15 9).bind fun t415 => (if t402.toList = t415.toList then (if t405.toList = ([4, 0] : List UInt8) then ((natural_Of.f 256).bind fun t416 => (some (t416.toList == ([1, 0] : List UInt8)))) else (some false)) else (some false))) else (some false))) else (some false))) else (some false)) = some r := H
     have A40 := Aside0.mk A400
     clear A400
     by_cases c41 : t392.toList = t412.toList
     ·rw [if_pos c41] at H
      have c41b0 : (t392.toList == t412.toList) = true := beq_iff_eq.mpr c41
      have c41b1 : (t392.toList != t412.toList) = false := bne_eq_false_iff_eq.mpr c41
      clear c41
      replace H := Option.bind_eq_some_iff.mp H
      obtain ⟨t413, A420, H⟩ := H
      replace H : (if t396.toList = t413.toList then ((galoislaw01_nat.f kj15 10).bind fun t414 => (if t399.toList = t414.toList then ((galoislaw01_nat.f kj15 9).bind fun t415 => (if t402.toList = t415.toList then (if t405.toList = ([4, 0] : List UInt8) then ((natural_Of.f 256).bind fun t416 => (some (t416.toList == ([1, 0] : List UInt8)))) else (some false)) else (some false))) else (some false))) else (some false)) = some r := H
      have A42 := Aside0.mk A420
      clear A420
      obtain rfl : t412 = t413 := Option.some.inj (A40.out.symm.trans A42.out)
      by_cases c43 : t396.toList = t412.toList
      ·rw [if_pos c43] at H
       have c43b0 : (t396.toList == t412.toList) = true := beq_iff_eq.mpr c43
       have c43b1 : (t396.toList != t412.toList) = false := bne_eq_false_iff_eq.mpr c43
       clear c43
       replace H := Option.bind_eq_some_iff.mp H
       obtain ⟨t414, A440, H⟩ := H
       replace H : (if t399.toList = t414.toList then ((galoislaw01_nat.f kj15 9).bind fun t415 => (if t402.toList = t415.toList then (if t405.toList = ([4, 0] : List UInt8) then ((natural_Of.f 256).bind fun t416 => (some (t416.toList == ([1, 0] : List UInt8)))) else (some false)) else (some false))) else (some false)) = some r := H
       have A44 := Aside0.mk A440
       clear A440
       by_cases c45 : t399.toList = t414.toList
       ·rw [if_pos c45] at H
        have c45b0 : (t399.toList == t414.toList) = true := beq_iff_eq.mpr c45
        have c45b1 : (t399.toList != t414.toList) = false := bne_eq_false_iff_eq.mpr c45
        clear c45
        replace H := Option.bind_eq_some_iff.mp H
        obtain ⟨t415, A460, H⟩ := H
        replace H : (if t402.toList = t415.toList then (if t405.toList = ([4, 0] : List UInt8) then ((natural_Of.f 256).bind fun t416 => (some (t416.toList == ([1, 0] : List UInt8)))) else (some false)) else (some false)) = some r := H
        have A46 := Aside0.mk A460
        clear A460
        by_cases c47 : t402.toList = t415.toList
        ·rw [if_pos c47] at H
         have c47b0 : (t402.toList == t415.toList) = true := beq_iff_eq.mpr c47
         have c47b1 : (t402.toList != t415.toList) = false := bne_eq_false_iff_eq.mpr c47
         clear c47
         by_cases c48 : t405.toList = ([4, 0] : List UInt8)
         ·rw [if_pos c48] at H
          have c48b0 : (t405.toList == ([4, 0] : List UInt8)) = true := beq_iff_eq.mpr c48
          have c48b1 : (t405.toList != ([4, 0] : List UInt8)) = false := bne_eq_false_iff_eq.mpr c48
          clear c48
          replace H := Option.bind_eq_some_iff.mp H
          obtain ⟨t416, A490, H⟩ := H
          replace H : (some (t416.toList == ([1, 0] : List UInt8))) = some r := H
          have A49 := Aside0.mk A490
          clear A490
          obtain rfl := Option.some.inj H
          go_wp2_with (first | ((with_reducible refine gate_callee (f := 27) rfl ?_); refine goesL_ (some 71) rfl rfl Try.func27 (by kernel_rfl) rfl #[.int .i64 142] rfl (by (try simp only [List.map_toArray, List.map_cons, List.map_nil]); first | done | rfl | (simp only [List.length_drop, List.length_take]; rfl)) ?_; (with_reducible refine (galoislaw01_nat.calls kj15 142 t411 _ A38.out).mono ?_); rintro e w50 ⟨rfl, hb⟩; refine ⟨_, rfl, ?_⟩; have n0_ := Aside0.mk (below_step (by repeat (first | (with_reducible first | exact HB.out | apply below_alloc | apply pw_below_drewN | apply below_drew1) | exact HB.out)) hb); clear HB; have HB := n0_; clear n0_; (try clear hb); (try clear hb2); (try clear hk); (try clear hi)) | (go_at_call 27; (with_reducible refine (galoislaw01_nat.calls kj15 6 t412 _ A40.out).mono ?_); rintro e w51 ⟨rfl, hb⟩; have n0_ := Aside0.mk (below_step (by repeat (first | (with_reducible first | exact HB.out | apply below_alloc | apply pw_below_drewN | apply below_drew1) | exact HB.out)) hb); clear HB; have HB := n0_; clear n0_; (try clear hb); (try clear hb2); (try clear hk); (try clear hi)) | (go_at_call 27; (with_reducible refine (galoislaw01_nat.calls kj15 6 t412 _ A42.out).mono ?_); rintro e w52 ⟨rfl, hb⟩; have n0_ := Aside0.mk (below_step (by repeat (first | (with_reducible first | exact HB.out | apply below_alloc | apply pw_below_drewN | apply below_drew1) | exact HB.out)) hb); clear HB; have HB := n0_; clear n0_; (try clear hb); (try clear hb2); (try clear hk); (try clear hi)) | (go_at_call 27; (with_reducible refine (galoislaw01_nat.calls kj15 10 t414 _ A44.out).mono ?_); rintro e w53 ⟨rfl, hb⟩; have n0_ := Aside0.mk (below_step (by repeat (first | (with_reducible first | exact HB.out | apply below_alloc | apply pw_below_drewN | apply below_drew1) | exact HB.out)) hb); clear HB; have HB := n0_; clear n0_; (try clear hb); (try clear hb2); (try clear hk); (try clear hi)) | (go_at_call 27; (with_reducible refine (galoislaw01_nat.calls kj15 9 t415 _ A46.out).mono ?_); rintro e w54 ⟨rfl, hb⟩; have n0_ := Aside0.mk (below_step (by repeat (first | (with_reducible first | exact HB.out | apply below_alloc | apply pw_below_drewN | apply below_drew1) | exact HB.out)) hb); clear HB; have HB := n0_; clear n0_; (try clear hb); (try clear hb2); (try clear hk); (try clear hi)) | (go_at_call 30; (with_reducible refine (natural_Of.calls 256 t416 _ A49.out).mono ?_); rintro e w55 ⟨rfl, hb⟩; have n0_ := Aside0.mk (below_step (by repeat (first | (with_reducible first | exact HB.out | apply below_alloc | apply pw_below_drewN | apply below_drew1) | exact HB.out)) hb); clear HB; have HB := n0_; clear n0_; (try clear hb); (try clear hb2); (try clear hk); (try clear hi)))
          go_ret
          exact ⟨by first | rfl | (simp [errW_none, errW_some] <;> rfl) | (simp [*, errW_none, errW_some] <;> rfl), by repeat (first | (with_reducible first | exact HB.out | apply below_alloc | apply pw_below_drewN | apply below_drew1) | exact HB.out)⟩
         ·rw [if_neg c48] at H
          have c48b0 : (t405.toList == ([4, 0] : List UInt8)) = false := beq_eq_false_iff_ne.mpr c48
          have c48b1 : (t405.toList != ([4, 0] : List UInt8)) = true := bne_iff_ne.mpr c48
          obtain rfl := Option.some.inj H
          go_wp2_with (first | ((with_reducible refine gate_callee (f := 27) rfl ?_); refine goesL_ (some 71) rfl rfl Try.func27 (by kernel_rfl) rfl #[.int .i64 142] rfl (by (try simp only [List.map_toArray, List.map_cons, List.map_nil]); first | done | rfl | (simp only [List.length_drop, List.length_take]; rfl)) ?_; (with_reducible refine (galoislaw01_nat.calls kj15 142 t411 _ A38.out).mono ?_); rintro e w56 ⟨rfl, hb⟩; refine ⟨_, rfl, ?_⟩; have n0_ := Aside0.mk (below_step (by repeat (first | (with_reducible first | exact HB.out | apply below_alloc | apply pw_below_drewN | apply below_drew1) | exact HB.out)) hb); clear HB; have HB := n0_; clear n0_; (try clear hb); (try clear hb2); (try clear hk); (try clear hi)) | (go_at_call 27; (with_reducible refine (galoislaw01_nat.calls kj15 6 t412 _ A40.out).mono ?_); rintro e w57 ⟨rfl, hb⟩; have n0_ := Aside0.mk (below_step (by repeat (first | (with_reducible first | exact HB.out | apply below_alloc | apply pw_below_drewN | apply below_drew1) | exact HB.out)) hb); clear HB; have HB := n0_; clear n0_; (try clear hb); (try clear hb2); (try clear hk); (try clear hi)) | (go_at_call 27; (with_reducible refine (galoislaw01_nat.calls kj15 6 t412 _ A42.out).mono ?_); rintro e w58 ⟨rfl, hb⟩; have n0_ := Aside0.mk (below_step (by repeat (first | (with_reducible first | exact HB.out | apply below_alloc | apply pw_below_drewN | apply below_drew1) | exact HB.out)) hb); clear HB; have HB := n0_; clear n0_; (try clear hb); (try clear hb2); (try clear hk); (try clear hi)) | (go_at_call 27; (with_reducible refine (galoislaw01_nat.calls kj15 10 t414 _ A44.out).mono ?_); rintro e w59 ⟨rfl, hb⟩; have n0_ := Aside0.mk (below_step (by repeat (first | (with_reducible first | exact HB.out | apply below_alloc | apply pw_below_drewN | apply below_drew1) | exact HB.out)) hb); clear HB; have HB := n0_; clear n0_; (try clear hb); (try clear hb2); (try clear hk); (try clear hi)) | (go_at_call 27; (with_reducible refine (galoislaw01_nat.calls kj15 9 t415 _ A46.out).mono ?_); rintro e w60 ⟨rfl, hb⟩; have n0_ := Aside0.mk (below_step (by repeat (first | (with_reducible first | exact HB.out | apply below_alloc | apply pw_below_drewN | apply below_drew1) | exact HB.out)) hb); clear HB; have HB := n0_; clear n0_; (try clear hb); (try clear hb2); (try clear hk); (try clear hi)))
          go_ret
          exact ⟨by first | rfl | (simp [errW_none, errW_some] <;> rfl) | (simp [*, errW_none, errW_some] <;> rfl), by repeat (first | (with_reducible first | exact HB.out | apply below_alloc | apply pw_below_drewN | apply below_drew1) | exact HB.out)⟩
        ·rw [if_neg c47] at H
         have c47b0 : (t402.toList == t415.toList) = false := beq_eq_false_iff_ne.mpr c47
         have c47b1 : (t402.toList != t415.toList) = true := bne_iff_ne.mpr c47
         obtain rfl := Option.some.inj H
         go_wp2_with (first | ((with_reducible refine gate_callee (f := 27) rfl ?_); refine goesL_ (some 71) rfl rfl Try.func27 (by kernel_rfl) rfl #[.int .i64 142] rfl (by (try simp only [List.map_toArray, List.map_cons, List.map_nil]); first | done | rfl | (simp only [List.length_drop, List.length_take]; rfl)) ?_; (with_reducible refine (galoislaw01_nat.calls kj15 142 t411 _ A38.out).mono ?_); rintro e w61 ⟨rfl, hb⟩; refine ⟨_, rfl, ?_⟩; have n0_ := Aside0.mk (below_step (by repeat (first | (with_reducible first | exact HB.out | apply below_alloc | apply pw_below_drewN | apply below_drew1) | exact HB.out)) hb); clear HB; have HB := n0_; clear n0_; (try clear hb); (try clear hb2); (try clear hk); (try clear hi)) | (go_at_call 27; (with_reducible refine (galoislaw01_nat.calls kj15 6 t412 _ A40.out).mono ?_); rintro e w62 ⟨rfl, hb⟩; have n0_ := Aside0.mk (below_step (by repeat (first | (with_reducible first | exact HB.out | apply below_alloc | apply pw_below_drewN | apply below_drew1) | exact HB.out)) hb); clear HB; have HB := n0_; clear n0_; (try clear hb); (try clear hb2); (try clear hk); (try clear hi)) | (go_at_call 27; (with_reducible refine (galoislaw01_nat.calls kj15 6 t412 _ A42.out).mono ?_); rintro e w63 ⟨rfl, hb⟩; have n0_ := Aside0.mk (below_step (by repeat (first | (with_reducible first | exact HB.out | apply below_alloc | apply pw_below_drewN | apply below_drew1) | exact HB.out)) hb); clear HB; have HB := n0_; clear n0_; (try clear hb); (try clear hb2); (try clear hk); (try clear hi)) | (go_at_call 27; (with_reducible refine (galoislaw01_nat.calls kj15 10 t414 _ A44.out).mono ?_); rintro e w64 ⟨rfl, hb⟩; have n0_ := Aside0.mk (below_step (by repeat (first | (with_reducible first | exact HB.out | apply below_alloc | apply pw_below_drewN | apply below_drew1) | exact HB.out)) hb); clear HB; have HB := n0_; clear n0_; (try clear hb); (try clear hb2); (try clear hk); (try clear hi)) | (go_at_call 27; (with_reducible refine (galoislaw01_nat.calls kj15 9 t415 _ A46.out).mono ?_); rintro e w65 ⟨rfl, hb⟩; have n0_ := Aside0.mk (below_step (by repeat (first | (with_reducible first | exact HB.out | apply below_alloc | apply pw_below_drewN | apply below_drew1) | exact HB.out)) hb); clear HB; have HB := n0_; clear n0_; (try clear hb); (try clear hb2); (try clear hk); (try clear hi)))
         go_ret
         exact ⟨by first | rfl | (simp [errW_none, errW_some] <;> rfl) | (simp [*, errW_none, errW_some] <;> rfl), by repeat (first | (with_reducible first | exact HB.out | apply below_alloc | apply pw_below_drewN | apply below_drew1) | exact HB.out)⟩
       ·rw [if_neg c45] at H
        have c45b0 : (t399.toList == t414.toList) = false := beq_eq_false_iff_ne.mpr c45
        have c45b1 : (t399.toList != t414.toList) = true := bne_iff_ne.mpr c45
        obtain rfl := Option.some.inj H
        go_wp2_with (first | ((with_reducible refine gate_callee (f := 27) rfl ?_); refine goesL_ (some 71) rfl rfl Try.func27 (by kernel_rfl) rfl #[.int .i64 142] rfl (by (try simp only [List.map_toArray, List.map_cons, List.map_nil]); first | done | rfl | (simp only [List.length_drop, List.length_take]; rfl)) ?_; (with_reducible refine (galoislaw01_nat.calls kj15 142 t411 _ A38.out).mono ?_); rintro e w66 ⟨rfl, hb⟩; refine ⟨_, rfl, ?_⟩; have n0_ := Aside0.mk (below_step (by repeat (first | (with_reducible first | exact HB.out | apply below_alloc | apply pw_below_drewN | apply below_drew1) | exact HB.out)) hb); clear HB; have HB := n0_; clear n0_; (try clear hb); (try clear hb2); (try clear hk); (try clear hi)) | (go_at_call 27; (with_reducible refine (galoislaw01_nat.calls kj15 6 t412 _ A40.out).mono ?_); rintro e w67 ⟨rfl, hb⟩; have n0_ := Aside0.mk (below_step (by repeat (first | (with_reducible first | exact HB.out | apply below_alloc | apply pw_below_drewN | apply below_drew1) | exact HB.out)) hb); clear HB; have HB := n0_; clear n0_; (try clear hb); (try clear hb2); (try clear hk); (try clear hi)) | (go_at_call 27; (with_reducible refine (galoislaw01_nat.calls kj15 6 t412 _ A42.out).mono ?_); rintro e w68 ⟨rfl, hb⟩; have n0_ := Aside0.mk (below_step (by repeat (first | (with_reducible first | exact HB.out | apply below_alloc | apply pw_below_drewN | apply below_drew1) | exact HB.out)) hb); clear HB; have HB := n0_; clear n0_; (try clear hb); (try clear hb2); (try clear hk); (try clear hi)) | (go_at_call 27; (with_reducible refine (galoislaw01_nat.calls kj15 10 t414 _ A44.out).mono ?_); rintro e w69 ⟨rfl, hb⟩; have n0_ := Aside0.mk (below_step (by repeat (first | (with_reducible first | exact HB.out | apply below_alloc | apply pw_below_drewN | apply below_drew1) | exact HB.out)) hb); clear HB; have HB := n0_; clear n0_; (try clear hb); (try clear hb2); (try clear hk); (try clear hi)))
        go_ret
        exact ⟨by first | rfl | (simp [errW_none, errW_some] <;> rfl) | (simp [*, errW_none, errW_some] <;> rfl), by repeat (first | (with_reducible first | exact HB.out | apply below_alloc | apply pw_below_drewN | apply below_drew1) | exact HB.out)⟩
      ·rw [if_neg c43] at H
       have c43b0 : (t396.toList == t412.toList) = false := beq_eq_false_iff_ne.mpr c43
       have c43b1 : (t396.toList != t412.toList) = true := bne_iff_ne.mpr c43
       obtain rfl := Option.some.inj H
       go_wp2_with (first | ((with_reducible refine gate_callee (f := 27) rfl ?_); refine goesL_ (some 71) rfl rfl Try.func27 (by kernel_rfl) rfl #[.int .i64 142] rfl (by (try simp only [List.map_toArray, List.map_cons, List.map_nil]); first | done | rfl | (simp only [List.length_drop, List.length_take]; rfl)) ?_; (with_reducible refine (galoislaw01_nat.calls kj15 142 t411 _ A38.out).mono ?_); rintro e w70 ⟨rfl, hb⟩; refine ⟨_, rfl, ?_⟩; have n0_ := Aside0.mk (below_step (by repeat (first | (with_reducible first | exact HB.out | apply below_alloc | apply pw_below_drewN | apply below_drew1) | exact HB.out)) hb); clear HB; have HB := n0_; clear n0_; (try clear hb); (try clear hb2); (try clear hk); (try clear hi)) | (go_at_call 27; (with_reducible refine (galoislaw01_nat.calls kj15 6 t412 _ A40.out).mono ?_); rintro e w71 ⟨rfl, hb⟩; have n0_ := Aside0.mk (below_step (by repeat (first | (with_reducible first | exact HB.out | apply below_alloc | apply pw_below_drewN | apply below_drew1) | exact HB.out)) hb); clear HB; have HB := n0_; clear n0_; (try clear hb); (try clear hb2); (try clear hk); (try clear hi)) | (go_at_call 27; (with_reducible refine (galoislaw01_nat.calls kj15 6 t412 _ A42.out).mono ?_); rintro e w72 ⟨rfl, hb⟩; have n0_ := Aside0.mk (below_step (by repeat (first | (with_reducible first | exact HB.out | apply below_alloc | apply pw_below_drewN | apply below_drew1) | exact HB.out)) hb); clear HB; have HB := n0_; clear n0_; (try clear hb); (try clear hb2); (try clear hk); (try clear hi)))
       go_ret
       exact ⟨by first | rfl | (simp [errW_none, errW_some] <;> rfl) | (simp [*, errW_none, errW_some] <;> rfl), by repeat (first | (with_reducible first | exact HB.out | apply below_alloc | apply pw_below_drewN | apply below_drew1) | exact HB.out)⟩
     ·rw [if_neg c41] at H
      have c41b0 : (t392.toList == t412.toList) = false := beq_eq_false_iff_ne.mpr c41
      have c41b1 : (t392.toList != t412.toList) = true := bne_iff_ne.mpr c41
      obtain rfl := Option.some.inj H
      go_wp2_with (first | ((with_reducible refine gate_callee (f := 27) rfl ?_); refine goesL_ (some 71) rfl rfl Try.func27 (by kernel_rfl) rfl #[.int .i64 142] rfl (by (try simp only [List.map_toArray, List.map_cons, List.map_nil]); first | done | rfl | (simp only [List.length_drop, List.length_take]; rfl)) ?_; (with_reducible refine (galoislaw01_nat.calls kj15 142 t411 _ A38.out).mono ?_); rintro e w73 ⟨rfl, hb⟩; refine ⟨_, rfl, ?_⟩; have n0_ := Aside0.mk (below_step (by repeat (first | (with_reducible first | exact HB.out | apply below_alloc | apply pw_below_drewN | apply below_drew1) | exact HB.out)) hb); clear HB; have HB := n0_; clear n0_; (try clear hb); (try clear hb2); (try clear hk); (try clear hi)) | (go_at_call 27; (with_reducible refine (galoislaw01_nat.calls kj15 6 t412 _ A40.out).mono ?_); rintro e w74 ⟨rfl, hb⟩; have n0_ := Aside0.mk (below_step (by repeat (first | (with_reducible first | exact HB.out | apply below_alloc | apply pw_below_drewN | apply below_drew1) | exact HB.out)) hb); clear HB; have HB := n0_; clear n0_; (try clear hb); (try clear hb2); (try clear hk); (try clear hi)))
      go_ret
      exact ⟨by first | rfl | (simp [errW_none, errW_some] <;> rfl) | (simp [*, errW_none, errW_some] <;> rfl), by repeat (first | (with_reducible first | exact HB.out | apply below_alloc | apply pw_below_drewN | apply below_drew1) | exact HB.out)⟩
    ·rw [if_neg c39] at H
     have c39b0 : (t391.toList == t411.toList) = false := beq_eq_false_iff_ne.mpr c39
     have c39b1 : (t391.toList != t411.toList) = true := bne_iff_ne.mpr c39
     obtain rfl := Option.some.inj H
     go_wp2_with (first | ((with_reducible refine gate_callee (f := 27) rfl ?_); refine goesL_ (some 71) rfl rfl Try.func27 (by kernel_rfl) rfl #[.int .i64 142] rfl (by (try simp only [List.map_toArray, List.map_cons, List.map_nil]); first | done | rfl | (simp only [List.length_drop, List.length_take]; rfl)) ?_; (with_reducible refine (galoislaw01_nat.calls kj15 142 t411 _ A38.out).mono ?_); rintro e w75 ⟨rfl, hb⟩; refine ⟨_, rfl, ?_⟩; have n0_ := Aside0.mk (below_step (by repeat (first | (with_reducible first | exact HB.out | apply below_alloc | apply pw_below_drewN | apply below_drew1) | exact HB.out)) hb); clear HB; have HB := n0_; clear n0_; (try clear hb); (try clear hb2); (try clear hk); (try clear hi)))
     go_ret
     exact ⟨by first | rfl | (simp [errW_none, errW_some] <;> rfl) | (simp [*, errW_none, errW_some] <;> rfl), by repeat (first | (with_reducible first | exact HB.out | apply below_alloc | apply pw_below_drewN | apply below_drew1) | exact HB.out)⟩
def galoislaw01_long.f (a0 : ByteArray) (a1 : ByteArray) (a2 : Int) : Option (Bool) := if (a0.size : Int) > a2 then (some true) else (some (decide ((a1.size : Int) > a2)))
set_option maxHeartbeats 8000000 in
set_option maxRecDepth 100000 in
theorem galoislaw01_long.calls (a0 : ByteArray) (a1 : ByteArray) (a2 : Int) (r : Bool) (w : World) (h : galoislaw01_long.f a0 a1 a2 = some r) :
  Calls Try.prog 13 #[.string a0, .string a1, .int .i64 a2] w fun e w' => e = .returned (.bool r) ∧ Drawn0 w w' := by
 have H : (if (a0.size : Int) > a2 then (some true) else (some (decide ((a1.size : Int) > a2)))) = some r := h
 clear h
 by_cases c4 : (a0.size : Int) > a2
 ·rw [if_pos c4] at H
  have c4b0 : decide (a2 < (a0.size : Int)) = true := decide_eq_true c4
  clear c4
  obtain rfl := Option.some.inj H
  go_enter Try.func13, Try.ntmps13
  go_wp2
  go_ret
  exact ⟨by first | rfl | (simp; done) | (simp [*]; done), by repeat (first | exact Drawn0.refl _ | apply Drawn0.step)⟩
 ·rw [if_neg c4] at H
  have c4b0 : decide (a2 < (a0.size : Int)) = false := decide_eq_false c4
  clear c4
  obtain rfl := Option.some.inj H
  go_enter Try.func13, Try.ntmps13
  go_wp2
  go_ret
  exact ⟨by first | rfl | (simp; done) | (simp [*]; done), by repeat (first | exact Drawn0.refl _ | apply Drawn0.step)⟩
def galoisref01_Fits.f (a0 : ByteArray) : Option (Int) := if (a0.size : Int) > 1024 then (some 4) else (some 0)
set_option maxHeartbeats 8000000 in
set_option maxRecDepth 100000 in
theorem galoisref01_Fits.calls (a0 : ByteArray) (r : Int) (w : World) (h : galoisref01_Fits.f a0 = some r) :
  Calls Try.prog 50 #[.string a0] w fun e w' => e = .returned (.int .i64 r) ∧ Drawn0 w w' := by
 have H : (if (a0.size : Int) > 1024 then (some 4) else (some 0)) = some r := h
 clear h
 by_cases c2 : (a0.size : Int) > 1024
 ·rw [if_pos c2] at H
  have c2b0 : decide (1024 < (a0.size : Int)) = true := decide_eq_true c2
  have c2b1 : decide (1024 < a0.size) = true := decide_eq_true (by omega)
  clear c2
  obtain rfl := Option.some.inj H
  go_enter Try.func50, Try.ntmps50
  go_wp2
  go_ret
  exact ⟨by first | rfl | (simp; done) | (simp [*]; done), by repeat (first | exact Drawn0.refl _ | apply Drawn0.step)⟩
 ·rw [if_neg c2] at H
  have c2b0 : decide (1024 < (a0.size : Int)) = false := decide_eq_false c2
  have c2b1 : decide (1024 < a0.size) = false := decide_eq_false (by omega)
  clear c2
  obtain rfl := Option.some.inj H
  go_enter Try.func50, Try.ntmps50
  go_wp2
  go_ret
  exact ⟨by first | rfl | (simp; done) | (simp [*]; done), by repeat (first | exact Drawn0.refl _ | apply Drawn0.step)⟩
def galoisref01_Valid.f (a0 : ByteArray) : Option (Bool) := if a0.toList = ([] : List UInt8) then (some true) else (if 0 < (a0.size : Int) then (some ((bt a0 0) != 0)) else (none))
set_option maxHeartbeats 8000000 in
set_option maxRecDepth 100000 in
theorem galoisref01_Valid.calls (a0 : ByteArray) (r : Bool) (w : World) (h : galoisref01_Valid.f a0 = some r) :
  Calls Try.prog 58 #[.string a0] w fun e w' => e = .returned (.bool r) ∧ Drawn0 w w' := by
 have H : (if a0.toList = ([] : List UInt8) then (some true) else (if 0 < (a0.size : Int) then (some ((bt a0 0) != 0)) else (none))) = some r := h
 clear h
 by_cases c2 : a0.toList = ([] : List UInt8)
 ·rw [if_pos c2] at H
  have c2b0 : (a0.toList == ([] : List UInt8)) = true := beq_iff_eq.mpr c2
  have c2b1 : (a0.toList != ([] : List UInt8)) = false := bne_eq_false_iff_eq.mpr c2
  clear c2
  obtain rfl := Option.some.inj H
  go_enter Try.func58, Try.ntmps58
  go_wp2
  go_ret
  exact ⟨by first | rfl | (simp; done) | (simp [*]; done), by repeat (first | exact Drawn0.refl _ | apply Drawn0.step)⟩
 ·rw [if_neg c2] at H
  have c2b0 : (a0.toList == ([] : List UInt8)) = false := beq_eq_false_iff_ne.mpr c2
  have c2b1 : (a0.toList != ([] : List UInt8)) = true := bne_iff_ne.mpr c2
  by_cases c3 : 0 < (a0.size : Int)
  ·rw [if_pos c3] at H
   have c3b0 : decide (0 < (a0.size : Int)) = true := decide_eq_true c3
   have c3b1 : decide (0 < a0.size) = true := decide_eq_true (by omega)
   clear c3
   obtain rfl := Option.some.inj H
   have p4 : 0 ≤ (0 : Int) := (by omega)
   have q4 : 0 < a0.size := (by have : (0 : Int) < (a0.size : Int) := of_decide_eq_true (by first | (with_reducible assumption) | assumption); omega)
   have hx4 : ∀ h : 0 < a0.size, ((a0[0]'h).toNat : Int) = bt a0 0 := bt_at a0 0
   clear p4
   have qi4 : (0 < (a0.size : Int)) = True := eq_true (of_decide_eq_true (by first | (with_reducible assumption) | assumption))
   replace q4 := eq_true q4
   go_enter Try.func58, Try.ntmps58
   go_wp2
   go_ret
   exact ⟨by first | rfl | (simp; done) | (simp [*]; done), by repeat (first | exact Drawn0.refl _ | apply Drawn0.step)⟩
  ·rw [if_neg c3] at H
   exact absurd H (by simp)
def galoisref01_Check.f (a0 : ByteArray) : Option (Int) := (galoisref01_Valid.f a0).bind fun t417 => (if t417 = true then ((galoisref01_Fits.f a0).bind fun t418 => (some t418)) else (some 1))
set_option maxHeartbeats 8000000 in
set_option maxRecDepth 100000 in
theorem galoisref01_Check.calls (a0 : ByteArray) (r : Int) (w : World) (h : galoisref01_Check.f a0 = some r) :
  Calls Try.prog 24 #[.string a0] w fun e w' => e = .returned (.int .i64 r) ∧ Drawn0 w w' := by
 have H : ((galoisref01_Valid.f a0).bind fun t417 => (if t417 = true then ((galoisref01_Fits.f a0).bind fun t418 => (some t418)) else (some 1))) = some r := h
 clear h
 replace H := Option.bind_eq_some_iff.mp H
 obtain ⟨t417, A20, H⟩ := H
 replace H : (if t417 = true then ((galoisref01_Fits.f a0).bind fun t418 => (some t418)) else (some 1)) = some r := H
 have A2 := Aside0.mk A20
 clear A20
 by_cases c3 : t417 = true
 ·subst c3
  have H1 : ((galoisref01_Fits.f a0).bind fun t418 => (some t418)) = some r := by rw [if_pos rfl] at H; exact H
  clear H
  have H := H1
  clear H1
  replace H := Option.bind_eq_some_iff.mp H
  obtain ⟨t418, A40, H⟩ := H
  replace H : (some t418) = some r := H
  have A4 := Aside0.mk A40
  clear A40
  obtain rfl := Option.some.inj H
  go_enter Try.func24, Try.ntmps24
  go_wp2_with (first | ((with_reducible refine gate_callee (f := 58) rfl ?_); refine goesL_ (some 4) rfl rfl Try.func58 (by kernel_rfl) rfl #[.string a0] rfl (by (try simp only [List.map_toArray, List.map_cons, List.map_nil]); first | done | rfl | (simp only [List.length_drop, List.length_take]; rfl)) ?_; (with_reducible refine (galoisref01_Valid.calls a0 true _ A2.out).mono ?_); rintro e w' ⟨rfl, ⟨nd, rfl⟩⟩; refine ⟨_, rfl, ?_⟩) | ((with_reducible refine gate_callee (f := 50) rfl ?_); refine goesL_ (some 7) rfl rfl Try.func50 (by kernel_rfl) rfl #[.string a0] rfl (by (try simp only [List.map_toArray, List.map_cons, List.map_nil]); first | done | rfl | (simp only [List.length_drop, List.length_take]; rfl)) ?_; (with_reducible refine (galoisref01_Fits.calls a0 t418 _ A4.out).mono ?_); rintro e w' ⟨rfl, ⟨nd, rfl⟩⟩; refine ⟨_, rfl, ?_⟩))
  go_ret
  exact ⟨by first | rfl | (simp; done) | (simp [*]; done), by repeat (first | exact Drawn0.refl _ | apply Drawn0.step)⟩
 ·replace c3 := Bool.eq_false_iff.mpr c3
  subst c3
  have H1 : (some 1) = some r := by rw [if_neg (show ¬ (false = true) by decide)] at H; exact H
  clear H
  have H := H1
  clear H1
  obtain rfl := Option.some.inj H
  go_enter Try.func24, Try.ntmps24
  go_wp2_with (first | ((with_reducible refine gate_callee (f := 58) rfl ?_); refine goesL_ (some 4) rfl rfl Try.func58 (by kernel_rfl) rfl #[.string a0] rfl (by (try simp only [List.map_toArray, List.map_cons, List.map_nil]); first | done | rfl | (simp only [List.length_drop, List.length_take]; rfl)) ?_; (with_reducible refine (galoisref01_Valid.calls a0 false _ A2.out).mono ?_); rintro e w' ⟨rfl, ⟨nd, rfl⟩⟩; refine ⟨_, rfl, ?_⟩))
  go_ret
  exact ⟨by first | rfl | (simp; done) | (simp [*]; done), by repeat (first | exact Drawn0.refl _ | apply Drawn0.step)⟩
def galoislaw01_expected.f (a0 : ByteArray) (a1 : ByteArray) : Option (Int) := (galoisref01_Check.f a0).bind fun t419 => (if t419 = 0 then ((galoisref01_Check.f a1).bind fun t420 => (some t420)) else ((galoisref01_Check.f a0).bind fun t421 => (some t421)))
set_option maxHeartbeats 8000000 in
set_option maxRecDepth 100000 in
theorem galoislaw01_expected.calls (a0 : ByteArray) (a1 : ByteArray) (r : Int) (w : World) (h : galoislaw01_expected.f a0 a1 = some r) :
  Calls Try.prog 16 #[.string a0, .string a1] w fun e w' => e = .returned (.int .i64 r) ∧ Drawn0 w w' := by
 have H : ((galoisref01_Check.f a0).bind fun t419 => (if t419 = 0 then ((galoisref01_Check.f a1).bind fun t420 => (some t420)) else ((galoisref01_Check.f a0).bind fun t421 => (some t421)))) = some r := h
 clear h
 replace H := Option.bind_eq_some_iff.mp H
 obtain ⟨t419, A30, H⟩ := H
 replace H : (if t419 = 0 then ((galoisref01_Check.f a1).bind fun t420 => (some t420)) else ((galoisref01_Check.f a0).bind fun t421 => (some t421))) = some r := H
 have A3 := Aside0.mk A30
 clear A30
 by_cases c4 : t419 = 0
 ·rw [if_pos c4] at H
  have c4b0 : (t419 == 0) = true := beq_iff_eq.mpr c4
  have c4b1 : (t419 != 0) = false := bne_eq_false_iff_eq.mpr c4
  clear c4
  replace H := Option.bind_eq_some_iff.mp H
  obtain ⟨t420, A50, H⟩ := H
  replace H : (some t420) = some r := H
  have A5 := Aside0.mk A50
  clear A50
  obtain rfl := Option.some.inj H
  go_enter Try.func16, Try.ntmps16
  go_wp2_with (first | ((with_reducible refine gate_callee (f := 24) rfl ?_); refine goesL_ (some 6) rfl rfl Try.func24 (by kernel_rfl) rfl #[.string a0] rfl (by (try simp only [List.map_toArray, List.map_cons, List.map_nil]); first | done | rfl | (simp only [List.length_drop, List.length_take]; rfl)) ?_; (with_reducible refine (galoisref01_Check.calls a0 t419 _ A3.out).mono ?_); rintro e w' ⟨rfl, ⟨nd, rfl⟩⟩; refine ⟨_, rfl, ?_⟩) | ((with_reducible refine gate_callee (f := 24) rfl ?_); refine goesL_ (some 11) rfl rfl Try.func24 (by kernel_rfl) rfl #[.string a1] rfl (by (try simp only [List.map_toArray, List.map_cons, List.map_nil]); first | done | rfl | (simp only [List.length_drop, List.length_take]; rfl)) ?_; (with_reducible refine (galoisref01_Check.calls a1 t420 _ A5.out).mono ?_); rintro e w' ⟨rfl, ⟨nd, rfl⟩⟩; refine ⟨_, rfl, ?_⟩))
  go_ret
  exact ⟨by first | rfl | (simp; done) | (simp [*]; done), by repeat (first | exact Drawn0.refl _ | apply Drawn0.step)⟩
 ·rw [if_neg c4] at H
  have c4b0 : (t419 == 0) = false := beq_eq_false_iff_ne.mpr c4
  have c4b1 : (t419 != 0) = true := bne_iff_ne.mpr c4
  replace H := Option.bind_eq_some_iff.mp H
  obtain ⟨t421, A60, H⟩ := H
  replace H : (some t421) = some r := H
  have A6 := Aside0.mk A60
  clear A60
  obtain rfl : t419 = t421 := Option.some.inj (A3.out.symm.trans A6.out)
  obtain rfl := Option.some.inj H
  go_enter Try.func16, Try.ntmps16
  go_wp2_with (first | ((with_reducible refine gate_callee (f := 24) rfl ?_); refine goesL_ (some 6) rfl rfl Try.func24 (by kernel_rfl) rfl #[.string a0] rfl (by (try simp only [List.map_toArray, List.map_cons, List.map_nil]); first | done | rfl | (simp only [List.length_drop, List.length_take]; rfl)) ?_; (with_reducible refine (galoisref01_Check.calls a0 t419 _ A3.out).mono ?_); rintro e w' ⟨rfl, ⟨nd, rfl⟩⟩; refine ⟨_, rfl, ?_⟩) | ((with_reducible refine gate_callee (f := 24) rfl ?_); refine goesL_ (some 9) rfl rfl Try.func24 (by kernel_rfl) rfl #[.string a0] rfl (by (try simp only [List.map_toArray, List.map_cons, List.map_nil]); first | done | rfl | (simp only [List.length_drop, List.length_take]; rfl)) ?_; (with_reducible refine (galoisref01_Check.calls a0 t419 _ A6.out).mono ?_); rintro e w' ⟨rfl, ⟨nd, rfl⟩⟩; refine ⟨_, rfl, ?_⟩))
  go_ret
  exact ⟨by first | rfl | (simp; done) | (simp [*]; done), by repeat (first | exact Drawn0.refl _ | apply Drawn0.step)⟩
def galoislaw01_right.f (a0 : ByteArray) (a1 : Int) (a2 : Int) (a3 : ByteArray) : Option (Bool) := if a2 = 0 then ((galoisref01_Fits.f a3).bind fun t422 => (if t422 = 0 then (if a0.toList = a3.toList then (some (a1 == 0)) else (some false)) else (if a0.toList = ([] : List UInt8) then (some (a1 == t422)) else (some false)))) else (if a0.toList = ([] : List UInt8) then (some (a1 == a2)) else (some false))
set_option maxHeartbeats 8000000 in
set_option maxRecDepth 100000 in
theorem galoislaw01_right.calls (a0 : ByteArray) (a1 : Int) (a2 : Int) (a3 : ByteArray) (r : Bool) (w : World) (h : galoislaw01_right.f a0 a1 a2 a3 = some r) :
  Calls Try.prog 17 #[.string a0, .int .i64 a1, .int .i64 a2, .string a3] w fun e w' => e = .returned (.bool r) ∧ Drawn0 w w' := by
 have H : (if a2 = 0 then ((galoisref01_Fits.f a3).bind fun t422 => (if t422 = 0 then (if a0.toList = a3.toList then (some (a1 == 0)) else (some false)) else (if a0.toList = ([] : List UInt8) then (some (a1 == t422)) else (some false)))) else (if a0.toList = ([] : List UInt8) then (some (a1 == a2)) else (some false))) = some r := h
 clear h
 by_cases c5 : a2 = 0
 ·rw [if_pos c5] at H
  have c5b0 : (a2 == 0) = true := beq_iff_eq.mpr c5
  have c5b1 : (a2 != 0) = false := bne_eq_false_iff_eq.mpr c5
  clear c5
  replace H := Option.bind_eq_some_iff.mp H
  obtain ⟨t422, A60, H⟩ := H
  replace H : (if t422 = 0 then (if a0.toList = a3.toList then (some (a1 == 0)) else (some false)) else (if a0.toList = ([] : List UInt8) then (some (a1 == t422)) else (some false))) = some r := H
  have A6 := Aside0.mk A60
  clear A60
  by_cases c7 : t422 = 0
  ·rw [if_pos c7] at H
   have c7b0 : (t422 == 0) = true := beq_iff_eq.mpr c7
   have c7b1 : (t422 != 0) = false := bne_eq_false_iff_eq.mpr c7
   clear c7
   by_cases c8 : a0.toList = a3.toList
   ·rw [if_pos c8] at H
    have c8b0 : (a0.toList == a3.toList) = true := beq_iff_eq.mpr c8
    have c8b1 : (a0.toList != a3.toList) = false := bne_eq_false_iff_eq.mpr c8
    clear c8
    obtain rfl := Option.some.inj H
    go_enter Try.func17, Try.ntmps17
    go_wp2_with (first | ((with_reducible refine gate_callee (f := 50) rfl ?_); refine goesL_ (some 12) rfl rfl Try.func50 (by kernel_rfl) rfl #[.string a3] rfl (by (try simp only [List.map_toArray, List.map_cons, List.map_nil]); first | done | rfl | (simp only [List.length_drop, List.length_take]; rfl)) ?_; (with_reducible refine (galoisref01_Fits.calls a3 t422 _ A6.out).mono ?_); rintro e w' ⟨rfl, ⟨nd, rfl⟩⟩; refine ⟨_, rfl, ?_⟩))
    go_ret
    exact ⟨by first | rfl | (simp; done) | (simp [*]; done), by repeat (first | exact Drawn0.refl _ | apply Drawn0.step)⟩
   ·rw [if_neg c8] at H
    have c8b0 : (a0.toList == a3.toList) = false := beq_eq_false_iff_ne.mpr c8
    have c8b1 : (a0.toList != a3.toList) = true := bne_iff_ne.mpr c8
    obtain rfl := Option.some.inj H
    go_enter Try.func17, Try.ntmps17
    go_wp2_with (first | ((with_reducible refine gate_callee (f := 50) rfl ?_); refine goesL_ (some 12) rfl rfl Try.func50 (by kernel_rfl) rfl #[.string a3] rfl (by (try simp only [List.map_toArray, List.map_cons, List.map_nil]); first | done | rfl | (simp only [List.length_drop, List.length_take]; rfl)) ?_; (with_reducible refine (galoisref01_Fits.calls a3 t422 _ A6.out).mono ?_); rintro e w' ⟨rfl, ⟨nd, rfl⟩⟩; refine ⟨_, rfl, ?_⟩))
    go_ret
    exact ⟨by first | rfl | (simp; done) | (simp [*]; done), by repeat (first | exact Drawn0.refl _ | apply Drawn0.step)⟩
  ·rw [if_neg c7] at H
   have c7b0 : (t422 == 0) = false := beq_eq_false_iff_ne.mpr c7
   have c7b1 : (t422 != 0) = true := bne_iff_ne.mpr c7
   by_cases c9 : a0.toList = ([] : List UInt8)
   ·rw [if_pos c9] at H
    have c9b0 : (a0.toList == ([] : List UInt8)) = true := beq_iff_eq.mpr c9
    have c9b1 : (a0.toList != ([] : List UInt8)) = false := bne_eq_false_iff_eq.mpr c9
    clear c9
    obtain rfl := Option.some.inj H
    go_enter Try.func17, Try.ntmps17
    go_wp2_with (first | ((with_reducible refine gate_callee (f := 50) rfl ?_); refine goesL_ (some 12) rfl rfl Try.func50 (by kernel_rfl) rfl #[.string a3] rfl (by (try simp only [List.map_toArray, List.map_cons, List.map_nil]); first | done | rfl | (simp only [List.length_drop, List.length_take]; rfl)) ?_; (with_reducible refine (galoisref01_Fits.calls a3 t422 _ A6.out).mono ?_); rintro e w' ⟨rfl, ⟨nd, rfl⟩⟩; refine ⟨_, rfl, ?_⟩))
    go_ret
    exact ⟨by first | rfl | (simp; done) | (simp [*]; done), by repeat (first | exact Drawn0.refl _ | apply Drawn0.step)⟩
   ·rw [if_neg c9] at H
    have c9b0 : (a0.toList == ([] : List UInt8)) = false := beq_eq_false_iff_ne.mpr c9
    have c9b1 : (a0.toList != ([] : List UInt8)) = true := bne_iff_ne.mpr c9
    obtain rfl := Option.some.inj H
    go_enter Try.func17, Try.ntmps17
    go_wp2_with (first | ((with_reducible refine gate_callee (f := 50) rfl ?_); refine goesL_ (some 12) rfl rfl Try.func50 (by kernel_rfl) rfl #[.string a3] rfl (by (try simp only [List.map_toArray, List.map_cons, List.map_nil]); first | done | rfl | (simp only [List.length_drop, List.length_take]; rfl)) ?_; (with_reducible refine (galoisref01_Fits.calls a3 t422 _ A6.out).mono ?_); rintro e w' ⟨rfl, ⟨nd, rfl⟩⟩; refine ⟨_, rfl, ?_⟩))
    go_ret
    exact ⟨by first | rfl | (simp; done) | (simp [*]; done), by repeat (first | exact Drawn0.refl _ | apply Drawn0.step)⟩
 ·rw [if_neg c5] at H
  have c5b0 : (a2 == 0) = false := beq_eq_false_iff_ne.mpr c5
  have c5b1 : (a2 != 0) = true := bne_iff_ne.mpr c5
  by_cases c10 : a0.toList = ([] : List UInt8)
  ·rw [if_pos c10] at H
   have c10b0 : (a0.toList == ([] : List UInt8)) = true := beq_iff_eq.mpr c10
   have c10b1 : (a0.toList != ([] : List UInt8)) = false := bne_eq_false_iff_eq.mpr c10
   clear c10
   obtain rfl := Option.some.inj H
   go_enter Try.func17, Try.ntmps17
   go_wp2
   go_ret
   exact ⟨by first | rfl | (simp; done) | (simp [*]; done), by repeat (first | exact Drawn0.refl _ | apply Drawn0.step)⟩
  ·rw [if_neg c10] at H
   have c10b0 : (a0.toList == ([] : List UInt8)) = false := beq_eq_false_iff_ne.mpr c10
   have c10b1 : (a0.toList != ([] : List UInt8)) = true := bne_iff_ne.mpr c10
   obtain rfl := Option.some.inj H
   go_enter Try.func17, Try.ntmps17
   go_wp2
   go_ret
   exact ⟨by first | rfl | (simp; done) | (simp [*]; done), by repeat (first | exact Drawn0.refl _ | apply Drawn0.step)⟩
end Go.Proofs.Ytohkmnbnjacfaaa.All
namespace Go.Proofs.Ytohkmnbnjacfaaa.All
open Go.Proofs.YtohkmnbnjacfaaaX
open Go.RowKit Go.Proofs.YtohkmnbnjacfaaaW.PrintWords Go.Proofs.YtohkmnbnjacfaaaW.PrintLast Go.Proofs.YtohkmnbnjacfaaaW.PrintMore
attribute [local go_sem] max2_int min2_int max_two min_two max_three min_three max_four min_four
set_option linter.unusedVariables false
set_option linter.unusedSimpArgs false
def galoisref01_trimV.l0 : Nat → List Int → Option (List Int)
 | 0, _ => none
 | k + 1, x0 => if (x0.length : Int) > 0 then (if 0 ≤ (wrap64 ((x0.length : Int) - 1)) then (if (wrap64 ((x0.length : Int) - 1)) < (x0.length : Int) then (if (rd x0 (wrap64 ((x0.length : Int) - 1))) = 0 then (if (wrap64 ((x0.length : Int) - 1)) ≤ (x0.length : Int) then (galoisref01_trimV.l0 k (x0.take ((wrap64 ((x0.length : Int) - 1)) : Int).toNat)) else (none)) else (some x0)) else (none)) else (none)) else (some x0)
def galoisref01_trimV.f (k : Nat) (l0 : List Int) : Option (List Int) := galoisref01_trimV.l0 k l0
theorem galoisref01_trimV.mono_l : ∀ k, (∀ y0, LeO (galoisref01_trimV.l0 k y0) (galoisref01_trimV.l0 (k + 1) y0))
 | 0 => fun _ r h => by simp [galoisref01_trimV.l0] at h
 | k + 1 => by
  have ih0 := galoisref01_trimV.mono_l k
  ·intro y0
   unfold galoisref01_trimV.l0
   repeat' first
   | (with_reducible exact ih0 _)
   | (with_reducible exact LeO.refl _)
   | (with_reducible exact LeO.none _)
   | (with_reducible refine LeO.ite ?_ ?_)
   | (with_reducible refine LeO.bind ?_ (fun _ => ?_))
   | exact ih0 _
   | exact LeO.none _
   | refine LeO.ite ?_ ?_
   | refine LeO.bind ?_ (fun _ => ?_)
theorem galoisref01_trimV.mono : ∀ a0 k, LeO (galoisref01_trimV.f k a0) (galoisref01_trimV.f (k + 1) a0) := by
 intro a0 k
 have ih0 := galoisref01_trimV.mono_l k
 unfold galoisref01_trimV.f
 repeat' first
   | (with_reducible exact ih0 _)
   | (with_reducible exact LeO.refl _)
   | (with_reducible exact LeO.none _)
   | (with_reducible refine LeO.ite ?_ ?_)
   | (with_reducible refine LeO.bind ?_ (fun _ => ?_))
   | exact ih0 _
   | exact LeO.none _
   | refine LeO.ite ?_ ?_
   | refine LeO.bind ?_ (fun _ => ?_)
set_option maxHeartbeats 8000000 in
set_option maxRecDepth 100000 in
theorem galoisref01_trimV.calls (k : Nat) (P0_ : Nat → Prop) (A0 : Option Addr) (c0 : Nat) (l0 : List Int) (r : List Int) (w : World) (hs0 : Kd.V (Kd.int .u64) 49 w w.heap.size (fun k_ => P0_ k_) (.slice A0 l0.length c0) l0) (h : galoisref01_trimV.f k l0 = some r) :
  Calls Try.prog 68 #[.slice A0 l0.length c0] w fun e w' => ∃ v0_ : Value, e = .returned (v0_) ∧ Kd.V (Kd.int .u64) 49 w' w.heap.size (fun k_ => (P0_ k_ ∨ w.heap.size ≤ k_)) v0_ r ∧ Below w.heap.size w w' := by
 have HO0 := Aside0.mk (show Kd.V (Kd.int .u64) 49 w w.heap.size (fun k_ => (P0_ k_ ∨ w.heap.size ≤ k_)) (.slice A0 l0.length c0) l0 from Kd.V_mono hs0 (fun k_ hk => .inl hk))
 have HB := Aside0.mk (Below.refl w.heap.size w)
 have H : (galoisref01_trimV.l0 k l0) = some r := h
 clear h
 have H' := Aside0.mk H
 clear H
 go_enter Try.func68, Try.ntmps68
 go_wp2
 go_loopg [0] k (fun kq v0 w' => ∃ (x0_1 : List Int), Aside0 (galoisref01_trimV.l0 kq x0_1 = some r) ∧ Aside0 (kq ≤ k) ∧ Aside0 (Kd.V (Kd.int .u64) 49 w' w.heap.size (fun k_ => (P0_ k_ ∨ w.heap.size ≤ k_)) v0 x0_1) ∧ Aside0 (Below w.heap.size w w'))
 case atStart => exact ⟨(l0), H', ⟨Nat.le_refl _⟩, ⟨by (with_reducible repeat (first | apply Kd.V_alloc | apply Kd.V_drewN | apply Kd.V_drew)); exact HO0.out⟩, ⟨by repeat (first | (with_reducible first | exact HB.out | apply below_alloc | apply pw_below_drewN | apply below_drew1) | exact HB.out)⟩⟩
 case round =>
  clear H'
  obtain ⟨x0_1, HA, HK1, HO_0, HB⟩ := hrel
  cases gk with
  | zero => exact absurd HA.out (by simp [galoisref01_trimV.l0])
  | succ k1 =>
   have H := HA.out
   clear HA
   simp only [galoisref01_trimV.l0] at H
   by_cases c2 : (x0_1.length : Int) > 0
   ·rw [if_pos c2] at H
    have c2b0 : decide (0 < (x0_1.length : Int)) = true := decide_eq_true c2
    have c2b1 : decide (0 < x0_1.length) = true := decide_eq_true (by omega)
    clear c2
    obtain ⟨ji3, hji3⟩ : ∃ j_ : Int, (wrap64 ((x0_1.length : Int) - 1)) = j_ := ⟨_, rfl⟩
    replace H : (if 0 ≤ (ji3) then (if (ji3) < (x0_1.length : Int) then (if (rd x0_1 (ji3)) = 0 then (if (ji3) ≤ (x0_1.length : Int) then (galoisref01_trimV.l0 k1 (x0_1.take ((ji3) : Int).toNat)) else (none)) else (some x0_1)) else (none)) else (none)) = some r := by first | (rw [hji3] at H; exact H) | (simp only [hji3] at H ⊢; exact H)
    have hji3w : (IntKind.i64.wrap ((x0_1.length : Int) - 1)) = ji3 := (i64_w _).trans hji3
    by_cases c4 : 0 ≤ (ji3)
    ·rw [if_pos c4] at H
     have c4b0 : decide (0 ≤ (ji3)) = true := decide_eq_true c4
     clear c4
     by_cases c5 : (ji3) < (x0_1.length : Int)
     ·rw [if_pos c5] at H
      have c5b0 : decide ((ji3) < (x0_1.length : Int)) = true := decide_eq_true c5
      clear c5
      by_cases c6 : (rd x0_1 (ji3)) = 0
      ·rw [if_pos c6] at H
       have c6b0 : ((rd x0_1 (ji3)) == 0) = true := beq_iff_eq.mpr c6
       have c6b1 : ((rd x0_1 (ji3)) != 0) = false := bne_eq_false_iff_eq.mpr c6
       clear c6
       have c7b0 := eq_true (of_decide_eq_true (by first | (with_reducible assumption) | assumption) : 0 ≤ (ji3))
       by_cases c8 : (ji3) ≤ (x0_1.length : Int)
       ·rw [if_pos c8] at H
        have c8b0 := eq_true c8
        have c8b1 : decide ((ji3) ≤ (x0_1.length : Int)) = true := decide_eq_true c8
        clear c8
        obtain ⟨y424, hy424⟩ : ∃ y_ : List Int, y_ = (x0_1.take ((ji3) : Int).toNat) := ⟨_, rfl⟩
        replace H : (galoisref01_trimV.l0 k1 y424) = some r := by first | (rw [hy424]; with_reducible exact H) | (have H2_ := (Option.bind_some _ _).symm.trans H; rw [hy424]; with_reducible exact H2_) | (have H2_ := (Option.bind_some _ _).symm.trans H; with_reducible exact H2_) | with_reducible exact H | (rw [hy424]; exact H) | exact H
        have Ny424 := Aside0.mk hy424
        clear hy424
        have H' := Aside0.mk H
        clear H
        obtain ⟨Ao9, co9, eo9⟩ := Kd.V_slice HO_0.out
        subst eo9
        have p423 : 0 ≤ ((ji3) : Int) := of_decide_eq_true (by first | (with_reducible assumption) | assumption)
        have q423 : (ji3) < (x0_1.length : Int) := of_decide_eq_true (by first | (with_reducible assumption) | assumption)
        obtain ⟨ad423, e423, hx423_0⟩ := Kd.at_int (Kd.V_reads' HO_0.out).2.2 (ji3) p423 q423
        cases e423
        replace p423 := eq_true p423
        replace q423 := eq_true q423
        have q10 : ((ji3) : Int) ≤ ((x0_1.length : Int) : Int) := of_decide_eq_true (by first | (with_reducible assumption) | assumption)
        obtain ⟨i010, hi010, _, hsz10, _⟩ := info_parts info49
        have hroom10 : x0_1.length ≤ co9 := (Kd.V_reads' HO_0.out).2.1
        have hC10 : Kd.F (Kd.int .u64) _ _ (some ad423) x0_1.length x0_1 := (Kd.V_at (base := w.heap.size) HO_0.out).2.2
        have hcut10 := cut_to (P := Try.prog) 68 49 .i64 Try.underlying68 hi010 (some ad423) x0_1.length co9 (ji3) (of_decide_eq_true (by first | (with_reducible assumption) | assumption)) q10 hroom10
        have hr10 := Kd.F_take (m := ((ji3) : Int).toNat) hC10 (by omega)
        have hy10 : y424.length = ((ji3) : Int).toNat := (by rw [Ny424.out, List.length_take]; omega)
        rw [← Ny424.out] at hr10
        rw [← hy10] at hcut10
        have HO428 := Aside0.mk (show Kd.V (Kd.int .u64) 49 _ w.heap.size _ (.slice (some ad423) y424.length co9) y424 from Kd.V_mk (by omega) hr10)
        have HC428 := Aside0.mk (show y424.length ≤ co9 from by omega)
        clear hr10 hC10 hroom10 hi010 hsz10
        have KY10 := Aside0.mk hy10
        clear hy10
        replace q10 := eq_true q10
        go_wp2
        go_roundg k1
        case measure => have := HK1.out; omega
        case rel => exact ⟨(y424), H', ⟨by have := HK1.out; omega⟩, ⟨by (with_reducible repeat (first | apply Kd.V_alloc | apply Kd.V_drewN | apply Kd.V_drew)); exact HO428.out⟩, ⟨by repeat (first | (with_reducible first | exact HB.out | apply below_alloc | apply pw_below_drewN | apply below_drew1) | exact HB.out)⟩⟩
       ·rw [if_neg c8] at H
        exact absurd H (by simp)
      ·rw [if_neg c6] at H
       have c6b0 : ((rd x0_1 (ji3)) == 0) = false := beq_eq_false_iff_ne.mpr c6
       have c6b1 : ((rd x0_1 (ji3)) != 0) = true := bne_iff_ne.mpr c6
       obtain rfl := Option.some.inj H
       obtain ⟨Ao11, co11, eo11⟩ := Kd.V_slice HO_0.out
       subst eo11
       have p423 : 0 ≤ ((ji3) : Int) := of_decide_eq_true (by first | (with_reducible assumption) | assumption)
       have q423 : (ji3) < (x0_1.length : Int) := of_decide_eq_true (by first | (with_reducible assumption) | assumption)
       obtain ⟨ad423, e423, hx423_0⟩ := Kd.at_int (Kd.V_reads' HO_0.out).2.2 (ji3) p423 q423
       cases e423
       replace p423 := eq_true p423
       replace q423 := eq_true q423
       go_wp2
       go_ret
       exact ⟨_, by first | rfl | (simp [errW_none, errW_some] <;> rfl) | (simp only [← hji3]; first | rfl | (simp [errW_none, errW_some] <;> rfl)) | (simp [*, errW_none, errW_some] <;> rfl), by (with_reducible repeat (first | apply Kd.V_alloc | apply Kd.V_drewN | apply Kd.V_drew)); exact HO_0.out, by repeat (first | (with_reducible first | exact HB.out | apply below_alloc | apply pw_below_drewN | apply below_drew1) | exact HB.out)⟩
     ·rw [if_neg c5] at H
      exact absurd H (by simp)
    ·rw [if_neg c4] at H
     exact absurd H (by simp)
   ·rw [if_neg c2] at H
    have c2b0 : decide (0 < (x0_1.length : Int)) = false := decide_eq_false c2
    have c2b1 : decide (0 < x0_1.length) = false := decide_eq_false (by omega)
    clear c2
    obtain rfl := Option.some.inj H
    obtain ⟨Ao12, co12, eo12⟩ := Kd.V_slice HO_0.out
    subst eo12
    go_wp2
    go_ret
    exact ⟨_, by first | rfl | (simp [errW_none, errW_some] <;> rfl) | (simp [*, errW_none, errW_some] <;> rfl), by (with_reducible repeat (first | apply Kd.V_alloc | apply Kd.V_drewN | apply Kd.V_drew)); exact HO_0.out, by repeat (first | (with_reducible first | exact HB.out | apply below_alloc | apply pw_below_drewN | apply below_drew1) | exact HB.out)⟩
end Go.Proofs.Ytohkmnbnjacfaaa.All
