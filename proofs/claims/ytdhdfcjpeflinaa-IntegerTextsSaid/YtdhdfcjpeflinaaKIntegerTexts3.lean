/- Part of the proof of the statement IntegerTexts: lemmas on the model's steps, Lean functions that say what the program's functions compute, and proofs that the calls do just that. No hypothesis is added. -/
import Derived.Test.YtdhdfcjpeflinaaKIntegerTexts2
set_option linter.all false
set_option linter.unusedVariables false
set_option maxRecDepth 100000
namespace Go.Proofs.YtdhdfcjpeflinaaV
open Go Go.RowKit Go.Proofs.YtdhdfcjpeflinaaE Go.Proofs.YtdhdfcjpeflinaaW.PrintWords Go.Proofs.YtdhdfcjpeflinaaW.PrintLast Go.Proofs.YtdhdfcjpeflinaaW.PrintMore
noncomputable def rm94 : List RM := [.d .st, .d .st]
noncomputable def les94 : List (LoE R94) := []
noncomputable def fes94 (c118 : (List Int) → (List Int) → Option R118) (c119 : ByteArray → Option R119) (c120 : (List Int) → Option R120) : List FE := [(fe118 c118), (fe119 c119), (fe120 c120)]
section
variable (c118 : (List Int) → (List Int) → Option R118) (c119 : ByteArray → Option R119) (c120 : (List Int) → Option R120)
noncomputable def B94 (x0 : ByteArray) (x1 : ByteArray) : Option R94 := (c119 x0).bind fun r1 => ((c119 x1).bind fun r2 => ((c118 r1 r2).bind fun r3 => ((c120 r3.1).bind fun r4 => ((c120 r3.2).bind fun r5 => (some (r4, r5))))))
theorem e94 (s : ask94.T) : evFn E0 (orcOf (fes94 c118 c119 c120)) an94 (loOf (les94)) 20 cd94 Go.Proofs.Try.f94.results.toList rm94 (ask94.mk' s) (decW rsk94 dec94) = B94 c118 c119 c120 s.1.1 s.1.2.1 := by kernel_rfl
end
noncomputable def an95 : Ann := ⟨[(7, [(5, .any), (6, .any), (7, .any), (8, .any), (27, .any), (28, .any)])], [], []⟩
noncomputable def cd95 : Code := (Go.Proofs.Try.f95.body).getD .skip
noncomputable def p95 : List Pos := posns an95 [] cd95
noncomputable def rm95 : List RM := [.d .st]
noncomputable def rk95 (s0 : SbT ask95.bl) : KX R95 := retK E0 Go.Proofs.Try.f95.results.toList rm95 (mkB ask95.bl s0) (decW rsk95 dec95)
noncomputable def k95l0 : Sk := ⟨[(5, .f (.a (.ref 5))), (6, .f (.a (.ref 6))), (7, .f (.a (.ref 7))), (8, .d (.it .u64)), (27, .d (.it .i64)), (28, .d (.it .i64))], [(5, .own (.it .u64) true), (6, .own (.it .u64) true), (7, .own (.it .u64) true)]⟩
noncomputable def les95 (gl0 : Int → Int → Int → (List Int) → (List Int) → (List Int) → Option R95) : List (LoE R95) := [⟨7, k95l0, fun s => gl0 s.1.1 s.1.2.1 s.1.2.2.1 s.2.1 s.2.2.1 s.2.2.2.1⟩]
noncomputable def fes95 (c119 : ByteArray → Option R119) (c120 : (List Int) → Option R120) (c121 : Int → Int → Int → Option R121) : List FE := [(fe119 c119), (fe120 c120), (fe121 c121)]
section
variable (gl0 : Int → Int → Int → (List Int) → (List Int) → (List Int) → Option R95) (c119 : ByteArray → Option R119) (c120 : (List Int) → Option R120) (c121 : Int → Int → Int → Option R121)
noncomputable def B95l0 (x8 : Int) (x27 : Int) (x28 : Int) (x5 : (List Int)) (x6 : (List Int)) (x7 : (List Int)) : Option R95 := if x28 < x27 then (if x28 < (x6.length : Int) then (if 0 ≤ x28 then (if x28 < (x6.length : Int) then (if 0 ≤ x28 then (if x28 < (x5.length : Int) then ((c121 (rd x5 x28) (rd x6 x28) x8).bind fun r1 => (if 0 ≤ x28 then (if x28 < (x7.length : Int) then (gl0 r1.2 x27 (wrap64 (x28 + 1)) x5 x6 (x7.set (x28 : Int).toNat r1.1)) else (none)) else (none))) else (none)) else (none)) else (none)) else (none)) else (if 0 ≤ x28 then (if x28 < (x5.length : Int) then ((c121 (rd x5 x28) 0 x8).bind fun r2 => (if 0 ≤ x28 then (if x28 < (x7.length : Int) then (gl0 r2.2 x27 (wrap64 (x28 + 1)) x5 x6 (x7.set (x28 : Int).toNat r2.1)) else (none)) else (none))) else (none)) else (none))) else (if 0 ≤ (x5.length : Int) then (if (x5.length : Int) < (x7.length : Int) then ((c120 (x7.set ((x5.length : Int) : Int).toNat x8)).bind fun r3 => (some r3)) else (none)) else (none))
theorem e95l0 (s0 : SbT ask95.bl) (s : k95l0.T) : evPos E0 (orcOf (fes95 c119 c120 c121)) 60 an95 (loOf (les95 gl0)) (rk95 s0) (p95.getD 0 ⟨0, [], .skip⟩) (k95l0.mk' s) = B95l0 gl0 c120 c121 s.1.1 s.1.2.1 s.1.2.2.1 s.2.1 s.2.2.1 s.2.2.2.1 := by kernel_rfl
noncomputable def B95 (x0 : ByteArray) (x1 : ByteArray) : Option R95 := (c119 x0).bind fun r1 => ((c119 x1).bind fun r2 => (if (r1.length : Int) < (r2.length : Int) then (if 0 ≤ wrap64 ((r2.length : Int) + 1) then (if wrap64 ((r2.length : Int) + 1) ≤ wrap64 ((r2.length : Int) + 1) then (if (wrap64 ((r2.length : Int) + 1) : Int).toNat ≤ 35184372088832 then (gl0 0 (r2.length : Int) 0 r2 r1 (List.replicate (wrap64 ((r2.length : Int) + 1) : Int).toNat (0 : Int))) else (none)) else (none)) else (none)) else (if 0 ≤ wrap64 ((r1.length : Int) + 1) then (if wrap64 ((r1.length : Int) + 1) ≤ wrap64 ((r1.length : Int) + 1) then (if (wrap64 ((r1.length : Int) + 1) : Int).toNat ≤ 35184372088832 then (gl0 0 (r1.length : Int) 0 r1 r2 (List.replicate (wrap64 ((r1.length : Int) + 1) : Int).toNat (0 : Int))) else (none)) else (none)) else (none))))
theorem e95 (s : ask95.T) : evFn E0 (orcOf (fes95 c119 c120 c121)) an95 (loOf (les95 gl0)) 60 cd95 Go.Proofs.Try.f95.results.toList rm95 (ask95.mk' s) (decW rsk95 dec95) = B95 gl0 c119 s.1.1 s.1.2.1 := by kernel_rfl
end
noncomputable def an96 : Ann := ⟨[], [], []⟩
noncomputable def cd96 : Code := (Go.Proofs.Try.f96.body).getD .skip
noncomputable def rm96 : List RM := [.d .st]
noncomputable def les96 : List (LoE R96) := []
noncomputable def fes96 (c120 : (List Int) → Option R120) : List FE := [(fe120 c120)]
section
variable (c120 : (List Int) → Option R120)
noncomputable def B96 (x0 : Int) : Option R96 := (c120 ([x0] : List Int)).bind fun r1 => (some r1)
theorem e96 (s : ask96.T) : evFn E0 (orcOf (fes96 c120)) an96 (loOf (les96)) 6 cd96 Go.Proofs.Try.f96.results.toList rm96 (ask96.mk' s) (decW rsk96 dec96) = B96 c120 s.1.1 := by kernel_rfl
end
noncomputable def an97 : Ann := ⟨[(4, [(5, .any), (6, .any), (7, .any), (15, .any), (16, .any)])], [], []⟩
noncomputable def cd97 : Code := (Go.Proofs.Try.f97.body).getD .skip
noncomputable def p97 : List Pos := posns an97 [] cd97
noncomputable def rm97 : List RM := [.d .st]
noncomputable def rk97 (s0 : SbT ask97.bl) : KX R97 := retK E0 Go.Proofs.Try.f97.results.toList rm97 (mkB ask97.bl s0) (decW rsk97 dec97)
noncomputable def k97l0 : Sk := ⟨[(5, .f (.a (.ref 5))), (6, .f (.a (.ref 6))), (7, .d (.it .u64)), (15, .d (.it .i64)), (16, .d (.it .i64))], [(5, .own (.it .u64) true), (6, .own (.it .u64) true)]⟩
noncomputable def les97 (gl0 : Int → Int → Int → (List Int) → (List Int) → Option R97) : List (LoE R97) := [⟨4, k97l0, fun s => gl0 s.1.1 s.1.2.1 s.1.2.2.1 s.2.1 s.2.2.1⟩]
noncomputable def fes97 (c119 : ByteArray → Option R119) (c120 : (List Int) → Option R120) (c122 : Int → Int → Int → Option R122) : List FE := [(fe119 c119), (fe120 c120), (fe122 c122)]
section
variable (gl0 : Int → Int → Int → (List Int) → (List Int) → Option R97) (c119 : ByteArray → Option R119) (c120 : (List Int) → Option R120) (c122 : Int → Int → Int → Option R122)
noncomputable def B97l0 (x7 : Int) (x15 : Int) (x16 : Int) (x5 : (List Int)) (x6 : (List Int)) : Option R97 := if x16 < x15 then (if x16 < (x6.length : Int) then (if 0 ≤ x16 then (if x16 < (x6.length : Int) then (if 0 ≤ x16 then (if x16 < (x5.length : Int) then ((c122 (rd x5 x16) (rd x6 x16) x7).bind fun r1 => (if 0 ≤ x16 then (if x16 < (x5.length : Int) then (gl0 r1.2 x15 (wrap64 (x16 + 1)) (x5.set (x16 : Int).toNat r1.1) x6) else (none)) else (none))) else (none)) else (none)) else (none)) else (none)) else (if 0 ≤ x16 then (if x16 < (x5.length : Int) then ((c122 (rd x5 x16) 0 x7).bind fun r2 => (if 0 ≤ x16 then (if x16 < (x5.length : Int) then (gl0 r2.2 x15 (wrap64 (x16 + 1)) (x5.set (x16 : Int).toNat r2.1) x6) else (none)) else (none))) else (none)) else (none))) else ((c120 x5).bind fun r3 => (some r3))
theorem e97l0 (s0 : SbT ask97.bl) (s : k97l0.T) : evPos E0 (orcOf (fes97 c119 c120 c122)) 43 an97 (loOf (les97 gl0)) (rk97 s0) (p97.getD 0 ⟨0, [], .skip⟩) (k97l0.mk' s) = B97l0 gl0 c120 c122 s.1.1 s.1.2.1 s.1.2.2.1 s.2.1 s.2.2.1 := by kernel_rfl
noncomputable def B97 (x0 : ByteArray) (x1 : ByteArray) : Option R97 := (c119 x0).bind fun r1 => ((c119 x1).bind fun r2 => (gl0 0 (r1.length : Int) 0 r1 r2))
theorem e97 (s : ask97.T) : evFn E0 (orcOf (fes97 c119 c120 c122)) an97 (loOf (les97 gl0)) 43 cd97 Go.Proofs.Try.f97.results.toList rm97 (ask97.mk' s) (decW rsk97 dec97) = B97 gl0 c119 s.1.1 s.1.2.1 := by kernel_rfl
end
noncomputable def an98 : Ann := ⟨[], [], []⟩
noncomputable def cd98 : Code := (Go.Proofs.Try.f98.body).getD .skip
noncomputable def rm98 : List RM := [.d (.ag (.pr .bo .st))]
noncomputable def les98 : List (LoE R98) := []
noncomputable def fes98 : List FE := []
noncomputable def B98 (x0 : Bool) (x1 : ByteArray) : Option R98 := cnd (x0) (some ((!(x1.toList == (⟨#[]⟩ : ByteArray).toList)), x1)) (some (false, x1))
theorem e98 (s : ask98.T) : evFn E0 (orcOf (fes98)) an98 (loOf (les98)) 12 cd98 Go.Proofs.Try.f98.results.toList rm98 (ask98.mk' s) (decW rsk98 dec98) = B98 s.1.1 s.1.2.1 := by kernel_rfl
end Go.Proofs.YtdhdfcjpeflinaaV
set_option linter.unusedVariables false
set_option maxRecDepth 100000
namespace Go.Proofs.YtdhdfcjpeflinaaV
open Go Go.RowKit Go.Proofs.YtdhdfcjpeflinaaE Go.Proofs.YtdhdfcjpeflinaaW.PrintWords Go.Proofs.YtdhdfcjpeflinaaW.PrintLast Go.Proofs.YtdhdfcjpeflinaaW.PrintMore
noncomputable def an99Gcd : Ann := ⟨[], [], []⟩
noncomputable def cd99Gcd : Code := (Go.Proofs.Try.f99.body).getD .skip
noncomputable def rm99Gcd : List RM := [.d (.ag (.pr .bo .st)), .d (.it .i64)]
noncomputable def les99Gcd : List (LoE R99Gcd) := []
noncomputable def fes99Gcd (c52 : (List (Bool × ByteArray)) → Option R52) (c53 : Option R53) (c56 : (Bool × ByteArray) → (Bool × ByteArray) → Option R56) : List FE := [(fe52 c52), (fe53 c53), (fe56 c56)]
section
variable (c52 : (List (Bool × ByteArray)) → Option R52) (c53 : Option R53) (c56 : (Bool × ByteArray) → (Bool × ByteArray) → Option R56)
noncomputable def B99Gcd (x0 : ((Bool × ByteArray) × (Bool × ByteArray) × Unit)) (x1 : (List (Bool × ByteArray))) : Option R99Gcd := (c52 x1).bind fun r1 => (if r1 ≠ 0 then ((c53).bind fun r2 => (some (r2.1, r2.2, r1))) else ((c56 x0.1 x0.2.1).bind fun r3 => (if (r3.2.size : Int) > 1024 then ((c53).bind fun r4 => (some (r4.1, r4.2, 4))) else (some (r3.1, r3.2, 0)))))
theorem e99Gcd (s : ask99Gcd.T) : evFn E0 (orcOf (fes99Gcd c52 c53 c56)) an99Gcd (loOf (les99Gcd)) 21 cd99Gcd Go.Proofs.Try.f99.results.toList rm99Gcd (ask99Gcd.mk' s) (decW rsk99Gcd dec99Gcd) = B99Gcd c52 c53 c56 s.1.1 s.1.2.1 := by kernel_rfl
end
noncomputable def an100 : Ann := ⟨[(2, [(5, .val (.li (.it .u64))), (6, .val (.li (.it .u64)))])], [], []⟩
noncomputable def cd100 : Code := (Go.Proofs.Try.f100.body).getD .skip
noncomputable def p100 : List Pos := posns an100 [] cd100
noncomputable def rm100 : List RM := [.d .st]
noncomputable def rk100 (s0 : SbT ask100.bl) : KX R100 := retK E0 Go.Proofs.Try.f100.results.toList rm100 (mkB ask100.bl s0) (decW rsk100 dec100)
noncomputable def k100l0 : Sk := ⟨[(5, .d (.li (.it .u64))), (6, .d (.li (.it .u64)))], []⟩
noncomputable def les100 (gl0 : (List Int) → (List Int) → Option R100) : List (LoE R100) := [⟨2, k100l0, fun s => gl0 s.1.1 s.1.2.1⟩]
noncomputable def fes100 (c118 : (List Int) → (List Int) → Option R118) (c119 : ByteArray → Option R119) (c120 : (List Int) → Option R120) : List FE := [(fe118 c118), (fe119 c119), (fe120 c120)]
section
variable (gl0 : (List Int) → (List Int) → Option R100) (c118 : (List Int) → (List Int) → Option R118) (c119 : ByteArray → Option R119) (c120 : (List Int) → Option R120)
noncomputable def B100l0 (x5 : (List Int)) (x6 : (List Int)) : Option R100 := if (x6.length : Int) > 0 then ((c118 x5 x6).bind fun r1 => (gl0 x6 r1.2)) else ((c120 x5).bind fun r2 => (some r2))
theorem e100l0 (s0 : SbT ask100.bl) (s : k100l0.T) : evPos E0 (orcOf (fes100 c118 c119 c120)) 26 an100 (loOf (les100 gl0)) (rk100 s0) (p100.getD 0 ⟨0, [], .skip⟩) (k100l0.mk' s) = B100l0 gl0 c118 c120 s.1.1 s.1.2.1 := by kernel_rfl
noncomputable def B100 (x0 : ByteArray) (x1 : ByteArray) : Option R100 := (c119 x0).bind fun r1 => ((c119 x1).bind fun r2 => (gl0 r1 r2))
theorem e100 (s : ask100.T) : evFn E0 (orcOf (fes100 c118 c119 c120)) an100 (loOf (les100 gl0)) 26 cd100 Go.Proofs.Try.f100.results.toList rm100 (ask100.mk' s) (decW rsk100 dec100) = B100 gl0 c119 s.1.1 s.1.2.1 := by kernel_rfl
end
noncomputable def an101 : Ann := ⟨[], [], []⟩
noncomputable def cd101 : Code := (Go.Proofs.Try.f101.body).getD .skip
noncomputable def rm101 : List RM := [.d .bo]
noncomputable def les101 : List (LoE R101) := []
noncomputable def fes101 : List FE := []
noncomputable def B101 (x0 : ByteArray) : Option R101 := cnd ((x0.toList == (⟨#[]⟩ : ByteArray).toList)) (some true) (if (0 : Int) ≤ 0 then (if 0 < (x0.size : Int) then (some (decide (bt x0 0 ≠ 0))) else (none)) else (none))
theorem e101 (s : ask101.T) : evFn E0 (orcOf (fes101)) an101 (loOf (les101)) 10 cd101 Go.Proofs.Try.f101.results.toList rm101 (ask101.mk' s) (decW rsk101 dec101) = B101 s.1.1 := by kernel_rfl
noncomputable def an102 : Ann := ⟨[], [], []⟩
noncomputable def cd102 : Code := (Go.Proofs.Try.f102.body).getD .skip
noncomputable def rm102 : List RM := [.d (.it .i64)]
noncomputable def les102 : List (LoE R102) := []
noncomputable def fes102 : List FE := []
noncomputable def B102 (x0 : ByteArray) : Option R102 := if (x0.size : Int) > 1024 then (some 4) else (some 0)
theorem e102 (s : ask102.T) : evFn E0 (orcOf (fes102)) an102 (loOf (les102)) 6 cd102 Go.Proofs.Try.f102.results.toList rm102 (ask102.mk' s) (decW rsk102 dec102) = B102 s.1.1 := by kernel_rfl
noncomputable def an103 : Ann := ⟨[(3, [(0, .any), (3, .own (.it .u64)), (4, .any)]), (7, [(0, .any), (3, .any), (4, .any), (5, .any), (6, .any)])], [], []⟩
noncomputable def cd103 : Code := (Go.Proofs.Try.f103.body).getD .skip
noncomputable def p103 : List Pos := posns an103 [] cd103
noncomputable def rm103 : List RM := [.own (.it .u64)]
noncomputable def rk103 (s0 : SbT ask103.bl) : KX R103 := retK E0 Go.Proofs.Try.f103.results.toList rm103 (mkB ask103.bl s0) (decW rsk103 dec103)
noncomputable def k103l0 : Sk := ⟨[(0, .d .st), (3, .f (.a (.ref 3))), (4, .d (.it .i64))], [(3, .own (.it .u64) true)]⟩
noncomputable def k103l1 : Sk := ⟨[(0, .d .st), (3, .f (.a (.ref 3))), (4, .d (.it .i64)), (5, .d (.it .u64)), (6, .d (.it .i64))], [(3, .own (.it .u64) true)]⟩
noncomputable def les103 (gl0 : ByteArray → Int → (List Int) → Option R103) (gl1 : ByteArray → Int → Int → Int → (List Int) → Option R103) : List (LoE R103) := [⟨3, k103l0, fun s => gl0 s.1.1 s.1.2.1 s.2.1⟩, ⟨7, k103l1, fun s => gl1 s.1.1 s.1.2.1 s.1.2.2.1 s.1.2.2.2.1 s.2.1⟩]
noncomputable def fes103 (c117 : (List Int) → Option R117) : List FE := [(fe117 c117)]
section
variable (gl0 : ByteArray → Int → (List Int) → Option R103) (gl1 : ByteArray → Int → Int → Int → (List Int) → Option R103) (c117 : (List Int) → Option R117)
noncomputable def B103l0 (x0 : ByteArray) (x4 : Int) (x3 : (List Int)) : Option R103 := if x4 > 0 then (gl1 x0 x4 0 (mx 0 (wrap64 (x4 - 4))) x3) else ((c117 x3).bind fun r1 => (some (r1.2.take (r1.1 : Int).toNat)))
theorem e103l0 (s0 : SbT ask103.bl) (s : k103l0.T) : evPos E0 (orcOf (fes103 c117)) 34 an103 (loOf (les103 gl0 gl1)) (rk103 s0) (p103.getD 0 ⟨0, [], .skip⟩) (k103l0.mk' s) = B103l0 gl1 c117 s.1.1 s.1.2.1 s.2.1 := by kernel_rfl
noncomputable def B103l1 (x0 : ByteArray) (x4 : Int) (x5 : Int) (x6 : Int) (x3 : (List Int)) : Option R103 := if x6 < x4 then (if 0 ≤ x6 then (if x6 < (x0.size : Int) then (gl1 x0 x4 (IntKind.u64.wrap ((IntKind.u64.wrap (x5 * 256)) + (IntKind.u64.wrap (bt x0 x6)))) (wrap64 (x6 + 1)) x3) else (none)) else (none)) else (if (x3.length + 1) * 8 ≤ 140737488355328 then (gl0 x0 (wrap64 (x4 - 4)) (x3 ++ ([x5] : List Int))) else (none))
theorem e103l1 (s0 : SbT ask103.bl) (s : k103l1.T) : evPos E0 (orcOf (fes103 c117)) 34 an103 (loOf (les103 gl0 gl1)) (rk103 s0) (p103.getD 1 ⟨0, [], .skip⟩) (k103l1.mk' s) = B103l1 gl0 gl1 s.1.1 s.1.2.1 s.1.2.2.1 s.1.2.2.2.1 s.2.1 := by kernel_rfl
noncomputable def B103 (x0 : ByteArray) : Option R103 := gl0 x0 (x0.size : Int) ([] : List Int)
theorem e103 (s : ask103.T) : evFn E0 (orcOf (fes103 c117)) an103 (loOf (les103 gl0 gl1)) 34 cd103 Go.Proofs.Try.f103.results.toList rm103 (ask103.mk' s) (decW rsk103 dec103) = B103 gl0 s.1.1 := by kernel_rfl
end
noncomputable def an105 : Ann := ⟨[(3, [(0, .any), (3, .own (.it .u8)), (4, .any)]), (6, [(0, .any), (3, .own (.it .u8)), (4, .any), (5, .any)])], [], []⟩
noncomputable def cd105 : Code := (Go.Proofs.Try.f105.body).getD .skip
noncomputable def p105 : List Pos := posns an105 [] cd105
noncomputable def rm105 : List RM := [.d .st]
noncomputable def rk105 (s0 : SbT ask105.bl) : KX R105 := retK E0 Go.Proofs.Try.f105.results.toList rm105 (mkB ask105.bl s0) (decW rsk105 dec105)
noncomputable def k105l0 : Sk := ⟨[(0, .d (.li (.it .u64))), (3, .f (.a (.ref 3))), (4, .d (.it .i64))], [(3, .own (.it .u8) true)]⟩
noncomputable def k105l1 : Sk := ⟨[(0, .d (.li (.it .u64))), (3, .f (.a (.ref 3))), (4, .d (.it .i64)), (5, .d (.it .i64))], [(3, .own (.it .u8) true)]⟩
noncomputable def les105 (gl0 : (List Int) → Int → (List Int) → Option R105) (gl1 : (List Int) → Int → Int → (List Int) → Option R105) : List (LoE R105) := [⟨3, k105l0, fun s => gl0 s.1.1 s.1.2.1 s.2.1⟩, ⟨6, k105l1, fun s => gl1 s.1.1 s.1.2.1 s.1.2.2.1 s.2.1⟩]
noncomputable def fes105 : List FE := []
section
variable (gl0 : (List Int) → Int → (List Int) → Option R105) (gl1 : (List Int) → Int → Int → (List Int) → Option R105)
noncomputable def B105l0 (x0 : (List Int)) (x4 : Int) (x3 : (List Int)) : Option R105 := if x4 ≥ 0 then (gl1 x0 x4 24 x3) else (some (strOfNums x3))
theorem e105l0 (s0 : SbT ask105.bl) (s : k105l0.T) : evPos E0 (orcOf (fes105)) 38 an105 (loOf (les105 gl0 gl1)) (rk105 s0) (p105.getD 0 ⟨0, [], .skip⟩) (k105l0.mk' s) = B105l0 gl1 s.1.1 s.1.2.1 s.2.1 := by kernel_rfl
noncomputable def B105l1 (x0 : (List Int)) (x4 : Int) (x5 : Int) (x3 : (List Int)) : Option R105 := if x5 ≥ 0 then (if 0 ≤ x4 then (if x4 < (x0.length : Int) then (if 0 ≤ x5 then (if (x3.length : Int) > 0 then (if (x3.length + 1) * 1 ≤ 140737488355328 then (gl1 x0 x4 (wrap64 (x5 - 8)) (x3 ++ ([IntKind.u8.wrap (shr .u64 (rd x0 x4) x5)] : List Int))) else (none)) else (if IntKind.u8.wrap (shr .u64 (rd x0 x4) x5) > 0 then (if (x3.length + 1) * 1 ≤ 140737488355328 then (gl1 x0 x4 (wrap64 (x5 - 8)) (x3 ++ ([IntKind.u8.wrap (shr .u64 (rd x0 x4) x5)] : List Int))) else (none)) else (gl1 x0 x4 (wrap64 (x5 - 8)) x3))) else (none)) else (none)) else (none)) else (gl0 x0 (wrap64 (x4 - 1)) x3)
theorem e105l1 (s0 : SbT ask105.bl) (s : k105l1.T) : evPos E0 (orcOf (fes105)) 38 an105 (loOf (les105 gl0 gl1)) (rk105 s0) (p105.getD 1 ⟨0, [], .skip⟩) (k105l1.mk' s) = B105l1 gl0 gl1 s.1.1 s.1.2.1 s.1.2.2.1 s.2.1 := by kernel_rfl
noncomputable def B105 (x0 : (List Int)) : Option R105 := gl0 x0 (wrap64 ((x0.length : Int) - 1)) ([] : List Int)
theorem e105 (s : ask105.T) : evFn E0 (orcOf (fes105)) an105 (loOf (les105 gl0 gl1)) 38 cd105 Go.Proofs.Try.f105.results.toList rm105 (ask105.mk' s) (decW rsk105 dec105) = B105 gl0 s.1.1 := by kernel_rfl
end
noncomputable def cd106 : Code := (Go.Proofs.Try.f106.body).getD .skip
noncomputable def an107 : Ann := ⟨[(2, [(1, .any), (5, .val (.li (.it .u64))), (6, .val (.li (.it .u64)))])], [], []⟩
noncomputable def cd107 : Code := (Go.Proofs.Try.f107.body).getD .skip
noncomputable def p107 : List Pos := posns an107 [] cd107
noncomputable def rm107 : List RM := [.d .st]
noncomputable def rk107 (s0 : SbT ask107.bl) : KX R107 := retK E0 Go.Proofs.Try.f107.results.toList rm107 (mkB ask107.bl s0) (decW rsk107 dec107)
noncomputable def k107l0 : Sk := ⟨[(1, .d (.it .i64)), (5, .d (.li (.it .u64))), (6, .d (.li (.it .u64)))], []⟩
noncomputable def les107 (gl0 : Int → (List Int) → (List Int) → Option R107) : List (LoE R107) := [⟨2, k107l0, fun s => gl0 s.1.1 s.1.2.1 s.1.2.2.1⟩]
noncomputable def fes107 (c119 : ByteArray → Option R119) (c120 : (List Int) → Option R120) (c123 : (List Int) → (List Int) → Option R123) : List FE := [(fe119 c119), (fe120 c120), (fe123 c123)]
section
variable (gl0 : Int → (List Int) → (List Int) → Option R107) (c119 : ByteArray → Option R119) (c120 : (List Int) → Option R120) (c123 : (List Int) → (List Int) → Option R123)
noncomputable def B107l0 (x1 : Int) (x5 : (List Int)) (x6 : (List Int)) : Option R107 := if x1 > 0 then (if Go.bits .and .i64 x1 1 = 1 then ((c123 x5 x6).bind fun r1 => ((c123 x6 x6).bind fun r2 => (if (0 : Int) ≤ 1 then (gl0 (x1 / 2) r1 r2) else (none)))) else ((c123 x6 x6).bind fun r3 => (if (0 : Int) ≤ 1 then (gl0 (x1 / 2) x5 r3) else (none)))) else ((c120 x5).bind fun r4 => (some r4))
theorem e107l0 (s0 : SbT ask107.bl) (s : k107l0.T) : evPos E0 (orcOf (fes107 c119 c120 c123)) 25 an107 (loOf (les107 gl0)) (rk107 s0) (p107.getD 0 ⟨0, [], .skip⟩) (k107l0.mk' s) = B107l0 gl0 c120 c123 s.1.1 s.1.2.1 s.1.2.2.1 := by kernel_rfl
noncomputable def B107 (x0 : ByteArray) (x1 : Int) : Option R107 := (c119 x0).bind fun r1 => (gl0 x1 ([1] : List Int) r1)
theorem e107 (s : ask107.T) : evFn E0 (orcOf (fes107 c119 c120 c123)) an107 (loOf (les107 gl0)) 25 cd107 Go.Proofs.Try.f107.results.toList rm107 (ask107.mk' s) (decW rsk107 dec107) = B107 gl0 c119 s.1.1 s.1.2.1 := by kernel_rfl
end
noncomputable def an108 : Ann := ⟨[], [], []⟩
noncomputable def cd108 : Code := (Go.Proofs.Try.f108.body).getD .skip
noncomputable def rm108 : List RM := [.d .st]
noncomputable def les108 : List (LoE R108) := []
noncomputable def fes108 (c119 : ByteArray → Option R119) (c120 : (List Int) → Option R120) (c123 : (List Int) → (List Int) → Option R123) : List FE := [(fe119 c119), (fe120 c120), (fe123 c123)]
section
variable (c119 : ByteArray → Option R119) (c120 : (List Int) → Option R120) (c123 : (List Int) → (List Int) → Option R123)
noncomputable def B108 (x0 : ByteArray) (x1 : ByteArray) : Option R108 := (c119 x0).bind fun r1 => ((c119 x1).bind fun r2 => ((c123 r1 r2).bind fun r3 => ((c120 r3).bind fun r4 => (some r4))))
theorem e108 (s : ask108.T) : evFn E0 (orcOf (fes108 c119 c120 c123)) an108 (loOf (les108)) 11 cd108 Go.Proofs.Try.f108.results.toList rm108 (ask108.mk' s) (decW rsk108 dec108) = B108 c119 c120 c123 s.1.1 s.1.2.1 := by kernel_rfl
end
noncomputable def an109 : Ann := ⟨[], [], []⟩
noncomputable def cd109 : Code := (Go.Proofs.Try.f109.body).getD .skip
noncomputable def rm109 : List RM := [.d (.it .i64)]
noncomputable def les109 : List (LoE R109) := []
noncomputable def fes109 : List FE := []
noncomputable def B109 (x0 : ByteArray) (x1 : ByteArray) : Option R109 := if (x0.size : Int) < (x1.size : Int) then (some (-1)) else (if (x0.size : Int) = (x1.size : Int) then (cnd ((Op.bytesLess x0.toList x1.toList)) (some (-1)) (cnd ((x0.toList == x1.toList)) (some 0) (some 1))) else (cnd ((x0.toList == x1.toList)) (some 0) (some 1)))
theorem e109 (s : ask109.T) : evFn E0 (orcOf (fes109)) an109 (loOf (les109)) 27 cd109 Go.Proofs.Try.f109.results.toList rm109 (ask109.mk' s) (decW rsk109 dec109) = B109 s.1.1 s.1.2.1 := by kernel_rfl
noncomputable def an110 : Ann := ⟨[(3, [(0, .any), (1, .any), (5, .any), (6, .any)])], [], []⟩
noncomputable def cd110 : Code := (Go.Proofs.Try.f110.body).getD .skip
noncomputable def p110 : List Pos := posns an110 [] cd110
noncomputable def rm110 : List RM := [.d .st]
noncomputable def rk110 (s0 : SbT ask110.bl) : KX R110 := retK E0 Go.Proofs.Try.f110.results.toList rm110 (mkB ask110.bl s0) (decW rsk110 dec110)
noncomputable def k110l0 : Sk := ⟨[(0, .d .st), (1, .d (.it .i64)), (5, .d .st), (6, .d (.it .i64))], []⟩
noncomputable def les110 (gl0 : ByteArray → Int → ByteArray → Int → Option R110) : List (LoE R110) := [⟨3, k110l0, fun s => gl0 s.1.1 s.1.2.1 s.1.2.2.1 s.1.2.2.2.1⟩]
noncomputable def fes110 (c67 : ByteArray → Option R67) (c95 : ByteArray → ByteArray → Option R95) (c107 : ByteArray → Int → Option R107) (c109 : ByteArray → ByteArray → Option R109) (c124 : Int → Option R124) : List FE := [(fe67 c67), (fe95 c95), (fe107 c107), (fe109 c109), (fe124 c124)]
section
variable (gl0 : ByteArray → Int → ByteArray → Int → Option R110) (c67 : ByteArray → Option R67) (c95 : ByteArray → ByteArray → Option R95) (c107 : ByteArray → Int → Option R107) (c109 : ByteArray → ByteArray → Option R109) (c124 : Int → Option R124)
noncomputable def B110l0 (x0 : ByteArray) (x1 : Int) (x5 : ByteArray) (x6 : Int) : Option R110 := if x6 ≥ 0 then ((c124 x6).bind fun r1 => ((c95 x5 r1).bind fun r2 => ((c107 r2 x1).bind fun r3 => ((c109 r3 x0).bind fun r4 => (if r4 ≤ 0 then (gl0 x0 x1 r2 (wrap64 (x6 - 1))) else (gl0 x0 x1 x5 (wrap64 (x6 - 1)))))))) else (some x5)
theorem e110l0 (s0 : SbT ask110.bl) (s : k110l0.T) : evPos E0 (orcOf (fes110 c67 c95 c107 c109 c124)) 31 an110 (loOf (les110 gl0)) (rk110 s0) (p110.getD 0 ⟨0, [], .skip⟩) (k110l0.mk' s) = B110l0 gl0 c95 c107 c109 c124 s.1.1 s.1.2.1 s.1.2.2.1 s.1.2.2.2.1 := by kernel_rfl
noncomputable def B110 (x0 : ByteArray) (x1 : Int) : Option R110 := (c67 x0).bind fun r1 => (if x1 = 0 then (none) else (gl0 x0 x1 (⟨#[]⟩ : ByteArray) (wrap64 (Int.tdiv (wrap64 ((wrap64 (r1 + x1)) - 1)) x1))))
theorem e110 (s : ask110.T) : evFn E0 (orcOf (fes110 c67 c95 c107 c109 c124)) an110 (loOf (les110 gl0)) 31 cd110 Go.Proofs.Try.f110.results.toList rm110 (ask110.mk' s) (decW rsk110 dec110) = B110 gl0 c67 s.1.1 s.1.2.1 := by kernel_rfl
end
noncomputable def an111 : Ann := ⟨[], [], []⟩
noncomputable def cd111 : Code := (Go.Proofs.Try.f111.body).getD .skip
noncomputable def rm111 : List RM := [.d (.it .u64), .d .bo]
noncomputable def les111 : List (LoE R111) := []
noncomputable def fes111 (c119 : ByteArray → Option R119) : List FE := [(fe119 c119)]
section
variable (c119 : ByteArray → Option R119)
noncomputable def B111 (x0 : ByteArray) : Option R111 := (c119 x0).bind fun r1 => (if (r1.length : Int) > 1 then (some (0, false)) else (if (r1.length : Int) = 0 then (some (0, true)) else (if (0 : Int) ≤ 0 then (if 0 < (r1.length : Int) then (some (rd r1 0, true)) else (none)) else (none))))
theorem e111 (s : ask111.T) : evFn E0 (orcOf (fes111 c119)) an111 (loOf (les111)) 16 cd111 Go.Proofs.Try.f111.results.toList rm111 (ask111.mk' s) (decW rsk111 dec111) = B111 c119 s.1.1 := by kernel_rfl
end
noncomputable def an113 : Ann := ⟨[(2, [(6, .any), (7, .any), (8, .any)])], [], []⟩
noncomputable def cd113 : Code := (Go.Proofs.Try.f113.body).getD .skip
noncomputable def p113 : List Pos := posns an113 [] cd113
noncomputable def rm113 : List RM := [.d (.it .i64)]
noncomputable def rk113 (s0 : SbT ask113.bl) : KX R113 := retK E0 Go.Proofs.Try.f113.results.toList rm113 (mkB ask113.bl s0) (decW rsk113 dec113)
noncomputable def k113l0 : Sk := ⟨[(6, .d (.li .st)), (7, .d (.it .i64)), (8, .d (.it .i64))], []⟩
noncomputable def les113 (gl0 : (List ByteArray) → Int → Int → Option R113) : List (LoE R113) := [⟨2, k113l0, fun s => gl0 s.1.1 s.1.2.1 s.1.2.2.1⟩]
noncomputable def fes113 (c82 : ByteArray → Option R82) : List FE := [(fe82 c82)]
section
variable (gl0 : (List ByteArray) → Int → Int → Option R113) (c82 : ByteArray → Option R82)
noncomputable def B113l0 (x6 : (List ByteArray)) (x7 : Int) (x8 : Int) : Option R113 := if x8 < x7 then (if 0 ≤ x8 then (if x8 < (x6.length : Int) then ((c82 (rdOf (⟨#[]⟩ : ByteArray) x6 x8)).bind fun r1 => (if r1 ≠ 0 then (some r1) else (gl0 x6 x7 (wrap64 (x8 + 1))))) else (none)) else (none)) else (some 0)
theorem e113l0 (s0 : SbT ask113.bl) (s : k113l0.T) : evPos E0 (orcOf (fes113 c82)) 18 an113 (loOf (les113 gl0)) (rk113 s0) (p113.getD 0 ⟨0, [], .skip⟩) (k113l0.mk' s) = B113l0 gl0 c82 s.1.1 s.1.2.1 s.1.2.2.1 := by kernel_rfl
noncomputable def B113 (x0 : (List ByteArray)) : Option R113 := gl0 x0 (x0.length : Int) 0
theorem e113 (s : ask113.T) : evFn E0 (orcOf (fes113 c82)) an113 (loOf (les113 gl0)) 18 cd113 Go.Proofs.Try.f113.results.toList rm113 (ask113.mk' s) (decW rsk113 dec113) = B113 gl0 s.1.1 := by kernel_rfl
end
noncomputable def an115 : Ann := ⟨[], [], []⟩
noncomputable def cd115 : Code := (Go.Proofs.Try.f115.body).getD .skip
noncomputable def rm115 : List RM := [.d .st, .d (.it .i64)]
noncomputable def les115 : List (LoE R115) := []
noncomputable def fes115 : List FE := []
noncomputable def B115 (x0 : ByteArray) : Option R115 := if (x0.size : Int) > 1024 then (some ((⟨#[]⟩ : ByteArray), 4)) else (some (x0, 0))
theorem e115 (s : ask115.T) : evFn E0 (orcOf (fes115)) an115 (loOf (les115)) 8 cd115 Go.Proofs.Try.f115.results.toList rm115 (ask115.mk' s) (decW rsk115 dec115) = B115 s.1.1 := by kernel_rfl
noncomputable def an116 : Ann := ⟨[(5, [(0, .any), (4, .own (.it .u64)), (5, .any)]), (11, [(0, .any), (4, .any), (5, .any), (6, .any), (7, .any), (31, .any), (32, .any), (33, .any), (34, .any)])], [], []⟩
noncomputable def cd116 : Code := (Go.Proofs.Try.f116.body).getD .skip
noncomputable def p116 : List Pos := posns an116 [] cd116
noncomputable def rm116 : List RM := [.d .st, .d .bo]
noncomputable def rk116 (s0 : SbT ask116.bl) : KX R116 := retK E0 Go.Proofs.Try.f116.results.toList rm116 (mkB ask116.bl s0) (decW rsk116 dec116)
noncomputable def k116l0 : Sk := ⟨[(0, .d .st), (4, .f (.a (.ref 4))), (5, .d (.it .i64))], [(4, .own (.it .u64) true)]⟩
noncomputable def k116l1 : Sk := ⟨[(0, .d .st), (4, .f (.a (.ref 4))), (5, .d (.it .i64)), (6, .d (.it .u64)), (7, .d (.it .i64)), (31, .d .st), (32, .d (.it .i64)), (33, .d (.it .u8)), (34, .d .bo)], [(4, .own (.it .u64) true)]⟩
noncomputable def les116 (gl0 : ByteArray → Int → (List Int) → Option R116) (gl1 : ByteArray → Int → Int → Int → ByteArray → Int → Int → Bool → (List Int) → Option R116) : List (LoE R116) := [⟨5, k116l0, fun s => gl0 s.1.1 s.1.2.1 s.2.1⟩, ⟨11, k116l1, fun s => gl1 s.1.1 s.1.2.1 s.1.2.2.1 s.1.2.2.2.1 s.1.2.2.2.2.1 s.1.2.2.2.2.2.1 s.1.2.2.2.2.2.2.1 s.1.2.2.2.2.2.2.2.1 s.2.1⟩]
noncomputable def fes116 (c105 : (List Int) → Option R105) : List FE := [(fe105 c105)]
section
variable (gl0 : ByteArray → Int → (List Int) → Option R116) (gl1 : ByteArray → Int → Int → Int → ByteArray → Int → Int → Bool → (List Int) → Option R116) (c105 : (List Int) → Option R105)
noncomputable def B116l0 (x0 : ByteArray) (x5 : Int) (x4 : (List Int)) : Option R116 := if x5 < (x0.size : Int) then (if 0 ≤ x5 then (if x5 < (x0.size : Int) then (if bt x0 x5 < 48 then (some ((⟨#[]⟩ : ByteArray), false)) else (if 0 ≤ x5 then (if x5 < (x0.size : Int) then (if bt x0 x5 > 57 then (some ((⟨#[]⟩ : ByteArray), false)) else (if 0 ≤ x5 then (if x5 < (x0.size : Int) then (gl1 x0 x5 (IntKind.u64.wrap (IntKind.u8.wrap ((bt x0 x5) - 48))) 0 x0 x5 (bt x0 x5) (decide (bt x0 x5 > 57)) x4) else (none)) else (none))) else (none)) else (none))) else (none)) else (none)) else ((c105 x4).bind fun r1 => (some (r1, true)))
theorem e116l0 (s0 : SbT ask116.bl) (s : k116l0.T) : evPos E0 (orcOf (fes116 c105)) 69 an116 (loOf (les116 gl0 gl1)) (rk116 s0) (p116.getD 0 ⟨0, [], .skip⟩) (k116l0.mk' s) = B116l0 gl1 c105 s.1.1 s.1.2.1 s.2.1 := by kernel_rfl
noncomputable def B116l1 (x0 : ByteArray) (x5 : Int) (x6 : Int) (x7 : Int) (x31 : ByteArray) (x32 : Int) (x33 : Int) (x34 : Bool) (x4 : (List Int)) : Option R116 := if x7 < (x4.length : Int) then (if 0 ≤ x7 then (if x7 < (x4.length : Int) then (if 0 ≤ x7 then (if x7 < (x4.length : Int) then (if (0 : Int) ≤ 32 then (gl1 x0 x5 ((IntKind.u64.wrap (x6 + (IntKind.u64.wrap ((rd x4 x7) * 10)))) / 4294967296) (wrap64 (x7 + 1)) x31 x32 x33 x34 (x4.set (x7 : Int).toNat (Go.bits .and .u64 (IntKind.u64.wrap (x6 + (IntKind.u64.wrap ((rd x4 x7) * 10)))) 4294967295))) else (none)) else (none)) else (none)) else (none)) else (none)) else (if x6 > 0 then (if (x4.length + 1) * 8 ≤ 140737488355328 then (gl0 x0 (wrap64 (x5 + 1)) (x4 ++ ([x6] : List Int))) else (none)) else (gl0 x0 (wrap64 (x5 + 1)) x4))
theorem e116l1 (s0 : SbT ask116.bl) (s : k116l1.T) : evPos E0 (orcOf (fes116 c105)) 69 an116 (loOf (les116 gl0 gl1)) (rk116 s0) (p116.getD 1 ⟨0, [], .skip⟩) (k116l1.mk' s) = B116l1 gl0 gl1 s.1.1 s.1.2.1 s.1.2.2.1 s.1.2.2.2.1 s.1.2.2.2.2.1 s.1.2.2.2.2.2.1 s.1.2.2.2.2.2.2.1 s.1.2.2.2.2.2.2.2.1 s.2.1 := by kernel_rfl
noncomputable def B116 (x0 : ByteArray) : Option R116 := cnd ((x0.toList == (⟨#[]⟩ : ByteArray).toList)) (some ((⟨#[]⟩ : ByteArray), false)) (if (x0.size : Int) > 1 then (if (0 : Int) ≤ 0 then (if 0 < (x0.size : Int) then (if bt x0 0 = 48 then (some ((⟨#[]⟩ : ByteArray), false)) else (gl0 x0 0 ([] : List Int))) else (none)) else (none)) else (gl0 x0 0 ([] : List Int)))
theorem e116 (s : ask116.T) : evFn E0 (orcOf (fes116 c105)) an116 (loOf (les116 gl0 gl1)) 69 cd116 Go.Proofs.Try.f116.results.toList rm116 (ask116.mk' s) (decW rsk116 dec116) = B116 gl0 s.1.1 := by kernel_rfl
end
noncomputable def an117 : Ann := ⟨[(1, [(0, .pt)])], [], []⟩
noncomputable def cd117 : Code := (Go.Proofs.Try.f117.body).getD .skip
noncomputable def p117 : List Pos := posns an117 [] cd117
noncomputable def rm117 : List RM := [.sh]
noncomputable def rk117 (s0 : SbT ask117.bl) : KX R117 := retK E0 Go.Proofs.Try.f117.results.toList rm117 (mkB ask117.bl s0) (decW rsk117 dec117)
noncomputable def k117l0 : Sk := ⟨[(0, .pre 2000)], [(2000, .own (.it .u64) false)]⟩
noncomputable def les117 (gl0 : Int → (List Int) → Option R117) : List (LoE R117) := [⟨1, k117l0, fun s => gl0 s.1.1 s.2.1⟩]
noncomputable def fes117 : List FE := []
section
variable (gl0 : Int → (List Int) → Option R117)
noncomputable def B117l0 (x0 : Int) (y0 : (List Int)) : Option R117 := if x0 - 0 > 0 then (if 0 ≤ wrap64 ((x0 - 0) - 1) then (if wrap64 ((x0 - 0) - 1) < x0 - 0 then (if rd y0 (0 + (wrap64 ((x0 - 0) - 1))) = 0 then (if (0 : Int) ≤ 0 then (if 0 ≤ wrap64 ((x0 - 0) - 1) then (if wrap64 ((x0 - 0) - 1) ≤ x0 - 0 then (if x0 - 0 ≤ x0 - 0 then (gl0 (0 + (wrap64 ((x0 - 0) - 1))) y0) else (none)) else (none)) else (none)) else (none)) else (some (x0, y0))) else (none)) else (none)) else (some (x0, y0))
theorem e117l0 (s0 : SbT ask117.bl) (s : k117l0.T) : evPos E0 (orcOf (fes117)) 21 an117 (loOf (les117 gl0)) (rk117 s0) (p117.getD 0 ⟨0, [], .skip⟩) (k117l0.mk' s) = B117l0 gl0 s.1.1 s.2.1 := by kernel_rfl
noncomputable def B117 (y0 : (List Int)) : Option R117 := gl0 (y0.length : Int) y0
theorem e117 (s : ask117.T) : evFn E0 (orcOf (fes117)) an117 (loOf (les117 gl0)) 21 cd117 Go.Proofs.Try.f117.results.toList rm117 (ask117.mk' s) (decW rsk117 dec117) = B117 gl0 s.2.1 := by kernel_rfl
end
end Go.Proofs.YtdhdfcjpeflinaaV
set_option linter.unusedVariables false
set_option maxRecDepth 100000
namespace Go.Proofs.YtdhdfcjpeflinaaV
open Go Go.RowKit Go.Proofs.YtdhdfcjpeflinaaE Go.Proofs.YtdhdfcjpeflinaaW.PrintWords Go.Proofs.YtdhdfcjpeflinaaW.PrintLast Go.Proofs.YtdhdfcjpeflinaaW.PrintMore
noncomputable def an118 : Ann := ⟨[(7, [(0, .any), (1, .any), (6, .any), (7, .any), (8, .any)]), (17, [(9, .any), (10, .val (.li (.it .u64))), (11, .any), (12, .any), (13, .any), (14, .any)]), (21, [(9, .any), (11, .any), (12, .any), (13, .any), (96, .any), (97, .any)])], [], []⟩
noncomputable def cd118 : Code := (Go.Proofs.Try.f118.body).getD .skip
noncomputable def p118 : List Pos := posns an118 [] cd118
noncomputable def rm118 : List RM := [.d (.li (.it .u64)), .d (.li (.it .u64))]
noncomputable def rk118 (s0 : SbT ask118.bl) : KX R118 := retK E0 Go.Proofs.Try.f118.results.toList rm118 (mkB ask118.bl s0) (decW rsk118 dec118)
noncomputable def k118l0 : Sk := ⟨[(0, .d (.li (.it .u64))), (1, .d (.li (.it .u64))), (6, .f (.a (.ref 6))), (7, .d (.it .u64)), (8, .d (.it .i64))], [(6, .own (.it .u64) true)]⟩
noncomputable def k118l1 : Sk := ⟨[(9, .d (.it .i64)), (10, .d (.li (.it .u64))), (11, .f (.a (.ref 11))), (12, .d (.it .i64)), (13, .f (.a (.ref 13))), (14, .d (.it .i64))], [(11, .own (.it .u64) true), (13, .own (.it .u64) true)]⟩
noncomputable def k118l2 : Sk := ⟨[(9, .d (.it .i64)), (11, .f (.a (.ref 11))), (12, .d (.it .i64)), (13, .f (.a (.ref 13))), (96, .d (.it .i64)), (97, .d (.it .i64))], [(11, .own (.it .u64) true), (13, .own (.it .u64) true)]⟩
noncomputable def les118 (gl0 : (List Int) → (List Int) → Int → Int → (List Int) → Option R118) (gl1 : Int → (List Int) → Int → Int → (List Int) → (List Int) → Option R118) (gl2 : Int → Int → Int → Int → (List Int) → (List Int) → Option R118) : List (LoE R118) := [⟨7, k118l0, fun s => gl0 s.1.1 s.1.2.1 s.1.2.2.1 s.1.2.2.2.1 s.2.1⟩, ⟨17, k118l1, fun s => gl1 s.1.1 s.1.2.1 s.1.2.2.1 s.1.2.2.2.1 s.2.1 s.2.2.1⟩, ⟨21, k118l2, fun s => gl2 s.1.1 s.1.2.1 s.1.2.2.1 s.1.2.2.2.1 s.2.1 s.2.2.1⟩]
noncomputable def fes118 (c128 : (List Int) → (List Int) → Option R128) (c129 : Int → Int → Int → Option R129) (c130 : (List Int) → Option R130) (c131 : Int → Option R131) (c132 : (List Int) → Int → Option R132) (c133 : (List Int) → (List Int) → Option R133) : List FE := [(fe128 c128), (fe129 c129), (fe130 c130), (fe131 c131), (fe132 c132), (fe133 c133)]
section
variable (gl0 : (List Int) → (List Int) → Int → Int → (List Int) → Option R118) (gl1 : Int → (List Int) → Int → Int → (List Int) → (List Int) → Option R118) (gl2 : Int → Int → Int → Int → (List Int) → (List Int) → Option R118) (c128 : (List Int) → (List Int) → Option R128) (c129 : Int → Int → Int → Option R129) (c130 : (List Int) → Option R130) (c131 : Int → Option R131) (c132 : (List Int) → Int → Option R132) (c133 : (List Int) → (List Int) → Option R133)
noncomputable def B118l0 (x0 : (List Int)) (x1 : (List Int)) (x7 : Int) (x8 : Int) (x6 : (List Int)) : Option R118 := if x8 ≥ 0 then (if 0 ≤ x8 then (if x8 < (x0.length : Int) then (if (0 : Int) ≤ 0 then (if 0 < (x1.length : Int) then ((c129 x7 (rd x0 x8) (rd x1 0)).bind fun r1 => (if 0 ≤ x8 then (if x8 < (x6.length : Int) then (gl0 x0 x1 r1.2 (wrap64 (x8 - 1)) (x6.set (x8 : Int).toNat r1.1)) else (none)) else (none))) else (none)) else (none)) else (none)) else (none)) else ((c130 x6).bind fun r2 => ((c130 ([x7] : List Int)).bind fun r3 => (some (r2.2.take (r2.1 : Int).toNat, r3.2.take (r3.1 : Int).toNat))))
theorem e118l0 (s0 : SbT ask118.bl) (s : k118l0.T) : evPos E0 (orcOf (fes118 c128 c129 c130 c131 c132 c133)) 137 an118 (loOf (les118 gl0 gl1 gl2)) (rk118 s0) (p118.getD 0 ⟨0, [], .skip⟩) (k118l0.mk' s) = B118l0 gl0 c129 c130 s.1.1 s.1.2.1 s.1.2.2.1 s.1.2.2.2.1 s.2.1 := by kernel_rfl
noncomputable def B118l1 (x9 : Int) (x10 : (List Int)) (x12 : Int) (x14 : Int) (x11 : (List Int)) (x13 : (List Int)) : Option R118 := if x14 ≥ 0 then (if 0 ≤ x14 then (if x14 ≤ wrap64 ((wrap64 (x14 + x12)) + 1) then (if wrap64 ((wrap64 (x14 + x12)) + 1) ≤ (x11.length : Int) then (if (x11.length : Int) ≤ (x11.length : Int) then ((c133 x10 (slice_ x11 x14 (wrap64 ((wrap64 (x14 + x12)) + 1)))).bind fun r1 => (if 0 ≤ x14 then (if x14 < (x13.length : Int) then (gl1 x9 x10 x12 (wrap64 (x14 - 1)) (x11.take ((x14 : Int).toNat) ++ r1.2 ++ x11.drop ((wrap64 ((wrap64 (x14 + x12)) + 1) : Int).toNat)) (x13.set (x14 : Int).toNat r1.1)) else (none)) else (none))) else (none)) else (none)) else (none)) else (none)) else (gl2 x9 x12 x12 0 x11 x13)
theorem e118l1 (s0 : SbT ask118.bl) (s : k118l1.T) : evPos E0 (orcOf (fes118 c128 c129 c130 c131 c132 c133)) 137 an118 (loOf (les118 gl0 gl1 gl2)) (rk118 s0) (p118.getD 1 ⟨0, [], .skip⟩) (k118l1.mk' s) = B118l1 gl1 gl2 c133 s.1.1 s.1.2.1 s.1.2.2.1 s.1.2.2.2.1 s.2.1 s.2.2.1 := by kernel_rfl
noncomputable def B118l2 (x9 : Int) (x12 : Int) (x96 : Int) (x97 : Int) (x11 : (List Int)) (x13 : (List Int)) : Option R118 := if x97 < x96 then (if 0 ≤ x97 then (if x97 < (x11.length : Int) then (if 0 ≤ x9 then (if 0 ≤ x97 then (if x97 < (x11.length : Int) then (if x9 > 0 then (if wrap64 (x97 + 1) < ((x11.set (x97 : Int).toNat (shr .u64 (rd x11 x97) x9)).length : Int) then (if 0 ≤ x97 then (if x97 < ((x11.set (x97 : Int).toNat (shr .u64 (rd x11 x97) x9)).length : Int) then (if 0 ≤ wrap64 (x97 + 1) then (if wrap64 (x97 + 1) < ((x11.set (x97 : Int).toNat (shr .u64 (rd x11 x97) x9)).length : Int) then (if 0 ≤ wrap64 (64 - x9) then (if 0 ≤ x97 then (if x97 < ((x11.set (x97 : Int).toNat (shr .u64 (rd x11 x97) x9)).length : Int) then (gl2 x9 x12 x96 (wrap64 (x97 + 1)) ((x11.set (x97 : Int).toNat (shr .u64 (rd x11 x97) x9)).set (x97 : Int).toNat (Go.bits .or .u64 (rd (x11.set (x97 : Int).toNat (shr .u64 (rd x11 x97) x9)) x97) (shl .u64 (rd (x11.set (x97 : Int).toNat (shr .u64 (rd x11 x97) x9)) (wrap64 (x97 + 1))) (wrap64 (64 - x9))))) x13) else (none)) else (none)) else (none)) else (none)) else (none)) else (none)) else (none)) else (gl2 x9 x12 x96 (wrap64 (x97 + 1)) (x11.set (x97 : Int).toNat (shr .u64 (rd x11 x97) x9)) x13)) else (gl2 x9 x12 x96 (wrap64 (x97 + 1)) (x11.set (x97 : Int).toNat (shr .u64 (rd x11 x97) x9)) x13)) else (none)) else (none)) else (none)) else (none)) else (none)) else ((c130 x13).bind fun r1 => (if (0 : Int) ≤ 0 then (if 0 ≤ x12 then (if x12 ≤ (x11.length : Int) then (if (x11.length : Int) ≤ (x11.length : Int) then ((c130 (slice_ x11 0 x12)).bind fun r2 => (some (r1.2.take (r1.1 : Int).toNat, slice_ (x11.take ((0 : Int).toNat) ++ r2.2 ++ x11.drop ((x12 : Int).toNat)) 0 (0 + r2.1)))) else (none)) else (none)) else (none)) else (none)))
theorem e118l2 (s0 : SbT ask118.bl) (s : k118l2.T) : evPos E0 (orcOf (fes118 c128 c129 c130 c131 c132 c133)) 137 an118 (loOf (les118 gl0 gl1 gl2)) (rk118 s0) (p118.getD 2 ⟨0, [], .skip⟩) (k118l2.mk' s) = B118l2 gl2 c130 s.1.1 s.1.2.1 s.1.2.2.1 s.1.2.2.2.1 s.2.1 s.2.2.1 := by kernel_rfl
noncomputable def B118 (x0 : (List Int)) (x1 : (List Int)) : Option R118 := (c128 x0 x1).bind fun r1 => (if r1 < 0 then (some (([] : List Int), x0)) else (if (x1.length : Int) = 1 then (if 0 ≤ (x0.length : Int) then (if (x0.length : Int) ≤ (x0.length : Int) then (if ((x0.length : Int) : Int).toNat ≤ 35184372088832 then (gl0 x0 x1 0 (wrap64 ((x0.length : Int) - 1)) (List.replicate ((x0.length : Int) : Int).toNat (0 : Int))) else (none)) else (none)) else (none)) else (if 0 ≤ wrap64 ((x1.length : Int) - 1) then (if wrap64 ((x1.length : Int) - 1) < (x1.length : Int) then ((c131 (rd x1 (wrap64 ((x1.length : Int) - 1)))).bind fun r2 => ((c132 x1 r2).bind fun r3 => ((c130 r3).bind fun r4 => ((c132 x0 r2).bind fun r5 => (if 0 ≤ wrap64 ((wrap64 ((x0.length : Int) - ((r4.2.take (r4.1 : Int).toNat).length : Int))) + 1) then (if wrap64 ((wrap64 ((x0.length : Int) - ((r4.2.take (r4.1 : Int).toNat).length : Int))) + 1) ≤ wrap64 ((wrap64 ((x0.length : Int) - ((r4.2.take (r4.1 : Int).toNat).length : Int))) + 1) then (if (wrap64 ((wrap64 ((x0.length : Int) - ((r4.2.take (r4.1 : Int).toNat).length : Int))) + 1) : Int).toNat ≤ 35184372088832 then (gl1 r2 (r4.2.take (r4.1 : Int).toNat) ((r4.2.take (r4.1 : Int).toNat).length : Int) (wrap64 ((x0.length : Int) - ((r4.2.take (r4.1 : Int).toNat).length : Int))) r5 (List.replicate (wrap64 ((wrap64 ((x0.length : Int) - ((r4.2.take (r4.1 : Int).toNat).length : Int))) + 1) : Int).toNat (0 : Int))) else (none)) else (none)) else (none)))))) else (none)) else (none))))
theorem e118 (s : ask118.T) : evFn E0 (orcOf (fes118 c128 c129 c130 c131 c132 c133)) an118 (loOf (les118 gl0 gl1 gl2)) 137 cd118 Go.Proofs.Try.f118.results.toList rm118 (ask118.mk' s) (decW rsk118 dec118) = B118 gl0 gl1 c128 c130 c131 c132 s.1.1 s.1.2.1 := by kernel_rfl
end
noncomputable def an119 : Ann := ⟨[(3, [(0, .any), (3, .any), (12, .any), (13, .any)])], [], []⟩
noncomputable def cd119 : Code := (Go.Proofs.Try.f119.body).getD .skip
noncomputable def p119 : List Pos := posns an119 [] cd119
noncomputable def rm119 : List RM := [.own (.it .u64)]
noncomputable def rk119 (s0 : SbT ask119.bl) : KX R119 := retK E0 Go.Proofs.Try.f119.results.toList rm119 (mkB ask119.bl s0) (decW rsk119 dec119)
noncomputable def k119l0 : Sk := ⟨[(0, .d .st), (3, .f (.a (.ref 3))), (12, .d (.it .i64)), (13, .d (.it .i64))], [(3, .own (.it .u64) true)]⟩
noncomputable def les119 (gl0 : ByteArray → Int → Int → (List Int) → Option R119) : List (LoE R119) := [⟨3, k119l0, fun s => gl0 s.1.1 s.1.2.1 s.1.2.2.1 s.2.1⟩]
noncomputable def fes119 (c130 : (List Int) → Option R130) : List FE := [(fe130 c130)]
section
variable (gl0 : ByteArray → Int → Int → (List Int) → Option R119) (c130 : (List Int) → Option R130)
noncomputable def B119l0 (x0 : ByteArray) (x12 : Int) (x13 : Int) (x3 : (List Int)) : Option R119 := if x13 < x12 then (if (8 : Int) = 0 then (none) else (if 0 ≤ wrap64 (Int.tdiv (wrap64 ((wrap64 ((x0.size : Int) - 1)) - x13)) 8) then (if wrap64 (Int.tdiv (wrap64 ((wrap64 ((x0.size : Int) - 1)) - x13)) 8) < (x3.length : Int) then (if 0 ≤ x13 then (if x13 < (x0.size : Int) then (if (8 : Int) = 0 then (none) else (if 0 ≤ wrap64 (8 * (Int.tmod (wrap64 ((wrap64 ((x0.size : Int) - 1)) - x13)) 8)) then (if 0 ≤ wrap64 (Int.tdiv (wrap64 ((wrap64 ((x0.size : Int) - 1)) - x13)) 8) then (if wrap64 (Int.tdiv (wrap64 ((wrap64 ((x0.size : Int) - 1)) - x13)) 8) < (x3.length : Int) then (gl0 x0 x12 (wrap64 (x13 + 1)) (x3.set (wrap64 (Int.tdiv (wrap64 ((wrap64 ((x0.size : Int) - 1)) - x13)) 8) : Int).toNat (Go.bits .or .u64 (rd x3 (wrap64 (Int.tdiv (wrap64 ((wrap64 ((x0.size : Int) - 1)) - x13)) 8))) (shl .u64 (IntKind.u64.wrap (bt x0 x13)) (wrap64 (8 * (Int.tmod (wrap64 ((wrap64 ((x0.size : Int) - 1)) - x13)) 8))))))) else (none)) else (none)) else (none))) else (none)) else (none)) else (none)) else (none))) else ((c130 x3).bind fun r1 => (some (r1.2.take (r1.1 : Int).toNat)))
theorem e119l0 (s0 : SbT ask119.bl) (s : k119l0.T) : evPos E0 (orcOf (fes119 c130)) 39 an119 (loOf (les119 gl0)) (rk119 s0) (p119.getD 0 ⟨0, [], .skip⟩) (k119l0.mk' s) = B119l0 gl0 c130 s.1.1 s.1.2.1 s.1.2.2.1 s.2.1 := by kernel_rfl
noncomputable def B119 (x0 : ByteArray) : Option R119 := if (8 : Int) = 0 then (none) else (if 0 ≤ wrap64 (Int.tdiv (wrap64 ((x0.size : Int) + 7)) 8) then (if wrap64 (Int.tdiv (wrap64 ((x0.size : Int) + 7)) 8) ≤ wrap64 (Int.tdiv (wrap64 ((x0.size : Int) + 7)) 8) then (if (wrap64 (Int.tdiv (wrap64 ((x0.size : Int) + 7)) 8) : Int).toNat ≤ 35184372088832 then (gl0 x0 (x0.size : Int) 0 (List.replicate (wrap64 (Int.tdiv (wrap64 ((x0.size : Int) + 7)) 8) : Int).toNat (0 : Int))) else (none)) else (none)) else (none))
theorem e119 (s : ask119.T) : evFn E0 (orcOf (fes119 c130)) an119 (loOf (les119 gl0)) 39 cd119 Go.Proofs.Try.f119.results.toList rm119 (ask119.mk' s) (decW rsk119 dec119) = B119 gl0 s.1.1 := by kernel_rfl
end
noncomputable def an120 : Ann := ⟨[(6, [(3, .any), (17, .any), (18, .any), (19, .any)]), (9, [(3, .any), (4, .any), (5, .any), (17, .any), (18, .any), (19, .any), (24, .any)]), (15, [(3, .any), (7, .any)])], [], []⟩
noncomputable def cd120 : Code := (Go.Proofs.Try.f120.body).getD .skip
noncomputable def p120 : List Pos := posns an120 [] cd120
noncomputable def rm120 : List RM := [.d .st]
noncomputable def rk120 (s0 : SbT ask120.bl) : KX R120 := retK E0 Go.Proofs.Try.f120.results.toList rm120 (mkB ask120.bl s0) (decW rsk120 dec120)
noncomputable def k120l0 : Sk := ⟨[(3, .f (.a (.ref 3))), (17, .d (.li (.it .u64))), (18, .d (.it .i64)), (19, .d (.it .i64))], [(3, .own (.it .u8) true)]⟩
noncomputable def k120l1 : Sk := ⟨[(3, .f (.a (.ref 3))), (4, .d (.it .i64)), (5, .d (.it .u64)), (17, .d (.li (.it .u64))), (18, .d (.it .i64)), (19, .d (.it .i64)), (24, .d (.it .i64))], [(3, .own (.it .u8) true)]⟩
noncomputable def k120l2 : Sk := ⟨[(3, .f (.a (.ref 3))), (7, .d (.it .i64))], [(3, .own (.it .u8) true)]⟩
noncomputable def les120 (gl0 : (List Int) → Int → Int → (List Int) → Option R120) (gl1 : Int → Int → (List Int) → Int → Int → Int → (List Int) → Option R120) (gl2 : Int → (List Int) → Option R120) : List (LoE R120) := [⟨6, k120l0, fun s => gl0 s.1.1 s.1.2.1 s.1.2.2.1 s.2.1⟩, ⟨9, k120l1, fun s => gl1 s.1.1 s.1.2.1 s.1.2.2.1 s.1.2.2.2.1 s.1.2.2.2.2.1 s.1.2.2.2.2.2.1 s.2.1⟩, ⟨15, k120l2, fun s => gl2 s.1.1 s.2.1⟩]
noncomputable def fes120 (c130v : (List Int) → Option R130v) : List FE := [(fe130v c130v)]
section
variable (gl0 : (List Int) → Int → Int → (List Int) → Option R120) (gl1 : Int → Int → (List Int) → Int → Int → Int → (List Int) → Option R120) (gl2 : Int → (List Int) → Option R120) (c130v : (List Int) → Option R130v)
noncomputable def B120l0 (x17 : (List Int)) (x18 : Int) (x19 : Int) (x3 : (List Int)) : Option R120 := if x19 < x18 then (if 0 ≤ x19 then (if x19 < (x17.length : Int) then (gl1 x19 (rd x17 x19) x17 x18 x19 0 x3) else (none)) else (none)) else (gl2 0 x3)
theorem e120l0 (s0 : SbT ask120.bl) (s : k120l0.T) : evPos E0 (orcOf (fes120 c130v)) 55 an120 (loOf (les120 gl0 gl1 gl2)) (rk120 s0) (p120.getD 0 ⟨0, [], .skip⟩) (k120l0.mk' s) = B120l0 gl1 gl2 s.1.1 s.1.2.1 s.1.2.2.1 s.2.1 := by kernel_rfl
noncomputable def B120l1 (x4 : Int) (x5 : Int) (x17 : (List Int)) (x18 : Int) (x19 : Int) (x24 : Int) (x3 : (List Int)) : Option R120 := if x24 < 8 then (if 0 ≤ wrap64 (8 * x24) then (if 0 ≤ wrap64 ((wrap64 ((wrap64 ((x3.length : Int) - 1)) - (wrap64 (8 * x4)))) - x24) then (if wrap64 ((wrap64 ((wrap64 ((x3.length : Int) - 1)) - (wrap64 (8 * x4)))) - x24) < (x3.length : Int) then (gl1 x4 x5 x17 x18 x19 (wrap64 (x24 + 1)) (x3.set (wrap64 ((wrap64 ((wrap64 ((x3.length : Int) - 1)) - (wrap64 (8 * x4)))) - x24) : Int).toNat (IntKind.u8.wrap (shr .u64 x5 (wrap64 (8 * x24)))))) else (none)) else (none)) else (none)) else (gl0 x17 x18 (wrap64 (x19 + 1)) x3)
theorem e120l1 (s0 : SbT ask120.bl) (s : k120l1.T) : evPos E0 (orcOf (fes120 c130v)) 55 an120 (loOf (les120 gl0 gl1 gl2)) (rk120 s0) (p120.getD 1 ⟨0, [], .skip⟩) (k120l1.mk' s) = B120l1 gl0 gl1 s.1.1 s.1.2.1 s.1.2.2.1 s.1.2.2.2.1 s.1.2.2.2.2.1 s.1.2.2.2.2.2.1 s.2.1 := by kernel_rfl
noncomputable def B120l2 (x7 : Int) (x3 : (List Int)) : Option R120 := if 0 ≤ x7 then (if x7 < (x3.length : Int) then (if rd x3 x7 = 0 then (gl2 (wrap64 (x7 + 1)) x3) else (if 0 ≤ x7 then (if x7 ≤ (x3.length : Int) then (if (x3.length : Int) ≤ (x3.length : Int) then (if (x3.length : Int) ≤ (x3.length : Int) then (some (strOfNums (slice_ x3 x7 (x3.length : Int)))) else (none)) else (none)) else (none)) else (none))) else (none)) else (none)
theorem e120l2 (s0 : SbT ask120.bl) (s : k120l2.T) : evPos E0 (orcOf (fes120 c130v)) 55 an120 (loOf (les120 gl0 gl1 gl2)) (rk120 s0) (p120.getD 2 ⟨0, [], .skip⟩) (k120l2.mk' s) = B120l2 gl2 s.1.1 s.2.1 := by kernel_rfl
noncomputable def B120 (x0 : (List Int)) : Option R120 := (c130v x0).bind fun r1 => (if (r1.length : Int) = 0 then (some (⟨#[]⟩ : ByteArray)) else (if 0 ≤ wrap64 (8 * (r1.length : Int)) then (if wrap64 (8 * (r1.length : Int)) ≤ wrap64 (8 * (r1.length : Int)) then (if (wrap64 (8 * (r1.length : Int)) : Int).toNat ≤ 281474976710656 then (gl0 r1 (r1.length : Int) 0 (List.replicate (wrap64 (8 * (r1.length : Int)) : Int).toNat (0 : Int))) else (none)) else (none)) else (none)))
theorem e120 (s : ask120.T) : evFn E0 (orcOf (fes120 c130v)) an120 (loOf (les120 gl0 gl1 gl2)) 55 cd120 Go.Proofs.Try.f120.results.toList rm120 (ask120.mk' s) (decW rsk120 dec120) = B120 gl0 c130v s.1.1 := by kernel_rfl
end
noncomputable def an123 : Ann := ⟨[(3, [(1, .any), (5, .any), (20, .any), (21, .any), (22, .any)]), (7, [(1, .any), (5, .any), (6, .any), (7, .any), (8, .any), (20, .any), (21, .any), (22, .any), (27, .any), (28, .any), (29, .any)])], [], []⟩
noncomputable def cd123 : Code := (Go.Proofs.Try.f123.body).getD .skip
noncomputable def p123 : List Pos := posns an123 [] cd123
noncomputable def rm123 : List RM := [.d (.li (.it .u64))]
noncomputable def rk123 (s0 : SbT ask123.bl) : KX R123 := retK E0 Go.Proofs.Try.f123.results.toList rm123 (mkB ask123.bl s0) (decW rsk123 dec123)
noncomputable def k123l0 : Sk := ⟨[(1, .d (.li (.it .u64))), (5, .f (.a (.ref 5))), (20, .d (.li (.it .u64))), (21, .d (.it .i64)), (22, .d (.it .i64))], [(5, .own (.it .u64) true)]⟩
noncomputable def k123l1 : Sk := ⟨[(1, .d (.li (.it .u64))), (5, .f (.a (.ref 5))), (6, .d (.it .i64)), (7, .d (.it .u64)), (8, .d (.it .u64)), (20, .d (.li (.it .u64))), (21, .d (.it .i64)), (22, .d (.it .i64)), (27, .d (.li (.it .u64))), (28, .d (.it .i64)), (29, .d (.it .i64))], [(5, .own (.it .u64) true)]⟩
noncomputable def les123 (gl0 : (List Int) → (List Int) → Int → Int → (List Int) → Option R123) (gl1 : (List Int) → Int → Int → Int → (List Int) → Int → Int → (List Int) → Int → Int → (List Int) → Option R123) : List (LoE R123) := [⟨3, k123l0, fun s => gl0 s.1.1 s.1.2.1 s.1.2.2.1 s.1.2.2.2.1 s.2.1⟩, ⟨7, k123l1, fun s => gl1 s.1.1 s.1.2.1 s.1.2.2.1 s.1.2.2.2.1 s.1.2.2.2.2.1 s.1.2.2.2.2.2.1 s.1.2.2.2.2.2.2.1 s.1.2.2.2.2.2.2.2.1 s.1.2.2.2.2.2.2.2.2.1 s.1.2.2.2.2.2.2.2.2.2.1 s.2.1⟩]
noncomputable def fes123 (c121 : Int → Int → Int → Option R121) (c130 : (List Int) → Option R130) (c134 : Int → Int → Option R134) : List FE := [(fe121 c121), (fe130 c130), (fe134 c134)]
section
variable (gl0 : (List Int) → (List Int) → Int → Int → (List Int) → Option R123) (gl1 : (List Int) → Int → Int → Int → (List Int) → Int → Int → (List Int) → Int → Int → (List Int) → Option R123) (c121 : Int → Int → Int → Option R121) (c130 : (List Int) → Option R130) (c134 : Int → Int → Option R134)
noncomputable def B123l0 (x1 : (List Int)) (x20 : (List Int)) (x21 : Int) (x22 : Int) (x5 : (List Int)) : Option R123 := if x22 < x21 then (if 0 ≤ x22 then (if x22 < (x20.length : Int) then (gl1 x1 x22 (rd x20 x22) 0 x20 x21 x22 x1 (x1.length : Int) 0 x5) else (none)) else (none)) else ((c130 x5).bind fun r1 => (some (r1.2.take (r1.1 : Int).toNat)))
theorem e123l0 (s0 : SbT ask123.bl) (s : k123l0.T) : evPos E0 (orcOf (fes123 c121 c130 c134)) 80 an123 (loOf (les123 gl0 gl1)) (rk123 s0) (p123.getD 0 ⟨0, [], .skip⟩) (k123l0.mk' s) = B123l0 gl1 c130 s.1.1 s.1.2.1 s.1.2.2.1 s.1.2.2.2.1 s.2.1 := by kernel_rfl
noncomputable def B123l1 (x1 : (List Int)) (x6 : Int) (x7 : Int) (x8 : Int) (x20 : (List Int)) (x21 : Int) (x22 : Int) (x27 : (List Int)) (x28 : Int) (x29 : Int) (x5 : (List Int)) : Option R123 := if x29 < x28 then (if 0 ≤ x29 then (if x29 < (x27.length : Int) then ((c134 x7 (rd x27 x29)).bind fun r1 => (if 0 ≤ wrap64 (x6 + x29) then (if wrap64 (x6 + x29) < (x5.length : Int) then ((c121 r1.2 (rd x5 (wrap64 (x6 + x29))) 0).bind fun r2 => ((c121 r2.1 x8 0).bind fun r3 => (if 0 ≤ wrap64 (x6 + x29) then (if wrap64 (x6 + x29) < (x5.length : Int) then (gl1 x1 x6 x7 (IntKind.u64.wrap ((IntKind.u64.wrap (r1.1 + r2.2)) + r3.2)) x20 x21 x22 x27 x28 (wrap64 (x29 + 1)) (x5.set (wrap64 (x6 + x29) : Int).toNat r3.1)) else (none)) else (none)))) else (none)) else (none))) else (none)) else (none)) else (if 0 ≤ wrap64 (x6 + (x1.length : Int)) then (if wrap64 (x6 + (x1.length : Int)) < (x5.length : Int) then (gl0 x1 x20 x21 (wrap64 (x22 + 1)) (x5.set (wrap64 (x6 + (x1.length : Int)) : Int).toNat x8)) else (none)) else (none))
theorem e123l1 (s0 : SbT ask123.bl) (s : k123l1.T) : evPos E0 (orcOf (fes123 c121 c130 c134)) 80 an123 (loOf (les123 gl0 gl1)) (rk123 s0) (p123.getD 1 ⟨0, [], .skip⟩) (k123l1.mk' s) = B123l1 gl0 gl1 c121 c134 s.1.1 s.1.2.1 s.1.2.2.1 s.1.2.2.2.1 s.1.2.2.2.2.1 s.1.2.2.2.2.2.1 s.1.2.2.2.2.2.2.1 s.1.2.2.2.2.2.2.2.1 s.1.2.2.2.2.2.2.2.2.1 s.1.2.2.2.2.2.2.2.2.2.1 s.2.1 := by kernel_rfl
noncomputable def B123 (x0 : (List Int)) (x1 : (List Int)) : Option R123 := if 0 ≤ wrap64 ((x0.length : Int) + (x1.length : Int)) then (if wrap64 ((x0.length : Int) + (x1.length : Int)) ≤ wrap64 ((x0.length : Int) + (x1.length : Int)) then (if (wrap64 ((x0.length : Int) + (x1.length : Int)) : Int).toNat ≤ 35184372088832 then (gl0 x1 x0 (x0.length : Int) 0 (List.replicate (wrap64 ((x0.length : Int) + (x1.length : Int)) : Int).toNat (0 : Int))) else (none)) else (none)) else (none)
theorem e123 (s : ask123.T) : evFn E0 (orcOf (fes123 c121 c130 c134)) an123 (loOf (les123 gl0 gl1)) 80 cd123 Go.Proofs.Try.f123.results.toList rm123 (ask123.mk' s) (decW rsk123 dec123) = B123 gl0 s.1.1 s.1.2.1 := by kernel_rfl
end
noncomputable def an124 : Ann := ⟨[], [], []⟩
noncomputable def cd124 : Code := (Go.Proofs.Try.f124.body).getD .skip
noncomputable def rm124 : List RM := [.d .st]
noncomputable def les124 : List (LoE R124) := []
noncomputable def fes124 : List FE := []
noncomputable def B124 (x0 : Int) : Option R124 := if (8 : Int) = 0 then (none) else (if 0 ≤ wrap64 ((wrap64 (Int.tdiv x0 8)) + 1) then (if wrap64 ((wrap64 (Int.tdiv x0 8)) + 1) ≤ wrap64 ((wrap64 (Int.tdiv x0 8)) + 1) then (if (wrap64 ((wrap64 (Int.tdiv x0 8)) + 1) : Int).toNat ≤ 281474976710656 then (if (8 : Int) = 0 then (none) else (if 0 ≤ Int.tmod x0 8 then (if (0 : Int) ≤ 0 then (if 0 < ((List.replicate (wrap64 ((wrap64 (Int.tdiv x0 8)) + 1) : Int).toNat (0 : Int)).length : Int) then (some (strOfNums ((List.replicate (wrap64 ((wrap64 (Int.tdiv x0 8)) + 1) : Int).toNat (0 : Int)).set (0 : Int).toNat (shl .u8 1 (Int.tmod x0 8))))) else (none)) else (none)) else (none))) else (none)) else (none)) else (none))
theorem e124 (s : ask124.T) : evFn E0 (orcOf (fes124)) an124 (loOf (les124)) 15 cd124 Go.Proofs.Try.f124.results.toList rm124 (ask124.mk' s) (decW rsk124 dec124) = B124 s.1.1 := by kernel_rfl
noncomputable def an128 : Ann := ⟨[(6, [(0, .any), (1, .any), (5, .any)])], [], []⟩
noncomputable def cd128 : Code := (Go.Proofs.Try.f128.body).getD .skip
noncomputable def p128 : List Pos := posns an128 [] cd128
noncomputable def rm128 : List RM := [.d (.it .i64)]
noncomputable def rk128 (s0 : SbT ask128.bl) : KX R128 := retK E0 Go.Proofs.Try.f128.results.toList rm128 (mkB ask128.bl s0) (decW rsk128 dec128)
noncomputable def k128l0 : Sk := ⟨[(0, .d (.li (.it .u64))), (1, .d (.li (.it .u64))), (5, .d (.it .i64))], []⟩
noncomputable def les128 (gl0 : (List Int) → (List Int) → Int → Option R128) : List (LoE R128) := [⟨6, k128l0, fun s => gl0 s.1.1 s.1.2.1 s.1.2.2.1⟩]
noncomputable def fes128 : List FE := []
section
variable (gl0 : (List Int) → (List Int) → Int → Option R128)
noncomputable def B128l0 (x0 : (List Int)) (x1 : (List Int)) (x5 : Int) : Option R128 := if x5 ≥ 0 then (if 0 ≤ x5 then (if x5 < (x0.length : Int) then (if 0 ≤ x5 then (if x5 < (x1.length : Int) then (if rd x0 x5 ≠ rd x1 x5 then (if 0 ≤ x5 then (if x5 < (x0.length : Int) then (if 0 ≤ x5 then (if x5 < (x1.length : Int) then (if rd x0 x5 < rd x1 x5 then (some (-1)) else (some 1)) else (none)) else (none)) else (none)) else (none)) else (gl0 x0 x1 (wrap64 (x5 - 1)))) else (none)) else (none)) else (none)) else (none)) else (some 0)
theorem e128l0 (s0 : SbT ask128.bl) (s : k128l0.T) : evPos E0 (orcOf (fes128)) 41 an128 (loOf (les128 gl0)) (rk128 s0) (p128.getD 0 ⟨0, [], .skip⟩) (k128l0.mk' s) = B128l0 gl0 s.1.1 s.1.2.1 s.1.2.2.1 := by kernel_rfl
noncomputable def B128 (x0 : (List Int)) (x1 : (List Int)) : Option R128 := if (x0.length : Int) ≠ (x1.length : Int) then (if (x0.length : Int) < (x1.length : Int) then (some (-1)) else (some 1)) else (gl0 x0 x1 (wrap64 ((x0.length : Int) - 1)))
theorem e128 (s : ask128.T) : evFn E0 (orcOf (fes128)) an128 (loOf (les128 gl0)) 41 cd128 Go.Proofs.Try.f128.results.toList rm128 (ask128.mk' s) (decW rsk128 dec128) = B128 gl0 s.1.1 s.1.2.1 := by kernel_rfl
end
noncomputable def an129 : Ann := ⟨[(17, [(2, .any), (8, .any), (9, .any), (10, .any), (11, .any), (13, .any), (14, .any), (15, .any), (16, .any)]), (24, [(2, .any), (8, .any), (9, .any), (10, .any), (14, .any), (15, .any), (16, .any), (17, .any), (18, .any)])], [], []⟩
noncomputable def cd129 : Code := (Go.Proofs.Try.f129.body).getD .skip
noncomputable def p129 : List Pos := posns an129 [] cd129
noncomputable def rm129 : List RM := [.d (.it .u64), .d (.it .u64)]
noncomputable def rk129 (s0 : SbT ask129.bl) : KX R129 := retK E0 Go.Proofs.Try.f129.results.toList rm129 (mkB ask129.bl s0) (decW rsk129 dec129)
noncomputable def k129l0 : Sk := ⟨[(2, .d (.it .u64)), (8, .d (.it .u64)), (9, .d (.it .u64)), (10, .d (.it .u64)), (11, .d (.it .u64)), (13, .d (.it .u64)), (14, .d (.it .u64)), (15, .d (.it .u64)), (16, .d (.it .u64))], []⟩
noncomputable def k129l1 : Sk := ⟨[(2, .d (.it .u64)), (8, .d (.it .u64)), (9, .d (.it .u64)), (10, .d (.it .u64)), (14, .d (.it .u64)), (15, .d (.it .u64)), (16, .d (.it .u64)), (17, .d (.it .u64)), (18, .d (.it .u64))], []⟩
noncomputable def les129 (gl0 : Int → Int → Int → Int → Int → Int → Int → Int → Int → Option R129) (gl1 : Int → Int → Int → Int → Int → Int → Int → Int → Int → Option R129) : List (LoE R129) := [⟨17, k129l0, fun s => gl0 s.1.1 s.1.2.1 s.1.2.2.1 s.1.2.2.2.1 s.1.2.2.2.2.1 s.1.2.2.2.2.2.1 s.1.2.2.2.2.2.2.1 s.1.2.2.2.2.2.2.2.1 s.1.2.2.2.2.2.2.2.2.1⟩, ⟨24, k129l1, fun s => gl1 s.1.1 s.1.2.1 s.1.2.2.1 s.1.2.2.2.1 s.1.2.2.2.2.1 s.1.2.2.2.2.2.1 s.1.2.2.2.2.2.2.1 s.1.2.2.2.2.2.2.2.1 s.1.2.2.2.2.2.2.2.2.1⟩]
noncomputable def fes129 (c131 : Int → Option R131) : List FE := [(fe131 c131)]
section
variable (gl0 : Int → Int → Int → Int → Int → Int → Int → Int → Int → Option R129) (gl1 : Int → Int → Int → Int → Int → Int → Int → Int → Int → Option R129) (c131 : Int → Option R131)
noncomputable def B129l0 (x2 : Int) (x8 : Int) (x9 : Int) (x10 : Int) (x11 : Int) (x13 : Int) (x14 : Int) (x15 : Int) (x16 : Int) : Option R129 := if x15 ≥ 4294967296 then (if IntKind.u64.wrap (x16 + x9) ≥ 4294967296 then (if x9 = 0 then (none) else (gl1 x2 x8 x9 x10 x14 (IntKind.u64.wrap (x15 - 1)) (IntKind.u64.wrap ((IntKind.u64.wrap ((IntKind.u64.wrap ((IntKind.u64.wrap (x11 * 4294967296)) + x13)) - (IntKind.u64.wrap ((IntKind.u64.wrap (x15 - 1)) * x2)))) - (IntKind.u64.wrap ((IntKind.u64.wrap (Int.tdiv (IntKind.u64.wrap ((IntKind.u64.wrap ((IntKind.u64.wrap (x11 * 4294967296)) + x13)) - (IntKind.u64.wrap ((IntKind.u64.wrap (x15 - 1)) * x2)))) x9)) * x9)))) (IntKind.u64.wrap ((IntKind.u64.wrap ((IntKind.u64.wrap (x11 * 4294967296)) + x13)) - (IntKind.u64.wrap ((IntKind.u64.wrap (x15 - 1)) * x2)))) (IntKind.u64.wrap (Int.tdiv (IntKind.u64.wrap ((IntKind.u64.wrap ((IntKind.u64.wrap (x11 * 4294967296)) + x13)) - (IntKind.u64.wrap ((IntKind.u64.wrap (x15 - 1)) * x2)))) x9)))) else (gl0 x2 x8 x9 x10 x11 x13 x14 (IntKind.u64.wrap (x15 - 1)) (IntKind.u64.wrap (x16 + x9)))) else (if IntKind.u64.wrap (x15 * x10) > IntKind.u64.wrap ((IntKind.u64.wrap (4294967296 * x16)) + x13) then (if IntKind.u64.wrap (x16 + x9) ≥ 4294967296 then (if x9 = 0 then (none) else (gl1 x2 x8 x9 x10 x14 (IntKind.u64.wrap (x15 - 1)) (IntKind.u64.wrap ((IntKind.u64.wrap ((IntKind.u64.wrap ((IntKind.u64.wrap (x11 * 4294967296)) + x13)) - (IntKind.u64.wrap ((IntKind.u64.wrap (x15 - 1)) * x2)))) - (IntKind.u64.wrap ((IntKind.u64.wrap (Int.tdiv (IntKind.u64.wrap ((IntKind.u64.wrap ((IntKind.u64.wrap (x11 * 4294967296)) + x13)) - (IntKind.u64.wrap ((IntKind.u64.wrap (x15 - 1)) * x2)))) x9)) * x9)))) (IntKind.u64.wrap ((IntKind.u64.wrap ((IntKind.u64.wrap (x11 * 4294967296)) + x13)) - (IntKind.u64.wrap ((IntKind.u64.wrap (x15 - 1)) * x2)))) (IntKind.u64.wrap (Int.tdiv (IntKind.u64.wrap ((IntKind.u64.wrap ((IntKind.u64.wrap (x11 * 4294967296)) + x13)) - (IntKind.u64.wrap ((IntKind.u64.wrap (x15 - 1)) * x2)))) x9)))) else (gl0 x2 x8 x9 x10 x11 x13 x14 (IntKind.u64.wrap (x15 - 1)) (IntKind.u64.wrap (x16 + x9)))) else (if x9 = 0 then (none) else (gl1 x2 x8 x9 x10 x14 x15 (IntKind.u64.wrap ((IntKind.u64.wrap ((IntKind.u64.wrap ((IntKind.u64.wrap (x11 * 4294967296)) + x13)) - (IntKind.u64.wrap (x15 * x2)))) - (IntKind.u64.wrap ((IntKind.u64.wrap (Int.tdiv (IntKind.u64.wrap ((IntKind.u64.wrap ((IntKind.u64.wrap (x11 * 4294967296)) + x13)) - (IntKind.u64.wrap (x15 * x2)))) x9)) * x9)))) (IntKind.u64.wrap ((IntKind.u64.wrap ((IntKind.u64.wrap (x11 * 4294967296)) + x13)) - (IntKind.u64.wrap (x15 * x2)))) (IntKind.u64.wrap (Int.tdiv (IntKind.u64.wrap ((IntKind.u64.wrap ((IntKind.u64.wrap (x11 * 4294967296)) + x13)) - (IntKind.u64.wrap (x15 * x2)))) x9)))))
theorem e129l0 (s0 : SbT ask129.bl) (s : k129l0.T) : evPos E0 (orcOf (fes129 c131)) 135 an129 (loOf (les129 gl0 gl1)) (rk129 s0) (p129.getD 0 ⟨0, [], .skip⟩) (k129l0.mk' s) = B129l0 gl0 gl1 s.1.1 s.1.2.1 s.1.2.2.1 s.1.2.2.2.1 s.1.2.2.2.2.1 s.1.2.2.2.2.2.1 s.1.2.2.2.2.2.2.1 s.1.2.2.2.2.2.2.2.1 s.1.2.2.2.2.2.2.2.2.1 := by kernel_rfl
noncomputable def B129l1 (x2 : Int) (x8 : Int) (x9 : Int) (x10 : Int) (x14 : Int) (x15 : Int) (x16 : Int) (x17 : Int) (x18 : Int) : Option R129 := if x18 ≥ 4294967296 then (if IntKind.u64.wrap (x16 + x9) ≥ 4294967296 then (if 0 ≤ x8 then (some (IntKind.u64.wrap ((IntKind.u64.wrap (x15 * 4294967296)) + (IntKind.u64.wrap (x18 - 1))), shr .u64 (IntKind.u64.wrap ((IntKind.u64.wrap ((IntKind.u64.wrap (x17 * 4294967296)) + x14)) - (IntKind.u64.wrap ((IntKind.u64.wrap (x18 - 1)) * x2)))) x8)) else (none)) else (gl1 x2 x8 x9 x10 x14 x15 (IntKind.u64.wrap (x16 + x9)) x17 (IntKind.u64.wrap (x18 - 1)))) else (if IntKind.u64.wrap (x18 * x10) > IntKind.u64.wrap ((IntKind.u64.wrap (4294967296 * x16)) + x14) then (if IntKind.u64.wrap (x16 + x9) ≥ 4294967296 then (if 0 ≤ x8 then (some (IntKind.u64.wrap ((IntKind.u64.wrap (x15 * 4294967296)) + (IntKind.u64.wrap (x18 - 1))), shr .u64 (IntKind.u64.wrap ((IntKind.u64.wrap ((IntKind.u64.wrap (x17 * 4294967296)) + x14)) - (IntKind.u64.wrap ((IntKind.u64.wrap (x18 - 1)) * x2)))) x8)) else (none)) else (gl1 x2 x8 x9 x10 x14 x15 (IntKind.u64.wrap (x16 + x9)) x17 (IntKind.u64.wrap (x18 - 1)))) else (if 0 ≤ x8 then (some (IntKind.u64.wrap ((IntKind.u64.wrap (x15 * 4294967296)) + x18), shr .u64 (IntKind.u64.wrap ((IntKind.u64.wrap ((IntKind.u64.wrap (x17 * 4294967296)) + x14)) - (IntKind.u64.wrap (x18 * x2)))) x8)) else (none)))
theorem e129l1 (s0 : SbT ask129.bl) (s : k129l1.T) : evPos E0 (orcOf (fes129 c131)) 135 an129 (loOf (les129 gl0 gl1)) (rk129 s0) (p129.getD 1 ⟨0, [], .skip⟩) (k129l1.mk' s) = B129l1 gl1 s.1.1 s.1.2.1 s.1.2.2.1 s.1.2.2.2.1 s.1.2.2.2.2.1 s.1.2.2.2.2.2.1 s.1.2.2.2.2.2.2.1 s.1.2.2.2.2.2.2.2.1 s.1.2.2.2.2.2.2.2.2.1 := by kernel_rfl
noncomputable def B129 (x0 : Int) (x1 : Int) (x2 : Int) : Option R129 := if x2 = 0 then (none) else (if x2 ≤ x0 then (none) else (if x0 = 0 then (if x2 = 0 then (none) else (if x2 = 0 then (none) else (some (IntKind.u64.wrap (Int.tdiv x1 x2), Int.tmod x1 x2)))) else ((c131 x2).bind fun r1 => (if 0 ≤ IntKind.u64.wrap (r1) then (if (0 : Int) ≤ 32 then (if 0 ≤ IntKind.u64.wrap (r1) then (if 0 ≤ IntKind.u64.wrap (64 - (IntKind.u64.wrap (r1))) then (if 0 ≤ IntKind.u64.wrap (r1) then (if (0 : Int) ≤ 32 then (if (shl .u64 x2 (IntKind.u64.wrap (r1))) / 4294967296 = 0 then (none) else (gl0 (shl .u64 x2 (IntKind.u64.wrap (r1))) (IntKind.u64.wrap (r1)) ((shl .u64 x2 (IntKind.u64.wrap (r1))) / 4294967296) (Go.bits .and .u64 (shl .u64 x2 (IntKind.u64.wrap (r1))) 4294967295) (Go.bits .or .u64 (shl .u64 x0 (IntKind.u64.wrap (r1))) (shr .u64 x1 (IntKind.u64.wrap (64 - (IntKind.u64.wrap (r1)))))) ((shl .u64 x1 (IntKind.u64.wrap (r1))) / 4294967296) (Go.bits .and .u64 (shl .u64 x1 (IntKind.u64.wrap (r1))) 4294967295) (IntKind.u64.wrap (Int.tdiv (Go.bits .or .u64 (shl .u64 x0 (IntKind.u64.wrap (r1))) (shr .u64 x1 (IntKind.u64.wrap (64 - (IntKind.u64.wrap (r1)))))) ((shl .u64 x2 (IntKind.u64.wrap (r1))) / 4294967296))) (IntKind.u64.wrap ((Go.bits .or .u64 (shl .u64 x0 (IntKind.u64.wrap (r1))) (shr .u64 x1 (IntKind.u64.wrap (64 - (IntKind.u64.wrap (r1)))))) - (IntKind.u64.wrap ((IntKind.u64.wrap (Int.tdiv (Go.bits .or .u64 (shl .u64 x0 (IntKind.u64.wrap (r1))) (shr .u64 x1 (IntKind.u64.wrap (64 - (IntKind.u64.wrap (r1)))))) ((shl .u64 x2 (IntKind.u64.wrap (r1))) / 4294967296))) * ((shl .u64 x2 (IntKind.u64.wrap (r1))) / 4294967296))))))) else (none)) else (none)) else (none)) else (none)) else (none)) else (none)))))
theorem e129 (s : ask129.T) : evFn E0 (orcOf (fes129 c131)) an129 (loOf (les129 gl0 gl1)) 135 cd129 Go.Proofs.Try.f129.results.toList rm129 (ask129.mk' s) (decW rsk129 dec129) = B129 gl0 c131 s.1.1 s.1.2.1 s.1.2.2.1 := by kernel_rfl
end
noncomputable def an130 : Ann := ⟨[(2, [(0, .any), (3, .any)])], [], []⟩
noncomputable def cd130 : Code := (Go.Proofs.Try.f130.body).getD .skip
noncomputable def p130 : List Pos := posns an130 [] cd130
noncomputable def rm130 : List RM := [.sh]
noncomputable def rk130 (s0 : SbT ask130.bl) : KX R130 := retK E0 Go.Proofs.Try.f130.results.toList rm130 (mkB ask130.bl s0) (decW rsk130 dec130)
noncomputable def k130l0 : Sk := ⟨[(0, .f (.a (.ref 2000))), (3, .d (.it .i64))], [(2000, .own (.it .u64) false)]⟩
noncomputable def les130 (gl0 : Int → (List Int) → Option R130) : List (LoE R130) := [⟨2, k130l0, fun s => gl0 s.1.1 s.2.1⟩]
noncomputable def fes130 : List FE := []
section
variable (gl0 : Int → (List Int) → Option R130)
noncomputable def B130l0 (x3 : Int) (y0 : (List Int)) : Option R130 := if x3 > 0 then (if 0 ≤ wrap64 (x3 - 1) then (if wrap64 (x3 - 1) < (y0.length : Int) then (if rd y0 (wrap64 (x3 - 1)) = 0 then (gl0 (wrap64 (x3 - 1)) y0) else (if (0 : Int) ≤ 0 then (if 0 ≤ x3 then (if x3 ≤ (y0.length : Int) then (if (y0.length : Int) ≤ (y0.length : Int) then (some (x3, y0)) else (none)) else (none)) else (none)) else (none))) else (none)) else (none)) else (if (0 : Int) ≤ 0 then (if 0 ≤ x3 then (if x3 ≤ (y0.length : Int) then (if (y0.length : Int) ≤ (y0.length : Int) then (some (x3, y0)) else (none)) else (none)) else (none)) else (none))
theorem e130l0 (s0 : SbT ask130.bl) (s : k130l0.T) : evPos E0 (orcOf (fes130)) 21 an130 (loOf (les130 gl0)) (rk130 s0) (p130.getD 0 ⟨0, [], .skip⟩) (k130l0.mk' s) = B130l0 gl0 s.1.1 s.2.1 := by kernel_rfl
noncomputable def B130 (y0 : (List Int)) : Option R130 := gl0 (y0.length : Int) y0
theorem e130 (s : ask130.T) : evFn E0 (orcOf (fes130)) an130 (loOf (les130 gl0)) 21 cd130 Go.Proofs.Try.f130.results.toList rm130 (ask130.mk' s) (decW rsk130 dec130) = B130 gl0 s.2.1 := by kernel_rfl
end
noncomputable def an130v : Ann := ⟨[(2, [(0, .any), (3, .any)])], [], []⟩
noncomputable def cd130v : Code := (Go.Proofs.Try.f130.body).getD .skip
noncomputable def p130v : List Pos := posns an130v [] cd130v
noncomputable def rm130v : List RM := [.sh]
noncomputable def rk130v (s0 : SbT ask130v.bl) : KX R130v := retK E0 Go.Proofs.Try.f130.results.toList rm130v (mkB ask130v.bl s0) (decW rsk130v dec130v)
noncomputable def k130vl0 : Sk := ⟨[(0, .d (.li (.it .u64))), (3, .d (.it .i64))], []⟩
noncomputable def les130v (gl0 : (List Int) → Int → Option R130v) : List (LoE R130v) := [⟨2, k130vl0, fun s => gl0 s.1.1 s.1.2.1⟩]
noncomputable def fes130v : List FE := []
section
variable (gl0 : (List Int) → Int → Option R130v)
noncomputable def B130vl0 (x0 : (List Int)) (x3 : Int) : Option R130v := if x3 > 0 then (if 0 ≤ wrap64 (x3 - 1) then (if wrap64 (x3 - 1) < (x0.length : Int) then (if rd x0 (wrap64 (x3 - 1)) = 0 then (gl0 x0 (wrap64 (x3 - 1))) else (if (0 : Int) ≤ 0 then (if 0 ≤ x3 then (if x3 ≤ (x0.length : Int) then (if (x0.length : Int) ≤ (x0.length : Int) then (some (slice_ x0 0 x3)) else (none)) else (none)) else (none)) else (none))) else (none)) else (none)) else (if (0 : Int) ≤ 0 then (if 0 ≤ x3 then (if x3 ≤ (x0.length : Int) then (if (x0.length : Int) ≤ (x0.length : Int) then (some (slice_ x0 0 x3)) else (none)) else (none)) else (none)) else (none))
theorem e130vl0 (s0 : SbT ask130v.bl) (s : k130vl0.T) : evPos E0 (orcOf (fes130v)) 21 an130v (loOf (les130v gl0)) (rk130v s0) (p130v.getD 0 ⟨0, [], .skip⟩) (k130vl0.mk' s) = B130vl0 gl0 s.1.1 s.1.2.1 := by kernel_rfl
noncomputable def B130v (x0 : (List Int)) : Option R130v := gl0 x0 (x0.length : Int)
theorem e130v (s : ask130v.T) : evFn E0 (orcOf (fes130v)) an130v (loOf (les130v gl0)) 21 cd130v Go.Proofs.Try.f130.results.toList rm130v (ask130v.mk' s) (decW rsk130v dec130v) = B130v gl0 s.1.1 := by kernel_rfl
end
noncomputable def an131 : Ann := ⟨[], [], []⟩
noncomputable def cd131 : Code := (Go.Proofs.Try.f131.body).getD .skip
noncomputable def rm131 : List RM := [.d (.it .i64)]
noncomputable def les131 : List (LoE R131) := []
noncomputable def fes131 (c135 : Int → Option R135) : List FE := [(fe135 c135)]
section
variable (c135 : Int → Option R135)
noncomputable def B131 (x0 : Int) : Option R131 := (c135 x0).bind fun r1 => (some (wrap64 (64 - r1)))
theorem e131 (s : ask131.T) : evFn E0 (orcOf (fes131 c135)) an131 (loOf (les131)) 6 cd131 Go.Proofs.Try.f131.results.toList rm131 (ask131.mk' s) (decW rsk131 dec131) = B131 c135 s.1.1 := by kernel_rfl
end
noncomputable def an132 : Ann := ⟨[(3, [(1, .any), (5, .any), (12, .any), (13, .any), (14, .any)])], [], []⟩
noncomputable def cd132 : Code := (Go.Proofs.Try.f132.body).getD .skip
noncomputable def p132 : List Pos := posns an132 [] cd132
noncomputable def rm132 : List RM := [.own (.it .u64)]
noncomputable def rk132 (s0 : SbT ask132.bl) : KX R132 := retK E0 Go.Proofs.Try.f132.results.toList rm132 (mkB ask132.bl s0) (decW rsk132 dec132)
noncomputable def k132l0 : Sk := ⟨[(1, .d (.it .i64)), (5, .f (.a (.ref 5))), (12, .d (.li (.it .u64))), (13, .d (.it .i64)), (14, .d (.it .i64))], [(5, .own (.it .u64) true)]⟩
noncomputable def les132 (gl0 : Int → (List Int) → Int → Int → (List Int) → Option R132) : List (LoE R132) := [⟨3, k132l0, fun s => gl0 s.1.1 s.1.2.1 s.1.2.2.1 s.1.2.2.2.1 s.2.1⟩]
noncomputable def fes132 : List FE := []
section
variable (gl0 : Int → (List Int) → Int → Int → (List Int) → Option R132)
noncomputable def B132l0 (x1 : Int) (x12 : (List Int)) (x13 : Int) (x14 : Int) (x5 : (List Int)) : Option R132 := if x14 < x13 then (if 0 ≤ x14 then (if x14 < (x12.length : Int) then (if 0 ≤ x14 then (if x14 < (x5.length : Int) then (if 0 ≤ x1 then (if 0 ≤ x14 then (if x14 < (x5.length : Int) then (if x1 > 0 then (if 0 ≤ wrap64 (64 - x1) then (if 0 ≤ wrap64 (x14 + 1) then (if wrap64 (x14 + 1) < ((x5.set (x14 : Int).toNat (Go.bits .or .u64 (rd x5 x14) (shl .u64 (rd x12 x14) x1))).length : Int) then (gl0 x1 x12 x13 (wrap64 (x14 + 1)) ((x5.set (x14 : Int).toNat (Go.bits .or .u64 (rd x5 x14) (shl .u64 (rd x12 x14) x1))).set (wrap64 (x14 + 1) : Int).toNat (shr .u64 (rd x12 x14) (wrap64 (64 - x1))))) else (none)) else (none)) else (none)) else (gl0 x1 x12 x13 (wrap64 (x14 + 1)) (x5.set (x14 : Int).toNat (Go.bits .or .u64 (rd x5 x14) (shl .u64 (rd x12 x14) x1))))) else (none)) else (none)) else (none)) else (none)) else (none)) else (none)) else (none)) else (some x5)
theorem e132l0 (s0 : SbT ask132.bl) (s : k132l0.T) : evPos E0 (orcOf (fes132)) 40 an132 (loOf (les132 gl0)) (rk132 s0) (p132.getD 0 ⟨0, [], .skip⟩) (k132l0.mk' s) = B132l0 gl0 s.1.1 s.1.2.1 s.1.2.2.1 s.1.2.2.2.1 s.2.1 := by kernel_rfl
noncomputable def B132 (x0 : (List Int)) (x1 : Int) : Option R132 := if 0 ≤ wrap64 ((x0.length : Int) + 1) then (if wrap64 ((x0.length : Int) + 1) ≤ wrap64 ((x0.length : Int) + 1) then (if (wrap64 ((x0.length : Int) + 1) : Int).toNat ≤ 35184372088832 then (gl0 x1 x0 (x0.length : Int) 0 (List.replicate (wrap64 ((x0.length : Int) + 1) : Int).toNat (0 : Int))) else (none)) else (none)) else (none)
theorem e132 (s : ask132.T) : evFn E0 (orcOf (fes132)) an132 (loOf (les132 gl0)) 40 cd132 Go.Proofs.Try.f132.results.toList rm132 (ask132.mk' s) (decW rsk132 dec132) = B132 gl0 s.1.1 s.1.2.1 := by kernel_rfl
end
noncomputable def an133 : Ann := ⟨[(8, [(0, .any), (1, .any), (5, .any), (6, .any), (7, .any), (8, .any)]), (15, [(0, .any), (1, .any), (5, .any), (6, .any), (11, .any), (12, .any), (104, .any), (105, .any)]), (28, [(0, .any), (1, .any), (5, .any), (6, .any), (17, .any), (156, .any), (157, .any)])], [], []⟩
noncomputable def cd133 : Code := (Go.Proofs.Try.f133.body).getD .skip
noncomputable def p133 : List Pos := posns an133 [] cd133
noncomputable def rm133 : List RM := [.d (.it .u64)]
noncomputable def rk133 (s0 : SbT ask133.bl) : KX R133 := retK E0 Go.Proofs.Try.f133.results.toList rm133 (mkB ask133.bl s0) (decW rsk133 dec133)
noncomputable def k133l0 : Sk := ⟨[(0, .f (.a (.ref 2000))), (1, .d (.li (.it .u64))), (5, .d (.it .i64)), (6, .d (.it .u64)), (7, .d (.it .u64)), (8, .d (.it .u64))], [(2000, .own (.it .u64) false)]⟩
noncomputable def k133l1 : Sk := ⟨[(0, .f (.a (.ref 2000))), (1, .d (.li (.it .u64))), (5, .d (.it .i64)), (6, .d (.it .u64)), (11, .d (.it .u64)), (12, .d (.it .u64)), (104, .d (.it .i64)), (105, .d (.it .i64))], [(2000, .own (.it .u64) false)]⟩
noncomputable def k133l2 : Sk := ⟨[(0, .f (.a (.ref 2000))), (1, .d (.li (.it .u64))), (5, .d (.it .i64)), (6, .d (.it .u64)), (17, .d (.it .u64)), (156, .d (.it .i64)), (157, .d (.it .i64))], [(2000, .own (.it .u64) false)]⟩
noncomputable def les133 (gl0 : (List Int) → Int → Int → Int → Int → (List Int) → Option R133) (gl1 : (List Int) → Int → Int → Int → Int → Int → Int → (List Int) → Option R133) (gl2 : (List Int) → Int → Int → Int → Int → Int → (List Int) → Option R133) : List (LoE R133) := [⟨8, k133l0, fun s => gl0 s.1.1 s.1.2.1 s.1.2.2.1 s.1.2.2.2.1 s.1.2.2.2.2.1 s.2.1⟩, ⟨15, k133l1, fun s => gl1 s.1.1 s.1.2.1 s.1.2.2.1 s.1.2.2.2.1 s.1.2.2.2.2.1 s.1.2.2.2.2.2.1 s.1.2.2.2.2.2.2.1 s.2.1⟩, ⟨28, k133l2, fun s => gl2 s.1.1 s.1.2.1 s.1.2.2.1 s.1.2.2.2.1 s.1.2.2.2.2.1 s.1.2.2.2.2.2.1 s.2.1⟩]
noncomputable def fes133 (c121 : Int → Int → Int → Option R121) (c122 : Int → Int → Int → Option R122) (c129 : Int → Int → Int → Option R129) (c134 : Int → Int → Option R134) : List FE := [(fe121 c121), (fe122 c122), (fe129 c129), (fe134 c134)]
section
variable (gl0 : (List Int) → Int → Int → Int → Int → (List Int) → Option R133) (gl1 : (List Int) → Int → Int → Int → Int → Int → Int → (List Int) → Option R133) (gl2 : (List Int) → Int → Int → Int → Int → Int → (List Int) → Option R133) (c121 : Int → Int → Int → Option R121) (c122 : Int → Int → Int → Option R122) (c129 : Int → Int → Int → Option R129) (c134 : Int → Int → Option R134)
noncomputable def B133l0 (x1 : (List Int)) (x5 : Int) (x6 : Int) (x7 : Int) (x8 : Int) (y0 : (List Int)) : Option R133 := if x8 = 0 then (if 0 ≤ wrap64 (x5 - 2) then (if wrap64 (x5 - 2) < (x1.length : Int) then ((c134 x6 (rd x1 (wrap64 (x5 - 2)))).bind fun r1 => (if r1.1 < x7 then (gl1 x1 x5 x6 0 0 x5 0 y0) else (if r1.1 = x7 then (if 0 ≤ wrap64 (x5 - 2) then (if wrap64 (x5 - 2) < (y0.length : Int) then (if r1.2 ≤ rd y0 (wrap64 (x5 - 2)) then (gl1 x1 x5 x6 0 0 x5 0 y0) else (if 0 ≤ wrap64 (x5 - 1) then (if wrap64 (x5 - 1) < (x1.length : Int) then ((c121 x7 (rd x1 (wrap64 (x5 - 1))) 0).bind fun r2 => (gl0 x1 x5 (IntKind.u64.wrap (x6 - 1)) r2.1 r2.2 y0)) else (none)) else (none))) else (none)) else (none)) else (if 0 ≤ wrap64 (x5 - 1) then (if wrap64 (x5 - 1) < (x1.length : Int) then ((c121 x7 (rd x1 (wrap64 (x5 - 1))) 0).bind fun r3 => (gl0 x1 x5 (IntKind.u64.wrap (x6 - 1)) r3.1 r3.2 y0)) else (none)) else (none))))) else (none)) else (none)) else (gl1 x1 x5 x6 0 0 x5 0 y0)
theorem e133l0 (s0 : SbT ask133.bl) (s : k133l0.T) : evPos E0 (orcOf (fes133 c121 c122 c129 c134)) 186 an133 (loOf (les133 gl0 gl1 gl2)) (rk133 s0) (p133.getD 0 ⟨0, [], .skip⟩) (k133l0.mk' s) = B133l0 gl0 gl1 c121 c134 s.1.1 s.1.2.1 s.1.2.2.1 s.1.2.2.2.1 s.1.2.2.2.2.1 s.2.1 := by kernel_rfl
noncomputable def B133l1 (x1 : (List Int)) (x5 : Int) (x6 : Int) (x11 : Int) (x12 : Int) (x104 : Int) (x105 : Int) (y0 : (List Int)) : Option R133 := if x105 < x104 then (if 0 ≤ x105 then (if x105 < (x1.length : Int) then ((c134 x6 (rd x1 x105)).bind fun r1 => ((c121 r1.2 x12 0).bind fun r2 => (if 0 ≤ x105 then (if x105 < (y0.length : Int) then ((c122 (rd y0 x105) r2.1 x11).bind fun r3 => (if 0 ≤ x105 then (if x105 < (y0.length : Int) then (gl1 x1 x5 x6 r3.2 (IntKind.u64.wrap (r1.1 + r2.2)) x104 (wrap64 (x105 + 1)) (y0.set (x105 : Int).toNat r3.1)) else (none)) else (none))) else (none)) else (none)))) else (none)) else (none)) else (if 0 ≤ x5 then (if x5 < (y0.length : Int) then ((c122 (rd y0 x5) x12 x11).bind fun r4 => (if 0 ≤ x5 then (if x5 < (y0.length : Int) then (if r4.2 = 0 then (some (x6, y0.set (x5 : Int).toNat r4.1)) else (gl2 x1 x5 x6 0 x5 0 (y0.set (x5 : Int).toNat r4.1))) else (none)) else (none))) else (none)) else (none))
theorem e133l1 (s0 : SbT ask133.bl) (s : k133l1.T) : evPos E0 (orcOf (fes133 c121 c122 c129 c134)) 186 an133 (loOf (les133 gl0 gl1 gl2)) (rk133 s0) (p133.getD 1 ⟨0, [], .skip⟩) (k133l1.mk' s) = B133l1 gl1 gl2 c121 c122 c134 s.1.1 s.1.2.1 s.1.2.2.1 s.1.2.2.2.1 s.1.2.2.2.2.1 s.1.2.2.2.2.2.1 s.1.2.2.2.2.2.2.1 s.2.1 := by kernel_rfl
noncomputable def B133l2 (x1 : (List Int)) (x5 : Int) (x6 : Int) (x17 : Int) (x156 : Int) (x157 : Int) (y0 : (List Int)) : Option R133 := if x157 < x156 then (if 0 ≤ x157 then (if x157 < (y0.length : Int) then (if 0 ≤ x157 then (if x157 < (x1.length : Int) then ((c121 (rd y0 x157) (rd x1 x157) x17).bind fun r1 => (if 0 ≤ x157 then (if x157 < (y0.length : Int) then (gl2 x1 x5 x6 r1.2 x156 (wrap64 (x157 + 1)) (y0.set (x157 : Int).toNat r1.1)) else (none)) else (none))) else (none)) else (none)) else (none)) else (none)) else (if 0 ≤ x5 then (if x5 < (y0.length : Int) then (if 0 ≤ x5 then (if x5 < (y0.length : Int) then (some (IntKind.u64.wrap (x6 - 1), y0.set (x5 : Int).toNat (IntKind.u64.wrap ((rd y0 x5) + x17)))) else (none)) else (none)) else (none)) else (none))
theorem e133l2 (s0 : SbT ask133.bl) (s : k133l2.T) : evPos E0 (orcOf (fes133 c121 c122 c129 c134)) 186 an133 (loOf (les133 gl0 gl1 gl2)) (rk133 s0) (p133.getD 2 ⟨0, [], .skip⟩) (k133l2.mk' s) = B133l2 gl2 c121 s.1.1 s.1.2.1 s.1.2.2.1 s.1.2.2.2.1 s.1.2.2.2.2.1 s.1.2.2.2.2.2.1 s.2.1 := by kernel_rfl
noncomputable def B133 (x1 : (List Int)) (y0 : (List Int)) : Option R133 := if 0 ≤ (x1.length : Int) then (if (x1.length : Int) < (y0.length : Int) then (if 0 ≤ wrap64 ((x1.length : Int) - 1) then (if wrap64 ((x1.length : Int) - 1) < (x1.length : Int) then (if rd y0 (x1.length : Int) ≥ rd x1 (wrap64 ((x1.length : Int) - 1)) then (if 0 ≤ wrap64 ((x1.length : Int) - 1) then (if wrap64 ((x1.length : Int) - 1) < (y0.length : Int) then (if 0 ≤ wrap64 ((x1.length : Int) - 1) then (if wrap64 ((x1.length : Int) - 1) < (x1.length : Int) then ((c121 (rd y0 (wrap64 ((x1.length : Int) - 1))) (rd x1 (wrap64 ((x1.length : Int) - 1))) 0).bind fun r1 => (gl0 x1 (x1.length : Int) 18446744073709551615 r1.1 r1.2 y0)) else (none)) else (none)) else (none)) else (none)) else (if 0 ≤ (x1.length : Int) then (if (x1.length : Int) < (y0.length : Int) then (if 0 ≤ wrap64 ((x1.length : Int) - 1) then (if wrap64 ((x1.length : Int) - 1) < (y0.length : Int) then (if 0 ≤ wrap64 ((x1.length : Int) - 1) then (if wrap64 ((x1.length : Int) - 1) < (x1.length : Int) then ((c129 (rd y0 (x1.length : Int)) (rd y0 (wrap64 ((x1.length : Int) - 1))) (rd x1 (wrap64 ((x1.length : Int) - 1)))).bind fun r2 => (gl0 x1 (x1.length : Int) r2.1 r2.2 0 y0)) else (none)) else (none)) else (none)) else (none)) else (none)) else (none))) else (none)) else (none)) else (none)) else (none)
theorem e133 (s : ask133.T) : evFn E0 (orcOf (fes133 c121 c122 c129 c134)) an133 (loOf (les133 gl0 gl1 gl2)) 186 cd133 Go.Proofs.Try.f133.results.toList rm133 (ask133.mk' s) (decW rsk133 dec133) = B133 gl0 c121 c129 s.1.1 s.2.1 := by kernel_rfl
end
noncomputable def an134 : Ann := ⟨[], [], []⟩
noncomputable def cd134 : Code := (Go.Proofs.Try.f134.body).getD .skip
noncomputable def rm134 : List RM := [.d (.it .u64), .d (.it .u64)]
noncomputable def les134 : List (LoE R134) := []
noncomputable def fes134 : List FE := []
noncomputable def B134 (x0 : Int) (x1 : Int) : Option R134 := if (0 : Int) ≤ 32 then (if (0 : Int) ≤ 32 then (if (0 : Int) ≤ 32 then (if (0 : Int) ≤ 32 then (if (0 : Int) ≤ 32 then (some (IntKind.u64.wrap ((IntKind.u64.wrap ((IntKind.u64.wrap ((x0 / 4294967296) * (x1 / 4294967296))) + ((IntKind.u64.wrap ((IntKind.u64.wrap ((x0 / 4294967296) * (Go.bits .and .u64 x1 4294967295))) + ((IntKind.u64.wrap ((Go.bits .and .u64 x0 4294967295) * (Go.bits .and .u64 x1 4294967295))) / 4294967296))) / 4294967296))) + ((IntKind.u64.wrap ((Go.bits .and .u64 (IntKind.u64.wrap ((IntKind.u64.wrap ((x0 / 4294967296) * (Go.bits .and .u64 x1 4294967295))) + ((IntKind.u64.wrap ((Go.bits .and .u64 x0 4294967295) * (Go.bits .and .u64 x1 4294967295))) / 4294967296))) 4294967295) + (IntKind.u64.wrap ((Go.bits .and .u64 x0 4294967295) * (x1 / 4294967296))))) / 4294967296)), IntKind.u64.wrap (x0 * x1))) else (none)) else (none)) else (none)) else (none)) else (none)
theorem e134 (s : ask134.T) : evFn E0 (orcOf (fes134)) an134 (loOf (les134)) 51 cd134 Go.Proofs.Try.f134.results.toList rm134 (ask134.mk' s) (decW rsk134 dec134) = B134 s.1.1 s.1.2.1 := by kernel_rfl
noncomputable def cd135 : Code := (Go.Proofs.Try.f135.body).getD .skip
end Go.Proofs.YtdhdfcjpeflinaaV
set_option linter.unusedVariables false
set_option linter.unusedSimpArgs false
namespace Go.Proofs.YtdhdfcjpeflinaaE
open Go.RowKit Go.Proofs.YtdhdfcjpeflinaaW.PrintWords Go.Proofs.YtdhdfcjpeflinaaW.PrintLast Go.Proofs.YtdhdfcjpeflinaaW.PrintMore
section
variable {α β : Type}
theorem LeO.iteL {p : Prop} [Decidable p] {a b t : Option α} (h1 : p → LeO a t) (h2 : ¬ p → LeO b t) : LeO (if p then a else b) t := by
 by_cases h : p
 ·rw [if_pos h]; exact h1 h
 ·rw [if_neg h]; exact h2 h
theorem LeO.bindL {x : Option β} {f : β → Option α} {t : Option α} (h : ∀ v, x = some v → LeO (f v) t) : LeO (x.bind f) t := by
 cases hx : x with
 | none => intro r hr; cases hr
 | some v => exact h v hx
theorem LeO.bindK {x : Option β} {v : β} {f : β → Option α} {t : Option α} (hx : x = some v) (h : LeO (f v) t) : LeO (x.bind f) t := by rw [hx]; exact h
theorem LeO.posL {p : Prop} [Decidable p] {t a b : Option α} (hp : p) (h : LeO a t) : LeO (if p then a else b) t := by rw [if_pos hp]; exact h
theorem LeO.negL {p : Prop} [Decidable p] {t a b : Option α} (hp : ¬ p) (h : LeO b t) : LeO (if p then a else b) t := by rw [if_neg hp]; exact h
theorem LeO.posR {p : Prop} [Decidable p] {t a b : Option α} (hp : p) (h : LeO t a) : LeO t (if p then a else b) := by rw [if_pos hp]; exact h
theorem LeO.negR {p : Prop} [Decidable p] {t a b : Option α} (hp : ¬ p) (h : LeO t b) : LeO t (if p then a else b) := by rw [if_neg hp]; exact h
theorem LeO.nnegR {p : Prop} [Decidable p] {t a b : Option α} (hp : p) (h : LeO t b) : LeO t (if ¬ p then a else b) := by rw [if_neg (fun q => q hp)]; exact h
theorem LeO.bindR {x : Option β} {v : β} {f : β → Option α} {t : Option α} (hx : x = some v) (h : LeO t (f v)) : LeO t (x.bind f) := by rw [hx]; exact h
theorem LeO.ctR {b : Bool} {t x y : Option α} (hp : b = true) (h : LeO t x) : LeO t (cnd b x y) := by rw [hp]; exact h
theorem LeO.cfR {b : Bool} {t x y : Option α} (hp : ¬ b = true) (h : LeO t y) : LeO t (cnd b x y) := by
 rw [Bool.eq_false_iff.2 hp]; exact h
theorem BAe : ByteArray.empty = ⟨#[]⟩ := id rfl
theorem wrap_mod (x : Int) : IntKind.u64.wrap (x % 256) = x % 256 := by
 show x % 256 % 18446744073709551616 = x % 256
 omega
theorem bfalse (b : Bool) : (b = false) = ¬ (b = true) := by cases b <;> simp
theorem ite_and_ {p q : Prop} [Decidable (p ∧ q)] [Decidable p] [Decidable q] (a b : α) : (if p ∧ q then a else b) = if p then (if q then a else b) else b := by
 by_cases h : p <;> by_cases k : q <;> simp [h, k]
theorem ite_or_ {p q : Prop} [Decidable (p ∨ q)] [Decidable p] [Decidable q] (a b : α) : (if p ∨ q then a else b) = if p then a else (if q then a else b) := by
 by_cases h : p <;> by_cases k : q <;> simp [h, k]
theorem slice_def {τ : Type} (l : List τ) (i h : Int) : slice_ l i h = (l.take h.toNat).drop i.toNat := id rfl
theorem bind_some_ (a : β) (f : β → Option α) : (some a).bind f = f a := id rfl
theorem bind_assoc_ {γ : Type} (x : Option γ) (f : γ → Option β) (g : β → Option α) : (x.bind f).bind g = x.bind fun y => (f y).bind g := by cases x <;> rfl
theorem ite_bind_ {p : Prop} [Decidable p] (x y : Option β) (f : β → Option α) : (if p then x else y).bind f = if p then x.bind f else y.bind f := by by_cases h : p <;> simp [h]
theorem isEmpty_eq (l : List UInt8) : l.isEmpty = (l == []) := by cases l <;> rfl
theorem wrap_u8 (x : Int) : IntKind.u8.wrap x = x % 256 := id rfl
theorem toList_mk (a : Array UInt8) : (⟨a⟩ : ByteArray).toList = a.toList := ByteArray.toList_eq _
theorem cnd_eq_if (b : Bool) (x y : Option α) : cnd b x y = if b = true then x else y := by cases b <;> rfl
theorem decide_int_eq (x y : Int) : (x == y) = decide (x = y) := id rfl
theorem BR {g : Prop} (h : g := by
 (try simp only [List.take_append_drop, List.drop_length, List.append_nil, Int.zero_sub, Int.toNat_natCast, Int.reduceToNat, Int.zero_add, List.take_zero, List.nil_append, List.append_assoc, List.length_set, ite_bind_, List.take_left, BAe, bne, decide_int_eq, decide_not, wrap_mod, if_true, if_false, Bool.false_eq_true, bind_assoc_, slice_def, List.drop_zero, List.take_length, wrap_u8, bind_some_, cnd_eq_if, rdOf, ite_not, Bool.and_eq_true, Bool.or_eq_true, Bool.not_eq_true', bfalse, Bool.not_eq_false', beq_iff_eq, decide_eq_true_eq, isEmpty_eq, ite_and_, ite_or_, ne_eq, toList_mk, List.toList_toArray])
 repeat' first
 | (with_reducible exact LeO.none _)
 | (with_reducible exact LeO.refl _)
 | (with_reducible refine LeO.posR (by with_reducible assumption) ?_)
 | (with_reducible refine LeO.negR (by with_reducible assumption) ?_)
 | (with_reducible refine LeO.nnegR (by with_reducible assumption) ?_)
 | (with_reducible refine LeO.bindR (by with_reducible assumption) ?_)
 | (with_reducible refine LeO.ctR (by with_reducible assumption) ?_)
 | (with_reducible refine LeO.cfR (by with_reducible assumption) ?_)
 | (with_reducible refine LeO.posL (by with_reducible assumption) ?_)
 | (with_reducible refine LeO.negL (by with_reducible assumption) ?_)
 | (with_reducible refine LeO.iteL (fun _ => ?_) (fun _ => ?_))
 | (with_reducible refine LeO.bindK (by with_reducible assumption) ?_)
 | (with_reducible refine LeO.bindL (fun _ _ => ?_))
 | (refine LeO.posR (by first | decide | exact Int.le_refl _ | omega | assumption) ?_)
 | (refine LeO.negR (by first | decide | omega) ?_)) : g := h
end
end Go.Proofs.YtdhdfcjpeflinaaE
namespace Go.Proofs.Ytdhdfcjpeflinaa.All
open Go.RowKit Go.Proofs.YtdhdfcjpeflinaaW.PrintWords Go.Proofs.YtdhdfcjpeflinaaW.PrintLast Go.Proofs.YtdhdfcjpeflinaaW.PrintMore
set_option linter.unusedVariables false
set_option linter.unusedSimpArgs false
abbrev S24 := Bool × ByteArray
def z24 : S24 := (false, (⟨#[]⟩ : ByteArray))
abbrev S24.f0 (x : S24) : Bool := x.1
abbrev S24.f1 (x : S24) : ByteArray := x.2
def rd_T24 (xs : List S24) (i : Int) : S24 := xs.getD i.toNat z24
def integer_zero.f  : Option (Bool × ByteArray) := some (false, (⟨#[]⟩ : ByteArray))
def natural_Check.j0 : Nat → ByteArray → Bool → Option (Int)
  | 0, _, _ => none
  | k + 1, x0, x10 => if x10 = true then (some 1) else (if (x0.size : Int) > 1024 then (some 4) else (some 0))
def natural_Check.f (k : Nat) (a0 : ByteArray) : Option (Int) := if (a0.size : Int) > 0 then (if 0 < (a0.size : Int) then (natural_Check.j0 k a0 ((bt a0 0) == 0)) else (none)) else (natural_Check.j0 k a0 false)
theorem natural_Check.U1 {g : Prop} (h : g := by
  repeat' first
  | (with_reducible exact ih0 _ _)
  | (with_reducible exact LeO.refl _)
  | (with_reducible exact LeO.none _)
  | (with_reducible refine LeO.ite ?_ ?_)
  | (with_reducible refine LeO.bind ?_ (fun _ => ?_))) : g := h
theorem natural_Check.mono_l : ∀ k, (∀ y0 y1, LeO (natural_Check.j0 k y0 y1) (natural_Check.j0 (k + 1) y0 y1))
  | 0 => fun _ _ r h => by simp [natural_Check.j0] at h
  | k + 1 => by
    have ih0 := natural_Check.mono_l k
    · intro y0 y1
      unfold natural_Check.j0
      exact natural_Check.U1
theorem natural_Check.mono : ∀ a0 k, LeO (natural_Check.f k a0) (natural_Check.f (k + 1) a0) := by
  intro a0 k
  have ih0 := natural_Check.mono_l k
  unfold natural_Check.f
  exact natural_Check.U1
def integer_Check.f (k : Nat) (a0_0 : Bool) (a0_1 : ByteArray) : Option (Int) := (natural_Check.f k a0_1).bind fun t103 => (if t103 = 1 then (some t103) else ((integer_zero.f).bind fun bt104 => (if (!(a0_0 == bt104.1) || (!(a0_1.toList == bt104.2.toList))) = true then (if a0_1.toList = ([] : List UInt8) then (some 1) else (some t103)) else (some t103))))
theorem integer_Check.mono : ∀ a0 a1 k, LeO (integer_Check.f k a0 a1) (integer_Check.f (k + 1) a0 a1) := by
  intro a0 a1 k
  unfold integer_Check.f
  repeat' first
      | (with_reducible exact natural_Check.mono _ _)
      | (with_reducible exact LeO.refl _)
      | (with_reducible exact LeO.none _)
      | (with_reducible refine LeO.ite ?_ ?_)
      | (with_reducible refine LeO.bind ?_ (fun _ => ?_))
def integer_first.l0 : Nat → List (S24) → Int → Int → Option (Int)
  | 0, _, _, _ => none
  | k + 1, x6, x7, x8 => if x8 < x7 then (if 0 ≤ x8 then (if x8 < (x6.length : Int) then ((integer_Check.f k ((rd_T24 x6 x8).f0) ((rd_T24 x6 x8).f1)).bind fun t108 => (if t108 = 0 then (integer_first.l0 k x6 x7 (wrap64 (x8 + 1))) else (some t108))) else (none)) else (none)) else (some 0)
def integer_first.f (k : Nat) (l0 : List (S24)) : Option (Int) := integer_first.l0 k l0 (l0.length : Int) 0
theorem integer_first.U1 {g : Prop} (h : g := by
  repeat' first
  | (with_reducible exact ih0 _ _ _)
  | (with_reducible exact integer_Check.mono _ _ _)
  | (with_reducible exact LeO.refl _)
  | (with_reducible exact LeO.none _)
  | (with_reducible refine LeO.ite ?_ ?_)
  | (with_reducible refine LeO.bind ?_ (fun _ => ?_))) : g := h
theorem integer_first.mono_l : ∀ k, (∀ y0 y1 y2, LeO (integer_first.l0 k y0 y1 y2) (integer_first.l0 (k + 1) y0 y1 y2))
  | 0 => fun _ _ _ r h => by simp [integer_first.l0] at h
  | k + 1 => by
    have ih0 := integer_first.mono_l k
    · intro y0 y1 y2
      unfold integer_first.l0
      exact integer_first.U1
theorem integer_first.mono : ∀ a0 k, LeO (integer_first.f k a0) (integer_first.f (k + 1) a0) := by
  intro a0 k
  have ih0 := integer_first.mono_l k
  unfold integer_first.f
  exact integer_first.U1
def exact_compareWords.l0 : Nat → List Int → List Int → Int → Option (Int)
  | 0, _, _, _ => none
  | k + 1, x0, x1, x5 => if x5 ≥ 0 then (if 0 ≤ x5 then (if x5 < (x0.length : Int) then (if x5 < (x1.length : Int) then (if (rd x0 x5) = (rd x1 x5) then (exact_compareWords.l0 k x0 x1 (wrap64 (x5 - 1))) else (if (rd x0 x5) < (rd x1 x5) then (some (-1)) else (some 1))) else (none)) else (none)) else (none)) else (some 0)
def exact_compareWords.f (k : Nat) (l0 : List Int) (l1 : List Int) : Option (Int) := if (l0.length : Int) = (l1.length : Int) then (exact_compareWords.l0 k l0 l1 (wrap64 ((l0.length : Int) - 1))) else (if (l0.length : Int) < (l1.length : Int) then (some (-1)) else (some 1))
theorem exact_compareWords.U1 {g : Prop} (h : g := by
  repeat' first
  | (with_reducible exact ih0 _ _ _)
  | (with_reducible exact LeO.refl _)
  | (with_reducible exact LeO.none _)
  | (with_reducible refine LeO.ite ?_ ?_)
  | (with_reducible refine LeO.bind ?_ (fun _ => ?_))) : g := h
theorem exact_compareWords.mono_l : ∀ k, (∀ y0 y1 y2, LeO (exact_compareWords.l0 k y0 y1 y2) (exact_compareWords.l0 (k + 1) y0 y1 y2))
  | 0 => fun _ _ _ r h => by simp [exact_compareWords.l0] at h
  | k + 1 => by
    have ih0 := exact_compareWords.mono_l k
    · intro y0 y1 y2
      unfold exact_compareWords.l0
      exact exact_compareWords.U1
theorem exact_compareWords.mono : ∀ a0 a1 k, LeO (exact_compareWords.f k a0 a1) (exact_compareWords.f (k + 1) a0 a1) := by
  intro a0 a1 k
  have ih0 := exact_compareWords.mono_l k
  unfold exact_compareWords.f
  exact exact_compareWords.U1
def bits_Len64.f (a0 : Int) : Option (Int) := if 0 ≤ a0 ∧ a0 ≤ 18446744073709551615 then some (Lib.bitLen a0.toNat : Int) else none
def bits_LeadingZeros64.f (a0 : Int) : Option (Int) := (bits_Len64.f a0).bind fun t113 => (some (wrap64 (64 - t113)))
mutual
def bits_Div64.j2 : Nat → Int → Int → Int → Int → Int → Int → Int → Int → Option (Int × Int)
  | 0, _, _, _, _, _, _, _, _ => none
  | k + 1, x2, x8, x9, x10, x11, x13, x14, x15 => if x9 = 0 then (none) else (bits_Div64.l1 k x2 x8 x9 x10 x14 x15 (IntKind.u64.wrap ((IntKind.u64.wrap ((IntKind.u64.wrap ((IntKind.u64.wrap (x11 * 4294967296)) + x13)) - (IntKind.u64.wrap (x15 * x2)))) - (IntKind.u64.wrap ((IntKind.u64.wrap (Int.tdiv (IntKind.u64.wrap ((IntKind.u64.wrap ((IntKind.u64.wrap (x11 * 4294967296)) + x13)) - (IntKind.u64.wrap (x15 * x2)))) x9)) * x9)))) (IntKind.u64.wrap ((IntKind.u64.wrap ((IntKind.u64.wrap (x11 * 4294967296)) + x13)) - (IntKind.u64.wrap (x15 * x2)))) (IntKind.u64.wrap (Int.tdiv (IntKind.u64.wrap ((IntKind.u64.wrap ((IntKind.u64.wrap (x11 * 4294967296)) + x13)) - (IntKind.u64.wrap (x15 * x2)))) x9)))
def bits_Div64.l1 : Nat → Int → Int → Int → Int → Int → Int → Int → Int → Int → Option (Int × Int)
  | 0, _, _, _, _, _, _, _, _, _ => none
  | k + 1, x2, x8, x9, x10, x14, x15, x16, x17, x18 => if x18 ≥ 4294967296 then (bits_Div64.j4 k x2 x8 x9 x10 x14 x15 x16 x17 x18 true) else (bits_Div64.j4 k x2 x8 x9 x10 x14 x15 x16 x17 x18 (decide ((IntKind.u64.wrap (x18 * x10)) > (IntKind.u64.wrap ((IntKind.u64.wrap (4294967296 * x16)) + x14)))))
def bits_Div64.j4 : Nat → Int → Int → Int → Int → Int → Int → Int → Int → Int → Bool → Option (Int × Int)
  | 0, _, _, _, _, _, _, _, _, _, _ => none
  | k + 1, x2, x8, x9, x10, x14, x15, x16, x17, x18, x113 => if x113 = true then (if (IntKind.u64.wrap (x16 + x9)) ≥ 4294967296 then (if 0 ≤ x8 then (some (IntKind.u64.wrap ((IntKind.u64.wrap (x15 * 4294967296)) + (IntKind.u64.wrap (x18 - 1))), shr .u64 (IntKind.u64.wrap ((IntKind.u64.wrap ((IntKind.u64.wrap (x17 * 4294967296)) + x14)) - (IntKind.u64.wrap ((IntKind.u64.wrap (x18 - 1)) * x2)))) x8)) else (none)) else (bits_Div64.l1 k x2 x8 x9 x10 x14 x15 (IntKind.u64.wrap (x16 + x9)) x17 (IntKind.u64.wrap (x18 - 1)))) else (if 0 ≤ x8 then (some (IntKind.u64.wrap ((IntKind.u64.wrap (x15 * 4294967296)) + x18), shr .u64 (IntKind.u64.wrap ((IntKind.u64.wrap ((IntKind.u64.wrap (x17 * 4294967296)) + x14)) - (IntKind.u64.wrap (x18 * x2)))) x8)) else (none))
def bits_Div64.l0 : Nat → Int → Int → Int → Int → Int → Int → Int → Int → Int → Option (Int × Int)
  | 0, _, _, _, _, _, _, _, _, _ => none
  | k + 1, x2, x8, x9, x10, x11, x13, x14, x15, x16 => if x15 ≥ 4294967296 then (bits_Div64.j1 k x2 x8 x9 x10 x11 x13 x14 x15 x16 true) else (bits_Div64.j1 k x2 x8 x9 x10 x11 x13 x14 x15 x16 (decide ((IntKind.u64.wrap (x15 * x10)) > (IntKind.u64.wrap ((IntKind.u64.wrap (4294967296 * x16)) + x13)))))
def bits_Div64.j1 : Nat → Int → Int → Int → Int → Int → Int → Int → Int → Int → Bool → Option (Int × Int)
  | 0, _, _, _, _, _, _, _, _, _, _ => none
  | k + 1, x2, x8, x9, x10, x11, x13, x14, x15, x16, x78 => if x78 = true then (if (IntKind.u64.wrap (x16 + x9)) ≥ 4294967296 then (bits_Div64.j2 k x2 x8 x9 x10 x11 x13 x14 (IntKind.u64.wrap (x15 - 1))) else (bits_Div64.l0 k x2 x8 x9 x10 x11 x13 x14 (IntKind.u64.wrap (x15 - 1)) (IntKind.u64.wrap (x16 + x9)))) else (bits_Div64.j2 k x2 x8 x9 x10 x11 x13 x14 x15)
end
def bits_Div64.f (k : Nat) (a0 : Int) (a1 : Int) (a2 : Int) : Option (Int × Int) := if a2 = 0 then (none) else (if a2 ≤ a0 then (none) else (if a0 = 0 then (some (IntKind.u64.wrap (Int.tdiv a1 a2), Int.tmod a1 a2)) else ((bits_LeadingZeros64.f a2).bind fun t114 => (if 0 ≤ (IntKind.u64.wrap (t114)) then (if 0 ≤ (IntKind.u64.wrap (64 - (IntKind.u64.wrap (t114)))) then (if ((shl .u64 a2 (IntKind.u64.wrap (t114))) / 4294967296) = 0 then (none) else (bits_Div64.l0 k (shl .u64 a2 (IntKind.u64.wrap (t114))) (IntKind.u64.wrap (t114)) ((shl .u64 a2 (IntKind.u64.wrap (t114))) / 4294967296) (Go.bits .and .u64 (shl .u64 a2 (IntKind.u64.wrap (t114))) 4294967295) (Go.bits .or .u64 (shl .u64 a0 (IntKind.u64.wrap (t114))) (shr .u64 a1 (IntKind.u64.wrap (64 - (IntKind.u64.wrap (t114)))))) ((shl .u64 a1 (IntKind.u64.wrap (t114))) / 4294967296) (Go.bits .and .u64 (shl .u64 a1 (IntKind.u64.wrap (t114))) 4294967295) (IntKind.u64.wrap (Int.tdiv (Go.bits .or .u64 (shl .u64 a0 (IntKind.u64.wrap (t114))) (shr .u64 a1 (IntKind.u64.wrap (64 - (IntKind.u64.wrap (t114)))))) ((shl .u64 a2 (IntKind.u64.wrap (t114))) / 4294967296))) (IntKind.u64.wrap ((Go.bits .or .u64 (shl .u64 a0 (IntKind.u64.wrap (t114))) (shr .u64 a1 (IntKind.u64.wrap (64 - (IntKind.u64.wrap (t114)))))) - (IntKind.u64.wrap ((IntKind.u64.wrap (Int.tdiv (Go.bits .or .u64 (shl .u64 a0 (IntKind.u64.wrap (t114))) (shr .u64 a1 (IntKind.u64.wrap (64 - (IntKind.u64.wrap (t114)))))) ((shl .u64 a2 (IntKind.u64.wrap (t114))) / 4294967296))) * ((shl .u64 a2 (IntKind.u64.wrap (t114))) / 4294967296))))))) else (none)) else (none)))))
theorem bits_Div64.U1 {g : Prop} (h : g := by
  repeat' first
  | (with_reducible exact ih0 _ _ _ _ _ _ _ _)
  | (with_reducible exact ih1 _ _ _ _ _ _ _ _ _)
  | (with_reducible exact ih2 _ _ _ _ _ _ _ _ _ _)
  | (with_reducible exact ih3 _ _ _ _ _ _ _ _ _)
  | (with_reducible exact ih4 _ _ _ _ _ _ _ _ _ _)
  | (with_reducible exact LeO.refl _)
  | (with_reducible exact LeO.none _)
  | (with_reducible refine LeO.ite ?_ ?_)
  | (with_reducible refine LeO.bind ?_ (fun _ => ?_))) : g := h
theorem bits_Div64.mono_l : ∀ k, (∀ y0 y1 y2 y3 y4 y5 y6 y7, LeO (bits_Div64.j2 k y0 y1 y2 y3 y4 y5 y6 y7) (bits_Div64.j2 (k + 1) y0 y1 y2 y3 y4 y5 y6 y7)) ∧ (∀ y0 y1 y2 y3 y4 y5 y6 y7 y8, LeO (bits_Div64.l1 k y0 y1 y2 y3 y4 y5 y6 y7 y8) (bits_Div64.l1 (k + 1) y0 y1 y2 y3 y4 y5 y6 y7 y8)) ∧ (∀ y0 y1 y2 y3 y4 y5 y6 y7 y8 y9, LeO (bits_Div64.j4 k y0 y1 y2 y3 y4 y5 y6 y7 y8 y9) (bits_Div64.j4 (k + 1) y0 y1 y2 y3 y4 y5 y6 y7 y8 y9)) ∧ (∀ y0 y1 y2 y3 y4 y5 y6 y7 y8, LeO (bits_Div64.l0 k y0 y1 y2 y3 y4 y5 y6 y7 y8) (bits_Div64.l0 (k + 1) y0 y1 y2 y3 y4 y5 y6 y7 y8)) ∧ (∀ y0 y1 y2 y3 y4 y5 y6 y7 y8 y9, LeO (bits_Div64.j1 k y0 y1 y2 y3 y4 y5 y6 y7 y8 y9) (bits_Div64.j1 (k + 1) y0 y1 y2 y3 y4 y5 y6 y7 y8 y9))
  | 0 => ⟨fun _ _ _ _ _ _ _ _ r h => by simp [bits_Div64.j2] at h, fun _ _ _ _ _ _ _ _ _ r h => by simp [bits_Div64.l1] at h, fun _ _ _ _ _ _ _ _ _ _ r h => by simp [bits_Div64.j4] at h, fun _ _ _ _ _ _ _ _ _ r h => by simp [bits_Div64.l0] at h, fun _ _ _ _ _ _ _ _ _ _ r h => by simp [bits_Div64.j1] at h⟩
  | k + 1 => by
    obtain ⟨ih0, ih1, ih2, ih3, ih4⟩ := bits_Div64.mono_l k
    refine ⟨?_, ?_, ?_, ?_, ?_⟩
    · intro y0 y1 y2 y3 y4 y5 y6 y7
      unfold bits_Div64.j2
      exact bits_Div64.U1
    · intro y0 y1 y2 y3 y4 y5 y6 y7 y8
      unfold bits_Div64.l1
      exact bits_Div64.U1
    · intro y0 y1 y2 y3 y4 y5 y6 y7 y8 y9
      unfold bits_Div64.j4
      exact bits_Div64.U1
    · intro y0 y1 y2 y3 y4 y5 y6 y7 y8
      unfold bits_Div64.l0
      exact bits_Div64.U1
    · intro y0 y1 y2 y3 y4 y5 y6 y7 y8 y9
      unfold bits_Div64.j1
      exact bits_Div64.U1
theorem bits_Div64.mono : ∀ a0 a1 a2 k, LeO (bits_Div64.f k a0 a1 a2) (bits_Div64.f (k + 1) a0 a1 a2) := by
  intro a0 a1 a2 k
  obtain ⟨ih0, ih1, ih2, ih3, ih4⟩ := bits_Div64.mono_l k
  unfold bits_Div64.f
  exact bits_Div64.U1
def exact_trim.l0 : Nat → List Int → Int → Option (List Int)
  | 0, _, _ => none
  | k + 1, x0, x3 => if x3 > 0 then (if 0 ≤ (wrap64 (x3 - 1)) then (if (wrap64 (x3 - 1)) < (x0.length : Int) then (if (rd x0 (wrap64 (x3 - 1))) = 0 then (exact_trim.l0 k x0 (wrap64 (x3 - 1))) else (if 0 ≤ x3 then (if x3 ≤ (x0.length : Int) then (some (x0.take (x3 : Int).toNat)) else (none)) else (none))) else (none)) else (none)) else (if 0 ≤ x3 then (if x3 ≤ (x0.length : Int) then (some (x0.take (x3 : Int).toNat)) else (none)) else (none))
def exact_trim.f (k : Nat) (l0 : List Int) : Option (List Int) := exact_trim.l0 k l0 (l0.length : Int)
theorem exact_trim.U1 {g : Prop} (h : g := by
  repeat' first
  | (with_reducible exact ih0 _ _)
  | (with_reducible exact LeO.refl _)
  | (with_reducible exact LeO.none _)
  | (with_reducible refine LeO.ite ?_ ?_)
  | (with_reducible refine LeO.bind ?_ (fun _ => ?_))) : g := h
theorem exact_trim.mono_l : ∀ k, (∀ y0 y1, LeO (exact_trim.l0 k y0 y1) (exact_trim.l0 (k + 1) y0 y1))
  | 0 => fun _ _ r h => by simp [exact_trim.l0] at h
  | k + 1 => by
    have ih0 := exact_trim.mono_l k
    · intro y0 y1
      unfold exact_trim.l0
      exact exact_trim.U1
theorem exact_trim.mono : ∀ a0 k, LeO (exact_trim.f k a0) (exact_trim.f (k + 1) a0) := by
  intro a0 k
  have ih0 := exact_trim.mono_l k
  unfold exact_trim.f
  exact exact_trim.U1
def exact_shiftUp.l0 : Nat → Int → List Int → List Int → Int → Int → Option (List Int)
  | 0, _, _, _, _, _ => none
  | k + 1, x1, x5, x12, x13, x14 => if x14 < x13 then (if 0 ≤ x14 then (if x14 < (x12.length : Int) then (if x14 < (x5.length : Int) then (if 0 ≤ x1 then ((some (x5.set (x14 : Int).toNat (Go.bits .or .u64 (rd x5 x14) (shl .u64 (rd x12 x14) x1)) : List Int)).bind fun y127 => (if x1 > 0 then (if 0 ≤ (wrap64 (64 - x1)) then (if 0 ≤ (wrap64 (x14 + 1)) then (if (wrap64 (x14 + 1)) < (x5.length : Int) then (exact_shiftUp.l0 k x1 (y127.set ((wrap64 (x14 + 1)) : Int).toNat (shr .u64 (rd x12 x14) (wrap64 (64 - x1)))) x12 x13 (wrap64 (x14 + 1))) else (none)) else (none)) else (none)) else (exact_shiftUp.l0 k x1 y127 x12 x13 (wrap64 (x14 + 1))))) else (none)) else (none)) else (none)) else (none)) else (some x5)
def exact_shiftUp.f (k : Nat) (l0 : List Int) (a1 : Int) : Option (List Int) := if 0 ≤ (wrap64 ((l0.length : Int) + 1)) then (if (wrap64 ((l0.length : Int) + 1) : Int).toNat ≤ 35184372088832 then (exact_shiftUp.l0 k a1 (List.replicate (wrap64 ((l0.length : Int) + 1) : Int).toNat 0) l0 (l0.length : Int) 0) else (none)) else (none)
theorem exact_shiftUp.U1 {g : Prop} (h : g := by
  repeat' first
  | (with_reducible exact ih0 _ _ _ _ _)
  | (with_reducible exact LeO.refl _)
  | (with_reducible exact LeO.none _)
  | (with_reducible refine LeO.ite ?_ ?_)
  | (with_reducible refine LeO.bind ?_ (fun _ => ?_))) : g := h
theorem exact_shiftUp.mono_l : ∀ k, (∀ y0 y1 y2 y3 y4, LeO (exact_shiftUp.l0 k y0 y1 y2 y3 y4) (exact_shiftUp.l0 (k + 1) y0 y1 y2 y3 y4))
  | 0 => fun _ _ _ _ _ r h => by simp [exact_shiftUp.l0] at h
  | k + 1 => by
    have ih0 := exact_shiftUp.mono_l k
    · intro y0 y1 y2 y3 y4
      unfold exact_shiftUp.l0
      exact exact_shiftUp.U1
theorem exact_shiftUp.mono : ∀ a0 a1 k, LeO (exact_shiftUp.f k a0 a1) (exact_shiftUp.f (k + 1) a0 a1) := by
  intro a0 a1 k
  have ih0 := exact_shiftUp.mono_l k
  unfold exact_shiftUp.f
  exact exact_shiftUp.U1
def bits_Add64.f (a0 : Int) (a1 : Int) (a2 : Int) : Option (Int × Int) := if 0 ≤ a0 ∧ 0 ≤ a1 ∧ 0 ≤ a2 ∧ a2 ≤ 1 then some ((a0 + a1 + a2) % 18446744073709551616, (a0 + a1 + a2) / 18446744073709551616) else none
def bits_Sub64.f (a0 : Int) (a1 : Int) (a2 : Int) : Option (Int × Int) := if 0 ≤ a0 ∧ 0 ≤ a1 ∧ a1 ≤ 18446744073709551615 ∧ 0 ≤ a2 ∧ a2 ≤ 1 then some ((a0 - a1 - a2) % 18446744073709551616, if a0 < a1 + a2 then 1 else 0) else none
def bits_Mul64.f (a0 : Int) (a1 : Int) : Option (Int × Int) := some (IntKind.u64.wrap ((IntKind.u64.wrap ((IntKind.u64.wrap ((a0 / 4294967296) * (a1 / 4294967296))) + ((IntKind.u64.wrap ((IntKind.u64.wrap ((a0 / 4294967296) * (Go.bits .and .u64 a1 4294967295))) + ((IntKind.u64.wrap ((Go.bits .and .u64 a0 4294967295) * (Go.bits .and .u64 a1 4294967295))) / 4294967296))) / 4294967296))) + ((IntKind.u64.wrap ((Go.bits .and .u64 (IntKind.u64.wrap ((IntKind.u64.wrap ((a0 / 4294967296) * (Go.bits .and .u64 a1 4294967295))) + ((IntKind.u64.wrap ((Go.bits .and .u64 a0 4294967295) * (Go.bits .and .u64 a1 4294967295))) / 4294967296))) 4294967295) + (IntKind.u64.wrap ((Go.bits .and .u64 a0 4294967295) * (a1 / 4294967296))))) / 4294967296)), IntKind.u64.wrap (a0 * a1))
mutual
def exact_step.j0 : Nat → List Int → List Int → Int → Int → Int → Int → Option (Int × List Int)
  | 0, _, _, _, _, _, _ => none
  | k + 1, x0, x1, x5, x6, x7, x8 => exact_step.l0 k x0 x1 x5 x6 x7 x8
def exact_step.j2 : Nat → List Int → List Int → Int → Int → Option (Int × List Int)
  | 0, _, _, _, _ => none
  | k + 1, x0, x1, x5, x6 => exact_step.l1 k x0 x1 x5 x6 0 0 x5 0
def exact_step.l1 : Nat → List Int → List Int → Int → Int → Int → Int → Int → Int → Option (Int × List Int)
  | 0, _, _, _, _, _, _, _, _ => none
  | k + 1, x0, x1, x5, x6, x11, x12, x104, x105 => if x105 < x104 then (if 0 ≤ x105 then (if x105 < (x1.length : Int) then ((bits_Mul64.f x6 (rd x1 x105)).bind fun bt151 => ((bits_Add64.f bt151.2 x12 0).bind fun bt153 => (if x105 < (x0.length : Int) then ((bits_Sub64.f (rd x0 x105) bt153.1 x11).bind fun bt156 => (exact_step.l1 k (x0.set (x105 : Int).toNat bt156.1) x1 x5 x6 bt156.2 (IntKind.u64.wrap (bt151.1 + bt153.2)) x104 (wrap64 (x105 + 1)))) else (none)))) else (none)) else (none)) else (if 0 ≤ x5 then (if x5 < (x0.length : Int) then ((bits_Sub64.f (rd x0 x5) x12 x11).bind fun bt160 => ((some (x0.set (x5 : Int).toNat bt160.1 : List Int)).bind fun y162 => (if bt160.2 = 0 then (some (x6, y162)) else (exact_step.l2 k y162 x1 x5 x6 0 x5 0)))) else (none)) else (none))
def exact_step.l2 : Nat → List Int → List Int → Int → Int → Int → Int → Int → Option (Int × List Int)
  | 0, _, _, _, _, _, _, _ => none
  | k + 1, x0, x1, x5, x6, x17, x156, x157 => if x157 < x156 then (if 0 ≤ x157 then (if x157 < (x0.length : Int) then (if x157 < (x1.length : Int) then ((bits_Add64.f (rd x0 x157) (rd x1 x157) x17).bind fun bt165 => (exact_step.l2 k (x0.set (x157 : Int).toNat bt165.1) x1 x5 x6 bt165.2 x156 (wrap64 (x157 + 1)))) else (none)) else (none)) else (none)) else (if 0 ≤ x5 then (if x5 < (x0.length : Int) then (some (IntKind.u64.wrap (x6 - 1), (x0.set (x5 : Int).toNat (IntKind.u64.wrap ((rd x0 x5) + x17))))) else (none)) else (none))
def exact_step.l0 : Nat → List Int → List Int → Int → Int → Int → Int → Option (Int × List Int)
  | 0, _, _, _, _, _, _ => none
  | k + 1, x0, x1, x5, x6, x7, x8 => if x8 = 0 then (if 0 ≤ (wrap64 (x5 - 2)) then (if (wrap64 (x5 - 2)) < (x1.length : Int) then ((bits_Mul64.f x6 (rd x1 (wrap64 (x5 - 2)))).bind fun bt141 => (if bt141.1 < x7 then (exact_step.j2 k x0 x1 x5 x6) else (if bt141.1 = x7 then (if (wrap64 (x5 - 2)) < (x0.length : Int) then (if bt141.2 ≤ (rd x0 (wrap64 (x5 - 2))) then (exact_step.j2 k x0 x1 x5 x6) else (if 0 ≤ (wrap64 (x5 - 1)) then (if (wrap64 (x5 - 1)) < (x1.length : Int) then ((bits_Add64.f x7 (rd x1 (wrap64 (x5 - 1))) 0).bind fun bt145 => (exact_step.l0 k x0 x1 x5 (IntKind.u64.wrap (x6 - 1)) bt145.1 bt145.2)) else (none)) else (none))) else (none)) else (if 0 ≤ (wrap64 (x5 - 1)) then (if (wrap64 (x5 - 1)) < (x1.length : Int) then ((bits_Add64.f x7 (rd x1 (wrap64 (x5 - 1))) 0).bind fun bt148 => (exact_step.l0 k x0 x1 x5 (IntKind.u64.wrap (x6 - 1)) bt148.1 bt148.2)) else (none)) else (none))))) else (none)) else (none)) else (exact_step.j2 k x0 x1 x5 x6)
end
def exact_step.f (k : Nat) (l0 : List Int) (l1 : List Int) : Option (Int × List Int) := if 0 ≤ (l1.length : Int) then (if (l1.length : Int) < (l0.length : Int) then (if 0 ≤ (wrap64 ((l1.length : Int) - 1)) then (if (wrap64 ((l1.length : Int) - 1)) < (l1.length : Int) then (if (rd l0 (l1.length : Int)) ≥ (rd l1 (wrap64 ((l1.length : Int) - 1))) then (if (wrap64 ((l1.length : Int) - 1)) < (l0.length : Int) then ((bits_Add64.f (rd l0 (wrap64 ((l1.length : Int) - 1))) (rd l1 (wrap64 ((l1.length : Int) - 1))) 0).bind fun bt133 => (exact_step.j0 k l0 l1 (l1.length : Int) 18446744073709551615 bt133.1 bt133.2)) else (none)) else (if (wrap64 ((l1.length : Int) - 1)) < (l0.length : Int) then ((bits_Div64.f k (rd l0 (l1.length : Int)) (rd l0 (wrap64 ((l1.length : Int) - 1))) (rd l1 (wrap64 ((l1.length : Int) - 1)))).bind fun bt138 => (exact_step.j0 k l0 l1 (l1.length : Int) bt138.1 bt138.2 0)) else (none))) else (none)) else (none)) else (none)) else (none)
theorem exact_step.U1 {g : Prop} (h : g := by
  repeat' first
  | (with_reducible exact ih0 _ _ _ _ _ _)
  | (with_reducible exact ih1 _ _ _ _)
  | (with_reducible exact ih2 _ _ _ _ _ _ _ _)
  | (with_reducible exact ih3 _ _ _ _ _ _ _)
  | (with_reducible exact ih4 _ _ _ _ _ _)
  | (with_reducible exact bits_Div64.mono _ _ _ _)
  | (with_reducible exact LeO.refl _)
  | (with_reducible exact LeO.none _)
  | (with_reducible refine LeO.ite ?_ ?_)
  | (with_reducible refine LeO.bind ?_ (fun _ => ?_))) : g := h
theorem exact_step.mono_l : ∀ k, (∀ y0 y1 y2 y3 y4 y5, LeO (exact_step.j0 k y0 y1 y2 y3 y4 y5) (exact_step.j0 (k + 1) y0 y1 y2 y3 y4 y5)) ∧ (∀ y0 y1 y2 y3, LeO (exact_step.j2 k y0 y1 y2 y3) (exact_step.j2 (k + 1) y0 y1 y2 y3)) ∧ (∀ y0 y1 y2 y3 y4 y5 y6 y7, LeO (exact_step.l1 k y0 y1 y2 y3 y4 y5 y6 y7) (exact_step.l1 (k + 1) y0 y1 y2 y3 y4 y5 y6 y7)) ∧ (∀ y0 y1 y2 y3 y4 y5 y6, LeO (exact_step.l2 k y0 y1 y2 y3 y4 y5 y6) (exact_step.l2 (k + 1) y0 y1 y2 y3 y4 y5 y6)) ∧ (∀ y0 y1 y2 y3 y4 y5, LeO (exact_step.l0 k y0 y1 y2 y3 y4 y5) (exact_step.l0 (k + 1) y0 y1 y2 y3 y4 y5))
  | 0 => ⟨fun _ _ _ _ _ _ r h => by simp [exact_step.j0] at h, fun _ _ _ _ r h => by simp [exact_step.j2] at h, fun _ _ _ _ _ _ _ _ r h => by simp [exact_step.l1] at h, fun _ _ _ _ _ _ _ r h => by simp [exact_step.l2] at h, fun _ _ _ _ _ _ r h => by simp [exact_step.l0] at h⟩
  | k + 1 => by
    obtain ⟨ih0, ih1, ih2, ih3, ih4⟩ := exact_step.mono_l k
    refine ⟨?_, ?_, ?_, ?_, ?_⟩
    · intro y0 y1 y2 y3 y4 y5
      unfold exact_step.j0
      exact exact_step.U1
    · intro y0 y1 y2 y3
      unfold exact_step.j2
      exact exact_step.U1
    · intro y0 y1 y2 y3 y4 y5 y6 y7
      unfold exact_step.l1
      exact exact_step.U1
    · intro y0 y1 y2 y3 y4 y5 y6
      unfold exact_step.l2
      exact exact_step.U1
    · intro y0 y1 y2 y3 y4 y5
      unfold exact_step.l0
      exact exact_step.U1
theorem exact_step.mono : ∀ a0 a1 k, LeO (exact_step.f k a0 a1) (exact_step.f (k + 1) a0 a1) := by
  intro a0 a1 k
  obtain ⟨ih0, ih1, ih2, ih3, ih4⟩ := exact_step.mono_l k
  unfold exact_step.f
  exact exact_step.U1
def exact_stepAt.f (k : Nat) (l0 : List Int) (l1 : List Int) (a2 : Int) (a3 : Int) : Option (Int × List Int) := (exact_step.f k ((l0.take a3.toNat).drop a2.toNat) l1).bind fun bt => (some (bt.1, l0.take a2.toNat ++ bt.2 ++ l0.drop a3.toNat))
theorem exact_stepAt.mono : ∀ a0 a1 a2 a3 k, LeO (exact_stepAt.f k a0 a1 a2 a3) (exact_stepAt.f (k + 1) a0 a1 a2 a3) := fun a0 a1 a2 a3 k => LeO.bind (exact_step.mono _ _ _) (fun _ => LeO.refl _)
mutual
def exact_divide.l0 : Nat → List Int → List Int → List Int → Int → Int → Option (List Int × List Int)
  | 0, _, _, _, _, _ => none
  | k + 1, x0, x1, x6, x7, x8 => if x8 ≥ 0 then (if 0 ≤ x8 then (if x8 < (x0.length : Int) then (if 0 < (x1.length : Int) then ((bits_Div64.f k x7 (rd x0 x8) (rd x1 0)).bind fun bt176 => (if x8 < (x6.length : Int) then (exact_divide.l0 k x0 x1 (x6.set (x8 : Int).toNat bt176.1) bt176.2 (wrap64 (x8 - 1))) else (none))) else (none)) else (none)) else (none)) else ((exact_trim.f k x6).bind fun t179 => ((exact_trim.f k (([x7] : List Int))).bind fun t185 => (some (t179, t185))))
def exact_divide.l1 : Nat → Int → List Int → List Int → Int → List Int → Int → Option (List Int × List Int)
  | 0, _, _, _, _, _, _ => none
  | k + 1, x9, x10, x11, x12, x13, x14 => if x14 ≥ 0 then (if 0 ≤ x14 then (if x14 ≤ (wrap64 ((wrap64 (x14 + x12)) + 1)) then (if (wrap64 ((wrap64 (x14 + x12)) + 1)) ≤ (x11.length : Int) then ((exact_stepAt.f k x11 x10 x14 (wrap64 ((wrap64 (x14 + x12)) + 1))).bind fun bt206 => (if x14 < (x13.length : Int) then (exact_divide.l1 k x9 x10 bt206.2 x12 (x13.set (x14 : Int).toNat bt206.1) (wrap64 (x14 - 1))) else (none))) else (none)) else (none)) else (none)) else (exact_divide.l2 k x9 x11 x12 x13 x12 0)
def exact_divide.l2 : Nat → Int → List Int → Int → List Int → Int → Int → Option (List Int × List Int)
  | 0, _, _, _, _, _, _ => none
  | k + 1, x9, x11, x12, x13, x96, x97 => if x97 < x96 then (if 0 ≤ x97 then (if x97 < (x11.length : Int) then (if 0 ≤ x9 then ((some (x11.set (x97 : Int).toNat (shr .u64 (rd x11 x97) x9) : List Int)).bind fun y210 => (if x9 > 0 then (if (wrap64 (x97 + 1)) < (x11.length : Int) then (if 0 ≤ (wrap64 (x97 + 1)) then (if 0 ≤ (wrap64 (64 - x9)) then (exact_divide.l2 k x9 (y210.set (x97 : Int).toNat (Go.bits .or .u64 (rd y210 x97) (shl .u64 (rd y210 (wrap64 (x97 + 1))) (wrap64 (64 - x9))))) x12 x13 x96 (wrap64 (x97 + 1))) else (none)) else (none)) else (exact_divide.l2 k x9 y210 x12 x13 x96 (wrap64 (x97 + 1)))) else (exact_divide.l2 k x9 y210 x12 x13 x96 (wrap64 (x97 + 1))))) else (none)) else (none)) else (none)) else ((exact_trim.f k x13).bind fun t214 => (if 0 ≤ x12 then (if x12 ≤ (x11.length : Int) then ((exact_trim.f k (x11.take (x12 : Int).toNat)).bind fun t220 => (some (t214, t220))) else (none)) else (none)))
end
def exact_divide.f (k : Nat) (l0 : List Int) (l1 : List Int) : Option (List Int × List Int) := (exact_compareWords.f k l0 l1).bind fun t170 => (if t170 < 0 then (some (([] : List Int), l0)) else (if (l1.length : Int) = 1 then (if 0 ≤ (l0.length : Int) then (if ((l0.length : Int) : Int).toNat ≤ 35184372088832 then (exact_divide.l0 k l0 l1 (List.replicate ((l0.length : Int) : Int).toNat 0) 0 (wrap64 ((l0.length : Int) - 1))) else (none)) else (none)) else (if 0 ≤ (wrap64 ((l1.length : Int) - 1)) then (if (wrap64 ((l1.length : Int) - 1)) < (l1.length : Int) then ((bits_LeadingZeros64.f (rd l1 (wrap64 ((l1.length : Int) - 1)))).bind fun t189 => ((exact_shiftUp.f k l1 t189).bind fun t190 => ((exact_trim.f k t190).bind fun t193 => ((exact_shiftUp.f k l0 t189).bind fun t196 => (if 0 ≤ (wrap64 ((wrap64 ((l0.length : Int) - (t193.length : Int))) + 1)) then (if (wrap64 ((wrap64 ((l0.length : Int) - (t193.length : Int))) + 1) : Int).toNat ≤ 35184372088832 then (exact_divide.l1 k t189 t193 t196 (t193.length : Int) (List.replicate (wrap64 ((wrap64 ((l0.length : Int) - (t193.length : Int))) + 1) : Int).toNat 0) (wrap64 ((l0.length : Int) - (t193.length : Int)))) else (none)) else (none)))))) else (none)) else (none))))
theorem exact_divide.U1 {g : Prop} (h : g := by
  repeat' first
  | (with_reducible exact ih0 _ _ _ _ _)
  | (with_reducible exact ih1 _ _ _ _ _ _)
  | (with_reducible exact ih2 _ _ _ _ _ _)
  | (with_reducible exact bits_Div64.mono _ _ _ _)
  | (with_reducible exact exact_compareWords.mono _ _ _)
  | (with_reducible exact exact_shiftUp.mono _ _ _)
  | (with_reducible exact exact_step.mono _ _ _)
  | (with_reducible exact exact_stepAt.mono _ _ _ _ _)
  | (with_reducible exact exact_trim.mono _ _)
  | (with_reducible exact LeO.refl _)
  | (with_reducible exact LeO.none _)
  | (with_reducible refine LeO.ite ?_ ?_)
  | (with_reducible refine LeO.bind ?_ (fun _ => ?_))) : g := h
theorem exact_divide.mono_l : ∀ k, (∀ y0 y1 y2 y3 y4, LeO (exact_divide.l0 k y0 y1 y2 y3 y4) (exact_divide.l0 (k + 1) y0 y1 y2 y3 y4)) ∧ (∀ y0 y1 y2 y3 y4 y5, LeO (exact_divide.l1 k y0 y1 y2 y3 y4 y5) (exact_divide.l1 (k + 1) y0 y1 y2 y3 y4 y5)) ∧ (∀ y0 y1 y2 y3 y4 y5, LeO (exact_divide.l2 k y0 y1 y2 y3 y4 y5) (exact_divide.l2 (k + 1) y0 y1 y2 y3 y4 y5))
  | 0 => ⟨fun _ _ _ _ _ r h => by simp [exact_divide.l0] at h, fun _ _ _ _ _ _ r h => by simp [exact_divide.l1] at h, fun _ _ _ _ _ _ r h => by simp [exact_divide.l2] at h⟩
  | k + 1 => by
    obtain ⟨ih0, ih1, ih2⟩ := exact_divide.mono_l k
    refine ⟨?_, ?_, ?_⟩
    · intro y0 y1 y2 y3 y4
      unfold exact_divide.l0
      exact exact_divide.U1
    · intro y0 y1 y2 y3 y4 y5
      unfold exact_divide.l1
      exact exact_divide.U1
    · intro y0 y1 y2 y3 y4 y5
      unfold exact_divide.l2
      exact exact_divide.U1
theorem exact_divide.mono : ∀ a0 a1 k, LeO (exact_divide.f k a0 a1) (exact_divide.f (k + 1) a0 a1) := by
  intro a0 a1 k
  obtain ⟨ih0, ih1, ih2⟩ := exact_divide.mono_l k
  unfold exact_divide.f
  exact exact_divide.U1
def exact_words.l0 : Nat → ByteArray → List Int → Int → Int → Option (List Int)
  | 0, _, _, _, _ => none
  | k + 1, x0, x3, x12, x13 => if x13 < x12 then (if 0 ≤ (wrap64 (Int.tdiv (wrap64 ((wrap64 ((x0.size : Int) - 1)) - x13)) 8)) then (if (wrap64 (Int.tdiv (wrap64 ((wrap64 ((x0.size : Int) - 1)) - x13)) 8)) < (x3.length : Int) then (if 0 ≤ x13 then (if x13 < (x0.size : Int) then (if 0 ≤ (wrap64 (8 * (Int.tmod (wrap64 ((wrap64 ((x0.size : Int) - 1)) - x13)) 8))) then (exact_words.l0 k x0 (x3.set ((wrap64 (Int.tdiv (wrap64 ((wrap64 ((x0.size : Int) - 1)) - x13)) 8)) : Int).toNat (Go.bits .or .u64 (rd x3 (wrap64 (Int.tdiv (wrap64 ((wrap64 ((x0.size : Int) - 1)) - x13)) 8))) (shl .u64 (IntKind.u64.wrap (bt x0 x13)) (wrap64 (8 * (Int.tmod (wrap64 ((wrap64 ((x0.size : Int) - 1)) - x13)) 8)))))) x12 (wrap64 (x13 + 1))) else (none)) else (none)) else (none)) else (none)) else (none)) else ((exact_trim.f k x3).bind fun t228 => (some t228))
def exact_words.f (k : Nat) (a0 : ByteArray) : Option (List Int) := if 0 ≤ (wrap64 (Int.tdiv (wrap64 ((a0.size : Int) + 7)) 8)) then (if (wrap64 (Int.tdiv (wrap64 ((a0.size : Int) + 7)) 8) : Int).toNat ≤ 35184372088832 then (exact_words.l0 k a0 (List.replicate (wrap64 (Int.tdiv (wrap64 ((a0.size : Int) + 7)) 8) : Int).toNat 0) (a0.size : Int) 0) else (none)) else (none)
theorem exact_words.U1 {g : Prop} (h : g := by
  repeat' first
  | (with_reducible exact ih0 _ _ _ _)
  | (with_reducible exact exact_trim.mono _ _)
  | (with_reducible exact LeO.refl _)
  | (with_reducible exact LeO.none _)
  | (with_reducible refine LeO.ite ?_ ?_)
  | (with_reducible refine LeO.bind ?_ (fun _ => ?_))) : g := h
theorem exact_words.mono_l : ∀ k, (∀ y0 y1 y2 y3, LeO (exact_words.l0 k y0 y1 y2 y3) (exact_words.l0 (k + 1) y0 y1 y2 y3))
  | 0 => fun _ _ _ _ r h => by simp [exact_words.l0] at h
  | k + 1 => by
    have ih0 := exact_words.mono_l k
    · intro y0 y1 y2 y3
      unfold exact_words.l0
      exact exact_words.U1
theorem exact_words.mono : ∀ a0 k, LeO (exact_words.f k a0) (exact_words.f (k + 1) a0) := by
  intro a0 k
  have ih0 := exact_words.mono_l k
  unfold exact_words.f
  exact exact_words.U1
mutual
def exact_pack.l0 : Nat → List Int → List Int → Int → Int → Option (ByteArray)
  | 0, _, _, _, _ => none
  | k + 1, x3, x17, x18, x19 => if x19 < x18 then (if 0 ≤ x19 then (if x19 < (x17.length : Int) then (exact_pack.l1 k x3 x19 (rd x17 x19) x17 x18 x19 0) else (none)) else (none)) else (exact_pack.l2 k x3 0)
def exact_pack.l1 : Nat → List Int → Int → Int → List Int → Int → Int → Int → Option (ByteArray)
  | 0, _, _, _, _, _, _, _ => none
  | k + 1, x3, x4, x5, x17, x18, x19, x24 => if x24 < 8 then (if 0 ≤ (wrap64 (8 * x24)) then (if 0 ≤ (wrap64 ((wrap64 ((wrap64 ((x3.length : Int) - 1)) - (wrap64 (8 * x4)))) - x24)) then (if (wrap64 ((wrap64 ((wrap64 ((x3.length : Int) - 1)) - (wrap64 (8 * x4)))) - x24)) < (x3.length : Int) then (exact_pack.l1 k (x3.set ((wrap64 ((wrap64 ((wrap64 ((x3.length : Int) - 1)) - (wrap64 (8 * x4)))) - x24)) : Int).toNat ((shr .u64 x5 (wrap64 (8 * x24))) % 256)) x4 x5 x17 x18 x19 (wrap64 (x24 + 1))) else (none)) else (none)) else (none)) else (exact_pack.l0 k x3 x17 x18 (wrap64 (x19 + 1)))
def exact_pack.l2 : Nat → List Int → Int → Option (ByteArray)
  | 0, _, _ => none
  | k + 1, x3, x7 => if 0 ≤ x7 then (if x7 < (x3.length : Int) then (if (rd x3 x7) = 0 then (exact_pack.l2 k x3 (wrap64 (x7 + 1))) else (if x7 ≤ (x3.length : Int) then (some (strOfNums (x3.drop (x7 : Int).toNat))) else (none))) else (none)) else (none)
end
def exact_pack.f (k : Nat) (l0 : List Int) : Option (ByteArray) := (exact_trim.f k l0).bind fun t231 => (if (t231.length : Int) = 0 then (some (⟨#[]⟩ : ByteArray)) else (if 0 ≤ (wrap64 (8 * (t231.length : Int))) then (if (wrap64 (8 * (t231.length : Int)) : Int).toNat ≤ 281474976710656 then (exact_pack.l0 k (List.replicate (wrap64 (8 * (t231.length : Int)) : Int).toNat 0) t231 (t231.length : Int) 0) else (none)) else (none)))
theorem exact_pack.U1 {g : Prop} (h : g := by
  repeat' first
  | (with_reducible exact ih0 _ _ _ _)
  | (with_reducible exact ih1 _ _ _ _ _ _ _)
  | (with_reducible exact ih2 _ _)
  | (with_reducible exact exact_trim.mono _ _)
  | (with_reducible exact LeO.refl _)
  | (with_reducible exact LeO.none _)
  | (with_reducible refine LeO.ite ?_ ?_)
  | (with_reducible refine LeO.bind ?_ (fun _ => ?_))) : g := h
theorem exact_pack.mono_l : ∀ k, (∀ y0 y1 y2 y3, LeO (exact_pack.l0 k y0 y1 y2 y3) (exact_pack.l0 (k + 1) y0 y1 y2 y3)) ∧ (∀ y0 y1 y2 y3 y4 y5 y6, LeO (exact_pack.l1 k y0 y1 y2 y3 y4 y5 y6) (exact_pack.l1 (k + 1) y0 y1 y2 y3 y4 y5 y6)) ∧ (∀ y0 y1, LeO (exact_pack.l2 k y0 y1) (exact_pack.l2 (k + 1) y0 y1))
  | 0 => ⟨fun _ _ _ _ r h => by simp [exact_pack.l0] at h, fun _ _ _ _ _ _ _ r h => by simp [exact_pack.l1] at h, fun _ _ r h => by simp [exact_pack.l2] at h⟩
  | k + 1 => by
    obtain ⟨ih0, ih1, ih2⟩ := exact_pack.mono_l k
    refine ⟨?_, ?_, ?_⟩
    · intro y0 y1 y2 y3
      unfold exact_pack.l0
      exact exact_pack.U1
    · intro y0 y1 y2 y3 y4 y5 y6
      unfold exact_pack.l1
      exact exact_pack.U1
    · intro y0 y1
      unfold exact_pack.l2
      exact exact_pack.U1
theorem exact_pack.mono : ∀ a0 k, LeO (exact_pack.f k a0) (exact_pack.f (k + 1) a0) := by
  intro a0 k
  obtain ⟨ih0, ih1, ih2⟩ := exact_pack.mono_l k
  unfold exact_pack.f
  exact exact_pack.U1
def exact_NatDivMod.f (k : Nat) (a0 : ByteArray) (a1 : ByteArray) : Option (ByteArray × ByteArray) := (exact_words.f k a0).bind fun t244 => ((exact_words.f k a1).bind fun t247 => ((exact_divide.f k t244 t247).bind fun bt250 => ((exact_pack.f k bt250.1).bind fun t256 => ((exact_pack.f k bt250.2).bind fun t257 => (some (t256, t257))))))
theorem exact_NatDivMod.mono : ∀ a0 a1 k, LeO (exact_NatDivMod.f k a0 a1) (exact_NatDivMod.f (k + 1) a0 a1) := by
  intro a0 a1 k
  unfold exact_NatDivMod.f
  repeat' first
      | (with_reducible exact exact_divide.mono _ _ _)
      | (with_reducible exact exact_pack.mono _ _)
      | (with_reducible exact exact_words.mono _ _)
      | (with_reducible exact LeO.refl _)
      | (with_reducible exact LeO.none _)
      | (with_reducible refine LeO.ite ?_ ?_)
      | (with_reducible refine LeO.bind ?_ (fun _ => ?_))
mutual
def exact_NatAdd.j0 : Nat → List Int → List Int → Option (ByteArray)
  | 0, _, _ => none
  | k + 1, x5, x6 => if 0 ≤ (wrap64 ((x5.length : Int) + 1)) then (if (wrap64 ((x5.length : Int) + 1) : Int).toNat ≤ 35184372088832 then (exact_NatAdd.l0 k x5 x6 (List.replicate (wrap64 ((x5.length : Int) + 1) : Int).toNat 0) 0 (x5.length : Int) 0) else (none)) else (none)
def exact_NatAdd.l0 : Nat → List Int → List Int → List Int → Int → Int → Int → Option (ByteArray)
  | 0, _, _, _, _, _, _ => none
  | k + 1, x5, x6, x7, x8, x27, x28 => if x28 < x27 then (if x28 < (x6.length : Int) then (if 0 ≤ x28 then (if x28 < (x5.length : Int) then ((bits_Add64.f (rd x5 x28) (rd x6 x28) x8).bind fun bt269 => (if x28 < (x7.length : Int) then (exact_NatAdd.l0 k x5 x6 (x7.set (x28 : Int).toNat bt269.1) bt269.2 x27 (wrap64 (x28 + 1))) else (none))) else (none)) else (none)) else (if 0 ≤ x28 then (if x28 < (x5.length : Int) then ((bits_Add64.f (rd x5 x28) 0 x8).bind fun bt273 => (if x28 < (x7.length : Int) then (exact_NatAdd.l0 k x5 x6 (x7.set (x28 : Int).toNat bt273.1) bt273.2 x27 (wrap64 (x28 + 1))) else (none))) else (none)) else (none))) else (if 0 ≤ (x5.length : Int) then (if (x5.length : Int) < (x7.length : Int) then ((exact_pack.f k (x7.set ((x5.length : Int) : Int).toNat x8)).bind fun t277 => (some t277)) else (none)) else (none))
end
def exact_NatAdd.f (k : Nat) (a0 : ByteArray) (a1 : ByteArray) : Option (ByteArray) := (exact_words.f k a0).bind fun t258 => ((exact_words.f k a1).bind fun t261 => (if (t258.length : Int) < (t261.length : Int) then (exact_NatAdd.j0 k t261 t258) else (exact_NatAdd.j0 k t258 t261)))
theorem exact_NatAdd.U1 {g : Prop} (h : g := by
  repeat' first
  | (with_reducible exact ih0 _ _)
  | (with_reducible exact ih1 _ _ _ _ _ _)
  | (with_reducible exact exact_pack.mono _ _)
  | (with_reducible exact exact_words.mono _ _)
  | (with_reducible exact LeO.refl _)
  | (with_reducible exact LeO.none _)
  | (with_reducible refine LeO.ite ?_ ?_)
  | (with_reducible refine LeO.bind ?_ (fun _ => ?_))) : g := h
theorem exact_NatAdd.mono_l : ∀ k, (∀ y0 y1, LeO (exact_NatAdd.j0 k y0 y1) (exact_NatAdd.j0 (k + 1) y0 y1)) ∧ (∀ y0 y1 y2 y3 y4 y5, LeO (exact_NatAdd.l0 k y0 y1 y2 y3 y4 y5) (exact_NatAdd.l0 (k + 1) y0 y1 y2 y3 y4 y5))
  | 0 => ⟨fun _ _ r h => by simp [exact_NatAdd.j0] at h, fun _ _ _ _ _ _ r h => by simp [exact_NatAdd.l0] at h⟩
  | k + 1 => by
    obtain ⟨ih0, ih1⟩ := exact_NatAdd.mono_l k
    refine ⟨?_, ?_⟩
    · intro y0 y1
      unfold exact_NatAdd.j0
      exact exact_NatAdd.U1
    · intro y0 y1 y2 y3 y4 y5
      unfold exact_NatAdd.l0
      exact exact_NatAdd.U1
theorem exact_NatAdd.mono : ∀ a0 a1 k, LeO (exact_NatAdd.f k a0 a1) (exact_NatAdd.f (k + 1) a0 a1) := by
  intro a0 a1 k
  obtain ⟨ih0, ih1⟩ := exact_NatAdd.mono_l k
  unfold exact_NatAdd.f
  exact exact_NatAdd.U1
def exact_NatOf.f (k : Nat) (a0 : Int) : Option (ByteArray) := (exact_pack.f k (([a0] : List Int))).bind fun t281 => (some t281)
theorem exact_NatOf.mono : ∀ a0 k, LeO (exact_NatOf.f k a0) (exact_NatOf.f (k + 1) a0) := by
  intro a0 k
  unfold exact_NatOf.f
  repeat' first
      | (with_reducible exact exact_pack.mono _ _)
      | (with_reducible exact LeO.refl _)
      | (with_reducible exact LeO.none _)
      | (with_reducible refine LeO.ite ?_ ?_)
      | (with_reducible refine LeO.bind ?_ (fun _ => ?_))
def exact_NatSub.l0 : Nat → List Int → List Int → Int → Int → Int → Option (ByteArray)
  | 0, _, _, _, _, _ => none
  | k + 1, x5, x6, x7, x15, x16 => if x16 < x15 then (if x16 < (x6.length : Int) then (if 0 ≤ x16 then (if x16 < (x5.length : Int) then ((bits_Sub64.f (rd x5 x16) (rd x6 x16) x7).bind fun bt290 => (exact_NatSub.l0 k (x5.set (x16 : Int).toNat bt290.1) x6 bt290.2 x15 (wrap64 (x16 + 1)))) else (none)) else (none)) else (if 0 ≤ x16 then (if x16 < (x5.length : Int) then ((bits_Sub64.f (rd x5 x16) 0 x7).bind fun bt294 => (exact_NatSub.l0 k (x5.set (x16 : Int).toNat bt294.1) x6 bt294.2 x15 (wrap64 (x16 + 1)))) else (none)) else (none))) else ((exact_pack.f k x5).bind fun t297 => (some t297))
def exact_NatSub.f (k : Nat) (a0 : ByteArray) (a1 : ByteArray) : Option (ByteArray) := (exact_words.f k a0).bind fun t282 => ((exact_words.f k a1).bind fun t285 => (exact_NatSub.l0 k t282 t285 0 (t282.length : Int) 0))
theorem exact_NatSub.U1 {g : Prop} (h : g := by
  repeat' first
  | (with_reducible exact ih0 _ _ _ _ _)
  | (with_reducible exact exact_pack.mono _ _)
  | (with_reducible exact exact_words.mono _ _)
  | (with_reducible exact LeO.refl _)
  | (with_reducible exact LeO.none _)
  | (with_reducible refine LeO.ite ?_ ?_)
  | (with_reducible refine LeO.bind ?_ (fun _ => ?_))) : g := h
theorem exact_NatSub.mono_l : ∀ k, (∀ y0 y1 y2 y3 y4, LeO (exact_NatSub.l0 k y0 y1 y2 y3 y4) (exact_NatSub.l0 (k + 1) y0 y1 y2 y3 y4))
  | 0 => fun _ _ _ _ _ r h => by simp [exact_NatSub.l0] at h
  | k + 1 => by
    have ih0 := exact_NatSub.mono_l k
    · intro y0 y1 y2 y3 y4
      unfold exact_NatSub.l0
      exact exact_NatSub.U1
theorem exact_NatSub.mono : ∀ a0 a1 k, LeO (exact_NatSub.f k a0 a1) (exact_NatSub.f (k + 1) a0 a1) := by
  intro a0 a1 k
  have ih0 := exact_NatSub.mono_l k
  unfold exact_NatSub.f
  exact exact_NatSub.U1
def exact_IntMake.f (a0 : Bool) (a1 : ByteArray) : Option (Bool × ByteArray) := if a0 = true then (some ((!a1.toList.isEmpty), a1)) else (some (false, a1))
def exact_IntDivMod.j0 : Nat → ByteArray → ByteArray → Bool → Bool → ByteArray → Bool → ByteArray → Option (Bool × ByteArray × Bool × ByteArray)
  | 0, _, _, _, _, _, _, _ => none
  | k + 1, x6, x7, x21, x300000, x300001, x301000, x301001 => if x21 = true then ((exact_NatOf.f k 1).bind fun t305 => ((exact_NatAdd.f k x6 t305).bind fun t306 => ((exact_NatSub.f k x301001 x7).bind fun t307 => ((exact_IntMake.f (x300000 != x301000) t306).bind fun bt308 => (some (bt308.1, bt308.2, false, t307)))))) else ((exact_IntMake.f (x300000 != x301000) x6).bind fun bt310 => (some (bt310.1, bt310.2, false, x7)))
def exact_IntDivMod.f (k : Nat) (a0_0 : Bool) (a0_1 : ByteArray) (a1_0 : Bool) (a1_1 : ByteArray) : Option (Bool × ByteArray × Bool × ByteArray) := (exact_NatDivMod.f k a0_1 a1_1).bind fun bt303 => (if a0_0 = true then (exact_IntDivMod.j0 k bt303.1 bt303.2 (!bt303.2.toList.isEmpty) a0_0 a0_1 a1_0 a1_1) else (exact_IntDivMod.j0 k bt303.1 bt303.2 false a0_0 a0_1 a1_0 a1_1))
theorem exact_IntDivMod.U1 {g : Prop} (h : g := by
  repeat' first
  | (with_reducible exact ih0 _ _ _ _ _ _ _)
  | (with_reducible exact exact_NatAdd.mono _ _ _)
  | (with_reducible exact exact_NatDivMod.mono _ _ _)
  | (with_reducible exact exact_NatOf.mono _ _)
  | (with_reducible exact exact_NatSub.mono _ _ _)
  | (with_reducible exact LeO.refl _)
  | (with_reducible exact LeO.none _)
  | (with_reducible refine LeO.ite ?_ ?_)
  | (with_reducible refine LeO.bind ?_ (fun _ => ?_))) : g := h
theorem exact_IntDivMod.mono_l : ∀ k, (∀ y0 y1 y2 y3 y4 y5 y6, LeO (exact_IntDivMod.j0 k y0 y1 y2 y3 y4 y5 y6) (exact_IntDivMod.j0 (k + 1) y0 y1 y2 y3 y4 y5 y6))
  | 0 => fun _ _ _ _ _ _ _ r h => by simp [exact_IntDivMod.j0] at h
  | k + 1 => by
    have ih0 := exact_IntDivMod.mono_l k
    · intro y0 y1 y2 y3 y4 y5 y6
      unfold exact_IntDivMod.j0
      exact exact_IntDivMod.U1
theorem exact_IntDivMod.mono : ∀ a0 a1 a2 a3 k, LeO (exact_IntDivMod.f k a0 a1 a2 a3) (exact_IntDivMod.f (k + 1) a0 a1 a2 a3) := by
  intro a0 a1 a2 a3 k
  have ih0 := exact_IntDivMod.mono_l k
  unfold exact_IntDivMod.f
  exact exact_IntDivMod.U1
def integer_DivMod.f (k : Nat) (a0_0 : Bool) (a0_1 : ByteArray) (a1_0 : Bool) (a1_1 : ByteArray) : Option (Bool × ByteArray × Bool × ByteArray × Int) := (integer_first.f k (([(⟨a0_0, a0_1⟩ : S24), (⟨a1_0, a1_1⟩ : S24)] : List (S24)))).bind fun t319 => (if t319 = 0 then ((integer_zero.f).bind fun bt324 => (if (a1_0 == bt324.1 && (a1_1.toList == bt324.2.toList)) = true then ((integer_zero.f).bind fun bt326 => ((integer_zero.f).bind fun bt328 => (some (bt326.1, bt326.2, bt328.1, bt328.2, 6)))) else ((exact_IntDivMod.f k a0_0 a0_1 a1_0 a1_1).bind fun bt330 => (if (bt330.2.1.size : Int) > 1024 then ((integer_zero.f).bind fun bt336 => ((integer_zero.f).bind fun bt338 => (some (bt336.1, bt336.2, bt338.1, bt338.2, 4)))) else (some (bt330.1, bt330.2.1, bt330.2.2.1, bt330.2.2.2, 0)))))) else ((integer_zero.f).bind fun bt320 => ((integer_zero.f).bind fun bt322 => (some (bt320.1, bt320.2, bt322.1, bt322.2, t319)))))
theorem integer_DivMod.mono : ∀ a0 a1 a2 a3 k, LeO (integer_DivMod.f k a0 a1 a2 a3) (integer_DivMod.f (k + 1) a0 a1 a2 a3) := by
  intro a0 a1 a2 a3 k
  unfold integer_DivMod.f
  repeat' first
    | (with_reducible exact integer_first.mono _ _)
    | (with_reducible exact exact_IntDivMod.mono _ _ _ _ _)
    | (with_reducible exact LeO.refl _)
    | (with_reducible refine LeO.ite ?_ ?_)
    | (with_reducible refine LeO.bind ?_ (fun _ => ?_))
def exact_NatGcd.l0 : Nat → List Int → List Int → Option (ByteArray)
  | 0, _, _ => none
  | k + 1, x5, x6 => if (x6.length : Int) > 0 then ((exact_divide.f k x5 x6).bind fun bt318 => (exact_NatGcd.l0 k x6 bt318.2)) else ((exact_pack.f k x5).bind fun t324 => (some t324))
def exact_NatGcd.f (k : Nat) (a0 : ByteArray) (a1 : ByteArray) : Option (ByteArray) := (exact_words.f k a0).bind fun t312 => ((exact_words.f k a1).bind fun t315 => (exact_NatGcd.l0 k t312 t315))
theorem exact_NatGcd.U1 {g : Prop} (h : g := by
  repeat' first
  | (with_reducible exact ih0 _ _)
  | (with_reducible exact exact_divide.mono _ _ _)
  | (with_reducible exact exact_pack.mono _ _)
  | (with_reducible exact exact_words.mono _ _)
  | (with_reducible exact LeO.refl _)
  | (with_reducible exact LeO.none _)
  | (with_reducible refine LeO.ite ?_ ?_)
  | (with_reducible refine LeO.bind ?_ (fun _ => ?_))) : g := h
theorem exact_NatGcd.mono_l : ∀ k, (∀ y0 y1, LeO (exact_NatGcd.l0 k y0 y1) (exact_NatGcd.l0 (k + 1) y0 y1))
  | 0 => fun _ _ r h => by simp [exact_NatGcd.l0] at h
  | k + 1 => by
    have ih0 := exact_NatGcd.mono_l k
    · intro y0 y1
      unfold exact_NatGcd.l0
      exact exact_NatGcd.U1
theorem exact_NatGcd.mono : ∀ a0 a1 k, LeO (exact_NatGcd.f k a0 a1) (exact_NatGcd.f (k + 1) a0 a1) := by
  intro a0 a1 k
  have ih0 := exact_NatGcd.mono_l k
  unfold exact_NatGcd.f
  exact exact_NatGcd.U1
def exact_IntGcd.f (k : Nat) (a0_0 : Bool) (a0_1 : ByteArray) (a1_0 : Bool) (a1_1 : ByteArray) : Option (Bool × ByteArray) := (exact_NatGcd.f k a0_1 a1_1).bind fun t328 => (some (false, t328))
theorem exact_IntGcd.mono : ∀ a0 a1 a2 a3 k, LeO (exact_IntGcd.f k a0 a1 a2 a3) (exact_IntGcd.f (k + 1) a0 a1 a2 a3) := by
  intro a0 a1 a2 a3 k
  unfold exact_IntGcd.f
  repeat' first
      | (with_reducible exact exact_NatGcd.mono _ _ _)
      | (with_reducible exact LeO.refl _)
      | (with_reducible exact LeO.none _)
      | (with_reducible refine LeO.ite ?_ ?_)
      | (with_reducible refine LeO.bind ?_ (fun _ => ?_))
def integer_Gcd.f (k : Nat) (a0_0 : Bool) (a0_1 : ByteArray) (a1_0 : Bool) (a1_1 : ByteArray) : Option (Bool × ByteArray × Int) := (integer_first.f k ([⟨a0_0, a0_1⟩, ⟨a1_0, a1_1⟩] : List S24)).bind fun e => (if e = 0 then (exact_IntGcd.f k a0_0 a0_1 a1_0 a1_1).bind fun n => (if (n.2.size : Int) > 1024 then some (false, ⟨#[]⟩, 4) else some (n.1, n.2, 0)) else some (false, ⟨#[]⟩, e))
theorem integer_Gcd.mono : ∀ a0 a1 a2 a3 k, LeO (integer_Gcd.f k a0 a1 a2 a3) (integer_Gcd.f (k + 1) a0 a1 a2 a3) := by
  intro a0 a1 a2 a3 k
  unfold integer_Gcd.f
  refine LeO.bind (integer_first.mono _ _) (fun _ => ?_)
  refine LeO.ite ?_ (LeO.refl _)
  exact LeO.bind (exact_IntGcd.mono _ _ _ _ _) (fun _ => LeO.refl _)
def exact_IntOf.f (k : Nat) (a0 : Int) : Option (Bool × ByteArray) := if a0 < 0 then ((exact_NatOf.f k (IntKind.u64.wrap (-(IntKind.u64.wrap (a0))))).bind fun t330 => (some (true, t330))) else ((exact_NatOf.f k (IntKind.u64.wrap (a0))).bind fun t331 => (some (false, t331)))
theorem exact_IntOf.mono : ∀ a0 k, LeO (exact_IntOf.f k a0) (exact_IntOf.f (k + 1) a0) := by
  intro a0 k
  unfold exact_IntOf.f
  repeat' first
      | (with_reducible exact exact_NatOf.mono _ _)
      | (with_reducible exact LeO.refl _)
      | (with_reducible exact LeO.none _)
      | (with_reducible refine LeO.ite ?_ ?_)
      | (with_reducible refine LeO.bind ?_ (fun _ => ?_))
def integer_Of.f (k : Nat) (a0 : Int) : Option (Bool × ByteArray) := (exact_IntOf.f k a0).bind fun bt333 => (some (bt333.1, bt333.2))
theorem integer_Of.mono : ∀ a0 k, LeO (integer_Of.f k a0) (integer_Of.f (k + 1) a0) := by
  intro a0 k
  unfold integer_Of.f
  repeat' first
      | (with_reducible exact exact_IntOf.mono _ _)
      | (with_reducible exact LeO.refl _)
      | (with_reducible exact LeO.none _)
      | (with_reducible refine LeO.ite ?_ ?_)
      | (with_reducible refine LeO.bind ?_ (fun _ => ?_))
def integer_Valuation.l0 : Nat → Int → Int → Bool → ByteArray → Option (Int × Bool × ByteArray × Int)
  | 0, _, _, _, _ => none
  | k + 1, x1, x8, x364000, x364001 => (integer_Of.f k x1).bind fun bt374 => ((exact_IntDivMod.f k x364000 x364001 bt374.1 bt374.2).bind fun bt376 => ((integer_zero.f).bind fun bt382 => (if (!(bt376.2.2.1 == bt382.1) || (!(bt376.2.2.2.toList == bt382.2.toList))) = true then (some (x8, x364000, x364001, 0)) else (integer_Valuation.l0 k x1 (wrap64 (x8 + 1)) bt376.1 bt376.2.1))))
def integer_Valuation.f (k : Nat) (a0_0 : Bool) (a0_1 : ByteArray) (a1 : Int) : Option (Int × Bool × ByteArray × Int) := (integer_Check.f k a0_0 a0_1).bind fun t365 => (if t365 = 0 then (if a1 < 2 then ((integer_zero.f).bind fun bt368 => (some (0, bt368.1, bt368.2, 3))) else ((integer_zero.f).bind fun bt370 => (if (a0_0 == bt370.1 && (a0_1.toList == bt370.2.toList)) = true then ((integer_zero.f).bind fun bt372 => (some (0, bt372.1, bt372.2, 6))) else (integer_Valuation.l0 k a1 0 a0_0 a0_1)))) else ((integer_zero.f).bind fun bt366 => (some (0, bt366.1, bt366.2, t365))))
theorem integer_Valuation.mono_l : ∀ k, (∀ y0 y1 y2 y3, LeO (integer_Valuation.l0 k y0 y1 y2 y3) (integer_Valuation.l0 (k + 1) y0 y1 y2 y3))
  | 0 => fun _ _ _ _ r h => by simp [integer_Valuation.l0] at h
  | k + 1 => by
    have ih0 := integer_Valuation.mono_l k
    intro y0 y1 y2 y3
    unfold integer_Valuation.l0
    repeat' first
    | (with_reducible exact ih0 _ _ _ _)
    | (with_reducible exact integer_Of.mono _ _)
    | (with_reducible exact exact_IntDivMod.mono _ _ _ _ _)
    | (with_reducible exact LeO.refl _)
    | (with_reducible refine LeO.ite ?_ ?_)
    | (with_reducible refine LeO.bind ?_ (fun _ => ?_))
theorem integer_Valuation.mono : ∀ a0 a1 a2 k, LeO (integer_Valuation.f k a0 a1 a2) (integer_Valuation.f (k + 1) a0 a1 a2) := by
  intro a0 a1 a2 k
  have ih0 := integer_Valuation.mono_l k
  unfold integer_Valuation.f
  repeat' first
    | (with_reducible exact ih0 _ _ _ _)
    | (with_reducible exact integer_Check.mono _ _ _)
    | (with_reducible exact LeO.refl _)
    | (with_reducible refine LeO.ite ?_ ?_)
    | (with_reducible refine LeO.bind ?_ (fun _ => ?_))
mutual
def galoisref01_pack.l0 : Nat → List Int → List Int → Int → Option (ByteArray)
  | 0, _, _, _ => none
  | k + 1, x0, x3, x4 => if x4 ≥ 0 then (galoisref01_pack.l1 k x0 x3 x4 24) else (some (strOfNums x3))
def galoisref01_pack.l1 : Nat → List Int → List Int → Int → Int → Option (ByteArray)
  | 0, _, _, _, _ => none
  | k + 1, x0, x3, x4, x5 => if x5 ≥ 0 then (if 0 ≤ x4 then (if x4 < (x0.length : Int) then (if 0 ≤ x5 then (if (x3.length : Int) > 0 then (if x3.length < 140737488355328 then (galoisref01_pack.l1 k x0 (x3 ++ [(shr .u64 (rd x0 x4) x5) % 256]) x4 (wrap64 (x5 - 8))) else (none)) else (if ((shr .u64 (rd x0 x4) x5) % 256) > 0 then (if x3.length < 140737488355328 then (galoisref01_pack.l1 k x0 (x3 ++ [(shr .u64 (rd x0 x4) x5) % 256]) x4 (wrap64 (x5 - 8))) else (none)) else (galoisref01_pack.l1 k x0 x3 x4 (wrap64 (x5 - 8))))) else (none)) else (none)) else (none)) else (galoisref01_pack.l0 k x0 x3 (wrap64 (x4 - 1)))
end
def galoisref01_pack.f (k : Nat) (l0 : List Int) : Option (ByteArray) := galoisref01_pack.l0 k l0 ([] : List Int) (wrap64 ((l0.length : Int) - 1))
theorem galoisref01_pack.U1 {g : Prop} (h : g := by
  repeat' first
  | (with_reducible exact ih0 _ _ _)
  | (with_reducible exact ih1 _ _ _ _)
  | (with_reducible exact LeO.refl _)
  | (with_reducible exact LeO.none _)
  | (with_reducible refine LeO.ite ?_ ?_)
  | (with_reducible refine LeO.bind ?_ (fun _ => ?_))) : g := h
theorem galoisref01_pack.mono_l : ∀ k, (∀ y0 y1 y2, LeO (galoisref01_pack.l0 k y0 y1 y2) (galoisref01_pack.l0 (k + 1) y0 y1 y2)) ∧ (∀ y0 y1 y2 y3, LeO (galoisref01_pack.l1 k y0 y1 y2 y3) (galoisref01_pack.l1 (k + 1) y0 y1 y2 y3))
  | 0 => ⟨fun _ _ _ r h => by simp [galoisref01_pack.l0] at h, fun _ _ _ _ r h => by simp [galoisref01_pack.l1] at h⟩
  | k + 1 => by
    obtain ⟨ih0, ih1⟩ := galoisref01_pack.mono_l k
    refine ⟨?_, ?_⟩
    · intro y0 y1 y2
      unfold galoisref01_pack.l0
      exact galoisref01_pack.U1
    · intro y0 y1 y2 y3
      unfold galoisref01_pack.l1
      exact galoisref01_pack.U1
theorem galoisref01_pack.mono : ∀ a0 k, LeO (galoisref01_pack.f k a0) (galoisref01_pack.f (k + 1) a0) := by
  intro a0 k
  obtain ⟨ih0, ih1⟩ := galoisref01_pack.mono_l k
  unfold galoisref01_pack.f
  exact galoisref01_pack.U1
def galoisref01_Of.f (k : Nat) (a0 : Int) : Option (ByteArray) := (galoisref01_pack.f k (([Go.bits .and .u64 a0 4294967295, a0 / 4294967296] : List Int))).bind fun t345 => (some t345)
theorem galoisref01_Of.mono : ∀ a0 k, LeO (galoisref01_Of.f k a0) (galoisref01_Of.f (k + 1) a0) := by
  intro a0 k
  unfold galoisref01_Of.f
  repeat' first
      | (with_reducible exact galoisref01_pack.mono _ _)
      | (with_reducible exact LeO.refl _)
      | (with_reducible exact LeO.none _)
      | (with_reducible refine LeO.ite ?_ ?_)
      | (with_reducible refine LeO.bind ?_ (fun _ => ?_))
def galoisref02_FromInt.f (k : Nat) (a0 : Int) : Option (Bool × ByteArray) := if a0 < 0 then ((galoisref01_Of.f k (IntKind.u64.wrap ((IntKind.u64.wrap (wrap64 (-(wrap64 (a0 + 1))))) + 1))).bind fun t347 => (some (true, t347))) else ((galoisref01_Of.f k (IntKind.u64.wrap (a0))).bind fun t348 => (some (false, t348)))
theorem galoisref02_FromInt.mono : ∀ a0 k, LeO (galoisref02_FromInt.f k a0) (galoisref02_FromInt.f (k + 1) a0) := by
  intro a0 k
  unfold galoisref02_FromInt.f
  repeat' first
      | (with_reducible exact galoisref01_Of.mono _ _)
      | (with_reducible exact LeO.refl _)
      | (with_reducible exact LeO.none _)
      | (with_reducible refine LeO.ite ?_ ?_)
      | (with_reducible refine LeO.bind ?_ (fun _ => ?_))
def galoislaw02_of.f (k : Nat) (a0 : Int) : Option (Bool × ByteArray) := (galoisref02_FromInt.f k a0).bind fun bt350 => (some (bt350.1, bt350.2))
theorem galoislaw02_of.mono : ∀ a0 k, LeO (galoislaw02_of.f k a0) (galoislaw02_of.f (k + 1) a0) := by
  intro a0 k
  unfold galoislaw02_of.f
  repeat' first
      | (with_reducible exact galoisref02_FromInt.mono _ _)
      | (with_reducible exact LeO.refl _)
      | (with_reducible exact LeO.none _)
      | (with_reducible refine LeO.ite ?_ ?_)
      | (with_reducible refine LeO.bind ?_ (fun _ => ?_))
mutual
def exact_mulWords.l0 : Nat → List Int → List Int → List Int → Int → Int → Option (List Int)
  | 0, _, _, _, _, _ => none
  | k + 1, x1, x5, x20, x21, x22 => if x22 < x21 then (if 0 ≤ x22 then (if x22 < (x20.length : Int) then (exact_mulWords.l1 k x1 x5 x22 (rd x20 x22) 0 x20 x21 x22 x1 (x1.length : Int) 0) else (none)) else (none)) else ((exact_trim.f k x5).bind fun t355 => (some t355))
def exact_mulWords.l1 : Nat → List Int → List Int → Int → Int → Int → List Int → Int → Int → List Int → Int → Int → Option (List Int)
  | 0, _, _, _, _, _, _, _, _, _, _, _ => none
  | k + 1, x1, x5, x6, x7, x8, x20, x21, x22, x27, x28, x29 => if x29 < x28 then (if 0 ≤ x29 then (if x29 < (x27.length : Int) then ((bits_Mul64.f x7 (rd x27 x29)).bind fun bt360 => (if 0 ≤ (wrap64 (x6 + x29)) then (if (wrap64 (x6 + x29)) < (x5.length : Int) then ((bits_Add64.f bt360.2 (rd x5 (wrap64 (x6 + x29))) 0).bind fun bt363 => ((bits_Add64.f bt363.1 x8 0).bind fun bt365 => (exact_mulWords.l1 k x1 (x5.set ((wrap64 (x6 + x29)) : Int).toNat bt365.1) x6 x7 (IntKind.u64.wrap ((IntKind.u64.wrap (bt360.1 + bt363.2)) + bt365.2)) x20 x21 x22 x27 x28 (wrap64 (x29 + 1))))) else (none)) else (none))) else (none)) else (none)) else (if 0 ≤ (wrap64 (x6 + (x1.length : Int))) then (if (wrap64 (x6 + (x1.length : Int))) < (x5.length : Int) then (exact_mulWords.l0 k x1 (x5.set ((wrap64 (x6 + (x1.length : Int))) : Int).toNat x8) x20 x21 (wrap64 (x22 + 1))) else (none)) else (none))
end
def exact_mulWords.f (k : Nat) (l0 : List Int) (l1 : List Int) : Option (List Int) := if 0 ≤ (wrap64 ((l0.length : Int) + (l1.length : Int))) then (if (wrap64 ((l0.length : Int) + (l1.length : Int)) : Int).toNat ≤ 35184372088832 then (exact_mulWords.l0 k l1 (List.replicate (wrap64 ((l0.length : Int) + (l1.length : Int)) : Int).toNat 0) l0 (l0.length : Int) 0) else (none)) else (none)
theorem exact_mulWords.U1 {g : Prop} (h : g := by
  repeat' first
  | (with_reducible exact ih0 _ _ _ _ _)
  | (with_reducible exact ih1 _ _ _ _ _ _ _ _ _ _ _)
  | (with_reducible exact exact_trim.mono _ _)
  | (with_reducible exact LeO.refl _)
  | (with_reducible exact LeO.none _)
  | (with_reducible refine LeO.ite ?_ ?_)
  | (with_reducible refine LeO.bind ?_ (fun _ => ?_))) : g := h
theorem exact_mulWords.mono_l : ∀ k, (∀ y0 y1 y2 y3 y4, LeO (exact_mulWords.l0 k y0 y1 y2 y3 y4) (exact_mulWords.l0 (k + 1) y0 y1 y2 y3 y4)) ∧ (∀ y0 y1 y2 y3 y4 y5 y6 y7 y8 y9 y10, LeO (exact_mulWords.l1 k y0 y1 y2 y3 y4 y5 y6 y7 y8 y9 y10) (exact_mulWords.l1 (k + 1) y0 y1 y2 y3 y4 y5 y6 y7 y8 y9 y10))
  | 0 => ⟨fun _ _ _ _ _ r h => by simp [exact_mulWords.l0] at h, fun _ _ _ _ _ _ _ _ _ _ _ r h => by simp [exact_mulWords.l1] at h⟩
  | k + 1 => by
    obtain ⟨ih0, ih1⟩ := exact_mulWords.mono_l k
    refine ⟨?_, ?_⟩
    · intro y0 y1 y2 y3 y4
      unfold exact_mulWords.l0
      exact exact_mulWords.U1
    · intro y0 y1 y2 y3 y4 y5 y6 y7 y8 y9 y10
      unfold exact_mulWords.l1
      exact exact_mulWords.U1
theorem exact_mulWords.mono : ∀ a0 a1 k, LeO (exact_mulWords.f k a0 a1) (exact_mulWords.f (k + 1) a0 a1) := by
  intro a0 a1 k
  obtain ⟨ih0, ih1⟩ := exact_mulWords.mono_l k
  unfold exact_mulWords.f
  exact exact_mulWords.U1
def exact_NatMul.f (k : Nat) (a0 : ByteArray) (a1 : ByteArray) : Option (ByteArray) := (exact_words.f k a0).bind fun t369 => ((exact_words.f k a1).bind fun t372 => ((exact_mulWords.f k t369 t372).bind fun t375 => ((exact_pack.f k t375).bind fun t378 => (some t378))))
theorem exact_NatMul.mono : ∀ a0 a1 k, LeO (exact_NatMul.f k a0 a1) (exact_NatMul.f (k + 1) a0 a1) := by
  intro a0 a1 k
  unfold exact_NatMul.f
  repeat' first
      | (with_reducible exact exact_mulWords.mono _ _ _)
      | (with_reducible exact exact_pack.mono _ _)
      | (with_reducible exact exact_words.mono _ _)
      | (with_reducible exact LeO.refl _)
      | (with_reducible exact LeO.none _)
      | (with_reducible refine LeO.ite ?_ ?_)
      | (with_reducible refine LeO.bind ?_ (fun _ => ?_))
def bits_Len8.f (a0 : Int) : Option (Int) := if 0 ≤ a0 ∧ a0 ≤ 255 then some (Lib.bitLen a0.toNat : Int) else none
def exact_NatBits.f (a0 : ByteArray) : Option (Int) := if a0.toList = ([] : List UInt8) then (some 0) else (if 0 < (a0.size : Int) then ((bits_Len8.f (bt a0 0)).bind fun t379 => (some (wrap64 ((wrap64 (8 * (wrap64 ((a0.size : Int) - 1)))) + t379)))) else (none))
def exact_NatPow.l0 : Nat → Int → List Int → List Int → Option (ByteArray)
  | 0, _, _, _ => none
  | k + 1, x1, x5, x6 => if x1 > 0 then (if (Go.bits .and .i64 x1 1) = 1 then ((exact_mulWords.f k x5 x6).bind fun t387 => ((exact_mulWords.f k x6 x6).bind fun t390 => (exact_NatPow.l0 k (x1 / 2) t387 t390))) else ((exact_mulWords.f k x6 x6).bind fun t393 => (exact_NatPow.l0 k (x1 / 2) x5 t393))) else ((exact_pack.f k x5).bind fun t386 => (some t386))
def exact_NatPow.f (k : Nat) (a0 : ByteArray) (a1 : Int) : Option (ByteArray) := (exact_words.f k a0).bind fun t383 => (exact_NatPow.l0 k a1 (([1] : List Int)) t383)
theorem exact_NatPow.U1 {g : Prop} (h : g := by
  repeat' first
  | (with_reducible exact ih0 _ _ _)
  | (with_reducible exact exact_mulWords.mono _ _ _)
  | (with_reducible exact exact_pack.mono _ _)
  | (with_reducible exact exact_words.mono _ _)
  | (with_reducible exact LeO.refl _)
  | (with_reducible exact LeO.none _)
  | (with_reducible refine LeO.ite ?_ ?_)
  | (with_reducible refine LeO.bind ?_ (fun _ => ?_))) : g := h
theorem exact_NatPow.mono_l : ∀ k, (∀ y0 y1 y2, LeO (exact_NatPow.l0 k y0 y1 y2) (exact_NatPow.l0 (k + 1) y0 y1 y2))
  | 0 => fun _ _ _ r h => by simp [exact_NatPow.l0] at h
  | k + 1 => by
    have ih0 := exact_NatPow.mono_l k
    · intro y0 y1 y2
      unfold exact_NatPow.l0
      exact exact_NatPow.U1
theorem exact_NatPow.mono : ∀ a0 a1 k, LeO (exact_NatPow.f k a0 a1) (exact_NatPow.f (k + 1) a0 a1) := by
  intro a0 a1 k
  have ih0 := exact_NatPow.mono_l k
  unfold exact_NatPow.f
  exact exact_NatPow.U1
def exact_NatCmp.j0 : Nat → ByteArray → ByteArray → Bool → Option (Int)
  | 0, _, _, _ => none
  | k + 1, x0, x1, x5 => if x5 = true then (some (-1)) else (if x0.toList = x1.toList then (some 0) else (some 1))
def exact_NatCmp.f (k : Nat) (a0 : ByteArray) (a1 : ByteArray) : Option (Int) := if (a0.size : Int) < (a1.size : Int) then (exact_NatCmp.j0 k a0 a1 true) else (if (a0.size : Int) = (a1.size : Int) then (exact_NatCmp.j0 k a0 a1 (Op.bytesLess a0.toList a1.toList)) else (exact_NatCmp.j0 k a0 a1 false))
theorem exact_NatCmp.U1 {g : Prop} (h : g := by
  repeat' first
  | (with_reducible exact ih0 _ _ _)
  | (with_reducible exact LeO.refl _)
  | (with_reducible exact LeO.none _)
  | (with_reducible refine LeO.ite ?_ ?_)
  | (with_reducible refine LeO.bind ?_ (fun _ => ?_))) : g := h
theorem exact_NatCmp.mono_l : ∀ k, (∀ y0 y1 y2, LeO (exact_NatCmp.j0 k y0 y1 y2) (exact_NatCmp.j0 (k + 1) y0 y1 y2))
  | 0 => fun _ _ _ r h => by simp [exact_NatCmp.j0] at h
  | k + 1 => by
    have ih0 := exact_NatCmp.mono_l k
    · intro y0 y1 y2
      unfold exact_NatCmp.j0
      exact exact_NatCmp.U1
theorem exact_NatCmp.mono : ∀ a0 a1 k, LeO (exact_NatCmp.f k a0 a1) (exact_NatCmp.f (k + 1) a0 a1) := by
  intro a0 a1 k
  have ih0 := exact_NatCmp.mono_l k
  unfold exact_NatCmp.f
  exact exact_NatCmp.U1
def exact_NatTwo.f (a0 : Int) : Option (ByteArray) := if 0 ≤ (wrap64 ((wrap64 (Int.tdiv a0 8)) + 1)) then (if (wrap64 ((wrap64 (Int.tdiv a0 8)) + 1) : Int).toNat ≤ 281474976710656 then ((some (List.replicate (wrap64 ((wrap64 (Int.tdiv a0 8)) + 1) : Int).toNat 0 : List Int)).bind fun y396 => (if 0 ≤ (Int.tmod a0 8) then (if 0 < (y396.length : Int) then (some (strOfNums (y396.set (0 : Int).toNat (shl .u8 1 (Int.tmod a0 8))))) else (none)) else (none))) else (none)) else (none)
def exact_NatRoot.l0 : Nat → ByteArray → Int → ByteArray → Int → Option (ByteArray)
  | 0, _, _, _, _ => none
  | k + 1, x0, x1, x5, x6 => if x6 ≥ 0 then ((exact_NatTwo.f x6).bind fun t401 => ((exact_NatAdd.f k x5 t401).bind fun t402 => ((exact_NatPow.f k t402 x1).bind fun t403 => ((exact_NatCmp.f k t403 x0).bind fun t404 => (if t404 ≤ 0 then (exact_NatRoot.l0 k x0 x1 t402 (wrap64 (x6 - 1))) else (exact_NatRoot.l0 k x0 x1 x5 (wrap64 (x6 - 1)))))))) else (some x5)
def exact_NatRoot.f (k : Nat) (a0 : ByteArray) (a1 : Int) : Option (ByteArray) := (exact_NatBits.f a0).bind fun t400 => (if a1 = 0 then (none) else (exact_NatRoot.l0 k a0 a1 (⟨#[]⟩ : ByteArray) (wrap64 (Int.tdiv (wrap64 ((wrap64 (t400 + a1)) - 1)) a1))))
theorem exact_NatRoot.U1 {g : Prop} (h : g := by
  repeat' first
  | (with_reducible exact ih0 _ _ _ _)
  | (with_reducible exact exact_NatAdd.mono _ _ _)
  | (with_reducible exact exact_NatCmp.mono _ _ _)
  | (with_reducible exact exact_NatPow.mono _ _ _)
  | (with_reducible exact LeO.refl _)
  | (with_reducible exact LeO.none _)
  | (with_reducible refine LeO.ite ?_ ?_)
  | (with_reducible refine LeO.bind ?_ (fun _ => ?_))) : g := h
theorem exact_NatRoot.mono_l : ∀ k, (∀ y0 y1 y2 y3, LeO (exact_NatRoot.l0 k y0 y1 y2 y3) (exact_NatRoot.l0 (k + 1) y0 y1 y2 y3))
  | 0 => fun _ _ _ _ r h => by simp [exact_NatRoot.l0] at h
  | k + 1 => by
    have ih0 := exact_NatRoot.mono_l k
    · intro y0 y1 y2 y3
      unfold exact_NatRoot.l0
      exact exact_NatRoot.U1
theorem exact_NatRoot.mono : ∀ a0 a1 k, LeO (exact_NatRoot.f k a0 a1) (exact_NatRoot.f (k + 1) a0 a1) := by
  intro a0 a1 k
  have ih0 := exact_NatRoot.mono_l k
  unfold exact_NatRoot.f
  exact exact_NatRoot.U1
def exact_IntSqrt.f (k : Nat) (a0_0 : Bool) (a0_1 : ByteArray) : Option (Bool × ByteArray × Bool) := if a0_0 = true then (some (false, (⟨#[]⟩ : ByteArray), false)) else ((exact_NatRoot.f k a0_1 2).bind fun t407 => ((exact_NatMul.f k t407 t407).bind fun t408 => (if t408.toList = a0_1.toList then (some (false, t407, true)) else (some (false, (⟨#[]⟩ : ByteArray), false)))))
theorem exact_IntSqrt.mono : ∀ a0 a1 k, LeO (exact_IntSqrt.f k a0 a1) (exact_IntSqrt.f (k + 1) a0 a1) := by
  intro a0 a1 k
  unfold exact_IntSqrt.f
  repeat' first
      | (with_reducible exact exact_NatMul.mono _ _ _)
      | (with_reducible exact exact_NatRoot.mono _ _ _)
      | (with_reducible exact LeO.refl _)
      | (with_reducible exact LeO.none _)
      | (with_reducible refine LeO.ite ?_ ?_)
      | (with_reducible refine LeO.bind ?_ (fun _ => ?_))
def integer_IsSquare.f (k : Nat) (a0_0 : Bool) (a0_1 : ByteArray) : Option (Bool × ByteArray × Bool × Int) := (integer_Check.f k a0_0 a0_1).bind fun t411 => (if t411 = 0 then ((exact_IntSqrt.f k a0_0 a0_1).bind fun bt412 => (some (bt412.1, bt412.2.1, bt412.2.2, 0))) else ((integer_zero.f).bind fun bt416 => (some (bt416.1, bt416.2, false, t411))))
theorem integer_IsSquare.mono : ∀ a0 a1 k, LeO (integer_IsSquare.f k a0 a1) (integer_IsSquare.f (k + 1) a0 a1) := by
  intro a0 a1 k
  unfold integer_IsSquare.f
  repeat' first
      | (with_reducible exact exact_IntSqrt.mono _ _ _)
      | (with_reducible exact integer_Check.mono _ _ _)
      | (with_reducible exact LeO.refl _)
      | (with_reducible exact LeO.none _)
      | (with_reducible refine LeO.ite ?_ ?_)
      | (with_reducible refine LeO.bind ?_ (fun _ => ?_))
def galoislaw02_awake.j0 : Nat → Int → Bool → Bool → ByteArray → Bool → ByteArray → Bool → ByteArray → Bool → ByteArray → Bool → ByteArray → Bool → ByteArray → Bool → ByteArray → Option (Bool)
  | 0, _, _, _, _, _, _, _, _, _, _, _, _, _, _, _, _ => none
  | k + 1, x15, x84, x428000, x428001, x429000, x429001, x439000, x439001, x440000, x440001, x448000, x448001, x455000, x455001, x469000, x469001 => if x84 = true then (some false) else ((galoislaw02_of.f k (-4)).bind fun bt469 => (if (x428000 == bt469.1 && (x428001.toList == bt469.2.toList)) = true then ((galoislaw02_of.f k 1).bind fun bt471 => (if (x429000 == bt471.1 && (x429001.toList == bt471.2.toList)) = true then ((galoislaw02_of.f k 4).bind fun bt473 => (if (x439000 == bt473.1 && (x439001.toList == bt473.2.toList)) = true then ((galoislaw02_of.f k 1).bind fun bt475 => (if (x440000 == bt475.1 && (x440001.toList == bt475.2.toList)) = true then ((galoislaw02_of.f k 6).bind fun bt477 => (if (x448000 == bt477.1 && (x448001.toList == bt477.2.toList)) = true then ((galoislaw02_of.f k 7).bind fun bt479 => (if (x455000 == bt479.1 && (x455001.toList == bt479.2.toList)) = true then (if x15 = 3 then ((galoislaw02_of.f k (-3)).bind fun bt481 => (if (x469000 == bt481.1 && (x469001.toList == bt481.2.toList)) = true then ((integer_Of.f k (-5)).bind fun bt483 => ((galoislaw02_of.f k (-5)).bind fun bt485 => (some (bt483.1 == bt485.1 && (bt483.2.toList == bt485.2.toList))))) else (some false))) else (some false)) else (some false))) else (some false))) else (some false))) else (some false))) else (some false))) else (some false)))
def galoislaw02_awake.f (k : Nat)  : Option (Bool) := (galoislaw02_of.f k (-7)).bind fun bt418 => ((galoislaw02_of.f k 2).bind fun bt420 => ((integer_DivMod.f k bt418.1 bt418.2 bt420.1 bt420.2).bind fun bt422 => ((galoislaw02_of.f k (-7)).bind fun bt429 => ((galoislaw02_of.f k (-2)).bind fun bt431 => ((integer_DivMod.f k bt429.1 bt429.2 bt431.1 bt431.2).bind fun bt433 => ((galoislaw02_of.f k (-12)).bind fun bt440 => ((galoislaw02_of.f k 18).bind fun bt442 => ((integer_Gcd.f k bt440.1 bt440.2 bt442.1 bt442.2).bind fun bt444 => ((galoislaw02_of.f k 49).bind fun bt448 => ((integer_IsSquare.f k bt448.1 bt448.2).bind fun bt450 => ((galoislaw02_of.f k (-49)).bind fun bt455 => ((integer_IsSquare.f k bt455.1 bt455.2).bind fun bt457 => ((galoislaw02_of.f k (-24)).bind fun bt462 => ((integer_Valuation.f k bt462.1 bt462.2 2).bind fun bt464 => (if bt422.2.2.2.2 = 0 then (if bt433.2.2.2.2 = 0 then (if bt444.2.2 = 0 then (if bt450.2.2.2 = 0 then (if bt457.2.2.2 = 0 then (if bt464.2.2.2 = 0 then (if bt450.2.2.1 = true then (galoislaw02_awake.j0 k bt464.1 bt457.2.2.1 bt422.1 bt422.2.1 bt422.2.2.1 bt422.2.2.2.1 bt433.1 bt433.2.1 bt433.2.2.1 bt433.2.2.2.1 bt444.1 bt444.2.1 bt450.1 bt450.2.1 bt464.2.1 bt464.2.2.1) else (galoislaw02_awake.j0 k bt464.1 true bt422.1 bt422.2.1 bt422.2.2.1 bt422.2.2.2.1 bt433.1 bt433.2.1 bt433.2.2.1 bt433.2.2.2.1 bt444.1 bt444.2.1 bt450.1 bt450.2.1 bt464.2.1 bt464.2.2.1)) else (galoislaw02_awake.j0 k bt464.1 true bt422.1 bt422.2.1 bt422.2.2.1 bt422.2.2.2.1 bt433.1 bt433.2.1 bt433.2.2.1 bt433.2.2.2.1 bt444.1 bt444.2.1 bt450.1 bt450.2.1 bt464.2.1 bt464.2.2.1)) else (galoislaw02_awake.j0 k bt464.1 true bt422.1 bt422.2.1 bt422.2.2.1 bt422.2.2.2.1 bt433.1 bt433.2.1 bt433.2.2.1 bt433.2.2.2.1 bt444.1 bt444.2.1 bt450.1 bt450.2.1 bt464.2.1 bt464.2.2.1)) else (galoislaw02_awake.j0 k bt464.1 true bt422.1 bt422.2.1 bt422.2.2.1 bt422.2.2.2.1 bt433.1 bt433.2.1 bt433.2.2.1 bt433.2.2.2.1 bt444.1 bt444.2.1 bt450.1 bt450.2.1 bt464.2.1 bt464.2.2.1)) else (galoislaw02_awake.j0 k bt464.1 true bt422.1 bt422.2.1 bt422.2.2.1 bt422.2.2.2.1 bt433.1 bt433.2.1 bt433.2.2.1 bt433.2.2.2.1 bt444.1 bt444.2.1 bt450.1 bt450.2.1 bt464.2.1 bt464.2.2.1)) else (galoislaw02_awake.j0 k bt464.1 true bt422.1 bt422.2.1 bt422.2.2.1 bt422.2.2.2.1 bt433.1 bt433.2.1 bt433.2.2.1 bt433.2.2.2.1 bt444.1 bt444.2.1 bt450.1 bt450.2.1 bt464.2.1 bt464.2.2.1)) else (galoislaw02_awake.j0 k bt464.1 true bt422.1 bt422.2.1 bt422.2.2.1 bt422.2.2.2.1 bt433.1 bt433.2.1 bt433.2.2.1 bt433.2.2.2.1 bt444.1 bt444.2.1 bt450.1 bt450.2.1 bt464.2.1 bt464.2.2.1))))))))))))))))
theorem galoislaw02_awake.U1 {g : Prop} (h : g := by
  repeat' first
  | (with_reducible exact ih0 _ _ _ _ _ _ _ _ _ _ _ _ _ _ _ _)
  | (with_reducible exact galoislaw02_of.mono _ _)
  | (with_reducible exact integer_DivMod.mono _ _ _ _ _)
  | (with_reducible exact integer_Gcd.mono _ _ _ _ _)
  | (with_reducible exact integer_IsSquare.mono _ _ _)
  | (with_reducible exact integer_Of.mono _ _)
  | (with_reducible exact integer_Valuation.mono _ _ _ _)
  | (with_reducible exact LeO.refl _)
  | (with_reducible exact LeO.none _)
  | (with_reducible refine LeO.ite ?_ ?_)
  | (with_reducible refine LeO.bind ?_ (fun _ => ?_))) : g := h
theorem galoislaw02_awake.mono_l : ∀ k, (∀ y0 y1 y2 y3 y4 y5 y6 y7 y8 y9 y10 y11 y12 y13 y14 y15, LeO (galoislaw02_awake.j0 k y0 y1 y2 y3 y4 y5 y6 y7 y8 y9 y10 y11 y12 y13 y14 y15) (galoislaw02_awake.j0 (k + 1) y0 y1 y2 y3 y4 y5 y6 y7 y8 y9 y10 y11 y12 y13 y14 y15))
  | 0 => fun _ _ _ _ _ _ _ _ _ _ _ _ _ _ _ _ r h => by simp [galoislaw02_awake.j0] at h
  | k + 1 => by
    have ih0 := galoislaw02_awake.mono_l k
    · intro y0 y1 y2 y3 y4 y5 y6 y7 y8 y9 y10 y11 y12 y13 y14 y15
      unfold galoislaw02_awake.j0
      exact galoislaw02_awake.U1
theorem galoislaw02_awake.mono : ∀ k, LeO (galoislaw02_awake.f k ) (galoislaw02_awake.f (k + 1) ) := by
  intro  k
  have ih0 := galoislaw02_awake.mono_l k
  unfold galoislaw02_awake.f
  exact galoislaw02_awake.U1
def galoisref01_Valid.f (a0 : ByteArray) : Option (Bool) := if a0.toList = ([] : List UInt8) then (some true) else (if 0 < (a0.size : Int) then (some ((bt a0 0) != 0)) else (none))
def galoisref02_Valid.f (a0_0 : Bool) (a0_1 : ByteArray) : Option (Bool) := (galoisref01_Valid.f a0_1).bind fun t551 => (if t551 = true then (if a0_0 = true then (some (a0_1.toList != ([] : List UInt8))) else (some true)) else (some false))
def galoisref01_Fits.f (a0 : ByteArray) : Option (Int) := if (a0.size : Int) > 1024 then (some 4) else (some 0)
def galoisref02_Fits.f (a0_0 : Bool) (a0_1 : ByteArray) : Option (Int) := (galoisref01_Fits.f a0_1).bind fun t490 => (some t490)
def galoisref02_Check.f (a0_0 : Bool) (a0_1 : ByteArray) : Option (Int) := (galoisref02_Valid.f a0_0 a0_1).bind fun t492 => (if t492 = true then ((galoisref02_Fits.f a0_0 a0_1).bind fun t493 => (some t493)) else (some 1))
def galoislaw02_right.f (a0_0 : Bool) (a0_1 : ByteArray) (a1 : Int) (a2 : Int) (a3_0 : Bool) (a3_1 : ByteArray) : Option (Bool) := if a2 = 0 then ((galoisref02_Fits.f a3_0 a3_1).bind fun t501 => (if t501 = 0 then (if (a0_0 == a3_0 && (a0_1.toList == a3_1.toList)) = true then (some (a1 == 0)) else (some false)) else (if (!a0_0 && a0_1.toList.isEmpty) = true then (some (a1 == t501)) else (some false)))) else (if (!a0_0 && a0_1.toList.isEmpty) = true then (some (a1 == a2)) else (some false))
def galoisref01_trim.l0 : Nat → List Int → Option (List Int)
  | 0, _ => none
  | k + 1, x0 => if (x0.length : Int) > 0 then (if 0 ≤ (wrap64 ((x0.length : Int) - 1)) then (if (wrap64 ((x0.length : Int) - 1)) < (x0.length : Int) then (if (rd x0 (wrap64 ((x0.length : Int) - 1))) = 0 then (if (wrap64 ((x0.length : Int) - 1)) ≤ (x0.length : Int) then (galoisref01_trim.l0 k (x0.take ((wrap64 ((x0.length : Int) - 1)) : Int).toNat)) else (none)) else (some x0)) else (none)) else (none)) else (some x0)
def galoisref01_trim.f (k : Nat) (l0 : List Int) : Option (List Int) := galoisref01_trim.l0 k l0
mutual
def galoisref01_limbs.l0 : Nat → ByteArray → List Int → Int → Option (List Int)
  | 0, _, _, _ => none
  | k + 1, x0, x3, x4 => if x4 > 0 then (galoisref01_limbs.l1 k x0 x3 x4 0 (mx 0 (wrap64 (x4 - 4)))) else ((galoisref01_trim.f k x3).bind fun t513 => (some t513))
def galoisref01_limbs.l1 : Nat → ByteArray → List Int → Int → Int → Int → Option (List Int)
  | 0, _, _, _, _, _ => none
  | k + 1, x0, x3, x4, x5, x6 => if x6 < x4 then (if 0 ≤ x6 then (if x6 < (x0.size : Int) then (galoisref01_limbs.l1 k x0 x3 x4 (IntKind.u64.wrap ((IntKind.u64.wrap (x5 * 256)) + (IntKind.u64.wrap (bt x0 x6)))) (wrap64 (x6 + 1))) else (none)) else (none)) else (if x3.length < 17592186044416 then (galoisref01_limbs.l0 k x0 (x3 ++ [x5]) (wrap64 (x4 - 4))) else (none))
end
def galoisref01_limbs.f (k : Nat) (a0 : ByteArray) : Option (List Int) := galoisref01_limbs.l0 k a0 ([] : List Int) (a0.size : Int)
def galoisref02_Make.f (a0 : Bool) (a1 : ByteArray) : Option (Bool × ByteArray) := if a0 = true then (some ((!a1.toList.isEmpty), a1)) else (some (false, a1))
def exact_NatUint.f (k : Nat) (a0 : ByteArray) : Option (Int × Bool) := (exact_words.f k a0).bind fun t1029 => (if (t1029.length : Int) > 1 then (some (0, false)) else (if (t1029.length : Int) = 0 then (some (0, true)) else (if 0 < (t1029.length : Int) then (some (rd t1029 0, true)) else (none))))
def natural_first.l0 : Nat → List ByteArray → Int → Int → Option (Int)
  | 0, _, _, _ => none
  | k + 1, x6, x7, x8 => if x8 < x7 then (if 0 ≤ x8 then (if x8 < (x6.length : Int) then ((natural_Check.f k (rdOf ByteArray.empty x6 x8)).bind fun t1146 => (if t1146 = 0 then (natural_first.l0 k x6 x7 (wrap64 (x8 + 1))) else (some t1146))) else (none)) else (none)) else (some 0)
def natural_first.f (k : Nat) (l0 : List ByteArray) : Option (Int) := natural_first.l0 k l0 (l0.length : Int) 0
def natural_Of.byte (a : Int) (j : Nat) : Int := (a / 2 ^ (56 - 8 * j)) % 256
def natural_Of.bytes (a : Int) (k : Nat) : List Int := (List.range k).map (natural_Of.byte a) ++ List.replicate (8 - k) 0
def natural_Of.f (a0 : Int) : Option (ByteArray) := if 0 ≤ a0 ∧ a0 ≤ 18446744073709551615 then some (strOfNums ((natural_Of.bytes a0 8).dropWhile (· == 0))) else none
def natural_Of.len (v : Value) : Nat := match v with | .slice _ n _ => n | _ => 0
mutual
def natural_Format.l0 : Nat → ByteArray → List Int → Option (ByteArray × Int)
  | 0, _, _ => none
  | k + 1, x0, x5 => if x0.toList = ([] : List UInt8) then (natural_Format.l1 k x5 ([] : List Int) (x5.length : Int) 0) else ((natural_Of.f 1000000000000000000).bind fun t1151 => ((exact_NatDivMod.f k x0 t1151).bind fun bt1152 => ((exact_NatUint.f k bt1152.2).bind fun bt1154 => (if x5.length < 17592186044416 then (natural_Format.l0 k bt1152.1 (x5 ++ [bt1154.1])) else (none)))))
def natural_Format.l1 : Nat → List Int → List Int → Int → Int → Option (ByteArray × Int)
  | 0, _, _, _, _ => none
  | k + 1, x5, x10, x43, x44 => if x44 < x43 then (if 0 ≤ x44 then (if x44 < (x5.length : Int) then (natural_Format.l2 k x5 x10 x44 (rd x5 x44) 0 x43 x44) else (none)) else (none)) else (natural_Format.l3 k x10 0 (wrap64 ((x10.length : Int) - 1)))
def natural_Format.l2 : Nat → List Int → List Int → Int → Int → Int → Int → Int → Option (ByteArray × Int)
  | 0, _, _, _, _, _, _, _ => none
  | k + 1, x5, x10, x11, x12, x13, x43, x44 => if x13 < 18 then (if x12 > 0 then (if x10.length < 140737488355328 then (natural_Format.l2 k x5 (x10 ++ [(IntKind.u64.wrap (48 + (Int.tmod x12 10))) % 256]) x11 (IntKind.u64.wrap (Int.tdiv x12 10)) (wrap64 (x13 + 1)) x43 x44) else (none)) else (if x11 < (wrap64 ((x5.length : Int) - 1)) then (if x10.length < 140737488355328 then (natural_Format.l2 k x5 (x10 ++ [(IntKind.u64.wrap (48 + (Int.tmod x12 10))) % 256]) x11 (IntKind.u64.wrap (Int.tdiv x12 10)) (wrap64 (x13 + 1)) x43 x44) else (none)) else (natural_Format.l1 k x5 x10 x43 (wrap64 (x44 + 1))))) else (natural_Format.l1 k x5 x10 x43 (wrap64 (x44 + 1)))
def natural_Format.l3 : Nat → List Int → Int → Int → Option (ByteArray × Int)
  | 0, _, _, _ => none
  | k + 1, x10, x14, x15 => if x14 < x15 then (if 0 ≤ x15 then (if x15 < (x10.length : Int) then (if 0 ≤ x14 then (if x14 < (x10.length : Int) then (natural_Format.l3 k ((x10.set (x14 : Int).toNat (rd x10 x15)).set (x15 : Int).toNat (rd x10 x14)) (wrap64 (x14 + 1)) (wrap64 (x15 - 1))) else (none)) else (none)) else (none)) else (none)) else (some (strOfNums x10, 0))
end
def natural_Format.f (k : Nat) (a0 : ByteArray) : Option (ByteArray × Int) := (natural_first.f k (([a0] : List ByteArray))).bind fun t1150 => (if t1150 = 0 then (if a0.toList = ([] : List UInt8) then (some ((⟨#[48]⟩ : ByteArray), 0)) else (natural_Format.l0 k a0 ([] : List Int))) else (some ((⟨#[]⟩ : ByteArray), t1150)))
def integer_Format.f (k : Nat) (a0_0 : Bool) (a0_1 : ByteArray) : Option (ByteArray × Int) := (integer_Check.f k a0_0 a0_1).bind fun t1171 => (if t1171 = 0 then ((natural_Format.f k a0_1).bind fun bt1172 => (if a0_0 = true then (if bt1172.2 = 0 then (if 1 + bt1172.1.size ≤ 9223372036854775807 then (some ((⟨#[45]⟩ : ByteArray) ++ bt1172.1, bt1172.2)) else (none)) else (some (bt1172.1, bt1172.2))) else (some (bt1172.1, bt1172.2)))) else (some ((⟨#[]⟩ : ByteArray), t1171)))
def natural_bounded.f (a0 : ByteArray) : Option (ByteArray × Int) := if (a0.size : Int) > 1024 then (some ((⟨#[]⟩ : ByteArray), 4)) else (some (a0, 0))
mutual
def natural_Parse.j0 : Nat → ByteArray → Bool → Option (ByteArray × Int)
  | 0, _, _ => none
  | k + 1, x0, x24 => if x24 = true then (some ((⟨#[]⟩ : ByteArray), 11)) else (natural_Parse.l0 k x0 (x0.size : Int) 0)
def natural_Parse.l0 : Nat → ByteArray → Int → Int → Option (ByteArray × Int)
  | 0, _, _, _ => none
  | k + 1, x0, x26, x27 => if x27 < x26 then (if 0 ≤ x27 then (if x27 < (x0.size : Int) then (if (bt x0 x27) < 48 then (some ((⟨#[]⟩ : ByteArray), 11)) else (if (bt x0 x27) > 57 then (some ((⟨#[]⟩ : ByteArray), 11)) else (natural_Parse.l0 k x0 x26 (wrap64 (x27 + 1))))) else (none)) else (none)) else (natural_Parse.l1 k x0 (⟨#[]⟩ : ByteArray) 0)
def natural_Parse.l1 : Nat → ByteArray → ByteArray → Int → Option (ByteArray × Int)
  | 0, _, _, _ => none
  | k + 1, x0, x5, x6 => if x6 < (x0.size : Int) then (natural_Parse.l2 k x0 x5 x6 (mn (x0.size : Int) (wrap64 (x6 + 18))) 0 1) else ((natural_bounded.f x5).bind fun bt1174 => (some (bt1174.1, bt1174.2)))
def natural_Parse.l2 : Nat → ByteArray → ByteArray → Int → Int → Int → Int → Option (ByteArray × Int)
  | 0, _, _, _, _, _, _ => none
  | k + 1, x0, x5, x6, x7, x8, x9 => if x6 < x7 then (if 0 ≤ x6 then (if x6 < (x0.size : Int) then (natural_Parse.l2 k x0 x5 (wrap64 (x6 + 1)) x7 (IntKind.u64.wrap ((IntKind.u64.wrap (10 * x8)) + (((bt x0 x6) - 48) % 256))) (IntKind.u64.wrap (10 * x9))) else (none)) else (none)) else ((natural_Of.f x9).bind fun t1176 => ((exact_NatMul.f k x5 t1176).bind fun t1177 => ((natural_Of.f x8).bind fun t1178 => ((exact_NatAdd.f k t1177 t1178).bind fun t1179 => (natural_Parse.l1 k x0 t1179 x6)))))
end
def natural_Parse.f (k : Nat) (a0 : ByteArray) : Option (ByteArray × Int) := if (a0.size : Int) > 4096 then (some ((⟨#[]⟩ : ByteArray), 12)) else (if a0.toList = ([] : List UInt8) then (natural_Parse.j0 k a0 true) else (if 0 < (a0.size : Int) then (if (bt a0 0) = 48 then (natural_Parse.j0 k a0 (decide ((a0.size : Int) > 1))) else (natural_Parse.j0 k a0 false)) else (none)))
theorem natural_Parse.U1 {g : Prop} (h : g := by
  repeat' first
  | (with_reducible exact ih0 _ _)
  | (with_reducible exact ih1 _ _ _)
  | (with_reducible exact ih2 _ _ _)
  | (with_reducible exact ih3 _ _ _ _ _ _)
  | (with_reducible exact exact_NatAdd.mono _ _ _)
  | (with_reducible exact exact_NatMul.mono _ _ _)
  | (with_reducible exact LeO.refl _)
  | (with_reducible exact LeO.none _)
  | (with_reducible refine LeO.ite ?_ ?_)
  | (with_reducible refine LeO.bind ?_ (fun _ => ?_))) : g := h
theorem natural_Parse.mono_l : ∀ k, (∀ y0 y1, LeO (natural_Parse.j0 k y0 y1) (natural_Parse.j0 (k + 1) y0 y1)) ∧ (∀ y0 y1 y2, LeO (natural_Parse.l0 k y0 y1 y2) (natural_Parse.l0 (k + 1) y0 y1 y2)) ∧ (∀ y0 y1 y2, LeO (natural_Parse.l1 k y0 y1 y2) (natural_Parse.l1 (k + 1) y0 y1 y2)) ∧ (∀ y0 y1 y2 y3 y4 y5, LeO (natural_Parse.l2 k y0 y1 y2 y3 y4 y5) (natural_Parse.l2 (k + 1) y0 y1 y2 y3 y4 y5))
  | 0 => ⟨fun _ _ r h => by simp [natural_Parse.j0] at h, fun _ _ _ r h => by simp [natural_Parse.l0] at h, fun _ _ _ r h => by simp [natural_Parse.l1] at h, fun _ _ _ _ _ _ r h => by simp [natural_Parse.l2] at h⟩
  | k + 1 => by
    obtain ⟨ih0, ih1, ih2, ih3⟩ := natural_Parse.mono_l k
    refine ⟨?_, ?_, ?_, ?_⟩
    · intro y0 y1
      unfold natural_Parse.j0
      exact natural_Parse.U1
    · intro y0 y1 y2
      unfold natural_Parse.l0
      exact natural_Parse.U1
    · intro y0 y1 y2
      unfold natural_Parse.l1
      exact natural_Parse.U1
    · intro y0 y1 y2 y3 y4 y5
      unfold natural_Parse.l2
      exact natural_Parse.U1
theorem natural_Parse.mono : ∀ a0 k, LeO (natural_Parse.f k a0) (natural_Parse.f (k + 1) a0) := by
  intro a0 k
  obtain ⟨ih0, ih1, ih2, ih3⟩ := natural_Parse.mono_l k
  unfold natural_Parse.f
  exact natural_Parse.U1
mutual
def integer_Parse.j0 : Nat → ByteArray → Bool → Option (Bool × ByteArray × Int)
  | 0, _, _ => none
  | k + 1, x0, x4 => if x4 = true then (if 1 ≤ (x0.size : Int) then (integer_Parse.j1 k (x0.extract 1 x0.size) x4) else (none)) else (integer_Parse.j1 k x0 x4)
def integer_Parse.j1 : Nat → ByteArray → Bool → Option (Bool × ByteArray × Int)
  | 0, _, _ => none
  | k + 1, x0, x4 => (natural_Parse.f k x0).bind fun bt1183 => (if bt1183.2 = 0 then (if x4 = true then (if bt1183.1.toList = ([] : List UInt8) then ((integer_zero.f).bind fun bt1185 => (some (bt1185.1, bt1185.2, 11))) else (some (x4, bt1183.1, 0))) else (some (x4, bt1183.1, 0))) else ((integer_zero.f).bind fun bt1187 => (some (bt1187.1, bt1187.2, bt1183.2))))
end
def integer_Parse.f (k : Nat) (a0 : ByteArray) : Option (Bool × ByteArray × Int) := if (a0.size : Int) > 4096 then ((integer_zero.f).bind fun bt1181 => (some (bt1181.1, bt1181.2, 12))) else (if (a0.size : Int) > 0 then (if 0 < (a0.size : Int) then (integer_Parse.j0 k a0 ((bt a0 0) == 45)) else (none)) else (integer_Parse.j0 k a0 false))
theorem integer_Parse.U1 {g : Prop} (h : g := by
  repeat' first
  | (with_reducible exact ih0 _ _)
  | (with_reducible exact ih1 _ _)
  | (with_reducible exact natural_Parse.mono _ _)
  | (with_reducible exact LeO.refl _)
  | (with_reducible exact LeO.none _)
  | (with_reducible refine LeO.ite ?_ ?_)
  | (with_reducible refine LeO.bind ?_ (fun _ => ?_))) : g := h
theorem integer_Parse.mono_l : ∀ k, (∀ y0 y1, LeO (integer_Parse.j0 k y0 y1) (integer_Parse.j0 (k + 1) y0 y1)) ∧ (∀ y0 y1, LeO (integer_Parse.j1 k y0 y1) (integer_Parse.j1 (k + 1) y0 y1))
  | 0 => ⟨fun _ _ r h => by simp [integer_Parse.j0] at h, fun _ _ r h => by simp [integer_Parse.j1] at h⟩
  | k + 1 => by
    obtain ⟨ih0, ih1⟩ := integer_Parse.mono_l k
    refine ⟨?_, ?_⟩
    · intro y0 y1
      unfold integer_Parse.j0
      exact integer_Parse.U1
    · intro y0 y1
      unfold integer_Parse.j1
      exact integer_Parse.U1
mutual
def galoisref01_Digits.j0 : Nat → ByteArray → Bool → Option (ByteArray × Bool)
  | 0, _, _ => none
  | k + 1, x0, x19 => if x19 = true then (some ((⟨#[]⟩ : ByteArray), false)) else (galoisref01_Digits.l0 k x0 ([] : List Int) 0)
def galoisref01_Digits.l0 : Nat → ByteArray → List Int → Int → Option (ByteArray × Bool)
  | 0, _, _, _ => none
  | k + 1, x0, x4, x5 => if x5 < (x0.size : Int) then (if 0 ≤ x5 then (if (bt x0 x5) < 48 then (galoisref01_Digits.j2 k x0 x4 x5 true) else (galoisref01_Digits.j2 k x0 x4 x5 (decide ((bt x0 x5) > 57)))) else (none)) else ((galoisref01_pack.f k x4).bind fun t1189 => (some (t1189, true)))
def galoisref01_Digits.j2 : Nat → ByteArray → List Int → Int → Bool → Option (ByteArray × Bool)
  | 0, _, _, _, _ => none
  | k + 1, x0, x4, x5, x35 => if x35 = true then (some ((⟨#[]⟩ : ByteArray), false)) else (if 0 ≤ x5 then (if x5 < (x0.size : Int) then (galoisref01_Digits.l1 k x0 x4 x5 (((bt x0 x5) - 48) % 256) 0) else (none)) else (none))
def galoisref01_Digits.l1 : Nat → ByteArray → List Int → Int → Int → Int → Option (ByteArray × Bool)
  | 0, _, _, _, _, _ => none
  | k + 1, x0, x4, x5, x6, x7 => if x7 < (x4.length : Int) then (if 0 ≤ x7 then (galoisref01_Digits.l1 k x0 (x4.set (x7 : Int).toNat (Go.bits .and .u64 (IntKind.u64.wrap (x6 + (IntKind.u64.wrap ((rd x4 x7) * 10)))) 4294967295)) x5 ((IntKind.u64.wrap (x6 + (IntKind.u64.wrap ((rd x4 x7) * 10)))) / 4294967296) (wrap64 (x7 + 1))) else (none)) else (if x6 > 0 then (if x4.length < 17592186044416 then (galoisref01_Digits.l0 k x0 (x4 ++ [x6]) (wrap64 (x5 + 1))) else (none)) else (galoisref01_Digits.l0 k x0 x4 (wrap64 (x5 + 1))))
end
def galoisref01_Digits.f (k : Nat) (a0 : ByteArray) : Option (ByteArray × Bool) := if a0.toList = ([] : List UInt8) then (galoisref01_Digits.j0 k a0 true) else (if (a0.size : Int) > 1 then (if 0 < (a0.size : Int) then (galoisref01_Digits.j0 k a0 ((bt a0 0) == 48)) else (none)) else (galoisref01_Digits.j0 k a0 false))
theorem galoisref01_Digits.U1 {g : Prop} (h : g := by
  repeat' first
  | (with_reducible exact ih0 _ _)
  | (with_reducible exact ih1 _ _ _)
  | (with_reducible exact ih2 _ _ _ _)
  | (with_reducible exact ih3 _ _ _ _ _)
  | (with_reducible exact galoisref01_pack.mono _ _)
  | (with_reducible exact LeO.refl _)
  | (with_reducible exact LeO.none _)
  | (with_reducible refine LeO.ite ?_ ?_)
  | (with_reducible refine LeO.bind ?_ (fun _ => ?_))) : g := h
theorem galoisref01_Digits.mono_l : ∀ k, (∀ y0 y1, LeO (galoisref01_Digits.j0 k y0 y1) (galoisref01_Digits.j0 (k + 1) y0 y1)) ∧ (∀ y0 y1 y2, LeO (galoisref01_Digits.l0 k y0 y1 y2) (galoisref01_Digits.l0 (k + 1) y0 y1 y2)) ∧ (∀ y0 y1 y2 y3, LeO (galoisref01_Digits.j2 k y0 y1 y2 y3) (galoisref01_Digits.j2 (k + 1) y0 y1 y2 y3)) ∧ (∀ y0 y1 y2 y3 y4, LeO (galoisref01_Digits.l1 k y0 y1 y2 y3 y4) (galoisref01_Digits.l1 (k + 1) y0 y1 y2 y3 y4))
  | 0 => ⟨fun _ _ r h => by simp [galoisref01_Digits.j0] at h, fun _ _ _ r h => by simp [galoisref01_Digits.l0] at h, fun _ _ _ _ r h => by simp [galoisref01_Digits.j2] at h, fun _ _ _ _ _ r h => by simp [galoisref01_Digits.l1] at h⟩
  | k + 1 => by
    obtain ⟨ih0, ih1, ih2, ih3⟩ := galoisref01_Digits.mono_l k
    refine ⟨?_, ?_, ?_, ?_⟩
    · intro y0 y1
      unfold galoisref01_Digits.j0
      exact galoisref01_Digits.U1
    · intro y0 y1 y2
      unfold galoisref01_Digits.l0
      exact galoisref01_Digits.U1
    · intro y0 y1 y2 y3
      unfold galoisref01_Digits.j2
      exact galoisref01_Digits.U1
    · intro y0 y1 y2 y3 y4
      unfold galoisref01_Digits.l1
      exact galoisref01_Digits.U1
theorem galoisref01_Digits.mono : ∀ a0 k, LeO (galoisref01_Digits.f k a0) (galoisref01_Digits.f (k + 1) a0) := by
  intro a0 k
  obtain ⟨ih0, ih1, ih2, ih3⟩ := galoisref01_Digits.mono_l k
  unfold galoisref01_Digits.f
  exact galoisref01_Digits.U1
def galoisref02_Digits.j0 : Nat → ByteArray → Bool → Option (Bool × ByteArray × Bool)
  | 0, _, _ => none
  | k + 1, x0, x15 => if x15 = true then (if 1 ≤ (x0.size : Int) then ((galoisref01_Digits.f k (x0.extract 1 x0.size)).bind fun bt1196 => ((galoisref02_Make.f true bt1196.1).bind fun bt1198 => (if bt1196.2 = true then (some (bt1198.1, bt1198.2, (bt1196.1.toList != ([] : List UInt8)))) else (some (bt1198.1, bt1198.2, false))))) else (none)) else ((galoisref01_Digits.f k x0).bind fun bt1200 => (some (false, bt1200.1, bt1200.2)))
def galoisref02_Digits.f (k : Nat) (a0 : ByteArray) : Option (Bool × ByteArray × Bool) := if (a0.size : Int) > 0 then (if 0 < (a0.size : Int) then (galoisref02_Digits.j0 k a0 ((bt a0 0) == 45)) else (none)) else (galoisref02_Digits.j0 k a0 false)
theorem galoisref02_Digits.U1 {g : Prop} (h : g := by
  repeat' first
  | (with_reducible exact ih0 _ _)
  | (with_reducible exact galoisref01_Digits.mono _ _)
  | (with_reducible exact LeO.refl _)
  | (with_reducible exact LeO.none _)
  | (with_reducible refine LeO.ite ?_ ?_)
  | (with_reducible refine LeO.bind ?_ (fun _ => ?_))) : g := h
theorem galoisref02_Digits.mono_l : ∀ k, (∀ y0 y1, LeO (galoisref02_Digits.j0 k y0 y1) (galoisref02_Digits.j0 (k + 1) y0 y1))
  | 0 => fun _ _ r h => by simp [galoisref02_Digits.j0] at h
  | k + 1 => by
    have ih0 := galoisref02_Digits.mono_l k
    · intro y0 y1
      unfold galoisref02_Digits.j0
      exact galoisref02_Digits.U1
def galoisref02_Parse.f (k : Nat) (a0 : ByteArray) : Option (Bool × ByteArray × Int) := if (a0.size : Int) > 4096 then (some (false, (⟨#[]⟩ : ByteArray), 12)) else ((galoisref02_Digits.f k a0).bind fun bt1203 => (if bt1203.2.2 = true then ((galoisref02_Fits.f bt1203.1 bt1203.2.1).bind fun t1207 => (if t1207 = 0 then (some (bt1203.1, bt1203.2.1, 0)) else (some (false, (⟨#[]⟩ : ByteArray), 4)))) else (some (false, (⟨#[]⟩ : ByteArray), 11))))
mutual
def galoisref01_Format.l0 : Nat → List Int → List Int → Option (ByteArray)
  | 0, _, _ => none
  | k + 1, x3, x4 => if (x4.length : Int) > 0 then (galoisref01_Format.l1 k x3 x4 0 (wrap64 ((x4.length : Int) - 1))) else (if 0 ≤ (x3.length : Int) then (if ((x3.length : Int) : Int).toNat ≤ 281474976710656 then (galoisref01_Format.l2 k x3 (List.replicate ((x3.length : Int) : Int).toNat 0) 0) else (none)) else (none))
def galoisref01_Format.l1 : Nat → List Int → List Int → Int → Int → Option (ByteArray)
  | 0, _, _, _, _ => none
  | k + 1, x3, x4, x5, x6 => if x6 ≥ 0 then (if 0 ≤ x6 then (if x6 < (x4.length : Int) then (galoisref01_Format.l1 k x3 (x4.set (x6 : Int).toNat (IntKind.u64.wrap (Int.tdiv (IntKind.u64.wrap ((IntKind.u64.wrap (x5 * 4294967296)) + (rd x4 x6))) 10))) (Int.tmod (IntKind.u64.wrap ((IntKind.u64.wrap (x5 * 4294967296)) + (rd x4 x6))) 10) (wrap64 (x6 - 1))) else (none)) else (none)) else (if x3.length < 140737488355328 then ((galoisref01_trim.f k x4).bind fun t1216 => (galoisref01_Format.l0 k (x3 ++ [(IntKind.u64.wrap (48 + x5)) % 256]) t1216)) else (none))
def galoisref01_Format.l2 : Nat → List Int → List Int → Int → Option (ByteArray)
  | 0, _, _, _ => none
  | k + 1, x3, x7, x8 => if x8 < (x3.length : Int) then (if 0 ≤ x8 then (if 0 ≤ (wrap64 ((wrap64 ((x3.length : Int) - 1)) - x8)) then (if (wrap64 ((wrap64 ((x3.length : Int) - 1)) - x8)) < (x7.length : Int) then (galoisref01_Format.l2 k x3 (x7.set ((wrap64 ((wrap64 ((x3.length : Int) - 1)) - x8)) : Int).toNat (rd x3 x8)) (wrap64 (x8 + 1))) else (none)) else (none)) else (none)) else (some (strOfNums x7))
end
def galoisref01_Format.f (k : Nat) (a0 : ByteArray) : Option (ByteArray) := if a0.toList = ([] : List UInt8) then (some (⟨#[48]⟩ : ByteArray)) else ((galoisref01_limbs.f k a0).bind fun t1208 => (galoisref01_Format.l0 k ([] : List Int) t1208))
def galoisref02_Format.f (k : Nat) (a0_0 : Bool) (a0_1 : ByteArray) : Option (ByteArray) := if a0_0 = true then ((galoisref01_Format.f k a0_1).bind fun t1225 => (if 1 + t1225.size ≤ 9223372036854775807 then (some ((⟨#[45]⟩ : ByteArray) ++ t1225)) else (none))) else ((galoisref01_Format.f k a0_1).bind fun t1226 => (some t1226))
end Go.Proofs.Ytdhdfcjpeflinaa.All
namespace Go.Proofs.YtdhdfcjpeflinaaV
open Go Go.RowKit Go.Proofs.Ytdhdfcjpeflinaa Go.Proofs.YtdhdfcjpeflinaaE
@[reducible] noncomputable def FX121 (k : Nat) (x0 : Int) (x1 : Int) (x2 : Int) : Option R121 := All.bits_Add64.f x0 x1 x2
@[reducible] noncomputable def FX122 (k : Nat) (x0 : Int) (x1 : Int) (x2 : Int) : Option R122 := All.bits_Sub64.f x0 x1 x2
@[reducible] noncomputable def FX106 (k : Nat) (x0 : Int) : Option R106 := All.bits_Len8.f x0
@[reducible] noncomputable def FX135 (k : Nat) (x0 : Int) : Option R135 := All.bits_Len64.f x0
@[reducible] noncomputable def FX130 (k : Nat) (y0 : List Int) : Option R130 := (All.exact_trim.f k y0).bind fun r => some ((r.length : Int), r ++ y0.drop r.length)
@[reducible] noncomputable def FX117 (k : Nat) (y0 : List Int) : Option R117 := (All.galoisref01_trim.f k y0).bind fun r => some ((r.length : Int), r ++ y0.drop r.length)
@[reducible] noncomputable def FX114 (k : Nat) (x0 : Int) : Option R114 := All.natural_Of.f x0
end Go.Proofs.YtdhdfcjpeflinaaV
set_option linter.unusedVariables false
namespace Go.Proofs.YtdhdfcjpeflinaaV
open Go Go.RowKit Go.Proofs.Ytdhdfcjpeflinaa Go.Proofs.YtdhdfcjpeflinaaE Go.Proofs.YtdhdfcjpeflinaaW.PrintWords Go.Proofs.YtdhdfcjpeflinaaW.PrintLast Go.Proofs.YtdhdfcjpeflinaaW.PrintMore
@[reducible] noncomputable def FX53 (k : Nat) : Option R53 := All.integer_zero.f
@[reducible] noncomputable def FX82 (k : Nat) (x0 : ByteArray) : Option R82 := All.natural_Check.f k x0
@[reducible] noncomputable def FX33 (k : Nat) (x0 : (Bool × ByteArray)) : Option R33 := All.integer_Check.f k x0.1 x0.2
@[reducible] noncomputable def FX52 (k : Nat) (x0 : (List (Bool × ByteArray))) : Option R52 := All.integer_first.f k x0
@[reducible] noncomputable def FX128 (k : Nat) (x0 : (List Int)) (x1 : (List Int)) : Option R128 := All.exact_compareWords.f k x0 x1
@[reducible] noncomputable def FX131 (k : Nat) (x0 : Int) : Option R131 := All.bits_LeadingZeros64.f x0
@[reducible] noncomputable def FX129 (k : Nat) (x0 : Int) (x1 : Int) (x2 : Int) : Option R129 := All.bits_Div64.f k x0 x1 x2
@[reducible] noncomputable def FX132 (k : Nat) (x0 : (List Int)) (x1 : Int) : Option R132 := All.exact_shiftUp.f k x0 x1
@[reducible] noncomputable def FX134 (k : Nat) (x0 : Int) (x1 : Int) : Option R134 := All.bits_Mul64.f x0 x1
@[reducible] noncomputable def FX133 (k : Nat) (x1 : (List Int)) (y0 : (List Int)) : Option R133 := All.exact_step.f k y0 x1
@[reducible] noncomputable def FX118 (k : Nat) (x0 : (List Int)) (x1 : (List Int)) : Option R118 := All.exact_divide.f k x0 x1
@[reducible] noncomputable def FX119 (k : Nat) (x0 : ByteArray) : Option R119 := All.exact_words.f k x0
@[reducible] noncomputable def FX130v (k : Nat) (x0 : (List Int)) : Option R130v := All.exact_trim.f k x0
@[reducible] noncomputable def FX120 (k : Nat) (x0 : (List Int)) : Option R120 := All.exact_pack.f k x0
@[reducible] noncomputable def FX94 (k : Nat) (x0 : ByteArray) (x1 : ByteArray) : Option R94 := All.exact_NatDivMod.f k x0 x1
@[reducible] noncomputable def FX95 (k : Nat) (x0 : ByteArray) (x1 : ByteArray) : Option R95 := All.exact_NatAdd.f k x0 x1
@[reducible] noncomputable def FX96 (k : Nat) (x0 : Int) : Option R96 := All.exact_NatOf.f k x0
@[reducible] noncomputable def FX97 (k : Nat) (x0 : ByteArray) (x1 : ByteArray) : Option R97 := All.exact_NatSub.f k x0 x1
@[reducible] noncomputable def FX98 (k : Nat) (x0 : Bool) (x1 : ByteArray) : Option R98 := All.exact_IntMake.f x0 x1
@[reducible] noncomputable def FX54 (k : Nat) (x0 : (Bool × ByteArray)) (x1 : (Bool × ByteArray)) : Option R54 := All.exact_IntDivMod.f k x0.1 x0.2 x1.1 x1.2
@[reducible] noncomputable def FX14 (k : Nat) (x0 : (Bool × ByteArray)) (x1 : (Bool × ByteArray)) : Option R14 := All.integer_DivMod.f k x0.1 x0.2 x1.1 x1.2
@[reducible] noncomputable def FX55 (k : Nat) (x0 : (List (Bool × ByteArray))) : Option R55 := B55 x0
@[reducible] noncomputable def FX100 (k : Nat) (x0 : ByteArray) (x1 : ByteArray) : Option R100 := All.exact_NatGcd.f k x0 x1
@[reducible] noncomputable def FX57 (k : Nat) (x0 : (Bool × ByteArray)) (x1 : (Bool × ByteArray)) : Option R57 := All.exact_IntGcd.f k x0.1 x0.2 x1.1 x1.2
@[reducible] noncomputable def FX56 (k : Nat) (x0 : (Bool × ByteArray)) (x1 : (Bool × ByteArray)) : Option R56 := B56 (FX57 k) x0 x1
@[reducible] noncomputable def FX99Gcd (k : Nat) (x0 : ((Bool × ByteArray) × (Bool × ByteArray) × Unit)) (x1 : (List (Bool × ByteArray))) : Option R99Gcd := B99Gcd (FX52 k) (FX53 k) (FX56 k) x0 x1
@[reducible] noncomputable def FX15 (k : Nat) (x0 : (Bool × ByteArray)) (x1 : (Bool × ByteArray)) : Option R15 := All.integer_Gcd.f k x0.1 x0.2 x1.1 x1.2
@[reducible] noncomputable def FX78 (k : Nat) (x0 : Int) : Option R78 := All.exact_IntOf.f k x0
@[reducible] noncomputable def FX30 (k : Nat) (x0 : Int) : Option R30 := All.integer_Of.f k x0
@[reducible] noncomputable def FX16 (k : Nat) (x0 : (Bool × ByteArray)) (x1 : Int) : Option R16 := All.integer_Valuation.f k x0.1 x0.2 x1
@[reducible] noncomputable def FX105 (k : Nat) (x0 : (List Int)) : Option R105 := All.galoisref01_pack.f k x0
@[reducible] noncomputable def FX63 (k : Nat) (x0 : Int) : Option R63 := All.galoisref01_Of.f k x0
@[reducible] noncomputable def FX75 (k : Nat) (x0 : Int) : Option R75 := All.galoisref02_FromInt.f k x0
@[reducible] noncomputable def FX27 (k : Nat) (x0 : Int) : Option R27 := All.galoislaw02_of.f k x0
@[reducible] noncomputable def FX123 (k : Nat) (x0 : (List Int)) (x1 : (List Int)) : Option R123 := All.exact_mulWords.f k x0 x1
@[reducible] noncomputable def FX108 (k : Nat) (x0 : ByteArray) (x1 : ByteArray) : Option R108 := All.exact_NatMul.f k x0 x1
@[reducible] noncomputable def FX67 (k : Nat) (x0 : ByteArray) : Option R67 := All.exact_NatBits.f x0
@[reducible] noncomputable def FX107 (k : Nat) (x0 : ByteArray) (x1 : Int) : Option R107 := All.exact_NatPow.f k x0 x1
@[reducible] noncomputable def FX109 (k : Nat) (x0 : ByteArray) (x1 : ByteArray) : Option R109 := All.exact_NatCmp.f k x0 x1
@[reducible] noncomputable def FX124 (k : Nat) (x0 : Int) : Option R124 := All.exact_NatTwo.f x0
@[reducible] noncomputable def FX110 (k : Nat) (x0 : ByteArray) (x1 : Int) : Option R110 := All.exact_NatRoot.f k x0 x1
@[reducible] noncomputable def FX76 (k : Nat) (x0 : (Bool × ByteArray)) : Option R76 := All.exact_IntSqrt.f k x0.1 x0.2
@[reducible] noncomputable def FX28 (k : Nat) (x0 : (Bool × ByteArray)) : Option R28 := All.integer_IsSquare.f k x0.1 x0.2
@[reducible] noncomputable def FX12 (k : Nat) : Option R12 := All.galoislaw02_awake.f k
@[reducible] noncomputable def FX101 (k : Nat) (x0 : ByteArray) : Option R101 := All.galoisref01_Valid.f x0
@[reducible] noncomputable def FX58 (k : Nat) (x0 : (Bool × ByteArray)) : Option R58 := All.galoisref02_Valid.f x0.1 x0.2
@[reducible] noncomputable def FX102 (k : Nat) (x0 : ByteArray) : Option R102 := All.galoisref01_Fits.f x0
@[reducible] noncomputable def FX59 (k : Nat) (x0 : (Bool × ByteArray)) : Option R59 := All.galoisref02_Fits.f x0.1 x0.2
@[reducible] noncomputable def FX17 (k : Nat) (x0 : (Bool × ByteArray)) : Option R17 := All.galoisref02_Check.f x0.1 x0.2
@[reducible] noncomputable def FX19 (k : Nat) (x0 : (Bool × ByteArray)) (x1 : Int) (x2 : Int) (x3 : (Bool × ByteArray)) : Option R19 := All.galoislaw02_right.f x0.1 x0.2 x1 x2 x3.1 x3.2
@[reducible] noncomputable def FX103 (k : Nat) (x0 : ByteArray) : Option R103 := All.galoisref01_limbs.f k x0
@[reducible] noncomputable def FX65 (k : Nat) (x0 : Bool) (x1 : ByteArray) : Option R65 := All.galoisref02_Make.f x0 x1
@[reducible] noncomputable def FX111 (k : Nat) (x0 : ByteArray) : Option R111 := All.exact_NatUint.f k x0
@[reducible] noncomputable def FX113 (k : Nat) (x0 : (List ByteArray)) : Option R113 := All.natural_first.f k x0
@[reducible] noncomputable def FX90 (k : Nat) (x0 : ByteArray) : Option R90 := All.natural_Format.f k x0
@[reducible] noncomputable def FX48 (k : Nat) (x0 : (Bool × ByteArray)) : Option R48 := All.integer_Format.f k x0.1 x0.2
@[reducible] noncomputable def FX115 (k : Nat) (x0 : ByteArray) : Option R115 := All.natural_bounded.f x0
@[reducible] noncomputable def FX91 (k : Nat) (x0 : ByteArray) : Option R91 := All.natural_Parse.f k x0
@[reducible] noncomputable def FX49 (k : Nat) (x0 : ByteArray) : Option R49 := All.integer_Parse.f k x0
@[reducible] noncomputable def FX116 (k : Nat) (x0 : ByteArray) : Option R116 := All.galoisref01_Digits.f k x0
@[reducible] noncomputable def FX92 (k : Nat) (x0 : ByteArray) : Option R92 := All.galoisref02_Digits.f k x0
@[reducible] noncomputable def FX50 (k : Nat) (x0 : ByteArray) : Option R50 := All.galoisref02_Parse.f k x0
@[reducible] noncomputable def FX93 (k : Nat) (x0 : ByteArray) : Option R93 := All.galoisref01_Format.f k x0
@[reducible] noncomputable def FX51 (k : Nat) (x0 : (Bool × ByteArray)) : Option R51 := All.galoisref02_Format.f k x0.1 x0.2
end Go.Proofs.YtdhdfcjpeflinaaV
set_option linter.unusedVariables false
set_option linter.unusedSimpArgs false
set_option maxRecDepth 10000
namespace Go.Proofs.YtdhdfcjpeflinaaV
open Go Go.RowKit Go.Proofs.Ytdhdfcjpeflinaa Go.Proofs.YtdhdfcjpeflinaaE Go.Proofs.YtdhdfcjpeflinaaW.PrintWords Go.Proofs.YtdhdfcjpeflinaaW.PrintLast Go.Proofs.YtdhdfcjpeflinaaW.PrintMore
theorem EOK : EnvOk Go.Proofs.Try.prog E0 := ⟨by kernel_rfl, by kernel_rfl, by kernel_rfl⟩
theorem HM : Go.Proofs.Try.prog.follows .mixedOrders = true := Go.Proofs.Try.checked.mixed
section
variable {P : Program} {f : Nat}
theorem ct_one {k : IntKind} {x : Int} {r : V} (h : ∀ w, CallSem P f #[.int k x] w fun v w' => w' = w ∧ ∀ bl φ, RepV w bl φ r v) : Ct P f [.a (.v (.it k) x)] [] r [] := by
 refine ⟨(fun q hq => nomatch hq), fun w0 bl0 φ0 vs _ hm hr => ?_⟩
 cases hr with
 | cons h1 hr =>
  cases hr with
  | nil =>
   rw [rep_it.1 h1]
   exact (h w0).mono fun v w' ⟨e, hv⟩ => ⟨φ0, by rw [e]; exact Step.refl hm, by rw [e]; exact hv _ _⟩
theorem ct_three {k1 k2 k3 : IntKind} {x y z : Int} {r : V} (h : ∀ w, CallSem P f #[.int k1 x, .int k2 y, .int k3 z] w fun v w' => w' = w ∧ ∀ bl φ, RepV w bl φ r v) : Ct P f [.a (.v (.it k1) x), .a (.v (.it k2) y), .a (.v (.it k3) z)] [] r [] := by
 refine ⟨(fun q hq => nomatch hq), fun w0 bl0 φ0 vs _ hm hr => ?_⟩
 cases hr with
 | cons h1 hr =>
  cases hr with
  | cons h2 hr =>
   cases hr with
   | cons h3 hr =>
    cases hr with
    | nil =>
     rw [rep_it.1 h1, rep_it.1 h2, rep_it.1 h3]
     exact (h w0).mono fun v w' ⟨e, hv⟩ => ⟨φ0, by rw [e]; exact Step.refl hm, by rw [e]; exact hv _ _⟩
theorem sem_enter {fn : Func} {c : Code} (hf : P.funcs[f]? = some fn) (hname : (fn.name == "runtime.NumGoroutine") = false) (hb : fn.body = some c) {args : Array Value} {w : World} {Q : Value → World → Prop} (h : Calls P f args w fun e w' => ∃ v, e = .returned v ∧ Q v w') : CallSem P f args w Q :=
 Or.inl ⟨by simp only [callFunc, Sem.run_bind, run_program, Result.andThen_ok, hf, hname, hb, Option.isNone_some, Bool.false_eq_true, if_false, Sem.run_pure], h⟩
end
theorem ok121 (k : Nat) : FeOk Go.Proofs.Try.prog (fe121 (FX121 k)) := by
 rintro ⟨⟨x, y, c, ⟨⟩⟩, ⟨⟩⟩ o h v hv
 replace h : All.bits_Add64.f x y c = some o := h
 cases hv
 unfold All.bits_Add64.f at h
 by_cases hc : 0 ≤ x ∧ 0 ≤ y ∧ 0 ≤ c ∧ c ≤ 1
 ·rw [if_pos hc] at h
  cases h
  refine ct_three fun w => Or.inr ⟨_, w, ?_, rfl, fun bl φ => ⟨_, rfl, .cons (rep_it.2 rfl) (.cons (rep_it.2 rfl) .nil)⟩⟩
  show (callFunc 121 #[.int .u64 x, .int .u64 y, .int .u64 c]).run _ w = _
  rw [run_callFunc_extern Go.Proofs.Try.func121 (by kernel_rfl) (by kernel_rfl) (by kernel_rfl) (by kernel_rfl), run_add64 x y c hc.1 hc.2.1 hc.2.2.1 hc.2.2.2]
  rfl
 ·rw [if_neg hc] at h; cases h
theorem sub64_at (x y c : Int) (hx : 0 ≤ x) (hy : 0 ≤ y) (hc0 : 0 ≤ c) (hc : c ≤ 1) (w : World) :
  (callFunc 122 #[.int .u64 x, .int .u64 y, .int .u64 c]).run Go.Proofs.Try.prog w = .ok (.value (.tuple #[.int .u64 ((x - y - c) % 18446744073709551616), .int .u64 (if x < y + c then 1 else 0)])) w ∨ ¬ y ≤ 18446744073709551615 := by
 by_cases hym : y ≤ 18446744073709551615
 ·refine Or.inl ?_
  obtain ⟨X, rfl⟩ := Int.eq_ofNat_of_zero_le hx
  obtain ⟨Y, rfl⟩ := Int.eq_ofNat_of_zero_le hy
  obtain ⟨C, rfl⟩ := Int.eq_ofNat_of_zero_le hc0
  rw [run_callFunc_extern Go.Proofs.Try.func122 (by kernel_rfl) (by kernel_rfl) (by kernel_rfl) (by kernel_rfl), run_sub64 X Y C (by omega)]
  have e1 : (((X + 18446744073709551616 - Y - C) % 18446744073709551616 : Nat) : Int) = ((X : Int) - Y - C) % 18446744073709551616 := by omega
  have e2 : ((if X < Y + C then 1 else 0 : Nat) : Int) = if (X : Int) < Y + C then 1 else 0 := by split <;> split <;> omega
  rw [e1, e2]
  rfl
 ·exact Or.inr hym
theorem ok122 (k : Nat) : FeOk Go.Proofs.Try.prog (fe122 (FX122 k)) := by
 rintro ⟨⟨x, y, c, ⟨⟩⟩, ⟨⟩⟩ o h v hv
 replace h : All.bits_Sub64.f x y c = some o := h
 cases hv
 unfold All.bits_Sub64.f at h
 split at h
 ·rename_i hc
  cases h
  refine ct_three fun w => Or.inr ⟨_, w, ?_, rfl, fun bl φ => ⟨_, rfl, .cons (rep_it.2 rfl) (.cons (rep_it.2 rfl) .nil)⟩⟩
  exact (sub64_at x y c hc.1 hc.2.1 hc.2.2.2.1 hc.2.2.2.2 w).resolve_right fun h => h hc.2.2.1
 ·cases h
theorem ok106 (k : Nat) : FeOk Go.Proofs.Try.prog (fe106 (FX106 k)) := by
 rintro ⟨⟨x, ⟨⟩⟩, ⟨⟩⟩ o h v hv
 replace h : All.bits_Len8.f x = some o := h
 cases hv
 unfold All.bits_Len8.f at h
 split at h
 ·rename_i hc
  cases h
  refine ct_one fun w => sem_enter (c := cd106) Go.Proofs.Try.func106 (by kernel_rfl) (by kernel_rfl) ((Go.Proofs.YtdhdfcjpeflinaaX.len8_says x w hc.1 hc.2).mono ?_)
  rintro e w' ⟨rfl, rfl⟩
  exact ⟨_, rfl, rfl, fun bl φ => rep_it.2 rfl⟩
 ·cases h
theorem ok135 (k : Nat) : FeOk Go.Proofs.Try.prog (fe135 (FX135 k)) := by
 rintro ⟨⟨x, ⟨⟩⟩, ⟨⟩⟩ o h v hv
 replace h : All.bits_Len64.f x = some o := h
 cases hv
 unfold All.bits_Len64.f at h
 split at h
 ·rename_i hc
  cases h
  refine ct_one fun w => sem_enter (c := cd135) Go.Proofs.Try.func135 (by kernel_rfl) (by kernel_rfl) ((Go.Proofs.YtdhdfcjpeflinaaX.len64_says x w hc.1 hc.2).mono ?_)
  rintro e w' ⟨rfl, rfl⟩
  exact ⟨_, rfl, rfl, fun bl φ => rep_it.2 rfl⟩
 ·cases h
theorem take_leaf {l : List Int} {x : Int} (h0 : 0 ≤ x) (h1 : x ≤ l.length) : (((l.take x.toNat).length : Int), l.take x.toNat ++ l.drop (l.take x.toNat).length) = (x, l) := by
 have e : (l.take x.toNat).length = x.toNat := by rw [List.length_take]; omega
 rw [e, List.take_append_drop, Int.toNat_of_nonneg h0]
@[reducible] noncomputable def GX130l0 (k : Nat) (x3 : Int) (y0 : List Int) : Option R130 := (All.exact_trim.l0 k y0 x3).bind fun r => some ((r.length : Int), r ++ y0.drop r.length)
theorem b130l0 (k : Nat) (x3 : Int) (y0 : List Int) : LeO (GX130l0 (k + 1) x3 y0) (B130l0 (GX130l0 k) x3 y0) := by
 unfold GX130l0
 rw [All.exact_trim.l0]
 unfold B130l0
 simp only [ite_bind_, bind_some_, Option.bind_none]
 repeat' first
 | (with_reducible exact LeO.none _)
 | (with_reducible exact LeO.refl _)
 | (with_reducible refine LeO.posR (by with_reducible assumption) ?_)
 | (with_reducible refine LeO.negR (by with_reducible assumption) ?_)
 | (with_reducible refine LeO.iteL (fun _ => ?_) (fun _ => ?_))
 | (refine LeO.posR (by first | decide | exact Int.le_refl _ | omega) ?_)
 | (rw [take_leaf (by assumption) (by assumption)])
theorem b130 (k : Nat) (y0 : List Int) : LeO (FX130 k y0) (B130 (GX130l0 k) y0) := LeO.refl _
@[reducible] noncomputable def GX117l0 (k : Nat) (x0 : Int) (y0 : List Int) : Option R117 := if 0 ≤ x0 ∧ x0 ≤ y0.length then (All.galoisref01_trim.l0 k (y0.take x0.toNat)).bind fun r => some ((r.length : Int), r ++ y0.drop r.length) else none
theorem rd_take {l : List Int} {x i : Int} (h0 : 0 ≤ i) (h : i < x) : rd (l.take x.toNat) i = rd l i := by
 unfold rd
 rw [List.getD_eq_getElem?_getD, List.getD_eq_getElem?_getD, List.getElem?_take_of_lt (by omega)]
theorem b117l0 (k : Nat) (x0 : Int) (y0 : List Int) : LeO (GX117l0 (k + 1) x0 y0) (B117l0 (GX117l0 k) x0 y0) := by
 unfold GX117l0
 refine LeO.iteL (fun hx => ?_) (fun _ => LeO.none _)
 have e : (((y0.take x0.toNat).length : Nat) : Int) = x0 := by rw [List.length_take]; omega
 rw [All.galoisref01_trim.l0]
 unfold B117l0
 simp only [ite_bind_, bind_some_, Option.bind_none, e, Int.sub_zero, Int.zero_add]
 refine LeO.iteL (fun h1 => LeO.posR h1 ?_) (fun h1 => LeO.negR h1 ?_)
 ·refine LeO.iteL (fun h2 => LeO.posR h2 ?_) (fun _ => LeO.none _)
  refine LeO.iteL (fun h3 => LeO.posR h3 ?_) (fun _ => LeO.none _)
  rw [rd_take h2 h3]
  refine LeO.iteL (fun h4 => LeO.posR h4 ?_) (fun h4 => LeO.negR h4 ?_)
  ·refine LeO.iteL (fun h5 => ?_) (fun _ => LeO.none _)
   refine LeO.posR (Int.le_refl _) (LeO.posR h2 (LeO.posR h5 (LeO.posR (Int.le_refl _) (LeO.posR ⟨h2, by omega⟩ ?_))))
   rw [List.take_take, Nat.min_eq_left (by omega)]
   exact LeO.refl _
  ·have e2 := take_leaf hx.1 hx.2; rw [e] at e2; rw [e2]; exact LeO.refl _
 ·have e2 := take_leaf hx.1 hx.2; rw [e] at e2; rw [e2]; exact LeO.refl _
theorem b117 (k : Nat) (y0 : List Int) : LeO (FX117 k y0) (B117 (GX117l0 k) y0) := by
 unfold FX117 B117 GX117l0
 refine LeO.posR ⟨by omega, Int.le_refl _⟩ ?_
 rw [Int.toNat_natCast, List.take_length]
 exact LeO.refl _
end Go.Proofs.YtdhdfcjpeflinaaV
set_option linter.unusedVariables false
set_option linter.unusedSimpArgs false
set_option maxRecDepth 100000
namespace Go.Proofs.YtdhdfcjpeflinaaV
open Go Go.RowKit Go.Proofs.Ytdhdfcjpeflinaa Go.Proofs.YtdhdfcjpeflinaaE Go.Proofs.YtdhdfcjpeflinaaW.PrintWords Go.Proofs.YtdhdfcjpeflinaaW.PrintLast Go.Proofs.YtdhdfcjpeflinaaW.PrintMore
theorem b53 (k : Nat) : LeO (FX53 k) (B53) := by
 show LeO (All.integer_zero.f) _
 unfold All.integer_zero.f; unfold B53; (try simp only [All.integer_zero.f, All.exact_stepAt.f, All.S24.f0, All.S24.f1, All.rd_T24, All.z24]); exact BR
theorem ok53 (k : Nat) : FeOk Go.Proofs.Try.prog (fe53 (FX53 k)) :=
 fe_ok EOK HM (es := fun k => fes53) (fun k => List.forall_mem_nil _) (N := 2) (an := an53) (c := cd53) (f := 53) (fn := Go.Proofs.Try.f53) (rms := rm53) (ask := ask53) (rsk := rsk53) (enc := enc53) (dec := dec53) (tbl := []) (fun s => rfl) Go.Proofs.Try.func53 (by kernel_rfl) (by kernel_rfl) (by kernel_rfl) (fun k => les53)
  (List.forall_mem_nil _) (fun k s0 => .nil)
  (F := fun k s => FX53 k) (fun k s r h => (e53 s).trans (b53 k r h)) k
theorem b82 (k : Nat) (x0 : ByteArray) : LeO (FX82 k x0) (B82 x0) := by
 show LeO (All.natural_Check.f k x0) _
 unfold All.natural_Check.f
 unfold B82
 (try simp only [All.integer_zero.f, All.exact_stepAt.f, All.S24.f0, All.S24.f1, All.rd_T24, All.z24])
 (try simp only [List.take_append_drop, List.drop_length, List.append_nil, Int.zero_sub, Int.toNat_natCast, Int.reduceToNat, Int.zero_add, List.take_zero, List.nil_append, List.append_assoc, List.length_set, ite_bind_, List.take_left, BAe, bne, decide_int_eq, decide_not, wrap_mod, if_true, if_false, Bool.false_eq_true, bind_assoc_, slice_def, List.drop_zero, List.take_length, wrap_u8, bind_some_, cnd_eq_if, rdOf, ite_not, Bool.and_eq_true, Bool.or_eq_true, Bool.not_eq_true', bfalse, Bool.not_eq_false', beq_iff_eq, decide_eq_true_eq, isEmpty_eq, ite_and_, ite_or_, ne_eq, toList_mk, List.toList_toArray])
 repeat' first
 | (with_reducible refine LeO.trans ((All.natural_Check.mono_l k) _ _) ?_; rw [All.natural_Check.j0]; (try simp only [if_true, if_false, decide_eq_true_eq, Bool.false_eq_true, decide_not, ite_not, bne, decide_int_eq, beq_iff_eq, Bool.not_eq_true', bfalse, toList_mk, List.toList_toArray, ite_and_, ite_or_, Bool.and_eq_true, Bool.or_eq_true, isEmpty_eq, wrap_mod, wrap_u8, All.integer_zero.f, bind_some_, Int.toNat_natCast, Int.reduceToNat, Int.zero_sub, BAe]))
 | (with_reducible exact LeO.none _)
 | (with_reducible exact LeO.refl _)
 | (with_reducible refine LeO.posR (by with_reducible assumption) ?_)
 | (with_reducible refine LeO.negR (by with_reducible assumption) ?_)
 | (with_reducible refine LeO.bindR (by with_reducible assumption) ?_)
 | (with_reducible refine LeO.posL (by with_reducible assumption) ?_)
 | (with_reducible refine LeO.negL (by with_reducible assumption) ?_)
 | (with_reducible refine LeO.iteL (fun _ => ?_) (fun _ => ?_))
 | (with_reducible refine LeO.bindK (by with_reducible assumption) ?_)
 | (with_reducible refine LeO.bindL (fun _ _ => ?_))
 | (refine LeO.posR (by first | decide | exact Int.le_refl _ | omega | assumption) ?_)
 | (refine LeO.negR (by first | decide | omega) ?_)
theorem ok82 (k : Nat) : FeOk Go.Proofs.Try.prog (fe82 (FX82 k)) :=
 fe_ok EOK HM (es := fun k => fes82) (fun k => List.forall_mem_nil _) (N := 14) (an := an82) (c := cd82) (f := 82) (fn := Go.Proofs.Try.f82) (rms := rm82) (ask := ask82) (rsk := rsk82) (enc := enc82) (dec := dec82) (tbl := []) (fun s => rfl) Go.Proofs.Try.func82 (by kernel_rfl) (by kernel_rfl) (by kernel_rfl) (fun k => les82)
  (List.forall_mem_nil _) (fun k s0 => .nil)
  (F := fun k s => FX82 k s.1.1) (fun k s r h => (e82 s).trans (b82 k s.1.1 r h)) k
theorem b33 (k : Nat) (x0 : (Bool × ByteArray)) : LeO (FX33 k x0) (B33 (FX53 k) (FX82 k) x0) := by
 show LeO (All.integer_Check.f k x0.1 x0.2) _
 unfold All.integer_Check.f; unfold B33; (try simp only [FX53, FX82, All.integer_zero.f, All.exact_stepAt.f, All.S24.f0, All.S24.f1, All.rd_T24, All.z24]); exact BR
theorem ok33 (k : Nat) : FeOk Go.Proofs.Try.prog (fe33 (FX33 k)) :=
 fe_ok EOK HM (es := fun k => fes33 (FX53 k) (FX82 k)) (fun k => List.forall_mem_cons.2 ⟨ok53 k, List.forall_mem_cons.2 ⟨ok82 k, List.forall_mem_nil _⟩⟩) (N := 21) (an := an33) (c := cd33) (f := 33) (fn := Go.Proofs.Try.f33) (rms := rm33) (ask := ask33) (rsk := rsk33) (enc := enc33) (dec := dec33) (tbl := []) (fun s => rfl) Go.Proofs.Try.func33 (by kernel_rfl) (by kernel_rfl) (by kernel_rfl) (fun k => les33)
  (List.forall_mem_nil _) (fun k s0 => .nil)
  (F := fun k s => FX33 k s.1.1) (fun k s r h => (e33 (FX53 k) (FX82 k) s).trans (b33 k s.1.1 r h)) k
@[reducible] noncomputable def GX52l0 (k : Nat) (x6 : (List (Bool × ByteArray))) (x7 : Int) (x8 : Int) : Option R52 := All.integer_first.l0 k x6 x7 x8
theorem b52l0 (k : Nat) (x6 : (List (Bool × ByteArray))) (x7 : Int) (x8 : Int) : LeO (All.integer_first.l0 (k + 1) x6 x7 x8) (B52l0 (GX52l0 k) (FX33 k) x6 x7 x8) := by rw [All.integer_first.l0]; unfold B52l0; (try simp only [GX52l0, FX33, All.integer_zero.f, All.exact_stepAt.f, All.S24.f0, All.S24.f1, All.rd_T24, All.z24]); exact BR
theorem b52 (k : Nat) (x0 : (List (Bool × ByteArray))) : LeO (FX52 k x0) (B52 (GX52l0 k) x0) := by
 show LeO (All.integer_first.f k x0) _
 unfold All.integer_first.f; unfold B52; (try simp only [GX52l0, FX33, All.integer_zero.f, All.exact_stepAt.f, All.S24.f0, All.S24.f1, All.rd_T24, All.z24]); exact BR
theorem ok52 (k : Nat) : FeOk Go.Proofs.Try.prog (fe52 (FX52 k)) :=
 fe_ok EOK HM (es := fun k => fes52 (FX33 k)) (fun k => List.forall_mem_cons.2 ⟨ok33 k, List.forall_mem_nil _⟩) (N := 18) (an := an52) (c := cd52) (f := 52) (fn := Go.Proofs.Try.f52) (rms := rm52) (ask := ask52) (rsk := rsk52) (enc := enc52) (dec := dec52) (tbl := [p52.getD 0 ⟨0, [], .skip⟩]) (fun s => rfl) Go.Proofs.Try.func52 (by kernel_rfl) (by kernel_rfl) (by kernel_rfl) (fun k => les52 (GX52l0 k))
  (List.forall_mem_cons.2 ⟨fun s => rfl, List.forall_mem_nil _⟩) (fun k s0 => .cons (by kernel_rfl) (by kernel_rfl) (fun s r h => (e52l0 (GX52l0 k) (FX33 k) s0 s).trans (b52l0 k s.1.1 s.1.2.1 s.1.2.2.1 r h)) (.nil))
  (F := fun k s => FX52 k s.1.1) (fun k s r h => (e52 (GX52l0 k) (FX33 k) s).trans (b52 k s.1.1 r h)) k
@[reducible] noncomputable def GX128l0 (k : Nat) (x0 : (List Int)) (x1 : (List Int)) (x5 : Int) : Option R128 := All.exact_compareWords.l0 k x0 x1 x5
theorem b128l0 (k : Nat) (x0 : (List Int)) (x1 : (List Int)) (x5 : Int) : LeO (All.exact_compareWords.l0 (k + 1) x0 x1 x5) (B128l0 (GX128l0 k) x0 x1 x5) := by rw [All.exact_compareWords.l0]; unfold B128l0; (try simp only [GX128l0, All.integer_zero.f, All.exact_stepAt.f, All.S24.f0, All.S24.f1, All.rd_T24, All.z24]); exact BR
theorem b128 (k : Nat) (x0 : (List Int)) (x1 : (List Int)) : LeO (FX128 k x0 x1) (B128 (GX128l0 k) x0 x1) := by
 show LeO (All.exact_compareWords.f k x0 x1) _
 unfold All.exact_compareWords.f; unfold B128; (try simp only [GX128l0, All.integer_zero.f, All.exact_stepAt.f, All.S24.f0, All.S24.f1, All.rd_T24, All.z24]); exact BR
theorem ok128 (k : Nat) : FeOk Go.Proofs.Try.prog (fe128 (FX128 k)) :=
 fe_ok EOK HM (es := fun k => fes128) (fun k => List.forall_mem_nil _) (N := 41) (an := an128) (c := cd128) (f := 128) (fn := Go.Proofs.Try.f128) (rms := rm128) (ask := ask128) (rsk := rsk128) (enc := enc128) (dec := dec128) (tbl := [p128.getD 0 ⟨0, [], .skip⟩]) (fun s => rfl) Go.Proofs.Try.func128 (by kernel_rfl) (by kernel_rfl) (by kernel_rfl) (fun k => les128 (GX128l0 k))
  (List.forall_mem_cons.2 ⟨fun s => rfl, List.forall_mem_nil _⟩) (fun k s0 => .cons (by kernel_rfl) (by kernel_rfl) (fun s r h => (e128l0 (GX128l0 k) s0 s).trans (b128l0 k s.1.1 s.1.2.1 s.1.2.2.1 r h)) (.nil))
  (F := fun k s => FX128 k s.1.1 s.1.2.1) (fun k s r h => (e128 (GX128l0 k) s).trans (b128 k s.1.1 s.1.2.1 r h)) k
theorem b131 (k : Nat) (x0 : Int) : LeO (FX131 k x0) (B131 (FX135 k) x0) := by
 show LeO (All.bits_LeadingZeros64.f x0) _
 unfold All.bits_LeadingZeros64.f; unfold B131; (try simp only [FX135, All.integer_zero.f, All.exact_stepAt.f, All.S24.f0, All.S24.f1, All.rd_T24, All.z24]); exact BR
theorem ok131 (k : Nat) : FeOk Go.Proofs.Try.prog (fe131 (FX131 k)) :=
 fe_ok EOK HM (es := fun k => fes131 (FX135 k)) (fun k => List.forall_mem_cons.2 ⟨ok135 k, List.forall_mem_nil _⟩) (N := 6) (an := an131) (c := cd131) (f := 131) (fn := Go.Proofs.Try.f131) (rms := rm131) (ask := ask131) (rsk := rsk131) (enc := enc131) (dec := dec131) (tbl := []) (fun s => rfl) Go.Proofs.Try.func131 (by kernel_rfl) (by kernel_rfl) (by kernel_rfl) (fun k => les131)
  (List.forall_mem_nil _) (fun k s0 => .nil)
  (F := fun k s => FX131 k s.1.1) (fun k s r h => (e131 (FX135 k) s).trans (b131 k s.1.1 r h)) k
@[reducible] noncomputable def GX129l0 (k : Nat) (x2 : Int) (x8 : Int) (x9 : Int) (x10 : Int) (x11 : Int) (x13 : Int) (x14 : Int) (x15 : Int) (x16 : Int) : Option R129 := All.bits_Div64.l0 k x2 x8 x9 x10 x11 x13 x14 x15 x16
@[reducible] noncomputable def GX129l1 (k : Nat) (x2 : Int) (x8 : Int) (x9 : Int) (x10 : Int) (x14 : Int) (x15 : Int) (x16 : Int) (x17 : Int) (x18 : Int) : Option R129 := All.bits_Div64.l1 k x2 x8 x9 x10 x14 x15 x16 x17 x18
theorem b129l0 (k : Nat) (x2 : Int) (x8 : Int) (x9 : Int) (x10 : Int) (x11 : Int) (x13 : Int) (x14 : Int) (x15 : Int) (x16 : Int) : LeO (All.bits_Div64.l0 (k + 1) x2 x8 x9 x10 x11 x13 x14 x15 x16) (B129l0 (GX129l0 k) (GX129l1 k) x2 x8 x9 x10 x11 x13 x14 x15 x16) := by
 rw [All.bits_Div64.l0]
 unfold B129l0
 (try simp only [GX129l0, GX129l1, FX131, All.integer_zero.f, All.exact_stepAt.f, All.S24.f0, All.S24.f1, All.rd_T24, All.z24])
 (try simp only [List.take_append_drop, List.drop_length, List.append_nil, Int.zero_sub, Int.toNat_natCast, Int.reduceToNat, Int.zero_add, List.take_zero, List.nil_append, List.append_assoc, List.length_set, ite_bind_, List.take_left, BAe, bne, decide_int_eq, decide_not, wrap_mod, if_true, if_false, Bool.false_eq_true, bind_assoc_, slice_def, List.drop_zero, List.take_length, wrap_u8, bind_some_, cnd_eq_if, rdOf, ite_not, Bool.and_eq_true, Bool.or_eq_true, Bool.not_eq_true', bfalse, Bool.not_eq_false', beq_iff_eq, decide_eq_true_eq, isEmpty_eq, ite_and_, ite_or_, ne_eq, toList_mk, List.toList_toArray])
 repeat' first
 | (with_reducible refine LeO.trans ((All.bits_Div64.mono_l k).2.2.2.2 _ _ _ _ _ _ _ _ _ _) ?_; rw [All.bits_Div64.j1]; (try simp only [if_true, if_false, decide_eq_true_eq, Bool.false_eq_true, decide_not, ite_not, bne, decide_int_eq, beq_iff_eq, Bool.not_eq_true', bfalse, toList_mk, List.toList_toArray, ite_and_, ite_or_, Bool.and_eq_true, Bool.or_eq_true, isEmpty_eq, wrap_mod, wrap_u8, All.integer_zero.f, bind_some_, Int.toNat_natCast, Int.reduceToNat, Int.zero_sub, BAe]))
 | (with_reducible refine LeO.trans ((All.bits_Div64.mono_l k).1 _ _ _ _ _ _ _ _) ?_; rw [All.bits_Div64.j2]; (try simp only [if_true, if_false, decide_eq_true_eq, Bool.false_eq_true, decide_not, ite_not, bne, decide_int_eq, beq_iff_eq, Bool.not_eq_true', bfalse, toList_mk, List.toList_toArray, ite_and_, ite_or_, Bool.and_eq_true, Bool.or_eq_true, isEmpty_eq, wrap_mod, wrap_u8, All.integer_zero.f, bind_some_, Int.toNat_natCast, Int.reduceToNat, Int.zero_sub, BAe]))
 | (with_reducible refine LeO.trans ((All.bits_Div64.mono_l k).2.2.1 _ _ _ _ _ _ _ _ _ _) ?_; rw [All.bits_Div64.j4]; (try simp only [if_true, if_false, decide_eq_true_eq, Bool.false_eq_true, decide_not, ite_not, bne, decide_int_eq, beq_iff_eq, Bool.not_eq_true', bfalse, toList_mk, List.toList_toArray, ite_and_, ite_or_, Bool.and_eq_true, Bool.or_eq_true, isEmpty_eq, wrap_mod, wrap_u8, All.integer_zero.f, bind_some_, Int.toNat_natCast, Int.reduceToNat, Int.zero_sub, BAe]))
 | (with_reducible exact LeO.none _)
 | (with_reducible exact LeO.refl _)
 | (with_reducible refine LeO.posR (by with_reducible assumption) ?_)
 | (with_reducible refine LeO.negR (by with_reducible assumption) ?_)
 | (with_reducible refine LeO.bindR (by with_reducible assumption) ?_)
 | (with_reducible refine LeO.posL (by with_reducible assumption) ?_)
 | (with_reducible refine LeO.negL (by with_reducible assumption) ?_)
 | (with_reducible refine LeO.iteL (fun _ => ?_) (fun _ => ?_))
 | (with_reducible refine LeO.bindK (by with_reducible assumption) ?_)
 | (with_reducible refine LeO.bindL (fun _ _ => ?_))
 | (refine LeO.posR (by first | decide | exact Int.le_refl _ | omega | assumption) ?_)
 | (refine LeO.negR (by first | decide | omega) ?_)
theorem b129l1 (k : Nat) (x2 : Int) (x8 : Int) (x9 : Int) (x10 : Int) (x14 : Int) (x15 : Int) (x16 : Int) (x17 : Int) (x18 : Int) : LeO (All.bits_Div64.l1 (k + 1) x2 x8 x9 x10 x14 x15 x16 x17 x18) (B129l1 (GX129l1 k) x2 x8 x9 x10 x14 x15 x16 x17 x18) := by
 rw [All.bits_Div64.l1]
 unfold B129l1
 (try simp only [GX129l0, GX129l1, FX131, All.integer_zero.f, All.exact_stepAt.f, All.S24.f0, All.S24.f1, All.rd_T24, All.z24])
 (try simp only [List.take_append_drop, List.drop_length, List.append_nil, Int.zero_sub, Int.toNat_natCast, Int.reduceToNat, Int.zero_add, List.take_zero, List.nil_append, List.append_assoc, List.length_set, ite_bind_, List.take_left, BAe, bne, decide_int_eq, decide_not, wrap_mod, if_true, if_false, Bool.false_eq_true, bind_assoc_, slice_def, List.drop_zero, List.take_length, wrap_u8, bind_some_, cnd_eq_if, rdOf, ite_not, Bool.and_eq_true, Bool.or_eq_true, Bool.not_eq_true', bfalse, Bool.not_eq_false', beq_iff_eq, decide_eq_true_eq, isEmpty_eq, ite_and_, ite_or_, ne_eq, toList_mk, List.toList_toArray])
 repeat' first
 | (with_reducible refine LeO.trans ((All.bits_Div64.mono_l k).2.2.2.2 _ _ _ _ _ _ _ _ _ _) ?_; rw [All.bits_Div64.j1]; (try simp only [if_true, if_false, decide_eq_true_eq, Bool.false_eq_true, decide_not, ite_not, bne, decide_int_eq, beq_iff_eq, Bool.not_eq_true', bfalse, toList_mk, List.toList_toArray, ite_and_, ite_or_, Bool.and_eq_true, Bool.or_eq_true, isEmpty_eq, wrap_mod, wrap_u8, All.integer_zero.f, bind_some_, Int.toNat_natCast, Int.reduceToNat, Int.zero_sub, BAe]))
 | (with_reducible refine LeO.trans ((All.bits_Div64.mono_l k).1 _ _ _ _ _ _ _ _) ?_; rw [All.bits_Div64.j2]; (try simp only [if_true, if_false, decide_eq_true_eq, Bool.false_eq_true, decide_not, ite_not, bne, decide_int_eq, beq_iff_eq, Bool.not_eq_true', bfalse, toList_mk, List.toList_toArray, ite_and_, ite_or_, Bool.and_eq_true, Bool.or_eq_true, isEmpty_eq, wrap_mod, wrap_u8, All.integer_zero.f, bind_some_, Int.toNat_natCast, Int.reduceToNat, Int.zero_sub, BAe]))
 | (with_reducible refine LeO.trans ((All.bits_Div64.mono_l k).2.2.1 _ _ _ _ _ _ _ _ _ _) ?_; rw [All.bits_Div64.j4]; (try simp only [if_true, if_false, decide_eq_true_eq, Bool.false_eq_true, decide_not, ite_not, bne, decide_int_eq, beq_iff_eq, Bool.not_eq_true', bfalse, toList_mk, List.toList_toArray, ite_and_, ite_or_, Bool.and_eq_true, Bool.or_eq_true, isEmpty_eq, wrap_mod, wrap_u8, All.integer_zero.f, bind_some_, Int.toNat_natCast, Int.reduceToNat, Int.zero_sub, BAe]))
 | (with_reducible exact LeO.none _)
 | (with_reducible exact LeO.refl _)
 | (with_reducible refine LeO.posR (by with_reducible assumption) ?_)
 | (with_reducible refine LeO.negR (by with_reducible assumption) ?_)
 | (with_reducible refine LeO.bindR (by with_reducible assumption) ?_)
 | (with_reducible refine LeO.posL (by with_reducible assumption) ?_)
 | (with_reducible refine LeO.negL (by with_reducible assumption) ?_)
 | (with_reducible refine LeO.iteL (fun _ => ?_) (fun _ => ?_))
 | (with_reducible refine LeO.bindK (by with_reducible assumption) ?_)
 | (with_reducible refine LeO.bindL (fun _ _ => ?_))
 | (refine LeO.posR (by first | decide | exact Int.le_refl _ | omega | assumption) ?_)
 | (refine LeO.negR (by first | decide | omega) ?_)
theorem b129 (k : Nat) (x0 : Int) (x1 : Int) (x2 : Int) : LeO (FX129 k x0 x1 x2) (B129 (GX129l0 k) (FX131 k) x0 x1 x2) := by
 show LeO (All.bits_Div64.f k x0 x1 x2) _
 unfold All.bits_Div64.f
 unfold B129
 (try simp only [GX129l0, GX129l1, FX131, All.integer_zero.f, All.exact_stepAt.f, All.S24.f0, All.S24.f1, All.rd_T24, All.z24])
 (try simp only [List.take_append_drop, List.drop_length, List.append_nil, Int.zero_sub, Int.toNat_natCast, Int.reduceToNat, Int.zero_add, List.take_zero, List.nil_append, List.append_assoc, List.length_set, ite_bind_, List.take_left, BAe, bne, decide_int_eq, decide_not, wrap_mod, if_true, if_false, Bool.false_eq_true, bind_assoc_, slice_def, List.drop_zero, List.take_length, wrap_u8, bind_some_, cnd_eq_if, rdOf, ite_not, Bool.and_eq_true, Bool.or_eq_true, Bool.not_eq_true', bfalse, Bool.not_eq_false', beq_iff_eq, decide_eq_true_eq, isEmpty_eq, ite_and_, ite_or_, ne_eq, toList_mk, List.toList_toArray])
 repeat' first
 | (with_reducible refine LeO.trans ((All.bits_Div64.mono_l k).2.2.2.2 _ _ _ _ _ _ _ _ _ _) ?_; rw [All.bits_Div64.j1]; (try simp only [if_true, if_false, decide_eq_true_eq, Bool.false_eq_true, decide_not, ite_not, bne, decide_int_eq, beq_iff_eq, Bool.not_eq_true', bfalse, toList_mk, List.toList_toArray, ite_and_, ite_or_, Bool.and_eq_true, Bool.or_eq_true, isEmpty_eq, wrap_mod, wrap_u8, All.integer_zero.f, bind_some_, Int.toNat_natCast, Int.reduceToNat, Int.zero_sub, BAe]))
 | (with_reducible refine LeO.trans ((All.bits_Div64.mono_l k).1 _ _ _ _ _ _ _ _) ?_; rw [All.bits_Div64.j2]; (try simp only [if_true, if_false, decide_eq_true_eq, Bool.false_eq_true, decide_not, ite_not, bne, decide_int_eq, beq_iff_eq, Bool.not_eq_true', bfalse, toList_mk, List.toList_toArray, ite_and_, ite_or_, Bool.and_eq_true, Bool.or_eq_true, isEmpty_eq, wrap_mod, wrap_u8, All.integer_zero.f, bind_some_, Int.toNat_natCast, Int.reduceToNat, Int.zero_sub, BAe]))
 | (with_reducible refine LeO.trans ((All.bits_Div64.mono_l k).2.2.1 _ _ _ _ _ _ _ _ _ _) ?_; rw [All.bits_Div64.j4]; (try simp only [if_true, if_false, decide_eq_true_eq, Bool.false_eq_true, decide_not, ite_not, bne, decide_int_eq, beq_iff_eq, Bool.not_eq_true', bfalse, toList_mk, List.toList_toArray, ite_and_, ite_or_, Bool.and_eq_true, Bool.or_eq_true, isEmpty_eq, wrap_mod, wrap_u8, All.integer_zero.f, bind_some_, Int.toNat_natCast, Int.reduceToNat, Int.zero_sub, BAe]))
 | (with_reducible exact LeO.none _)
 | (with_reducible exact LeO.refl _)
 | (with_reducible refine LeO.posR (by with_reducible assumption) ?_)
 | (with_reducible refine LeO.negR (by with_reducible assumption) ?_)
 | (with_reducible refine LeO.bindR (by with_reducible assumption) ?_)
 | (with_reducible refine LeO.posL (by with_reducible assumption) ?_)
 | (with_reducible refine LeO.negL (by with_reducible assumption) ?_)
 | (with_reducible refine LeO.iteL (fun _ => ?_) (fun _ => ?_))
 | (with_reducible refine LeO.bindK (by with_reducible assumption) ?_)
 | (with_reducible refine LeO.bindL (fun _ _ => ?_))
 | (refine LeO.posR (by first | decide | exact Int.le_refl _ | omega | assumption) ?_)
 | (refine LeO.negR (by first | decide | omega) ?_)
theorem ok129 (k : Nat) : FeOk Go.Proofs.Try.prog (fe129 (FX129 k)) :=
 fe_ok EOK HM (es := fun k => fes129 (FX131 k)) (fun k => List.forall_mem_cons.2 ⟨ok131 k, List.forall_mem_nil _⟩) (N := 135) (an := an129) (c := cd129) (f := 129) (fn := Go.Proofs.Try.f129) (rms := rm129) (ask := ask129) (rsk := rsk129) (enc := enc129) (dec := dec129) (tbl := [p129.getD 0 ⟨0, [], .skip⟩, p129.getD 1 ⟨0, [], .skip⟩]) (fun s => rfl) Go.Proofs.Try.func129 (by kernel_rfl) (by kernel_rfl) (by kernel_rfl) (fun k => les129 (GX129l0 k) (GX129l1 k))
  (List.forall_mem_cons.2 ⟨fun s => rfl, List.forall_mem_cons.2 ⟨fun s => rfl, List.forall_mem_nil _⟩⟩) (fun k s0 => .cons (by kernel_rfl) (by kernel_rfl) (fun s r h => (e129l0 (GX129l0 k) (GX129l1 k) (FX131 k) s0 s).trans (b129l0 k s.1.1 s.1.2.1 s.1.2.2.1 s.1.2.2.2.1 s.1.2.2.2.2.1 s.1.2.2.2.2.2.1 s.1.2.2.2.2.2.2.1 s.1.2.2.2.2.2.2.2.1 s.1.2.2.2.2.2.2.2.2.1 r h)) (.cons (by kernel_rfl) (by kernel_rfl) (fun s r h => (e129l1 (GX129l0 k) (GX129l1 k) (FX131 k) s0 s).trans (b129l1 k s.1.1 s.1.2.1 s.1.2.2.1 s.1.2.2.2.1 s.1.2.2.2.2.1 s.1.2.2.2.2.2.1 s.1.2.2.2.2.2.2.1 s.1.2.2.2.2.2.2.2.1 s.1.2.2.2.2.2.2.2.2.1 r h)) (.nil)))
  (F := fun k s => FX129 k s.1.1 s.1.2.1 s.1.2.2.1) (fun k s r h => (e129 (GX129l0 k) (GX129l1 k) (FX131 k) s).trans (b129 k s.1.1 s.1.2.1 s.1.2.2.1 r h)) k
theorem ok130 (k : Nat) : FeOk Go.Proofs.Try.prog (fe130 (FX130 k)) :=
 fe_ok EOK HM (es := fun k => fes130) (fun k => List.forall_mem_nil _) (N := 21) (an := an130) (c := cd130) (f := 130) (fn := Go.Proofs.Try.f130) (rms := rm130) (ask := ask130) (rsk := rsk130) (enc := enc130) (dec := dec130) (tbl := [p130.getD 0 ⟨0, [], .skip⟩]) (fun s => rfl) Go.Proofs.Try.func130 (by kernel_rfl) (by kernel_rfl) (by kernel_rfl) (fun k => les130 (GX130l0 k))
  (List.forall_mem_cons.2 ⟨fun s => rfl, List.forall_mem_nil _⟩) (fun k s0 => .cons (by kernel_rfl) (by kernel_rfl) (fun s r h => (e130l0 (GX130l0 k) s0 s).trans (b130l0 k s.1.1 s.2.1 r h)) (.nil))
  (F := fun k s => FX130 k s.2.1) (fun k s r h => (e130 (GX130l0 k) s).trans (b130 k s.2.1 r h)) k
@[reducible] noncomputable def GX132l0 (k : Nat) (x1 : Int) (x12 : (List Int)) (x13 : Int) (x14 : Int) (x5 : (List Int)) : Option R132 := All.exact_shiftUp.l0 k x1 x5 x12 x13 x14
theorem b132l0 (k : Nat) (x1 : Int) (x12 : (List Int)) (x13 : Int) (x14 : Int) (x5 : (List Int)) : LeO (All.exact_shiftUp.l0 (k + 1) x1 x5 x12 x13 x14) (B132l0 (GX132l0 k) x1 x12 x13 x14 x5) := by rw [All.exact_shiftUp.l0]; unfold B132l0; (try simp only [GX132l0, All.integer_zero.f, All.exact_stepAt.f, All.S24.f0, All.S24.f1, All.rd_T24, All.z24]); exact BR
theorem b132 (k : Nat) (x0 : (List Int)) (x1 : Int) : LeO (FX132 k x0 x1) (B132 (GX132l0 k) x0 x1) := by
 show LeO (All.exact_shiftUp.f k x0 x1) _
 unfold All.exact_shiftUp.f; unfold B132; (try simp only [GX132l0, All.integer_zero.f, All.exact_stepAt.f, All.S24.f0, All.S24.f1, All.rd_T24, All.z24]); exact BR
theorem ok132 (k : Nat) : FeOk Go.Proofs.Try.prog (fe132 (FX132 k)) :=
 fe_ok EOK HM (es := fun k => fes132) (fun k => List.forall_mem_nil _) (N := 40) (an := an132) (c := cd132) (f := 132) (fn := Go.Proofs.Try.f132) (rms := rm132) (ask := ask132) (rsk := rsk132) (enc := enc132) (dec := dec132) (tbl := [p132.getD 0 ⟨0, [], .skip⟩]) (fun s => rfl) Go.Proofs.Try.func132 (by kernel_rfl) (by kernel_rfl) (by kernel_rfl) (fun k => les132 (GX132l0 k))
  (List.forall_mem_cons.2 ⟨fun s => rfl, List.forall_mem_nil _⟩) (fun k s0 => .cons (by kernel_rfl) (by kernel_rfl) (fun s r h => (e132l0 (GX132l0 k) s0 s).trans (b132l0 k s.1.1 s.1.2.1 s.1.2.2.1 s.1.2.2.2.1 s.2.1 r h)) (.nil))
  (F := fun k s => FX132 k s.1.1 s.1.2.1) (fun k s r h => (e132 (GX132l0 k) s).trans (b132 k s.1.1 s.1.2.1 r h)) k
theorem b134 (k : Nat) (x0 : Int) (x1 : Int) : LeO (FX134 k x0 x1) (B134 x0 x1) := by
 show LeO (All.bits_Mul64.f x0 x1) _
 unfold All.bits_Mul64.f; unfold B134; (try simp only [All.integer_zero.f, All.exact_stepAt.f, All.S24.f0, All.S24.f1, All.rd_T24, All.z24]); exact BR
theorem ok134 (k : Nat) : FeOk Go.Proofs.Try.prog (fe134 (FX134 k)) :=
 fe_ok EOK HM (es := fun k => fes134) (fun k => List.forall_mem_nil _) (N := 51) (an := an134) (c := cd134) (f := 134) (fn := Go.Proofs.Try.f134) (rms := rm134) (ask := ask134) (rsk := rsk134) (enc := enc134) (dec := dec134) (tbl := []) (fun s => rfl) Go.Proofs.Try.func134 (by kernel_rfl) (by kernel_rfl) (by kernel_rfl) (fun k => les134)
  (List.forall_mem_nil _) (fun k s0 => .nil)
  (F := fun k s => FX134 k s.1.1 s.1.2.1) (fun k s r h => (e134 s).trans (b134 k s.1.1 s.1.2.1 r h)) k
@[reducible] noncomputable def GX133l0 (k : Nat) (x1 : (List Int)) (x5 : Int) (x6 : Int) (x7 : Int) (x8 : Int) (y0 : (List Int)) : Option R133 := All.exact_step.l0 k y0 x1 x5 x6 x7 x8
@[reducible] noncomputable def GX133l1 (k : Nat) (x1 : (List Int)) (x5 : Int) (x6 : Int) (x11 : Int) (x12 : Int) (x104 : Int) (x105 : Int) (y0 : (List Int)) : Option R133 := All.exact_step.l1 k y0 x1 x5 x6 x11 x12 x104 x105
@[reducible] noncomputable def GX133l2 (k : Nat) (x1 : (List Int)) (x5 : Int) (x6 : Int) (x17 : Int) (x156 : Int) (x157 : Int) (y0 : (List Int)) : Option R133 := All.exact_step.l2 k y0 x1 x5 x6 x17 x156 x157
theorem b133l0 (k : Nat) (x1 : (List Int)) (x5 : Int) (x6 : Int) (x7 : Int) (x8 : Int) (y0 : (List Int)) : LeO (All.exact_step.l0 (k + 1) y0 x1 x5 x6 x7 x8) (B133l0 (GX133l0 k) (GX133l1 k) (FX121 k) (FX134 k) x1 x5 x6 x7 x8 y0) := by
 rw [All.exact_step.l0]
 unfold B133l0
 (try simp only [GX133l0, GX133l1, GX133l2, FX121, FX122, FX129, FX134, All.integer_zero.f, All.exact_stepAt.f, All.S24.f0, All.S24.f1, All.rd_T24, All.z24])
 (try simp only [List.take_append_drop, List.drop_length, List.append_nil, Int.zero_sub, Int.toNat_natCast, Int.reduceToNat, Int.zero_add, List.take_zero, List.nil_append, List.append_assoc, List.length_set, ite_bind_, List.take_left, BAe, bne, decide_int_eq, decide_not, wrap_mod, if_true, if_false, Bool.false_eq_true, bind_assoc_, slice_def, List.drop_zero, List.take_length, wrap_u8, bind_some_, cnd_eq_if, rdOf, ite_not, Bool.and_eq_true, Bool.or_eq_true, Bool.not_eq_true', bfalse, Bool.not_eq_false', beq_iff_eq, decide_eq_true_eq, isEmpty_eq, ite_and_, ite_or_, ne_eq, toList_mk, List.toList_toArray])
 repeat' first
 | (with_reducible refine LeO.trans ((All.exact_step.mono_l k).1 _ _ _ _ _ _) ?_; rw [All.exact_step.j0]; (try simp only [if_true, if_false, decide_eq_true_eq, Bool.false_eq_true, decide_not, ite_not, bne, decide_int_eq, beq_iff_eq, Bool.not_eq_true', bfalse, toList_mk, List.toList_toArray, ite_and_, ite_or_, Bool.and_eq_true, Bool.or_eq_true, isEmpty_eq, wrap_mod, wrap_u8, All.integer_zero.f, bind_some_, Int.toNat_natCast, Int.reduceToNat, Int.zero_sub, BAe]))
 | (with_reducible refine LeO.trans ((All.exact_step.mono_l k).2.1 _ _ _ _) ?_; rw [All.exact_step.j2]; (try simp only [if_true, if_false, decide_eq_true_eq, Bool.false_eq_true, decide_not, ite_not, bne, decide_int_eq, beq_iff_eq, Bool.not_eq_true', bfalse, toList_mk, List.toList_toArray, ite_and_, ite_or_, Bool.and_eq_true, Bool.or_eq_true, isEmpty_eq, wrap_mod, wrap_u8, All.integer_zero.f, bind_some_, Int.toNat_natCast, Int.reduceToNat, Int.zero_sub, BAe]))
 | (with_reducible exact LeO.none _)
 | (with_reducible exact LeO.refl _)
 | (with_reducible refine LeO.posR (by with_reducible assumption) ?_)
 | (with_reducible refine LeO.negR (by with_reducible assumption) ?_)
 | (with_reducible refine LeO.bindR (by with_reducible assumption) ?_)
 | (with_reducible refine LeO.posL (by with_reducible assumption) ?_)
 | (with_reducible refine LeO.negL (by with_reducible assumption) ?_)
 | (with_reducible refine LeO.iteL (fun _ => ?_) (fun _ => ?_))
 | (with_reducible refine LeO.bindK (by with_reducible assumption) ?_)
 | (with_reducible refine LeO.bindL (fun _ _ => ?_))
 | (refine LeO.posR (by first | decide | exact Int.le_refl _ | omega | assumption) ?_)
 | (refine LeO.negR (by first | decide | omega) ?_)
theorem b133l1 (k : Nat) (x1 : (List Int)) (x5 : Int) (x6 : Int) (x11 : Int) (x12 : Int) (x104 : Int) (x105 : Int) (y0 : (List Int)) : LeO (All.exact_step.l1 (k + 1) y0 x1 x5 x6 x11 x12 x104 x105) (B133l1 (GX133l1 k) (GX133l2 k) (FX121 k) (FX122 k) (FX134 k) x1 x5 x6 x11 x12 x104 x105 y0) := by
 rw [All.exact_step.l1]
 unfold B133l1
 (try simp only [GX133l0, GX133l1, GX133l2, FX121, FX122, FX129, FX134, All.integer_zero.f, All.exact_stepAt.f, All.S24.f0, All.S24.f1, All.rd_T24, All.z24])
 (try simp only [List.take_append_drop, List.drop_length, List.append_nil, Int.zero_sub, Int.toNat_natCast, Int.reduceToNat, Int.zero_add, List.take_zero, List.nil_append, List.append_assoc, List.length_set, ite_bind_, List.take_left, BAe, bne, decide_int_eq, decide_not, wrap_mod, if_true, if_false, Bool.false_eq_true, bind_assoc_, slice_def, List.drop_zero, List.take_length, wrap_u8, bind_some_, cnd_eq_if, rdOf, ite_not, Bool.and_eq_true, Bool.or_eq_true, Bool.not_eq_true', bfalse, Bool.not_eq_false', beq_iff_eq, decide_eq_true_eq, isEmpty_eq, ite_and_, ite_or_, ne_eq, toList_mk, List.toList_toArray])
 repeat' first
 | (with_reducible refine LeO.trans ((All.exact_step.mono_l k).1 _ _ _ _ _ _) ?_; rw [All.exact_step.j0]; (try simp only [if_true, if_false, decide_eq_true_eq, Bool.false_eq_true, decide_not, ite_not, bne, decide_int_eq, beq_iff_eq, Bool.not_eq_true', bfalse, toList_mk, List.toList_toArray, ite_and_, ite_or_, Bool.and_eq_true, Bool.or_eq_true, isEmpty_eq, wrap_mod, wrap_u8, All.integer_zero.f, bind_some_, Int.toNat_natCast, Int.reduceToNat, Int.zero_sub, BAe]))
 | (with_reducible refine LeO.trans ((All.exact_step.mono_l k).2.1 _ _ _ _) ?_; rw [All.exact_step.j2]; (try simp only [if_true, if_false, decide_eq_true_eq, Bool.false_eq_true, decide_not, ite_not, bne, decide_int_eq, beq_iff_eq, Bool.not_eq_true', bfalse, toList_mk, List.toList_toArray, ite_and_, ite_or_, Bool.and_eq_true, Bool.or_eq_true, isEmpty_eq, wrap_mod, wrap_u8, All.integer_zero.f, bind_some_, Int.toNat_natCast, Int.reduceToNat, Int.zero_sub, BAe]))
 | (with_reducible exact LeO.none _)
 | (with_reducible exact LeO.refl _)
 | (with_reducible refine LeO.posR (by with_reducible assumption) ?_)
 | (with_reducible refine LeO.negR (by with_reducible assumption) ?_)
 | (with_reducible refine LeO.bindR (by with_reducible assumption) ?_)
 | (with_reducible refine LeO.posL (by with_reducible assumption) ?_)
 | (with_reducible refine LeO.negL (by with_reducible assumption) ?_)
 | (with_reducible refine LeO.iteL (fun _ => ?_) (fun _ => ?_))
 | (with_reducible refine LeO.bindK (by with_reducible assumption) ?_)
 | (with_reducible refine LeO.bindL (fun _ _ => ?_))
 | (refine LeO.posR (by first | decide | exact Int.le_refl _ | omega | assumption) ?_)
 | (refine LeO.negR (by first | decide | omega) ?_)
theorem b133l2 (k : Nat) (x1 : (List Int)) (x5 : Int) (x6 : Int) (x17 : Int) (x156 : Int) (x157 : Int) (y0 : (List Int)) : LeO (All.exact_step.l2 (k + 1) y0 x1 x5 x6 x17 x156 x157) (B133l2 (GX133l2 k) (FX121 k) x1 x5 x6 x17 x156 x157 y0) := by
 rw [All.exact_step.l2]
 unfold B133l2
 (try simp only [GX133l0, GX133l1, GX133l2, FX121, FX122, FX129, FX134, All.integer_zero.f, All.exact_stepAt.f, All.S24.f0, All.S24.f1, All.rd_T24, All.z24])
 (try simp only [List.take_append_drop, List.drop_length, List.append_nil, Int.zero_sub, Int.toNat_natCast, Int.reduceToNat, Int.zero_add, List.take_zero, List.nil_append, List.append_assoc, List.length_set, ite_bind_, List.take_left, BAe, bne, decide_int_eq, decide_not, wrap_mod, if_true, if_false, Bool.false_eq_true, bind_assoc_, slice_def, List.drop_zero, List.take_length, wrap_u8, bind_some_, cnd_eq_if, rdOf, ite_not, Bool.and_eq_true, Bool.or_eq_true, Bool.not_eq_true', bfalse, Bool.not_eq_false', beq_iff_eq, decide_eq_true_eq, isEmpty_eq, ite_and_, ite_or_, ne_eq, toList_mk, List.toList_toArray])
 repeat' first
 | (with_reducible refine LeO.trans ((All.exact_step.mono_l k).1 _ _ _ _ _ _) ?_; rw [All.exact_step.j0]; (try simp only [if_true, if_false, decide_eq_true_eq, Bool.false_eq_true, decide_not, ite_not, bne, decide_int_eq, beq_iff_eq, Bool.not_eq_true', bfalse, toList_mk, List.toList_toArray, ite_and_, ite_or_, Bool.and_eq_true, Bool.or_eq_true, isEmpty_eq, wrap_mod, wrap_u8, All.integer_zero.f, bind_some_, Int.toNat_natCast, Int.reduceToNat, Int.zero_sub, BAe]))
 | (with_reducible refine LeO.trans ((All.exact_step.mono_l k).2.1 _ _ _ _) ?_; rw [All.exact_step.j2]; (try simp only [if_true, if_false, decide_eq_true_eq, Bool.false_eq_true, decide_not, ite_not, bne, decide_int_eq, beq_iff_eq, Bool.not_eq_true', bfalse, toList_mk, List.toList_toArray, ite_and_, ite_or_, Bool.and_eq_true, Bool.or_eq_true, isEmpty_eq, wrap_mod, wrap_u8, All.integer_zero.f, bind_some_, Int.toNat_natCast, Int.reduceToNat, Int.zero_sub, BAe]))
 | (with_reducible exact LeO.none _)
 | (with_reducible exact LeO.refl _)
 | (with_reducible refine LeO.posR (by with_reducible assumption) ?_)
 | (with_reducible refine LeO.negR (by with_reducible assumption) ?_)
 | (with_reducible refine LeO.bindR (by with_reducible assumption) ?_)
 | (with_reducible refine LeO.posL (by with_reducible assumption) ?_)
 | (with_reducible refine LeO.negL (by with_reducible assumption) ?_)
 | (with_reducible refine LeO.iteL (fun _ => ?_) (fun _ => ?_))
 | (with_reducible refine LeO.bindK (by with_reducible assumption) ?_)
 | (with_reducible refine LeO.bindL (fun _ _ => ?_))
 | (refine LeO.posR (by first | decide | exact Int.le_refl _ | omega | assumption) ?_)
 | (refine LeO.negR (by first | decide | omega) ?_)
theorem b133 (k : Nat) (x1 : (List Int)) (y0 : (List Int)) : LeO (FX133 k x1 y0) (B133 (GX133l0 k) (FX121 k) (FX129 k) x1 y0) := by
 show LeO (All.exact_step.f k y0 x1) _
 unfold All.exact_step.f
 unfold B133
 (try simp only [GX133l0, GX133l1, GX133l2, FX121, FX122, FX129, FX134, All.integer_zero.f, All.exact_stepAt.f, All.S24.f0, All.S24.f1, All.rd_T24, All.z24])
 (try simp only [List.take_append_drop, List.drop_length, List.append_nil, Int.zero_sub, Int.toNat_natCast, Int.reduceToNat, Int.zero_add, List.take_zero, List.nil_append, List.append_assoc, List.length_set, ite_bind_, List.take_left, BAe, bne, decide_int_eq, decide_not, wrap_mod, if_true, if_false, Bool.false_eq_true, bind_assoc_, slice_def, List.drop_zero, List.take_length, wrap_u8, bind_some_, cnd_eq_if, rdOf, ite_not, Bool.and_eq_true, Bool.or_eq_true, Bool.not_eq_true', bfalse, Bool.not_eq_false', beq_iff_eq, decide_eq_true_eq, isEmpty_eq, ite_and_, ite_or_, ne_eq, toList_mk, List.toList_toArray])
 repeat' first
 | (with_reducible refine LeO.trans ((All.exact_step.mono_l k).1 _ _ _ _ _ _) ?_; rw [All.exact_step.j0]; (try simp only [if_true, if_false, decide_eq_true_eq, Bool.false_eq_true, decide_not, ite_not, bne, decide_int_eq, beq_iff_eq, Bool.not_eq_true', bfalse, toList_mk, List.toList_toArray, ite_and_, ite_or_, Bool.and_eq_true, Bool.or_eq_true, isEmpty_eq, wrap_mod, wrap_u8, All.integer_zero.f, bind_some_, Int.toNat_natCast, Int.reduceToNat, Int.zero_sub, BAe]))
 | (with_reducible refine LeO.trans ((All.exact_step.mono_l k).2.1 _ _ _ _) ?_; rw [All.exact_step.j2]; (try simp only [if_true, if_false, decide_eq_true_eq, Bool.false_eq_true, decide_not, ite_not, bne, decide_int_eq, beq_iff_eq, Bool.not_eq_true', bfalse, toList_mk, List.toList_toArray, ite_and_, ite_or_, Bool.and_eq_true, Bool.or_eq_true, isEmpty_eq, wrap_mod, wrap_u8, All.integer_zero.f, bind_some_, Int.toNat_natCast, Int.reduceToNat, Int.zero_sub, BAe]))
 | (with_reducible exact LeO.none _)
 | (with_reducible exact LeO.refl _)
 | (with_reducible refine LeO.posR (by with_reducible assumption) ?_)
 | (with_reducible refine LeO.negR (by with_reducible assumption) ?_)
 | (with_reducible refine LeO.bindR (by with_reducible assumption) ?_)
 | (with_reducible refine LeO.posL (by with_reducible assumption) ?_)
 | (with_reducible refine LeO.negL (by with_reducible assumption) ?_)
 | (with_reducible refine LeO.iteL (fun _ => ?_) (fun _ => ?_))
 | (with_reducible refine LeO.bindK (by with_reducible assumption) ?_)
 | (with_reducible refine LeO.bindL (fun _ _ => ?_))
 | (refine LeO.posR (by first | decide | exact Int.le_refl _ | omega | assumption) ?_)
 | (refine LeO.negR (by first | decide | omega) ?_)
theorem ok133 (k : Nat) : FeOk Go.Proofs.Try.prog (fe133 (FX133 k)) :=
 fe_ok EOK HM (es := fun k => fes133 (FX121 k) (FX122 k) (FX129 k) (FX134 k)) (fun k => List.forall_mem_cons.2 ⟨ok121 k, List.forall_mem_cons.2 ⟨ok122 k, List.forall_mem_cons.2 ⟨ok129 k, List.forall_mem_cons.2 ⟨ok134 k, List.forall_mem_nil _⟩⟩⟩⟩) (N := 186) (an := an133) (c := cd133) (f := 133) (fn := Go.Proofs.Try.f133) (rms := rm133) (ask := ask133) (rsk := rsk133) (enc := enc133) (dec := dec133) (tbl := [p133.getD 0 ⟨0, [], .skip⟩, p133.getD 1 ⟨0, [], .skip⟩, p133.getD 2 ⟨0, [], .skip⟩]) (fun s => rfl) Go.Proofs.Try.func133 (by kernel_rfl) (by kernel_rfl) (by kernel_rfl) (fun k => les133 (GX133l0 k) (GX133l1 k) (GX133l2 k))
  (List.forall_mem_cons.2 ⟨fun s => rfl, List.forall_mem_cons.2 ⟨fun s => rfl, List.forall_mem_cons.2 ⟨fun s => rfl, List.forall_mem_nil _⟩⟩⟩) (fun k s0 => .cons (by kernel_rfl) (by kernel_rfl) (fun s r h => (e133l0 (GX133l0 k) (GX133l1 k) (GX133l2 k) (FX121 k) (FX122 k) (FX129 k) (FX134 k) s0 s).trans (b133l0 k s.1.1 s.1.2.1 s.1.2.2.1 s.1.2.2.2.1 s.1.2.2.2.2.1 s.2.1 r h)) (.cons (by kernel_rfl) (by kernel_rfl) (fun s r h => (e133l1 (GX133l0 k) (GX133l1 k) (GX133l2 k) (FX121 k) (FX122 k) (FX129 k) (FX134 k) s0 s).trans (b133l1 k s.1.1 s.1.2.1 s.1.2.2.1 s.1.2.2.2.1 s.1.2.2.2.2.1 s.1.2.2.2.2.2.1 s.1.2.2.2.2.2.2.1 s.2.1 r h)) (.cons (by kernel_rfl) (by kernel_rfl) (fun s r h => (e133l2 (GX133l0 k) (GX133l1 k) (GX133l2 k) (FX121 k) (FX122 k) (FX129 k) (FX134 k) s0 s).trans (b133l2 k s.1.1 s.1.2.1 s.1.2.2.1 s.1.2.2.2.1 s.1.2.2.2.2.1 s.1.2.2.2.2.2.1 s.2.1 r h)) (.nil))))
  (F := fun k s => FX133 k s.1.1 s.2.1) (fun k s r h => (e133 (GX133l0 k) (GX133l1 k) (GX133l2 k) (FX121 k) (FX122 k) (FX129 k) (FX134 k) s).trans (b133 k s.1.1 s.2.1 r h)) k
@[reducible] noncomputable def GX118l0 (k : Nat) (x0 : (List Int)) (x1 : (List Int)) (x7 : Int) (x8 : Int) (x6 : (List Int)) : Option R118 := All.exact_divide.l0 k x0 x1 x6 x7 x8
@[reducible] noncomputable def GX118l1 (k : Nat) (x9 : Int) (x10 : (List Int)) (x12 : Int) (x14 : Int) (x11 : (List Int)) (x13 : (List Int)) : Option R118 := All.exact_divide.l1 k x9 x10 x11 x12 x13 x14
@[reducible] noncomputable def GX118l2 (k : Nat) (x9 : Int) (x12 : Int) (x96 : Int) (x97 : Int) (x11 : (List Int)) (x13 : (List Int)) : Option R118 := All.exact_divide.l2 k x9 x11 x12 x13 x96 x97
theorem b118l0 (k : Nat) (x0 : (List Int)) (x1 : (List Int)) (x7 : Int) (x8 : Int) (x6 : (List Int)) : LeO (All.exact_divide.l0 (k + 1) x0 x1 x6 x7 x8) (B118l0 (GX118l0 k) (FX129 k) (FX130 k) x0 x1 x7 x8 x6) := by rw [All.exact_divide.l0]; unfold B118l0; (try simp only [GX118l0, GX118l1, GX118l2, FX128, FX129, FX130, FX131, FX132, FX133, All.integer_zero.f, All.exact_stepAt.f, All.S24.f0, All.S24.f1, All.rd_T24, All.z24]); exact BR
theorem b118l1 (k : Nat) (x9 : Int) (x10 : (List Int)) (x12 : Int) (x14 : Int) (x11 : (List Int)) (x13 : (List Int)) : LeO (All.exact_divide.l1 (k + 1) x9 x10 x11 x12 x13 x14) (B118l1 (GX118l1 k) (GX118l2 k) (FX133 k) x9 x10 x12 x14 x11 x13) := by rw [All.exact_divide.l1]; unfold B118l1; (try simp only [GX118l0, GX118l1, GX118l2, FX128, FX129, FX130, FX131, FX132, FX133, All.integer_zero.f, All.exact_stepAt.f, All.S24.f0, All.S24.f1, All.rd_T24, All.z24]); exact BR
theorem b118l2 (k : Nat) (x9 : Int) (x12 : Int) (x96 : Int) (x97 : Int) (x11 : (List Int)) (x13 : (List Int)) : LeO (All.exact_divide.l2 (k + 1) x9 x11 x12 x13 x96 x97) (B118l2 (GX118l2 k) (FX130 k) x9 x12 x96 x97 x11 x13) := by rw [All.exact_divide.l2]; unfold B118l2; (try simp only [GX118l0, GX118l1, GX118l2, FX128, FX129, FX130, FX131, FX132, FX133, All.integer_zero.f, All.exact_stepAt.f, All.S24.f0, All.S24.f1, All.rd_T24, All.z24]); exact BR
theorem b118 (k : Nat) (x0 : (List Int)) (x1 : (List Int)) : LeO (FX118 k x0 x1) (B118 (GX118l0 k) (GX118l1 k) (FX128 k) (FX130 k) (FX131 k) (FX132 k) x0 x1) := by
 show LeO (All.exact_divide.f k x0 x1) _
 unfold All.exact_divide.f; unfold B118; (try simp only [GX118l0, GX118l1, GX118l2, FX128, FX129, FX130, FX131, FX132, FX133, All.integer_zero.f, All.exact_stepAt.f, All.S24.f0, All.S24.f1, All.rd_T24, All.z24]); exact BR
theorem ok118 (k : Nat) : FeOk Go.Proofs.Try.prog (fe118 (FX118 k)) :=
 fe_ok EOK HM (es := fun k => fes118 (FX128 k) (FX129 k) (FX130 k) (FX131 k) (FX132 k) (FX133 k)) (fun k => List.forall_mem_cons.2 ⟨ok128 k, List.forall_mem_cons.2 ⟨ok129 k, List.forall_mem_cons.2 ⟨ok130 k, List.forall_mem_cons.2 ⟨ok131 k, List.forall_mem_cons.2 ⟨ok132 k, List.forall_mem_cons.2 ⟨ok133 k, List.forall_mem_nil _⟩⟩⟩⟩⟩⟩) (N := 137) (an := an118) (c := cd118) (f := 118) (fn := Go.Proofs.Try.f118) (rms := rm118) (ask := ask118) (rsk := rsk118) (enc := enc118) (dec := dec118) (tbl := [p118.getD 0 ⟨0, [], .skip⟩, p118.getD 1 ⟨0, [], .skip⟩, p118.getD 2 ⟨0, [], .skip⟩]) (fun s => rfl) Go.Proofs.Try.func118 (by kernel_rfl) (by kernel_rfl) (by kernel_rfl) (fun k => les118 (GX118l0 k) (GX118l1 k) (GX118l2 k))
  (List.forall_mem_cons.2 ⟨fun s => rfl, List.forall_mem_cons.2 ⟨fun s => rfl, List.forall_mem_cons.2 ⟨fun s => rfl, List.forall_mem_nil _⟩⟩⟩) (fun k s0 => .cons (by kernel_rfl) (by kernel_rfl) (fun s r h => (e118l0 (GX118l0 k) (GX118l1 k) (GX118l2 k) (FX128 k) (FX129 k) (FX130 k) (FX131 k) (FX132 k) (FX133 k) s0 s).trans (b118l0 k s.1.1 s.1.2.1 s.1.2.2.1 s.1.2.2.2.1 s.2.1 r h)) (.cons (by kernel_rfl) (by kernel_rfl) (fun s r h => (e118l1 (GX118l0 k) (GX118l1 k) (GX118l2 k) (FX128 k) (FX129 k) (FX130 k) (FX131 k) (FX132 k) (FX133 k) s0 s).trans (b118l1 k s.1.1 s.1.2.1 s.1.2.2.1 s.1.2.2.2.1 s.2.1 s.2.2.1 r h)) (.cons (by kernel_rfl) (by kernel_rfl) (fun s r h => (e118l2 (GX118l0 k) (GX118l1 k) (GX118l2 k) (FX128 k) (FX129 k) (FX130 k) (FX131 k) (FX132 k) (FX133 k) s0 s).trans (b118l2 k s.1.1 s.1.2.1 s.1.2.2.1 s.1.2.2.2.1 s.2.1 s.2.2.1 r h)) (.nil))))
  (F := fun k s => FX118 k s.1.1 s.1.2.1) (fun k s r h => (e118 (GX118l0 k) (GX118l1 k) (GX118l2 k) (FX128 k) (FX129 k) (FX130 k) (FX131 k) (FX132 k) (FX133 k) s).trans (b118 k s.1.1 s.1.2.1 r h)) k
end Go.Proofs.YtdhdfcjpeflinaaV
set_option linter.unusedVariables false
set_option linter.unusedSimpArgs false
set_option maxRecDepth 100000
namespace Go.Proofs.YtdhdfcjpeflinaaV
open Go Go.RowKit Go.Proofs.Ytdhdfcjpeflinaa Go.Proofs.YtdhdfcjpeflinaaE Go.Proofs.YtdhdfcjpeflinaaW.PrintWords Go.Proofs.YtdhdfcjpeflinaaW.PrintLast Go.Proofs.YtdhdfcjpeflinaaW.PrintMore
@[reducible] noncomputable def GX119l0 (k : Nat) (x0 : ByteArray) (x12 : Int) (x13 : Int) (x3 : (List Int)) : Option R119 := All.exact_words.l0 k x0 x3 x12 x13
theorem b119l0 (k : Nat) (x0 : ByteArray) (x12 : Int) (x13 : Int) (x3 : (List Int)) : LeO (All.exact_words.l0 (k + 1) x0 x3 x12 x13) (B119l0 (GX119l0 k) (FX130 k) x0 x12 x13 x3) := by rw [All.exact_words.l0]; unfold B119l0; (try simp only [GX119l0, FX130, All.integer_zero.f, All.exact_stepAt.f, All.S24.f0, All.S24.f1, All.rd_T24, All.z24]); exact BR
theorem b119 (k : Nat) (x0 : ByteArray) : LeO (FX119 k x0) (B119 (GX119l0 k) x0) := by
 show LeO (All.exact_words.f k x0) _
 unfold All.exact_words.f; unfold B119; (try simp only [GX119l0, FX130, All.integer_zero.f, All.exact_stepAt.f, All.S24.f0, All.S24.f1, All.rd_T24, All.z24]); exact BR
theorem ok119 (k : Nat) : FeOk Go.Proofs.Try.prog (fe119 (FX119 k)) :=
 fe_ok EOK HM (es := fun k => fes119 (FX130 k)) (fun k => List.forall_mem_cons.2 ⟨ok130 k, List.forall_mem_nil _⟩) (N := 39) (an := an119) (c := cd119) (f := 119) (fn := Go.Proofs.Try.f119) (rms := rm119) (ask := ask119) (rsk := rsk119) (enc := enc119) (dec := dec119) (tbl := [p119.getD 0 ⟨0, [], .skip⟩]) (fun s => rfl) Go.Proofs.Try.func119 (by kernel_rfl) (by kernel_rfl) (by kernel_rfl) (fun k => les119 (GX119l0 k))
  (List.forall_mem_cons.2 ⟨fun s => rfl, List.forall_mem_nil _⟩) (fun k s0 => .cons (by kernel_rfl) (by kernel_rfl) (fun s r h => (e119l0 (GX119l0 k) (FX130 k) s0 s).trans (b119l0 k s.1.1 s.1.2.1 s.1.2.2.1 s.2.1 r h)) (.nil))
  (F := fun k s => FX119 k s.1.1) (fun k s r h => (e119 (GX119l0 k) (FX130 k) s).trans (b119 k s.1.1 r h)) k
@[reducible] noncomputable def GX130vl0 (k : Nat) (x0 : (List Int)) (x3 : Int) : Option R130v := All.exact_trim.l0 k x0 x3
theorem b130vl0 (k : Nat) (x0 : (List Int)) (x3 : Int) : LeO (All.exact_trim.l0 (k + 1) x0 x3) (B130vl0 (GX130vl0 k) x0 x3) := by rw [All.exact_trim.l0]; unfold B130vl0; (try simp only [GX130vl0, All.integer_zero.f, All.exact_stepAt.f, All.S24.f0, All.S24.f1, All.rd_T24, All.z24]); exact BR
theorem b130v (k : Nat) (x0 : (List Int)) : LeO (FX130v k x0) (B130v (GX130vl0 k) x0) := by
 show LeO (All.exact_trim.f k x0) _
 unfold All.exact_trim.f; unfold B130v; (try simp only [GX130vl0, All.integer_zero.f, All.exact_stepAt.f, All.S24.f0, All.S24.f1, All.rd_T24, All.z24]); exact BR
theorem ok130v (k : Nat) : FeOk Go.Proofs.Try.prog (fe130v (FX130v k)) :=
 fe_ok EOK HM (es := fun k => fes130v) (fun k => List.forall_mem_nil _) (N := 21) (an := an130v) (c := cd130v) (f := 130) (fn := Go.Proofs.Try.f130) (rms := rm130v) (ask := ask130v) (rsk := rsk130v) (enc := enc130v) (dec := dec130v) (tbl := [p130v.getD 0 ⟨0, [], .skip⟩]) (fun s => rfl) Go.Proofs.Try.func130 (by kernel_rfl) (by kernel_rfl) (by kernel_rfl) (fun k => les130v (GX130vl0 k))
  (List.forall_mem_cons.2 ⟨fun s => rfl, List.forall_mem_nil _⟩) (fun k s0 => .cons (by kernel_rfl) (by kernel_rfl) (fun s r h => (e130vl0 (GX130vl0 k) s0 s).trans (b130vl0 k s.1.1 s.1.2.1 r h)) (.nil))
  (F := fun k s => FX130v k s.1.1) (fun k s r h => (e130v (GX130vl0 k) s).trans (b130v k s.1.1 r h)) k
@[reducible] noncomputable def GX120l0 (k : Nat) (x17 : (List Int)) (x18 : Int) (x19 : Int) (x3 : (List Int)) : Option R120 := All.exact_pack.l0 k x3 x17 x18 x19
@[reducible] noncomputable def GX120l1 (k : Nat) (x4 : Int) (x5 : Int) (x17 : (List Int)) (x18 : Int) (x19 : Int) (x24 : Int) (x3 : (List Int)) : Option R120 := All.exact_pack.l1 k x3 x4 x5 x17 x18 x19 x24
@[reducible] noncomputable def GX120l2 (k : Nat) (x7 : Int) (x3 : (List Int)) : Option R120 := All.exact_pack.l2 k x3 x7
theorem b120l0 (k : Nat) (x17 : (List Int)) (x18 : Int) (x19 : Int) (x3 : (List Int)) : LeO (All.exact_pack.l0 (k + 1) x3 x17 x18 x19) (B120l0 (GX120l1 k) (GX120l2 k) x17 x18 x19 x3) := by rw [All.exact_pack.l0]; unfold B120l0; (try simp only [GX120l0, GX120l1, GX120l2, FX130v, All.integer_zero.f, All.exact_stepAt.f, All.S24.f0, All.S24.f1, All.rd_T24, All.z24]); exact BR
theorem b120l1 (k : Nat) (x4 : Int) (x5 : Int) (x17 : (List Int)) (x18 : Int) (x19 : Int) (x24 : Int) (x3 : (List Int)) : LeO (All.exact_pack.l1 (k + 1) x3 x4 x5 x17 x18 x19 x24) (B120l1 (GX120l0 k) (GX120l1 k) x4 x5 x17 x18 x19 x24 x3) := by rw [All.exact_pack.l1]; unfold B120l1; (try simp only [GX120l0, GX120l1, GX120l2, FX130v, All.integer_zero.f, All.exact_stepAt.f, All.S24.f0, All.S24.f1, All.rd_T24, All.z24]); exact BR
theorem b120l2 (k : Nat) (x7 : Int) (x3 : (List Int)) : LeO (All.exact_pack.l2 (k + 1) x3 x7) (B120l2 (GX120l2 k) x7 x3) := by rw [All.exact_pack.l2]; unfold B120l2; (try simp only [GX120l0, GX120l1, GX120l2, FX130v, All.integer_zero.f, All.exact_stepAt.f, All.S24.f0, All.S24.f1, All.rd_T24, All.z24]); exact BR
theorem b120 (k : Nat) (x0 : (List Int)) : LeO (FX120 k x0) (B120 (GX120l0 k) (FX130v k) x0) := by
 show LeO (All.exact_pack.f k x0) _
 unfold All.exact_pack.f; unfold B120; (try simp only [GX120l0, GX120l1, GX120l2, FX130v, All.integer_zero.f, All.exact_stepAt.f, All.S24.f0, All.S24.f1, All.rd_T24, All.z24]); exact BR
theorem ok120 (k : Nat) : FeOk Go.Proofs.Try.prog (fe120 (FX120 k)) :=
 fe_ok EOK HM (es := fun k => fes120 (FX130v k)) (fun k => List.forall_mem_cons.2 ⟨ok130v k, List.forall_mem_nil _⟩) (N := 55) (an := an120) (c := cd120) (f := 120) (fn := Go.Proofs.Try.f120) (rms := rm120) (ask := ask120) (rsk := rsk120) (enc := enc120) (dec := dec120) (tbl := [p120.getD 0 ⟨0, [], .skip⟩, p120.getD 1 ⟨0, [], .skip⟩, p120.getD 2 ⟨0, [], .skip⟩]) (fun s => rfl) Go.Proofs.Try.func120 (by kernel_rfl) (by kernel_rfl) (by kernel_rfl) (fun k => les120 (GX120l0 k) (GX120l1 k) (GX120l2 k))
  (List.forall_mem_cons.2 ⟨fun s => rfl, List.forall_mem_cons.2 ⟨fun s => rfl, List.forall_mem_cons.2 ⟨fun s => rfl, List.forall_mem_nil _⟩⟩⟩) (fun k s0 => .cons (by kernel_rfl) (by kernel_rfl) (fun s r h => (e120l0 (GX120l0 k) (GX120l1 k) (GX120l2 k) (FX130v k) s0 s).trans (b120l0 k s.1.1 s.1.2.1 s.1.2.2.1 s.2.1 r h)) (.cons (by kernel_rfl) (by kernel_rfl) (fun s r h => (e120l1 (GX120l0 k) (GX120l1 k) (GX120l2 k) (FX130v k) s0 s).trans (b120l1 k s.1.1 s.1.2.1 s.1.2.2.1 s.1.2.2.2.1 s.1.2.2.2.2.1 s.1.2.2.2.2.2.1 s.2.1 r h)) (.cons (by kernel_rfl) (by kernel_rfl) (fun s r h => (e120l2 (GX120l0 k) (GX120l1 k) (GX120l2 k) (FX130v k) s0 s).trans (b120l2 k s.1.1 s.2.1 r h)) (.nil))))
  (F := fun k s => FX120 k s.1.1) (fun k s r h => (e120 (GX120l0 k) (GX120l1 k) (GX120l2 k) (FX130v k) s).trans (b120 k s.1.1 r h)) k
theorem b94 (k : Nat) (x0 : ByteArray) (x1 : ByteArray) : LeO (FX94 k x0 x1) (B94 (FX118 k) (FX119 k) (FX120 k) x0 x1) := by
 show LeO (All.exact_NatDivMod.f k x0 x1) _
 unfold All.exact_NatDivMod.f; unfold B94; (try simp only [FX118, FX119, FX120, All.integer_zero.f, All.exact_stepAt.f, All.S24.f0, All.S24.f1, All.rd_T24, All.z24]); exact BR
theorem ok94 (k : Nat) : FeOk Go.Proofs.Try.prog (fe94 (FX94 k)) :=
 fe_ok EOK HM (es := fun k => fes94 (FX118 k) (FX119 k) (FX120 k)) (fun k => List.forall_mem_cons.2 ⟨ok118 k, List.forall_mem_cons.2 ⟨ok119 k, List.forall_mem_cons.2 ⟨ok120 k, List.forall_mem_nil _⟩⟩⟩) (N := 20) (an := an94) (c := cd94) (f := 94) (fn := Go.Proofs.Try.f94) (rms := rm94) (ask := ask94) (rsk := rsk94) (enc := enc94) (dec := dec94) (tbl := []) (fun s => rfl) Go.Proofs.Try.func94 (by kernel_rfl) (by kernel_rfl) (by kernel_rfl) (fun k => les94)
  (List.forall_mem_nil _) (fun k s0 => .nil)
  (F := fun k s => FX94 k s.1.1 s.1.2.1) (fun k s r h => (e94 (FX118 k) (FX119 k) (FX120 k) s).trans (b94 k s.1.1 s.1.2.1 r h)) k
@[reducible] noncomputable def GX95l0 (k : Nat) (x8 : Int) (x27 : Int) (x28 : Int) (x5 : (List Int)) (x6 : (List Int)) (x7 : (List Int)) : Option R95 := All.exact_NatAdd.l0 k x5 x6 x7 x8 x27 x28
theorem b95l0 (k : Nat) (x8 : Int) (x27 : Int) (x28 : Int) (x5 : (List Int)) (x6 : (List Int)) (x7 : (List Int)) : LeO (All.exact_NatAdd.l0 (k + 1) x5 x6 x7 x8 x27 x28) (B95l0 (GX95l0 k) (FX120 k) (FX121 k) x8 x27 x28 x5 x6 x7) := by
 rw [All.exact_NatAdd.l0]
 unfold B95l0
 (try simp only [GX95l0, FX119, FX120, FX121, All.integer_zero.f, All.exact_stepAt.f, All.S24.f0, All.S24.f1, All.rd_T24, All.z24])
 (try simp only [List.take_append_drop, List.drop_length, List.append_nil, Int.zero_sub, Int.toNat_natCast, Int.reduceToNat, Int.zero_add, List.take_zero, List.nil_append, List.append_assoc, List.length_set, ite_bind_, List.take_left, BAe, bne, decide_int_eq, decide_not, wrap_mod, if_true, if_false, Bool.false_eq_true, bind_assoc_, slice_def, List.drop_zero, List.take_length, wrap_u8, bind_some_, cnd_eq_if, rdOf, ite_not, Bool.and_eq_true, Bool.or_eq_true, Bool.not_eq_true', bfalse, Bool.not_eq_false', beq_iff_eq, decide_eq_true_eq, isEmpty_eq, ite_and_, ite_or_, ne_eq, toList_mk, List.toList_toArray])
 repeat' first
 | (with_reducible refine LeO.trans ((All.exact_NatAdd.mono_l k).1 _ _) ?_; rw [All.exact_NatAdd.j0]; (try simp only [if_true, if_false, decide_eq_true_eq, Bool.false_eq_true, decide_not, ite_not, bne, decide_int_eq, beq_iff_eq, Bool.not_eq_true', bfalse, toList_mk, List.toList_toArray, ite_and_, ite_or_, Bool.and_eq_true, Bool.or_eq_true, isEmpty_eq, wrap_mod, wrap_u8, All.integer_zero.f, bind_some_, Int.toNat_natCast, Int.reduceToNat, Int.zero_sub, BAe]))
 | (with_reducible exact LeO.none _)
 | (with_reducible exact LeO.refl _)
 | (with_reducible refine LeO.posR (by with_reducible assumption) ?_)
 | (with_reducible refine LeO.negR (by with_reducible assumption) ?_)
 | (with_reducible refine LeO.bindR (by with_reducible assumption) ?_)
 | (with_reducible refine LeO.posL (by with_reducible assumption) ?_)
 | (with_reducible refine LeO.negL (by with_reducible assumption) ?_)
 | (with_reducible refine LeO.iteL (fun _ => ?_) (fun _ => ?_))
 | (with_reducible refine LeO.bindK (by with_reducible assumption) ?_)
 | (with_reducible refine LeO.bindL (fun _ _ => ?_))
 | (refine LeO.posR (by first | decide | exact Int.le_refl _ | omega | assumption) ?_)
 | (refine LeO.negR (by first | decide | omega) ?_)
theorem b95 (k : Nat) (x0 : ByteArray) (x1 : ByteArray) : LeO (FX95 k x0 x1) (B95 (GX95l0 k) (FX119 k) x0 x1) := by
 show LeO (All.exact_NatAdd.f k x0 x1) _
 unfold All.exact_NatAdd.f
 unfold B95
 (try simp only [GX95l0, FX119, FX120, FX121, All.integer_zero.f, All.exact_stepAt.f, All.S24.f0, All.S24.f1, All.rd_T24, All.z24])
 (try simp only [List.take_append_drop, List.drop_length, List.append_nil, Int.zero_sub, Int.toNat_natCast, Int.reduceToNat, Int.zero_add, List.take_zero, List.nil_append, List.append_assoc, List.length_set, ite_bind_, List.take_left, BAe, bne, decide_int_eq, decide_not, wrap_mod, if_true, if_false, Bool.false_eq_true, bind_assoc_, slice_def, List.drop_zero, List.take_length, wrap_u8, bind_some_, cnd_eq_if, rdOf, ite_not, Bool.and_eq_true, Bool.or_eq_true, Bool.not_eq_true', bfalse, Bool.not_eq_false', beq_iff_eq, decide_eq_true_eq, isEmpty_eq, ite_and_, ite_or_, ne_eq, toList_mk, List.toList_toArray])
 repeat' first
 | (with_reducible refine LeO.trans ((All.exact_NatAdd.mono_l k).1 _ _) ?_; rw [All.exact_NatAdd.j0]; (try simp only [if_true, if_false, decide_eq_true_eq, Bool.false_eq_true, decide_not, ite_not, bne, decide_int_eq, beq_iff_eq, Bool.not_eq_true', bfalse, toList_mk, List.toList_toArray, ite_and_, ite_or_, Bool.and_eq_true, Bool.or_eq_true, isEmpty_eq, wrap_mod, wrap_u8, All.integer_zero.f, bind_some_, Int.toNat_natCast, Int.reduceToNat, Int.zero_sub, BAe]))
 | (with_reducible exact LeO.none _)
 | (with_reducible exact LeO.refl _)
 | (with_reducible refine LeO.posR (by with_reducible assumption) ?_)
 | (with_reducible refine LeO.negR (by with_reducible assumption) ?_)
 | (with_reducible refine LeO.bindR (by with_reducible assumption) ?_)
 | (with_reducible refine LeO.posL (by with_reducible assumption) ?_)
 | (with_reducible refine LeO.negL (by with_reducible assumption) ?_)
 | (with_reducible refine LeO.iteL (fun _ => ?_) (fun _ => ?_))
 | (with_reducible refine LeO.bindK (by with_reducible assumption) ?_)
 | (with_reducible refine LeO.bindL (fun _ _ => ?_))
 | (refine LeO.posR (by first | decide | exact Int.le_refl _ | omega | assumption) ?_)
 | (refine LeO.negR (by first | decide | omega) ?_)
theorem ok95 (k : Nat) : FeOk Go.Proofs.Try.prog (fe95 (FX95 k)) :=
 fe_ok EOK HM (es := fun k => fes95 (FX119 k) (FX120 k) (FX121 k)) (fun k => List.forall_mem_cons.2 ⟨ok119 k, List.forall_mem_cons.2 ⟨ok120 k, List.forall_mem_cons.2 ⟨ok121 k, List.forall_mem_nil _⟩⟩⟩) (N := 60) (an := an95) (c := cd95) (f := 95) (fn := Go.Proofs.Try.f95) (rms := rm95) (ask := ask95) (rsk := rsk95) (enc := enc95) (dec := dec95) (tbl := [p95.getD 0 ⟨0, [], .skip⟩]) (fun s => rfl) Go.Proofs.Try.func95 (by kernel_rfl) (by kernel_rfl) (by kernel_rfl) (fun k => les95 (GX95l0 k))
  (List.forall_mem_cons.2 ⟨fun s => rfl, List.forall_mem_nil _⟩) (fun k s0 => .cons (by kernel_rfl) (by kernel_rfl) (fun s r h => (e95l0 (GX95l0 k) (FX119 k) (FX120 k) (FX121 k) s0 s).trans (b95l0 k s.1.1 s.1.2.1 s.1.2.2.1 s.2.1 s.2.2.1 s.2.2.2.1 r h)) (.nil))
  (F := fun k s => FX95 k s.1.1 s.1.2.1) (fun k s r h => (e95 (GX95l0 k) (FX119 k) (FX120 k) (FX121 k) s).trans (b95 k s.1.1 s.1.2.1 r h)) k
theorem b96 (k : Nat) (x0 : Int) : LeO (FX96 k x0) (B96 (FX120 k) x0) := by
 show LeO (All.exact_NatOf.f k x0) _
 unfold All.exact_NatOf.f; unfold B96; (try simp only [FX120, All.integer_zero.f, All.exact_stepAt.f, All.S24.f0, All.S24.f1, All.rd_T24, All.z24]); exact BR
theorem ok96 (k : Nat) : FeOk Go.Proofs.Try.prog (fe96 (FX96 k)) :=
 fe_ok EOK HM (es := fun k => fes96 (FX120 k)) (fun k => List.forall_mem_cons.2 ⟨ok120 k, List.forall_mem_nil _⟩) (N := 6) (an := an96) (c := cd96) (f := 96) (fn := Go.Proofs.Try.f96) (rms := rm96) (ask := ask96) (rsk := rsk96) (enc := enc96) (dec := dec96) (tbl := []) (fun s => rfl) Go.Proofs.Try.func96 (by kernel_rfl) (by kernel_rfl) (by kernel_rfl) (fun k => les96)
  (List.forall_mem_nil _) (fun k s0 => .nil)
  (F := fun k s => FX96 k s.1.1) (fun k s r h => (e96 (FX120 k) s).trans (b96 k s.1.1 r h)) k
@[reducible] noncomputable def GX97l0 (k : Nat) (x7 : Int) (x15 : Int) (x16 : Int) (x5 : (List Int)) (x6 : (List Int)) : Option R97 := All.exact_NatSub.l0 k x5 x6 x7 x15 x16
theorem b97l0 (k : Nat) (x7 : Int) (x15 : Int) (x16 : Int) (x5 : (List Int)) (x6 : (List Int)) : LeO (All.exact_NatSub.l0 (k + 1) x5 x6 x7 x15 x16) (B97l0 (GX97l0 k) (FX120 k) (FX122 k) x7 x15 x16 x5 x6) := by rw [All.exact_NatSub.l0]; unfold B97l0; (try simp only [GX97l0, FX119, FX120, FX122, All.integer_zero.f, All.exact_stepAt.f, All.S24.f0, All.S24.f1, All.rd_T24, All.z24]); exact BR
theorem b97 (k : Nat) (x0 : ByteArray) (x1 : ByteArray) : LeO (FX97 k x0 x1) (B97 (GX97l0 k) (FX119 k) x0 x1) := by
 show LeO (All.exact_NatSub.f k x0 x1) _
 unfold All.exact_NatSub.f; unfold B97; (try simp only [GX97l0, FX119, FX120, FX122, All.integer_zero.f, All.exact_stepAt.f, All.S24.f0, All.S24.f1, All.rd_T24, All.z24]); exact BR
theorem ok97 (k : Nat) : FeOk Go.Proofs.Try.prog (fe97 (FX97 k)) :=
 fe_ok EOK HM (es := fun k => fes97 (FX119 k) (FX120 k) (FX122 k)) (fun k => List.forall_mem_cons.2 ⟨ok119 k, List.forall_mem_cons.2 ⟨ok120 k, List.forall_mem_cons.2 ⟨ok122 k, List.forall_mem_nil _⟩⟩⟩) (N := 43) (an := an97) (c := cd97) (f := 97) (fn := Go.Proofs.Try.f97) (rms := rm97) (ask := ask97) (rsk := rsk97) (enc := enc97) (dec := dec97) (tbl := [p97.getD 0 ⟨0, [], .skip⟩]) (fun s => rfl) Go.Proofs.Try.func97 (by kernel_rfl) (by kernel_rfl) (by kernel_rfl) (fun k => les97 (GX97l0 k))
  (List.forall_mem_cons.2 ⟨fun s => rfl, List.forall_mem_nil _⟩) (fun k s0 => .cons (by kernel_rfl) (by kernel_rfl) (fun s r h => (e97l0 (GX97l0 k) (FX119 k) (FX120 k) (FX122 k) s0 s).trans (b97l0 k s.1.1 s.1.2.1 s.1.2.2.1 s.2.1 s.2.2.1 r h)) (.nil))
  (F := fun k s => FX97 k s.1.1 s.1.2.1) (fun k s r h => (e97 (GX97l0 k) (FX119 k) (FX120 k) (FX122 k) s).trans (b97 k s.1.1 s.1.2.1 r h)) k
theorem b98 (k : Nat) (x0 : Bool) (x1 : ByteArray) : LeO (FX98 k x0 x1) (B98 x0 x1) := by
 show LeO (All.exact_IntMake.f x0 x1) _
 unfold All.exact_IntMake.f; unfold B98; (try simp only [All.integer_zero.f, All.exact_stepAt.f, All.S24.f0, All.S24.f1, All.rd_T24, All.z24]); exact BR
theorem ok98 (k : Nat) : FeOk Go.Proofs.Try.prog (fe98 (FX98 k)) :=
 fe_ok EOK HM (es := fun k => fes98) (fun k => List.forall_mem_nil _) (N := 12) (an := an98) (c := cd98) (f := 98) (fn := Go.Proofs.Try.f98) (rms := rm98) (ask := ask98) (rsk := rsk98) (enc := enc98) (dec := dec98) (tbl := []) (fun s => rfl) Go.Proofs.Try.func98 (by kernel_rfl) (by kernel_rfl) (by kernel_rfl) (fun k => les98)
  (List.forall_mem_nil _) (fun k s0 => .nil)
  (F := fun k s => FX98 k s.1.1 s.1.2.1) (fun k s r h => (e98 s).trans (b98 k s.1.1 s.1.2.1 r h)) k
theorem b54 (k : Nat) (x0 : (Bool × ByteArray)) (x1 : (Bool × ByteArray)) : LeO (FX54 k x0 x1) (B54 (FX94 k) (FX95 k) (FX96 k) (FX97 k) (FX98 k) x0 x1) := by
 show LeO (All.exact_IntDivMod.f k x0.1 x0.2 x1.1 x1.2) _
 unfold All.exact_IntDivMod.f
 unfold B54
 (try simp only [FX94, FX95, FX96, FX97, FX98, All.integer_zero.f, All.exact_stepAt.f, All.S24.f0, All.S24.f1, All.rd_T24, All.z24])
 (try simp only [List.take_append_drop, List.drop_length, List.append_nil, Int.zero_sub, Int.toNat_natCast, Int.reduceToNat, Int.zero_add, List.take_zero, List.nil_append, List.append_assoc, List.length_set, ite_bind_, List.take_left, BAe, bne, decide_int_eq, decide_not, wrap_mod, if_true, if_false, Bool.false_eq_true, bind_assoc_, slice_def, List.drop_zero, List.take_length, wrap_u8, bind_some_, cnd_eq_if, rdOf, ite_not, Bool.and_eq_true, Bool.or_eq_true, Bool.not_eq_true', bfalse, Bool.not_eq_false', beq_iff_eq, decide_eq_true_eq, isEmpty_eq, ite_and_, ite_or_, ne_eq, toList_mk, List.toList_toArray])
 repeat' first
 | (with_reducible refine LeO.trans ((All.exact_IntDivMod.mono_l k) _ _ _ _ _ _ _) ?_; rw [All.exact_IntDivMod.j0]; (try simp only [if_true, if_false, decide_eq_true_eq, Bool.false_eq_true, decide_not, ite_not, bne, decide_int_eq, beq_iff_eq, Bool.not_eq_true', bfalse, toList_mk, List.toList_toArray, ite_and_, ite_or_, Bool.and_eq_true, Bool.or_eq_true, isEmpty_eq, wrap_mod, wrap_u8, All.integer_zero.f, bind_some_, Int.toNat_natCast, Int.reduceToNat, Int.zero_sub, BAe]))
 | (with_reducible exact LeO.none _)
 | (with_reducible exact LeO.refl _)
 | (with_reducible refine LeO.posR (by with_reducible assumption) ?_)
 | (with_reducible refine LeO.negR (by with_reducible assumption) ?_)
 | (with_reducible refine LeO.bindR (by with_reducible assumption) ?_)
 | (with_reducible refine LeO.posL (by with_reducible assumption) ?_)
 | (with_reducible refine LeO.negL (by with_reducible assumption) ?_)
 | (with_reducible refine LeO.iteL (fun _ => ?_) (fun _ => ?_))
 | (with_reducible refine LeO.bindK (by with_reducible assumption) ?_)
 | (with_reducible refine LeO.bindL (fun _ _ => ?_))
 | (refine LeO.posR (by first | decide | exact Int.le_refl _ | omega | assumption) ?_)
 | (refine LeO.negR (by first | decide | omega) ?_)
theorem ok54 (k : Nat) : FeOk Go.Proofs.Try.prog (fe54 (FX54 k)) :=
 fe_ok EOK HM (es := fun k => fes54 (FX94 k) (FX95 k) (FX96 k) (FX97 k) (FX98 k)) (fun k => List.forall_mem_cons.2 ⟨ok94 k, List.forall_mem_cons.2 ⟨ok95 k, List.forall_mem_cons.2 ⟨ok96 k, List.forall_mem_cons.2 ⟨ok97 k, List.forall_mem_cons.2 ⟨ok98 k, List.forall_mem_nil _⟩⟩⟩⟩⟩) (N := 38) (an := an54) (c := cd54) (f := 54) (fn := Go.Proofs.Try.f54) (rms := rm54) (ask := ask54) (rsk := rsk54) (enc := enc54) (dec := dec54) (tbl := []) (fun s => rfl) Go.Proofs.Try.func54 (by kernel_rfl) (by kernel_rfl) (by kernel_rfl) (fun k => les54)
  (List.forall_mem_nil _) (fun k s0 => .nil)
  (F := fun k s => FX54 k s.1.1 s.1.2.1) (fun k s r h => (e54 (FX94 k) (FX95 k) (FX96 k) (FX97 k) (FX98 k) s).trans (b54 k s.1.1 s.1.2.1 r h)) k
theorem b14 (k : Nat) (x0 : (Bool × ByteArray)) (x1 : (Bool × ByteArray)) : LeO (FX14 k x0 x1) (B14 (FX52 k) (FX53 k) (FX54 k) x0 x1) := by
 show LeO (All.integer_DivMod.f k x0.1 x0.2 x1.1 x1.2) _
 unfold All.integer_DivMod.f; unfold B14; (try simp only [FX52, FX53, FX54, All.integer_zero.f, All.exact_stepAt.f, All.S24.f0, All.S24.f1, All.rd_T24, All.z24]); exact BR
theorem ok14 (k : Nat) : FeOk Go.Proofs.Try.prog (fe14 (FX14 k)) :=
 fe_ok EOK HM (es := fun k => fes14 (FX52 k) (FX53 k) (FX54 k)) (fun k => List.forall_mem_cons.2 ⟨ok52 k, List.forall_mem_cons.2 ⟨ok53 k, List.forall_mem_cons.2 ⟨ok54 k, List.forall_mem_nil _⟩⟩⟩) (N := 38) (an := an14) (c := cd14) (f := 14) (fn := Go.Proofs.Try.f14) (rms := rm14) (ask := ask14) (rsk := rsk14) (enc := enc14) (dec := dec14) (tbl := []) (fun s => rfl) Go.Proofs.Try.func14 (by kernel_rfl) (by kernel_rfl) (by kernel_rfl) (fun k => les14)
  (List.forall_mem_nil _) (fun k s0 => .nil)
  (F := fun k s => FX14 k s.1.1 s.1.2.1) (fun k s r h => (e14 (FX52 k) (FX53 k) (FX54 k) s).trans (b14 k s.1.1 s.1.2.1 r h)) k
theorem b55 (k : Nat) (x0 : (List (Bool × ByteArray))) : LeO (FX55 k x0) (B55 x0) := by exact LeO.refl _
theorem ok55 (k : Nat) : FeOk Go.Proofs.Try.prog (fe55 (FX55 k)) :=
 fe_ok EOK HM (es := fun k => fes55) (fun k => List.forall_mem_nil _) (N := 4) (an := an55) (c := cd55) (f := 55) (fn := Go.Proofs.Try.f55) (rms := rm55) (ask := ask55) (rsk := rsk55) (enc := enc55) (dec := dec55) (tbl := []) (fun s => rfl) Go.Proofs.Try.func55 (by kernel_rfl) (by kernel_rfl) (by kernel_rfl) (fun k => les55)
  (List.forall_mem_nil _) (fun k s0 => .nil)
  (F := fun k s => FX55 k s.1.1) (fun k s r h => (e55 s).trans (b55 k s.1.1 r h)) k
@[reducible] noncomputable def GX100l0 (k : Nat) (x5 : (List Int)) (x6 : (List Int)) : Option R100 := All.exact_NatGcd.l0 k x5 x6
theorem b100l0 (k : Nat) (x5 : (List Int)) (x6 : (List Int)) : LeO (All.exact_NatGcd.l0 (k + 1) x5 x6) (B100l0 (GX100l0 k) (FX118 k) (FX120 k) x5 x6) := by rw [All.exact_NatGcd.l0]; unfold B100l0; (try simp only [GX100l0, FX118, FX119, FX120, All.integer_zero.f, All.exact_stepAt.f, All.S24.f0, All.S24.f1, All.rd_T24, All.z24]); exact BR
theorem b100 (k : Nat) (x0 : ByteArray) (x1 : ByteArray) : LeO (FX100 k x0 x1) (B100 (GX100l0 k) (FX119 k) x0 x1) := by
 show LeO (All.exact_NatGcd.f k x0 x1) _
 unfold All.exact_NatGcd.f; unfold B100; (try simp only [GX100l0, FX118, FX119, FX120, All.integer_zero.f, All.exact_stepAt.f, All.S24.f0, All.S24.f1, All.rd_T24, All.z24]); exact BR
theorem ok100 (k : Nat) : FeOk Go.Proofs.Try.prog (fe100 (FX100 k)) :=
 fe_ok EOK HM (es := fun k => fes100 (FX118 k) (FX119 k) (FX120 k)) (fun k => List.forall_mem_cons.2 ⟨ok118 k, List.forall_mem_cons.2 ⟨ok119 k, List.forall_mem_cons.2 ⟨ok120 k, List.forall_mem_nil _⟩⟩⟩) (N := 26) (an := an100) (c := cd100) (f := 100) (fn := Go.Proofs.Try.f100) (rms := rm100) (ask := ask100) (rsk := rsk100) (enc := enc100) (dec := dec100) (tbl := [p100.getD 0 ⟨0, [], .skip⟩]) (fun s => rfl) Go.Proofs.Try.func100 (by kernel_rfl) (by kernel_rfl) (by kernel_rfl) (fun k => les100 (GX100l0 k))
  (List.forall_mem_cons.2 ⟨fun s => rfl, List.forall_mem_nil _⟩) (fun k s0 => .cons (by kernel_rfl) (by kernel_rfl) (fun s r h => (e100l0 (GX100l0 k) (FX118 k) (FX119 k) (FX120 k) s0 s).trans (b100l0 k s.1.1 s.1.2.1 r h)) (.nil))
  (F := fun k s => FX100 k s.1.1 s.1.2.1) (fun k s r h => (e100 (GX100l0 k) (FX118 k) (FX119 k) (FX120 k) s).trans (b100 k s.1.1 s.1.2.1 r h)) k
theorem b57 (k : Nat) (x0 : (Bool × ByteArray)) (x1 : (Bool × ByteArray)) : LeO (FX57 k x0 x1) (B57 (FX100 k) x0 x1) := by
 show LeO (All.exact_IntGcd.f k x0.1 x0.2 x1.1 x1.2) _
 unfold All.exact_IntGcd.f; unfold B57; (try simp only [FX100, All.integer_zero.f, All.exact_stepAt.f, All.S24.f0, All.S24.f1, All.rd_T24, All.z24]); exact BR
theorem ok57 (k : Nat) : FeOk Go.Proofs.Try.prog (fe57 (FX57 k)) :=
 fe_ok EOK HM (es := fun k => fes57 (FX100 k)) (fun k => List.forall_mem_cons.2 ⟨ok100 k, List.forall_mem_nil _⟩) (N := 11) (an := an57) (c := cd57) (f := 57) (fn := Go.Proofs.Try.f57) (rms := rm57) (ask := ask57) (rsk := rsk57) (enc := enc57) (dec := dec57) (tbl := []) (fun s => rfl) Go.Proofs.Try.func57 (by kernel_rfl) (by kernel_rfl) (by kernel_rfl) (fun k => les57)
  (List.forall_mem_nil _) (fun k s0 => .nil)
  (F := fun k s => FX57 k s.1.1 s.1.2.1) (fun k s r h => (e57 (FX100 k) s).trans (b57 k s.1.1 s.1.2.1 r h)) k
theorem b56 (k : Nat) (x0 : (Bool × ByteArray)) (x1 : (Bool × ByteArray)) : LeO (FX56 k x0 x1) (B56 (FX57 k) x0 x1) := by exact LeO.refl _
theorem ok56 (k : Nat) : FeOk Go.Proofs.Try.prog (fe56 (FX56 k)) :=
 fe_ok EOK HM (es := fun k => fes56 (FX57 k)) (fun k => List.forall_mem_cons.2 ⟨ok57 k, List.forall_mem_nil _⟩) (N := 6) (an := an56) (c := cd56) (f := 56) (fn := Go.Proofs.Try.f56) (rms := rm56) (ask := ask56) (rsk := rsk56) (enc := enc56) (dec := dec56) (tbl := []) (fun s => rfl) Go.Proofs.Try.func56 (by kernel_rfl) (by kernel_rfl) (by kernel_rfl) (fun k => les56)
  (List.forall_mem_nil _) (fun k s0 => .nil)
  (F := fun k s => FX56 k s.1.1 s.1.2.1) (fun k s r h => (e56 (FX57 k) s).trans (b56 k s.1.1 s.1.2.1 r h)) k
theorem b99Gcd (k : Nat) (x0 : ((Bool × ByteArray) × (Bool × ByteArray) × Unit)) (x1 : (List (Bool × ByteArray))) : LeO (FX99Gcd k x0 x1) (B99Gcd (FX52 k) (FX53 k) (FX56 k) x0 x1) := by exact LeO.refl _
theorem ok99Gcd (k : Nat) : FeOk Go.Proofs.Try.prog (fe99Gcd (FX99Gcd k)) :=
 fe_ok EOK HM (es := fun k => fes99Gcd (FX52 k) (FX53 k) (FX56 k)) (fun k => List.forall_mem_cons.2 ⟨ok52 k, List.forall_mem_cons.2 ⟨ok53 k, List.forall_mem_cons.2 ⟨ok56 k, List.forall_mem_nil _⟩⟩⟩) (N := 21) (an := an99Gcd) (c := cd99Gcd) (f := 99) (fn := Go.Proofs.Try.f99) (rms := rm99Gcd) (ask := ask99Gcd) (rsk := rsk99Gcd) (enc := enc99Gcd) (dec := dec99Gcd) (tbl := []) (fun s => rfl) Go.Proofs.Try.func99 (by kernel_rfl) (by kernel_rfl) (by kernel_rfl) (fun k => les99Gcd)
  (List.forall_mem_nil _) (fun k s0 => .nil)
  (F := fun k s => FX99Gcd k s.1.1 s.1.2.1) (fun k s r h => (e99Gcd (FX52 k) (FX53 k) (FX56 k) s).trans (b99Gcd k s.1.1 s.1.2.1 r h)) k
theorem b15 (k : Nat) (x0 : (Bool × ByteArray)) (x1 : (Bool × ByteArray)) : LeO (FX15 k x0 x1) (B15 (FX55 k) (FX99Gcd k) x0 x1) := by
 show LeO (All.integer_Gcd.f k x0.1 x0.2 x1.1 x1.2) _
 unfold All.integer_Gcd.f; unfold B15; (try simp only [FX55, FX99Gcd, B55, B99Gcd, B56, FX52, FX53, FX56, FX57, All.integer_zero.f, All.exact_stepAt.f, All.S24.f0, All.S24.f1, All.rd_T24, All.z24]); exact BR
theorem ok15 (k : Nat) : FeOk Go.Proofs.Try.prog (fe15 (FX15 k)) :=
 fe_ok EOK HM (es := fun k => fes15 (FX55 k) (FX99Gcd k)) (fun k => List.forall_mem_cons.2 ⟨ok55 k, List.forall_mem_cons.2 ⟨ok99Gcd k, List.forall_mem_nil _⟩⟩) (N := 14) (an := an15) (c := cd15) (f := 15) (fn := Go.Proofs.Try.f15) (rms := rm15) (ask := ask15) (rsk := rsk15) (enc := enc15) (dec := dec15) (tbl := []) (fun s => rfl) Go.Proofs.Try.func15 (by kernel_rfl) (by kernel_rfl) (by kernel_rfl) (fun k => les15)
  (List.forall_mem_nil _) (fun k s0 => .nil)
  (F := fun k s => FX15 k s.1.1 s.1.2.1) (fun k s r h => (e15 (FX55 k) (FX99Gcd k) s).trans (b15 k s.1.1 s.1.2.1 r h)) k
theorem b78 (k : Nat) (x0 : Int) : LeO (FX78 k x0) (B78 (FX96 k) x0) := by
 show LeO (All.exact_IntOf.f k x0) _
 unfold All.exact_IntOf.f; unfold B78; (try simp only [FX96, All.integer_zero.f, All.exact_stepAt.f, All.S24.f0, All.S24.f1, All.rd_T24, All.z24]); exact BR
theorem ok78 (k : Nat) : FeOk Go.Proofs.Try.prog (fe78 (FX78 k)) :=
 fe_ok EOK HM (es := fun k => fes78 (FX96 k)) (fun k => List.forall_mem_cons.2 ⟨ok96 k, List.forall_mem_nil _⟩) (N := 14) (an := an78) (c := cd78) (f := 78) (fn := Go.Proofs.Try.f78) (rms := rm78) (ask := ask78) (rsk := rsk78) (enc := enc78) (dec := dec78) (tbl := []) (fun s => rfl) Go.Proofs.Try.func78 (by kernel_rfl) (by kernel_rfl) (by kernel_rfl) (fun k => les78)
  (List.forall_mem_nil _) (fun k s0 => .nil)
  (F := fun k s => FX78 k s.1.1) (fun k s r h => (e78 (FX96 k) s).trans (b78 k s.1.1 r h)) k
theorem b30 (k : Nat) (x0 : Int) : LeO (FX30 k x0) (B30 (FX78 k) x0) := by
 show LeO (All.integer_Of.f k x0) _
 unfold All.integer_Of.f; unfold B30; (try simp only [FX78, All.integer_zero.f, All.exact_stepAt.f, All.S24.f0, All.S24.f1, All.rd_T24, All.z24]); exact BR
theorem ok30 (k : Nat) : FeOk Go.Proofs.Try.prog (fe30 (FX30 k)) :=
 fe_ok EOK HM (es := fun k => fes30 (FX78 k)) (fun k => List.forall_mem_cons.2 ⟨ok78 k, List.forall_mem_nil _⟩) (N := 5) (an := an30) (c := cd30) (f := 30) (fn := Go.Proofs.Try.f30) (rms := rm30) (ask := ask30) (rsk := rsk30) (enc := enc30) (dec := dec30) (tbl := []) (fun s => rfl) Go.Proofs.Try.func30 (by kernel_rfl) (by kernel_rfl) (by kernel_rfl) (fun k => les30)
  (List.forall_mem_nil _) (fun k s0 => .nil)
  (F := fun k s => FX30 k s.1.1) (fun k s r h => (e30 (FX78 k) s).trans (b30 k s.1.1 r h)) k
@[reducible] noncomputable def GX16l0 (k : Nat) (x1 : Int) (x8 : Int) (x2 : (Bool × ByteArray)) (x5 : (Bool × ByteArray)) : Option R16 := All.integer_Valuation.l0 k x1 x8 x2.1 x2.2
theorem b16l0 (k : Nat) (x1 : Int) (x8 : Int) (x2 : (Bool × ByteArray)) (x5 : (Bool × ByteArray)) : LeO (All.integer_Valuation.l0 (k + 1) x1 x8 x2.1 x2.2) (B16l0 (GX16l0 k) (FX30 k) (FX53 k) (FX54 k) x1 x8 x2 x5) := by rw [All.integer_Valuation.l0]; unfold B16l0; (try simp only [GX16l0, FX30, FX33, FX53, FX54, All.integer_zero.f, All.exact_stepAt.f, All.S24.f0, All.S24.f1, All.rd_T24, All.z24]); exact BR
theorem b16 (k : Nat) (x0 : (Bool × ByteArray)) (x1 : Int) : LeO (FX16 k x0 x1) (B16 (GX16l0 k) (FX33 k) (FX53 k) x0 x1) := by
 show LeO (All.integer_Valuation.f k x0.1 x0.2 x1) _
 unfold All.integer_Valuation.f; unfold B16; (try simp only [GX16l0, FX30, FX33, FX53, FX54, All.integer_zero.f, All.exact_stepAt.f, All.S24.f0, All.S24.f1, All.rd_T24, All.z24]); exact BR
theorem ok16 (k : Nat) : FeOk Go.Proofs.Try.prog (fe16 (FX16 k)) :=
 fe_ok EOK HM (es := fun k => fes16 (FX30 k) (FX33 k) (FX53 k) (FX54 k)) (fun k => List.forall_mem_cons.2 ⟨ok30 k, List.forall_mem_cons.2 ⟨ok33 k, List.forall_mem_cons.2 ⟨ok53 k, List.forall_mem_cons.2 ⟨ok54 k, List.forall_mem_nil _⟩⟩⟩⟩) (N := 39) (an := an16) (c := cd16) (f := 16) (fn := Go.Proofs.Try.f16) (rms := rm16) (ask := ask16) (rsk := rsk16) (enc := enc16) (dec := dec16) (tbl := [p16.getD 0 ⟨0, [], .skip⟩]) (fun s => rfl) Go.Proofs.Try.func16 (by kernel_rfl) (by kernel_rfl) (by kernel_rfl) (fun k => les16 (GX16l0 k))
  (List.forall_mem_cons.2 ⟨fun s => rfl, List.forall_mem_nil _⟩) (fun k s0 => .cons (by kernel_rfl) (by kernel_rfl) (fun s r h => (e16l0 (GX16l0 k) (FX30 k) (FX33 k) (FX53 k) (FX54 k) s0 s).trans (b16l0 k s.1.1 s.1.2.1 s.2.1 s.2.2.1 r h)) (.nil))
  (F := fun k s => FX16 k s.1.1 s.1.2.1) (fun k s r h => (e16 (GX16l0 k) (FX30 k) (FX33 k) (FX53 k) (FX54 k) s).trans (b16 k s.1.1 s.1.2.1 r h)) k
@[reducible] noncomputable def GX105l0 (k : Nat) (x0 : (List Int)) (x4 : Int) (x3 : (List Int)) : Option R105 := All.galoisref01_pack.l0 k x0 x3 x4
@[reducible] noncomputable def GX105l1 (k : Nat) (x0 : (List Int)) (x4 : Int) (x5 : Int) (x3 : (List Int)) : Option R105 := All.galoisref01_pack.l1 k x0 x3 x4 x5
theorem b105l0 (k : Nat) (x0 : (List Int)) (x4 : Int) (x3 : (List Int)) : LeO (All.galoisref01_pack.l0 (k + 1) x0 x3 x4) (B105l0 (GX105l1 k) x0 x4 x3) := by rw [All.galoisref01_pack.l0]; unfold B105l0; (try simp only [GX105l0, GX105l1, All.integer_zero.f, All.exact_stepAt.f, All.S24.f0, All.S24.f1, All.rd_T24, All.z24]); exact BR
theorem b105l1 (k : Nat) (x0 : (List Int)) (x4 : Int) (x5 : Int) (x3 : (List Int)) : LeO (All.galoisref01_pack.l1 (k + 1) x0 x3 x4 x5) (B105l1 (GX105l0 k) (GX105l1 k) x0 x4 x5 x3) := by rw [All.galoisref01_pack.l1]; unfold B105l1; (try simp only [GX105l0, GX105l1, All.integer_zero.f, All.exact_stepAt.f, All.S24.f0, All.S24.f1, All.rd_T24, All.z24]); exact BR
theorem b105 (k : Nat) (x0 : (List Int)) : LeO (FX105 k x0) (B105 (GX105l0 k) x0) := by
 show LeO (All.galoisref01_pack.f k x0) _
 unfold All.galoisref01_pack.f; unfold B105; (try simp only [GX105l0, GX105l1, All.integer_zero.f, All.exact_stepAt.f, All.S24.f0, All.S24.f1, All.rd_T24, All.z24]); exact BR
theorem ok105 (k : Nat) : FeOk Go.Proofs.Try.prog (fe105 (FX105 k)) :=
 fe_ok EOK HM (es := fun k => fes105) (fun k => List.forall_mem_nil _) (N := 38) (an := an105) (c := cd105) (f := 105) (fn := Go.Proofs.Try.f105) (rms := rm105) (ask := ask105) (rsk := rsk105) (enc := enc105) (dec := dec105) (tbl := [p105.getD 0 ⟨0, [], .skip⟩, p105.getD 1 ⟨0, [], .skip⟩]) (fun s => rfl) Go.Proofs.Try.func105 (by kernel_rfl) (by kernel_rfl) (by kernel_rfl) (fun k => les105 (GX105l0 k) (GX105l1 k))
  (List.forall_mem_cons.2 ⟨fun s => rfl, List.forall_mem_cons.2 ⟨fun s => rfl, List.forall_mem_nil _⟩⟩) (fun k s0 => .cons (by kernel_rfl) (by kernel_rfl) (fun s r h => (e105l0 (GX105l0 k) (GX105l1 k) s0 s).trans (b105l0 k s.1.1 s.1.2.1 s.2.1 r h)) (.cons (by kernel_rfl) (by kernel_rfl) (fun s r h => (e105l1 (GX105l0 k) (GX105l1 k) s0 s).trans (b105l1 k s.1.1 s.1.2.1 s.1.2.2.1 s.2.1 r h)) (.nil)))
  (F := fun k s => FX105 k s.1.1) (fun k s r h => (e105 (GX105l0 k) (GX105l1 k) s).trans (b105 k s.1.1 r h)) k
theorem b63 (k : Nat) (x0 : Int) : LeO (FX63 k x0) (B63 (FX105 k) x0) := by
 show LeO (All.galoisref01_Of.f k x0) _
 unfold All.galoisref01_Of.f; unfold B63; (try simp only [FX105, All.integer_zero.f, All.exact_stepAt.f, All.S24.f0, All.S24.f1, All.rd_T24, All.z24]); exact BR
theorem ok63 (k : Nat) : FeOk Go.Proofs.Try.prog (fe63 (FX63 k)) :=
 fe_ok EOK HM (es := fun k => fes63 (FX105 k)) (fun k => List.forall_mem_cons.2 ⟨ok105 k, List.forall_mem_nil _⟩) (N := 9) (an := an63) (c := cd63) (f := 63) (fn := Go.Proofs.Try.f63) (rms := rm63) (ask := ask63) (rsk := rsk63) (enc := enc63) (dec := dec63) (tbl := []) (fun s => rfl) Go.Proofs.Try.func63 (by kernel_rfl) (by kernel_rfl) (by kernel_rfl) (fun k => les63)
  (List.forall_mem_nil _) (fun k s0 => .nil)
  (F := fun k s => FX63 k s.1.1) (fun k s r h => (e63 (FX105 k) s).trans (b63 k s.1.1 r h)) k
theorem b75 (k : Nat) (x0 : Int) : LeO (FX75 k x0) (B75 (FX63 k) x0) := by
 show LeO (All.galoisref02_FromInt.f k x0) _
 unfold All.galoisref02_FromInt.f; unfold B75; (try simp only [FX63, All.integer_zero.f, All.exact_stepAt.f, All.S24.f0, All.S24.f1, All.rd_T24, All.z24]); exact BR
theorem ok75 (k : Nat) : FeOk Go.Proofs.Try.prog (fe75 (FX75 k)) :=
 fe_ok EOK HM (es := fun k => fes75 (FX63 k)) (fun k => List.forall_mem_cons.2 ⟨ok63 k, List.forall_mem_nil _⟩) (N := 16) (an := an75) (c := cd75) (f := 75) (fn := Go.Proofs.Try.f75) (rms := rm75) (ask := ask75) (rsk := rsk75) (enc := enc75) (dec := dec75) (tbl := []) (fun s => rfl) Go.Proofs.Try.func75 (by kernel_rfl) (by kernel_rfl) (by kernel_rfl) (fun k => les75)
  (List.forall_mem_nil _) (fun k s0 => .nil)
  (F := fun k s => FX75 k s.1.1) (fun k s r h => (e75 (FX63 k) s).trans (b75 k s.1.1 r h)) k
theorem b27 (k : Nat) (x0 : Int) : LeO (FX27 k x0) (B27 (FX75 k) x0) := by
 show LeO (All.galoislaw02_of.f k x0) _
 unfold All.galoislaw02_of.f; unfold B27; (try simp only [FX75, All.integer_zero.f, All.exact_stepAt.f, All.S24.f0, All.S24.f1, All.rd_T24, All.z24]); exact BR
theorem ok27 (k : Nat) : FeOk Go.Proofs.Try.prog (fe27 (FX27 k)) :=
 fe_ok EOK HM (es := fun k => fes27 (FX75 k)) (fun k => List.forall_mem_cons.2 ⟨ok75 k, List.forall_mem_nil _⟩) (N := 5) (an := an27) (c := cd27) (f := 27) (fn := Go.Proofs.Try.f27) (rms := rm27) (ask := ask27) (rsk := rsk27) (enc := enc27) (dec := dec27) (tbl := []) (fun s => rfl) Go.Proofs.Try.func27 (by kernel_rfl) (by kernel_rfl) (by kernel_rfl) (fun k => les27)
  (List.forall_mem_nil _) (fun k s0 => .nil)
  (F := fun k s => FX27 k s.1.1) (fun k s r h => (e27 (FX75 k) s).trans (b27 k s.1.1 r h)) k
@[reducible] noncomputable def GX123l0 (k : Nat) (x1 : (List Int)) (x20 : (List Int)) (x21 : Int) (x22 : Int) (x5 : (List Int)) : Option R123 := All.exact_mulWords.l0 k x1 x5 x20 x21 x22
@[reducible] noncomputable def GX123l1 (k : Nat) (x1 : (List Int)) (x6 : Int) (x7 : Int) (x8 : Int) (x20 : (List Int)) (x21 : Int) (x22 : Int) (x27 : (List Int)) (x28 : Int) (x29 : Int) (x5 : (List Int)) : Option R123 := All.exact_mulWords.l1 k x1 x5 x6 x7 x8 x20 x21 x22 x27 x28 x29
theorem b123l0 (k : Nat) (x1 : (List Int)) (x20 : (List Int)) (x21 : Int) (x22 : Int) (x5 : (List Int)) : LeO (All.exact_mulWords.l0 (k + 1) x1 x5 x20 x21 x22) (B123l0 (GX123l1 k) (FX130 k) x1 x20 x21 x22 x5) := by rw [All.exact_mulWords.l0]; unfold B123l0; (try simp only [GX123l0, GX123l1, FX121, FX130, FX134, All.integer_zero.f, All.exact_stepAt.f, All.S24.f0, All.S24.f1, All.rd_T24, All.z24]); exact BR
theorem b123l1 (k : Nat) (x1 : (List Int)) (x6 : Int) (x7 : Int) (x8 : Int) (x20 : (List Int)) (x21 : Int) (x22 : Int) (x27 : (List Int)) (x28 : Int) (x29 : Int) (x5 : (List Int)) : LeO (All.exact_mulWords.l1 (k + 1) x1 x5 x6 x7 x8 x20 x21 x22 x27 x28 x29) (B123l1 (GX123l0 k) (GX123l1 k) (FX121 k) (FX134 k) x1 x6 x7 x8 x20 x21 x22 x27 x28 x29 x5) := by rw [All.exact_mulWords.l1]; unfold B123l1; (try simp only [GX123l0, GX123l1, FX121, FX130, FX134, All.integer_zero.f, All.exact_stepAt.f, All.S24.f0, All.S24.f1, All.rd_T24, All.z24]); exact BR
theorem b123 (k : Nat) (x0 : (List Int)) (x1 : (List Int)) : LeO (FX123 k x0 x1) (B123 (GX123l0 k) x0 x1) := by
 show LeO (All.exact_mulWords.f k x0 x1) _
 unfold All.exact_mulWords.f; unfold B123; (try simp only [GX123l0, GX123l1, FX121, FX130, FX134, All.integer_zero.f, All.exact_stepAt.f, All.S24.f0, All.S24.f1, All.rd_T24, All.z24]); exact BR
theorem ok123 (k : Nat) : FeOk Go.Proofs.Try.prog (fe123 (FX123 k)) :=
 fe_ok EOK HM (es := fun k => fes123 (FX121 k) (FX130 k) (FX134 k)) (fun k => List.forall_mem_cons.2 ⟨ok121 k, List.forall_mem_cons.2 ⟨ok130 k, List.forall_mem_cons.2 ⟨ok134 k, List.forall_mem_nil _⟩⟩⟩) (N := 80) (an := an123) (c := cd123) (f := 123) (fn := Go.Proofs.Try.f123) (rms := rm123) (ask := ask123) (rsk := rsk123) (enc := enc123) (dec := dec123) (tbl := [p123.getD 0 ⟨0, [], .skip⟩, p123.getD 1 ⟨0, [], .skip⟩]) (fun s => rfl) Go.Proofs.Try.func123 (by kernel_rfl) (by kernel_rfl) (by kernel_rfl) (fun k => les123 (GX123l0 k) (GX123l1 k))
  (List.forall_mem_cons.2 ⟨fun s => rfl, List.forall_mem_cons.2 ⟨fun s => rfl, List.forall_mem_nil _⟩⟩) (fun k s0 => .cons (by kernel_rfl) (by kernel_rfl) (fun s r h => (e123l0 (GX123l0 k) (GX123l1 k) (FX121 k) (FX130 k) (FX134 k) s0 s).trans (b123l0 k s.1.1 s.1.2.1 s.1.2.2.1 s.1.2.2.2.1 s.2.1 r h)) (.cons (by kernel_rfl) (by kernel_rfl) (fun s r h => (e123l1 (GX123l0 k) (GX123l1 k) (FX121 k) (FX130 k) (FX134 k) s0 s).trans (b123l1 k s.1.1 s.1.2.1 s.1.2.2.1 s.1.2.2.2.1 s.1.2.2.2.2.1 s.1.2.2.2.2.2.1 s.1.2.2.2.2.2.2.1 s.1.2.2.2.2.2.2.2.1 s.1.2.2.2.2.2.2.2.2.1 s.1.2.2.2.2.2.2.2.2.2.1 s.2.1 r h)) (.nil)))
  (F := fun k s => FX123 k s.1.1 s.1.2.1) (fun k s r h => (e123 (GX123l0 k) (GX123l1 k) (FX121 k) (FX130 k) (FX134 k) s).trans (b123 k s.1.1 s.1.2.1 r h)) k
theorem b108 (k : Nat) (x0 : ByteArray) (x1 : ByteArray) : LeO (FX108 k x0 x1) (B108 (FX119 k) (FX120 k) (FX123 k) x0 x1) := by
 show LeO (All.exact_NatMul.f k x0 x1) _
 unfold All.exact_NatMul.f; unfold B108; (try simp only [FX119, FX120, FX123, All.integer_zero.f, All.exact_stepAt.f, All.S24.f0, All.S24.f1, All.rd_T24, All.z24]); exact BR
theorem ok108 (k : Nat) : FeOk Go.Proofs.Try.prog (fe108 (FX108 k)) :=
 fe_ok EOK HM (es := fun k => fes108 (FX119 k) (FX120 k) (FX123 k)) (fun k => List.forall_mem_cons.2 ⟨ok119 k, List.forall_mem_cons.2 ⟨ok120 k, List.forall_mem_cons.2 ⟨ok123 k, List.forall_mem_nil _⟩⟩⟩) (N := 11) (an := an108) (c := cd108) (f := 108) (fn := Go.Proofs.Try.f108) (rms := rm108) (ask := ask108) (rsk := rsk108) (enc := enc108) (dec := dec108) (tbl := []) (fun s => rfl) Go.Proofs.Try.func108 (by kernel_rfl) (by kernel_rfl) (by kernel_rfl) (fun k => les108)
  (List.forall_mem_nil _) (fun k s0 => .nil)
  (F := fun k s => FX108 k s.1.1 s.1.2.1) (fun k s r h => (e108 (FX119 k) (FX120 k) (FX123 k) s).trans (b108 k s.1.1 s.1.2.1 r h)) k
theorem b67 (k : Nat) (x0 : ByteArray) : LeO (FX67 k x0) (B67 (FX106 k) x0) := by
 show LeO (All.exact_NatBits.f x0) _
 unfold All.exact_NatBits.f; unfold B67; (try simp only [FX106, All.integer_zero.f, All.exact_stepAt.f, All.S24.f0, All.S24.f1, All.rd_T24, All.z24]); exact BR
theorem ok67 (k : Nat) : FeOk Go.Proofs.Try.prog (fe67 (FX67 k)) :=
 fe_ok EOK HM (es := fun k => fes67 (FX106 k)) (fun k => List.forall_mem_cons.2 ⟨ok106 k, List.forall_mem_nil _⟩) (N := 13) (an := an67) (c := cd67) (f := 67) (fn := Go.Proofs.Try.f67) (rms := rm67) (ask := ask67) (rsk := rsk67) (enc := enc67) (dec := dec67) (tbl := []) (fun s => rfl) Go.Proofs.Try.func67 (by kernel_rfl) (by kernel_rfl) (by kernel_rfl) (fun k => les67)
  (List.forall_mem_nil _) (fun k s0 => .nil)
  (F := fun k s => FX67 k s.1.1) (fun k s r h => (e67 (FX106 k) s).trans (b67 k s.1.1 r h)) k
end Go.Proofs.YtdhdfcjpeflinaaV
set_option linter.unusedVariables false
set_option linter.unusedSimpArgs false
set_option maxRecDepth 100000
namespace Go.Proofs.YtdhdfcjpeflinaaV
open Go Go.RowKit Go.Proofs.Ytdhdfcjpeflinaa Go.Proofs.YtdhdfcjpeflinaaE Go.Proofs.YtdhdfcjpeflinaaW.PrintWords Go.Proofs.YtdhdfcjpeflinaaW.PrintLast Go.Proofs.YtdhdfcjpeflinaaW.PrintMore
@[reducible] noncomputable def GX107l0 (k : Nat) (x1 : Int) (x5 : (List Int)) (x6 : (List Int)) : Option R107 := All.exact_NatPow.l0 k x1 x5 x6
theorem b107l0 (k : Nat) (x1 : Int) (x5 : (List Int)) (x6 : (List Int)) : LeO (All.exact_NatPow.l0 (k + 1) x1 x5 x6) (B107l0 (GX107l0 k) (FX120 k) (FX123 k) x1 x5 x6) := by rw [All.exact_NatPow.l0]; unfold B107l0; (try simp only [GX107l0, FX119, FX120, FX123, All.integer_zero.f, All.exact_stepAt.f, All.S24.f0, All.S24.f1, All.rd_T24, All.z24]); exact BR
theorem b107 (k : Nat) (x0 : ByteArray) (x1 : Int) : LeO (FX107 k x0 x1) (B107 (GX107l0 k) (FX119 k) x0 x1) := by
 show LeO (All.exact_NatPow.f k x0 x1) _
 unfold All.exact_NatPow.f; unfold B107; (try simp only [GX107l0, FX119, FX120, FX123, All.integer_zero.f, All.exact_stepAt.f, All.S24.f0, All.S24.f1, All.rd_T24, All.z24]); exact BR
theorem ok107 (k : Nat) : FeOk Go.Proofs.Try.prog (fe107 (FX107 k)) :=
 fe_ok EOK HM (es := fun k => fes107 (FX119 k) (FX120 k) (FX123 k)) (fun k => List.forall_mem_cons.2 ⟨ok119 k, List.forall_mem_cons.2 ⟨ok120 k, List.forall_mem_cons.2 ⟨ok123 k, List.forall_mem_nil _⟩⟩⟩) (N := 25) (an := an107) (c := cd107) (f := 107) (fn := Go.Proofs.Try.f107) (rms := rm107) (ask := ask107) (rsk := rsk107) (enc := enc107) (dec := dec107) (tbl := [p107.getD 0 ⟨0, [], .skip⟩]) (fun s => rfl) Go.Proofs.Try.func107 (by kernel_rfl) (by kernel_rfl) (by kernel_rfl) (fun k => les107 (GX107l0 k))
  (List.forall_mem_cons.2 ⟨fun s => rfl, List.forall_mem_nil _⟩) (fun k s0 => .cons (by kernel_rfl) (by kernel_rfl) (fun s r h => (e107l0 (GX107l0 k) (FX119 k) (FX120 k) (FX123 k) s0 s).trans (b107l0 k s.1.1 s.1.2.1 s.1.2.2.1 r h)) (.nil))
  (F := fun k s => FX107 k s.1.1 s.1.2.1) (fun k s r h => (e107 (GX107l0 k) (FX119 k) (FX120 k) (FX123 k) s).trans (b107 k s.1.1 s.1.2.1 r h)) k
theorem b109 (k : Nat) (x0 : ByteArray) (x1 : ByteArray) : LeO (FX109 k x0 x1) (B109 x0 x1) := by
 show LeO (All.exact_NatCmp.f k x0 x1) _
 unfold All.exact_NatCmp.f
 unfold B109
 (try simp only [All.integer_zero.f, All.exact_stepAt.f, All.S24.f0, All.S24.f1, All.rd_T24, All.z24])
 (try simp only [List.take_append_drop, List.drop_length, List.append_nil, Int.zero_sub, Int.toNat_natCast, Int.reduceToNat, Int.zero_add, List.take_zero, List.nil_append, List.append_assoc, List.length_set, ite_bind_, List.take_left, BAe, bne, decide_int_eq, decide_not, wrap_mod, if_true, if_false, Bool.false_eq_true, bind_assoc_, slice_def, List.drop_zero, List.take_length, wrap_u8, bind_some_, cnd_eq_if, rdOf, ite_not, Bool.and_eq_true, Bool.or_eq_true, Bool.not_eq_true', bfalse, Bool.not_eq_false', beq_iff_eq, decide_eq_true_eq, isEmpty_eq, ite_and_, ite_or_, ne_eq, toList_mk, List.toList_toArray])
 repeat' first
 | (with_reducible refine LeO.trans ((All.exact_NatCmp.mono_l k) _ _ _) ?_; rw [All.exact_NatCmp.j0]; (try simp only [if_true, if_false, decide_eq_true_eq, Bool.false_eq_true, decide_not, ite_not, bne, decide_int_eq, beq_iff_eq, Bool.not_eq_true', bfalse, toList_mk, List.toList_toArray, ite_and_, ite_or_, Bool.and_eq_true, Bool.or_eq_true, isEmpty_eq, wrap_mod, wrap_u8, All.integer_zero.f, bind_some_, Int.toNat_natCast, Int.reduceToNat, Int.zero_sub, BAe]))
 | (with_reducible exact LeO.none _)
 | (with_reducible exact LeO.refl _)
 | (with_reducible refine LeO.posR (by with_reducible assumption) ?_)
 | (with_reducible refine LeO.negR (by with_reducible assumption) ?_)
 | (with_reducible refine LeO.bindR (by with_reducible assumption) ?_)
 | (with_reducible refine LeO.posL (by with_reducible assumption) ?_)
 | (with_reducible refine LeO.negL (by with_reducible assumption) ?_)
 | (with_reducible refine LeO.iteL (fun _ => ?_) (fun _ => ?_))
 | (with_reducible refine LeO.bindK (by with_reducible assumption) ?_)
 | (with_reducible refine LeO.bindL (fun _ _ => ?_))
 | (refine LeO.posR (by first | decide | exact Int.le_refl _ | omega | assumption) ?_)
 | (refine LeO.negR (by first | decide | omega) ?_)
theorem ok109 (k : Nat) : FeOk Go.Proofs.Try.prog (fe109 (FX109 k)) :=
 fe_ok EOK HM (es := fun k => fes109) (fun k => List.forall_mem_nil _) (N := 27) (an := an109) (c := cd109) (f := 109) (fn := Go.Proofs.Try.f109) (rms := rm109) (ask := ask109) (rsk := rsk109) (enc := enc109) (dec := dec109) (tbl := []) (fun s => rfl) Go.Proofs.Try.func109 (by kernel_rfl) (by kernel_rfl) (by kernel_rfl) (fun k => les109)
  (List.forall_mem_nil _) (fun k s0 => .nil)
  (F := fun k s => FX109 k s.1.1 s.1.2.1) (fun k s r h => (e109 s).trans (b109 k s.1.1 s.1.2.1 r h)) k
end Go.Proofs.YtdhdfcjpeflinaaV
