/-
  No cell of these rows narrows 'for every input' (looked for: loops, veiled, ifaces, maps, wideKeys, modest, calm, conditions, laid).
  DERIVED. THE GIVEN ROWS OF THIS SEAT. 9 by the template 'for every input the law returns true; each argument reads behind the call as it read before'; 0 by the template 'total and deterministic' (their statements: YtijohnkgomcdbaaGreatTotals.lean).
  GIVEN WITH THE SEED: the statements are not yours to turn. If you find one false, say at which input.
  Laid BY PROGRAM, IN A SANDBOX (cutbox-rows.mjs): the forced cells as the released guide's own fill.sh prints them over the translation 9d0b24cb18a9f722… (all of the seat's roots in one cut). By AI agents, Wed Nov 11 2026. No macro, syntax, notation, axiom, sorry.
-/
import Derived.Test.YtijohnkgomcdbaaGreatChecked
import GoSem.Claim
import GoSem.ClaimJoined
import GoSem.ClaimMapViews
import Derived.JoinedTies
import Derived.KernelRfl
namespace Go.Proofs.YtijohnkgomcdbaaGreat
/- THE CELL 'sum', in the pinned program and in every row, IS THE sha256 OF THE DUMP (.gsa) THAT YtijohnkgomcdbaaGreatProg.lean LOADS. Nothing in Lean hashes anything: it is a label: what it is worth is what the hold of that sum in a sandbox is worth. -/
noncomputable def Tryz.pinned : Pinned := { name := "ytijohnkgomcdbaagreat", sum := "9d0b24cb18a9f722476e9d5878fc6dd23525cf693d9e15d577ac427c88d51d08", checked := Tryz.checked }
namespace Rows
def none {H : Type} : Left H := { results := [], args := [] }

/-- 'galoislaw31.FieldpolyNorms': WHATEVER THE INPUT: true; the input reads as it did. -/
def fieldpolyNormsSpec : ChangeSpec := { name := "fieldpolyNorms", fn := fun _ => fun
  | [d1, d2] => { results := [.lit (.bool true)], args := [d1, d2] }
  | _ => none }
def fieldpolyNormsRow : OpenClaim := { program := "ytijohnkgomcdbaagreat", sum := "9d0b24cb18a9f722476e9d5878fc6dd23525cf693d9e15d577ac427c88d51d08", func := "galois/galoislaw31.FieldpolyNorms", spec := "fieldpolyNorms", inPlace := ["math/bits.Add64", "math/bits.Sub64"], unfollowed := true, recurses := true, named := ["math/bits.divideError", "math/bits.overflowError"], apart := false }
def FieldpolyNormsSaid : Prop := fieldpolyNormsRow.holds Tryz.pinned (OpenSpec.ofChange fieldpolyNormsSpec)

/-- ITS FALSE NEIGHBOUR: 'it returns false'. Refute it at one input. -/
def fieldpolyNormsWrong : ChangeSpec := { name := "fieldpolyNorms", fn := fun _ => fun
  | [d1, d2] => { results := [.lit (.bool false)], args := [d1, d2] }
  | _ => none }
def FieldpolyNormsWrongFalsely : Prop := fieldpolyNormsRow.holds Tryz.pinned (OpenSpec.ofChange fieldpolyNormsWrong)

/-- 'galoislaw31.FieldpolyBounds': WHATEVER THE INPUT: true; the input reads as it did. -/
def fieldpolyBoundsSpec : ChangeSpec := { name := "fieldpolyBounds", fn := fun _ => fun
  | [d1, d2] => { results := [.lit (.bool true)], args := [d1, d2] }
  | _ => none }
def fieldpolyBoundsRow : OpenClaim := { program := "ytijohnkgomcdbaagreat", sum := "9d0b24cb18a9f722476e9d5878fc6dd23525cf693d9e15d577ac427c88d51d08", func := "galois/galoislaw31.FieldpolyBounds", spec := "fieldpolyBounds", inPlace := ["math/bits.Add64", "math/bits.Sub64"], unfollowed := true, recurses := true, named := ["math/bits.divideError", "math/bits.overflowError"], apart := false }
def FieldpolyBoundsSaid : Prop := fieldpolyBoundsRow.holds Tryz.pinned (OpenSpec.ofChange fieldpolyBoundsSpec)

/-- ITS FALSE NEIGHBOUR: 'it returns false'. Refute it at one input. -/
def fieldpolyBoundsWrong : ChangeSpec := { name := "fieldpolyBounds", fn := fun _ => fun
  | [d1, d2] => { results := [.lit (.bool false)], args := [d1, d2] }
  | _ => none }
def FieldpolyBoundsWrongFalsely : Prop := fieldpolyBoundsRow.holds Tryz.pinned (OpenSpec.ofChange fieldpolyBoundsWrong)

/-- 'galoislaw31.FieldpolyRemainders': WHATEVER THE INPUT: true; the input reads as it did. -/
def fieldpolyRemaindersSpec : ChangeSpec := { name := "fieldpolyRemainders", fn := fun _ => fun
  | [d1, d2, d3] => { results := [.lit (.bool true)], args := [d1, d2, d3] }
  | _ => none }
def fieldpolyRemaindersRow : OpenClaim := { program := "ytijohnkgomcdbaagreat", sum := "9d0b24cb18a9f722476e9d5878fc6dd23525cf693d9e15d577ac427c88d51d08", func := "galois/galoislaw31.FieldpolyRemainders", spec := "fieldpolyRemainders", inPlace := ["math/bits.Add64", "math/bits.Sub64"], unfollowed := true, recurses := true, named := ["math/bits.divideError", "math/bits.overflowError"], apart := false }
def FieldpolyRemaindersSaid : Prop := fieldpolyRemaindersRow.holds Tryz.pinned (OpenSpec.ofChange fieldpolyRemaindersSpec)

/-- ITS FALSE NEIGHBOUR: 'it returns false'. Refute it at one input. -/
def fieldpolyRemaindersWrong : ChangeSpec := { name := "fieldpolyRemainders", fn := fun _ => fun
  | [d1, d2, d3] => { results := [.lit (.bool false)], args := [d1, d2, d3] }
  | _ => none }
def FieldpolyRemaindersWrongFalsely : Prop := fieldpolyRemaindersRow.holds Tryz.pinned (OpenSpec.ofChange fieldpolyRemaindersWrong)

/-- 'galoislaw31.FieldpolyDivides': WHATEVER THE INPUT: true; the input reads as it did. -/
def fieldpolyDividesSpec : ChangeSpec := { name := "fieldpolyDivides", fn := fun _ => fun
  | [d1, d2, d3] => { results := [.lit (.bool true)], args := [d1, d2, d3] }
  | _ => none }
def fieldpolyDividesRow : OpenClaim := { program := "ytijohnkgomcdbaagreat", sum := "9d0b24cb18a9f722476e9d5878fc6dd23525cf693d9e15d577ac427c88d51d08", func := "galois/galoislaw31.FieldpolyDivides", spec := "fieldpolyDivides", inPlace := ["math/bits.Add64", "math/bits.Sub64"], unfollowed := true, recurses := true, named := ["math/bits.divideError", "math/bits.overflowError"], apart := false }
def FieldpolyDividesSaid : Prop := fieldpolyDividesRow.holds Tryz.pinned (OpenSpec.ofChange fieldpolyDividesSpec)

/-- ITS FALSE NEIGHBOUR: 'it returns false'. Refute it at one input. -/
def fieldpolyDividesWrong : ChangeSpec := { name := "fieldpolyDivides", fn := fun _ => fun
  | [d1, d2, d3] => { results := [.lit (.bool false)], args := [d1, d2, d3] }
  | _ => none }
def FieldpolyDividesWrongFalsely : Prop := fieldpolyDividesRow.holds Tryz.pinned (OpenSpec.ofChange fieldpolyDividesWrong)

/-- 'galoislaw31.FieldpolyNormRules': WHATEVER THE INPUT: true; the input reads as it did. -/
def fieldpolyNormRulesSpec : ChangeSpec := { name := "fieldpolyNormRules", fn := fun _ => fun
  | [d1, d2, d3] => { results := [.lit (.bool true)], args := [d1, d2, d3] }
  | _ => none }
def fieldpolyNormRulesRow : OpenClaim := { program := "ytijohnkgomcdbaagreat", sum := "9d0b24cb18a9f722476e9d5878fc6dd23525cf693d9e15d577ac427c88d51d08", func := "galois/galoislaw31.FieldpolyNormRules", spec := "fieldpolyNormRules", inPlace := ["math/bits.Add64", "math/bits.Sub64"], unfollowed := true, recurses := true, named := ["math/bits.divideError", "math/bits.overflowError"], apart := false }
def FieldpolyNormRulesSaid : Prop := fieldpolyNormRulesRow.holds Tryz.pinned (OpenSpec.ofChange fieldpolyNormRulesSpec)

/-- ITS FALSE NEIGHBOUR: 'it returns false'. Refute it at one input. -/
def fieldpolyNormRulesWrong : ChangeSpec := { name := "fieldpolyNormRules", fn := fun _ => fun
  | [d1, d2, d3] => { results := [.lit (.bool false)], args := [d1, d2, d3] }
  | _ => none }
def FieldpolyNormRulesWrongFalsely : Prop := fieldpolyNormRulesRow.holds Tryz.pinned (OpenSpec.ofChange fieldpolyNormRulesWrong)

/-- 'galoislaw31.FieldpolyShifts': WHATEVER THE INPUT: true; the input reads as it did. -/
def fieldpolyShiftsSpec : ChangeSpec := { name := "fieldpolyShifts", fn := fun _ => fun
  | [d1, d2, d3] => { results := [.lit (.bool true)], args := [d1, d2, d3] }
  | _ => none }
def fieldpolyShiftsRow : OpenClaim := { program := "ytijohnkgomcdbaagreat", sum := "9d0b24cb18a9f722476e9d5878fc6dd23525cf693d9e15d577ac427c88d51d08", func := "galois/galoislaw31.FieldpolyShifts", spec := "fieldpolyShifts", inPlace := ["math/bits.Add64", "math/bits.Sub64"], unfollowed := true, recurses := true, named := ["math/bits.divideError", "math/bits.overflowError"], apart := false }
def FieldpolyShiftsSaid : Prop := fieldpolyShiftsRow.holds Tryz.pinned (OpenSpec.ofChange fieldpolyShiftsSpec)

/-- ITS FALSE NEIGHBOUR: 'it returns false'. Refute it at one input. -/
def fieldpolyShiftsWrong : ChangeSpec := { name := "fieldpolyShifts", fn := fun _ => fun
  | [d1, d2, d3] => { results := [.lit (.bool false)], args := [d1, d2, d3] }
  | _ => none }
def FieldpolyShiftsWrongFalsely : Prop := fieldpolyShiftsRow.holds Tryz.pinned (OpenSpec.ofChange fieldpolyShiftsWrong)

/-- 'galoislaw31.FieldpolyValues': WHATEVER THE INPUT: true; the input reads as it did. -/
def fieldpolyValuesSpec : ChangeSpec := { name := "fieldpolyValues", fn := fun _ => fun
  | [d1, d2, d3] => { results := [.lit (.bool true)], args := [d1, d2, d3] }
  | _ => none }
def fieldpolyValuesRow : OpenClaim := { program := "ytijohnkgomcdbaagreat", sum := "9d0b24cb18a9f722476e9d5878fc6dd23525cf693d9e15d577ac427c88d51d08", func := "galois/galoislaw31.FieldpolyValues", spec := "fieldpolyValues", inPlace := ["math/bits.Add64", "math/bits.Sub64"], unfollowed := true, recurses := true, named := ["math/bits.divideError", "math/bits.overflowError"], apart := false }
def FieldpolyValuesSaid : Prop := fieldpolyValuesRow.holds Tryz.pinned (OpenSpec.ofChange fieldpolyValuesSpec)

/-- ITS FALSE NEIGHBOUR: 'it returns false'. Refute it at one input. -/
def fieldpolyValuesWrong : ChangeSpec := { name := "fieldpolyValues", fn := fun _ => fun
  | [d1, d2, d3] => { results := [.lit (.bool false)], args := [d1, d2, d3] }
  | _ => none }
def FieldpolyValuesWrongFalsely : Prop := fieldpolyValuesRow.holds Tryz.pinned (OpenSpec.ofChange fieldpolyValuesWrong)

/-- 'galoislaw31.FieldpolyArithmetic': WHATEVER THE INPUT: true; the input reads as it did. -/
def fieldpolyArithmeticSpec : ChangeSpec := { name := "fieldpolyArithmetic", fn := fun _ => fun
  | [d1, d2, d3] => { results := [.lit (.bool true)], args := [d1, d2, d3] }
  | _ => none }
def fieldpolyArithmeticRow : OpenClaim := { program := "ytijohnkgomcdbaagreat", sum := "9d0b24cb18a9f722476e9d5878fc6dd23525cf693d9e15d577ac427c88d51d08", func := "galois/galoislaw31.FieldpolyArithmetic", spec := "fieldpolyArithmetic", inPlace := ["math/bits.Add64", "math/bits.Sub64"], unfollowed := true, recurses := true, named := ["math/bits.divideError", "math/bits.overflowError"], apart := false }
def FieldpolyArithmeticSaid : Prop := fieldpolyArithmeticRow.holds Tryz.pinned (OpenSpec.ofChange fieldpolyArithmeticSpec)

/-- ITS FALSE NEIGHBOUR: 'it returns false'. Refute it at one input. -/
def fieldpolyArithmeticWrong : ChangeSpec := { name := "fieldpolyArithmetic", fn := fun _ => fun
  | [d1, d2, d3] => { results := [.lit (.bool false)], args := [d1, d2, d3] }
  | _ => none }
def FieldpolyArithmeticWrongFalsely : Prop := fieldpolyArithmeticRow.holds Tryz.pinned (OpenSpec.ofChange fieldpolyArithmeticWrong)

/-- 'galoislaw31.FieldpolyChecks': WHATEVER THE INPUT: true; the input reads as it did. -/
def fieldpolyChecksSpec : ChangeSpec := { name := "fieldpolyChecks", fn := fun _ => fun
  | [d1, d2, d3] => { results := [.lit (.bool true)], args := [d1, d2, d3] }
  | _ => none }
def fieldpolyChecksRow : OpenClaim := { program := "ytijohnkgomcdbaagreat", sum := "9d0b24cb18a9f722476e9d5878fc6dd23525cf693d9e15d577ac427c88d51d08", func := "galois/galoislaw31.FieldpolyChecks", spec := "fieldpolyChecks", inPlace := ["math/bits.Add64", "math/bits.Sub64"], unfollowed := true, recurses := true, named := ["math/bits.divideError", "math/bits.overflowError"], apart := false }
def FieldpolyChecksSaid : Prop := fieldpolyChecksRow.holds Tryz.pinned (OpenSpec.ofChange fieldpolyChecksSpec)

/-- ITS FALSE NEIGHBOUR: 'it returns false'. Refute it at one input. -/
def fieldpolyChecksWrong : ChangeSpec := { name := "fieldpolyChecks", fn := fun _ => fun
  | [d1, d2, d3] => { results := [.lit (.bool false)], args := [d1, d2, d3] }
  | _ => none }
def FieldpolyChecksWrongFalsely : Prop := fieldpolyChecksRow.holds Tryz.pinned (OpenSpec.ofChange fieldpolyChecksWrong)

/- THE SECOND FORM. 'bulk': how many values and letters a reading holds, each counted each time it is reached (what is shared counts as often as it is met; a slice's spare places count too). A statement '..UptoSaid' is the law's where the arguments, and the package variables that the reading takes, are together of bulk at most 1048576: NARROWER than '..Said'. Prove '..Said' where nothing that the law and all that it calls make is longer than what came in: it says more and counts as full. Else prove '..UptoSaid'. A law counts once. -/
mutual
def uptoBulk {H : Type} : DataW H → Nat
  | .lit (.string bytes) => bytes.length + 1
  | .lit _ => 1
  | .nil => 1
  | .ptr d => uptoBulk d + 1
  | .slice elems spare => uptoBulkAll elems + uptoBulkAll spare + 1
  | .agg parts => uptoBulkAll parts + 1
  | .iface _ d => uptoBulk d + 1
  | .map entries => uptoBulkEntries entries + 1
  | .held _ => 1
def uptoBulkAll {H : Type} : List (DataW H) → Nat
  | [] => 0
  | d :: r => uptoBulk d + uptoBulkAll r
def uptoBulkEntries {H : Type} : List (Lit × DataW H) → Nat
  | [] => 0
  | x :: r => uptoBulkEntry x + uptoBulkEntries r
def uptoBulkEntry {H : Type} : Lit × DataW H → Nat
  | (.string bytes, d) => bytes.length + uptoBulk d + 1
  | (_, d) => uptoBulk d + 1
 end
def uptoSmall : (H : Type) → List (DataW H) → Bool := fun _ ds => decide (uptoBulkAll ds ≤ 1048576)
def OpenSpec.upto (s : _root_.Go.ChangeSpec) : _root_.Go.OpenSpec := { _root_.Go.OpenSpec.ofChange s with cond := some uptoSmall }

/-- 'galoislaw31.FieldpolyNorms', WHERE WHAT IT READS IS OF BULK AT MOST 1048576: true; the input reads as it did. -/
def fieldpolyNormsUptoRow : OpenClaim := { program := "ytijohnkgomcdbaagreat", sum := "9d0b24cb18a9f722476e9d5878fc6dd23525cf693d9e15d577ac427c88d51d08", func := "galois/galoislaw31.FieldpolyNorms", spec := "fieldpolyNorms", inPlace := ["math/bits.Add64", "math/bits.Sub64"], unfollowed := true, recurses := true, named := ["math/bits.divideError", "math/bits.overflowError"], apart := false, narrowed := true }
def FieldpolyNormsUptoSaid : Prop := fieldpolyNormsUptoRow.holds Tryz.pinned (OpenSpec.upto fieldpolyNormsSpec)

/-- 'galoislaw31.FieldpolyBounds', WHERE WHAT IT READS IS OF BULK AT MOST 1048576: true; the input reads as it did. -/
def fieldpolyBoundsUptoRow : OpenClaim := { program := "ytijohnkgomcdbaagreat", sum := "9d0b24cb18a9f722476e9d5878fc6dd23525cf693d9e15d577ac427c88d51d08", func := "galois/galoislaw31.FieldpolyBounds", spec := "fieldpolyBounds", inPlace := ["math/bits.Add64", "math/bits.Sub64"], unfollowed := true, recurses := true, named := ["math/bits.divideError", "math/bits.overflowError"], apart := false, narrowed := true }
def FieldpolyBoundsUptoSaid : Prop := fieldpolyBoundsUptoRow.holds Tryz.pinned (OpenSpec.upto fieldpolyBoundsSpec)

/-- 'galoislaw31.FieldpolyRemainders', WHERE WHAT IT READS IS OF BULK AT MOST 1048576: true; the input reads as it did. -/
def fieldpolyRemaindersUptoRow : OpenClaim := { program := "ytijohnkgomcdbaagreat", sum := "9d0b24cb18a9f722476e9d5878fc6dd23525cf693d9e15d577ac427c88d51d08", func := "galois/galoislaw31.FieldpolyRemainders", spec := "fieldpolyRemainders", inPlace := ["math/bits.Add64", "math/bits.Sub64"], unfollowed := true, recurses := true, named := ["math/bits.divideError", "math/bits.overflowError"], apart := false, narrowed := true }
def FieldpolyRemaindersUptoSaid : Prop := fieldpolyRemaindersUptoRow.holds Tryz.pinned (OpenSpec.upto fieldpolyRemaindersSpec)

/-- 'galoislaw31.FieldpolyDivides', WHERE WHAT IT READS IS OF BULK AT MOST 1048576: true; the input reads as it did. -/
def fieldpolyDividesUptoRow : OpenClaim := { program := "ytijohnkgomcdbaagreat", sum := "9d0b24cb18a9f722476e9d5878fc6dd23525cf693d9e15d577ac427c88d51d08", func := "galois/galoislaw31.FieldpolyDivides", spec := "fieldpolyDivides", inPlace := ["math/bits.Add64", "math/bits.Sub64"], unfollowed := true, recurses := true, named := ["math/bits.divideError", "math/bits.overflowError"], apart := false, narrowed := true }
def FieldpolyDividesUptoSaid : Prop := fieldpolyDividesUptoRow.holds Tryz.pinned (OpenSpec.upto fieldpolyDividesSpec)

/-- 'galoislaw31.FieldpolyNormRules', WHERE WHAT IT READS IS OF BULK AT MOST 1048576: true; the input reads as it did. -/
def fieldpolyNormRulesUptoRow : OpenClaim := { program := "ytijohnkgomcdbaagreat", sum := "9d0b24cb18a9f722476e9d5878fc6dd23525cf693d9e15d577ac427c88d51d08", func := "galois/galoislaw31.FieldpolyNormRules", spec := "fieldpolyNormRules", inPlace := ["math/bits.Add64", "math/bits.Sub64"], unfollowed := true, recurses := true, named := ["math/bits.divideError", "math/bits.overflowError"], apart := false, narrowed := true }
def FieldpolyNormRulesUptoSaid : Prop := fieldpolyNormRulesUptoRow.holds Tryz.pinned (OpenSpec.upto fieldpolyNormRulesSpec)

/-- 'galoislaw31.FieldpolyShifts', WHERE WHAT IT READS IS OF BULK AT MOST 1048576: true; the input reads as it did. -/
def fieldpolyShiftsUptoRow : OpenClaim := { program := "ytijohnkgomcdbaagreat", sum := "9d0b24cb18a9f722476e9d5878fc6dd23525cf693d9e15d577ac427c88d51d08", func := "galois/galoislaw31.FieldpolyShifts", spec := "fieldpolyShifts", inPlace := ["math/bits.Add64", "math/bits.Sub64"], unfollowed := true, recurses := true, named := ["math/bits.divideError", "math/bits.overflowError"], apart := false, narrowed := true }
def FieldpolyShiftsUptoSaid : Prop := fieldpolyShiftsUptoRow.holds Tryz.pinned (OpenSpec.upto fieldpolyShiftsSpec)

/-- 'galoislaw31.FieldpolyValues', WHERE WHAT IT READS IS OF BULK AT MOST 1048576: true; the input reads as it did. -/
def fieldpolyValuesUptoRow : OpenClaim := { program := "ytijohnkgomcdbaagreat", sum := "9d0b24cb18a9f722476e9d5878fc6dd23525cf693d9e15d577ac427c88d51d08", func := "galois/galoislaw31.FieldpolyValues", spec := "fieldpolyValues", inPlace := ["math/bits.Add64", "math/bits.Sub64"], unfollowed := true, recurses := true, named := ["math/bits.divideError", "math/bits.overflowError"], apart := false, narrowed := true }
def FieldpolyValuesUptoSaid : Prop := fieldpolyValuesUptoRow.holds Tryz.pinned (OpenSpec.upto fieldpolyValuesSpec)

/-- 'galoislaw31.FieldpolyArithmetic', WHERE WHAT IT READS IS OF BULK AT MOST 1048576: true; the input reads as it did. -/
def fieldpolyArithmeticUptoRow : OpenClaim := { program := "ytijohnkgomcdbaagreat", sum := "9d0b24cb18a9f722476e9d5878fc6dd23525cf693d9e15d577ac427c88d51d08", func := "galois/galoislaw31.FieldpolyArithmetic", spec := "fieldpolyArithmetic", inPlace := ["math/bits.Add64", "math/bits.Sub64"], unfollowed := true, recurses := true, named := ["math/bits.divideError", "math/bits.overflowError"], apart := false, narrowed := true }
def FieldpolyArithmeticUptoSaid : Prop := fieldpolyArithmeticUptoRow.holds Tryz.pinned (OpenSpec.upto fieldpolyArithmeticSpec)

/-- 'galoislaw31.FieldpolyChecks', WHERE WHAT IT READS IS OF BULK AT MOST 1048576: true; the input reads as it did. -/
def fieldpolyChecksUptoRow : OpenClaim := { program := "ytijohnkgomcdbaagreat", sum := "9d0b24cb18a9f722476e9d5878fc6dd23525cf693d9e15d577ac427c88d51d08", func := "galois/galoislaw31.FieldpolyChecks", spec := "fieldpolyChecks", inPlace := ["math/bits.Add64", "math/bits.Sub64"], unfollowed := true, recurses := true, named := ["math/bits.divideError", "math/bits.overflowError"], apart := false, narrowed := true }
def FieldpolyChecksUptoSaid : Prop := fieldpolyChecksUptoRow.holds Tryz.pinned (OpenSpec.upto fieldpolyChecksSpec)

end Rows
end Go.Proofs.YtijohnkgomcdbaaGreat
