/-
  No cell of these rows narrows 'for every input' (looked for: loops, veiled, ifaces, maps, wideKeys, modest, calm, conditions, laid).
  DERIVED. THE GIVEN ROWS OF THIS SEAT. 9 by the template 'for every input the law returns true; each argument reads behind the call as it read before'; 0 by the template 'total and deterministic' (their statements: YtohkmnbnjacfaaaTotals.lean).
  GIVEN WITH THE SEED: the statements are not yours to turn. If you find one false, say at which input.
  Laid BY PROGRAM, IN A SANDBOX (cutbox-rows.mjs): the forced cells as the released guide's own fill.sh prints them over the translation d4314839cfc81cd0… (all of the seat's roots in one cut). By AI agents, Wed Nov 11 2026. No macro, syntax, notation, axiom, sorry.
-/
import Derived.Test.YtohkmnbnjacfaaaChecked
import GoSem.Claim
import GoSem.ClaimJoined
import GoSem.ClaimMapViews
import Derived.JoinedTies
import Derived.KernelRfl
namespace Go.Proofs.Ytohkmnbnjacfaaa
/- THE CELL 'sum', in the pinned program and in every row, IS THE sha256 OF THE DUMP (.gsa) THAT YtohkmnbnjacfaaaProg.lean LOADS. Nothing in Lean hashes anything: it is a label: what it is worth is what the hold of that sum in a sandbox is worth. -/
noncomputable def Try.pinned : Pinned := { name := "ytohkmnbnjacfaaa", sum := "d4314839cfc81cd072e790f85131e66956a4789956d2d510c6d4a0c02b0dc33c", checked := Try.checked }
namespace Rows
def none {H : Type} : Left H := { results := [], args := [] }

/-- 'galoislaw01.NaturalQuotients': WHATEVER THE INPUT: true; the input reads as it did. -/
def naturalQuotientsSpec : ChangeSpec := { name := "naturalQuotients", fn := fun _ => fun
  | [d1, d2] => { results := [.lit (.bool true)], args := [d1, d2] }
  | _ => none }
def naturalQuotientsRow : OpenClaim := { program := "ytohkmnbnjacfaaa", sum := "d4314839cfc81cd072e790f85131e66956a4789956d2d510c6d4a0c02b0dc33c", func := "galois/galoislaw01.NaturalQuotients", spec := "naturalQuotients", inPlace := ["math/bits.Add64", "math/bits.Sub64"], named := ["math/bits.divideError", "math/bits.overflowError"], apart := false }
def NaturalQuotientsSaid : Prop := naturalQuotientsRow.holds Try.pinned (OpenSpec.ofChange naturalQuotientsSpec)

/-- ITS FALSE NEIGHBOUR: 'it returns false'. Refute it at one input. -/
def naturalQuotientsWrong : ChangeSpec := { name := "naturalQuotients", fn := fun _ => fun
  | [d1, d2] => { results := [.lit (.bool false)], args := [d1, d2] }
  | _ => none }
def NaturalQuotientsWrongFalsely : Prop := naturalQuotientsRow.holds Try.pinned (OpenSpec.ofChange naturalQuotientsWrong)

/-- 'galoislaw01.NaturalPowers': WHATEVER THE INPUT: true; the input reads as it did. -/
def naturalPowersSpec : ChangeSpec := { name := "naturalPowers", fn := fun _ => fun
  | [d1, d2] => { results := [.lit (.bool true)], args := [d1, d2] }
  | _ => none }
def naturalPowersRow : OpenClaim := { program := "ytohkmnbnjacfaaa", sum := "d4314839cfc81cd072e790f85131e66956a4789956d2d510c6d4a0c02b0dc33c", func := "galois/galoislaw01.NaturalPowers", spec := "naturalPowers", inPlace := ["math/bits.Add64", "math/bits.Sub64"], named := ["math/bits.divideError", "math/bits.overflowError"], apart := false }
def NaturalPowersSaid : Prop := naturalPowersRow.holds Try.pinned (OpenSpec.ofChange naturalPowersSpec)

/-- ITS FALSE NEIGHBOUR: 'it returns false'. Refute it at one input. -/
def naturalPowersWrong : ChangeSpec := { name := "naturalPowers", fn := fun _ => fun
  | [d1, d2] => { results := [.lit (.bool false)], args := [d1, d2] }
  | _ => none }
def NaturalPowersWrongFalsely : Prop := naturalPowersRow.holds Try.pinned (OpenSpec.ofChange naturalPowersWrong)

/-- 'galoislaw01.NaturalScales': WHATEVER THE INPUT: true; the input reads as it did. -/
def naturalScalesSpec : ChangeSpec := { name := "naturalScales", fn := fun _ => fun
  | [d1, d2, d3] => { results := [.lit (.bool true)], args := [d1, d2, d3] }
  | _ => none }
def naturalScalesRow : OpenClaim := { program := "ytohkmnbnjacfaaa", sum := "d4314839cfc81cd072e790f85131e66956a4789956d2d510c6d4a0c02b0dc33c", func := "galois/galoislaw01.NaturalScales", spec := "naturalScales", inPlace := ["math/bits.Add64", "math/bits.Sub64"], named := ["math/bits.divideError", "math/bits.overflowError"], apart := false }
def NaturalScalesSaid : Prop := naturalScalesRow.holds Try.pinned (OpenSpec.ofChange naturalScalesSpec)

/-- ITS FALSE NEIGHBOUR: 'it returns false'. Refute it at one input. -/
def naturalScalesWrong : ChangeSpec := { name := "naturalScales", fn := fun _ => fun
  | [d1, d2, d3] => { results := [.lit (.bool false)], args := [d1, d2, d3] }
  | _ => none }
def NaturalScalesWrongFalsely : Prop := naturalScalesRow.holds Try.pinned (OpenSpec.ofChange naturalScalesWrong)

/-- 'galoislaw01.NaturalMachine': WHATEVER THE INPUT: true; the input reads as it did. -/
def naturalMachineSpec : ChangeSpec := { name := "naturalMachine", fn := fun _ => fun
  | [d1, d2] => { results := [.lit (.bool true)], args := [d1, d2] }
  | _ => none }
def naturalMachineRow : OpenClaim := { program := "ytohkmnbnjacfaaa", sum := "d4314839cfc81cd072e790f85131e66956a4789956d2d510c6d4a0c02b0dc33c", func := "galois/galoislaw01.NaturalMachine", spec := "naturalMachine", inPlace := ["math/bits.Add64", "math/bits.Sub64"], named := ["math/bits.divideError", "math/bits.overflowError"], apart := false }
def NaturalMachineSaid : Prop := naturalMachineRow.holds Try.pinned (OpenSpec.ofChange naturalMachineSpec)

/-- ITS FALSE NEIGHBOUR: 'it returns false'. Refute it at one input. -/
def naturalMachineWrong : ChangeSpec := { name := "naturalMachine", fn := fun _ => fun
  | [d1, d2] => { results := [.lit (.bool false)], args := [d1, d2] }
  | _ => none }
def NaturalMachineWrongFalsely : Prop := naturalMachineRow.holds Try.pinned (OpenSpec.ofChange naturalMachineWrong)

/-- 'galoislaw01.NaturalRoots': WHATEVER THE INPUT: true; the input reads as it did. -/
def naturalRootsSpec : ChangeSpec := { name := "naturalRoots", fn := fun _ => fun
  | [d1, d2] => { results := [.lit (.bool true)], args := [d1, d2] }
  | _ => none }
def naturalRootsRow : OpenClaim := { program := "ytohkmnbnjacfaaa", sum := "d4314839cfc81cd072e790f85131e66956a4789956d2d510c6d4a0c02b0dc33c", func := "galois/galoislaw01.NaturalRoots", spec := "naturalRoots", inPlace := ["math/bits.Add64", "math/bits.Sub64"], named := ["math/bits.divideError", "math/bits.overflowError"], apart := false }
def NaturalRootsSaid : Prop := naturalRootsRow.holds Try.pinned (OpenSpec.ofChange naturalRootsSpec)

/-- ITS FALSE NEIGHBOUR: 'it returns false'. Refute it at one input. -/
def naturalRootsWrong : ChangeSpec := { name := "naturalRoots", fn := fun _ => fun
  | [d1, d2] => { results := [.lit (.bool false)], args := [d1, d2] }
  | _ => none }
def NaturalRootsWrongFalsely : Prop := naturalRootsRow.holds Try.pinned (OpenSpec.ofChange naturalRootsWrong)

/-- 'galoislaw01.NaturalRing': WHATEVER THE INPUT: true; the input reads as it did. -/
def naturalRingSpec : ChangeSpec := { name := "naturalRing", fn := fun _ => fun
  | [d1, d2, d3] => { results := [.lit (.bool true)], args := [d1, d2, d3] }
  | _ => none }
def naturalRingRow : OpenClaim := { program := "ytohkmnbnjacfaaa", sum := "d4314839cfc81cd072e790f85131e66956a4789956d2d510c6d4a0c02b0dc33c", func := "galois/galoislaw01.NaturalRing", spec := "naturalRing", inPlace := ["math/bits.Add64", "math/bits.Sub64"], named := ["math/bits.divideError", "math/bits.overflowError"], apart := false }
def NaturalRingSaid : Prop := naturalRingRow.holds Try.pinned (OpenSpec.ofChange naturalRingSpec)

/-- ITS FALSE NEIGHBOUR: 'it returns false'. Refute it at one input. -/
def naturalRingWrong : ChangeSpec := { name := "naturalRing", fn := fun _ => fun
  | [d1, d2, d3] => { results := [.lit (.bool false)], args := [d1, d2, d3] }
  | _ => none }
def NaturalRingWrongFalsely : Prop := naturalRingRow.holds Try.pinned (OpenSpec.ofChange naturalRingWrong)

/-- 'galoislaw01.NaturalSums': WHATEVER THE INPUT: true; the input reads as it did. -/
def naturalSumsSpec : ChangeSpec := { name := "naturalSums", fn := fun _ => fun
  | [d1, d2] => { results := [.lit (.bool true)], args := [d1, d2] }
  | _ => none }
def naturalSumsRow : OpenClaim := { program := "ytohkmnbnjacfaaa", sum := "d4314839cfc81cd072e790f85131e66956a4789956d2d510c6d4a0c02b0dc33c", func := "galois/galoislaw01.NaturalSums", spec := "naturalSums", inPlace := ["math/bits.Add64", "math/bits.Sub64"], named := ["math/bits.divideError", "math/bits.overflowError"], apart := false }
def NaturalSumsSaid : Prop := naturalSumsRow.holds Try.pinned (OpenSpec.ofChange naturalSumsSpec)

/-- ITS FALSE NEIGHBOUR: 'it returns false'. Refute it at one input. -/
def naturalSumsWrong : ChangeSpec := { name := "naturalSums", fn := fun _ => fun
  | [d1, d2] => { results := [.lit (.bool false)], args := [d1, d2] }
  | _ => none }
def NaturalSumsWrongFalsely : Prop := naturalSumsRow.holds Try.pinned (OpenSpec.ofChange naturalSumsWrong)

/-- 'galoislaw01.NaturalDivides': WHATEVER THE INPUT: true; the input reads as it did. -/
def naturalDividesSpec : ChangeSpec := { name := "naturalDivides", fn := fun _ => fun
  | [d1, d2] => { results := [.lit (.bool true)], args := [d1, d2] }
  | _ => none }
def naturalDividesRow : OpenClaim := { program := "ytohkmnbnjacfaaa", sum := "d4314839cfc81cd072e790f85131e66956a4789956d2d510c6d4a0c02b0dc33c", func := "galois/galoislaw01.NaturalDivides", spec := "naturalDivides", inPlace := ["math/bits.Add64", "math/bits.Sub64"], named := ["math/bits.divideError", "math/bits.overflowError"], apart := false }
def NaturalDividesSaid : Prop := naturalDividesRow.holds Try.pinned (OpenSpec.ofChange naturalDividesSpec)

/-- ITS FALSE NEIGHBOUR: 'it returns false'. Refute it at one input. -/
def naturalDividesWrong : ChangeSpec := { name := "naturalDivides", fn := fun _ => fun
  | [d1, d2] => { results := [.lit (.bool false)], args := [d1, d2] }
  | _ => none }
def NaturalDividesWrongFalsely : Prop := naturalDividesRow.holds Try.pinned (OpenSpec.ofChange naturalDividesWrong)

/-- 'galoislaw01.NaturalTexts': WHATEVER THE INPUT: true; the input reads as it did. -/
def naturalTextsSpec : ChangeSpec := { name := "naturalTexts", fn := fun _ => fun
  | [d1, d2] => { results := [.lit (.bool true)], args := [d1, d2] }
  | _ => none }
def naturalTextsRow : OpenClaim := { program := "ytohkmnbnjacfaaa", sum := "d4314839cfc81cd072e790f85131e66956a4789956d2d510c6d4a0c02b0dc33c", func := "galois/galoislaw01.NaturalTexts", spec := "naturalTexts", inPlace := ["math/bits.Add64", "math/bits.Sub64"], named := ["math/bits.divideError", "math/bits.overflowError"], apart := false }
def NaturalTextsSaid : Prop := naturalTextsRow.holds Try.pinned (OpenSpec.ofChange naturalTextsSpec)

/-- ITS FALSE NEIGHBOUR: 'it returns false'. Refute it at one input. -/
def naturalTextsWrong : ChangeSpec := { name := "naturalTexts", fn := fun _ => fun
  | [d1, d2] => { results := [.lit (.bool false)], args := [d1, d2] }
  | _ => none }
def NaturalTextsWrongFalsely : Prop := naturalTextsRow.holds Try.pinned (OpenSpec.ofChange naturalTextsWrong)

/- THE SECOND FORM. 'bulk': how many values and letters a reading holds, each counted each time it is reached (what is shared counts as often as it is met; a slice's spare places count too). A statement '..UptoSaid' is the law's where the arguments, and the package variables that the reading takes, are together of bulk at most 1048576: NARROWER than '..Said'. Prove '..Said' where nothing that the law and all that it calls make is longer than what came in: it says more and counts as full. Else prove '..UptoSaid'. A law counts once. -/
mutual
def uptoBulk {H : Type} : DataW H → Nat
  | .lit (.string bytes) => bytes.length + 1
  | .lit _ => 1
  | .nil => 1
  | .ptr d => uptoBulk d + 1
  | .slice elems spare => uptoBulkAll elems + uptoBulkAll spare + 1
  | .agg parts => uptoBulkAll parts + 1
  | .iface _ d => uptoBulk d + 1
  | .map entries => uptoBulkEntries entries + 1
  | .held _ => 1
def uptoBulkAll {H : Type} : List (DataW H) → Nat
  | [] => 0
  | d :: r => uptoBulk d + uptoBulkAll r
def uptoBulkEntries {H : Type} : List (Lit × DataW H) → Nat
  | [] => 0
  | x :: r => uptoBulkEntry x + uptoBulkEntries r
def uptoBulkEntry {H : Type} : Lit × DataW H → Nat
  | (.string bytes, d) => bytes.length + uptoBulk d + 1
  | (_, d) => uptoBulk d + 1
 end
def uptoSmall : (H : Type) → List (DataW H) → Bool := fun _ ds => decide (uptoBulkAll ds ≤ 1048576)
def OpenSpec.upto (s : _root_.Go.ChangeSpec) : _root_.Go.OpenSpec := { _root_.Go.OpenSpec.ofChange s with cond := some uptoSmall }

/-- 'galoislaw01.NaturalQuotients', WHERE WHAT IT READS IS OF BULK AT MOST 1048576: true; the input reads as it did. -/
def naturalQuotientsUptoRow : OpenClaim := { program := "ytohkmnbnjacfaaa", sum := "d4314839cfc81cd072e790f85131e66956a4789956d2d510c6d4a0c02b0dc33c", func := "galois/galoislaw01.NaturalQuotients", spec := "naturalQuotients", inPlace := ["math/bits.Add64", "math/bits.Sub64"], named := ["math/bits.divideError", "math/bits.overflowError"], apart := false, narrowed := true }
def NaturalQuotientsUptoSaid : Prop := naturalQuotientsUptoRow.holds Try.pinned (OpenSpec.upto naturalQuotientsSpec)

/-- 'galoislaw01.NaturalPowers', WHERE WHAT IT READS IS OF BULK AT MOST 1048576: true; the input reads as it did. -/
def naturalPowersUptoRow : OpenClaim := { program := "ytohkmnbnjacfaaa", sum := "d4314839cfc81cd072e790f85131e66956a4789956d2d510c6d4a0c02b0dc33c", func := "galois/galoislaw01.NaturalPowers", spec := "naturalPowers", inPlace := ["math/bits.Add64", "math/bits.Sub64"], named := ["math/bits.divideError", "math/bits.overflowError"], apart := false, narrowed := true }
def NaturalPowersUptoSaid : Prop := naturalPowersUptoRow.holds Try.pinned (OpenSpec.upto naturalPowersSpec)

/-- 'galoislaw01.NaturalScales', WHERE WHAT IT READS IS OF BULK AT MOST 1048576: true; the input reads as it did. -/
def naturalScalesUptoRow : OpenClaim := { program := "ytohkmnbnjacfaaa", sum := "d4314839cfc81cd072e790f85131e66956a4789956d2d510c6d4a0c02b0dc33c", func := "galois/galoislaw01.NaturalScales", spec := "naturalScales", inPlace := ["math/bits.Add64", "math/bits.Sub64"], named := ["math/bits.divideError", "math/bits.overflowError"], apart := false, narrowed := true }
def NaturalScalesUptoSaid : Prop := naturalScalesUptoRow.holds Try.pinned (OpenSpec.upto naturalScalesSpec)

/-- 'galoislaw01.NaturalMachine', WHERE WHAT IT READS IS OF BULK AT MOST 1048576: true; the input reads as it did. -/
def naturalMachineUptoRow : OpenClaim := { program := "ytohkmnbnjacfaaa", sum := "d4314839cfc81cd072e790f85131e66956a4789956d2d510c6d4a0c02b0dc33c", func := "galois/galoislaw01.NaturalMachine", spec := "naturalMachine", inPlace := ["math/bits.Add64", "math/bits.Sub64"], named := ["math/bits.divideError", "math/bits.overflowError"], apart := false, narrowed := true }
def NaturalMachineUptoSaid : Prop := naturalMachineUptoRow.holds Try.pinned (OpenSpec.upto naturalMachineSpec)

/-- 'galoislaw01.NaturalRoots', WHERE WHAT IT READS IS OF BULK AT MOST 1048576: true; the input reads as it did. -/
def naturalRootsUptoRow : OpenClaim := { program := "ytohkmnbnjacfaaa", sum := "d4314839cfc81cd072e790f85131e66956a4789956d2d510c6d4a0c02b0dc33c", func := "galois/galoislaw01.NaturalRoots", spec := "naturalRoots", inPlace := ["math/bits.Add64", "math/bits.Sub64"], named := ["math/bits.divideError", "math/bits.overflowError"], apart := false, narrowed := true }
def NaturalRootsUptoSaid : Prop := naturalRootsUptoRow.holds Try.pinned (OpenSpec.upto naturalRootsSpec)

/-- 'galoislaw01.NaturalRing', WHERE WHAT IT READS IS OF BULK AT MOST 1048576: true; the input reads as it did. -/
def naturalRingUptoRow : OpenClaim := { program := "ytohkmnbnjacfaaa", sum := "d4314839cfc81cd072e790f85131e66956a4789956d2d510c6d4a0c02b0dc33c", func := "galois/galoislaw01.NaturalRing", spec := "naturalRing", inPlace := ["math/bits.Add64", "math/bits.Sub64"], named := ["math/bits.divideError", "math/bits.overflowError"], apart := false, narrowed := true }
def NaturalRingUptoSaid : Prop := naturalRingUptoRow.holds Try.pinned (OpenSpec.upto naturalRingSpec)

/-- 'galoislaw01.NaturalSums', WHERE WHAT IT READS IS OF BULK AT MOST 1048576: true; the input reads as it did. -/
def naturalSumsUptoRow : OpenClaim := { program := "ytohkmnbnjacfaaa", sum := "d4314839cfc81cd072e790f85131e66956a4789956d2d510c6d4a0c02b0dc33c", func := "galois/galoislaw01.NaturalSums", spec := "naturalSums", inPlace := ["math/bits.Add64", "math/bits.Sub64"], named := ["math/bits.divideError", "math/bits.overflowError"], apart := false, narrowed := true }
def NaturalSumsUptoSaid : Prop := naturalSumsUptoRow.holds Try.pinned (OpenSpec.upto naturalSumsSpec)

/-- 'galoislaw01.NaturalDivides', WHERE WHAT IT READS IS OF BULK AT MOST 1048576: true; the input reads as it did. -/
def naturalDividesUptoRow : OpenClaim := { program := "ytohkmnbnjacfaaa", sum := "d4314839cfc81cd072e790f85131e66956a4789956d2d510c6d4a0c02b0dc33c", func := "galois/galoislaw01.NaturalDivides", spec := "naturalDivides", inPlace := ["math/bits.Add64", "math/bits.Sub64"], named := ["math/bits.divideError", "math/bits.overflowError"], apart := false, narrowed := true }
def NaturalDividesUptoSaid : Prop := naturalDividesUptoRow.holds Try.pinned (OpenSpec.upto naturalDividesSpec)

/-- 'galoislaw01.NaturalTexts', WHERE WHAT IT READS IS OF BULK AT MOST 1048576: true; the input reads as it did. -/
def naturalTextsUptoRow : OpenClaim := { program := "ytohkmnbnjacfaaa", sum := "d4314839cfc81cd072e790f85131e66956a4789956d2d510c6d4a0c02b0dc33c", func := "galois/galoislaw01.NaturalTexts", spec := "naturalTexts", inPlace := ["math/bits.Add64", "math/bits.Sub64"], named := ["math/bits.divideError", "math/bits.overflowError"], apart := false, narrowed := true }
def NaturalTextsUptoSaid : Prop := naturalTextsUptoRow.holds Try.pinned (OpenSpec.upto naturalTextsSpec)

end Rows
end Go.Proofs.Ytohkmnbnjacfaaa
