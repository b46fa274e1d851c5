/-
  No cell of these rows narrows 'for every input' (looked for: loops, veiled, ifaces, maps, wideKeys, modest, calm, conditions, laid).
  DERIVED. THE GIVEN ROWS OF THIS SEAT. 9 by the template 'for every input the law returns true; each argument reads behind the call as it read before'; 0 by the template 'total and deterministic' (their statements: YtdhdfcjpeflinaaTotals.lean).
  GIVEN WITH THE SEED: the statements are not yours to turn. If you find one false, say at which input.
  Laid BY PROGRAM, IN A SANDBOX (cutbox-rows.mjs): the forced cells as the released guide's own fill.sh prints them over the translation 77ee5896988b60d7… (all of the seat's roots in one cut). By AI agents, Wed Nov 11 2026. No macro, syntax, notation, axiom, sorry.
-/
import Derived.Test.YtdhdfcjpeflinaaChecked
import GoSem.Claim
import GoSem.ClaimJoined
import GoSem.ClaimMapViews
import Derived.JoinedTies
import Derived.KernelRfl
namespace Go.Proofs.Ytdhdfcjpeflinaa
/- THE CELL 'sum', in the pinned program and in every row, IS THE sha256 OF THE DUMP (.gsa) THAT YtdhdfcjpeflinaaProg.lean LOADS. Nothing in Lean hashes anything: it is a label: what it is worth is what the hold of that sum in a sandbox is worth. -/
noncomputable def Try.pinned : Pinned := { name := "ytdhdfcjpeflinaa", sum := "77ee5896988b60d7890e7e12eab9069c48eece7beb150d54dfebc50c4691a1b8", checked := Try.checked }
namespace Rows
def none {H : Type} : Left H := { results := [], args := [] }

/-- 'galoislaw02.IntegerQuotients': WHATEVER THE INPUT: true; the input reads as it did. -/
def integerQuotientsSpec : ChangeSpec := { name := "integerQuotients", fn := fun _ => fun
  | [d1, d2, d3] => { results := [.lit (.bool true)], args := [d1, d2, d3] }
  | _ => none }
def integerQuotientsRow : OpenClaim := { program := "ytdhdfcjpeflinaa", sum := "77ee5896988b60d7890e7e12eab9069c48eece7beb150d54dfebc50c4691a1b8", func := "galois/galoislaw02.IntegerQuotients", spec := "integerQuotients", inPlace := ["math/bits.Add64", "math/bits.Sub64"], unfollowed := true, recurses := true, named := ["math/bits.divideError", "math/bits.overflowError"], apart := false }
def IntegerQuotientsSaid : Prop := integerQuotientsRow.holds Try.pinned (OpenSpec.ofChange integerQuotientsSpec)

/-- ITS FALSE NEIGHBOUR: 'it returns false'. Refute it at one input. -/
def integerQuotientsWrong : ChangeSpec := { name := "integerQuotients", fn := fun _ => fun
  | [d1, d2, d3] => { results := [.lit (.bool false)], args := [d1, d2, d3] }
  | _ => none }
def IntegerQuotientsWrongFalsely : Prop := integerQuotientsRow.holds Try.pinned (OpenSpec.ofChange integerQuotientsWrong)

/-- 'galoislaw02.IntegerPowers': WHATEVER THE INPUT: true; the input reads as it did. -/
def integerPowersSpec : ChangeSpec := { name := "integerPowers", fn := fun _ => fun
  | [d1, d2] => { results := [.lit (.bool true)], args := [d1, d2] }
  | _ => none }
def integerPowersRow : OpenClaim := { program := "ytdhdfcjpeflinaa", sum := "77ee5896988b60d7890e7e12eab9069c48eece7beb150d54dfebc50c4691a1b8", func := "galois/galoislaw02.IntegerPowers", spec := "integerPowers", inPlace := ["math/bits.Add64", "math/bits.Sub64"], unfollowed := true, recurses := true, named := ["math/bits.divideError", "math/bits.overflowError"], apart := false }
def IntegerPowersSaid : Prop := integerPowersRow.holds Try.pinned (OpenSpec.ofChange integerPowersSpec)

/-- ITS FALSE NEIGHBOUR: 'it returns false'. Refute it at one input. -/
def integerPowersWrong : ChangeSpec := { name := "integerPowers", fn := fun _ => fun
  | [d1, d2] => { results := [.lit (.bool false)], args := [d1, d2] }
  | _ => none }
def IntegerPowersWrongFalsely : Prop := integerPowersRow.holds Try.pinned (OpenSpec.ofChange integerPowersWrong)

/-- 'galoislaw02.IntegerSquares': WHATEVER THE INPUT: true; the input reads as it did. -/
def integerSquaresSpec : ChangeSpec := { name := "integerSquares", fn := fun _ => fun
  | [d1, d2] => { results := [.lit (.bool true)], args := [d1, d2] }
  | _ => none }
def integerSquaresRow : OpenClaim := { program := "ytdhdfcjpeflinaa", sum := "77ee5896988b60d7890e7e12eab9069c48eece7beb150d54dfebc50c4691a1b8", func := "galois/galoislaw02.IntegerSquares", spec := "integerSquares", inPlace := ["math/bits.Add64", "math/bits.Sub64"], unfollowed := true, recurses := true, named := ["math/bits.divideError", "math/bits.overflowError"], apart := false }
def IntegerSquaresSaid : Prop := integerSquaresRow.holds Try.pinned (OpenSpec.ofChange integerSquaresSpec)

/-- ITS FALSE NEIGHBOUR: 'it returns false'. Refute it at one input. -/
def integerSquaresWrong : ChangeSpec := { name := "integerSquares", fn := fun _ => fun
  | [d1, d2] => { results := [.lit (.bool false)], args := [d1, d2] }
  | _ => none }
def IntegerSquaresWrongFalsely : Prop := integerSquaresRow.holds Try.pinned (OpenSpec.ofChange integerSquaresWrong)

/-- 'galoislaw02.IntegerSums': WHATEVER THE INPUT: true; the input reads as it did. -/
def integerSumsSpec : ChangeSpec := { name := "integerSums", fn := fun _ => fun
  | [d1, d2] => { results := [.lit (.bool true)], args := [d1, d2] }
  | _ => none }
def integerSumsRow : OpenClaim := { program := "ytdhdfcjpeflinaa", sum := "77ee5896988b60d7890e7e12eab9069c48eece7beb150d54dfebc50c4691a1b8", func := "galois/galoislaw02.IntegerSums", spec := "integerSums", inPlace := ["math/bits.Add64", "math/bits.Sub64"], unfollowed := true, recurses := true, named := ["math/bits.divideError", "math/bits.overflowError"], apart := false }
def IntegerSumsSaid : Prop := integerSumsRow.holds Try.pinned (OpenSpec.ofChange integerSumsSpec)

/-- ITS FALSE NEIGHBOUR: 'it returns false'. Refute it at one input. -/
def integerSumsWrong : ChangeSpec := { name := "integerSums", fn := fun _ => fun
  | [d1, d2] => { results := [.lit (.bool false)], args := [d1, d2] }
  | _ => none }
def IntegerSumsWrongFalsely : Prop := integerSumsRow.holds Try.pinned (OpenSpec.ofChange integerSumsWrong)

/-- 'galoislaw02.IntegerBezout': WHATEVER THE INPUT: true; the input reads as it did. -/
def integerBezoutSpec : ChangeSpec := { name := "integerBezout", fn := fun _ => fun
  | [d1, d2] => { results := [.lit (.bool true)], args := [d1, d2] }
  | _ => none }
def integerBezoutRow : OpenClaim := { program := "ytdhdfcjpeflinaa", sum := "77ee5896988b60d7890e7e12eab9069c48eece7beb150d54dfebc50c4691a1b8", func := "galois/galoislaw02.IntegerBezout", spec := "integerBezout", inPlace := ["math/bits.Add64", "math/bits.Sub64"], unfollowed := true, recurses := true, named := ["math/bits.divideError", "math/bits.overflowError"], apart := false }
def IntegerBezoutSaid : Prop := integerBezoutRow.holds Try.pinned (OpenSpec.ofChange integerBezoutSpec)

/-- ITS FALSE NEIGHBOUR: 'it returns false'. Refute it at one input. -/
def integerBezoutWrong : ChangeSpec := { name := "integerBezout", fn := fun _ => fun
  | [d1, d2] => { results := [.lit (.bool false)], args := [d1, d2] }
  | _ => none }
def IntegerBezoutWrongFalsely : Prop := integerBezoutRow.holds Try.pinned (OpenSpec.ofChange integerBezoutWrong)

/-- 'galoislaw02.IntegerRing': WHATEVER THE INPUT: true; the input reads as it did. -/
def integerRingSpec : ChangeSpec := { name := "integerRing", fn := fun _ => fun
  | [d1, d2, d3] => { results := [.lit (.bool true)], args := [d1, d2, d3] }
  | _ => none }
def integerRingRow : OpenClaim := { program := "ytdhdfcjpeflinaa", sum := "77ee5896988b60d7890e7e12eab9069c48eece7beb150d54dfebc50c4691a1b8", func := "galois/galoislaw02.IntegerRing", spec := "integerRing", inPlace := ["math/bits.Add64", "math/bits.Sub64"], unfollowed := true, recurses := true, named := ["math/bits.divideError", "math/bits.overflowError"], apart := false }
def IntegerRingSaid : Prop := integerRingRow.holds Try.pinned (OpenSpec.ofChange integerRingSpec)

/-- ITS FALSE NEIGHBOUR: 'it returns false'. Refute it at one input. -/
def integerRingWrong : ChangeSpec := { name := "integerRing", fn := fun _ => fun
  | [d1, d2, d3] => { results := [.lit (.bool false)], args := [d1, d2, d3] }
  | _ => none }
def IntegerRingWrongFalsely : Prop := integerRingRow.holds Try.pinned (OpenSpec.ofChange integerRingWrong)

/-- 'galoislaw02.IntegerSigns': WHATEVER THE INPUT: true; the input reads as it did. -/
def integerSignsSpec : ChangeSpec := { name := "integerSigns", fn := fun _ => fun
  | [d1, d2] => { results := [.lit (.bool true)], args := [d1, d2] }
  | _ => none }
def integerSignsRow : OpenClaim := { program := "ytdhdfcjpeflinaa", sum := "77ee5896988b60d7890e7e12eab9069c48eece7beb150d54dfebc50c4691a1b8", func := "galois/galoislaw02.IntegerSigns", spec := "integerSigns", inPlace := ["math/bits.Add64", "math/bits.Sub64"], unfollowed := true, recurses := true, named := ["math/bits.divideError", "math/bits.overflowError"], apart := false }
def IntegerSignsSaid : Prop := integerSignsRow.holds Try.pinned (OpenSpec.ofChange integerSignsSpec)

/-- ITS FALSE NEIGHBOUR: 'it returns false'. Refute it at one input. -/
def integerSignsWrong : ChangeSpec := { name := "integerSigns", fn := fun _ => fun
  | [d1, d2] => { results := [.lit (.bool false)], args := [d1, d2] }
  | _ => none }
def IntegerSignsWrongFalsely : Prop := integerSignsRow.holds Try.pinned (OpenSpec.ofChange integerSignsWrong)

/-- 'galoislaw02.IntegerDivides': WHATEVER THE INPUT: true; the input reads as it did. -/
def integerDividesSpec : ChangeSpec := { name := "integerDivides", fn := fun _ => fun
  | [d1, d2] => { results := [.lit (.bool true)], args := [d1, d2] }
  | _ => none }
def integerDividesRow : OpenClaim := { program := "ytdhdfcjpeflinaa", sum := "77ee5896988b60d7890e7e12eab9069c48eece7beb150d54dfebc50c4691a1b8", func := "galois/galoislaw02.IntegerDivides", spec := "integerDivides", inPlace := ["math/bits.Add64", "math/bits.Sub64"], unfollowed := true, recurses := true, named := ["math/bits.divideError", "math/bits.overflowError"], apart := false }
def IntegerDividesSaid : Prop := integerDividesRow.holds Try.pinned (OpenSpec.ofChange integerDividesSpec)

/-- ITS FALSE NEIGHBOUR: 'it returns false'. Refute it at one input. -/
def integerDividesWrong : ChangeSpec := { name := "integerDivides", fn := fun _ => fun
  | [d1, d2] => { results := [.lit (.bool false)], args := [d1, d2] }
  | _ => none }
def IntegerDividesWrongFalsely : Prop := integerDividesRow.holds Try.pinned (OpenSpec.ofChange integerDividesWrong)

/-- 'galoislaw02.IntegerTexts': WHATEVER THE INPUT: true; the input reads as it did. -/
def integerTextsSpec : ChangeSpec := { name := "integerTexts", fn := fun _ => fun
  | [d1, d2] => { results := [.lit (.bool true)], args := [d1, d2] }
  | _ => none }
def integerTextsRow : OpenClaim := { program := "ytdhdfcjpeflinaa", sum := "77ee5896988b60d7890e7e12eab9069c48eece7beb150d54dfebc50c4691a1b8", func := "galois/galoislaw02.IntegerTexts", spec := "integerTexts", inPlace := ["math/bits.Add64", "math/bits.Sub64"], unfollowed := true, recurses := true, named := ["math/bits.divideError", "math/bits.overflowError"], apart := false }
def IntegerTextsSaid : Prop := integerTextsRow.holds Try.pinned (OpenSpec.ofChange integerTextsSpec)

/-- ITS FALSE NEIGHBOUR: 'it returns false'. Refute it at one input. -/
def integerTextsWrong : ChangeSpec := { name := "integerTexts", fn := fun _ => fun
  | [d1, d2] => { results := [.lit (.bool false)], args := [d1, d2] }
  | _ => none }
def IntegerTextsWrongFalsely : Prop := integerTextsRow.holds Try.pinned (OpenSpec.ofChange integerTextsWrong)

/- THE SECOND FORM. 'bulk': how many values and letters a reading holds, each counted each time it is reached (what is shared counts as often as it is met; a slice's spare places count too). A statement '..UptoSaid' is the law's where the arguments, and the package variables that the reading takes, are together of bulk at most 1048576: NARROWER than '..Said'. Prove '..Said' where nothing that the law and all that it calls make is longer than what came in: it says more and counts as full. Else prove '..UptoSaid'. A law counts once. -/
mutual
def uptoBulk {H : Type} : DataW H → Nat
  | .lit (.string bytes) => bytes.length + 1
  | .lit _ => 1
  | .nil => 1
  | .ptr d => uptoBulk d + 1
  | .slice elems spare => uptoBulkAll elems + uptoBulkAll spare + 1
  | .agg parts => uptoBulkAll parts + 1
  | .iface _ d => uptoBulk d + 1
  | .map entries => uptoBulkEntries entries + 1
  | .held _ => 1
def uptoBulkAll {H : Type} : List (DataW H) → Nat
  | [] => 0
  | d :: r => uptoBulk d + uptoBulkAll r
def uptoBulkEntries {H : Type} : List (Lit × DataW H) → Nat
  | [] => 0
  | x :: r => uptoBulkEntry x + uptoBulkEntries r
def uptoBulkEntry {H : Type} : Lit × DataW H → Nat
  | (.string bytes, d) => bytes.length + uptoBulk d + 1
  | (_, d) => uptoBulk d + 1
 end
def uptoSmall : (H : Type) → List (DataW H) → Bool := fun _ ds => decide (uptoBulkAll ds ≤ 1048576)
def OpenSpec.upto (s : _root_.Go.ChangeSpec) : _root_.Go.OpenSpec := { _root_.Go.OpenSpec.ofChange s with cond := some uptoSmall }

/-- 'galoislaw02.IntegerQuotients', WHERE WHAT IT READS IS OF BULK AT MOST 1048576: true; the input reads as it did. -/
def integerQuotientsUptoRow : OpenClaim := { program := "ytdhdfcjpeflinaa", sum := "77ee5896988b60d7890e7e12eab9069c48eece7beb150d54dfebc50c4691a1b8", func := "galois/galoislaw02.IntegerQuotients", spec := "integerQuotients", inPlace := ["math/bits.Add64", "math/bits.Sub64"], unfollowed := true, recurses := true, named := ["math/bits.divideError", "math/bits.overflowError"], apart := false, narrowed := true }
def IntegerQuotientsUptoSaid : Prop := integerQuotientsUptoRow.holds Try.pinned (OpenSpec.upto integerQuotientsSpec)

/-- 'galoislaw02.IntegerPowers', WHERE WHAT IT READS IS OF BULK AT MOST 1048576: true; the input reads as it did. -/
def integerPowersUptoRow : OpenClaim := { program := "ytdhdfcjpeflinaa", sum := "77ee5896988b60d7890e7e12eab9069c48eece7beb150d54dfebc50c4691a1b8", func := "galois/galoislaw02.IntegerPowers", spec := "integerPowers", inPlace := ["math/bits.Add64", "math/bits.Sub64"], unfollowed := true, recurses := true, named := ["math/bits.divideError", "math/bits.overflowError"], apart := false, narrowed := true }
def IntegerPowersUptoSaid : Prop := integerPowersUptoRow.holds Try.pinned (OpenSpec.upto integerPowersSpec)

/-- 'galoislaw02.IntegerSquares', WHERE WHAT IT READS IS OF BULK AT MOST 1048576: true; the input reads as it did. -/
def integerSquaresUptoRow : OpenClaim := { program := "ytdhdfcjpeflinaa", sum := "77ee5896988b60d7890e7e12eab9069c48eece7beb150d54dfebc50c4691a1b8", func := "galois/galoislaw02.IntegerSquares", spec := "integerSquares", inPlace := ["math/bits.Add64", "math/bits.Sub64"], unfollowed := true, recurses := true, named := ["math/bits.divideError", "math/bits.overflowError"], apart := false, narrowed := true }
def IntegerSquaresUptoSaid : Prop := integerSquaresUptoRow.holds Try.pinned (OpenSpec.upto integerSquaresSpec)

/-- 'galoislaw02.IntegerSums', WHERE WHAT IT READS IS OF BULK AT MOST 1048576: true; the input reads as it did. -/
def integerSumsUptoRow : OpenClaim := { program := "ytdhdfcjpeflinaa", sum := "77ee5896988b60d7890e7e12eab9069c48eece7beb150d54dfebc50c4691a1b8", func := "galois/galoislaw02.IntegerSums", spec := "integerSums", inPlace := ["math/bits.Add64", "math/bits.Sub64"], unfollowed := true, recurses := true, named := ["math/bits.divideError", "math/bits.overflowError"], apart := false, narrowed := true }
def IntegerSumsUptoSaid : Prop := integerSumsUptoRow.holds Try.pinned (OpenSpec.upto integerSumsSpec)

/-- 'galoislaw02.IntegerBezout', WHERE WHAT IT READS IS OF BULK AT MOST 1048576: true; the input reads as it did. -/
def integerBezoutUptoRow : OpenClaim := { program := "ytdhdfcjpeflinaa", sum := "77ee5896988b60d7890e7e12eab9069c48eece7beb150d54dfebc50c4691a1b8", func := "galois/galoislaw02.IntegerBezout", spec := "integerBezout", inPlace := ["math/bits.Add64", "math/bits.Sub64"], unfollowed := true, recurses := true, named := ["math/bits.divideError", "math/bits.overflowError"], apart := false, narrowed := true }
def IntegerBezoutUptoSaid : Prop := integerBezoutUptoRow.holds Try.pinned (OpenSpec.upto integerBezoutSpec)

/-- 'galoislaw02.IntegerRing', WHERE WHAT IT READS IS OF BULK AT MOST 1048576: true; the input reads as it did. -/
def integerRingUptoRow : OpenClaim := { program := "ytdhdfcjpeflinaa", sum := "77ee5896988b60d7890e7e12eab9069c48eece7beb150d54dfebc50c4691a1b8", func := "galois/galoislaw02.IntegerRing", spec := "integerRing", inPlace := ["math/bits.Add64", "math/bits.Sub64"], unfollowed := true, recurses := true, named := ["math/bits.divideError", "math/bits.overflowError"], apart := false, narrowed := true }
def IntegerRingUptoSaid : Prop := integerRingUptoRow.holds Try.pinned (OpenSpec.upto integerRingSpec)

/-- 'galoislaw02.IntegerSigns', WHERE WHAT IT READS IS OF BULK AT MOST 1048576: true; the input reads as it did. -/
def integerSignsUptoRow : OpenClaim := { program := "ytdhdfcjpeflinaa", sum := "77ee5896988b60d7890e7e12eab9069c48eece7beb150d54dfebc50c4691a1b8", func := "galois/galoislaw02.IntegerSigns", spec := "integerSigns", inPlace := ["math/bits.Add64", "math/bits.Sub64"], unfollowed := true, recurses := true, named := ["math/bits.divideError", "math/bits.overflowError"], apart := false, narrowed := true }
def IntegerSignsUptoSaid : Prop := integerSignsUptoRow.holds Try.pinned (OpenSpec.upto integerSignsSpec)

/-- 'galoislaw02.IntegerDivides', WHERE WHAT IT READS IS OF BULK AT MOST 1048576: true; the input reads as it did. -/
def integerDividesUptoRow : OpenClaim := { program := "ytdhdfcjpeflinaa", sum := "77ee5896988b60d7890e7e12eab9069c48eece7beb150d54dfebc50c4691a1b8", func := "galois/galoislaw02.IntegerDivides", spec := "integerDivides", inPlace := ["math/bits.Add64", "math/bits.Sub64"], unfollowed := true, recurses := true, named := ["math/bits.divideError", "math/bits.overflowError"], apart := false, narrowed := true }
def IntegerDividesUptoSaid : Prop := integerDividesUptoRow.holds Try.pinned (OpenSpec.upto integerDividesSpec)

/-- 'galoislaw02.IntegerTexts', WHERE WHAT IT READS IS OF BULK AT MOST 1048576: true; the input reads as it did. -/
def integerTextsUptoRow : OpenClaim := { program := "ytdhdfcjpeflinaa", sum := "77ee5896988b60d7890e7e12eab9069c48eece7beb150d54dfebc50c4691a1b8", func := "galois/galoislaw02.IntegerTexts", spec := "integerTexts", inPlace := ["math/bits.Add64", "math/bits.Sub64"], unfollowed := true, recurses := true, named := ["math/bits.divideError", "math/bits.overflowError"], apart := false, narrowed := true }
def IntegerTextsUptoSaid : Prop := integerTextsUptoRow.holds Try.pinned (OpenSpec.upto integerTextsSpec)

end Rows
end Go.Proofs.Ytdhdfcjpeflinaa
