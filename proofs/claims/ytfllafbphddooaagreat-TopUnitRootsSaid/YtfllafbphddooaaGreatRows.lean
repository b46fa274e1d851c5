/-
  No cell of these rows narrows 'for every input' (looked for: loops, veiled, ifaces, maps, wideKeys, modest, calm, conditions, laid).
  DERIVED. THE GIVEN ROWS OF THIS SEAT. 4 by the template 'for every input the law returns true; each argument reads behind the call as it read before'; 0 by the template 'total and deterministic' (their statements: YtfllafbphddooaaGreatTotals.lean).
  GIVEN WITH THE SEED: the statements are not yours to turn. If you find one false, say at which input.
  Laid BY PROGRAM, IN A SANDBOX (cutbox-rows.mjs): the forced cells as the released guide's own fill.sh prints them over the translation 2b634fbeb88c5a9b… (all of the seat's roots in one cut). By AI agents, Wed Nov 11 2026. No macro, syntax, notation, axiom, sorry.
-/
import Derived.Test.YtfllafbphddooaaGreatChecked
import GoSem.Claim
import GoSem.ClaimJoined
import GoSem.ClaimMapViews
import Derived.JoinedTies
import Derived.KernelRfl
namespace Go.Proofs.YtfllafbphddooaaGreat
/- THE CELL 'sum', in the pinned program and in every row, IS THE sha256 OF THE DUMP (.gsa) THAT YtfllafbphddooaaGreatProg.lean LOADS. Nothing in Lean hashes anything: it is a label: what it is worth is what the hold of that sum in a sandbox is worth. -/
noncomputable def Tryz.pinned : Pinned := { name := "ytfllafbphddooaagreat", sum := "2b634fbeb88c5a9b046066b61ee84f3e9018cd230dede4402aa9131f7b1308c0", checked := Tryz.checked }
namespace Rows
def none {H : Type} : Left H := { results := [], args := [] }

/-- 'galoistop.TopUnitRoots': WHATEVER THE INPUT: true; the input reads as it did. -/
def topUnitRootsSpec : ChangeSpec := { name := "topUnitRoots", fn := fun _ => fun
  | [d] => { results := [.lit (.bool true)], args := [d] }
  | _ => none }
def topUnitRootsRow : OpenClaim := { program := "ytfllafbphddooaagreat", sum := "2b634fbeb88c5a9b046066b61ee84f3e9018cd230dede4402aa9131f7b1308c0", func := "galois/galoistop.TopUnitRoots", spec := "topUnitRoots", inPlace := ["math/bits.Add64", "math/bits.Sub64"], unfollowed := true, recurses := true, named := ["math/bits.divideError", "math/bits.overflowError"], apart := false }
def TopUnitRootsSaid : Prop := topUnitRootsRow.holds Tryz.pinned (OpenSpec.ofChange topUnitRootsSpec)

/-- ITS FALSE NEIGHBOUR: 'it returns false'. Refute it at one input. -/
def topUnitRootsWrong : ChangeSpec := { name := "topUnitRoots", fn := fun _ => fun
  | [d] => { results := [.lit (.bool false)], args := [d] }
  | _ => none }
def TopUnitRootsWrongFalsely : Prop := topUnitRootsRow.holds Tryz.pinned (OpenSpec.ofChange topUnitRootsWrong)

/-- 'galoistop.TopFrobeniusSums': WHATEVER THE INPUT: true; the input reads as it did. -/
def topFrobeniusSumsSpec : ChangeSpec := { name := "topFrobeniusSums", fn := fun _ => fun
  | [d1, d2] => { results := [.lit (.bool true)], args := [d1, d2] }
  | _ => none }
def topFrobeniusSumsRow : OpenClaim := { program := "ytfllafbphddooaagreat", sum := "2b634fbeb88c5a9b046066b61ee84f3e9018cd230dede4402aa9131f7b1308c0", func := "galois/galoistop.TopFrobeniusSums", spec := "topFrobeniusSums", inPlace := ["math/bits.Add64", "math/bits.Sub64"], unfollowed := true, recurses := true, named := ["math/bits.divideError", "math/bits.overflowError"], apart := false }
def TopFrobeniusSumsSaid : Prop := topFrobeniusSumsRow.holds Tryz.pinned (OpenSpec.ofChange topFrobeniusSumsSpec)

/-- ITS FALSE NEIGHBOUR: 'it returns false'. Refute it at one input. -/
def topFrobeniusSumsWrong : ChangeSpec := { name := "topFrobeniusSums", fn := fun _ => fun
  | [d1, d2] => { results := [.lit (.bool false)], args := [d1, d2] }
  | _ => none }
def TopFrobeniusSumsWrongFalsely : Prop := topFrobeniusSumsRow.holds Tryz.pinned (OpenSpec.ofChange topFrobeniusSumsWrong)

/-- 'galoistop.TopPeriodMoves': WHATEVER THE INPUT: true; the input reads as it did. -/
def topPeriodMovesSpec : ChangeSpec := { name := "topPeriodMoves", fn := fun _ => fun
  | [d1, d2] => { results := [.lit (.bool true)], args := [d1, d2] }
  | _ => none }
def topPeriodMovesRow : OpenClaim := { program := "ytfllafbphddooaagreat", sum := "2b634fbeb88c5a9b046066b61ee84f3e9018cd230dede4402aa9131f7b1308c0", func := "galois/galoistop.TopPeriodMoves", spec := "topPeriodMoves", inPlace := ["math/bits.Add64", "math/bits.Sub64"], unfollowed := true, recurses := true, named := ["math/bits.divideError", "math/bits.overflowError"], apart := false }
def TopPeriodMovesSaid : Prop := topPeriodMovesRow.holds Tryz.pinned (OpenSpec.ofChange topPeriodMovesSpec)

/-- ITS FALSE NEIGHBOUR: 'it returns false'. Refute it at one input. -/
def topPeriodMovesWrong : ChangeSpec := { name := "topPeriodMoves", fn := fun _ => fun
  | [d1, d2] => { results := [.lit (.bool false)], args := [d1, d2] }
  | _ => none }
def TopPeriodMovesWrongFalsely : Prop := topPeriodMovesRow.holds Tryz.pinned (OpenSpec.ofChange topPeriodMovesWrong)

/-- 'galoistop.TopGaussSums': WHATEVER THE INPUT: true; the input reads as it did. -/
def topGaussSumsSpec : ChangeSpec := { name := "topGaussSums", fn := fun _ => fun
  | [d1, d2] => { results := [.lit (.bool true)], args := [d1, d2] }
  | _ => none }
def topGaussSumsRow : OpenClaim := { program := "ytfllafbphddooaagreat", sum := "2b634fbeb88c5a9b046066b61ee84f3e9018cd230dede4402aa9131f7b1308c0", func := "galois/galoistop.TopGaussSums", spec := "topGaussSums", inPlace := ["math/bits.Add64", "math/bits.Sub64"], unfollowed := true, recurses := true, named := ["math/bits.divideError", "math/bits.overflowError"], apart := false }
def TopGaussSumsSaid : Prop := topGaussSumsRow.holds Tryz.pinned (OpenSpec.ofChange topGaussSumsSpec)

/-- ITS FALSE NEIGHBOUR: 'it returns false'. Refute it at one input. -/
def topGaussSumsWrong : ChangeSpec := { name := "topGaussSums", fn := fun _ => fun
  | [d1, d2] => { results := [.lit (.bool false)], args := [d1, d2] }
  | _ => none }
def TopGaussSumsWrongFalsely : Prop := topGaussSumsRow.holds Tryz.pinned (OpenSpec.ofChange topGaussSumsWrong)

/- THE SECOND FORM. 'bulk': how many values and letters a reading holds, each counted each time it is reached (what is shared counts as often as it is met; a slice's spare places count too). A statement '..UptoSaid' is the law's where the arguments, and the package variables that the reading takes, are together of bulk at most 1048576: NARROWER than '..Said'. Prove '..Said' where nothing that the law and all that it calls make is longer than what came in: it says more and counts as full. Else prove '..UptoSaid'. A law counts once. -/
mutual
def uptoBulk {H : Type} : DataW H → Nat
  | .lit (.string bytes) => bytes.length + 1
  | .lit _ => 1
  | .nil => 1
  | .ptr d => uptoBulk d + 1
  | .slice elems spare => uptoBulkAll elems + uptoBulkAll spare + 1
  | .agg parts => uptoBulkAll parts + 1
  | .iface _ d => uptoBulk d + 1
  | .map entries => uptoBulkEntries entries + 1
  | .held _ => 1
def uptoBulkAll {H : Type} : List (DataW H) → Nat
  | [] => 0
  | d :: r => uptoBulk d + uptoBulkAll r
def uptoBulkEntries {H : Type} : List (Lit × DataW H) → Nat
  | [] => 0
  | x :: r => uptoBulkEntry x + uptoBulkEntries r
def uptoBulkEntry {H : Type} : Lit × DataW H → Nat
  | (.string bytes, d) => bytes.length + uptoBulk d + 1
  | (_, d) => uptoBulk d + 1
 end
def uptoSmall : (H : Type) → List (DataW H) → Bool := fun _ ds => decide (uptoBulkAll ds ≤ 1048576)
def OpenSpec.upto (s : _root_.Go.ChangeSpec) : _root_.Go.OpenSpec := { _root_.Go.OpenSpec.ofChange s with cond := some uptoSmall }

/-- 'galoistop.TopUnitRoots', WHERE WHAT IT READS IS OF BULK AT MOST 1048576: true; the input reads as it did. -/
def topUnitRootsUptoRow : OpenClaim := { program := "ytfllafbphddooaagreat", sum := "2b634fbeb88c5a9b046066b61ee84f3e9018cd230dede4402aa9131f7b1308c0", func := "galois/galoistop.TopUnitRoots", spec := "topUnitRoots", inPlace := ["math/bits.Add64", "math/bits.Sub64"], unfollowed := true, recurses := true, named := ["math/bits.divideError", "math/bits.overflowError"], apart := false, narrowed := true }
def TopUnitRootsUptoSaid : Prop := topUnitRootsUptoRow.holds Tryz.pinned (OpenSpec.upto topUnitRootsSpec)

/-- 'galoistop.TopFrobeniusSums', WHERE WHAT IT READS IS OF BULK AT MOST 1048576: true; the input reads as it did. -/
def topFrobeniusSumsUptoRow : OpenClaim := { program := "ytfllafbphddooaagreat", sum := "2b634fbeb88c5a9b046066b61ee84f3e9018cd230dede4402aa9131f7b1308c0", func := "galois/galoistop.TopFrobeniusSums", spec := "topFrobeniusSums", inPlace := ["math/bits.Add64", "math/bits.Sub64"], unfollowed := true, recurses := true, named := ["math/bits.divideError", "math/bits.overflowError"], apart := false, narrowed := true }
def TopFrobeniusSumsUptoSaid : Prop := topFrobeniusSumsUptoRow.holds Tryz.pinned (OpenSpec.upto topFrobeniusSumsSpec)

/-- 'galoistop.TopPeriodMoves', WHERE WHAT IT READS IS OF BULK AT MOST 1048576: true; the input reads as it did. -/
def topPeriodMovesUptoRow : OpenClaim := { program := "ytfllafbphddooaagreat", sum := "2b634fbeb88c5a9b046066b61ee84f3e9018cd230dede4402aa9131f7b1308c0", func := "galois/galoistop.TopPeriodMoves", spec := "topPeriodMoves", inPlace := ["math/bits.Add64", "math/bits.Sub64"], unfollowed := true, recurses := true, named := ["math/bits.divideError", "math/bits.overflowError"], apart := false, narrowed := true }
def TopPeriodMovesUptoSaid : Prop := topPeriodMovesUptoRow.holds Tryz.pinned (OpenSpec.upto topPeriodMovesSpec)

/-- 'galoistop.TopGaussSums', WHERE WHAT IT READS IS OF BULK AT MOST 1048576: true; the input reads as it did. -/
def topGaussSumsUptoRow : OpenClaim := { program := "ytfllafbphddooaagreat", sum := "2b634fbeb88c5a9b046066b61ee84f3e9018cd230dede4402aa9131f7b1308c0", func := "galois/galoistop.TopGaussSums", spec := "topGaussSums", inPlace := ["math/bits.Add64", "math/bits.Sub64"], unfollowed := true, recurses := true, named := ["math/bits.divideError", "math/bits.overflowError"], apart := false, narrowed := true }
def TopGaussSumsUptoSaid : Prop := topGaussSumsUptoRow.holds Tryz.pinned (OpenSpec.upto topGaussSumsSpec)

end Rows
end Go.Proofs.YtfllafbphddooaaGreat
