/-
  No cell of these rows narrows 'for every input' (looked for: loops, veiled, ifaces, maps, wideKeys, modest, calm, conditions, laid).
  DERIVED. THE GIVEN ROWS OF THIS SEAT. 7 by the template 'for every input the law returns true; each argument reads behind the call as it read before'; 0 by the template 'total and deterministic' (their statements: YtjllholdppjllaaGreatTotals.lean).
  GIVEN WITH THE SEED: the statements are not yours to turn. If you find one false, say at which input.
  Laid BY PROGRAM, IN A SANDBOX (cutbox-rows.mjs): the forced cells as the released guide's own fill.sh prints them over the translation a39beac8f9514715… (all of the seat's roots in one cut). By AI agents, Wed Nov 11 2026. No macro, syntax, notation, axiom, sorry.
-/
import Derived.Test.YtjllholdppjllaaGreatChecked
import GoSem.Claim
import GoSem.ClaimJoined
import GoSem.ClaimMapViews
import Derived.JoinedTies
import Derived.KernelRfl
namespace Go.Proofs.YtjllholdppjllaaGreat
/- THE CELL 'sum', in the pinned program and in every row, IS THE sha256 OF THE DUMP (.gsa) THAT YtjllholdppjllaaGreatProg.lean LOADS. Nothing in Lean hashes anything: it is a label: what it is worth is what the hold of that sum in a sandbox is worth. -/
noncomputable def Tryz.pinned : Pinned := { name := "ytjllholdppjllaagreat", sum := "a39beac8f9514715931d40bc66fd0ed4188bd675cd22b71ed7f61f3d1a9cb727", checked := Tryz.checked }
namespace Rows
def none {H : Type} : Left H := { results := [], args := [] }

/-- 'galoislaw03.RationalRounds': WHATEVER THE INPUT: true; the input reads as it did. -/
def rationalRoundsSpec : ChangeSpec := { name := "rationalRounds", fn := fun _ => fun
  | [d1, d2] => { results := [.lit (.bool true)], args := [d1, d2] }
  | _ => none }
def rationalRoundsRow : OpenClaim := { program := "ytjllholdppjllaagreat", sum := "a39beac8f9514715931d40bc66fd0ed4188bd675cd22b71ed7f61f3d1a9cb727", func := "galois/galoislaw03.RationalRounds", spec := "rationalRounds", inPlace := ["math/bits.Add64", "math/bits.Sub64", "internal/bytealg.IndexByteString", "internal/bytealg.IndexString"], unfollowed := true, recurses := true, named := ["math/bits.divideError", "math/bits.overflowError", "internal/bytealg.MaxLen"], apart := false }
def RationalRoundsSaid : Prop := rationalRoundsRow.holds Tryz.pinned (OpenSpec.ofChange rationalRoundsSpec)

/-- ITS FALSE NEIGHBOUR: 'it returns false'. Refute it at one input. -/
def rationalRoundsWrong : ChangeSpec := { name := "rationalRounds", fn := fun _ => fun
  | [d1, d2] => { results := [.lit (.bool false)], args := [d1, d2] }
  | _ => none }
def RationalRoundsWrongFalsely : Prop := rationalRoundsRow.holds Tryz.pinned (OpenSpec.ofChange rationalRoundsWrong)

/-- 'galoislaw03.RationalField': WHATEVER THE INPUT: true; the input reads as it did. -/
def rationalFieldSpec : ChangeSpec := { name := "rationalField", fn := fun _ => fun
  | [d1, d2, d3] => { results := [.lit (.bool true)], args := [d1, d2, d3] }
  | _ => none }
def rationalFieldRow : OpenClaim := { program := "ytjllholdppjllaagreat", sum := "a39beac8f9514715931d40bc66fd0ed4188bd675cd22b71ed7f61f3d1a9cb727", func := "galois/galoislaw03.RationalField", spec := "rationalField", inPlace := ["math/bits.Add64", "math/bits.Sub64", "internal/bytealg.IndexByteString", "internal/bytealg.IndexString"], unfollowed := true, recurses := true, named := ["math/bits.divideError", "math/bits.overflowError", "internal/bytealg.MaxLen"], apart := false }
def RationalFieldSaid : Prop := rationalFieldRow.holds Tryz.pinned (OpenSpec.ofChange rationalFieldSpec)

/-- ITS FALSE NEIGHBOUR: 'it returns false'. Refute it at one input. -/
def rationalFieldWrong : ChangeSpec := { name := "rationalField", fn := fun _ => fun
  | [d1, d2, d3] => { results := [.lit (.bool false)], args := [d1, d2, d3] }
  | _ => none }
def RationalFieldWrongFalsely : Prop := rationalFieldRow.holds Tryz.pinned (OpenSpec.ofChange rationalFieldWrong)

/-- 'galoislaw03.RationalPowers': WHATEVER THE INPUT: true; the input reads as it did. -/
def rationalPowersSpec : ChangeSpec := { name := "rationalPowers", fn := fun _ => fun
  | [d1, d2, d3] => { results := [.lit (.bool true)], args := [d1, d2, d3] }
  | _ => none }
def rationalPowersRow : OpenClaim := { program := "ytjllholdppjllaagreat", sum := "a39beac8f9514715931d40bc66fd0ed4188bd675cd22b71ed7f61f3d1a9cb727", func := "galois/galoislaw03.RationalPowers", spec := "rationalPowers", inPlace := ["math/bits.Add64", "math/bits.Sub64", "internal/bytealg.IndexByteString", "internal/bytealg.IndexString"], unfollowed := true, recurses := true, named := ["math/bits.divideError", "math/bits.overflowError", "internal/bytealg.MaxLen"], apart := false }
def RationalPowersSaid : Prop := rationalPowersRow.holds Tryz.pinned (OpenSpec.ofChange rationalPowersSpec)

/-- ITS FALSE NEIGHBOUR: 'it returns false'. Refute it at one input. -/
def rationalPowersWrong : ChangeSpec := { name := "rationalPowers", fn := fun _ => fun
  | [d1, d2, d3] => { results := [.lit (.bool false)], args := [d1, d2, d3] }
  | _ => none }
def RationalPowersWrongFalsely : Prop := rationalPowersRow.holds Tryz.pinned (OpenSpec.ofChange rationalPowersWrong)

/-- 'galoislaw03.RationalSums': WHATEVER THE INPUT: true; the input reads as it did. -/
def rationalSumsSpec : ChangeSpec := { name := "rationalSums", fn := fun _ => fun
  | [d1, d2] => { results := [.lit (.bool true)], args := [d1, d2] }
  | _ => none }
def rationalSumsRow : OpenClaim := { program := "ytjllholdppjllaagreat", sum := "a39beac8f9514715931d40bc66fd0ed4188bd675cd22b71ed7f61f3d1a9cb727", func := "galois/galoislaw03.RationalSums", spec := "rationalSums", inPlace := ["math/bits.Add64", "math/bits.Sub64", "internal/bytealg.IndexByteString", "internal/bytealg.IndexString"], unfollowed := true, recurses := true, named := ["math/bits.divideError", "math/bits.overflowError", "internal/bytealg.MaxLen"], apart := false }
def RationalSumsSaid : Prop := rationalSumsRow.holds Tryz.pinned (OpenSpec.ofChange rationalSumsSpec)

/-- ITS FALSE NEIGHBOUR: 'it returns false'. Refute it at one input. -/
def rationalSumsWrong : ChangeSpec := { name := "rationalSums", fn := fun _ => fun
  | [d1, d2] => { results := [.lit (.bool false)], args := [d1, d2] }
  | _ => none }
def RationalSumsWrongFalsely : Prop := rationalSumsRow.holds Tryz.pinned (OpenSpec.ofChange rationalSumsWrong)

/-- 'galoislaw03.RationalProducts': WHATEVER THE INPUT: true; the input reads as it did. -/
def rationalProductsSpec : ChangeSpec := { name := "rationalProducts", fn := fun _ => fun
  | [d1, d2] => { results := [.lit (.bool true)], args := [d1, d2] }
  | _ => none }
def rationalProductsRow : OpenClaim := { program := "ytjllholdppjllaagreat", sum := "a39beac8f9514715931d40bc66fd0ed4188bd675cd22b71ed7f61f3d1a9cb727", func := "galois/galoislaw03.RationalProducts", spec := "rationalProducts", inPlace := ["math/bits.Add64", "math/bits.Sub64", "internal/bytealg.IndexByteString", "internal/bytealg.IndexString"], unfollowed := true, recurses := true, named := ["math/bits.divideError", "math/bits.overflowError", "internal/bytealg.MaxLen"], apart := false }
def RationalProductsSaid : Prop := rationalProductsRow.holds Tryz.pinned (OpenSpec.ofChange rationalProductsSpec)

/-- ITS FALSE NEIGHBOUR: 'it returns false'. Refute it at one input. -/
def rationalProductsWrong : ChangeSpec := { name := "rationalProducts", fn := fun _ => fun
  | [d1, d2] => { results := [.lit (.bool false)], args := [d1, d2] }
  | _ => none }
def RationalProductsWrongFalsely : Prop := rationalProductsRow.holds Tryz.pinned (OpenSpec.ofChange rationalProductsWrong)

/-- 'galoislaw03.RationalOrder': WHATEVER THE INPUT: true; the input reads as it did. -/
def rationalOrderSpec : ChangeSpec := { name := "rationalOrder", fn := fun _ => fun
  | [d1, d2, d3] => { results := [.lit (.bool true)], args := [d1, d2, d3] }
  | _ => none }
def rationalOrderRow : OpenClaim := { program := "ytjllholdppjllaagreat", sum := "a39beac8f9514715931d40bc66fd0ed4188bd675cd22b71ed7f61f3d1a9cb727", func := "galois/galoislaw03.RationalOrder", spec := "rationalOrder", inPlace := ["math/bits.Add64", "math/bits.Sub64", "internal/bytealg.IndexByteString", "internal/bytealg.IndexString"], unfollowed := true, recurses := true, named := ["math/bits.divideError", "math/bits.overflowError", "internal/bytealg.MaxLen"], apart := false }
def RationalOrderSaid : Prop := rationalOrderRow.holds Tryz.pinned (OpenSpec.ofChange rationalOrderSpec)

/-- ITS FALSE NEIGHBOUR: 'it returns false'. Refute it at one input. -/
def rationalOrderWrong : ChangeSpec := { name := "rationalOrder", fn := fun _ => fun
  | [d1, d2, d3] => { results := [.lit (.bool false)], args := [d1, d2, d3] }
  | _ => none }
def RationalOrderWrongFalsely : Prop := rationalOrderRow.holds Tryz.pinned (OpenSpec.ofChange rationalOrderWrong)

/-- 'galoislaw03.RationalTexts': WHATEVER THE INPUT: true; the input reads as it did. -/
def rationalTextsSpec : ChangeSpec := { name := "rationalTexts", fn := fun _ => fun
  | [d1, d2] => { results := [.lit (.bool true)], args := [d1, d2] }
  | _ => none }
def rationalTextsRow : OpenClaim := { program := "ytjllholdppjllaagreat", sum := "a39beac8f9514715931d40bc66fd0ed4188bd675cd22b71ed7f61f3d1a9cb727", func := "galois/galoislaw03.RationalTexts", spec := "rationalTexts", inPlace := ["math/bits.Add64", "math/bits.Sub64", "internal/bytealg.IndexByteString", "internal/bytealg.IndexString"], unfollowed := true, recurses := true, named := ["math/bits.divideError", "math/bits.overflowError", "internal/bytealg.MaxLen"], apart := false }
def RationalTextsSaid : Prop := rationalTextsRow.holds Tryz.pinned (OpenSpec.ofChange rationalTextsSpec)

/-- ITS FALSE NEIGHBOUR: 'it returns false'. Refute it at one input. -/
def rationalTextsWrong : ChangeSpec := { name := "rationalTexts", fn := fun _ => fun
  | [d1, d2] => { results := [.lit (.bool false)], args := [d1, d2] }
  | _ => none }
def RationalTextsWrongFalsely : Prop := rationalTextsRow.holds Tryz.pinned (OpenSpec.ofChange rationalTextsWrong)

/- THE SECOND FORM. 'bulk': how many values and letters a reading holds, each counted each time it is reached (what is shared counts as often as it is met; a slice's spare places count too). A statement '..UptoSaid' is the law's where the arguments, and the package variables that the reading takes, are together of bulk at most 1048576: NARROWER than '..Said'. Prove '..Said' where nothing that the law and all that it calls make is longer than what came in: it says more and counts as full. Else prove '..UptoSaid'. A law counts once. -/
mutual
def uptoBulk {H : Type} : DataW H → Nat
  | .lit (.string bytes) => bytes.length + 1
  | .lit _ => 1
  | .nil => 1
  | .ptr d => uptoBulk d + 1
  | .slice elems spare => uptoBulkAll elems + uptoBulkAll spare + 1
  | .agg parts => uptoBulkAll parts + 1
  | .iface _ d => uptoBulk d + 1
  | .map entries => uptoBulkEntries entries + 1
  | .held _ => 1
def uptoBulkAll {H : Type} : List (DataW H) → Nat
  | [] => 0
  | d :: r => uptoBulk d + uptoBulkAll r
def uptoBulkEntries {H : Type} : List (Lit × DataW H) → Nat
  | [] => 0
  | x :: r => uptoBulkEntry x + uptoBulkEntries r
def uptoBulkEntry {H : Type} : Lit × DataW H → Nat
  | (.string bytes, d) => bytes.length + uptoBulk d + 1
  | (_, d) => uptoBulk d + 1
 end
def uptoSmall : (H : Type) → List (DataW H) → Bool := fun _ ds => decide (uptoBulkAll ds ≤ 1048576)
def OpenSpec.upto (s : _root_.Go.ChangeSpec) : _root_.Go.OpenSpec := { _root_.Go.OpenSpec.ofChange s with cond := some uptoSmall }

/-- 'galoislaw03.RationalRounds', WHERE WHAT IT READS IS OF BULK AT MOST 1048576: true; the input reads as it did. -/
def rationalRoundsUptoRow : OpenClaim := { program := "ytjllholdppjllaagreat", sum := "a39beac8f9514715931d40bc66fd0ed4188bd675cd22b71ed7f61f3d1a9cb727", func := "galois/galoislaw03.RationalRounds", spec := "rationalRounds", inPlace := ["math/bits.Add64", "math/bits.Sub64", "internal/bytealg.IndexByteString", "internal/bytealg.IndexString"], unfollowed := true, recurses := true, named := ["math/bits.divideError", "math/bits.overflowError", "internal/bytealg.MaxLen"], apart := false, narrowed := true }
def RationalRoundsUptoSaid : Prop := rationalRoundsUptoRow.holds Tryz.pinned (OpenSpec.upto rationalRoundsSpec)

/-- 'galoislaw03.RationalField', WHERE WHAT IT READS IS OF BULK AT MOST 1048576: true; the input reads as it did. -/
def rationalFieldUptoRow : OpenClaim := { program := "ytjllholdppjllaagreat", sum := "a39beac8f9514715931d40bc66fd0ed4188bd675cd22b71ed7f61f3d1a9cb727", func := "galois/galoislaw03.RationalField", spec := "rationalField", inPlace := ["math/bits.Add64", "math/bits.Sub64", "internal/bytealg.IndexByteString", "internal/bytealg.IndexString"], unfollowed := true, recurses := true, named := ["math/bits.divideError", "math/bits.overflowError", "internal/bytealg.MaxLen"], apart := false, narrowed := true }
def RationalFieldUptoSaid : Prop := rationalFieldUptoRow.holds Tryz.pinned (OpenSpec.upto rationalFieldSpec)

/-- 'galoislaw03.RationalPowers', WHERE WHAT IT READS IS OF BULK AT MOST 1048576: true; the input reads as it did. -/
def rationalPowersUptoRow : OpenClaim := { program := "ytjllholdppjllaagreat", sum := "a39beac8f9514715931d40bc66fd0ed4188bd675cd22b71ed7f61f3d1a9cb727", func := "galois/galoislaw03.RationalPowers", spec := "rationalPowers", inPlace := ["math/bits.Add64", "math/bits.Sub64", "internal/bytealg.IndexByteString", "internal/bytealg.IndexString"], unfollowed := true, recurses := true, named := ["math/bits.divideError", "math/bits.overflowError", "internal/bytealg.MaxLen"], apart := false, narrowed := true }
def RationalPowersUptoSaid : Prop := rationalPowersUptoRow.holds Tryz.pinned (OpenSpec.upto rationalPowersSpec)

/-- 'galoislaw03.RationalSums', WHERE WHAT IT READS IS OF BULK AT MOST 1048576: true; the input reads as it did. -/
def rationalSumsUptoRow : OpenClaim := { program := "ytjllholdppjllaagreat", sum := "a39beac8f9514715931d40bc66fd0ed4188bd675cd22b71ed7f61f3d1a9cb727", func := "galois/galoislaw03.RationalSums", spec := "rationalSums", inPlace := ["math/bits.Add64", "math/bits.Sub64", "internal/bytealg.IndexByteString", "internal/bytealg.IndexString"], unfollowed := true, recurses := true, named := ["math/bits.divideError", "math/bits.overflowError", "internal/bytealg.MaxLen"], apart := false, narrowed := true }
def RationalSumsUptoSaid : Prop := rationalSumsUptoRow.holds Tryz.pinned (OpenSpec.upto rationalSumsSpec)

/-- 'galoislaw03.RationalProducts', WHERE WHAT IT READS IS OF BULK AT MOST 1048576: true; the input reads as it did. -/
def rationalProductsUptoRow : OpenClaim := { program := "ytjllholdppjllaagreat", sum := "a39beac8f9514715931d40bc66fd0ed4188bd675cd22b71ed7f61f3d1a9cb727", func := "galois/galoislaw03.RationalProducts", spec := "rationalProducts", inPlace := ["math/bits.Add64", "math/bits.Sub64", "internal/bytealg.IndexByteString", "internal/bytealg.IndexString"], unfollowed := true, recurses := true, named := ["math/bits.divideError", "math/bits.overflowError", "internal/bytealg.MaxLen"], apart := false, narrowed := true }
def RationalProductsUptoSaid : Prop := rationalProductsUptoRow.holds Tryz.pinned (OpenSpec.upto rationalProductsSpec)

/-- 'galoislaw03.RationalOrder', WHERE WHAT IT READS IS OF BULK AT MOST 1048576: true; the input reads as it did. -/
def rationalOrderUptoRow : OpenClaim := { program := "ytjllholdppjllaagreat", sum := "a39beac8f9514715931d40bc66fd0ed4188bd675cd22b71ed7f61f3d1a9cb727", func := "galois/galoislaw03.RationalOrder", spec := "rationalOrder", inPlace := ["math/bits.Add64", "math/bits.Sub64", "internal/bytealg.IndexByteString", "internal/bytealg.IndexString"], unfollowed := true, recurses := true, named := ["math/bits.divideError", "math/bits.overflowError", "internal/bytealg.MaxLen"], apart := false, narrowed := true }
def RationalOrderUptoSaid : Prop := rationalOrderUptoRow.holds Tryz.pinned (OpenSpec.upto rationalOrderSpec)

/-- 'galoislaw03.RationalTexts', WHERE WHAT IT READS IS OF BULK AT MOST 1048576: true; the input reads as it did. -/
def rationalTextsUptoRow : OpenClaim := { program := "ytjllholdppjllaagreat", sum := "a39beac8f9514715931d40bc66fd0ed4188bd675cd22b71ed7f61f3d1a9cb727", func := "galois/galoislaw03.RationalTexts", spec := "rationalTexts", inPlace := ["math/bits.Add64", "math/bits.Sub64", "internal/bytealg.IndexByteString", "internal/bytealg.IndexString"], unfollowed := true, recurses := true, named := ["math/bits.divideError", "math/bits.overflowError", "internal/bytealg.MaxLen"], apart := false, narrowed := true }
def RationalTextsUptoSaid : Prop := rationalTextsUptoRow.holds Tryz.pinned (OpenSpec.upto rationalTextsSpec)

end Rows
end Go.Proofs.YtjllholdppjllaaGreat
