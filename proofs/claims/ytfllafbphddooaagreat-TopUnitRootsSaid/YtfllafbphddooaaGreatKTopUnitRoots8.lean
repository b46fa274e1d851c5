/- Part of the proof of the statement TopUnitRoots: lemmas on the model's steps, Lean functions that say what the program's functions compute, and proofs that the calls do just that. No hypothesis is added. -/
import Derived.Test.YtfllafbphddooaaGreatKTopUnitRoots7
set_option linter.all false
set_option maxRecDepth 100000
namespace Go.Proofs.YtfllafbphddooaaGreatV
open Go Go.RowKit Go.Proofs.YtfllafbphddooaaGreat Go.Proofs.YtfllafbphddooaaGreatE Go.Proofs.YtfllafbphddooaaGreatW.PrintWords Go.Proofs.YtfllafbphddooaaGreatW.PrintLast Go.Proofs.YtfllafbphddooaaGreatW.PrintMore
theorem fd0:([129,73]:List Nat).all fU=true:=by decide +kernel
theorem fd1:([89,188]:List Nat).all fU=true:=by decide +kernel
theorem fd2:([92,93]:List Nat).all fU=true:=by decide +kernel
theorem fd3:([65,24]:List Nat).all fU=true:=by decide +kernel
theorem fd4:([37,5]:List Nat).all fU=true:=by decide +kernel
end Go.Proofs.YtfllafbphddooaaGreatV
