/- Part of the proof of the statement TopUnitRoots: lemmas on the model's steps, Lean functions that say what the program's functions compute, and proofs that the calls do just that. No hypothesis is added. -/
import Derived.Test.YtfllafbphddooaaGreatKTopUnitRoots4
set_option linter.all false
set_option maxRecDepth 100000
namespace Go.Proofs.YtfllafbphddooaaGreatV
open Go Go.RowKit Go.Proofs.YtfllafbphddooaaGreat Go.Proofs.YtfllafbphddooaaGreatE Go.Proofs.YtfllafbphddooaaGreatW.PrintWords Go.Proofs.YtfllafbphddooaaGreatW.PrintLast Go.Proofs.YtfllafbphddooaaGreatW.PrintMore
theorem fa0:([193,57]:List Nat).all fU=true:=by decide +kernel
theorem fa1:([181,41]:List Nat).all fU=true:=by decide +kernel
theorem fa2:([28,152]:List Nat).all fU=true:=by decide +kernel
theorem fa3:([197,17]:List Nat).all fU=true:=by decide +kernel
theorem fa4:([104,40]:List Nat).all fU=true:=by decide +kernel
end Go.Proofs.YtfllafbphddooaaGreatV
