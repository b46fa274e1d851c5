/- Part of the proof of the statement TopUnitRoots: lemmas on the model's steps, Lean functions that say what the program's functions compute, and proofs that the calls do just that. No hypothesis is added. -/
import Derived.Test.YtfllafbphddooaaGreatKTopUnitRoots8
set_option linter.all false
set_option maxRecDepth 100000
namespace Go.Proofs.YtfllafbphddooaaGreatV
open Go Go.RowKit Go.Proofs.YtfllafbphddooaaGreat Go.Proofs.YtfllafbphddooaaGreatE Go.Proofs.YtfllafbphddooaaGreatW.PrintWords Go.Proofs.YtfllafbphddooaaGreatW.PrintLast Go.Proofs.YtfllafbphddooaaGreatW.PrintMore
theorem xe0:([161,97]:List Nat).all fU=true:=by decide +kernel
theorem xe1:([105,133]:List Nat).all fU=true:=by decide +kernel
theorem xe2:([149,61]:List Nat).all fU=true:=by decide +kernel
theorem xe3:([120,60]:List Nat).all fU=true:=by decide +kernel
theorem xe4:([12,8]:List Nat).all fU=true:=by decide +kernel
end Go.Proofs.YtfllafbphddooaaGreatV
