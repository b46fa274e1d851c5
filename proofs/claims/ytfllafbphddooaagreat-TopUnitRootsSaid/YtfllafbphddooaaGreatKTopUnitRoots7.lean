/- Part of the proof of the statement TopUnitRoots: lemmas on the model's steps, Lean functions that say what the program's functions compute, and proofs that the calls do just that. No hypothesis is added. -/
import Derived.Test.YtfllafbphddooaaGreatKTopUnitRoots6
set_option linter.all false
set_option maxRecDepth 100000
namespace Go.Proofs.YtfllafbphddooaaGreatV
open Go Go.RowKit Go.Proofs.YtfllafbphddooaaGreat Go.Proofs.YtfllafbphddooaaGreatE Go.Proofs.YtfllafbphddooaaGreatW.PrintWords Go.Proofs.YtfllafbphddooaaGreatW.PrintLast Go.Proofs.YtfllafbphddooaaGreatW.PrintMore
theorem fc0:([184,137]:List Nat).all fU=true:=by decide +kernel
theorem fc1:([88,157]:List Nat).all fU=true:=by decide +kernel
theorem fc2:([69,156]:List Nat).all fU=true:=by decide +kernel
theorem fc3:([101,140]:List Nat).all fU=true:=by decide +kernel
theorem fc4:([85,29]:List Nat).all fU=true:=by decide +kernel
end Go.Proofs.YtfllafbphddooaaGreatV
