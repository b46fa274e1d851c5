/- Part of the proof of the statement FieldpolyBounds: lemmas on the model's steps, Lean functions that say what the program's functions compute, and proofs that the calls do just that. No hypothesis is added. -/
import Derived.Test.YtijohnkgomcdbaaGreatKFieldpolyBounds4
set_option linter.all false
set_option maxRecDepth 100000
namespace Go.Proofs.YtijohnkgomcdbaaGreatV
open Go Go.RowKit Go.Proofs.YtijohnkgomcdbaaGreat Go.Proofs.YtijohnkgomcdbaaGreatE Go.Proofs.YtijohnkgomcdbaaGreatW.PrintWords Go.Proofs.YtijohnkgomcdbaaGreatW.PrintLast Go.Proofs.YtijohnkgomcdbaaGreatW.PrintMore
theorem c1x12:isT (cs 1 12)=true:=by decide +kernel
theorem c5x2:isT (cs 5 2)=true:=by decide +kernel
theorem c2x3:isT (cs 2 3)=true:=by decide +kernel
theorem c3x1:isT (cs 3 1)=true:=by decide +kernel
end Go.Proofs.YtijohnkgomcdbaaGreatV
