/- Part of the proof of the statement FieldpolyBounds: lemmas on the model's steps, Lean functions that say what the program's functions compute, and proofs that the calls do just that. No hypothesis is added. -/
import Derived.Test.YtijohnkgomcdbaaGreatKFieldpolyBounds6
set_option linter.all false
set_option maxRecDepth 100000
namespace Go.Proofs.YtijohnkgomcdbaaGreatV
open Go Go.RowKit Go.Proofs.YtijohnkgomcdbaaGreat Go.Proofs.YtijohnkgomcdbaaGreatE Go.Proofs.YtijohnkgomcdbaaGreatW.PrintWords Go.Proofs.YtijohnkgomcdbaaGreatW.PrintLast Go.Proofs.YtijohnkgomcdbaaGreatW.PrintMore
theorem c3x4:isT (cs 3 4)=true:=by decide +kernel
theorem c1x9:isT (cs 1 9)=true:=by decide +kernel
theorem c1x7:isT (cs 1 7)=true:=by decide +kernel
theorem c1x5:isT (cs 1 5)=true:=by decide +kernel
end Go.Proofs.YtijohnkgomcdbaaGreatV
