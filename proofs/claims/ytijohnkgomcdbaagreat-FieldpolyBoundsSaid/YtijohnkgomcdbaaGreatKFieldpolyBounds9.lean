/- Part of the proof of the statement FieldpolyBounds: lemmas on the model's steps, Lean functions that say what the program's functions compute, and proofs that the calls do just that. No hypothesis is added. -/
import Derived.Test.YtijohnkgomcdbaaGreatKFieldpolyBounds8
set_option linter.all false
set_option maxRecDepth 100000
namespace Go.Proofs.YtijohnkgomcdbaaGreatV
open Go Go.RowKit Go.Proofs.YtijohnkgomcdbaaGreat Go.Proofs.YtijohnkgomcdbaaGreatE Go.Proofs.YtijohnkgomcdbaaGreatW.PrintWords Go.Proofs.YtijohnkgomcdbaaGreatW.PrintLast Go.Proofs.YtijohnkgomcdbaaGreatW.PrintMore
theorem c6x2:isT (cs 6 2)=true:=by decide +kernel
theorem c9x1:isT (cs 9 1)=true:=by decide +kernel
theorem c1x6:isT (cs 1 6)=true:=by decide +kernel
theorem c6x1:isT (cs 6 1)=true:=by decide +kernel
end Go.Proofs.YtijohnkgomcdbaaGreatV
