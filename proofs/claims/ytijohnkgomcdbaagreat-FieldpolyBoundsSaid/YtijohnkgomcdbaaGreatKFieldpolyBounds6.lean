/- Part of the proof of the statement FieldpolyBounds: lemmas on the model's steps, Lean functions that say what the program's functions compute, and proofs that the calls do just that. No hypothesis is added. -/
import Derived.Test.YtijohnkgomcdbaaGreatKFieldpolyBounds5
set_option linter.all false
set_option maxRecDepth 100000
namespace Go.Proofs.YtijohnkgomcdbaaGreatV
open Go Go.RowKit Go.Proofs.YtijohnkgomcdbaaGreat Go.Proofs.YtijohnkgomcdbaaGreatE Go.Proofs.YtijohnkgomcdbaaGreatW.PrintWords Go.Proofs.YtijohnkgomcdbaaGreatW.PrintLast Go.Proofs.YtijohnkgomcdbaaGreatW.PrintMore
theorem c2x6:isT (cs 2 6)=true:=by decide +kernel
theorem c10x1:isT (cs 10 1)=true:=by decide +kernel
theorem c3x2:isT (cs 3 2)=true:=by decide +kernel
theorem c1x2:isT (cs 1 2)=true:=by decide +kernel
end Go.Proofs.YtijohnkgomcdbaaGreatV
