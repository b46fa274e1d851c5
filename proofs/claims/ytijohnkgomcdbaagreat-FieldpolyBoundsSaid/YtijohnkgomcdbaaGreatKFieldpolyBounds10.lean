/- Part of the proof of the statement FieldpolyBounds: lemmas on the model's steps, Lean functions that say what the program's functions compute, and proofs that the calls do just that. No hypothesis is added. -/
import Derived.Test.YtijohnkgomcdbaaGreatKFieldpolyBounds9
set_option linter.all false
set_option maxRecDepth 100000
namespace Go.Proofs.YtijohnkgomcdbaaGreatV
open Go Go.RowKit Go.Proofs.YtijohnkgomcdbaaGreat Go.Proofs.YtijohnkgomcdbaaGreatE Go.Proofs.YtijohnkgomcdbaaGreatW.PrintWords Go.Proofs.YtijohnkgomcdbaaGreatW.PrintLast Go.Proofs.YtijohnkgomcdbaaGreatW.PrintMore
theorem c12x1:isT (cs 12 1)=true:=by decide +kernel
theorem c1x8:isT (cs 1 8)=true:=by decide +kernel
theorem c2x4:isT (cs 2 4)=true:=by decide +kernel
theorem c1x4:isT (cs 1 4)=true:=by decide +kernel
theorem c1x3:isT (cs 1 3)=true:=by decide +kernel
end Go.Proofs.YtijohnkgomcdbaaGreatV
