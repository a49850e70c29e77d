/- risk.Delta, Gamma. -/
import Derived.Test.YtmdoljecjliehaaGreatKh
namespace Go.Proofs.YtmdoljecjliehaaGreat.FB
open Go.RowKit Go.Proofs.YtmdoljecjliehaaGreatW.PrintWords Go.Proofs.YtmdoljecjliehaaGreatW.PrintLast Go.Proofs.YtmdoljecjliehaaGreatW.PrintMore Go.Proofs.YtmdoljecjliehaaGreat.FX Go.Proofs.YtmdoljecjliehaaGreat.EV Go.Proofs.YtmdoljecjliehaaGreat.FP Tn
attribute [local go_sem] run_store_float run_neg_float run_fmul run_fadd run_fsub run_fdiv isSome_setCell
set_option linter.unusedVariables false
set_option linter.unusedSimpArgs false
end Go.Proofs.YtmdoljecjliehaaGreat.FB
