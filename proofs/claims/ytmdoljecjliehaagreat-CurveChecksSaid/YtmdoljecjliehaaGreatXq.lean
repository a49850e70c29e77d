/- law 11's awake answers true. -/
import Derived.Test.YtmdoljecjliehaaGreatFXax2
namespace Go.Proofs.YtmdoljecjliehaaGreat.FXa
open Go.RowKit Go.Proofs.YtmdoljecjliehaaGreatW.PrintWords Go.Proofs.YtmdoljecjliehaaGreatW.PrintLast Go.Proofs.YtmdoljecjliehaaGreatW.PrintMore Go.Proofs.YtmdoljecjliehaaGreat.FX Go.Proofs.YtmdoljecjliehaaGreat.EV Go.Proofs.YtmdoljecjliehaaGreat.FP Tn
set_option linter.unusedVariables false
set_option maxRecDepth 100000 in
theorem aw11 : tenorlaw11_awake.f 12 = some true := by kernel_rfl
end Go.Proofs.YtmdoljecjliehaaGreat.FXa
namespace Go.Proofs.YtmdoljecjliehaaGreat.FX
open Go.RowKit Go.Proofs.YtmdoljecjliehaaGreatW.PrintWords Go.Proofs.YtmdoljecjliehaaGreatW.PrintLast Go.Proofs.YtmdoljecjliehaaGreatW.PrintMore
def law11_awakeX.f : Option Bool := some true
theorem law11_awakeX.calls (r : Bool) (w : World) (h : law11_awakeX.f = some r) : Calls Tryz.prog 16 #[] w fun e w' => e = .returned (.bool r) ∧ Below w.heap.size w w' := by
 (obtain rfl := Option.some.inj h);(exact FXa.tenorlaw11_awake.calls 12 true w FXa.aw11)
end Go.Proofs.YtmdoljecjliehaaGreat.FX
