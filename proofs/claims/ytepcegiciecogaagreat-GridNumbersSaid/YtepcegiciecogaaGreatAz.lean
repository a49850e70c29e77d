/- law 25's awake holds. -/
import Derived.Test.YtepcegiciecogaaGreatFHx1
namespace Go.Proofs.YtepcegiciecogaaGreat.FH
open Go.RowKit Go.Proofs.YtepcegiciecogaaGreatW.PrintWords Go.Proofs.YtepcegiciecogaaGreatW.PrintLast Go.Proofs.YtepcegiciecogaaGreatW.PrintMore Tn
open Go.Proofs.YtepcegiciecogaaGreat.FX Go.Proofs.YtepcegiciecogaaGreat.FG
theorem awake25_f : tenorlaw25_awake.f 30 = some true := by decide +kernel
end Go.Proofs.YtepcegiciecogaaGreat.FH
namespace Go.Proofs.YtepcegiciecogaaGreat.FX
open Go.RowKit Go.Proofs.YtepcegiciecogaaGreatW.PrintWords
def law25_awake.f : Option Bool := some true
theorem law25_awake.calls (r : Bool) (w : World) (h : law25_awake.f = some r) : Calls Tryz.prog 22 #[] w fun e w' => e = .returned (.bool r) ∧ Below w.heap.size w w' :=
  FH.tenorlaw25_awake.calls 30 r w (FH.awake25_f.trans h)
end Go.Proofs.YtepcegiciecogaaGreat.FX
