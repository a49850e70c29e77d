/- law 14's awake holds. -/
import Derived.Test.YthcgpepjoofeoaaFCx2
namespace Go.Proofs.Ythcgpepjoofeoaa.FC
open Go.RowKit Go.Proofs.YthcgpepjoofeoaaW.PrintWords Go.Proofs.YthcgpepjoofeoaaW.PrintLast Go.Proofs.YthcgpepjoofeoaaW.PrintMore Tn
open Go.Proofs.Ythcgpepjoofeoaa.FX Go.Proofs.Ythcgpepjoofeoaa.FB
theorem awake14_f : tenorlaw14_awake.f 20 = some true := by decide +kernel
end Go.Proofs.Ythcgpepjoofeoaa.FC
namespace Go.Proofs.Ythcgpepjoofeoaa.FX
open Go.RowKit Go.Proofs.YthcgpepjoofeoaaW.PrintWords
def law14_awake.f : Option Bool := some true
theorem law14_awake.calls (r : Bool) (w : World) (h : law14_awake.f = some r) : Calls Try.prog 11 #[] w fun e w' => e = .returned (.bool r) ∧ Below w.heap.size w w' :=
  FC.tenorlaw14_awake.calls 20 r w (FC.awake14_f.trans h)
end Go.Proofs.Ythcgpepjoofeoaa.FX
