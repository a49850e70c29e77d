/- Plain laws about what flows are worth, and about bumps. No walk. -/
import Derived.Test.YtmdoljecjliehaaGreatKi
namespace Go.Proofs.YtmdoljecjliehaaGreat.FP
open Go.RowKit Go.Proofs.YtmdoljecjliehaaGreatW.PrintWords Go.Proofs.YtmdoljecjliehaaGreatW.PrintLast Go.Proofs.YtmdoljecjliehaaGreatW.PrintMore Tn
open Go.Proofs.YtmdoljecjliehaaGreat.FX Go.Proofs.YtmdoljecjliehaaGreat.FB Go.Proofs.YtmdoljecjliehaaGreat.FQ Go.Proofs.YtmdoljecjliehaaGreat.EV
set_option linter.unusedVariables false
theorem fsub_self {x : Nat} (hx : x < 18446744073709551616) (fx : fin x = true) : fsubV x x = 0 := by
 (obtain ⟨k, v⟩ := fsub_is (sub_fin' hx hx fx fx));(rw [v]; unfold subN);(rw [Int.sub_self, if_pos rfl, show (0 : Int).natAbs = 0 from rfl, nr_zero])
 cases sgn x <;> rfl
end Go.Proofs.YtmdoljecjliehaaGreat.FP
