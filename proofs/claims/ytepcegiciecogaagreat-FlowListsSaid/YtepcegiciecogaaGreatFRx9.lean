/- Written by the session's fprint.py out of the translation. -/
import Derived.Test.YtepcegiciecogaaGreatFRx0
import Derived.Test.YtepcegiciecogaaGreatFRx1
import Derived.Test.YtepcegiciecogaaGreatFRx3
import Derived.Test.YtepcegiciecogaaGreatFRx8
namespace Go.Proofs.YtepcegiciecogaaGreat.FR
open Go.RowKit Go.Proofs.YtepcegiciecogaaGreatW.PrintWords Go.Proofs.YtepcegiciecogaaGreatW.PrintLast Go.Proofs.YtepcegiciecogaaGreatW.PrintMore
attribute [local go_sem] max2_int min2_int max_two min_two max_three min_three max_four min_four   -- for this text's walks alone
open Go.Proofs.YtepcegiciecogaaGreat.FX
attribute [local go_sem] run_store_float run_neg_float run_fmul isSome_setCell 
set_option linter.unusedVariables false
set_option linter.unusedSimpArgs false

/-! ### tenorref1_NearOver: function 97 -/
/-! ### tenorref1_Whole: function 98 -/
/-! ### tenorref1_Rank: function 128 -/
/-! ### tenorref1_Lt: function 90 -/
/-! ### tenorref1_Flip: function 48 -/
def tenorref1_Flip.f (a0 : Int) : Option (Int) := some (Go.bits .xor .u64 a0 9223372036854775808)
set_option maxHeartbeats 8000000 in
set_option maxRecDepth 100000 in
theorem tenorref1_Flip.calls (a0 : Int) (r : Int) (w : World) (h : tenorref1_Flip.f a0 = some r) :
    Calls Tryz.prog 48 #[.int .u64 a0] w fun e w' => e = .returned (.int .u64 r) ∧ Drawn0 w w' := by
  have H : (some (Go.bits .xor .u64 a0 9223372036854775808)) = some r := h
  clear h
  obtain rfl := Option.some.inj H
  go_enter Tryz.func48, Tryz.ntmps48
  go_wp2
  go_ret
  exact ⟨sA, dA⟩

/-! ### tenorref1_Negative: function 71 -/
end Go.Proofs.YtepcegiciecogaaGreat.FR
