/- What layer 1's statements ask last: awake. -/
import Derived.Test.YtfmbhfnigneenaaRows
import Derived.Test.YtfmbhfnigneenaaA1
import Derived.Test.YtfmbhfnigneenaaA2
import Derived.Test.YtfmbhfnigneenaaNum
import Derived.Test.YtfmbhfnigneenaaBit
import Derived.Test.YtfmbhfnigneenaaFlt
import Derived.Test.YtfmbhfnigneenaaOrd
import Derived.Test.YtfmbhfnigneenaaLdx
import Derived.WalkKit
import Derived.Lib.Hide
import Derived.WalkSpells
import Derived.WalkLawsBesides
import Derived.Deep.QuietTactic
import Derived.BigQuiet
namespace Go.Proofs.Ytfmbhfnigneenaa
open Go.RowKit

set_option maxRecDepth 100000 in
set_option maxHeartbeats 400000 in
theorem single_tenth  (w : World) :
    Calls Try.prog 22 #[.float .f64 4591870180066957722] w fun e w' => e = .returned (.float .f32 1036831949) ∧ w = w' := by
  have hc := fun w => run_convert_float_float (P := Try.prog) w 22 37 .f64 .f32 4591870180066957722 1036831949 (by kernel_rfl) Try.underlying37 (by decide +kernel)
  go_enter Try.func22, Try.ntmps22
  go_wp2
  go_ret
  exact ⟨rfl, rfl⟩

set_option maxRecDepth 100000 in
set_option maxHeartbeats 400000 in
theorem awake_any  (w : World) :
    Calls Try.prog 18 #[] w fun e w' => e = .returned (.bool true) ∧ ∃ n, w' = w.drewN n := by
  have e1 : Tn.rank 4607182418800017408 = 4607182418800017408 := by decide +kernel
  have e2 : Tn.ok 4607182418800017408 = true := by decide +kernel
  have e3 : Tn.ok 4611686018427387904 = true := by decide +kernel
  have e4 : Tn.att (Tn.midr 4607182418800017408 4611686018427387904) = 4609434218613702656 := by decide +kernel
  have e5 : Tn.cls 4607182418800017408 = 3 := by decide +kernel
  have e6 : Tn.step 4607182418800017408 1 = 4607182418800017409 := by decide +kernel
  have e7 : Tn.jn 3 (-1075) = 2 := by decide +kernel
  have f4 : (FloatKind.f64.format.order 4609434218613702656 4609434218613702656 == some .eq) = true := by decide +kernel
  have f6 : (FloatKind.f64.format.order 4607182418800017409 4607182418800017409 == some .eq) = true := by decide +kernel
  have f7 : (FloatKind.f64.format.order 2 2 == some .eq) = true := by decide +kernel
  have f8 : (FloatKind.f32.format.order 1036831949 1036831949 == some .eq) = true := by decide +kernel
  go_enter Try.func18, Try.ntmps18
  go_wp2_with (first | (go_at_call 12; refine (rank_any _ (by decide) _).mono ?_; rintro e w' ⟨rfl, rfl⟩) | (go_at_call 19; refine (mid_any _ _ (by decide) (by decide) _).mono ?_; rintro e w' ⟨rfl, rfl⟩) | (go_at_call 28; refine (class_any _ (by decide) _).mono ?_; rintro e w' ⟨rfl, rfl⟩) | (go_at_call 36; refine (up_any _ (by decide) _).mono ?_; rintro e w' ⟨rfl, rfl⟩) | (go_at_call 42; refine (join_any _ _ (by decide) (by decide) _).mono ?_; rintro e w' ⟨rfl, ⟨nd, rfl⟩⟩) | (go_at_call 22; refine (single_tenth _).mono ?_; rintro e w' ⟨rfl, rfl⟩))
  go_ret
  exact ⟨rfl, _, rfl⟩

end Go.Proofs.Ytfmbhfnigneenaa
