/- Written by the session's fprint.py out of the translation. -/
import Derived.Test.YtmdoljecjliehaaGreatFXcx0
namespace Go.Proofs.YtmdoljecjliehaaGreat.FXc
noncomputable section
open Go.RowKit Go.Proofs.YtmdoljecjliehaaGreatW.PrintWords Go.Proofs.YtmdoljecjliehaaGreatW.PrintLast Go.Proofs.YtmdoljecjliehaaGreatW.PrintMore
attribute [local go_sem] max2_int min2_int max_two min_two max_three min_three max_four min_four   -- for this text's walks alone
open Go.Proofs.YtmdoljecjliehaaGreat.FX Go.Proofs.YtmdoljecjliehaaGreat.FP Go.Proofs.YtmdoljecjliehaaGreat.FQ Go.Proofs.YtmdoljecjliehaaGreat.FXa
attribute [local go_sem] run_store_float run_neg_float run_fmul run_fadd run_fsub run_fdiv run_ftoi isSome_setCell 
set_option linter.unusedVariables false
set_option linter.unusedSimpArgs false

def tenorref1_Number.f (a0 : Int) : Option (Bool) := some (decide ((Go.bits .andNot .u64 a0 9223372036854775808) < 9218868437227405312))
set_option maxHeartbeats 8000000 in
set_option maxRecDepth 100000 in
theorem tenorref1_Number.calls (a0 : Int) (r : Bool) (w : World) (h : tenorref1_Number.f a0 = some r) :
  Calls Tryz.prog 79 #[.int .u64 a0] w fun e w' => e = .returned (.bool r) ∧ Drawn0 w w' := by
 (have H : (some (decide ((Go.bits .andNot .u64 a0 9223372036854775808) < 9218868437227405312))) = some r := h);(clear h);(obtain rfl := Option.some.inj H);(go_enter Tryz.func79, Tryz.ntmps79);(go_wp2);(go_ret);(exact ⟨sA, dA⟩)

def tenorref1_IsNaN.f (a0 : Int) : Option (Bool) := some (decide ((Go.bits .andNot .u64 a0 9223372036854775808) > 9218868437227405312))
set_option maxHeartbeats 8000000 in
set_option maxRecDepth 100000 in
theorem tenorref1_IsNaN.calls (a0 : Int) (r : Bool) (w : World) (h : tenorref1_IsNaN.f a0 = some r) :
  Calls Tryz.prog 146 #[.int .u64 a0] w fun e w' => e = .returned (.bool r) ∧ Drawn0 w w' := by
 (have H : (some (decide ((Go.bits .andNot .u64 a0 9223372036854775808) > 9218868437227405312))) = some r := h);(clear h);(obtain rfl := Option.some.inj H);(go_enter Tryz.func146, Tryz.ntmps146);(go_wp2);(go_ret);(exact ⟨sA, dA⟩)

def tenorref1_Rank.f (a0 : Int) : Option (Int × Bool) := (tenorref1_IsNaN.f a0).bind fun t101 => (if t101 = true then (some (0, false)) else (if a0 ≥ 9223372036854775808 then (some (wrap64 (-(wrap64 (IntKind.u64.wrap (a0 - 9223372036854775808)))), true)) else (some (wrap64 (a0), true))))
set_option maxHeartbeats 8000000 in
set_option maxRecDepth 100000 in
theorem tenorref1_Rank.calls (a0 : Int) (r1 : Int) (r2 : Bool) (w : World) (h : tenorref1_Rank.f a0 = some (r1, r2)) :
  Calls Tryz.prog 141 #[.int .u64 a0] w fun e w' => e = .returned (.tuple #[.int .i64 r1, .bool r2]) ∧ Drawn0 w w' := by
 (have H : ((tenorref1_IsNaN.f a0).bind fun t101 => (if t101 = true then (some (0, false)) else (if a0 ≥ 9223372036854775808 then (some (wrap64 (-(wrap64 (IntKind.u64.wrap (a0 - 9223372036854775808)))), true)) else (some (wrap64 (a0), true))))) = some (r1, r2) := h);(clear h);(revert H);(refine bE ?_);(rintro t101 A2 H)
 by_cases c3 : t101 = true
 ·subst c3
  (have H1 : (some (0, false)) = some (r1, r2) := by rw [if_pos rfl] at H; exact H);(clear H);(have H := H1);(clear H1);(simp only [Option.some.injEq, Prod.mk.injEq] at H);(obtain ⟨rfl, rfl⟩ := H);(go_enter Tryz.func141, Tryz.ntmps141)
  go_wp2_with (first | ((with_reducible refine gate_callee (f := 146) rfl ?_); refine goL (N := some 5) Tryz.func146 #[.int .u64 a0] ?_; (with_reducible refine (tenorref1_IsNaN.calls a0 true _ A2.out).mono ?_); rintro e w' ⟨rfl, ⟨nd, rfl⟩⟩; refine ⟨_, rfl, ?_⟩))
  (go_ret2);(exact ⟨sA, dA⟩)
 (replace c3 := Bool.eq_false_iff.mpr c3);(subst c3);(have H1 : (if a0 ≥ 9223372036854775808 then (some (wrap64 (-(wrap64 (IntKind.u64.wrap (a0 - 9223372036854775808)))), true)) else (some (wrap64 (a0), true))) = some (r1, r2) := by rw [if_neg (show ¬ (false = true) by decide)] at H; exact H);(clear H);(have H := H1);(clear H1)
 by_cases c4 : a0 ≥ 9223372036854775808
 ·rw [if_pos c4] at H
  (have c4b0 : decide (9223372036854775808 ≤ a0) = true := decide_eq_true c4);(clear c4);(simp only [Option.some.injEq, Prod.mk.injEq] at H);(obtain ⟨rfl, rfl⟩ := H);(go_enter Tryz.func141, Tryz.ntmps141)
  go_wp2_with (first | ((with_reducible refine gate_callee (f := 146) rfl ?_); refine goL (N := some 5) Tryz.func146 #[.int .u64 a0] ?_; (with_reducible refine (tenorref1_IsNaN.calls a0 false _ A2.out).mono ?_); rintro e w' ⟨rfl, ⟨nd, rfl⟩⟩; refine ⟨_, rfl, ?_⟩))
  (go_ret2);(exact ⟨sA, dA⟩)
 (rw [if_neg c4] at H);(have c4b0 : decide (9223372036854775808 ≤ a0) = false := decide_eq_false c4);(clear c4);(simp only [Option.some.injEq, Prod.mk.injEq] at H);(obtain ⟨rfl, rfl⟩ := H);(go_enter Tryz.func141, Tryz.ntmps141)
 go_wp2_with (first | ((with_reducible refine gate_callee (f := 146) rfl ?_); refine goL (N := some 5) Tryz.func146 #[.int .u64 a0] ?_; (with_reducible refine (tenorref1_IsNaN.calls a0 false _ A2.out).mono ?_); rintro e w' ⟨rfl, ⟨nd, rfl⟩⟩; refine ⟨_, rfl, ?_⟩))
 (go_ret2);(exact ⟨sA, dA⟩)

def tenorref1_Lt.f (a0 : Int) (a1 : Int) : Option (Bool) := (tenorref1_Rank.f a0).bind fun bt102 => ((tenorref1_Rank.f a1).bind fun bt104 => (if bt102.2 = true then (if bt104.2 = true then (some (decide (bt102.1 < bt104.1))) else (some false)) else (some false)))
set_option maxHeartbeats 8000000 in
set_option maxRecDepth 100000 in
theorem tenorref1_Lt.calls (a0 : Int) (a1 : Int) (r : Bool) (w : World) (h : tenorref1_Lt.f a0 a1 = some r) :
  Calls Tryz.prog 80 #[.int .u64 a0, .int .u64 a1] w fun e w' => e = .returned (.bool r) ∧ Drawn0 w w' := by
 (have H : ((tenorref1_Rank.f a0).bind fun bt102 => ((tenorref1_Rank.f a1).bind fun bt104 => (if bt102.2 = true then (if bt104.2 = true then (some (decide (bt102.1 < bt104.1))) else (some false)) else (some false)))) = some r := h);(clear h);(revert H);(refine bE ?_);(rintro ⟨t102, t103⟩ A3 H)
 (try dsimp only at H)
 (revert H);(refine bE ?_);(rintro ⟨t104, t105⟩ A4 H)
 (try dsimp only at H)
 by_cases c5 : t103 = true
 rotate_left
 ·replace c5 := Bool.eq_false_iff.mpr c5
  (subst c5);(have H1 : (some false) = some r := by rw [if_neg (show ¬ (false = true) by decide)] at H; exact H);(clear H);(have H := H1);(clear H1);(obtain rfl := Option.some.inj H);(go_enter Tryz.func80, Tryz.ntmps80)
  go_wp2_with (first | ((with_reducible refine gate_callee (f := 141) rfl ?_); refine goL (N := some 11) Tryz.func141 #[.int .u64 a0] ?_; (with_reducible refine (tenorref1_Rank.calls a0 t102 false _ A3.out).mono ?_); rintro e w' ⟨rfl, ⟨nd, rfl⟩⟩; refine ⟨_, rfl, ?_⟩) | ((with_reducible refine gate_callee (f := 141) rfl ?_); refine goL (N := some 16) Tryz.func141 #[.int .u64 a1] ?_; (with_reducible refine (tenorref1_Rank.calls a1 t104 t105 _ A4.out).mono ?_); rintro e w' ⟨rfl, ⟨nd, rfl⟩⟩; refine ⟨_, rfl, ?_⟩))
  (go_ret);(exact ⟨sA, dA⟩)
 (subst c5);(have H1 : (if t105 = true then (some (decide (t102 < t104))) else (some false)) = some r := by rw [if_pos rfl] at H; exact H);(clear H);(have H := H1);(clear H1)
 by_cases c6 : t105 = true
 ·subst c6
  (have H1 : (some (decide (t102 < t104))) = some r := by rw [if_pos rfl] at H; exact H);(clear H);(have H := H1);(clear H1);(obtain rfl := Option.some.inj H);(go_enter Tryz.func80, Tryz.ntmps80)
  go_wp2_with (first | ((with_reducible refine gate_callee (f := 141) rfl ?_); refine goL (N := some 11) Tryz.func141 #[.int .u64 a0] ?_; (with_reducible refine (tenorref1_Rank.calls a0 t102 true _ A3.out).mono ?_); rintro e w' ⟨rfl, ⟨nd, rfl⟩⟩; refine ⟨_, rfl, ?_⟩) | ((with_reducible refine gate_callee (f := 141) rfl ?_); refine goL (N := some 16) Tryz.func141 #[.int .u64 a1] ?_; (with_reducible refine (tenorref1_Rank.calls a1 t104 true _ A4.out).mono ?_); rintro e w' ⟨rfl, ⟨nd, rfl⟩⟩; refine ⟨_, rfl, ?_⟩))
  (go_ret);(exact ⟨sA, dA⟩)
 (replace c6 := Bool.eq_false_iff.mpr c6);(subst c6);(have H1 : (some false) = some r := by rw [if_neg (show ¬ (false = true) by decide)] at H; exact H);(clear H);(have H := H1);(clear H1);(obtain rfl := Option.some.inj H);(go_enter Tryz.func80, Tryz.ntmps80)
 go_wp2_with (first | ((with_reducible refine gate_callee (f := 141) rfl ?_); refine goL (N := some 11) Tryz.func141 #[.int .u64 a0] ?_; (with_reducible refine (tenorref1_Rank.calls a0 t102 true _ A3.out).mono ?_); rintro e w' ⟨rfl, ⟨nd, rfl⟩⟩; refine ⟨_, rfl, ?_⟩) | ((with_reducible refine gate_callee (f := 141) rfl ?_); refine goL (N := some 16) Tryz.func141 #[.int .u64 a1] ?_; (with_reducible refine (tenorref1_Rank.calls a1 t104 false _ A4.out).mono ?_); rintro e w' ⟨rfl, ⟨nd, rfl⟩⟩; refine ⟨_, rfl, ?_⟩))
 (go_ret);(exact ⟨sA, dA⟩)

end
end Go.Proofs.YtmdoljecjliehaaGreat.FXc
