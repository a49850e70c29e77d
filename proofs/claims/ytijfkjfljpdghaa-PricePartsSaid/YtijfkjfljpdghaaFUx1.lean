/- Texts packed into one: FUx0 FUx1. No condition. -/
import Derived.Test.YtijfkjfljpdghaaPx
section
/- Written by the session's fprint.py out of the translation. -/
namespace Go.Proofs.Ytijfkjfljpdghaa.FU
noncomputable section
open Go.RowKit Go.Proofs.YtijfkjfljpdghaaW.PrintWords Go.Proofs.YtijfkjfljpdghaaW.PrintLast Go.Proofs.YtijfkjfljpdghaaW.PrintMore
attribute [local go_sem] max2_int min2_int max_two min_two max_three min_three max_four min_four   -- for this text's walks alone
open Go.Proofs.Ytijfkjfljpdghaa.FX Go.Proofs.Ytijfkjfljpdghaa.FB Go.Proofs.Ytijfkjfljpdghaa.FP Go.Proofs.Ytijfkjfljpdghaa.FQ
attribute [local go_sem] run_store_float run_neg_float run_fmul run_fadd run_fsub run_fdiv run_ftoi isSome_setCell 
set_option linter.unusedVariables false
set_option linter.unusedSimpArgs false



def errW : Option Int → Value
 | none => .nilIface
 | some c => .iface 0 (.int .i64 c)
theorem errW_none : errW none = .nilIface := rfl
theorem errW_some (c : Int) : errW (some c) = .iface 0 (.int .i64 c) := rfl

-- the values' own types
end
end Go.Proofs.Ytijfkjfljpdghaa.FU
end

section
/- Written by the session's fprint.py out of the translation. -/
namespace Go.Proofs.Ytijfkjfljpdghaa.FU
noncomputable section
open Go.RowKit Go.Proofs.YtijfkjfljpdghaaW.PrintWords Go.Proofs.YtijfkjfljpdghaaW.PrintLast Go.Proofs.YtijfkjfljpdghaaW.PrintMore
attribute [local go_sem] max2_int min2_int max_two min_two max_three min_three max_four min_four   -- for this text's walks alone
open Go.Proofs.Ytijfkjfljpdghaa.FX Go.Proofs.Ytijfkjfljpdghaa.FB Go.Proofs.Ytijfkjfljpdghaa.FP Go.Proofs.Ytijfkjfljpdghaa.FQ
attribute [local go_sem] run_store_float run_neg_float run_fmul run_fadd run_fsub run_fdiv run_ftoi isSome_setCell 
set_option linter.unusedVariables false
set_option linter.unusedSimpArgs false

def tenorlaw15_small.f (l0 : List (S50)) (a1_0 : Int) (a1_1 : Int) (l1_2 : List Int) (l1_3 : List Nat) : Option (Bool) := if (l0.length : Int) ≤ 60 then (if (l1_2.length : Int) ≤ 12 then (some (decide ((l1_3.length : Int) ≤ 12))) else (some false)) else (some false)
set_option maxHeartbeats 8000000 in
set_option maxRecDepth 100000 in
theorem tenorlaw15_small.calls (A0 : Option Addr) (c0 : Nat) (l0 : List (S50)) (a1_0 : Int) (a1_1 : Int) (A1_2 : Option Addr) (c1_2 : Nat) (l1_2 : List Int) (A1_3 : Option Addr) (c1_3 : Nat) (l1_3 : List Nat) (r : Bool) (w : World) (hr0 : Kd.C k50 w A0 l0.length l0) (hc0 : l0.length ≤ c0) (hr1_2 : Kd.C (Kd.int .i64) w A1_2 l1_2.length l1_2) (hc1_2 : l1_2.length ≤ c1_2) (hr1_3 : Kd.C Kd.flt w A1_3 l1_3.length l1_3) (hc1_3 : l1_3.length ≤ c1_3) (h : tenorlaw15_small.f l0 a1_0 a1_1 l1_2 l1_3 = some r) :
  Calls Try.prog 4 #[.slice A0 l0.length c0, .agg #[.int .i64 a1_0, .int .i64 a1_1, .slice A1_2 l1_2.length c1_2, .slice A1_3 l1_3.length c1_3]] w fun e w' => e = .returned (.bool r) ∧ Below w.heap.size w w' := by
 (have hu26 := Try.underlying26);(have HR0 := aM hr0);(have HC0 := aM hc0);(clear hr0 hc0);(have HR1_2 := aM hr1_2);(have HC1_2 := aM hc1_2);(clear hr1_2 hc1_2);(have HR1_3 := aM hr1_3);(have HC1_3 := aM hc1_3);(clear hr1_3 hc1_3);(have HB := aM (Below.refl w.heap.size w));(have H : (if (l0.length : Int) ≤ 60 then (if (l1_2.length : Int) ≤ 12 then (some (decide ((l1_3.length : Int) ≤ 12))) else (some false)) else (some false)) = some r := h);(clear h)
 by_cases c3 : (l0.length : Int) ≤ 60
 rotate_left
 ·rw [if_neg c3] at H
  (have c3b0 : decide ((l0.length : Int) ≤ 60) = false := decide_eq_false c3);(have c3b1 : decide (l0.length ≤ 60) = false := decide_eq_false (by omega));(clear c3);(obtain rfl := Option.some.inj H);(go_enter Try.func4, Try.ntmps4)
  go_wp2_with (first | ((with_reducible refine gD 3 rfl ?_); (try (refine gate_guard (by rfl) ?_; dsimp only)); refine boxW (N := 3) #[.int .i64 a1_0, .int .i64 a1_1, .slice A1_2 l1_2.length c1_2, .slice A1_3 l1_3.length c1_3] 26 HB ?_; clear HB; intro gb101 w9 BK101 HB GW101; have GE101 := GW101))
  (go_ret);(exact ⟨eA, bG HB.out⟩)
 (rw [if_pos c3] at H);(have c3b0 : decide ((l0.length : Int) ≤ 60) = true := decide_eq_true c3);(have c3b1 : decide (l0.length ≤ 60) = true := decide_eq_true (by omega));(clear c3)
 by_cases c4 : (l1_2.length : Int) ≤ 12
 ·rw [if_pos c4] at H
  (have c4b0 : decide ((l1_2.length : Int) ≤ 12) = true := decide_eq_true c4);(have c4b1 : decide (l1_2.length ≤ 12) = true := decide_eq_true (by omega));(clear c4);(obtain rfl := Option.some.inj H);(go_enter Try.func4, Try.ntmps4)
  go_wp2_with (first | ((with_reducible refine gD 3 rfl ?_); (try (refine gate_guard (by rfl) ?_; dsimp only)); refine boxW (N := 3) #[.int .i64 a1_0, .int .i64 a1_1, .slice A1_2 l1_2.length c1_2, .slice A1_3 l1_3.length c1_3] 26 HB ?_; clear HB; intro gb101 w5 BK101 HB GW101; have GE101 := GW101; obtain ⟨hcz6_0, hcz6_1, hcz6_2, hcz6_3, hfz6_0, hfz6_1, hfz6_2, hfz6_3⟩ := cz4 BK101.out))
  (go_ret);(exact ⟨eA, bG HB.out⟩)
 (rw [if_neg c4] at H);(have c4b0 : decide ((l1_2.length : Int) ≤ 12) = false := decide_eq_false c4);(have c4b1 : decide (l1_2.length ≤ 12) = false := decide_eq_false (by omega));(clear c4);(obtain rfl := Option.some.inj H);(go_enter Try.func4, Try.ntmps4)
 go_wp2_with (first | ((with_reducible refine gD 3 rfl ?_); (try (refine gate_guard (by rfl) ?_; dsimp only)); refine boxW (N := 3) #[.int .i64 a1_0, .int .i64 a1_1, .slice A1_2 l1_2.length c1_2, .slice A1_3 l1_3.length c1_3] 26 HB ?_; clear HB; intro gb101 w7 BK101 HB GW101; have GE101 := GW101; obtain ⟨hcz8_0, hcz8_1, hcz8_2, hcz8_3, hfz8_0, hfz8_1, hfz8_2, hfz8_3⟩ := cz4 BK101.out))
 (go_ret);(exact ⟨eA, bG HB.out⟩)

end
end Go.Proofs.Ytijfkjfljpdghaa.FU
end
