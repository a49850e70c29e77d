/- Texts packed into one: FKx0 FKx1. No condition. -/
import Derived.Test.YtmdoljecjliehaaGreatPx
section
/- Written by the session's fprint.py out of the translation. -/
namespace Go.Proofs.YtmdoljecjliehaaGreat.FK
noncomputable section
open Go.RowKit Go.Proofs.YtmdoljecjliehaaGreatW.PrintWords Go.Proofs.YtmdoljecjliehaaGreatW.PrintLast Go.Proofs.YtmdoljecjliehaaGreatW.PrintMore
attribute [local go_sem] max2_int min2_int max_two min_two max_three min_three max_four min_four   -- for this text's walks alone
open Go.Proofs.YtmdoljecjliehaaGreat.FX Go.Proofs.YtmdoljecjliehaaGreat.FB Go.Proofs.YtmdoljecjliehaaGreat.FP Go.Proofs.YtmdoljecjliehaaGreat.FQ
attribute [local go_sem] run_store_float run_neg_float run_fmul run_fadd run_fsub run_fdiv run_ftoi isSome_setCell 
set_option linter.unusedVariables false
set_option linter.unusedSimpArgs false



def errW : Option Int → Value
 | none => .nilIface
 | some c => .iface 0 (.int .i64 c)
theorem errW_none : errW none = .nilIface := rfl
theorem errW_some (c : Int) : errW (some c) = .iface 0 (.int .i64 c) := rfl

-- the values' own types
end
end Go.Proofs.YtmdoljecjliehaaGreat.FK
end

section
/- Written by the session's fprint.py out of the translation. -/
namespace Go.Proofs.YtmdoljecjliehaaGreat.FK
noncomputable section
open Go.RowKit Go.Proofs.YtmdoljecjliehaaGreatW.PrintWords Go.Proofs.YtmdoljecjliehaaGreatW.PrintLast Go.Proofs.YtmdoljecjliehaaGreatW.PrintMore
attribute [local go_sem] max2_int min2_int max_two min_two max_three min_three max_four min_four   -- for this text's walks alone
open Go.Proofs.YtmdoljecjliehaaGreat.FX Go.Proofs.YtmdoljecjliehaaGreat.FB Go.Proofs.YtmdoljecjliehaaGreat.FP Go.Proofs.YtmdoljecjliehaaGreat.FQ
attribute [local go_sem] run_store_float run_neg_float run_fmul run_fadd run_fsub run_fdiv run_ftoi isSome_setCell 
set_option linter.unusedVariables false
set_option linter.unusedSimpArgs false

def risk_number.f (a0 : Nat) : Option (Bool) := (ieee_Class.f a0).bind fun t101 => (some (decide (t101 < 4)))
set_option maxHeartbeats 8000000 in
set_option maxRecDepth 100000 in
theorem risk_number.calls (a0 : Nat) (r : Bool) (w : World) (h : risk_number.f a0 = some r) :
  Calls Tryz.prog 106 #[.float .f64 a0] w fun e w' => e = .returned (.bool r) ∧ Drawn0 w w' := by
 (have H : ((ieee_Class.f a0).bind fun t101 => (some (decide (t101 < 4)))) = some r := h);(clear h);(revert H);(refine bE ?_);(rintro t101 A2 H);(obtain rfl := Option.some.inj H);(go_enter Tryz.func106, Tryz.ntmps106)
 go_wp2_with (first | ((with_reducible refine gate_callee (f := 78) rfl ?_); refine goL (N := some 4) Tryz.func78 #[.float .f64 a0] ?_; (with_reducible refine (ieee_Class.calls a0 t101 _ A2.out).mono ?_); rintro e w' ⟨rfl, ⟨nd, rfl⟩⟩; refine ⟨_, rfl, ?_⟩))
 (go_ret);(exact ⟨sA, dA⟩)

end
end Go.Proofs.YtmdoljecjliehaaGreat.FK
end
