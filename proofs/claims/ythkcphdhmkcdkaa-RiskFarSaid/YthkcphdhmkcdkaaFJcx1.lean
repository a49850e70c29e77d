/- Written by the session's fprint.py out of the translation. -/
import Derived.Test.YthkcphdhmkcdkaaFJcx0
namespace Go.Proofs.Ythkcphdhmkcdkaa.FJc
noncomputable section
open Go.RowKit Go.Proofs.YthkcphdhmkcdkaaW.PrintWords Go.Proofs.YthkcphdhmkcdkaaW.PrintLast Go.Proofs.YthkcphdhmkcdkaaW.PrintMore
attribute [local go_sem] max2_int min2_int max_two min_two max_three min_three max_four min_four   -- for this text's walks alone
open Go.Proofs.Ythkcphdhmkcdkaa.FX Go.Proofs.Ythkcphdhmkcdkaa.FB Go.Proofs.Ythkcphdhmkcdkaa.FP Go.Proofs.Ythkcphdhmkcdkaa.FQ Go.Proofs.Ythkcphdhmkcdkaa.FK
attribute [local go_sem] run_store_float run_neg_float run_fmul run_fadd run_fsub run_fdiv run_ftoi isSome_setCell 
set_option linter.unusedVariables false
set_option linter.unusedSimpArgs false

mutual
def tenorlaw16_RiskFar.j0 : Nat → List (S51) → Int → Int → Nat → Bool → Int → Int → List Int → List Nat → Option (Bool)
 | 0, _, _, _, _, _, _, _, _, _ => none
 | k + 1, x0, x1, x3, x4, x42, x102000, x102001, x102002, x102003 => if x42 = true then ((law16_awakeX.f).bind fun t103 => (some t103)) else ((risk_Bump.f x102000 x102001 x102002 x102003 x3 x4).bind fun bt104 => (if bt104.2.2.2.2 = 0 then (if x3 > 0 then (if 0 ≤ (wrap64 (x3 - 1)) then (if (wrap64 (x3 - 1)) < (x102002.length : Int) then (tenorlaw16_RiskFar.j1 k x0 x1 x3 x4 (rd x102002 (wrap64 (x3 - 1))) x102000 x102001 x102002 x102003 bt104.1 bt104.2.1 bt104.2.2.1 bt104.2.2.2.1) else (none)) else (none)) else (tenorlaw16_RiskFar.j1 k x0 x1 x3 x4 x102000 x102000 x102001 x102002 x102003 bt104.1 bt104.2.1 bt104.2.2.1 bt104.2.2.2.1)) else ((law16_awakeX.f).bind fun t114 => (some t114))))
def tenorlaw16_RiskFar.j1 : Nat → List (S51) → Int → Int → Nat → Int → Int → Int → List Int → List Nat → Int → Int → List Int → List Nat → Option (Bool)
 | 0, _, _, _, _, _, _, _, _, _, _, _, _, _ => none
 | k + 1, x0, x1, x3, x4, x13, x102000, x102001, x102002, x102003, x114000, x114001, x114002, x114003 => if (wrap64 (x3 + 1)) < (x102002.length : Int) then (if 0 ≤ (wrap64 (x3 + 1)) then (tenorlaw16_RiskFar.j2 k x0 x1 x3 x4 x13 (rd x102002 (wrap64 (x3 + 1))) x102000 x102001 x102002 x102003 x114000 x114001 x114002 x114003) else (none)) else (tenorlaw16_RiskFar.j2 k x0 x1 x3 x4 x13 109573 x102000 x102001 x102002 x102003 x114000 x114001 x114002 x114003)
def tenorlaw16_RiskFar.j2 : Nat → List (S51) → Int → Int → Nat → Int → Int → Int → Int → List Int → List Nat → Int → Int → List Int → List Nat → Option (Bool)
 | 0, _, _, _, _, _, _, _, _, _, _, _, _, _, _ => none
 | k + 1, x0, x1, x3, x4, x13, x14, x102000, x102001, x102002, x102003, x114000, x114001, x114002, x114003 => tenorlaw16_RiskFar.l0 k x0 x1 x3 x4 x13 x14 ([] : List (S51)) 0 x102000 x102001 x102002 x102003 x114000 x114001 x114002 x114003
def tenorlaw16_RiskFar.l0 : Nat → List (S51) → Int → Int → Nat → Int → Int → List (S51) → Int → Int → Int → List Int → List Nat → Int → Int → List Int → List Nat → Option (Bool)
 | 0, _, _, _, _, _, _, _, _, _, _, _, _, _, _, _, _ => none
 | k + 1, x0, x1, x3, x4, x13, x14, x15, x16, x102000, x102001, x102002, x102003, x114000, x114001, x114002, x114003 => if x16 < (x0.length : Int) then (if 0 ≤ x16 then (if ((rd_T51 x0 x16).f0) ≤ x13 then (tenorlaw16_RiskFar.j4 k x0 x1 x3 x4 x13 x14 x15 x16 true x102000 x102001 x102002 x102003 x114000 x114001 x114002 x114003) else (tenorlaw16_RiskFar.j4 k x0 x1 x3 x4 x13 x14 x15 x16 (decide (((rd_T51 x0 x16).f0) ≥ x14)) x102000 x102001 x102002 x102003 x114000 x114001 x114002 x114003)) else (none)) else ((risk_Ladder.f x15 x1 x102000 x102001 x102002 x102003 x4).bind fun bt135 => (if bt135.2 = 0 then (if (bt135.1.length : Int) = (x102002.length : Int) then (if 0 ≤ x3 then (if x3 < (bt135.1.length : Int) then ((api_Bits.f (rdOf (0 : Nat) bt135.1 x3)).bind fun t140 => (if t140 = 0 then ((law16_awakeX.f).bind fun t141 => (some t141)) else (some false))) else (none)) else (none)) else (some false)) else ((law16_awakeX.f).bind fun t142 => (if t142 = true then (some true) else (some false)))))
def tenorlaw16_RiskFar.j4 : Nat → List (S51) → Int → Int → Nat → Int → Int → List (S51) → Int → Bool → Int → Int → List Int → List Nat → Int → Int → List Int → List Nat → Option (Bool)
 | 0, _, _, _, _, _, _, _, _, _, _, _, _, _, _, _, _, _ => none
 | k + 1, x0, x1, x3, x4, x13, x14, x15, x16, x97, x102000, x102001, x102002, x102003, x114000, x114001, x114002, x114003 => if x97 = true then (if 0 ≤ x16 then (if x16 < (x0.length : Int) then (if x15.length < 5864062014805 then (tenorlaw16_RiskFar.j5 k x0 x1 x3 x4 x13 x14 (x15 ++ [(⟨(rd_T51 x0 x16).f0, (rd_T51 x0 x16).f1, (rd_T51 x0 x16).f2⟩ : S51)]) x16 x102000 x102001 x102002 x102003 x114000 x114001 x114002 x114003) else (none)) else (none)) else (none)) else (tenorlaw16_RiskFar.j5 k x0 x1 x3 x4 x13 x14 x15 x16 x102000 x102001 x102002 x102003 x114000 x114001 x114002 x114003)
def tenorlaw16_RiskFar.j5 : Nat → List (S51) → Int → Int → Nat → Int → Int → List (S51) → Int → Int → Int → List Int → List Nat → Int → Int → List Int → List Nat → Option (Bool)
 | 0, _, _, _, _, _, _, _, _, _, _, _, _, _, _, _, _ => none
 | k + 1, x0, x1, x3, x4, x13, x14, x15, x16, x102000, x102001, x102002, x102003, x114000, x114001, x114002, x114003 => if 0 ≤ x16 then (if x16 < (x0.length : Int) then ((curve_Factor.f k x102000 x102001 x102002 x102003 ((rd_T51 x0 x16).f0)).bind fun bt124 => ((curve_Factor.f k x114000 x114001 x114002 x114003 ((rd_T51 x0 x16).f0)).bind fun bt127 => (if bt124.2 = bt127.2 then (if ((rd_T51 x0 x16).f0) ≤ x13 then ((api_Bits.f bt124.1).bind fun t130 => ((api_Bits.f bt127.1).bind fun t131 => (if t130 = t131 then (tenorlaw16_RiskFar.l0 k x0 x1 x3 x4 x13 x14 x15 (wrap64 (x16 + 1)) x102000 x102001 x102002 x102003 x114000 x114001 x114002 x114003) else (some false)))) else (if ((rd_T51 x0 x16).f0) ≥ x14 then ((api_Bits.f bt124.1).bind fun t133 => ((api_Bits.f bt127.1).bind fun t134 => (if t133 = t134 then (tenorlaw16_RiskFar.l0 k x0 x1 x3 x4 x13 x14 x15 (wrap64 (x16 + 1)) x102000 x102001 x102002 x102003 x114000 x114001 x114002 x114003) else (some false)))) else (tenorlaw16_RiskFar.l0 k x0 x1 x3 x4 x13 x14 x15 (wrap64 (x16 + 1)) x102000 x102001 x102002 x102003 x114000 x114001 x114002 x114003))) else (some false)))) else (none)) else (none)
end
def tenorlaw16_RiskFar.f (k : Nat) (l0 : List (S51)) (a1 : Int) (a2_0 : Int) (a2_1 : Int) (l2_2 : List Int) (l2_3 : List Nat) (a3 : Int) (a4 : Nat) : Option (Bool) := (tenorlaw16_small.f l0 a2_0 a2_1 l2_2 l2_3).bind fun t102 => (if t102 = true then (if a2_1 = 3 then (tenorlaw16_RiskFar.j0 k l0 a1 a3 a4 true a2_0 a2_1 l2_2 l2_3) else (if a3 < 0 then (tenorlaw16_RiskFar.j0 k l0 a1 a3 a4 true a2_0 a2_1 l2_2 l2_3) else (tenorlaw16_RiskFar.j0 k l0 a1 a3 a4 (decide (a3 ≥ (l2_2.length : Int))) a2_0 a2_1 l2_2 l2_3))) else (tenorlaw16_RiskFar.j0 k l0 a1 a3 a4 true a2_0 a2_1 l2_2 l2_3))
def tenorlaw16_RiskFar.T18 : Bool × List (List Nat × List Nat) := (true, [([], []), ([], []), ([], []), ([1, 2], [1, 2]), ([3], [3]), ([4], [4]), ([0, 5], [0, 5]), ([6], [6]), ([7], [7]), ([7], [7]), ([8, 6, 0, 1, 2, 3, 4, 5, 6, 7, 8], [8]), ([9, 10, 0, 1, 2, 3, 4, 5, 6, 7, 8, 9, 10], [9])])
def tenorlaw16_RiskFar.B18 : List Nat := [0, 0, 0, 6, 14, 30, 63, 127, 255, 255, 511, 2047]
theorem tenorlaw16_RiskFar.tab18 : rtab .any (opsOf Try.f8 18) = tenorlaw16_RiskFar.T18 := by kernel_rfl
theorem tenorlaw16_RiskFar.bits18 : waitsOk tenorlaw16_RiskFar.T18.2 tenorlaw16_RiskFar.B18 = true := by kernel_rfl
def tenorlaw16_RiskFar.T19 : Bool × List (List Nat × List Nat) := (true, [([], []), ([], []), ([], []), ([1, 2], [1, 2]), ([3], [3]), ([4], [4]), ([0, 5], [0, 5]), ([6], [6]), ([7], [7]), ([7], [7]), ([8, 6, 0, 1, 2, 3, 4, 5, 6, 7, 8], [8]), ([9, 10, 0, 1, 2, 3, 4, 5, 6, 7, 8, 9, 10], [9])])
def tenorlaw16_RiskFar.B19 : List Nat := [0, 0, 0, 6, 14, 30, 63, 127, 255, 255, 511, 2047]
theorem tenorlaw16_RiskFar.tab19 : rtab .any (opsOf Try.f8 19) = tenorlaw16_RiskFar.T19 := by kernel_rfl
theorem tenorlaw16_RiskFar.bits19 : waitsOk tenorlaw16_RiskFar.T19.2 tenorlaw16_RiskFar.B19 = true := by kernel_rfl
end
end Go.Proofs.Ythkcphdhmkcdkaa.FJc
