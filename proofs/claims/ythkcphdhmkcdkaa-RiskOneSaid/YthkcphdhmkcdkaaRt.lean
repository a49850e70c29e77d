/- RiskOne, the plain law. No walk. -/
import Derived.Test.YthkcphdhmkcdkaaFJbx1
namespace Go.Proofs.Ythkcphdhmkcdkaa.FJb
open Go.RowKit Go.Proofs.YthkcphdhmkcdkaaW.PrintWords Go.Proofs.YthkcphdhmkcdkaaW.PrintLast Go.Proofs.YthkcphdhmkcdkaaW.PrintMore Tn
open Go.Proofs.Ythkcphdhmkcdkaa.FX Go.Proofs.Ythkcphdhmkcdkaa.FB Go.Proofs.Ythkcphdhmkcdkaa.FP Go.Proofs.Ythkcphdhmkcdkaa.FQ Go.Proofs.Ythkcphdhmkcdkaa.EV Go.Proofs.Ythkcphdhmkcdkaa.FK
set_option linter.unusedVariables false
theorem awake16 : law16_awakeX.f = some true := rfl
theorem one_bump (b kd d : Int) (f h : Nat) : parE b kd [d] [f] h = bumpE b kd [d] [f] 0 h ∧ parL b [d] [f] h = bumpL b [d] [f] 0 h := by
 (have n0 : nodeAt b [d] [f] h 0 = bumpV b (rd [d] 0) (rdOf (0 : Nat) [f] 0) h := rfl);(have e : List.range 1 = [0] := rfl)
 constructor
 ·unfold parE bumpE nodeE
  (rw [show ([f] : List Nat).length = 1 from rfl, e]);(simp only [List.all_cons, List.all_nil, n0, Bool.and_true]);(rw [if_neg (show ¬ ((0 : Int) < 0 ∨ (([d] : List Int).length : Int) ≤ 0) by simp)])
 ·unfold parL bumpL
  (rw [show ([f] : List Nat).length = 1 from rfl, e]);(simp only [List.map_cons, List.map_nil, n0]; rfl)
theorem one_aft (l : List S51) (cur b kd d : Int) (f h : Nat) : aftN l cur b kd [d] [f] ((0 : Nat) : Int) h = aftA l cur b kd [d] [f] h := by
 (obtain ⟨h1, h2⟩ := one_bump b kd d f h);(unfold aftN aftA);(rw [show (((0 : Nat) : Int)) = 0 from rfl, h1, h2])
theorem one_lad (l : List S51) (cur b kd d : Int) (f h : Nat) : (ladV l cur b kd [d] [f] h).2 = (delV l cur b kd [d] [f] h).2 ∧ ((ladV l cur b kd [d] [f] h).2 = 0 → (ladV l cur b kd [d] [f] h).1 = [(delV l cur b kd [d] [f] h).1]) := by
 unfold ladV delV
 by_cases c1 : (begV l cur b kd [d] [f] h).2 = 0
 rotate_left
 ·rw [if_neg c1, if_neg c1]; exact ⟨rfl, fun h => absurd h c1⟩
 rw [if_pos c1, if_pos c1, show ([d] : List Int).length = 1 from rfl, ladF, one_aft]
 by_cases c2 : (aftA l cur b kd [d] [f] h).2 = 0
 rotate_left
 ·rw [if_neg c2, if_neg c2]; exact ⟨rfl, fun h => absurd h c2⟩
 (rw [if_pos c2, if_pos c2]);(unfold toldV)
 by_cases c3 : fin (fsubV (aftA l cur b kd [d] [f] h).1 (begV l cur b kd [d] [f] h).1) = true
 ·rw [if_pos c3, if_pos c3, ladF]; exact ⟨rfl, fun _ => rfl⟩
 ·rw [if_neg c3, if_neg c3]; exact ⟨rfl, fun h => by cases h⟩
theorem law (l : List S51) (cur b kd d : Int) (f h : Nat) (hwl : ∀ f ∈ l, f.f1 < 18446744073709551616) (hf : f < 18446744073709551616) (hh : h < 18446744073709551616) : tenorlaw16_RiskOne.f l cur b kd d f h = some true := by
 (unfold tenorlaw16_RiskOne.f);(rw [Option.bind_some, Option.bind_some, awake16])
 by_cases c1 : (l.length : Int) > 20
 ·rw [if_pos c1]; rfl
 (rw [if_neg c1]);(have hok : okW l [f] = true ∧ h < 18446744073709551616 := ⟨okW_of (by omega) hwl (fun y hy => by rw [List.mem_singleton] at hy; subst hy; exact hf), hh⟩);(have o1 : risk_Ladder.f l cur b kd [d] [f] h = some (ladV l cur b kd [d] [f] h) := by unfold risk_Ladder.f; rw [if_pos hok]);(have o2 : risk_Delta.f l cur b kd [d] [f] h = some (delV l cur b kd [d] [f] h) := by unfold risk_Delta.f; rw [if_pos hok]);(obtain ⟨h1, h2⟩ := one_lad l cur b kd d f h);(rw [o1, Option.bind_some, o2, Option.bind_some, if_pos h1])
 by_cases c2 : (ladV l cur b kd [d] [f] h).2 = 0
 ·rw [if_pos c2, h2 c2]
  (have e : rdOf (0 : Nat) [(delV l cur b kd [d] [f] h).1] 0 = (delV l cur b kd [d] [f] h).1 := rfl);(rw [if_pos (show (([(delV l cur b kd [d] [f] h).1] : List Nat).length : Int) = 1 from rfl), if_pos (show (0 : Int) < (([(delV l cur b kd [d] [f] h).1] : List Nat).length : Int) by simp), e]);(unfold api_Bits.f);(rw [Option.bind_some, Option.bind_some, if_pos rfl]; rfl)
 ·rw [if_neg c2]; rfl
end Go.Proofs.Ythkcphdhmkcdkaa.FJb
