/- risk.Ladder: how each node moves what flows are worth. -/
import Derived.Test.YtmdoljecjliehaaGreatKg
namespace Go.Proofs.YtmdoljecjliehaaGreat.FB
open Go.RowKit Go.Proofs.YtmdoljecjliehaaGreatW.PrintWords Go.Proofs.YtmdoljecjliehaaGreatW.PrintLast Go.Proofs.YtmdoljecjliehaaGreatW.PrintMore Go.Proofs.YtmdoljecjliehaaGreat.FX Go.Proofs.YtmdoljecjliehaaGreat.EV Go.Proofs.YtmdoljecjliehaaGreat.FP Tn
attribute [local go_sem] run_store_float run_neg_float run_fmul run_fadd run_fsub run_fdiv isSome_setCell
set_option linter.unusedVariables false
set_option linter.unusedSimpArgs false
theorem toldV_num {x : Nat} (hx : x < 18446744073709551616) (h : (toldV x).2 = 0) : (toldV x).1 < 18446744073709551616 ∧ fin (toldV x).1 = true := by
 unfold toldV at *
 by_cases c : fin x = true
 ·rw [if_pos c]; exact ⟨hx, c⟩
 ·rw [if_neg c] at h; cases h
theorem pres_num {l : List S104} {cur b kd : Int} {ds : List Int} {fs : List Nat} (h : (presV l cur b kd ds fs).2 = 0) : (presV l cur b kd ds fs).1 < 18446744073709551616 ∧ fin (presV l cur b kd ds fs).1 = true := by
 unfold presV at *
 by_cases c : eachE cur b kd ds fs l = 0
 ·rw [if_pos c] at h ⊢
  exact toldV_num (over_lt _ _) h
 ·rw [if_neg c] at h; exact absurd h c
theorem sub_num {x y : Nat} (hx : x < 18446744073709551616) (hy : y < 18446744073709551616) (fx : fin x = true) (fy : fin y = true) : fsubK x y = true ∧ fsubV x y = subN x y ∧ fsubV x y < 18446744073709551616 := by
 (obtain ⟨k, v⟩ := fsub_is (sub_fin' hx hy fx fy));(refine ⟨k, v, ?_⟩);(rw [v]; unfold subN; exact (nn_sg _ (nr_le _ _)).w)
end Go.Proofs.YtmdoljecjliehaaGreat.FB
