/- risk: what flows are worth behind a bump. -/
import Derived.Test.YtmdoljecjliehaaGreatKe
namespace Go.Proofs.YtmdoljecjliehaaGreat.FB
open Go.RowKit Go.Proofs.YtmdoljecjliehaaGreatW.PrintWords Go.Proofs.YtmdoljecjliehaaGreatW.PrintLast Go.Proofs.YtmdoljecjliehaaGreatW.PrintMore Go.Proofs.YtmdoljecjliehaaGreat.FX Go.Proofs.YtmdoljecjliehaaGreat.EV Go.Proofs.YtmdoljecjliehaaGreat.FP Tn
attribute [local go_sem] run_store_float run_neg_float run_fmul run_fadd run_fsub run_fdiv isSome_setCell
set_option linter.unusedVariables false
set_option linter.unusedSimpArgs false
theorem bumpE_zero {b kd : Int} {ds : List Int} {fs : List Nat} {i : Int} {h : Nat} (hz : bumpE b kd ds fs i h = 0) : chkC b kd ds fs = 0 ∧ (0 ≤ i ∧ i < (ds.length : Int)) ∧ fin h = true ∧ posf (bumpV b (rd ds i) (rdOf (0 : Nat) fs i) h) = true := by
 unfold bumpE at hz
 by_cases c1 : chkC b kd ds fs = 0
 ·rw [if_pos c1] at hz
  by_cases c2 : i < 0 ∨ (ds.length : Int) ≤ i
  ·rw [if_pos c2] at hz; cases hz
  rw [if_neg c2] at hz
  by_cases c3 : fin h = true
  ·rw [if_pos c3] at hz
   unfold nodeE at hz
   by_cases c4 : posf (bumpV b (rd ds i) (rdOf (0 : Nat) fs i) h) = true
   ·exact ⟨c1, by omega, c3, c4⟩
   ·rw [if_neg c4] at hz; cases hz
  ·rw [if_neg c3] at hz; cases hz
 ·rw [if_neg c1] at hz; exact absurd hz c1
theorem parE_zero {b kd : Int} {ds : List Int} {fs : List Nat} {h : Nat} (hz : parE b kd ds fs h = 0) : chkC b kd ds fs = 0 ∧ fin h = true ∧ ∀ m, m < fs.length → posf (nodeAt b ds fs h m) = true := by
 unfold parE at hz
 by_cases c1 : chkC b kd ds fs = 0
 ·rw [if_pos c1] at hz
  by_cases c3 : fin h = true
  ·rw [if_pos c3] at hz
   by_cases c4 : (List.range fs.length).all (fun j => posf (nodeAt b ds fs h j)) = true
   ·rw [List.all_eq_true] at c4
    exact ⟨c1, c3, fun m hm => c4 m (List.mem_range.2 hm)⟩
   ·rw [if_neg c4] at hz; cases hz
  ·rw [if_neg c3] at hz; cases hz
 ·rw [if_neg c1] at hz; exact absurd hz c1
theorem posf_w {x : Nat} (h : posf x = true) : x < 18446744073709551616 := by
 (obtain ⟨h1, h2, _⟩ := posf_is h);(unfold sgn at h2);(have := of_decide_eq_false h2);(omega)
theorem bumpL_w {b kd : Int} {ds : List Int} {fs : List Nat} {i : Int} {h : Nat} (hw : ∀ y ∈ fs, y < 18446744073709551616) (hz : bumpE b kd ds fs i h = 0) : ∀ y ∈ bumpL b ds fs i h, y < 18446744073709551616 := by
 intro y hy
 rcases List.mem_or_eq_of_mem_set hy with hy | rfl
 ·exact hw y hy
 ·exact posf_w (bumpE_zero hz).2.2.2
theorem parL_w {b kd : Int} {ds : List Int} {fs : List Nat} {h : Nat} (hz : parE b kd ds fs h = 0) : ∀ y ∈ parL b ds fs h, y < 18446744073709551616 := by
 (intro y hy);(obtain ⟨j, hj, rfl⟩ := List.mem_map.1 hy);(exact posf_w ((parE_zero hz).2.2 j (List.mem_range.1 hj)))
theorem parL_len (b : Int) (ds : List Int) (fs : List Nat) (h : Nat) : (parL b ds fs h).length = fs.length := by unfold parL; rw [List.length_map, List.length_range]
end Go.Proofs.YtmdoljecjliehaaGreat.FB
