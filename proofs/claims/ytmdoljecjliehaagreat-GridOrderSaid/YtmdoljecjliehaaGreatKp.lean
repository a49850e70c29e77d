/- risk in the print's shape. -/
import Derived.Test.YtmdoljecjliehaaGreatKi
namespace Go.Proofs.YtmdoljecjliehaaGreat.FB
open Go.RowKit Go.Proofs.YtmdoljecjliehaaGreatW.PrintWords Go.Proofs.YtmdoljecjliehaaGreatW.PrintLast Go.Proofs.YtmdoljecjliehaaGreatW.PrintMore Go.Proofs.YtmdoljecjliehaaGreat.FX Go.Proofs.YtmdoljecjliehaaGreat.EV Go.Proofs.YtmdoljecjliehaaGreat.FP Tn
set_option linter.unusedVariables false
set_option linter.unusedSimpArgs false
noncomputable def risk_Bump.f (b kd : Int) (ds : List Int) (fs : List Nat) (i : Int) (h : Nat) : Option (Int × Int × List Int × List Nat × Int) :=
 if (fs.all fun y => decide (y < 18446744073709551616)) = true ∧ h < 18446744073709551616 then some (if bumpE b kd ds fs i h = 0 then (b, kd, ds, bumpL b ds fs i h, 0) else (0, 0, [], [], bumpE b kd ds fs i h)) else none
theorem risk_Bump.calls (b kd : Int) (A1 : Option Addr) (c1 : Nat) (ds : List Int) (A2 : Option Addr) (c2 : Nat) (fs : List Nat) (i : Int) (h : Nat) (r1 r2 : Int) (r3 : List Int) (r4 : List Nat) (r5 : Int) (w : World) (hr1 : Kd.C (Kd.int .i64) w A1 ds.length ds) (hc1 : ds.length ≤ c1) (hr2 : Kd.C Kd.flt w A2 fs.length fs) (hc2 : fs.length ≤ c2) (hf : risk_Bump.f b kd ds fs i h = some (r1, r2, r3, r4, r5)) :
  Calls Tryz.prog 50 #[.agg #[.int .i64 b, .int .i64 kd, .slice A1 ds.length c1, .slice A2 fs.length c2], .int .i64 i, .float .f64 h] w fun e w' => ∃ v1_ v2_ : Value, e = .returned (.tuple #[.agg #[.int .i64 r1, .int .i64 r2, v1_, v2_], .int .i64 r5]) ∧ Kd.R (Kd.int .i64) 3 w' w.heap.size (fun _ => True) v1_ r3 ∧ Kd.R Kd.flt 30 w' w.heap.size (fun _ => True) v2_ r4 ∧ Below w.heap.size w w' := by
 unfold risk_Bump.f at hf
 by_cases c : (fs.all fun y => decide (y < 18446744073709551616)) = true ∧ h < 18446744073709551616
 rotate_left
 ·rw [if_neg c] at hf; cases hf
 (rw [if_pos c] at hf);(have hwf : ∀ y ∈ fs, y < 18446744073709551616 := fun y hy => of_decide_eq_true (List.all_eq_true.1 c.1 y hy));(refine (bump_any b kd A1 c1 ds A2 c2 fs i h w hr1 hc1 hr2 hc2 hwf c.2).mono ?_);(rintro e w' ⟨hb, ⟨hn, rfl⟩ | ⟨hz, gd, gf, rfl, BD, BF, gd0, gf0, gne⟩⟩)
 ·rw [if_neg hn] at hf
  (cases hf);(exact ⟨.slice none 0 0, .slice none 0 0, rfl, Kd.R_nil _ _ _ _ _, Kd.R_nil _ _ _ _ _, hb.out⟩)
 ·rw [if_pos hz] at hf
  (cases hf);(obtain ⟨_, _, h3, _⟩ := chk_zero.1 (bumpE_zero hz).1);(have R2 := BF.out.R gf0 (by rw [bumpL_len]; omega));(rw [bumpL_len] at R2);(exact ⟨_, _, rfl, BD.out.R gd0 (by omega), R2, hb.out⟩)
noncomputable def risk_Parallel.f (b kd : Int) (ds : List Int) (fs : List Nat) (h : Nat) : Option (Int × Int × List Int × List Nat × Int) :=
 if (fs.all fun y => decide (y < 18446744073709551616)) = true ∧ h < 18446744073709551616 then some (if parE b kd ds fs h = 0 then (b, kd, ds, parL b ds fs h, 0) else (0, 0, [], [], parE b kd ds fs h)) else none
theorem risk_Parallel.calls (b kd : Int) (A1 : Option Addr) (c1 : Nat) (ds : List Int) (A2 : Option Addr) (c2 : Nat) (fs : List Nat) (h : Nat) (r1 r2 : Int) (r3 : List Int) (r4 : List Nat) (r5 : Int) (w : World) (hr1 : Kd.C (Kd.int .i64) w A1 ds.length ds) (hc1 : ds.length ≤ c1) (hr2 : Kd.C Kd.flt w A2 fs.length fs) (hc2 : fs.length ≤ c2) (hf : risk_Parallel.f b kd ds fs h = some (r1, r2, r3, r4, r5)) :
  Calls Tryz.prog 52 #[.agg #[.int .i64 b, .int .i64 kd, .slice A1 ds.length c1, .slice A2 fs.length c2], .float .f64 h] w fun e w' => ∃ v1_ v2_ : Value, e = .returned (.tuple #[.agg #[.int .i64 r1, .int .i64 r2, v1_, v2_], .int .i64 r5]) ∧ Kd.R (Kd.int .i64) 3 w' w.heap.size (fun _ => True) v1_ r3 ∧ Kd.R Kd.flt 30 w' w.heap.size (fun _ => True) v2_ r4 ∧ Below w.heap.size w w' := by
 unfold risk_Parallel.f at hf
 by_cases c : (fs.all fun y => decide (y < 18446744073709551616)) = true ∧ h < 18446744073709551616
 rotate_left
 ·rw [if_neg c] at hf; cases hf
 (rw [if_pos c] at hf);(have hwf : ∀ y ∈ fs, y < 18446744073709551616 := fun y hy => of_decide_eq_true (List.all_eq_true.1 c.1 y hy));(refine (parallel_any b kd A1 c1 ds A2 c2 fs h w hr1 hc1 hr2 hc2 hwf c.2).mono ?_);(rintro e w' ⟨hb, ⟨hn, rfl⟩ | ⟨hz, gd, gf, rfl, BD, BF, gd0, gf0, gne⟩⟩)
 ·rw [if_neg hn] at hf
  (cases hf);(exact ⟨.slice none 0 0, .slice none 0 0, rfl, Kd.R_nil _ _ _ _ _, Kd.R_nil _ _ _ _ _, hb.out⟩)
 ·rw [if_pos hz] at hf
  (cases hf);(obtain ⟨_, _, h3, _⟩ := chk_zero.1 (parE_zero hz).1);(have R2 := BF.out.R gf0 (by rw [parL_len]; omega));(rw [parL_len] at R2);(exact ⟨_, _, rfl, BD.out.R gd0 (by omega), R2, hb.out⟩)
end Go.Proofs.YtmdoljecjliehaaGreat.FB
