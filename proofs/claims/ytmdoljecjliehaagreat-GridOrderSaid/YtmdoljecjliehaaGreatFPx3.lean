/- Written by the session's fprint.py out of the translation. -/
import Derived.Test.YtmdoljecjliehaaGreatFPx0
namespace Go.Proofs.YtmdoljecjliehaaGreat.FP
open Go.RowKit Go.Proofs.YtmdoljecjliehaaGreatW.PrintWords Go.Proofs.YtmdoljecjliehaaGreatW.PrintLast Go.Proofs.YtmdoljecjliehaaGreatW.PrintMore
attribute [local go_sem] max2_int min2_int max_two min_two max_three min_three max_four min_four   -- for this text's walks alone
open Go.Proofs.YtmdoljecjliehaaGreat.FX
attribute [local go_sem] run_store_float run_neg_float run_fmul run_fadd run_fsub run_fdiv run_ftoi isSome_setCell 
set_option linter.unusedVariables false
set_option linter.unusedSimpArgs false

mutual
def interp_held.j0 : Nat → Nat → Nat → Nat → Nat → Nat → Option (Nat)
 | 0, _, _, _, _, _ => none
 | k + 1, x0, x1, x2, x7, x8 => if (FloatKind.f64.format.order x1 x2 == some .eq) = true then (interp_held.j1 k x0 x7 x1) else (interp_held.j1 k x0 x7 x8)
def interp_held.j1 : Nat → Nat → Nat → Nat → Option (Nat)
 | 0, _, _, _ => none
 | k + 1, x0, x7, x8 => if (FloatKind.f64.format.order x0 x7 == some .lt) = true then (some x7) else (if (FloatKind.f64.format.order x0 x8 == some .gt) = true then (some x8) else (some x0))
end
def interp_held.f (k : Nat) (a0 : Nat) (a1 : Nat) (a2 : Nat) : Option (Nat) := if (FloatKind.f64.format.order a2 a1 == some .lt) = true then (interp_held.j0 k a0 a1 a2 a2 a1) else (interp_held.j0 k a0 a1 a2 a1 a2)
theorem interp_held.mono_l : ∀ k, (∀ y0 y1 y2 y3 y4, LeO (interp_held.j0 k y0 y1 y2 y3 y4) (interp_held.j0 (k + 1) y0 y1 y2 y3 y4)) ∧ (∀ y0 y1 y2, LeO (interp_held.j1 k y0 y1 y2) (interp_held.j1 (k + 1) y0 y1 y2))
 | 0 => ⟨fun _ _ _ _ _ r h => by simp [interp_held.j0] at h, fun _ _ _ r h => by simp [interp_held.j1] at h⟩
 | k + 1 => by
  (obtain ⟨ih0, ih1⟩ := interp_held.mono_l k);(refine ⟨?_, ?_⟩)
  ·intro y0 y1 y2 y3 y4
   unfold interp_held.j0
   repeat' first
   | (with_reducible exact ih0 _ _ _ _ _)
   | (with_reducible exact ih1 _ _ _)
   | (with_reducible exact LeO.refl _)
   | (with_reducible exact LeO.none _)
   | (with_reducible refine LeO.ite ?_ ?_)
   | (with_reducible refine LeO.bind ?_ (fun _ => ?_))
   | exact ih0 _ _ _ _ _
   | exact ih1 _ _ _
   | exact LeO.none _
   | refine LeO.ite ?_ ?_
   | refine LeO.bind ?_ (fun _ => ?_)
  ·intro y0 y1 y2
   unfold interp_held.j1
   repeat' first
   | (with_reducible exact ih0 _ _ _ _ _)
   | (with_reducible exact ih1 _ _ _)
   | (with_reducible exact LeO.refl _)
   | (with_reducible exact LeO.none _)
   | (with_reducible refine LeO.ite ?_ ?_)
   | (with_reducible refine LeO.bind ?_ (fun _ => ?_))
   | exact ih0 _ _ _ _ _
   | exact ih1 _ _ _
   | exact LeO.none _
   | refine LeO.ite ?_ ?_
   | refine LeO.bind ?_ (fun _ => ?_)
theorem interp_held.mono : ∀ a0 a1 a2 k, LeO (interp_held.f k a0 a1 a2) (interp_held.f (k + 1) a0 a1 a2) := by
 (intro a0 a1 a2 k);(obtain ⟨ih0, ih1⟩ := interp_held.mono_l k);(unfold interp_held.f)
 repeat' first
  | (with_reducible exact ih0 _ _ _ _ _)
  | (with_reducible exact ih1 _ _ _)
  | (with_reducible exact LeO.refl _)
  | (with_reducible exact LeO.none _)
  | (with_reducible refine LeO.ite ?_ ?_)
  | (with_reducible refine LeO.bind ?_ (fun _ => ?_))
  | exact ih0 _ _ _ _ _
  | exact ih1 _ _ _
  | exact LeO.none _
  | refine LeO.ite ?_ ?_
  | refine LeO.bind ?_ (fun _ => ?_)
set_option maxHeartbeats 8000000 in
set_option maxRecDepth 100000 in
theorem interp_held.calls (k : Nat) (a0 : Nat) (a1 : Nat) (a2 : Nat) (r : Nat) (w : World) (h : interp_held.f k a0 a1 a2 = some r) :
  Calls Tryz.prog 195 #[.float .f64 a0, .float .f64 a1, .float .f64 a2] w fun e w' => e = .returned (.float .f64 r) ∧ Drawn0 w w' := by
 (have H : (if (FloatKind.f64.format.order a2 a1 == some .lt) = true then (interp_held.j0 k a0 a1 a2 a2 a1) else (interp_held.j0 k a0 a1 a2 a1 a2)) = some r := h);(clear h);(have HC4 := aM H);(clear H);(go_enter Tryz.func195, Tryz.ntmps195)
 go_upto_if 13 with (fail)
 go_cut [7, 8] (fun v7 v8 wc => ∃ (kq : Nat) (x7_3 : Nat) (x8_3 : Nat), v7 = .float .f64 x7_3 ∧ v8 = .float .f64 x8_3 ∧ Aside0 (interp_held.j0 kq a0 a1 a2 x7_3 x8_3 = some r) ∧ Aside0 (kq ≤ k) ∧ Drawn0 w wc)
 case first =>
  (have H := HC4.out);(clear HC4)
  by_cases c5 : (FloatKind.f64.format.order a2 a1 == some .lt) = true
  ·rw [if_pos c5] at H
   have c5b0 : (FloatKind.f64.format.order a2 a1 == some .lt) = true := c5
   (try (have c5b1 : decide (FloatKind.f64.format.order a2 a1 = some .lt) = true := by simpa using c5))
   (try (have c5b2 : (FloatKind.f64.format.order a2 a1 == some .lt) = true := by simpa using c5))
   clear c5
   (first | rw [c5b0] | (simp only [i64_w, i32_w]; rw [c5b0]) | skip)
   (have H' := aM H);(clear H);(go_wp2);(go_meet)
   case rel => exact ⟨_, (a2), (a1), sA, sA, H', ⟨by first | omega | exact Nat.le_refl _⟩, by repeat (first | exact Drawn0.refl _ | apply Drawn0.step)⟩
  (rw [if_neg c5] at H);(have c5b0 : (FloatKind.f64.format.order a2 a1 == some .lt) = false := by simpa using c5)
  (try (have c5b1 : decide (FloatKind.f64.format.order a2 a1 = some .lt) = false := by simpa using c5))
  (try (have c5b2 : (FloatKind.f64.format.order a2 a1 == some .lt) = false := by simpa using c5))
  (try (have c5b3 : ¬ (FloatKind.f64.format.order a2 a1 = some .lt) := by simpa using c5))
  clear c5
  (first | rw [c5b0] | (simp only [i64_w, i32_w]; rw [c5b0]) | skip)
  (have H' := aM H);(clear H);(go_wp2);(go_meet)
  case rel => exact ⟨_, (a1), (a2), sA, sA, H', ⟨by first | omega | exact Nat.le_refl _⟩, by repeat (first | exact Drawn0.refl _ | apply Drawn0.step)⟩
 case rest =>
  (clear HC4);(try clear c1);(try clear p2);(try clear c5);(try clear c5b0);(try clear c5b1);(try clear c5b2);(obtain ⟨kq, x7_3, x8_3, rfl, rfl, HA, HJ3, ⟨mc3, rfl⟩⟩ := hcut)
  cases kq with
  | zero => exact absurd HA.out (by simp [interp_held.j0])
  | succ kj3 =>
   (have H := HA.out);(clear HA);(simp only [interp_held.j0] at H);(have HC6 := aM H);(clear H)
   go_upto_if 18 with (fail)
   go_cut [8] (fun v8 wc => ∃ (kq : Nat) (x8_5 : Nat), v8 = .float .f64 x8_5 ∧ Aside0 (interp_held.j1 kq a0 x7_3 x8_5 = some r) ∧ Aside0 (kq ≤ kj3) ∧ Drawn0 w wc)
   case first =>
    (have H := HC6.out);(clear HC6)
    by_cases c7 : (FloatKind.f64.format.order a1 a2 == some .eq) = true
    ·rw [if_pos c7] at H
     have c7b0 : (FloatKind.f64.format.order a1 a2 == some .eq) = true := c7
     (try (have c7b1 : decide (FloatKind.f64.format.order a1 a2 = some .eq) = true := by simpa using c7))
     (try (have c7b2 : (FloatKind.f64.format.order a1 a2 == some .eq) = true := by simpa using c7))
     clear c7
     (first | rw [c7b0] | (simp only [i64_w, i32_w]; rw [c7b0]) | skip)
     (have H' := aM H);(clear H);(go_wp2);(go_meet)
     case rel => exact ⟨_, (a1), sA, H', ⟨by have := HJ3.out; first | omega | exact Nat.le_refl _⟩, by repeat (first | exact Drawn0.refl _ | apply Drawn0.step)⟩
    (rw [if_neg c7] at H);(have c7b0 : (FloatKind.f64.format.order a1 a2 == some .eq) = false := by simpa using c7)
    (try (have c7b1 : decide (FloatKind.f64.format.order a1 a2 = some .eq) = false := by simpa using c7))
    (try (have c7b2 : (FloatKind.f64.format.order a1 a2 == some .eq) = false := by simpa using c7))
    (try (have c7b3 : ¬ (FloatKind.f64.format.order a1 a2 = some .eq) := by simpa using c7))
    clear c7
    (first | rw [c7b0] | (simp only [i64_w, i32_w]; rw [c7b0]) | skip)
    (have H' := aM H);(clear H);(go_wp2);(go_meet)
    case rel => exact ⟨_, (x8_3), sA, H', ⟨by have := HJ3.out; first | omega | exact Nat.le_refl _⟩, by repeat (first | exact Drawn0.refl _ | apply Drawn0.step)⟩
   case rest =>
    (clear HC6);(try clear c1);(try clear p2);(try clear c3);(try clear c5);(try clear c5b0);(try clear c5b1);(try clear c5b2);(try clear c7);(try clear c7b0);(try clear c7b1);(try clear c7b2);(try clear p2);(obtain ⟨kq, x8_5, rfl, HA, HJ5, ⟨mc5, rfl⟩⟩ := hcut)
    cases kq with
    | zero => exact absurd HA.out (by simp [interp_held.j1])
    | succ kj5 =>
     (have H := HA.out);(clear HA);(simp only [interp_held.j1] at H)
     by_cases c8 : (FloatKind.f64.format.order a0 x7_3 == some .lt) = true
     ·rw [if_pos c8] at H
      have c8b0 : (FloatKind.f64.format.order a0 x7_3 == some .lt) = true := c8
      (try (have c8b1 : decide (FloatKind.f64.format.order a0 x7_3 = some .lt) = true := by simpa using c8))
      (try (have c8b2 : (FloatKind.f64.format.order a0 x7_3 == some .lt) = true := by simpa using c8))
      (clear c8);(obtain rfl := Option.some.inj H);(go_wp2);(go_ret);(exact ⟨sA, dA⟩)
     (rw [if_neg c8] at H);(have c8b0 : (FloatKind.f64.format.order a0 x7_3 == some .lt) = false := by simpa using c8)
     (try (have c8b1 : decide (FloatKind.f64.format.order a0 x7_3 = some .lt) = false := by simpa using c8))
     (try (have c8b2 : (FloatKind.f64.format.order a0 x7_3 == some .lt) = false := by simpa using c8))
     (try (have c8b3 : ¬ (FloatKind.f64.format.order a0 x7_3 = some .lt) := by simpa using c8))
     clear c8
     by_cases c9 : (FloatKind.f64.format.order a0 x8_5 == some .gt) = true
     ·rw [if_pos c9] at H
      have c9b0 : (FloatKind.f64.format.order a0 x8_5 == some .gt) = true := c9
      (try (have c9b1 : decide (FloatKind.f64.format.order a0 x8_5 = some .gt) = true := by simpa using c9))
      (try (have c9b2 : (FloatKind.f64.format.order a0 x8_5 == some .gt) = true := by simpa using c9))
      (clear c9);(obtain rfl := Option.some.inj H);(go_wp2);(go_ret);(exact ⟨sA, dA⟩)
     (rw [if_neg c9] at H);(have c9b0 : (FloatKind.f64.format.order a0 x8_5 == some .gt) = false := by simpa using c9)
     (try (have c9b1 : decide (FloatKind.f64.format.order a0 x8_5 = some .gt) = false := by simpa using c9))
     (try (have c9b2 : (FloatKind.f64.format.order a0 x8_5 == some .gt) = false := by simpa using c9))
     (try (have c9b3 : ¬ (FloatKind.f64.format.order a0 x8_5 = some .gt) := by simpa using c9))
     (clear c9);(obtain rfl := Option.some.inj H);(go_wp2);(go_ret);(exact ⟨sA, dA⟩)

def interp_rise.f (a0_0 : Int) (l0_1 : List Int) (l0_2 : List Nat) (a1 : Int) : Option (Nat) := if 0 ≤ (wrap64 (a1 + 1)) then (if (wrap64 (a1 + 1)) < (l0_2.length : Int) then (if 0 ≤ a1 then (if a1 < (l0_2.length : Int) then (if fsubK (rdOf (0 : Nat) l0_2 (wrap64 (a1 + 1))) (rdOf (0 : Nat) l0_2 a1) = true then (if (wrap64 (a1 + 1)) < (l0_1.length : Int) then (if a1 < (l0_1.length : Int) then (if fdivK (fsubV (rdOf (0 : Nat) l0_2 (wrap64 (a1 + 1))) (rdOf (0 : Nat) l0_2 a1)) (floatOfInt .f64 (wrap64 ((rd l0_1 (wrap64 (a1 + 1))) - (rd l0_1 a1)))) = true then (some (fdivV (fsubV (rdOf (0 : Nat) l0_2 (wrap64 (a1 + 1))) (rdOf (0 : Nat) l0_2 a1)) (floatOfInt .f64 (wrap64 ((rd l0_1 (wrap64 (a1 + 1))) - (rd l0_1 a1)))))) else (none)) else (none)) else (none)) else (none)) else (none)) else (none)) else (none)) else (none)
set_option maxHeartbeats 8000000 in
set_option maxRecDepth 100000 in
theorem interp_rise.calls (a0_0 : Int) (A0_1 : Option Addr) (c0_1 : Nat) (l0_1 : List Int) (A0_2 : Option Addr) (c0_2 : Nat) (l0_2 : List Nat) (a1 : Int) (r : Nat) (w : World) (hr0_1 : Kd.C (Kd.int .i64) w A0_1 l0_1.length l0_1) (hc0_1 : l0_1.length ≤ c0_1) (hr0_2 : Kd.C Kd.flt w A0_2 l0_2.length l0_2) (hc0_2 : l0_2.length ≤ c0_2) (h : interp_rise.f a0_0 l0_1 l0_2 a1 = some r) :
  Calls Tryz.prog 275 #[.agg #[.int .i64 a0_0, .slice A0_1 l0_1.length c0_1, .slice A0_2 l0_2.length c0_2], .int .i64 a1] w fun e w' => e = .returned (.float .f64 r) ∧ Below w.heap.size w w' := by
 (have hu119 := Tryz.underlying119);(have HR0_1 := aM hr0_1);(have HC0_1 := aM hc0_1);(clear hr0_1 hc0_1);(have HR0_2 := aM hr0_2);(have HC0_2 := aM hc0_2);(clear hr0_2 hc0_2);(have HB := aM (Below.refl w.heap.size w));(have H : (if 0 ≤ (wrap64 (a1 + 1)) then (if (wrap64 (a1 + 1)) < (l0_2.length : Int) then (if 0 ≤ a1 then (if a1 < (l0_2.length : Int) then (if fsubK (rdOf (0 : Nat) l0_2 (wrap64 (a1 + 1))) (rdOf (0 : Nat) l0_2 a1) = true then (if (wrap64 (a1 + 1)) < (l0_1.length : Int) then (if a1 < (l0_1.length : Int) then (if fdivK (fsubV (rdOf (0 : Nat) l0_2 (wrap64 (a1 + 1))) (rdOf (0 : Nat) l0_2 a1)) (floatOfInt .f64 (wrap64 ((rd l0_1 (wrap64 (a1 + 1))) - (rd l0_1 a1)))) = true then (some (fdivV (fsubV (rdOf (0 : Nat) l0_2 (wrap64 (a1 + 1))) (rdOf (0 : Nat) l0_2 a1)) (floatOfInt .f64 (wrap64 ((rd l0_1 (wrap64 (a1 + 1))) - (rd l0_1 a1)))))) else (none)) else (none)) else (none)) else (none)) else (none)) else (none)) else (none)) else (none)) = some r := h);(clear h);(generalize hji3 : (wrap64 (a1 + 1)) = ji3 at H);(have hji3w : (IntKind.i64.wrap (a1 + 1)) = ji3 := (i64_w _).trans hji3);(revert H);(refine ifP fun c4 H => ?_);(have c4b0 := decide_eq_true c4);(clear c4);(revert H);(refine ifP fun c5 H => ?_);(have c5b0 := decide_eq_true c5);(clear c5);(revert H);(refine ifP fun c6 H => ?_);(have c6b0 := decide_eq_true c6);(clear c6);(revert H);(refine ifP fun c7 H => ?_);(have c7b0 := decide_eq_true c7);(clear c7);(revert H);(refine ifP fun c8 H => ?_);(have c8b0 := eq_true c8);(have c8b1 : decide (fsubK (rdOf (0 : Nat) l0_2 (ji3)) (rdOf (0 : Nat) l0_2 a1) = true) = true := decide_eq_true c8);(clear c8);(revert H);(refine ifP fun c9 H => ?_);(have c9b0 := decide_eq_true c9);(clear c9);(revert H);(refine ifP fun c10 H => ?_);(have c10b0 := decide_eq_true c10);(clear c10);(revert H);(refine ifP fun c11 H => ?_);(have c11b0 := eq_true c11);(have c11b1 : decide (fdivK (fsubV (rdOf (0 : Nat) l0_2 (ji3)) (rdOf (0 : Nat) l0_2 a1)) (floatOfInt .f64 (wrap64 ((rd l0_1 (ji3)) - (rd l0_1 a1)))) = true) = true := decide_eq_true c11);(clear c11);(obtain rfl := Option.some.inj H);(go_enter Tryz.func275, Tryz.ntmps275)
 go_wp2_with (first | ((with_reducible refine gD 2 rfl ?_); refine boxW (N := 2) #[.int .i64 a0_0, .slice A0_1 l0_1.length c0_1, .slice A0_2 l0_2.length c0_2] 119 HB ?_; clear HB; intro gb117 w12 BK117 HB GW117; have GE117 := GW117; obtain ⟨hcz13_0, hcz13_1, hcz13_2, hfz13_0, hfz13_1, hfz13_2⟩ := cz3 BK117.out; have p118 : 0 ≤ ((ji3) : Int) := of_decide_eq_true asA; have q118 : (ji3) < (l0_2.length : Int) := of_decide_eq_true asA; obtain ⟨ad118, e118, hx118_0⟩ := Kd.at_flt HR0_2.out (ji3) p118 q118; cases e118; replace hx118_0 := (HB.out.cell (World.block_lt_of_cell? w _ hx118_0)).trans hx118_0; replace p118 := eq_true p118; replace q118 := eq_true q118; have p119 : 0 ≤ (a1 : Int) := of_decide_eq_true asA; have q119 : a1 < (l0_2.length : Int) := of_decide_eq_true asA; obtain ⟨ad119, e119, hx119_0⟩ := Kd.at_flt HR0_2.out a1 p119 q119; obtain rfl : ad118 = ad119 := (by injection e119); replace hx119_0 := (HB.out.cell (World.block_lt_of_cell? w _ hx119_0)).trans hx119_0; replace p119 := eq_true p119; replace q119 := eq_true q119; have p120 : 0 ≤ ((ji3) : Int) := of_decide_eq_true asA; have q120 : (ji3) < (l0_1.length : Int) := of_decide_eq_true asA; obtain ⟨ad120, e120, hx120_0⟩ := Kd.at_int HR0_1.out (ji3) p120 q120; cases e120; replace hx120_0 := (HB.out.cell (World.block_lt_of_cell? w _ hx120_0)).trans hx120_0; replace p120 := eq_true p120; replace q120 := eq_true q120; have p121 : 0 ≤ (a1 : Int) := of_decide_eq_true asA; have q121 : a1 < (l0_1.length : Int) := of_decide_eq_true asA; obtain ⟨ad121, e121, hx121_0⟩ := Kd.at_int HR0_1.out a1 p121 q121; obtain rfl : ad120 = ad121 := (by injection e121); replace hx121_0 := (HB.out.cell (World.block_lt_of_cell? w _ hx121_0)).trans hx121_0; replace p121 := eq_true p121; replace q121 := eq_true q121))
 repeat (go_quiet (first | ((with_reducible refine gD 2 rfl ?_); refine boxW (N := 2) #[.int .i64 a0_0, .slice A0_1 l0_1.length c0_1, .slice A0_2 l0_2.length c0_2] 119 HB ?_; clear HB; intro gb117 w12 BK117 HB GW117; have GE117 := GW117; obtain ⟨hcz13_0, hcz13_1, hcz13_2, hfz13_0, hfz13_1, hfz13_2⟩ := cz3 BK117.out; have p118 : 0 ≤ ((ji3) : Int) := of_decide_eq_true asA; have q118 : (ji3) < (l0_2.length : Int) := of_decide_eq_true asA; obtain ⟨ad118, e118, hx118_0⟩ := Kd.at_flt HR0_2.out (ji3) p118 q118; cases e118; replace hx118_0 := (HB.out.cell (World.block_lt_of_cell? w _ hx118_0)).trans hx118_0; replace p118 := eq_true p118; replace q118 := eq_true q118; have p119 : 0 ≤ (a1 : Int) := of_decide_eq_true asA; have q119 : a1 < (l0_2.length : Int) := of_decide_eq_true asA; obtain ⟨ad119, e119, hx119_0⟩ := Kd.at_flt HR0_2.out a1 p119 q119; obtain rfl : ad118 = ad119 := (by injection e119); replace hx119_0 := (HB.out.cell (World.block_lt_of_cell? w _ hx119_0)).trans hx119_0; replace p119 := eq_true p119; replace q119 := eq_true q119; have p120 : 0 ≤ ((ji3) : Int) := of_decide_eq_true asA; have q120 : (ji3) < (l0_1.length : Int) := of_decide_eq_true asA; obtain ⟨ad120, e120, hx120_0⟩ := Kd.at_int HR0_1.out (ji3) p120 q120; cases e120; replace hx120_0 := (HB.out.cell (World.block_lt_of_cell? w _ hx120_0)).trans hx120_0; replace p120 := eq_true p120; replace q120 := eq_true q120; have p121 : 0 ≤ (a1 : Int) := of_decide_eq_true asA; have q121 : a1 < (l0_1.length : Int) := of_decide_eq_true asA; obtain ⟨ad121, e121, hx121_0⟩ := Kd.at_int HR0_1.out a1 p121 q121; obtain rfl : ad120 = ad121 := (by injection e121); replace hx121_0 := (HB.out.cell (World.block_lt_of_cell? w _ hx121_0)).trans hx121_0; replace p121 := eq_true p121; replace q121 := eq_true q121)); try go_wp2_with (first | ((with_reducible refine gD 2 rfl ?_); refine boxW (N := 2) #[.int .i64 a0_0, .slice A0_1 l0_1.length c0_1, .slice A0_2 l0_2.length c0_2] 119 HB ?_; clear HB; intro gb117 w12 BK117 HB GW117; have GE117 := GW117; obtain ⟨hcz13_0, hcz13_1, hcz13_2, hfz13_0, hfz13_1, hfz13_2⟩ := cz3 BK117.out; have p118 : 0 ≤ ((ji3) : Int) := of_decide_eq_true asA; have q118 : (ji3) < (l0_2.length : Int) := of_decide_eq_true asA; obtain ⟨ad118, e118, hx118_0⟩ := Kd.at_flt HR0_2.out (ji3) p118 q118; cases e118; replace hx118_0 := (HB.out.cell (World.block_lt_of_cell? w _ hx118_0)).trans hx118_0; replace p118 := eq_true p118; replace q118 := eq_true q118; have p119 : 0 ≤ (a1 : Int) := of_decide_eq_true asA; have q119 : a1 < (l0_2.length : Int) := of_decide_eq_true asA; obtain ⟨ad119, e119, hx119_0⟩ := Kd.at_flt HR0_2.out a1 p119 q119; obtain rfl : ad118 = ad119 := (by injection e119); replace hx119_0 := (HB.out.cell (World.block_lt_of_cell? w _ hx119_0)).trans hx119_0; replace p119 := eq_true p119; replace q119 := eq_true q119; have p120 : 0 ≤ ((ji3) : Int) := of_decide_eq_true asA; have q120 : (ji3) < (l0_1.length : Int) := of_decide_eq_true asA; obtain ⟨ad120, e120, hx120_0⟩ := Kd.at_int HR0_1.out (ji3) p120 q120; cases e120; replace hx120_0 := (HB.out.cell (World.block_lt_of_cell? w _ hx120_0)).trans hx120_0; replace p120 := eq_true p120; replace q120 := eq_true q120; have p121 : 0 ≤ (a1 : Int) := of_decide_eq_true asA; have q121 : a1 < (l0_1.length : Int) := of_decide_eq_true asA; obtain ⟨ad121, e121, hx121_0⟩ := Kd.at_int HR0_1.out a1 p121 q121; obtain rfl : ad120 = ad121 := (by injection e121); replace hx121_0 := (HB.out.cell (World.block_lt_of_cell? w _ hx121_0)).trans hx121_0; replace p121 := eq_true p121; replace q121 := eq_true q121)))
 (go_ret);(exact ⟨by first | rfl | (simp [errW_none, errW_some] <;> rfl) | (simp only [← hji3]; first | rfl | (simp [errW_none, errW_some] <;> rfl)) | (simp [*, errW_none, errW_some] <;> rfl), bG HB.out⟩)

end Go.Proofs.YtmdoljecjliehaaGreat.FP
