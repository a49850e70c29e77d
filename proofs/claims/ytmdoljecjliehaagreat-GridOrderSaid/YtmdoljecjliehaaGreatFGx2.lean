/- Texts packed into one: FGx0 FGx1 FGx2. No condition. -/
import Derived.Test.YtmdoljecjliehaaGreatFs
import Derived.Test.YtmdoljecjliehaaGreatZ0
import Derived.Test.YtmdoljecjliehaaGreatFw
section
/- Written by the session's fprint.py out of the translation. -/
namespace Go.Proofs.YtmdoljecjliehaaGreat.FG
open Go.RowKit Go.Proofs.YtmdoljecjliehaaGreatW.PrintWords Go.Proofs.YtmdoljecjliehaaGreatW.PrintLast Go.Proofs.YtmdoljecjliehaaGreatW.PrintMore
attribute [local go_sem] max2_int min2_int max_two min_two max_three min_three max_four min_four   -- for this text's walks alone
open Go.Proofs.YtmdoljecjliehaaGreat.FX
attribute [local go_sem] run_store_float run_neg_float run_fmul run_fadd run_fsub run_fdiv run_ftoi isSome_setCell 
set_option linter.unusedVariables false
set_option linter.unusedSimpArgs false



def errW : Option Int → Value
 | none => .nilIface
 | some c => .iface 0 (.int .i64 c)
theorem errW_none : errW none = .nilIface := rfl
theorem errW_some (c : Int) : errW (some c) = .iface 0 (.int .i64 c) := rfl

theorem info3 : (Tryz.prog.info? 3).map (fun i => (i.zero, i.size, i.bytes)) = some (some (.int .i64 0), 1, 8) := by kernel_rfl
-- the values' own types

end Go.Proofs.YtmdoljecjliehaaGreat.FG
end

section
/- Written by the session's fprint.py out of the translation. -/
namespace Go.Proofs.YtmdoljecjliehaaGreat.FG
open Go.RowKit Go.Proofs.YtmdoljecjliehaaGreatW.PrintWords Go.Proofs.YtmdoljecjliehaaGreatW.PrintLast Go.Proofs.YtmdoljecjliehaaGreatW.PrintMore
attribute [local go_sem] max2_int min2_int max_two min_two max_three min_three max_four min_four   -- for this text's walks alone
open Go.Proofs.YtmdoljecjliehaaGreat.FX
attribute [local go_sem] run_store_float run_neg_float run_fmul run_fadd run_fsub run_fdiv run_ftoi isSome_setCell 
set_option linter.unusedVariables false
set_option linter.unusedSimpArgs false

def grid_numbers.l0 : Nat → List Nat → Int → Int → Option (Int)
 | 0, _, _, _ => none
 | k + 1, x5, x6, x7 => if x7 < x6 then (if 0 ≤ x7 then (if x7 < (x5.length : Int) then ((grid_number.f (rdOf (0 : Nat) x5 x7)).bind fun t102 => (if t102 = true then (grid_numbers.l0 k x5 x6 (wrap64 (x7 + 1))) else (none))) else (none)) else (none)) else (some 0)
def grid_numbers.f (k : Nat) (l0 : List Nat) : Option (Int) := grid_numbers.l0 k l0 (l0.length : Int) 0
set_option maxHeartbeats 8000000 in
set_option maxRecDepth 100000 in
theorem grid_numbers.calls (k : Nat) (A0 : Option Addr) (c0 : Nat) (l0 : List Nat) (r : Int) (w : World) (hr0 : Kd.C Kd.flt w A0 l0.length l0) (hc0 : l0.length ≤ c0) (h : grid_numbers.f k l0 = some r) :
  Calls Tryz.prog 136 #[.slice A0 l0.length c0] w fun e w' => e = .returned (.int .i64 r) ∧ Drawn0 w w' := by
 (have HR0 := aM hr0);(have HC0 := aM hc0);(clear hr0 hc0);(have H : (grid_numbers.l0 k l0 (l0.length : Int) 0) = some r := h);(clear h);(have H' := aM H);(clear H);(go_enter Tryz.func136, Tryz.ntmps136);(go_wp2)
 go_loopg [7] k (fun kq v7 w' => ∃ (x7_1 : Int), v7 = .int .i64 x7_1 ∧ Aside0 (grid_numbers.l0 kq l0 (l0.length : Int) x7_1 = some r) ∧ Aside0 (kq ≤ k) ∧ Drawn0 w w')
 case atStart => exact ⟨(0), sA, H', ⟨Nat.le_refl _⟩, by repeat (first | exact Drawn0.refl _ | apply Drawn0.step)⟩
 case round =>
  (clear H');(try clear c1);(obtain ⟨x7_1, rfl, HA, HK1, ⟨m1, rfl⟩⟩ := hrel)
  cases gk with
  | zero => exact absurd HA.out (by simp [grid_numbers.l0])
  | succ k1 =>
   (have H := HA.out);(clear HA);(simp only [grid_numbers.l0] at H)
   by_cases c2 : x7_1 < (l0.length : Int)
   rotate_left
   ·rw [if_neg c2] at H
    (have c2b0 : decide (x7_1 < (l0.length : Int)) = false := decide_eq_false c2);(clear c2);(obtain rfl := Option.some.inj H);(go_wp2);(go_ret);(exact ⟨sA, dA⟩)
   (rw [if_pos c2] at H);(have c2b0 : decide (x7_1 < (l0.length : Int)) = true := decide_eq_true c2);(clear c2);(revert H);(refine ifP fun c3 H => ?_);(have c3b0 := decide_eq_true c3);(clear c3);(revert H);(refine ifP fun c4 H => ?_);(have c4b0 := decide_eq_true c4);(clear c4);(revert H);(refine bE ?_);(rintro t102 A5 H)
   by_cases c6 : t102 = true
   rotate_left
   ·replace c6 := Bool.eq_false_iff.mpr c6
    (subst c6);(have H1 : (none) = some r := by rw [if_neg (show ¬ (false = true) by decide)] at H; exact H);(clear H);(have H := H1);(clear H1);(exact absurd H (by simp))
   (subst c6);(have H1 : (grid_numbers.l0 k1 l0 (l0.length : Int) (wrap64 (x7_1 + 1))) = some r := by rw [if_pos rfl] at H; exact H);(clear H);(have H := H1);(clear H1);(have H' := aM H);(clear H);(have p101 : 0 ≤ (x7_1 : Int) := of_decide_eq_true asA);(have q101 : x7_1 < (l0.length : Int) := of_decide_eq_true asA);(obtain ⟨ad101, e101, hx101_0⟩ := Kd.at_flt HR0.out x7_1 p101 q101);(cases e101);(replace p101 := eq_true p101);(replace q101 := eq_true q101)
   go_wp2_with (first | ((with_reducible refine gate_callee (f := 75) rfl ?_); refine goL (N := some 12) Tryz.func75 #[.float .f64 (rdOf (0 : Nat) l0 x7_1)] ?_; (with_reducible refine (grid_number.calls (rdOf (0 : Nat) l0 x7_1) true _ A5.out).mono ?_); rintro e w' ⟨rfl, ⟨nd, rfl⟩⟩; refine ⟨_, rfl, ?_⟩))
   go_roundg k1
   case measure => have := HK1.out; omega
   case rel => exact ⟨(wrap64 (x7_1 + 1)), sA, H', ⟨by have := HK1.out; omega⟩, by repeat (first | exact Drawn0.refl _ | apply Drawn0.step)⟩

def grid_check.f (k : Nat) (l0 : List Nat) : Option (Int) := if (l0.length : Int) = 0 then (none) else (if (l0.length : Int) > 1048576 then (none) else ((grid_numbers.f k l0).bind fun t103 => (some t103)))
set_option maxHeartbeats 8000000 in
set_option maxRecDepth 100000 in
theorem grid_check.calls (k : Nat) (A0 : Option Addr) (c0 : Nat) (l0 : List Nat) (r : Int) (w : World) (hr0 : Kd.C Kd.flt w A0 l0.length l0) (hc0 : l0.length ≤ c0) (h : grid_check.f k l0 = some r) :
  Calls Tryz.prog 131 #[.slice A0 l0.length c0] w fun e w' => e = .returned (.int .i64 r) ∧ Drawn0 w w' := by
 (have HR0 := aM hr0);(have HC0 := aM hc0);(clear hr0 hc0);(have H : (if (l0.length : Int) = 0 then (none) else (if (l0.length : Int) > 1048576 then (none) else ((grid_numbers.f k l0).bind fun t103 => (some t103)))) = some r := h);(clear h)
 by_cases c2 : (l0.length : Int) = 0
 ·rw [if_pos c2] at H
  exact absurd H (by simp)
 ·rw [if_neg c2] at H
  (have c2b0 : ((l0.length : Int) == 0) = false := beq_eq_false_iff_ne.mpr c2);(have c2b1 : ((l0.length : Int) != 0) = true := bne_iff_ne.mpr c2);(have c2b2 : ¬ (l0 = []) := fun h_ => c2 (by rw [h_]; rfl))
  by_cases c3 : (l0.length : Int) > 1048576
  ·rw [if_pos c3] at H
   exact absurd H (by simp)
  ·rw [if_neg c3] at H
   (have c3b0 : decide (1048576 < (l0.length : Int)) = false := decide_eq_false c3);(have c3b1 : decide (1048576 < l0.length) = false := decide_eq_false (by omega));(clear c3);(revert H);(refine bE ?_);(rintro t103 A4 H);(obtain rfl := Option.some.inj H);(go_enter Tryz.func131, Tryz.ntmps131)
   go_wp2_with (first | ((with_reducible refine gate_callee (f := 136) rfl ?_); refine goL (N := some 12) Tryz.func136 #[.slice A0 l0.length c0] ?_; (with_reducible refine (grid_numbers.calls k _ _ l0 t103 _ ?side1 ?side2 A4.out).mono ?_); (case side1 => exact cA HR0.out); (case side2 => exact HC0.out); rintro e w' ⟨rfl, ⟨nd, rfl⟩⟩; refine ⟨_, rfl, ?_⟩))
   (go_ret);(exact ⟨sA, dA⟩)

def grid_Quantile.f (k : Nat) (l0 : List Nat) (a1 : Int) (a2 : Int) : Option (Nat × Int) := (grid_check.f k l0).bind fun t104 => (if t104 = 0 then (if a2 < 1 then (none) else (if a2 > 1000000 then (none) else (if a1 < 0 then (none) else (if a1 > a2 then (none) else (if a2 = 0 then (none) else ((ieee_Sort.f l0).bind fun t105 => (if 0 ≤ (wrap64 ((mx (wrap64 (Int.tdiv (wrap64 ((wrap64 ((wrap64 ((l0.length : Int) * a1)) + a2)) - 1)) a2)) 1) - 1)) then (if (wrap64 ((mx (wrap64 (Int.tdiv (wrap64 ((wrap64 ((wrap64 ((l0.length : Int) * a1)) + a2)) - 1)) a2)) 1) - 1)) < (t105.length : Int) then (some (rdOf (0 : Nat) t105 (wrap64 ((mx (wrap64 (Int.tdiv (wrap64 ((wrap64 ((wrap64 ((l0.length : Int) * a1)) + a2)) - 1)) a2)) 1) - 1)), 0)) else (none)) else (none)))))))) else (none))
set_option maxHeartbeats 8000000 in
set_option maxRecDepth 100000 in
theorem grid_Quantile.calls (k : Nat) (A0 : Option Addr) (c0 : Nat) (l0 : List Nat) (a1 : Int) (a2 : Int) (r1 : Nat) (r2 : Int) (w : World) (hr0 : Kd.C Kd.flt w A0 l0.length l0) (hc0 : l0.length ≤ c0) (h : grid_Quantile.f k l0 a1 a2 = some (r1, r2)) :
  Calls Tryz.prog 71 #[.slice A0 l0.length c0, .int .i64 a1, .int .i64 a2] w fun e w' => e = .returned (.tuple #[.float .f64 r1, .int .i64 r2]) ∧ Below w.heap.size w w' := by
 (have HR0 := aM hr0);(have HC0 := aM hc0);(clear hr0 hc0);(have HB := aM (Below.refl w.heap.size w));(have H : ((grid_check.f k l0).bind fun t104 => (if t104 = 0 then (if a2 < 1 then (none) else (if a2 > 1000000 then (none) else (if a1 < 0 then (none) else (if a1 > a2 then (none) else (if a2 = 0 then (none) else ((ieee_Sort.f l0).bind fun t105 => (if 0 ≤ (wrap64 ((mx (wrap64 (Int.tdiv (wrap64 ((wrap64 ((wrap64 ((l0.length : Int) * a1)) + a2)) - 1)) a2)) 1) - 1)) then (if (wrap64 ((mx (wrap64 (Int.tdiv (wrap64 ((wrap64 ((wrap64 ((l0.length : Int) * a1)) + a2)) - 1)) a2)) 1) - 1)) < (t105.length : Int) then (some (rdOf (0 : Nat) t105 (wrap64 ((mx (wrap64 (Int.tdiv (wrap64 ((wrap64 ((wrap64 ((l0.length : Int) * a1)) + a2)) - 1)) a2)) 1) - 1)), 0)) else (none)) else (none)))))))) else (none))) = some (r1, r2) := h);(clear h);(revert H);(refine bE ?_);(rintro t104 A4 H);(revert H);(refine ifP fun c5 H => ?_);(have c5b0 : (t104 == 0) = true := beq_iff_eq.mpr c5);(have c5b1 : (t104 != 0) = false := bne_eq_false_iff_eq.mpr c5);(clear c5)
 by_cases c6 : a2 < 1
 ·rw [if_pos c6] at H
  exact absurd H (by simp)
 ·rw [if_neg c6] at H
  (have c6b0 : decide (a2 < 1) = false := decide_eq_false c6);(clear c6)
  by_cases c7 : a2 > 1000000
  ·rw [if_pos c7] at H
   exact absurd H (by simp)
  ·rw [if_neg c7] at H
   (have c7b0 : decide (1000000 < a2) = false := decide_eq_false c7);(clear c7)
   by_cases c8 : a1 < 0
   ·rw [if_pos c8] at H
    exact absurd H (by simp)
   ·rw [if_neg c8] at H
    (have c8b0 : decide (a1 < 0) = false := decide_eq_false c8);(clear c8)
    by_cases c9 : a1 > a2
    ·rw [if_pos c9] at H
     exact absurd H (by simp)
    ·rw [if_neg c9] at H
     (have c9b0 : decide (a2 < a1) = false := decide_eq_false c9);(clear c9)
     by_cases c10 : a2 = 0
     ·rw [if_pos c10] at H
      exact absurd H (by simp)
     ·rw [if_neg c10] at H
      (have c10b0 : (a2 == 0) = false := beq_eq_false_iff_ne.mpr c10);(have c10b1 : (a2 != 0) = true := bne_iff_ne.mpr c10);(generalize hji11 : (mx (wrap64 (Int.tdiv (wrap64 ((wrap64 ((wrap64 ((l0.length : Int) * a1)) + a2)) - 1)) a2)) 1) = ji11 at H)
      (try rw [hji11] at A4)
      (try (have hji11l : 1 ≤ ji11 := by (rw [← hji11]; unfold mx; (repeat' split) <;> omega)))
      (try (have hji11m : 0 ≤ ji11 := by omega))
      (have hji11_ : (if (wrap64 (Int.tdiv (wrap64 ((wrap64 ((wrap64 ((l0.length : Int) * a1)) + a2)) - 1)) a2)) < 1 then 1 else (wrap64 (Int.tdiv (wrap64 ((wrap64 ((wrap64 ((l0.length : Int) * a1)) + a2)) - 1)) a2))) = ji11 := hji11);(revert H);(refine bE ?_);(rintro t105 A12 H);(generalize hji13 : (wrap64 ((ji11) - 1)) = ji13 at H)
      (try rw [hji13] at A4)
      (try rw [hji13] at A12)
      (have hji13w : (IntKind.i64.wrap ((ji11) - 1)) = ji13 := (i64_w _).trans hji13);(revert H);(refine ifP fun c14 H => ?_);(have c14b0 := decide_eq_true c14);(clear c14);(revert H);(refine ifP fun c15 H => ?_);(have c15b0 := decide_eq_true c15);(clear c15);(simp only [Option.some.injEq, Prod.mk.injEq] at H);(obtain ⟨rfl, rfl⟩ := H);(go_enter Tryz.func71, Tryz.ntmps71)
      go_wp2_with (first | ((with_reducible refine gate_callee (f := 131) rfl ?_); refine goL (N := some 11) Tryz.func131 #[.slice A0 l0.length c0] ?_; (with_reducible refine (grid_check.calls k _ _ l0 t104 _ ?side1 ?side2 A4.out).mono ?_); (case side1 => exact cA HR0.out); (case side2 => exact HC0.out); rintro e w' ⟨rfl, ⟨nd, rfl⟩⟩; refine ⟨_, rfl, ?_⟩) | ((with_reducible refine gate_callee (f := 132) rfl ?_); refine goL (N := some 41) Tryz.func132 #[.slice A0 l0.length c0] ?_; (with_reducible refine (ieee_Sort.calls _ _ l0 t105 _ ?side1 ?side2 A12.out).mono ?_); (case side1 => exact cA HR0.out); (case side2 => exact HC0.out); rintro e w16 ⟨v106, rfl, ho0, hb⟩; refine ⟨_, rfl, ?_⟩; have HO107 := aM (Kd.R_lower ho0 (below_size (bA HB.out))); replace HB := gB HB hb; (try clear hb); (try clear hb2); (try clear hk); (try clear hi); (try clear ho0); obtain ⟨Ao17, co17, eo17⟩ := Kd.R_slice HO107.out; subst eo17; have p108 : 0 ≤ ((ji13) : Int) := of_decide_eq_true asA; have q108 : (ji13) < (t105.length : Int) := of_decide_eq_true asA; obtain ⟨ad108, e108, hx108_0⟩ := Kd.at_flt (Kd.R_reads' HO107.out).2.2 (ji13) p108 q108; cases e108; replace p108 := eq_true p108; replace q108 := eq_true q108))
      (go_ret2);(exact ⟨by first | rfl | (simp [errW_none, errW_some] <;> rfl) | (simp only [← hji11, ← hji13]; first | rfl | (simp [errW_none, errW_some] <;> rfl)) | (simp [*, errW_none, errW_some] <;> rfl), bA HB.out⟩)

def grid_Worst.l0 : Nat → List Nat → Int → List Nat → Int → Int → Option (Int × Int)
 | 0, _, _, _, _, _ => none
 | k + 1, x0, x5, x13, x14, x15 => if x15 < x14 then (if 0 ≤ x15 then (if x15 < (x13.length : Int) then (if 0 ≤ x5 then (if x5 < (x0.length : Int) then ((ieee_Less.f (rdOf (0 : Nat) x13 x15) (rdOf (0 : Nat) x0 x5)).bind fun t112 => (if t112 = true then (grid_Worst.l0 k x0 x15 x13 x14 (wrap64 (x15 + 1))) else (grid_Worst.l0 k x0 x5 x13 x14 (wrap64 (x15 + 1))))) else (none)) else (none)) else (none)) else (none)) else (some (x5, 0))
def grid_Worst.f (k : Nat) (l0 : List Nat) : Option (Int × Int) := (grid_check.f k l0).bind fun t109 => (if t109 = 0 then (grid_Worst.l0 k l0 0 l0 (l0.length : Int) 0) else (none))
set_option maxHeartbeats 8000000 in
set_option maxRecDepth 100000 in
theorem grid_Worst.calls (k : Nat) (A0 : Option Addr) (c0 : Nat) (l0 : List Nat) (r1 : Int) (r2 : Int) (w : World) (hr0 : Kd.C Kd.flt w A0 l0.length l0) (hc0 : l0.length ≤ c0) (h : grid_Worst.f k l0 = some (r1, r2)) :
  Calls Tryz.prog 72 #[.slice A0 l0.length c0] w fun e w' => e = .returned (.tuple #[.int .i64 r1, .int .i64 r2]) ∧ Drawn0 w w' := by
 (have HR0 := aM hr0);(have HC0 := aM hc0);(clear hr0 hc0);(have H : ((grid_check.f k l0).bind fun t109 => (if t109 = 0 then (grid_Worst.l0 k l0 0 l0 (l0.length : Int) 0) else (none))) = some (r1, r2) := h);(clear h);(revert H);(refine bE ?_);(rintro t109 A2 H);(revert H);(refine ifP fun c3 H => ?_);(have c3b0 : (t109 == 0) = true := beq_iff_eq.mpr c3);(have c3b1 : (t109 != 0) = false := bne_eq_false_iff_eq.mpr c3);(clear c3);(have H' := aM H);(clear H);(go_enter Tryz.func72, Tryz.ntmps72)
 go_wp2_with (first | ((with_reducible refine gate_callee (f := 131) rfl ?_); refine goL (N := some 9) Tryz.func131 #[.slice A0 l0.length c0] ?_; (with_reducible refine (grid_check.calls k _ _ l0 t109 _ ?side1 ?side2 A2.out).mono ?_); (case side1 => exact cA HR0.out); (case side2 => exact HC0.out); rintro e w' ⟨rfl, ⟨nd, rfl⟩⟩; refine ⟨_, rfl, ?_⟩))
 go_loopg [5, 15] k (fun kq v5 v15 w' => ∃ (x5_1 : Int) (x15_1 : Int), v5 = .int .i64 x5_1 ∧ v15 = .int .i64 x15_1 ∧ Aside0 (grid_Worst.l0 kq l0 x5_1 l0 (l0.length : Int) x15_1 = some (r1, r2)) ∧ Aside0 (kq ≤ k) ∧ Drawn0 w w')
 case atStart => exact ⟨(0), (0), sA, sA, H', ⟨Nat.le_refl _⟩, by repeat (first | exact Drawn0.refl _ | apply Drawn0.step)⟩
 case round =>
  (clear H');(try clear c1);(try clear p2);(try clear c3);(try clear c3b0);(try clear c3b1);(obtain ⟨x5_1, x15_1, rfl, rfl, HA, HK1, ⟨m1, rfl⟩⟩ := hrel)
  cases gk with
  | zero => exact absurd HA.out (by simp [grid_Worst.l0])
  | succ k1 =>
   (have H := HA.out);(clear HA);(simp only [grid_Worst.l0] at H)
   by_cases c4 : x15_1 < (l0.length : Int)
   rotate_left
   ·rw [if_neg c4] at H
    (have c4b0 : decide (x15_1 < (l0.length : Int)) = false := decide_eq_false c4);(clear c4);(simp only [Option.some.injEq, Prod.mk.injEq] at H);(obtain ⟨rfl, rfl⟩ := H);(go_wp2);(go_ret2);(exact ⟨sA, dA⟩)
   (rw [if_pos c4] at H);(have c4b0 : decide (x15_1 < (l0.length : Int)) = true := decide_eq_true c4);(clear c4);(revert H);(refine ifP fun c5 H => ?_);(have c5b0 := decide_eq_true c5);(clear c5);(revert H);(refine ifP fun c6 H => ?_);(have c6b0 := decide_eq_true c6);(clear c6);(revert H);(refine ifP fun c7 H => ?_);(have c7b0 := decide_eq_true c7);(clear c7);(revert H);(refine ifP fun c8 H => ?_);(have c8b0 := decide_eq_true c8);(clear c8);(revert H);(refine bE ?_);(rintro t112 A9 H)
   by_cases c10 : t112 = true
   ·subst c10
    (have H1 : (grid_Worst.l0 k1 l0 x15_1 l0 (l0.length : Int) (wrap64 (x15_1 + 1))) = some (r1, r2) := by rw [if_pos rfl] at H; exact H);(clear H);(have H := H1);(clear H1);(have H' := aM H);(clear H);(have p110 : 0 ≤ (x15_1 : Int) := of_decide_eq_true asA);(have q110 : x15_1 < (l0.length : Int) := of_decide_eq_true asA);(obtain ⟨ad110, e110, hx110_0⟩ := Kd.at_flt HR0.out x15_1 p110 q110);(cases e110);(replace p110 := eq_true p110);(replace q110 := eq_true q110);(have p111 : 0 ≤ (x5_1 : Int) := of_decide_eq_true asA);(have q111 : x5_1 < (l0.length : Int) := of_decide_eq_true asA);(obtain ⟨ad111, e111, hx111_0⟩ := Kd.at_flt HR0.out x5_1 p111 q111);(obtain rfl : ad110 = ad111 := (by injection e111));(replace p111 := eq_true p111);(replace q111 := eq_true q111)
    go_wp2_with (first | ((with_reducible refine gate_callee (f := 133) rfl ?_); refine goL (N := some 25) Tryz.func133 #[.float .f64 (rdOf (0 : Nat) l0 x15_1), .float .f64 (rdOf (0 : Nat) l0 x5_1)] ?_; (with_reducible refine (ieee_Less.calls (rdOf (0 : Nat) l0 x15_1) (rdOf (0 : Nat) l0 x5_1) true _ A9.out).mono ?_); rintro e w' ⟨rfl, ⟨nd, rfl⟩⟩; refine ⟨_, rfl, ?_⟩))
    go_roundg k1
    case measure => have := HK1.out; omega
    case rel => exact ⟨(x15_1), (wrap64 (x15_1 + 1)), sA, sA, H', ⟨by have := HK1.out; omega⟩, by repeat (first | exact Drawn0.refl _ | apply Drawn0.step)⟩
   (replace c10 := Bool.eq_false_iff.mpr c10);(subst c10);(have H1 : (grid_Worst.l0 k1 l0 x5_1 l0 (l0.length : Int) (wrap64 (x15_1 + 1))) = some (r1, r2) := by rw [if_neg (show ¬ (false = true) by decide)] at H; exact H);(clear H);(have H := H1);(clear H1);(have H' := aM H);(clear H);(have p110 : 0 ≤ (x15_1 : Int) := of_decide_eq_true asA);(have q110 : x15_1 < (l0.length : Int) := of_decide_eq_true asA);(obtain ⟨ad110, e110, hx110_0⟩ := Kd.at_flt HR0.out x15_1 p110 q110);(cases e110);(replace p110 := eq_true p110);(replace q110 := eq_true q110);(have p111 : 0 ≤ (x5_1 : Int) := of_decide_eq_true asA);(have q111 : x5_1 < (l0.length : Int) := of_decide_eq_true asA);(obtain ⟨ad111, e111, hx111_0⟩ := Kd.at_flt HR0.out x5_1 p111 q111);(obtain rfl : ad110 = ad111 := (by injection e111));(replace p111 := eq_true p111);(replace q111 := eq_true q111)
   go_wp2_with (first | ((with_reducible refine gate_callee (f := 133) rfl ?_); refine goL (N := some 25) Tryz.func133 #[.float .f64 (rdOf (0 : Nat) l0 x15_1), .float .f64 (rdOf (0 : Nat) l0 x5_1)] ?_; (with_reducible refine (ieee_Less.calls (rdOf (0 : Nat) l0 x15_1) (rdOf (0 : Nat) l0 x5_1) false _ A9.out).mono ?_); rintro e w' ⟨rfl, ⟨nd, rfl⟩⟩; refine ⟨_, rfl, ?_⟩))
   go_roundg k1
   case measure => have := HK1.out; omega
   case rel => exact ⟨(x5_1), (wrap64 (x15_1 + 1)), sA, sA, H', ⟨by have := HK1.out; omega⟩, by repeat (first | exact Drawn0.refl _ | apply Drawn0.step)⟩

end Go.Proofs.YtmdoljecjliehaaGreat.FG
end

section
/- Written by the session's fprint.py out of the translation. -/
namespace Go.Proofs.YtmdoljecjliehaaGreat.FG
open Go.RowKit Go.Proofs.YtmdoljecjliehaaGreatW.PrintWords Go.Proofs.YtmdoljecjliehaaGreatW.PrintLast Go.Proofs.YtmdoljecjliehaaGreatW.PrintMore
attribute [local go_sem] max2_int min2_int max_two min_two max_three min_three max_four min_four   -- for this text's walks alone
open Go.Proofs.YtmdoljecjliehaaGreat.FX
attribute [local go_sem] run_store_float run_neg_float run_fmul run_fadd run_fsub run_fdiv run_ftoi isSome_setCell 
set_option linter.unusedVariables false
set_option linter.unusedSimpArgs false

mutual
def grid_Count.l0 : Nat → List Nat → List Nat → Int → Int → Option (List Int × Int)
 | 0, _, _, _, _ => none
 | k + 1, x0, x1, x34, x35 => if x35 < x34 then (if 0 ≤ (wrap64 (x35 + 1)) then (if (wrap64 (x35 + 1)) < (x1.length : Int) then (if 0 ≤ x35 then (if x35 < (x1.length : Int) then (if ((FloatKind.f64.format.order (rdOf (0 : Nat) x1 (wrap64 (x35 + 1))) (rdOf (0 : Nat) x1 x35) == some .gt) = true) then (grid_Count.l0 k x0 x1 x34 (wrap64 (x35 + 1))) else (none)) else (none)) else (none)) else (none)) else (none)) else (if 0 ≤ (wrap64 ((x1.length : Int) + 1)) then (if (wrap64 ((x1.length : Int) + 1) : Int).toNat ≤ 35184372088832 then (grid_Count.l1 k x1 (List.replicate (wrap64 ((x1.length : Int) + 1) : Int).toNat 0) x0 (x0.length : Int) 0) else (none)) else (none))
def grid_Count.l1 : Nat → List Nat → List Int → List Nat → Int → Int → Option (List Int × Int)
 | 0, _, _, _, _, _ => none
 | k + 1, x1, x7, x54, x55, x56 => if x56 < x55 then (if 0 ≤ x56 then (if x56 < (x54.length : Int) then (grid_Count.l2 k x1 x7 (rdOf (0 : Nat) x54 x56) 0 (x1.length : Int) x54 x55 x56) else (none)) else (none)) else (some (x7, 0))
def grid_Count.l2 : Nat → List Nat → List Int → Nat → Int → Int → List Nat → Int → Int → Option (List Int × Int)
 | 0, _, _, _, _, _, _, _, _ => none
 | k + 1, x1, x7, x9, x10, x11, x54, x55, x56 => if x10 = x11 then (if 0 ≤ x10 then (if x10 < (x7.length : Int) then (grid_Count.l1 k x1 (x7.set (x10 : Int).toNat (wrap64 ((rd x7 x10) + 1))) x54 x55 (wrap64 (x56 + 1))) else (none)) else (none)) else (if 0 ≤ (wrap64 (Int.tdiv (wrap64 (x10 + x11)) 2)) then (if (wrap64 (Int.tdiv (wrap64 (x10 + x11)) 2)) < (x1.length : Int) then (if (FloatKind.f64.format.order (rdOf (0 : Nat) x1 (wrap64 (Int.tdiv (wrap64 (x10 + x11)) 2))) x9 == some .lt || FloatKind.f64.format.order (rdOf (0 : Nat) x1 (wrap64 (Int.tdiv (wrap64 (x10 + x11)) 2))) x9 == some .eq) = true then (grid_Count.l2 k x1 x7 x9 (wrap64 ((wrap64 (Int.tdiv (wrap64 (x10 + x11)) 2)) + 1)) x11 x54 x55 x56) else (grid_Count.l2 k x1 x7 x9 x10 (wrap64 (Int.tdiv (wrap64 (x10 + x11)) 2)) x54 x55 x56)) else (none)) else (none))
end
def grid_Count.f (k : Nat) (l0 : List Nat) (l1 : List Nat) : Option (List Int × Int) := if (l1.length : Int) > 256 then (none) else (if (l1.length : Int) = 0 then (none) else (if (l0.length : Int) > 1048576 then (some (([] : List Int), 100)) else ((grid_numbers.f k l1).bind fun t113 => (if t113 = 0 then ((grid_numbers.f k l0).bind fun t114 => (if t114 = 0 then (grid_Count.l0 k l0 l1 (wrap64 ((l1.length : Int) - 1)) 0) else (none))) else (none)))))
theorem noGoto_normal {Q : Exit → Act → World → Prop} {a : Act} {w : World} (h : Q .normal a w) : Exit.noGoto Q .normal a w := h
set_option maxHeartbeats 8000000 in
set_option maxRecDepth 100000 in
theorem grid_Count.calls (k : Nat) (A0 : Option Addr) (c0 : Nat) (l0 : List Nat) (A1 : Option Addr) (c1 : Nat) (l1 : List Nat) (r1 : List Int) (r2 : Int) (w : World) (hr0 : Kd.C Kd.flt w A0 l0.length l0) (hc0 : l0.length ≤ c0) (hr1 : Kd.C Kd.flt w A1 l1.length l1) (hc1 : l1.length ≤ c1) (h : grid_Count.f k l0 l1 = some (r1, r2)) :
  Calls Tryz.prog 74 #[.slice A0 l0.length c0, .slice A1 l1.length c1] w fun e w' => ∃ v0_ : Value, e = .returned (.tuple #[v0_, .int .i64 r2]) ∧ Kd.R (Kd.int .i64) 3 w' w.heap.size (fun _ => True) v0_ r1 ∧ Below w.heap.size w w' := by
 (have HR0 := aM hr0);(have HC0 := aM hc0);(clear hr0 hc0);(have HR1 := aM hr1);(have HC1 := aM hc1);(clear hr1 hc1);(have HB := aM (Below.refl w.heap.size w));(have H : (if (l1.length : Int) > 256 then (none) else (if (l1.length : Int) = 0 then (none) else (if (l0.length : Int) > 1048576 then (some (([] : List Int), 100)) else ((grid_numbers.f k l1).bind fun t113 => (if t113 = 0 then ((grid_numbers.f k l0).bind fun t114 => (if t114 = 0 then (grid_Count.l0 k l0 l1 (wrap64 ((l1.length : Int) - 1)) 0) else (none))) else (none)))))) = some (r1, r2) := h);(clear h)
 by_cases c3 : (l1.length : Int) > 256
 ·rw [if_pos c3] at H
  exact absurd H (by simp)
 ·rw [if_neg c3] at H
  (have c3b0 : decide (256 < (l1.length : Int)) = false := decide_eq_false c3);(have c3b1 : decide (256 < l1.length) = false := decide_eq_false (by omega));(clear c3)
  by_cases c4 : (l1.length : Int) = 0
  ·rw [if_pos c4] at H
   exact absurd H (by simp)
  ·rw [if_neg c4] at H
   (have c4b0 : ((l1.length : Int) == 0) = false := beq_eq_false_iff_ne.mpr c4);(have c4b1 : ((l1.length : Int) != 0) = true := bne_iff_ne.mpr c4);(have c4b2 : ¬ (l1 = []) := fun h_ => c4 (by rw [h_]; rfl))
   by_cases c5 : (l0.length : Int) > 1048576
   ·rw [if_pos c5] at H
    (have c5b0 : decide (1048576 < (l0.length : Int)) = true := decide_eq_true c5);(have c5b1 : decide (1048576 < l0.length) = true := decide_eq_true (by omega));(clear c5);(simp only [Option.some.injEq, Prod.mk.injEq] at H);(obtain ⟨rfl, rfl⟩ := H);(go_enter Tryz.func74, Tryz.ntmps74);(go_wp2)
    repeat (go_quiet (fail); try go_wp2)
    (go_ret2);(exact ⟨_, eA, by first | exact Kd.R_nil _ _ _ _ _ | exact Kd.N_nil _ _ _ _ _ | exact Kd.V_nil _ _ _ _ _ | exact Kd.Q_nil _ _ _ _ _ | exact Kd.S_nil _ _ _ _ _, bA HB.out⟩)
   (rw [if_neg c5] at H);(have c5b0 : decide (1048576 < (l0.length : Int)) = false := decide_eq_false c5);(have c5b1 : decide (1048576 < l0.length) = false := decide_eq_false (by omega));(clear c5);(revert H);(refine bE ?_);(rintro t113 A6 H);(revert H);(refine ifP fun c7 H => ?_);(have c7b0 : (t113 == 0) = true := beq_iff_eq.mpr c7);(have c7b1 : (t113 != 0) = false := bne_eq_false_iff_eq.mpr c7);(clear c7);(revert H);(refine bE ?_);(rintro t114 A8 H);(revert H);(refine ifP fun c9 H => ?_);(have c9b0 : (t114 == 0) = true := beq_iff_eq.mpr c9);(have c9b1 : (t114 != 0) = false := bne_eq_false_iff_eq.mpr c9);(clear c9);(have H' := aM H);(clear H);(go_enter Tryz.func74, Tryz.ntmps74)
   go_wp2_with (first | (go_at_call 136; (with_reducible refine (grid_numbers.calls k _ _ l1 t113 _ ?side1 ?side2 A6.out).mono ?_); (case side1 => exact cA HR1.out); (case side2 => exact HC1.out); rintro e w' ⟨rfl, ⟨nd, rfl⟩⟩; (try exact ddA)) | (go_at_call 136; (with_reducible refine (grid_numbers.calls k _ _ l0 t114 _ ?side1 ?side2 A8.out).mono ?_); (case side1 => exact cA HR0.out); (case side2 => exact HC0.out); rintro e w' ⟨rfl, ⟨nd, rfl⟩⟩; (try exact ddA)))
   repeat (go_quiet (first | (go_at_call 136; (with_reducible refine (grid_numbers.calls k _ _ l1 t113 _ ?side1 ?side2 A6.out).mono ?_); (case side1 => exact cA HR1.out); (case side2 => exact HC1.out); rintro e w' ⟨rfl, ⟨nd, rfl⟩⟩; (try exact ddA)) | (go_at_call 136; (with_reducible refine (grid_numbers.calls k _ _ l0 t114 _ ?side1 ?side2 A8.out).mono ?_); (case side1 => exact cA HR0.out); (case side2 => exact HC0.out); rintro e w' ⟨rfl, ⟨nd, rfl⟩⟩; (try exact ddA))); try go_wp2_with (first | (go_at_call 136; (with_reducible refine (grid_numbers.calls k _ _ l1 t113 _ ?side1 ?side2 A6.out).mono ?_); (case side1 => exact cA HR1.out); (case side2 => exact HC1.out); rintro e w' ⟨rfl, ⟨nd, rfl⟩⟩; (try exact ddA)) | (go_at_call 136; (with_reducible refine (grid_numbers.calls k _ _ l0 t114 _ ?side1 ?side2 A8.out).mono ?_); (case side1 => exact cA HR0.out); (case side2 => exact HC0.out); rintro e w' ⟨rfl, ⟨nd, rfl⟩⟩; (try exact ddA))))
   go_loopg [35] k (fun kq v35 w' => ∃ (x35_1 : Int), v35 = .int .i64 x35_1 ∧ Aside0 (grid_Count.l0 kq l0 l1 (wrap64 ((l1.length : Int) - 1)) x35_1 = some (r1, r2)) ∧ Aside0 (kq ≤ k) ∧ Aside0 (Below w.heap.size w w'))
   case atStart => exact ⟨(0), sA, H', ⟨Nat.le_refl _⟩, ⟨bA HB.out⟩⟩
   case round =>
    (clear H');(try clear c1);(try clear p2);(try clear c3);(try clear c3b0);(try clear c3b1);(try clear c4);(try clear c4b0);(try clear c4b1);(try clear c4b2);(try clear c5);(try clear c5b0);(try clear c5b1);(try clear p6);(try clear c7);(try clear c7b0);(try clear c7b1);(try clear c9);(try clear c9b0);(try clear c9b1);(obtain ⟨x35_1, rfl, HA, HK1, HB⟩ := hrel)
    cases gk with
    | zero => exact absurd HA.out (by simp [grid_Count.l0])
    | succ k1 =>
     (have H := HA.out);(clear HA);(simp only [grid_Count.l0] at H)
     by_cases c10 : x35_1 < (wrap64 ((l1.length : Int) - 1))
     ·rw [if_pos c10] at H
      (have c10b0 : decide (x35_1 < (wrap64 ((l1.length : Int) - 1))) = true := decide_eq_true c10);(clear c10);(generalize hji11 : (wrap64 (x35_1 + 1)) = ji11 at H);(have hji11w : (IntKind.i64.wrap (x35_1 + 1)) = ji11 := (i64_w _).trans hji11);(revert H);(refine ifP fun c12 H => ?_);(have c12b0 := decide_eq_true c12);(clear c12);(revert H);(refine ifP fun c13 H => ?_);(have c13b0 := decide_eq_true c13);(clear c13);(revert H);(refine ifP fun c14 H => ?_);(have c14b0 := decide_eq_true c14);(clear c14);(revert H);(refine ifP fun c15 H => ?_);(have c15b0 := decide_eq_true c15);(clear c15);(revert H);(refine ifP fun c16 H => ?_);(have c16b0 : (FloatKind.f64.format.order (rdOf (0 : Nat) l1 (ji11)) (rdOf (0 : Nat) l1 x35_1) == some .gt) = true := c16)
      (try (have c16b1 : decide (FloatKind.f64.format.order (rdOf (0 : Nat) l1 (ji11)) (rdOf (0 : Nat) l1 x35_1) = some .gt) = true := by simpa using c16))
      (try (have c16b2 : (FloatKind.f64.format.order (rdOf (0 : Nat) l1 (ji11)) (rdOf (0 : Nat) l1 x35_1) == some .gt) = true := by simpa using c16))
      (clear c16);(have H' := aM H);(clear H);(have p115 : 0 ≤ ((ji11) : Int) := of_decide_eq_true asA);(have q115 : (ji11) < (l1.length : Int) := of_decide_eq_true asA);(obtain ⟨ad115, e115, hx115_0⟩ := Kd.at_flt HR1.out (ji11) p115 q115);(cases e115);(replace hx115_0 := (HB.out.cell (World.block_lt_of_cell? w _ hx115_0)).trans hx115_0);(replace p115 := eq_true p115);(replace q115 := eq_true q115);(have p116 : 0 ≤ (x35_1 : Int) := of_decide_eq_true asA);(have q116 : x35_1 < (l1.length : Int) := of_decide_eq_true asA);(obtain ⟨ad116, e116, hx116_0⟩ := Kd.at_flt HR1.out x35_1 p116 q116);(obtain rfl : ad115 = ad116 := (by injection e116));(replace hx116_0 := (HB.out.cell (World.block_lt_of_cell? w _ hx116_0)).trans hx116_0);(replace p116 := eq_true p116);(replace q116 := eq_true q116);(go_wp2)
      repeat (go_quiet (fail); try go_wp2)
      go_roundg k1
      case measure => have := HK1.out; omega
      case rel => exact ⟨(ji11), (by first | rfl | (simp; done) | (simp only [← hji11] <;> (first | rfl | simp)) | (simp [*]; done)), H', ⟨by have := HK1.out; omega⟩, ⟨bA HB.out⟩⟩
     (rw [if_neg c10] at H);(have c10b0 : decide (x35_1 < (wrap64 ((l1.length : Int) - 1))) = false := decide_eq_false c10);(clear c10);(generalize hji17 : (wrap64 ((l1.length : Int) + 1)) = ji17 at H);(have hji17w : (IntKind.i64.wrap ((l1.length : Int) + 1)) = ji17 := (i64_w _).trans hji17);(revert H);(refine ifP fun c18 H => ?_);(have c18b0 := eq_true c18);(have c18b1 : decide (0 ≤ (ji17)) = true := decide_eq_true c18);(clear c18);(revert H);(refine ifP fun c19 H => ?_);(have c19b0 := eq_true c19);(have c19b1 : decide ((ji17 : Int).toNat ≤ 35184372088832) = true := decide_eq_true c19);(clear c19);(generalize hy117 : (List.replicate (ji17 : Int).toNat (0 : Int)) = y117 at H);(replace hy117 := hy117.symm)
     (try (revert H; (with_reducible refine sE y117 ?_); intro H))
     (have Ny117 := aM hy117);(clear hy117);(have H' := aM H);(clear H)
     go_wp2_with (first | ((with_reducible refine gD 53 rfl ?_); (try (refine gate_guard (by rfl) ?_; dsimp only)); refine Kd.R_make (Kd.int .i64) _ 3 rfl (N := 53) rfl 22 _ _ rfl ji17 rfl rfl Tryz.underlying22 (.int .i64 0) 8 info3 rfl (by decide) (by omega) 0 (ok := fun _ => True) (okp := fun _ => True) rfl (fun _ hk => hk) trivial (of_decide_eq_true asA) (Nat.le_trans (Nat.mul_le_mul_right _ (of_decide_eq_true asA : ji17.toNat ≤ 35184372088832)) (by omega)) (Below.refl _ _) (Nat.le_refl _) ?_; intro v118 w20 ho21 hb hg_ hnew_; clear hg_ hnew_; (first | rw [← Ny117.out] at ho21 | (simp only [Int.reduceToNat] at ho21; rw [← Ny117.out] at ho21)); have HO119 := aM (Kd.R_lower ho21 (below_size (bA HB.out))); replace HB := gB HB hb; clear hb ho21))
     repeat (go_quiet (first | ((with_reducible refine gD 53 rfl ?_); (try (refine gate_guard (by rfl) ?_; dsimp only)); refine Kd.R_make (Kd.int .i64) _ 3 rfl (N := 53) rfl 22 _ _ rfl ji17 rfl rfl Tryz.underlying22 (.int .i64 0) 8 info3 rfl (by decide) (by omega) 0 (ok := fun _ => True) (okp := fun _ => True) rfl (fun _ hk => hk) trivial (of_decide_eq_true asA) (Nat.le_trans (Nat.mul_le_mul_right _ (of_decide_eq_true asA : ji17.toNat ≤ 35184372088832)) (by omega)) (Below.refl _ _) (Nat.le_refl _) ?_; intro v118 w20 ho21 hb hg_ hnew_; clear hg_ hnew_; (first | rw [← Ny117.out] at ho21 | (simp only [Int.reduceToNat] at ho21; rw [← Ny117.out] at ho21)); have HO119 := aM (Kd.R_lower ho21 (below_size (bA HB.out))); replace HB := gB HB hb; clear hb ho21)); try go_wp2_with (first | ((with_reducible refine gD 53 rfl ?_); (try (refine gate_guard (by rfl) ?_; dsimp only)); refine Kd.R_make (Kd.int .i64) _ 3 rfl (N := 53) rfl 22 _ _ rfl ji17 rfl rfl Tryz.underlying22 (.int .i64 0) 8 info3 rfl (by decide) (by omega) 0 (ok := fun _ => True) (okp := fun _ => True) rfl (fun _ hk => hk) trivial (of_decide_eq_true asA) (Nat.le_trans (Nat.mul_le_mul_right _ (of_decide_eq_true asA : ji17.toNat ≤ 35184372088832)) (by omega)) (Below.refl _ _) (Nat.le_refl _) ?_; intro v118 w20 ho21 hb hg_ hnew_; clear hg_ hnew_; (first | rw [← Ny117.out] at ho21 | (simp only [Int.reduceToNat] at ho21; rw [← Ny117.out] at ho21)); have HO119 := aM (Kd.R_lower ho21 (below_size (bA HB.out))); replace HB := gB HB hb; clear hb ho21)))
     go_loopg [56] k1 (fun kq v56 w' => ∃ (x7_2 : List Int) (x56_2 : Int), v56 = .int .i64 x56_2 ∧ Aside0 (grid_Count.l1 kq l1 x7_2 l0 (l0.length : Int) x56_2 = some (r1, r2)) ∧ Aside0 (kq ≤ k1) ∧ Aside0 (Kd.R (Kd.int .i64) 3 w' w.heap.size (fun _ => True) v118 x7_2) ∧ Aside0 (Below w.heap.size w w'))
     case atStart => exact ⟨(y117), (0), sA, H', ⟨Nat.le_refl _⟩, ⟨rA HO119.out⟩, ⟨bA HB.out⟩⟩
     case round =>
      (clear H');(try clear c1);(try clear p1);(try clear q1);(try clear hx1);(try clear p2);(try clear c3);(try clear c3b0);(try clear c3b1);(try clear c4);(try clear c4b0);(try clear c4b1);(try clear c4b2);(try clear c5);(try clear c5b0);(try clear c5b1);(try clear p6);(try clear c7);(try clear c7b0);(try clear c7b1);(try clear c9);(try clear c9b0);(try clear c9b1);(try clear c10);(try clear c10b0);(try clear p11);(try clear q11);(try clear hx11);(try clear c12);(try clear c12b0);(try clear c13);(try clear c13b0);(try clear c14);(try clear c14b0);(try clear c15);(try clear c15b0);(try clear c16);(try clear c16b0);(try clear c16b1);(try clear c16b2);(try clear c18);(try clear c18b0);(try clear c18b1);(try clear c19);(try clear c19b0);(try clear c19b1);(try clear hx115_0);(try clear hx116_0);(try clear p115);(try clear p116);(try clear p2);(try clear p6);(try clear q115);(try clear q116);(obtain ⟨x7_2, x56_2, rfl, HA, HK2, HO_7, HB⟩ := hrel)
      cases gk with
      | zero => exact absurd HA.out (by simp [grid_Count.l1])
      | succ k2 =>
       (have H := HA.out);(clear HA);(simp only [grid_Count.l1] at H)
       by_cases c22 : x56_2 < (l0.length : Int)
       rotate_left
       ·rw [if_neg c22] at H
        (have c22b0 : decide (x56_2 < (l0.length : Int)) = false := decide_eq_false c22);(clear c22);(simp only [Option.some.injEq, Prod.mk.injEq] at H);(obtain ⟨rfl, rfl⟩ := H);(go_wp2)
        repeat (go_quiet (fail); try go_wp2)
        (go_ret2);(exact ⟨_, by first | rfl | (simp [errW_none, errW_some] <;> rfl) | (simp only [← hji17]; first | rfl | (simp [errW_none, errW_some] <;> rfl)) | (simp [*, errW_none, errW_some] <;> rfl), rA HO_7.out, bA HB.out⟩)
       (rw [if_pos c22] at H);(have c22b0 : decide (x56_2 < (l0.length : Int)) = true := decide_eq_true c22);(clear c22);(revert H);(refine ifP fun c23 H => ?_);(have c23b0 := decide_eq_true c23);(clear c23);(revert H);(refine ifP fun c24 H => ?_);(have c24b0 := decide_eq_true c24);(clear c24);(have H' := aM H);(clear H);(have p120 : 0 ≤ (x56_2 : Int) := of_decide_eq_true asA);(have q120 : x56_2 < (l0.length : Int) := of_decide_eq_true asA);(obtain ⟨ad120, e120, hx120_0⟩ := Kd.at_flt HR0.out x56_2 p120 q120);(cases e120);(replace hx120_0 := (HB.out.cell (World.block_lt_of_cell? w _ hx120_0)).trans hx120_0);(replace p120 := eq_true p120);(replace q120 := eq_true q120);(go_wp2)
       repeat (go_quiet (fail); try go_wp2)
       (refine wp_scope_straight ?_);(try go_wp2);(refine wp_label ?_);(try go_wp2)
       go_loopg [10, 11] k2 (fun kq v10 v11 w' => ∃ (x10_3 : Int) (x11_3 : Int), v10 = .int .i64 x10_3 ∧ v11 = .int .i64 x11_3 ∧ Aside0 (grid_Count.l2 kq l1 x7_2 (rdOf (0 : Nat) l0 x56_2) x10_3 x11_3 l0 (l0.length : Int) x56_2 = some (r1, r2)) ∧ Aside0 (kq ≤ k2) ∧ Aside0 (Kd.R (Kd.int .i64) 3 w' w.heap.size (fun _ => True) v118 x7_2) ∧ Aside0 (Below w.heap.size w w'))
       case atStart => exact ⟨(0), ((l1.length : Int)), sA, sA, H', ⟨Nat.le_refl _⟩, ⟨rA HO_7.out⟩, ⟨bA HB.out⟩⟩
       case round =>
        (clear H');(try clear c1);(try clear p1);(try clear q1);(try clear hx1);(try clear c2);(try clear p2);(try clear c3);(try clear c3b0);(try clear c3b1);(try clear c4);(try clear c4b0);(try clear c4b1);(try clear c4b2);(try clear c5);(try clear c5b0);(try clear c5b1);(try clear p6);(try clear c7);(try clear c7b0);(try clear c7b1);(try clear c9);(try clear c9b0);(try clear c9b1);(try clear c10);(try clear c10b0);(try clear p11);(try clear q11);(try clear hx11);(try clear c12);(try clear c12b0);(try clear p12);(try clear q12);(try clear hx12);(try clear c13);(try clear c13b0);(try clear c14);(try clear c14b0);(try clear c15);(try clear c15b0);(try clear c16);(try clear c16b0);(try clear c16b1);(try clear c16b2);(try clear c18);(try clear c18b0);(try clear c18b1);(try clear c19);(try clear c19b0);(try clear c19b1);(try clear c22);(try clear c22b0);(try clear c23);(try clear c23b0);(try clear c24);(try clear c24b0);(try clear hx115_0);(try clear hx116_0);(try clear hx120_0);(try clear p1);(try clear p11);(try clear p115);(try clear p116);(try clear p120);(try clear p2);(try clear p6);(try clear q1);(try clear q11);(try clear q115);(try clear q116);(try clear q120);(obtain ⟨x10_3, x11_3, rfl, rfl, HA, HK3, HO_7, HB⟩ := hrel)
        cases gk with
        | zero => exact absurd HA.out (by simp [grid_Count.l2])
        | succ k3 =>
         (have H := HA.out);(clear HA);(simp only [grid_Count.l2] at H)
         by_cases c25 : x10_3 = x11_3
         rotate_left
         ·rw [if_neg c25] at H
          (have c25b0 : (x10_3 == x11_3) = false := beq_eq_false_iff_ne.mpr c25);(have c25b1 : (x10_3 != x11_3) = true := bne_iff_ne.mpr c25);(generalize hji32 : (wrap64 (Int.tdiv (wrap64 (x10_3 + x11_3)) 2)) = ji32 at H);(have hji32w : (IntKind.i64.wrap (Int.tdiv (wrap64 (x10_3 + x11_3)) 2)) = ji32 := (i64_w _).trans hji32);(revert H);(refine ifP fun c33 H => ?_);(have c33b0 := decide_eq_true c33);(clear c33);(revert H);(refine ifP fun c34 H => ?_);(have c34b0 := decide_eq_true c34);(clear c34)
          by_cases c35 : (FloatKind.f64.format.order (rdOf (0 : Nat) l1 (ji32)) (rdOf (0 : Nat) l0 x56_2) == some .lt || FloatKind.f64.format.order (rdOf (0 : Nat) l1 (ji32)) (rdOf (0 : Nat) l0 x56_2) == some .eq) = true
          ·rw [if_pos c35] at H
           have c35b0 : (FloatKind.f64.format.order (rdOf (0 : Nat) l1 (ji32)) (rdOf (0 : Nat) l0 x56_2) == some .lt || FloatKind.f64.format.order (rdOf (0 : Nat) l1 (ji32)) (rdOf (0 : Nat) l0 x56_2) == some .eq) = true := c35
           (try (have c35b1 : decide (FloatKind.f64.format.order (rdOf (0 : Nat) l1 (ji32)) (rdOf (0 : Nat) l0 x56_2) = some .lt || FloatKind.f64.format.order (rdOf (0 : Nat) l1 (ji32)) (rdOf (0 : Nat) l0 x56_2) == some .eq) = true := by simpa using c35))
           (try (have c35b2 : (FloatKind.f64.format.order (rdOf (0 : Nat) l1 (ji32)) (rdOf (0 : Nat) l0 x56_2) == some .lt || FloatKind.f64.format.order (rdOf (0 : Nat) l1 (ji32)) (rdOf (0 : Nat) l0 x56_2) == some .eq) = true := by simpa using c35))
           (clear c35);(have H' := aM H);(clear H);(have p123 : 0 ≤ ((ji32) : Int) := of_decide_eq_true asA);(have q123 : (ji32) < (l1.length : Int) := of_decide_eq_true asA);(obtain ⟨ad123, e123, hx123_0⟩ := Kd.at_flt HR1.out (ji32) p123 q123);(cases e123);(replace hx123_0 := (HB.out.cell (World.block_lt_of_cell? w _ hx123_0)).trans hx123_0);(replace p123 := eq_true p123);(replace q123 := eq_true q123);(go_wp2)
           repeat (go_quiet (fail); try go_wp2)
           go_roundg k3
           case measure => have := HK1.out; have := HK2.out; have := HK3.out; omega
           case rel => exact ⟨(wrap64 ((ji32) + 1)), (x11_3), (by first | rfl | (simp; done) | (simp only [← hji32] <;> (first | rfl | simp)) | (simp [*]; done)), sA, H', ⟨by have := HK1.out; have := HK2.out; have := HK3.out; omega⟩, ⟨rA HO_7.out⟩, ⟨bA HB.out⟩⟩
          (rw [if_neg c35] at H);(have c35b0 : (FloatKind.f64.format.order (rdOf (0 : Nat) l1 (ji32)) (rdOf (0 : Nat) l0 x56_2) == some .lt || FloatKind.f64.format.order (rdOf (0 : Nat) l1 (ji32)) (rdOf (0 : Nat) l0 x56_2) == some .eq) = false := by simpa using c35)
          (try (have c35b1 : decide (FloatKind.f64.format.order (rdOf (0 : Nat) l1 (ji32)) (rdOf (0 : Nat) l0 x56_2) = some .lt || FloatKind.f64.format.order (rdOf (0 : Nat) l1 (ji32)) (rdOf (0 : Nat) l0 x56_2) == some .eq) = false := by simpa using c35))
          (try (have c35b2 : (FloatKind.f64.format.order (rdOf (0 : Nat) l1 (ji32)) (rdOf (0 : Nat) l0 x56_2) == some .lt || FloatKind.f64.format.order (rdOf (0 : Nat) l1 (ji32)) (rdOf (0 : Nat) l0 x56_2) == some .eq) = false := by simpa using c35))
          (try (have c35b3 : ¬ (FloatKind.f64.format.order (rdOf (0 : Nat) l1 (ji32)) (rdOf (0 : Nat) l0 x56_2) = some .lt || FloatKind.f64.format.order (rdOf (0 : Nat) l1 (ji32)) (rdOf (0 : Nat) l0 x56_2) == some .eq) := by simpa using c35))
          (clear c35);(have H' := aM H);(clear H);(have p123 : 0 ≤ ((ji32) : Int) := of_decide_eq_true asA);(have q123 : (ji32) < (l1.length : Int) := of_decide_eq_true asA);(obtain ⟨ad123, e123, hx123_0⟩ := Kd.at_flt HR1.out (ji32) p123 q123);(cases e123);(replace hx123_0 := (HB.out.cell (World.block_lt_of_cell? w _ hx123_0)).trans hx123_0);(replace p123 := eq_true p123);(replace q123 := eq_true q123);(go_wp2)
          repeat (go_quiet (fail); try go_wp2)
          go_roundg k3
          case measure => have := HK1.out; have := HK2.out; have := HK3.out; omega
          case rel => exact ⟨(x10_3), (ji32), sA, (by first | rfl | (simp; done) | (simp only [← hji32] <;> (first | rfl | simp)) | (simp [*]; done)), H', ⟨by have := HK1.out; have := HK2.out; have := HK3.out; omega⟩, ⟨rA HO_7.out⟩, ⟨bA HB.out⟩⟩
         (rw [if_pos c25] at H);(have c25b0 : (x10_3 == x11_3) = true := beq_iff_eq.mpr c25);(have c25b1 : (x10_3 != x11_3) = false := bne_eq_false_iff_eq.mpr c25);(clear c25);(revert H);(refine ifP fun c26 H => ?_);(have c26b0 := decide_eq_true c26);(clear c26);(revert H);(refine ifP fun c27 H => ?_);(have c27b0 := decide_eq_true c27);(clear c27);(generalize hy122 : (x7_2.set (x10_3 : Int).toNat (wrap64 ((rd x7_2 x10_3) + 1))) = y122 at H);(replace hy122 := hy122.symm)
         (try (revert H; (with_reducible refine sE y122 ?_); intro H))
         (have Ny122 := aM hy122);(clear hy122);(have H' := aM H);(clear H);(obtain ⟨Ao29, co29, eo29⟩ := Kd.R_slice HO_7.out);(subst eo29);(have p121 : 0 ≤ (x10_3 : Int) := of_decide_eq_true asA);(have q121 : x10_3 < (x7_2.length : Int) := of_decide_eq_true asA);(obtain ⟨ad121, e121, hx121_0⟩ := Kd.at_int (Kd.R_reads' HO_7.out).2.2 x10_3 p121 q121);(cases e121);(replace p121 := eq_true p121);(replace q121 := eq_true q121);(have p28 : 0 ≤ (x10_3 : Int) := of_decide_eq_true asA);(have q28 : (x10_3 : Int) < ((x7_2.length : Int) : Int) := of_decide_eq_true asA);(obtain ⟨go28, co28, eo28, gb28, gl28, cl28, HG28⟩ := Kd.R_form HO_7.out (by omega))
         (first | cases eo28 | (injection eo28 with ea_ en_ ec_; (first | subst ea_ | (injection ea_ with ea_; subst ea_)); subst ec_; clear en_))
         (have GB28 := aM gb28);(have GG28 := aM HG28);(clear gb28 gl28 HG28)
         (first | simp only [add_plain] at hx121_0 | skip)
         obtain ⟨hx28_0, hf28_0⟩ := Kd.R_celln 0 HO_7.out (x10_3 : Int) p28 q28
         (try rw [show ((0 : Int)).toNat = 0 from rfl] at hx28_0)
         (try rw [show ((0 : Int)).toNat = 0 from rfl] at hf28_0)
         (replace p28 := eq_true p28);(replace q28 := eq_true q28);(have HP30 := Kd.R_putg HO_7.out (x10_3 : Int) (wrap64 ((rd x7_2 x10_3) + 1)))
         go_wp2_with (first | ((with_reducible refine gate_store (t := 3) (p := 85) rfl ?_); (try rw [World.drewN_drewN]); (try (rw [drewN_self wr]; generalize hq_ : World.drewN wr _ = wr; replace HO_7 := aM (Kd.R_at hq_ HO_7.out); replace HB := aM (below_at hq_ HB.out); clear hq_; (try (have HP30 := Kd.R_putg HO_7.out (x10_3 : Int) (wrap64 ((rd x7_2 x10_3) + 1)))))); refine store_event (t := 3) (p := 85) (v := ?vo_w31) (w1 := (wr.setCell ⟨go28, (x10_3 : Int).toNat, none⟩ (.int .i64 (wrap64 ((rd x7_2 x10_3) + 1))))) ?hg ?ho ?hn ?hr ?_; (case ho => rfl); (case hg => rfl); (case hn => rfl); (case hr => first | (go_simp; done) | (go_simp; rfl)); intro w31 hw; have hg : wr.grownBy w31 (some go28) := (by rw [hw]; exact HP30.2); have hp_ : Kd.R (Kd.int .i64) 3 w31 w.heap.size (fun _ => True) (.slice (some ⟨go28, 0, none⟩) x7_2.length co29) y122 := (by rw [hw, Ny122.out]; exact HP30.1); clear HP30; replace HO_7 := aM hp_; replace HB := aM (by rw [hw]; exact below_set (HB.out) GB28.out : Below w.heap.size w w31); clear hg hw hp_))
         repeat (go_quiet (first | ((with_reducible refine gate_store (t := 3) (p := 85) rfl ?_); (try rw [World.drewN_drewN]); (try (rw [drewN_self wr]; generalize hq_ : World.drewN wr _ = wr; replace HO_7 := aM (Kd.R_at hq_ HO_7.out); replace HB := aM (below_at hq_ HB.out); clear hq_; (try (have HP30 := Kd.R_putg HO_7.out (x10_3 : Int) (wrap64 ((rd x7_2 x10_3) + 1)))))); refine store_event (t := 3) (p := 85) (v := ?vo_w31) (w1 := (wr.setCell ⟨go28, (x10_3 : Int).toNat, none⟩ (.int .i64 (wrap64 ((rd x7_2 x10_3) + 1))))) ?hg ?ho ?hn ?hr ?_; (case ho => rfl); (case hg => rfl); (case hn => rfl); (case hr => first | (go_simp; done) | (go_simp; rfl)); intro w31 hw; have hg : wr.grownBy w31 (some go28) := (by rw [hw]; exact HP30.2); have hp_ : Kd.R (Kd.int .i64) 3 w31 w.heap.size (fun _ => True) (.slice (some ⟨go28, 0, none⟩) x7_2.length co29) y122 := (by rw [hw, Ny122.out]; exact HP30.1); clear HP30; replace HO_7 := aM hp_; replace HB := aM (by rw [hw]; exact below_set (HB.out) GB28.out : Below w.heap.size w w31); clear hg hw hp_)); try go_wp2_with (first | ((with_reducible refine gate_store (t := 3) (p := 85) rfl ?_); (try rw [World.drewN_drewN]); (try (rw [drewN_self wr]; generalize hq_ : World.drewN wr _ = wr; replace HO_7 := aM (Kd.R_at hq_ HO_7.out); replace HB := aM (below_at hq_ HB.out); clear hq_; (try (have HP30 := Kd.R_putg HO_7.out (x10_3 : Int) (wrap64 ((rd x7_2 x10_3) + 1)))))); refine store_event (t := 3) (p := 85) (v := ?vo_w31) (w1 := (wr.setCell ⟨go28, (x10_3 : Int).toNat, none⟩ (.int .i64 (wrap64 ((rd x7_2 x10_3) + 1))))) ?hg ?ho ?hn ?hr ?_; (case ho => rfl); (case hg => rfl); (case hn => rfl); (case hr => first | (go_simp; done) | (go_simp; rfl)); intro w31 hw; have hg : wr.grownBy w31 (some go28) := (by rw [hw]; exact HP30.2); have hp_ : Kd.R (Kd.int .i64) 3 w31 w.heap.size (fun _ => True) (.slice (some ⟨go28, 0, none⟩) x7_2.length co29) y122 := (by rw [hw, Ny122.out]; exact HP30.1); clear HP30; replace HO_7 := aM hp_; replace HB := aM (by rw [hw]; exact below_set (HB.out) GB28.out : Below w.heap.size w w31); clear hg hw hp_)))
         (refine noGoto_normal ?_);(try go_wp2)
         go_roundg k3
         case measure => have := HK1.out; have := HK2.out; have := HK3.out; omega
         case rel => exact ⟨(y122), (wrap64 (x56_2 + 1)), sA, H', ⟨by have := HK1.out; have := HK2.out; have := HK3.out; omega⟩, ⟨by first | ((with_reducible repeat (first | apply Kd.R_alloc | apply Kd.R_drewN | apply Kd.R_drew)); exact HO_7.out) | (rw [Ny122.out]; exact (Kd.R_putg (Kd.R_drewN HO_7.out _) (x10_3 : Int) (wrap64 ((rd x7_2 x10_3) + 1))).1)⟩, ⟨by first | ((repeat (first | (with_reducible first | exact HB.out | apply below_alloc | apply pw_below_drewN | apply below_drew1) | exact HB.out)); done) | exact below_set (pw_below_drewN HB.out _) GB28.out⟩⟩

end Go.Proofs.YtmdoljecjliehaaGreat.FG
end
