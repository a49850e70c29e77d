/- Written by the session's fprint.py out of the translation. -/
import Derived.Test.YtepcegiciecogaaGreatFGx0
namespace Go.Proofs.YtepcegiciecogaaGreat.FG
open Go.RowKit Go.Proofs.YtepcegiciecogaaGreatW.PrintWords Go.Proofs.YtepcegiciecogaaGreatW.PrintLast Go.Proofs.YtepcegiciecogaaGreatW.PrintMore
attribute [local go_sem] max2_int min2_int max_two min_two max_three min_three max_four min_four   -- for this text's walks alone
open Go.Proofs.YtepcegiciecogaaGreat.FX
attribute [local go_sem] run_store_float run_neg_float run_fmul isSome_setCell 
set_option linter.unusedVariables false
set_option linter.unusedSimpArgs false

/-! ### grid_numbers: function 86 -/
def grid_numbers.l0 : Nat → List Nat → Int → Int → Option (Int)
  | 0, _, _, _ => none
  | k + 1, x5, x6, x7 => if x7 < x6 then (if 0 ≤ x7 then (if x7 < (x5.length : Int) then ((grid_number.f (rdOf (0 : Nat) x5 x7)).bind fun t102 => (if t102 = true then (grid_numbers.l0 k x5 x6 (wrap64 (x7 + 1))) else (some 91))) else (none)) else (none)) else (some 0)
def grid_numbers.f (k : Nat) (l0 : List Nat) : Option (Int) := grid_numbers.l0 k l0 (l0.length : Int) 0
set_option maxHeartbeats 8000000 in
set_option maxRecDepth 100000 in
theorem grid_numbers.calls (k : Nat) (A0 : Option Addr) (c0 : Nat) (l0 : List Nat) (r : Int) (w : World) (hr0 : Kd.C Kd.flt w A0 l0.length l0) (hc0 : l0.length ≤ c0) (h : grid_numbers.f k l0 = some r) :
    Calls Tryz.prog 86 #[.slice A0 l0.length c0] w fun e w' => e = .returned (.int .i64 r) ∧ Drawn0 w w' := by
  have HR0 := Aside0.mk hr0
  have HC0 := Aside0.mk hc0
  clear hr0 hc0
  have H : (grid_numbers.l0 k l0 (l0.length : Int) 0) = some r := h
  clear h
  have H' := Aside0.mk H
  clear H
  go_enter Tryz.func86, Tryz.ntmps86
  go_wp2
  go_loopg [7] k (fun kq v7 w' => ∃ (x7_1 : Int), v7 = .int .i64 x7_1 ∧ Aside0 (grid_numbers.l0 kq l0 (l0.length : Int) x7_1 = some r) ∧ Aside0 (kq ≤ k) ∧ Drawn0 w w')
  case atStart => exact ⟨(0), (by first | rfl | (simp; done) | (simp [*]; done)), H', ⟨Nat.le_refl _⟩, by repeat (first | exact Drawn0.refl _ | apply Drawn0.step)⟩
  case round =>
    clear H'
    obtain ⟨x7_1, rfl, HA, HK1, ⟨m1, rfl⟩⟩ := hrel
    cases gk with
    | zero => exact absurd HA.out (by simp [grid_numbers.l0])
    | succ k1 =>
      have H := HA.out
      clear HA
      simp only [grid_numbers.l0] at H
      by_cases c2 : x7_1 < (l0.length : Int)
      rotate_left
      · rw [if_neg c2] at H
        have c2b0 : decide (x7_1 < (l0.length : Int)) = false := decide_eq_false c2
        clear c2
        obtain rfl := Option.some.inj H
        go_wp2
        go_ret
        exact ⟨sA, dA⟩
      rw [if_pos c2] at H
      have c2b0 : decide (x7_1 < (l0.length : Int)) = true := decide_eq_true c2
      clear c2
      by_cases c3 : 0 ≤ x7_1
      rotate_left
      · rw [if_neg c3] at H
        exact absurd H (by simp)
      rw [if_pos c3] at H
      have c3b0 : decide (0 ≤ x7_1) = true := decide_eq_true c3
      clear c3
      by_cases c4 : x7_1 < (l0.length : Int)
      rotate_left
      · rw [if_neg c4] at H
        exact absurd H (by simp)
      rw [if_pos c4] at H
      have c4b0 : decide (x7_1 < (l0.length : Int)) = true := decide_eq_true c4
      clear c4
      replace H := Option.bind_eq_some_iff.mp H
      obtain ⟨t102, A50, H⟩ := H
      have A5 := Aside0.mk A50
      clear A50
      by_cases c6 : t102 = true
      rotate_left
      · replace c6 := Bool.eq_false_iff.mpr c6
        subst c6
        have H1 : (some 91) = some r := by rw [if_neg (show ¬ (false = true) by decide)] at H; exact H
        clear H
        have H := H1
        clear H1
        obtain rfl := Option.some.inj H
        have p101 : 0 ≤ (x7_1 : Int) := of_decide_eq_true asA
        have q101 : x7_1 < (l0.length : Int) := of_decide_eq_true asA
        obtain ⟨ad101, e101, hx101_0⟩ := Kd.at_flt HR0.out x7_1 p101 q101
        cases e101
        replace p101 := eq_true p101
        replace q101 := eq_true q101
        go_wp2_with (first | ((with_reducible refine gate_callee (f := 126) rfl ?_); refine goesL_ (some 12) rfl rfl Tryz.func126 (by kernel_rfl) rfl #[.float .f64 (rdOf (0 : Nat) l0 x7_1)] rfl mA ?_; (with_reducible refine (grid_number.calls (rdOf (0 : Nat) l0 x7_1) false _ A5.out).mono ?_); rintro e w' ⟨rfl, ⟨nd, rfl⟩⟩; refine ⟨_, rfl, ?_⟩))
        go_ret
        exact ⟨sA, dA⟩
      subst c6
      have H1 : (grid_numbers.l0 k1 l0 (l0.length : Int) (wrap64 (x7_1 + 1))) = some r := by rw [if_pos rfl] at H; exact H
      clear H
      have H := H1
      clear H1
      have H' := Aside0.mk H
      clear H
      have p101 : 0 ≤ (x7_1 : Int) := of_decide_eq_true asA
      have q101 : x7_1 < (l0.length : Int) := of_decide_eq_true asA
      obtain ⟨ad101, e101, hx101_0⟩ := Kd.at_flt HR0.out x7_1 p101 q101
      cases e101
      replace p101 := eq_true p101
      replace q101 := eq_true q101
      go_wp2_with (first | ((with_reducible refine gate_callee (f := 126) rfl ?_); refine goesL_ (some 12) rfl rfl Tryz.func126 (by kernel_rfl) rfl #[.float .f64 (rdOf (0 : Nat) l0 x7_1)] rfl mA ?_; (with_reducible refine (grid_number.calls (rdOf (0 : Nat) l0 x7_1) true _ A5.out).mono ?_); rintro e w' ⟨rfl, ⟨nd, rfl⟩⟩; refine ⟨_, rfl, ?_⟩))
      go_roundg k1
      case measure => have := HK1.out; omega
      case rel => exact ⟨(wrap64 (x7_1 + 1)), (by first | rfl | (simp; done) | (simp [*]; done)), H', ⟨by have := HK1.out; omega⟩, by repeat (first | exact Drawn0.refl _ | apply Drawn0.step)⟩

/-! ### grid_check: function 51 -/
def grid_check.f (k : Nat) (l0 : List Nat) : Option (Int) := if (l0.length : Int) = 0 then (some 100) else (if (l0.length : Int) > 1048576 then (some 100) else ((grid_numbers.f k l0).bind fun t103 => (some t103)))
set_option maxHeartbeats 8000000 in
set_option maxRecDepth 100000 in
theorem grid_check.calls (k : Nat) (A0 : Option Addr) (c0 : Nat) (l0 : List Nat) (r : Int) (w : World) (hr0 : Kd.C Kd.flt w A0 l0.length l0) (hc0 : l0.length ≤ c0) (h : grid_check.f k l0 = some r) :
    Calls Tryz.prog 51 #[.slice A0 l0.length c0] w fun e w' => e = .returned (.int .i64 r) ∧ Drawn0 w w' := by
  have HR0 := Aside0.mk hr0
  have HC0 := Aside0.mk hc0
  clear hr0 hc0
  have H : (if (l0.length : Int) = 0 then (some 100) else (if (l0.length : Int) > 1048576 then (some 100) else ((grid_numbers.f k l0).bind fun t103 => (some t103)))) = some r := h
  clear h
  by_cases c2 : (l0.length : Int) = 0
  · rw [if_pos c2] at H
    have c2b0 : ((l0.length : Int) == 0) = true := beq_iff_eq.mpr c2
    have c2b1 : ((l0.length : Int) != 0) = false := bne_eq_false_iff_eq.mpr c2
    clear c2
    obtain rfl := Option.some.inj H
    go_enter Tryz.func51, Tryz.ntmps51
    go_wp2
    go_ret
    exact ⟨sA, dA⟩
  · rw [if_neg c2] at H
    have c2b0 : ((l0.length : Int) == 0) = false := beq_eq_false_iff_ne.mpr c2
    have c2b1 : ((l0.length : Int) != 0) = true := bne_iff_ne.mpr c2
    have c2b2 : ¬ (l0 = []) := fun h_ => c2 (by rw [h_]; rfl)
    by_cases c3 : (l0.length : Int) > 1048576
    · rw [if_pos c3] at H
      have c3b0 : decide (1048576 < (l0.length : Int)) = true := decide_eq_true c3
      have c3b1 : decide (1048576 < l0.length) = true := decide_eq_true (by omega)
      clear c3
      obtain rfl := Option.some.inj H
      go_enter Tryz.func51, Tryz.ntmps51
      go_wp2
      go_ret
      exact ⟨sA, dA⟩
    · rw [if_neg c3] at H
      have c3b0 : decide (1048576 < (l0.length : Int)) = false := decide_eq_false c3
      have c3b1 : decide (1048576 < l0.length) = false := decide_eq_false (by omega)
      clear c3
      replace H := Option.bind_eq_some_iff.mp H
      obtain ⟨t103, A40, H⟩ := H
      have A4 := Aside0.mk A40
      clear A40
      obtain rfl := Option.some.inj H
      go_enter Tryz.func51, Tryz.ntmps51
      go_wp2_with (first | ((with_reducible refine gate_callee (f := 86) rfl ?_); refine goesL_ (some 12) rfl rfl Tryz.func86 (by kernel_rfl) rfl #[.slice A0 l0.length c0] rfl mA ?_; (with_reducible refine (grid_numbers.calls k _ _ l0 t103 _ ?side1 ?side2 A4.out).mono ?_); (case side1 => exact cA HR0.out); (case side2 => exact HC0.out); rintro e w' ⟨rfl, ⟨nd, rfl⟩⟩; refine ⟨_, rfl, ?_⟩))
      go_ret
      exact ⟨sA, dA⟩

/-! ### grid_Quantile: function 24 -/
def grid_Quantile.f (k : Nat) (l0 : List Nat) (a1 : Int) (a2 : Int) : Option (Nat × Int) := (grid_check.f k l0).bind fun t104 => (if t104 = 0 then (if a2 < 1 then (some ((0 : Nat), 1)) else (if a2 > 1000000 then (some ((0 : Nat), 1)) else (if a1 < 0 then (some ((0 : Nat), 1)) else (if a1 > a2 then (some ((0 : Nat), 1)) else (if a2 = 0 then (none) else ((ieee_Sort.f l0).bind fun t105 => (if 0 ≤ (wrap64 ((mx (wrap64 (Int.tdiv (wrap64 ((wrap64 ((wrap64 ((l0.length : Int) * a1)) + a2)) - 1)) a2)) 1) - 1)) then (if (wrap64 ((mx (wrap64 (Int.tdiv (wrap64 ((wrap64 ((wrap64 ((l0.length : Int) * a1)) + a2)) - 1)) a2)) 1) - 1)) < (t105.length : Int) then (some (rdOf (0 : Nat) t105 (wrap64 ((mx (wrap64 (Int.tdiv (wrap64 ((wrap64 ((wrap64 ((l0.length : Int) * a1)) + a2)) - 1)) a2)) 1) - 1)), 0)) else (none)) else (none)))))))) else (some ((0 : Nat), t104)))
set_option maxHeartbeats 8000000 in
set_option maxRecDepth 100000 in
theorem grid_Quantile.calls (k : Nat) (A0 : Option Addr) (c0 : Nat) (l0 : List Nat) (a1 : Int) (a2 : Int) (r1 : Nat) (r2 : Int) (w : World) (hr0 : Kd.C Kd.flt w A0 l0.length l0) (hc0 : l0.length ≤ c0) (h : grid_Quantile.f k l0 a1 a2 = some (r1, r2)) :
    Calls Tryz.prog 24 #[.slice A0 l0.length c0, .int .i64 a1, .int .i64 a2] w fun e w' => e = .returned (.tuple #[.float .f64 r1, .int .i64 r2]) ∧ Below w.heap.size w w' := by
  have HR0 := Aside0.mk hr0
  have HC0 := Aside0.mk hc0
  clear hr0 hc0
  have HB := Aside0.mk (Below.refl w.heap.size w)
  have H : ((grid_check.f k l0).bind fun t104 => (if t104 = 0 then (if a2 < 1 then (some ((0 : Nat), 1)) else (if a2 > 1000000 then (some ((0 : Nat), 1)) else (if a1 < 0 then (some ((0 : Nat), 1)) else (if a1 > a2 then (some ((0 : Nat), 1)) else (if a2 = 0 then (none) else ((ieee_Sort.f l0).bind fun t105 => (if 0 ≤ (wrap64 ((mx (wrap64 (Int.tdiv (wrap64 ((wrap64 ((wrap64 ((l0.length : Int) * a1)) + a2)) - 1)) a2)) 1) - 1)) then (if (wrap64 ((mx (wrap64 (Int.tdiv (wrap64 ((wrap64 ((wrap64 ((l0.length : Int) * a1)) + a2)) - 1)) a2)) 1) - 1)) < (t105.length : Int) then (some (rdOf (0 : Nat) t105 (wrap64 ((mx (wrap64 (Int.tdiv (wrap64 ((wrap64 ((wrap64 ((l0.length : Int) * a1)) + a2)) - 1)) a2)) 1) - 1)), 0)) else (none)) else (none)))))))) else (some ((0 : Nat), t104)))) = some (r1, r2) := h
  clear h
  replace H := Option.bind_eq_some_iff.mp H
  obtain ⟨t104, A40, H⟩ := H
  have A4 := Aside0.mk A40
  clear A40
  by_cases c5 : t104 = 0
  rotate_left
  · rw [if_neg c5] at H
    have c5b0 : (t104 == 0) = false := beq_eq_false_iff_ne.mpr c5
    have c5b1 : (t104 != 0) = true := bne_iff_ne.mpr c5
    simp only [Option.some.injEq, Prod.mk.injEq] at H
    obtain ⟨rfl, rfl⟩ := H
    go_enter Tryz.func24, Tryz.ntmps24
    go_wp2_with (first | ((with_reducible refine gate_callee (f := 51) rfl ?_); refine goesL_ (some 11) rfl rfl Tryz.func51 (by kernel_rfl) rfl #[.slice A0 l0.length c0] rfl mA ?_; (with_reducible refine (grid_check.calls k _ _ l0 t104 _ ?side1 ?side2 A4.out).mono ?_); (case side1 => exact cA HR0.out); (case side2 => exact HC0.out); rintro e w' ⟨rfl, ⟨nd, rfl⟩⟩; refine ⟨_, rfl, ?_⟩))
    go_ret2
    exact ⟨by first | rfl | (simp [errW_none, errW_some] <;> rfl) | (simp [*, errW_none, errW_some] <;> rfl), bA HB.out⟩
  rw [if_pos c5] at H
  have c5b0 : (t104 == 0) = true := beq_iff_eq.mpr c5
  have c5b1 : (t104 != 0) = false := bne_eq_false_iff_eq.mpr c5
  clear c5
  by_cases c6 : a2 < 1
  · rw [if_pos c6] at H
    have c6b0 : decide (a2 < 1) = true := decide_eq_true c6
    clear c6
    simp only [Option.some.injEq, Prod.mk.injEq] at H
    obtain ⟨rfl, rfl⟩ := H
    go_enter Tryz.func24, Tryz.ntmps24
    go_wp2_with (first | ((with_reducible refine gate_callee (f := 51) rfl ?_); refine goesL_ (some 11) rfl rfl Tryz.func51 (by kernel_rfl) rfl #[.slice A0 l0.length c0] rfl mA ?_; (with_reducible refine (grid_check.calls k _ _ l0 t104 _ ?side1 ?side2 A4.out).mono ?_); (case side1 => exact cA HR0.out); (case side2 => exact HC0.out); rintro e w' ⟨rfl, ⟨nd, rfl⟩⟩; refine ⟨_, rfl, ?_⟩))
    go_ret2
    exact ⟨by first | rfl | (simp [errW_none, errW_some] <;> rfl) | (simp [*, errW_none, errW_some] <;> rfl), bA HB.out⟩
  rw [if_neg c6] at H
  have c6b0 : decide (a2 < 1) = false := decide_eq_false c6
  clear c6
  by_cases c7 : a2 > 1000000
  · rw [if_pos c7] at H
    have c7b0 : decide (1000000 < a2) = true := decide_eq_true c7
    clear c7
    simp only [Option.some.injEq, Prod.mk.injEq] at H
    obtain ⟨rfl, rfl⟩ := H
    go_enter Tryz.func24, Tryz.ntmps24
    go_wp2_with (first | ((with_reducible refine gate_callee (f := 51) rfl ?_); refine goesL_ (some 11) rfl rfl Tryz.func51 (by kernel_rfl) rfl #[.slice A0 l0.length c0] rfl mA ?_; (with_reducible refine (grid_check.calls k _ _ l0 t104 _ ?side1 ?side2 A4.out).mono ?_); (case side1 => exact cA HR0.out); (case side2 => exact HC0.out); rintro e w' ⟨rfl, ⟨nd, rfl⟩⟩; refine ⟨_, rfl, ?_⟩))
    go_ret2
    exact ⟨by first | rfl | (simp [errW_none, errW_some] <;> rfl) | (simp [*, errW_none, errW_some] <;> rfl), bA HB.out⟩
  rw [if_neg c7] at H
  have c7b0 : decide (1000000 < a2) = false := decide_eq_false c7
  clear c7
  by_cases c8 : a1 < 0
  · rw [if_pos c8] at H
    have c8b0 : decide (a1 < 0) = true := decide_eq_true c8
    clear c8
    simp only [Option.some.injEq, Prod.mk.injEq] at H
    obtain ⟨rfl, rfl⟩ := H
    go_enter Tryz.func24, Tryz.ntmps24
    go_wp2_with (first | ((with_reducible refine gate_callee (f := 51) rfl ?_); refine goesL_ (some 11) rfl rfl Tryz.func51 (by kernel_rfl) rfl #[.slice A0 l0.length c0] rfl mA ?_; (with_reducible refine (grid_check.calls k _ _ l0 t104 _ ?side1 ?side2 A4.out).mono ?_); (case side1 => exact cA HR0.out); (case side2 => exact HC0.out); rintro e w' ⟨rfl, ⟨nd, rfl⟩⟩; refine ⟨_, rfl, ?_⟩))
    go_ret2
    exact ⟨by first | rfl | (simp [errW_none, errW_some] <;> rfl) | (simp [*, errW_none, errW_some] <;> rfl), bA HB.out⟩
  rw [if_neg c8] at H
  have c8b0 : decide (a1 < 0) = false := decide_eq_false c8
  clear c8
  by_cases c9 : a1 > a2
  · rw [if_pos c9] at H
    have c9b0 : decide (a2 < a1) = true := decide_eq_true c9
    clear c9
    simp only [Option.some.injEq, Prod.mk.injEq] at H
    obtain ⟨rfl, rfl⟩ := H
    go_enter Tryz.func24, Tryz.ntmps24
    go_wp2_with (first | ((with_reducible refine gate_callee (f := 51) rfl ?_); refine goesL_ (some 11) rfl rfl Tryz.func51 (by kernel_rfl) rfl #[.slice A0 l0.length c0] rfl mA ?_; (with_reducible refine (grid_check.calls k _ _ l0 t104 _ ?side1 ?side2 A4.out).mono ?_); (case side1 => exact cA HR0.out); (case side2 => exact HC0.out); rintro e w' ⟨rfl, ⟨nd, rfl⟩⟩; refine ⟨_, rfl, ?_⟩))
    go_ret2
    exact ⟨by first | rfl | (simp [errW_none, errW_some] <;> rfl) | (simp [*, errW_none, errW_some] <;> rfl), bA HB.out⟩
  rw [if_neg c9] at H
  have c9b0 : decide (a2 < a1) = false := decide_eq_false c9
  clear c9
  by_cases c10 : a2 = 0
  · rw [if_pos c10] at H
    exact absurd H (by simp)
  · rw [if_neg c10] at H
    have c10b0 : (a2 == 0) = false := beq_eq_false_iff_ne.mpr c10
    have c10b1 : (a2 != 0) = true := bne_iff_ne.mpr c10
    obtain ⟨ji11, hji11⟩ : ∃ j_ : Int, (mx (wrap64 (Int.tdiv (wrap64 ((wrap64 ((wrap64 ((l0.length : Int) * a1)) + a2)) - 1)) a2)) 1) = j_ := ⟨_, rfl⟩
    replace H : ((ieee_Sort.f l0).bind fun t105 => (if 0 ≤ (wrap64 ((ji11) - 1)) then (if (wrap64 ((ji11) - 1)) < (t105.length : Int) then (some (rdOf (0 : Nat) t105 (wrap64 ((ji11) - 1)), 0)) else (none)) else (none))) = some (r1, r2) := by first | (rw [hji11] at H; exact H) | (simp only [hji11] at H ⊢; exact H)
    (try rw [hji11] at A4)
    (try (have hji11l : 1 ≤ ji11 := by (rw [← hji11]; unfold mx; (repeat' split) <;> omega)))
    (try (have hji11m : 0 ≤ ji11 := by omega))
    have hji11_ : (if (wrap64 (Int.tdiv (wrap64 ((wrap64 ((wrap64 ((l0.length : Int) * a1)) + a2)) - 1)) a2)) < 1 then 1 else (wrap64 (Int.tdiv (wrap64 ((wrap64 ((wrap64 ((l0.length : Int) * a1)) + a2)) - 1)) a2))) = ji11 := hji11
    replace H := Option.bind_eq_some_iff.mp H
    obtain ⟨t105, A120, H⟩ := H
    have A12 := Aside0.mk A120
    clear A120
    obtain ⟨ji13, hji13⟩ : ∃ j_ : Int, (wrap64 ((ji11) - 1)) = j_ := ⟨_, rfl⟩
    replace H : (if 0 ≤ (ji13) then (if (ji13) < (t105.length : Int) then (some (rdOf (0 : Nat) t105 (ji13), 0)) else (none)) else (none)) = some (r1, r2) := by first | (rw [hji13] at H; exact H) | (simp only [hji13] at H ⊢; exact H)
    (try rw [hji13] at A4)
    (try rw [hji13] at A12)
    have hji13w : (IntKind.i64.wrap ((ji11) - 1)) = ji13 := (i64_w _).trans hji13
    by_cases c14 : 0 ≤ (ji13)
    rotate_left
    · rw [if_neg c14] at H
      exact absurd H (by simp)
    rw [if_pos c14] at H
    have c14b0 : decide (0 ≤ (ji13)) = true := decide_eq_true c14
    clear c14
    by_cases c15 : (ji13) < (t105.length : Int)
    rotate_left
    · rw [if_neg c15] at H
      exact absurd H (by simp)
    rw [if_pos c15] at H
    have c15b0 : decide ((ji13) < (t105.length : Int)) = true := decide_eq_true c15
    clear c15
    simp only [Option.some.injEq, Prod.mk.injEq] at H
    obtain ⟨rfl, rfl⟩ := H
    go_enter Tryz.func24, Tryz.ntmps24
    go_wp2_with (first | ((with_reducible refine gate_callee (f := 51) rfl ?_); refine goesL_ (some 11) rfl rfl Tryz.func51 (by kernel_rfl) rfl #[.slice A0 l0.length c0] rfl mA ?_; (with_reducible refine (grid_check.calls k _ _ l0 t104 _ ?side1 ?side2 A4.out).mono ?_); (case side1 => exact cA HR0.out); (case side2 => exact HC0.out); rintro e w' ⟨rfl, ⟨nd, rfl⟩⟩; refine ⟨_, rfl, ?_⟩) | ((with_reducible refine gate_callee (f := 52) rfl ?_); refine goesL_ (some 41) rfl rfl Tryz.func52 (by kernel_rfl) rfl #[.slice A0 l0.length c0] rfl mA ?_; (with_reducible refine (ieee_Sort.calls _ _ l0 t105 _ ?side1 ?side2 A12.out).mono ?_); (case side1 => exact cA HR0.out); (case side2 => exact HC0.out); rintro e w16 ⟨v106, rfl, ho0, hb⟩; refine ⟨_, rfl, ?_⟩; have n0_ := Aside0.mk (Kd.R_lower ho0 (below_size (bA HB.out))); have n1_ := Aside0.mk (below_step (bA HB.out) hb); clear HB; have HO107 := n0_; have HB := n1_; clear n0_ n1_; (try clear hb); (try clear hb2); (try clear hk); (try clear hi); (try clear ho0); obtain ⟨Ao17, co17, eo17⟩ := Kd.R_slice HO107.out; subst eo17; have p108 : 0 ≤ ((ji13) : Int) := of_decide_eq_true asA; have q108 : (ji13) < (t105.length : Int) := of_decide_eq_true asA; obtain ⟨ad108, e108, hx108_0⟩ := Kd.at_flt (Kd.R_reads' HO107.out).2.2 (ji13) p108 q108; cases e108; replace p108 := eq_true p108; replace q108 := eq_true q108))
    go_ret2
    exact ⟨by first | rfl | (simp [errW_none, errW_some] <;> rfl) | (simp only [← hji11, ← hji13]; first | rfl | (simp [errW_none, errW_some] <;> rfl)) | (simp [*, errW_none, errW_some] <;> rfl), bA HB.out⟩

/-! ### grid_Worst: function 26 -/
def grid_Worst.l0 : Nat → List Nat → Int → List Nat → Int → Int → Option (Int × Int)
  | 0, _, _, _, _, _ => none
  | k + 1, x0, x5, x13, x14, x15 => if x15 < x14 then (if 0 ≤ x15 then (if x15 < (x13.length : Int) then (if 0 ≤ x5 then (if x5 < (x0.length : Int) then ((ieee_Less.f (rdOf (0 : Nat) x13 x15) (rdOf (0 : Nat) x0 x5)).bind fun t112 => (if t112 = true then (grid_Worst.l0 k x0 x15 x13 x14 (wrap64 (x15 + 1))) else (grid_Worst.l0 k x0 x5 x13 x14 (wrap64 (x15 + 1))))) else (none)) else (none)) else (none)) else (none)) else (some (x5, 0))
def grid_Worst.f (k : Nat) (l0 : List Nat) : Option (Int × Int) := (grid_check.f k l0).bind fun t109 => (if t109 = 0 then (grid_Worst.l0 k l0 0 l0 (l0.length : Int) 0) else (some (0, t109)))
set_option maxHeartbeats 8000000 in
set_option maxRecDepth 100000 in
theorem grid_Worst.calls (k : Nat) (A0 : Option Addr) (c0 : Nat) (l0 : List Nat) (r1 : Int) (r2 : Int) (w : World) (hr0 : Kd.C Kd.flt w A0 l0.length l0) (hc0 : l0.length ≤ c0) (h : grid_Worst.f k l0 = some (r1, r2)) :
    Calls Tryz.prog 26 #[.slice A0 l0.length c0] w fun e w' => e = .returned (.tuple #[.int .i64 r1, .int .i64 r2]) ∧ Drawn0 w w' := by
  have HR0 := Aside0.mk hr0
  have HC0 := Aside0.mk hc0
  clear hr0 hc0
  have H : ((grid_check.f k l0).bind fun t109 => (if t109 = 0 then (grid_Worst.l0 k l0 0 l0 (l0.length : Int) 0) else (some (0, t109)))) = some (r1, r2) := h
  clear h
  replace H := Option.bind_eq_some_iff.mp H
  obtain ⟨t109, A20, H⟩ := H
  have A2 := Aside0.mk A20
  clear A20
  by_cases c3 : t109 = 0
  rotate_left
  · rw [if_neg c3] at H
    have c3b0 : (t109 == 0) = false := beq_eq_false_iff_ne.mpr c3
    have c3b1 : (t109 != 0) = true := bne_iff_ne.mpr c3
    simp only [Option.some.injEq, Prod.mk.injEq] at H
    obtain ⟨rfl, rfl⟩ := H
    go_enter Tryz.func26, Tryz.ntmps26
    go_wp2_with (first | ((with_reducible refine gate_callee (f := 51) rfl ?_); refine goesL_ (some 9) rfl rfl Tryz.func51 (by kernel_rfl) rfl #[.slice A0 l0.length c0] rfl mA ?_; (with_reducible refine (grid_check.calls k _ _ l0 t109 _ ?side1 ?side2 A2.out).mono ?_); (case side1 => exact cA HR0.out); (case side2 => exact HC0.out); rintro e w' ⟨rfl, ⟨nd, rfl⟩⟩; refine ⟨_, rfl, ?_⟩))
    go_ret2
    exact ⟨sA, dA⟩
  rw [if_pos c3] at H
  have c3b0 : (t109 == 0) = true := beq_iff_eq.mpr c3
  have c3b1 : (t109 != 0) = false := bne_eq_false_iff_eq.mpr c3
  clear c3
  have H' := Aside0.mk H
  clear H
  go_enter Tryz.func26, Tryz.ntmps26
  go_wp2_with (first | ((with_reducible refine gate_callee (f := 51) rfl ?_); refine goesL_ (some 9) rfl rfl Tryz.func51 (by kernel_rfl) rfl #[.slice A0 l0.length c0] rfl mA ?_; (with_reducible refine (grid_check.calls k _ _ l0 t109 _ ?side1 ?side2 A2.out).mono ?_); (case side1 => exact cA HR0.out); (case side2 => exact HC0.out); rintro e w' ⟨rfl, ⟨nd, rfl⟩⟩; refine ⟨_, rfl, ?_⟩))
  go_loopg [5, 15] k (fun kq v5 v15 w' => ∃ (x5_1 : Int) (x15_1 : Int), v5 = .int .i64 x5_1 ∧ v15 = .int .i64 x15_1 ∧ Aside0 (grid_Worst.l0 kq l0 x5_1 l0 (l0.length : Int) x15_1 = some (r1, r2)) ∧ Aside0 (kq ≤ k) ∧ Drawn0 w w')
  case atStart => exact ⟨(0), (0), (by first | rfl | (simp; done) | (simp [*]; done)), (by first | rfl | (simp; done) | (simp [*]; done)), H', ⟨Nat.le_refl _⟩, by repeat (first | exact Drawn0.refl _ | apply Drawn0.step)⟩
  case round =>
    clear H'
    try clear c2
    try clear p2
    try clear c3
    try clear c3b0
    try clear c3b1
    obtain ⟨x5_1, x15_1, rfl, rfl, HA, HK1, ⟨m1, rfl⟩⟩ := hrel
    cases gk with
    | zero => exact absurd HA.out (by simp [grid_Worst.l0])
    | succ k1 =>
      have H := HA.out
      clear HA
      simp only [grid_Worst.l0] at H
      by_cases c4 : x15_1 < (l0.length : Int)
      rotate_left
      · rw [if_neg c4] at H
        have c4b0 : decide (x15_1 < (l0.length : Int)) = false := decide_eq_false c4
        clear c4
        simp only [Option.some.injEq, Prod.mk.injEq] at H
        obtain ⟨rfl, rfl⟩ := H
        go_wp2
        go_ret2
        exact ⟨sA, dA⟩
      rw [if_pos c4] at H
      have c4b0 : decide (x15_1 < (l0.length : Int)) = true := decide_eq_true c4
      clear c4
      by_cases c5 : 0 ≤ x15_1
      rotate_left
      · rw [if_neg c5] at H
        exact absurd H (by simp)
      rw [if_pos c5] at H
      have c5b0 : decide (0 ≤ x15_1) = true := decide_eq_true c5
      clear c5
      by_cases c6 : x15_1 < (l0.length : Int)
      rotate_left
      · rw [if_neg c6] at H
        exact absurd H (by simp)
      rw [if_pos c6] at H
      have c6b0 : decide (x15_1 < (l0.length : Int)) = true := decide_eq_true c6
      clear c6
      by_cases c7 : 0 ≤ x5_1
      rotate_left
      · rw [if_neg c7] at H
        exact absurd H (by simp)
      rw [if_pos c7] at H
      have c7b0 : decide (0 ≤ x5_1) = true := decide_eq_true c7
      clear c7
      by_cases c8 : x5_1 < (l0.length : Int)
      rotate_left
      · rw [if_neg c8] at H
        exact absurd H (by simp)
      rw [if_pos c8] at H
      have c8b0 : decide (x5_1 < (l0.length : Int)) = true := decide_eq_true c8
      clear c8
      replace H := Option.bind_eq_some_iff.mp H
      obtain ⟨t112, A90, H⟩ := H
      have A9 := Aside0.mk A90
      clear A90
      by_cases c10 : t112 = true
      · subst c10
        have H1 : (grid_Worst.l0 k1 l0 x15_1 l0 (l0.length : Int) (wrap64 (x15_1 + 1))) = some (r1, r2) := by rw [if_pos rfl] at H; exact H
        clear H
        have H := H1
        clear H1
        have H' := Aside0.mk H
        clear H
        have p110 : 0 ≤ (x15_1 : Int) := of_decide_eq_true asA
        have q110 : x15_1 < (l0.length : Int) := of_decide_eq_true asA
        obtain ⟨ad110, e110, hx110_0⟩ := Kd.at_flt HR0.out x15_1 p110 q110
        cases e110
        replace p110 := eq_true p110
        replace q110 := eq_true q110
        have p111 : 0 ≤ (x5_1 : Int) := of_decide_eq_true asA
        have q111 : x5_1 < (l0.length : Int) := of_decide_eq_true asA
        obtain ⟨ad111, e111, hx111_0⟩ := Kd.at_flt HR0.out x5_1 p111 q111
        obtain rfl : ad110 = ad111 := (by injection e111)
        replace p111 := eq_true p111
        replace q111 := eq_true q111
        go_wp2_with (first | ((with_reducible refine gate_callee (f := 55) rfl ?_); refine goesL_ (some 25) rfl rfl Tryz.func55 (by kernel_rfl) rfl #[.float .f64 (rdOf (0 : Nat) l0 x15_1), .float .f64 (rdOf (0 : Nat) l0 x5_1)] rfl mA ?_; (with_reducible refine (ieee_Less.calls (rdOf (0 : Nat) l0 x15_1) (rdOf (0 : Nat) l0 x5_1) true _ A9.out).mono ?_); rintro e w' ⟨rfl, ⟨nd, rfl⟩⟩; refine ⟨_, rfl, ?_⟩))
        go_roundg k1
        case measure => have := HK1.out; omega
        case rel => exact ⟨(x15_1), (wrap64 (x15_1 + 1)), (by first | rfl | (simp; done) | (simp [*]; done)), (by first | rfl | (simp; done) | (simp [*]; done)), H', ⟨by have := HK1.out; omega⟩, by repeat (first | exact Drawn0.refl _ | apply Drawn0.step)⟩
      replace c10 := Bool.eq_false_iff.mpr c10
      subst c10
      have H1 : (grid_Worst.l0 k1 l0 x5_1 l0 (l0.length : Int) (wrap64 (x15_1 + 1))) = some (r1, r2) := by rw [if_neg (show ¬ (false = true) by decide)] at H; exact H
      clear H
      have H := H1
      clear H1
      have H' := Aside0.mk H
      clear H
      have p110 : 0 ≤ (x15_1 : Int) := of_decide_eq_true asA
      have q110 : x15_1 < (l0.length : Int) := of_decide_eq_true asA
      obtain ⟨ad110, e110, hx110_0⟩ := Kd.at_flt HR0.out x15_1 p110 q110
      cases e110
      replace p110 := eq_true p110
      replace q110 := eq_true q110
      have p111 : 0 ≤ (x5_1 : Int) := of_decide_eq_true asA
      have q111 : x5_1 < (l0.length : Int) := of_decide_eq_true asA
      obtain ⟨ad111, e111, hx111_0⟩ := Kd.at_flt HR0.out x5_1 p111 q111
      obtain rfl : ad110 = ad111 := (by injection e111)
      replace p111 := eq_true p111
      replace q111 := eq_true q111
      go_wp2_with (first | ((with_reducible refine gate_callee (f := 55) rfl ?_); refine goesL_ (some 25) rfl rfl Tryz.func55 (by kernel_rfl) rfl #[.float .f64 (rdOf (0 : Nat) l0 x15_1), .float .f64 (rdOf (0 : Nat) l0 x5_1)] rfl mA ?_; (with_reducible refine (ieee_Less.calls (rdOf (0 : Nat) l0 x15_1) (rdOf (0 : Nat) l0 x5_1) false _ A9.out).mono ?_); rintro e w' ⟨rfl, ⟨nd, rfl⟩⟩; refine ⟨_, rfl, ?_⟩))
      go_roundg k1
      case measure => have := HK1.out; omega
      case rel => exact ⟨(x5_1), (wrap64 (x15_1 + 1)), (by first | rfl | (simp; done) | (simp [*]; done)), (by first | rfl | (simp; done) | (simp [*]; done)), H', ⟨by have := HK1.out; omega⟩, by repeat (first | exact Drawn0.refl _ | apply Drawn0.step)⟩

end Go.Proofs.YtepcegiciecogaaGreat.FG
