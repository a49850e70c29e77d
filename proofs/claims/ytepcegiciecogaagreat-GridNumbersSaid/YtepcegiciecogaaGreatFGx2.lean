/- Written by the session's fprint.py out of the translation. -/
import Derived.Test.YtepcegiciecogaaGreatFGx0
import Derived.Test.YtepcegiciecogaaGreatFGx1
namespace Go.Proofs.YtepcegiciecogaaGreat.FG
open Go.RowKit Go.Proofs.YtepcegiciecogaaGreatW.PrintWords Go.Proofs.YtepcegiciecogaaGreatW.PrintLast Go.Proofs.YtepcegiciecogaaGreatW.PrintMore
attribute [local go_sem] max2_int min2_int max_two min_two max_three min_three max_four min_four   -- for this text's walks alone
open Go.Proofs.YtepcegiciecogaaGreat.FX
attribute [local go_sem] run_store_float run_neg_float run_fmul isSome_setCell 
set_option linter.unusedVariables false
set_option linter.unusedSimpArgs false

/-! ### grid_Count: function 50 -/
mutual
def grid_Count.j0 : Nat → List Nat → List Nat → Bool → Option (List Int × Int)
  | 0, _, _, _ => none
  | k + 1, x0, x1, x23 => if x23 = true then (some (([] : List Int), 100)) else ((grid_numbers.f k x1).bind fun t113 => (if t113 = 0 then ((grid_numbers.f k x0).bind fun t114 => (grid_Count.j1 k x0 x1 (t114 != 0))) else (grid_Count.j1 k x0 x1 true)))
def grid_Count.j1 : Nat → List Nat → List Nat → Bool → Option (List Int × Int)
  | 0, _, _, _ => none
  | k + 1, x0, x1, x31 => if x31 = true then (some (([] : List Int), 91)) else (grid_Count.l0 k x0 x1 (wrap64 ((x1.length : Int) - 1)) 0)
def grid_Count.l0 : Nat → List Nat → List Nat → Int → Int → Option (List Int × Int)
  | 0, _, _, _, _ => none
  | k + 1, x0, x1, x34, x35 => if x35 < x34 then (if 0 ≤ (wrap64 (x35 + 1)) then (if (wrap64 (x35 + 1)) < (x1.length : Int) then (if 0 ≤ x35 then (if x35 < (x1.length : Int) then (if ((FloatKind.f64.format.order (rdOf (0 : Nat) x1 (wrap64 (x35 + 1))) (rdOf (0 : Nat) x1 x35) == some .gt) = true) then (grid_Count.l0 k x0 x1 x34 (wrap64 (x35 + 1))) else (some (([] : List Int), 1))) else (none)) else (none)) else (none)) else (none)) else (if 0 ≤ (wrap64 ((x1.length : Int) + 1)) then (if (wrap64 ((x1.length : Int) + 1) : Int).toNat ≤ 35184372088832 then (grid_Count.l1 k x1 (List.replicate (wrap64 ((x1.length : Int) + 1) : Int).toNat 0) x0 (x0.length : Int) 0) else (none)) else (none))
def grid_Count.l1 : Nat → List Nat → List Int → List Nat → Int → Int → Option (List Int × Int)
  | 0, _, _, _, _, _ => none
  | k + 1, x1, x7, x54, x55, x56 => if x56 < x55 then (if 0 ≤ x56 then (if x56 < (x54.length : Int) then (grid_Count.l2 k x1 x7 (rdOf (0 : Nat) x54 x56) 0 (x1.length : Int) x54 x55 x56) else (none)) else (none)) else (some (x7, 0))
def grid_Count.l2 : Nat → List Nat → List Int → Nat → Int → Int → List Nat → Int → Int → Option (List Int × Int)
  | 0, _, _, _, _, _, _, _, _ => none
  | k + 1, x1, x7, x9, x10, x11, x54, x55, x56 => if x10 = x11 then (if 0 ≤ x10 then (if x10 < (x7.length : Int) then (grid_Count.l1 k x1 (x7.set (x10 : Int).toNat (wrap64 ((rd x7 x10) + 1))) x54 x55 (wrap64 (x56 + 1))) else (none)) else (none)) else (if 0 ≤ (wrap64 (Int.tdiv (wrap64 (x10 + x11)) 2)) then (if (wrap64 (Int.tdiv (wrap64 (x10 + x11)) 2)) < (x1.length : Int) then (if (FloatKind.f64.format.order (rdOf (0 : Nat) x1 (wrap64 (Int.tdiv (wrap64 (x10 + x11)) 2))) x9 == some .lt || FloatKind.f64.format.order (rdOf (0 : Nat) x1 (wrap64 (Int.tdiv (wrap64 (x10 + x11)) 2))) x9 == some .eq) = true then (grid_Count.l2 k x1 x7 x9 (wrap64 ((wrap64 (Int.tdiv (wrap64 (x10 + x11)) 2)) + 1)) x11 x54 x55 x56) else (grid_Count.l2 k x1 x7 x9 x10 (wrap64 (Int.tdiv (wrap64 (x10 + x11)) 2)) x54 x55 x56)) else (none)) else (none))
end
def grid_Count.f (k : Nat) (l0 : List Nat) (l1 : List Nat) : Option (List Int × Int) := if (l1.length : Int) > 256 then (some (([] : List Int), 2)) else (if (l1.length : Int) = 0 then (grid_Count.j0 k l0 l1 true) else (grid_Count.j0 k l0 l1 (decide ((l0.length : Int) > 1048576))))
theorem noGoto_normal {Q : Exit → Act → World → Prop} {a : Act} {w : World} (h : Q .normal a w) : Exit.noGoto Q .normal a w := h
set_option maxHeartbeats 8000000 in
set_option maxRecDepth 100000 in
theorem grid_Count.calls (k : Nat) (A0 : Option Addr) (c0 : Nat) (l0 : List Nat) (A1 : Option Addr) (c1 : Nat) (l1 : List Nat) (r1 : List Int) (r2 : Int) (w : World) (hr0 : Kd.C Kd.flt w A0 l0.length l0) (hc0 : l0.length ≤ c0) (hr1 : Kd.C Kd.flt w A1 l1.length l1) (hc1 : l1.length ≤ c1) (h : grid_Count.f k l0 l1 = some (r1, r2)) :
    Calls Tryz.prog 50 #[.slice A0 l0.length c0, .slice A1 l1.length c1] w fun e w' => ∃ v0_ : Value, e = .returned (.tuple #[v0_, .int .i64 r2]) ∧ Kd.R (Kd.int .i64) 3 w' w.heap.size (fun _ => True) v0_ r1 ∧ Below w.heap.size w w' := by
  have HR0 := Aside0.mk hr0
  have HC0 := Aside0.mk hc0
  clear hr0 hc0
  have HR1 := Aside0.mk hr1
  have HC1 := Aside0.mk hc1
  clear hr1 hc1
  have HB := Aside0.mk (Below.refl w.heap.size w)
  have H : (if (l1.length : Int) > 256 then (some (([] : List Int), 2)) else (if (l1.length : Int) = 0 then (grid_Count.j0 k l0 l1 true) else (grid_Count.j0 k l0 l1 (decide ((l0.length : Int) > 1048576))))) = some (r1, r2) := h
  clear h
  by_cases c3 : (l1.length : Int) > 256
  · rw [if_pos c3] at H
    have c3b0 : decide (256 < (l1.length : Int)) = true := decide_eq_true c3
    have c3b1 : decide (256 < l1.length) = true := decide_eq_true (by omega)
    clear c3
    simp only [Option.some.injEq, Prod.mk.injEq] at H
    obtain ⟨rfl, rfl⟩ := H
    go_enter Tryz.func50, Tryz.ntmps50
    go_wp2
    repeat (go_quiet (fail); try go_wp2)
    go_ret2
    exact ⟨_, by first | rfl | (simp [errW_none, errW_some] <;> rfl) | (simp [*, errW_none, errW_some] <;> rfl), by first | exact Kd.R_nil _ _ _ _ _ | exact Kd.N_nil _ _ _ _ _ | exact Kd.V_nil _ _ _ _ _ | exact Kd.Q_nil _ _ _ _ _ | exact Kd.S_nil _ _ _ _ _, bA HB.out⟩
  rw [if_neg c3] at H
  have c3b0 : decide (256 < (l1.length : Int)) = false := decide_eq_false c3
  have c3b1 : decide (256 < l1.length) = false := decide_eq_false (by omega)
  clear c3
  have HC4 := Aside0.mk H
  clear H
  go_enter Tryz.func50, Tryz.ntmps50
  go_upto_region 3 with (fail)
  repeat (go_quiet (fail); go_upto_region 3 with (fail))
  go_cut [23] (fun v23 wc => ∃ (kq : Nat) (x23_3 : Bool), v23 = .bool x23_3 ∧ Aside0 (grid_Count.j0 kq l0 l1 x23_3 = some (r1, r2)) ∧ Aside0 (kq ≤ k) ∧ Aside0 (Below w.heap.size w wc))
  case first =>
    have H := HC4.out
    clear HC4
    by_cases c5 : (l1.length : Int) = 0
    · rw [if_pos c5] at H
      have c5b0 : ((l1.length : Int) == 0) = true := beq_iff_eq.mpr c5
      have c5b1 : ((l1.length : Int) != 0) = false := bne_eq_false_iff_eq.mpr c5
      clear c5
      (first | rw [c5b0] | (simp only [i64_w, i32_w]; rw [c5b0]) | skip)
      have H' := Aside0.mk H
      clear H
      go_wp2
      repeat (go_quiet (fail); try go_wp2)
      go_meet
      case rel => exact ⟨_, (true), (by first | rfl | (simp; done) | (simp [*]; done)), H', ⟨by first | omega | exact Nat.le_refl _⟩, ⟨bA HB.out⟩⟩
    rw [if_neg c5] at H
    have c5b0 : ((l1.length : Int) == 0) = false := beq_eq_false_iff_ne.mpr c5
    have c5b1 : ((l1.length : Int) != 0) = true := bne_iff_ne.mpr c5
    have c5b2 : ¬ (l1 = []) := fun h_ => c5 (by rw [h_]; rfl)
    (first | rw [c5b0] | (simp only [i64_w, i32_w]; rw [c5b0]) | skip)
    have H' := Aside0.mk H
    clear H
    go_wp2
    repeat (go_quiet (fail); try go_wp2)
    go_meet
    case rel => exact ⟨_, (decide ((l0.length : Int) > 1048576)), (by first | rfl | (simp; done) | (simp [*]; done)), H', ⟨by first | omega | exact Nat.le_refl _⟩, ⟨bA HB.out⟩⟩
  case rest =>
    clear HC4
    try clear c1
    try clear p2
    try clear c3
    try clear c3b0
    try clear c3b1
    try clear c5
    try clear c5b0
    try clear c5b1
    try clear c5b2
    obtain ⟨kq, x23_3, rfl, HA, HJ3, HB⟩ := hcut
    cases kq with
    | zero => exact absurd HA.out (by simp [grid_Count.j0])
    | succ kj3 =>
      have H := HA.out
      clear HA
      simp only [grid_Count.j0] at H
      by_cases c6 : x23_3 = true
      · subst c6
        have H1 : (some (([] : List Int), 100)) = some (r1, r2) := by rw [if_pos rfl] at H; exact H
        clear H
        have H := H1
        clear H1
        simp only [Option.some.injEq, Prod.mk.injEq] at H
        obtain ⟨rfl, rfl⟩ := H
        go_wp2
        repeat (go_quiet (fail); try go_wp2)
        go_ret2
        exact ⟨_, by first | rfl | (simp [errW_none, errW_some] <;> rfl) | (simp [*, errW_none, errW_some] <;> rfl), by first | exact Kd.R_nil _ _ _ _ _ | exact Kd.N_nil _ _ _ _ _ | exact Kd.V_nil _ _ _ _ _ | exact Kd.Q_nil _ _ _ _ _ | exact Kd.S_nil _ _ _ _ _, bA HB.out⟩
      replace c6 := Bool.eq_false_iff.mpr c6
      subst c6
      have H1 : ((grid_numbers.f kj3 l1).bind fun t113 => (if t113 = 0 then ((grid_numbers.f kj3 l0).bind fun t114 => (grid_Count.j1 kj3 l0 l1 (t114 != 0))) else (grid_Count.j1 kj3 l0 l1 true))) = some (r1, r2) := by rw [if_neg (show ¬ (false = true) by decide)] at H; exact H
      clear H
      have H := H1
      clear H1
      have HC7 := Aside0.mk H
      clear H
      go_upto_region 5 with (fail)
      repeat (go_quiet (fail); go_upto_region 5 with (fail))
      go_cut [31] (fun v31 wc => ∃ (kq : Nat) (x31_6 : Bool), v31 = .bool x31_6 ∧ Aside0 (grid_Count.j1 kq l0 l1 x31_6 = some (r1, r2)) ∧ Aside0 (kq ≤ kj3) ∧ Aside0 (Below w.heap.size w wc))
      case first =>
        have H := HC7.out
        clear HC7
        replace H := Option.bind_eq_some_iff.mp H
        obtain ⟨t113, A80, H⟩ := H
        have A8 := Aside0.mk A80
        clear A80
        by_cases c9 : t113 = 0
        rotate_left
        · rw [if_neg c9] at H
          have c9b0 : (t113 == 0) = false := beq_eq_false_iff_ne.mpr c9
          have c9b1 : (t113 != 0) = true := bne_iff_ne.mpr c9
          (first | rw [c9b0] | (simp only [i64_w, i32_w]; rw [c9b0]) | skip)
          have H' := Aside0.mk H
          clear H
          go_wp2_with (first | (go_at_call 86; (with_reducible refine (grid_numbers.calls kj3 _ _ l1 t113 _ ?side1 ?side2 A8.out).mono ?_); (case side1 => exact cA (Kd.C_below HR1.out HB.out)); (case side2 => exact HC1.out); rintro e w' ⟨rfl, ⟨nd, rfl⟩⟩; (try exact ddA)))
          repeat (go_quiet (first | (go_at_call 86; (with_reducible refine (grid_numbers.calls kj3 _ _ l1 t113 _ ?side1 ?side2 A8.out).mono ?_); (case side1 => exact cA (Kd.C_below HR1.out HB.out)); (case side2 => exact HC1.out); rintro e w' ⟨rfl, ⟨nd, rfl⟩⟩; (try exact ddA))); try go_wp2_with (first | (go_at_call 86; (with_reducible refine (grid_numbers.calls kj3 _ _ l1 t113 _ ?side1 ?side2 A8.out).mono ?_); (case side1 => exact cA (Kd.C_below HR1.out HB.out)); (case side2 => exact HC1.out); rintro e w' ⟨rfl, ⟨nd, rfl⟩⟩; (try exact ddA))))
          go_meet
          case rel => exact ⟨_, (true), (by first | rfl | (simp; done) | (simp [*]; done)), H', ⟨by have := HJ3.out; first | omega | exact Nat.le_refl _⟩, ⟨bA HB.out⟩⟩
        rw [if_pos c9] at H
        have c9b0 : (t113 == 0) = true := beq_iff_eq.mpr c9
        have c9b1 : (t113 != 0) = false := bne_eq_false_iff_eq.mpr c9
        clear c9
        (first | rw [c9b0] | (simp only [i64_w, i32_w]; rw [c9b0]) | skip)
        replace H := Option.bind_eq_some_iff.mp H
        obtain ⟨t114, A100, H⟩ := H
        have A10 := Aside0.mk A100
        clear A100
        have H' := Aside0.mk H
        clear H
        go_wp2_with (first | (go_at_call 86; (with_reducible refine (grid_numbers.calls kj3 _ _ l1 t113 _ ?side1 ?side2 A8.out).mono ?_); (case side1 => exact cA (Kd.C_below HR1.out HB.out)); (case side2 => exact HC1.out); rintro e w' ⟨rfl, ⟨nd, rfl⟩⟩; (try exact ddA)) | (go_at_call 86; (with_reducible refine (grid_numbers.calls kj3 _ _ l0 t114 _ ?side1 ?side2 A10.out).mono ?_); (case side1 => exact cA (Kd.C_below HR0.out (bA HB.out))); (case side2 => exact HC0.out); rintro e w' ⟨rfl, ⟨nd, rfl⟩⟩; (try exact ddA)))
        repeat (go_quiet (first | (go_at_call 86; (with_reducible refine (grid_numbers.calls kj3 _ _ l1 t113 _ ?side1 ?side2 A8.out).mono ?_); (case side1 => exact cA (Kd.C_below HR1.out HB.out)); (case side2 => exact HC1.out); rintro e w' ⟨rfl, ⟨nd, rfl⟩⟩; (try exact ddA)) | (go_at_call 86; (with_reducible refine (grid_numbers.calls kj3 _ _ l0 t114 _ ?side1 ?side2 A10.out).mono ?_); (case side1 => exact cA (Kd.C_below HR0.out (bA HB.out))); (case side2 => exact HC0.out); rintro e w' ⟨rfl, ⟨nd, rfl⟩⟩; (try exact ddA))); try go_wp2_with (first | (go_at_call 86; (with_reducible refine (grid_numbers.calls kj3 _ _ l1 t113 _ ?side1 ?side2 A8.out).mono ?_); (case side1 => exact cA (Kd.C_below HR1.out HB.out)); (case side2 => exact HC1.out); rintro e w' ⟨rfl, ⟨nd, rfl⟩⟩; (try exact ddA)) | (go_at_call 86; (with_reducible refine (grid_numbers.calls kj3 _ _ l0 t114 _ ?side1 ?side2 A10.out).mono ?_); (case side1 => exact cA (Kd.C_below HR0.out (bA HB.out))); (case side2 => exact HC0.out); rintro e w' ⟨rfl, ⟨nd, rfl⟩⟩; (try exact ddA))))
        go_meet
        case rel => exact ⟨_, ((t114 != 0)), (by first | rfl | (simp; done) | (simp [*]; done)), H', ⟨by have := HJ3.out; first | omega | exact Nat.le_refl _⟩, ⟨bA HB.out⟩⟩
      case rest =>
        clear HC7
        try clear c1
        try clear p2
        try clear c3
        try clear c3b0
        try clear c3b1
        try clear c5
        try clear c5b0
        try clear c5b1
        try clear c5b2
        try clear c6
        try clear c9
        try clear c9b0
        try clear c9b1
        try clear p2
        obtain ⟨kq, x31_6, rfl, HA, HJ6, HB⟩ := hcut
        cases kq with
        | zero => exact absurd HA.out (by simp [grid_Count.j1])
        | succ kj6 =>
          have H := HA.out
          clear HA
          simp only [grid_Count.j1] at H
          by_cases c11 : x31_6 = true
          · subst c11
            have H1 : (some (([] : List Int), 91)) = some (r1, r2) := by rw [if_pos rfl] at H; exact H
            clear H
            have H := H1
            clear H1
            simp only [Option.some.injEq, Prod.mk.injEq] at H
            obtain ⟨rfl, rfl⟩ := H
            go_wp2
            repeat (go_quiet (fail); try go_wp2)
            go_ret2
            exact ⟨_, by first | rfl | (simp [errW_none, errW_some] <;> rfl) | (simp [*, errW_none, errW_some] <;> rfl), by first | exact Kd.R_nil _ _ _ _ _ | exact Kd.N_nil _ _ _ _ _ | exact Kd.V_nil _ _ _ _ _ | exact Kd.Q_nil _ _ _ _ _ | exact Kd.S_nil _ _ _ _ _, bA HB.out⟩
          replace c11 := Bool.eq_false_iff.mpr c11
          subst c11
          have H1 : (grid_Count.l0 kj6 l0 l1 (wrap64 ((l1.length : Int) - 1)) 0) = some (r1, r2) := by rw [if_neg (show ¬ (false = true) by decide)] at H; exact H
          clear H
          have H := H1
          clear H1
          have H' := Aside0.mk H
          clear H
          go_wp2
          repeat (go_quiet (fail); try go_wp2)
          go_loopg [35] kj6 (fun kq v35 w' => ∃ (x35_3 : Int), v35 = .int .i64 x35_3 ∧ Aside0 (grid_Count.l0 kq l0 l1 (wrap64 ((l1.length : Int) - 1)) x35_3 = some (r1, r2)) ∧ Aside0 (kq ≤ kj6) ∧ Aside0 (Below w.heap.size w w'))
          case atStart => exact ⟨(0), (by first | rfl | (simp; done) | (simp [*]; done)), H', ⟨Nat.le_refl _⟩, ⟨bA HB.out⟩⟩
          case round =>
            clear H'
            try clear c1
            try clear p2
            try clear c3
            try clear c3b0
            try clear c3b1
            try clear c5
            try clear c5b0
            try clear c5b1
            try clear c5b2
            try clear c6
            try clear p6
            try clear c9
            try clear c9b0
            try clear c9b1
            try clear c11
            try clear p2
            obtain ⟨x35_3, rfl, HA, HK3, HB⟩ := hrel
            cases gk with
            | zero => exact absurd HA.out (by simp [grid_Count.l0])
            | succ k3 =>
              have H := HA.out
              clear HA
              simp only [grid_Count.l0] at H
              by_cases c12 : x35_3 < (wrap64 ((l1.length : Int) - 1))
              · rw [if_pos c12] at H
                have c12b0 : decide (x35_3 < (wrap64 ((l1.length : Int) - 1))) = true := decide_eq_true c12
                clear c12
                obtain ⟨ji13, hji13⟩ : ∃ j_ : Int, (wrap64 (x35_3 + 1)) = j_ := ⟨_, rfl⟩
                replace H : (if 0 ≤ (ji13) then (if (ji13) < (l1.length : Int) then (if 0 ≤ x35_3 then (if x35_3 < (l1.length : Int) then (if ((FloatKind.f64.format.order (rdOf (0 : Nat) l1 (ji13)) (rdOf (0 : Nat) l1 x35_3) == some .gt) = true) then (grid_Count.l0 k3 l0 l1 (wrap64 ((l1.length : Int) - 1)) ji13) else (some (([] : List Int), 1))) else (none)) else (none)) else (none)) else (none)) = some (r1, r2) := by first | (rw [hji13] at H; exact H) | (simp only [hji13] at H ⊢; exact H)
                have hji13w : (IntKind.i64.wrap (x35_3 + 1)) = ji13 := (i64_w _).trans hji13
                by_cases c14 : 0 ≤ (ji13)
                rotate_left
                · rw [if_neg c14] at H
                  exact absurd H (by simp)
                rw [if_pos c14] at H
                have c14b0 : decide (0 ≤ (ji13)) = true := decide_eq_true c14
                clear c14
                by_cases c15 : (ji13) < (l1.length : Int)
                rotate_left
                · rw [if_neg c15] at H
                  exact absurd H (by simp)
                rw [if_pos c15] at H
                have c15b0 : decide ((ji13) < (l1.length : Int)) = true := decide_eq_true c15
                clear c15
                by_cases c16 : 0 ≤ x35_3
                rotate_left
                · rw [if_neg c16] at H
                  exact absurd H (by simp)
                rw [if_pos c16] at H
                have c16b0 : decide (0 ≤ x35_3) = true := decide_eq_true c16
                clear c16
                by_cases c17 : x35_3 < (l1.length : Int)
                rotate_left
                · rw [if_neg c17] at H
                  exact absurd H (by simp)
                rw [if_pos c17] at H
                have c17b0 : decide (x35_3 < (l1.length : Int)) = true := decide_eq_true c17
                clear c17
                by_cases c18 : ((FloatKind.f64.format.order (rdOf (0 : Nat) l1 (ji13)) (rdOf (0 : Nat) l1 x35_3) == some .gt) = true)
                · rw [if_pos c18] at H
                  have c18b0 : (FloatKind.f64.format.order (rdOf (0 : Nat) l1 (ji13)) (rdOf (0 : Nat) l1 x35_3) == some .gt) = true := c18
                  (try (have c18b1 : decide (FloatKind.f64.format.order (rdOf (0 : Nat) l1 (ji13)) (rdOf (0 : Nat) l1 x35_3) = some .gt) = true := by simpa using c18))
                  (try (have c18b2 : (FloatKind.f64.format.order (rdOf (0 : Nat) l1 (ji13)) (rdOf (0 : Nat) l1 x35_3) == some .gt) = true := by simpa using c18))
                  clear c18
                  have H' := Aside0.mk H
                  clear H
                  have p115 : 0 ≤ ((ji13) : Int) := of_decide_eq_true asA
                  have q115 : (ji13) < (l1.length : Int) := of_decide_eq_true asA
                  obtain ⟨ad115, e115, hx115_0⟩ := Kd.at_flt HR1.out (ji13) p115 q115
                  cases e115
                  replace hx115_0 := (HB.out.cell (World.block_lt_of_cell? w _ hx115_0)).trans hx115_0
                  replace p115 := eq_true p115
                  replace q115 := eq_true q115
                  have p116 : 0 ≤ (x35_3 : Int) := of_decide_eq_true asA
                  have q116 : x35_3 < (l1.length : Int) := of_decide_eq_true asA
                  obtain ⟨ad116, e116, hx116_0⟩ := Kd.at_flt HR1.out x35_3 p116 q116
                  obtain rfl : ad115 = ad116 := (by injection e116)
                  replace hx116_0 := (HB.out.cell (World.block_lt_of_cell? w _ hx116_0)).trans hx116_0
                  replace p116 := eq_true p116
                  replace q116 := eq_true q116
                  go_wp2
                  repeat (go_quiet (fail); try go_wp2)
                  go_roundg k3
                  case measure => have := HJ3.out; have := HJ6.out; have := HK3.out; omega
                  case rel => exact ⟨(ji13), (by first | rfl | (simp; done) | (simp only [← hji13] <;> (first | rfl | simp)) | (simp [*]; done)), H', ⟨by have := HJ3.out; have := HJ6.out; have := HK3.out; omega⟩, ⟨bA HB.out⟩⟩
                rw [if_neg c18] at H
                have c18b0 : (FloatKind.f64.format.order (rdOf (0 : Nat) l1 (ji13)) (rdOf (0 : Nat) l1 x35_3) == some .gt) = false := by simpa using c18
                (try (have c18b1 : decide (FloatKind.f64.format.order (rdOf (0 : Nat) l1 (ji13)) (rdOf (0 : Nat) l1 x35_3) = some .gt) = false := by simpa using c18))
                (try (have c18b2 : (FloatKind.f64.format.order (rdOf (0 : Nat) l1 (ji13)) (rdOf (0 : Nat) l1 x35_3) == some .gt) = false := by simpa using c18))
                (try (have c18b3 : ¬ (FloatKind.f64.format.order (rdOf (0 : Nat) l1 (ji13)) (rdOf (0 : Nat) l1 x35_3) = some .gt) := by simpa using c18))
                clear c18
                simp only [Option.some.injEq, Prod.mk.injEq] at H
                obtain ⟨rfl, rfl⟩ := H
                have p115 : 0 ≤ ((ji13) : Int) := of_decide_eq_true asA
                have q115 : (ji13) < (l1.length : Int) := of_decide_eq_true asA
                obtain ⟨ad115, e115, hx115_0⟩ := Kd.at_flt HR1.out (ji13) p115 q115
                cases e115
                replace hx115_0 := (HB.out.cell (World.block_lt_of_cell? w _ hx115_0)).trans hx115_0
                replace p115 := eq_true p115
                replace q115 := eq_true q115
                have p116 : 0 ≤ (x35_3 : Int) := of_decide_eq_true asA
                have q116 : x35_3 < (l1.length : Int) := of_decide_eq_true asA
                obtain ⟨ad116, e116, hx116_0⟩ := Kd.at_flt HR1.out x35_3 p116 q116
                obtain rfl : ad115 = ad116 := (by injection e116)
                replace hx116_0 := (HB.out.cell (World.block_lt_of_cell? w _ hx116_0)).trans hx116_0
                replace p116 := eq_true p116
                replace q116 := eq_true q116
                go_wp2
                repeat (go_quiet (fail); try go_wp2)
                go_ret2
                exact ⟨_, by first | rfl | (simp [errW_none, errW_some] <;> rfl) | (simp only [← hji13]; first | rfl | (simp [errW_none, errW_some] <;> rfl)) | (simp [*, errW_none, errW_some] <;> rfl), by first | exact Kd.R_nil _ _ _ _ _ | exact Kd.N_nil _ _ _ _ _ | exact Kd.V_nil _ _ _ _ _ | exact Kd.Q_nil _ _ _ _ _ | exact Kd.S_nil _ _ _ _ _, bA HB.out⟩
              rw [if_neg c12] at H
              have c12b0 : decide (x35_3 < (wrap64 ((l1.length : Int) - 1))) = false := decide_eq_false c12
              clear c12
              obtain ⟨ji19, hji19⟩ : ∃ j_ : Int, (wrap64 ((l1.length : Int) + 1)) = j_ := ⟨_, rfl⟩
              replace H : (if 0 ≤ (ji19) then (if (ji19 : Int).toNat ≤ 35184372088832 then (grid_Count.l1 k3 l1 (List.replicate (ji19 : Int).toNat 0) l0 (l0.length : Int) 0) else (none)) else (none)) = some (r1, r2) := by first | (rw [hji19] at H; exact H) | (simp only [hji19] at H ⊢; exact H)
              have hji19w : (IntKind.i64.wrap ((l1.length : Int) + 1)) = ji19 := (i64_w _).trans hji19
              by_cases c20 : 0 ≤ (ji19)
              rotate_left
              · rw [if_neg c20] at H
                exact absurd H (by simp)
              rw [if_pos c20] at H
              have c20b0 := eq_true c20
              have c20b1 : decide (0 ≤ (ji19)) = true := decide_eq_true c20
              clear c20
              by_cases c21 : (ji19 : Int).toNat ≤ 35184372088832
              rotate_left
              · rw [if_neg c21] at H
                exact absurd H (by simp)
              rw [if_pos c21] at H
              have c21b0 := eq_true c21
              have c21b1 : decide ((ji19 : Int).toNat ≤ 35184372088832) = true := decide_eq_true c21
              clear c21
              obtain ⟨y117, hy117⟩ : ∃ y_ : List Int, y_ = (List.replicate (ji19 : Int).toNat 0) := ⟨_, rfl⟩
              replace H : (grid_Count.l1 k3 l1 y117 l0 (l0.length : Int) 0) = some (r1, r2) := by first | (rw [hy117]; with_reducible exact H) | (have H2_ := (Option.bind_some _ _).symm.trans H; rw [hy117]; with_reducible exact H2_) | (have H2_ := (Option.bind_some _ _).symm.trans H; with_reducible exact H2_) | with_reducible exact H | (rw [hy117]; exact H) | exact H
              have Ny117 := Aside0.mk hy117
              clear hy117
              have H' := Aside0.mk H
              clear H
              go_wp2_with (first | ((with_reducible refine gate_dst (N := 53) rfl ?_); (try (refine gate_guard (by rfl) ?_; dsimp only)); refine Kd.R_make (Kd.int .i64) _ 3 rfl (N := 53) rfl 93 _ _ rfl ji19 rfl rfl Tryz.underlying93 (.int .i64 0) 8 info3 rfl (by decide) (by omega) 0 (ok := fun _ => True) (okp := fun _ => True) rfl (fun _ hk => hk) trivial (of_decide_eq_true asA) (Nat.le_trans (Nat.mul_le_mul_right _ (of_decide_eq_true asA : ji19.toNat ≤ 35184372088832)) (by omega)) (Below.refl _ _) (Nat.le_refl _) ?_; intro v118 w22 ho23 hb hg_ hnew_; clear hg_ hnew_; (first | rw [← Ny117.out] at ho23 | (simp only [Int.reduceToNat] at ho23; rw [← Ny117.out] at ho23)); have n0_ := Aside0.mk (Kd.R_lower ho23 (below_size (bA HB.out))); have n1_ := Aside0.mk (below_step (bA HB.out) hb); clear HB; have HO119 := n0_; have HB := n1_; clear n0_ n1_; clear hb ho23))
              repeat (go_quiet (first | ((with_reducible refine gate_dst (N := 53) rfl ?_); (try (refine gate_guard (by rfl) ?_; dsimp only)); refine Kd.R_make (Kd.int .i64) _ 3 rfl (N := 53) rfl 93 _ _ rfl ji19 rfl rfl Tryz.underlying93 (.int .i64 0) 8 info3 rfl (by decide) (by omega) 0 (ok := fun _ => True) (okp := fun _ => True) rfl (fun _ hk => hk) trivial (of_decide_eq_true asA) (Nat.le_trans (Nat.mul_le_mul_right _ (of_decide_eq_true asA : ji19.toNat ≤ 35184372088832)) (by omega)) (Below.refl _ _) (Nat.le_refl _) ?_; intro v118 w22 ho23 hb hg_ hnew_; clear hg_ hnew_; (first | rw [← Ny117.out] at ho23 | (simp only [Int.reduceToNat] at ho23; rw [← Ny117.out] at ho23)); have n0_ := Aside0.mk (Kd.R_lower ho23 (below_size (bA HB.out))); have n1_ := Aside0.mk (below_step (bA HB.out) hb); clear HB; have HO119 := n0_; have HB := n1_; clear n0_ n1_; clear hb ho23)); try go_wp2_with (first | ((with_reducible refine gate_dst (N := 53) rfl ?_); (try (refine gate_guard (by rfl) ?_; dsimp only)); refine Kd.R_make (Kd.int .i64) _ 3 rfl (N := 53) rfl 93 _ _ rfl ji19 rfl rfl Tryz.underlying93 (.int .i64 0) 8 info3 rfl (by decide) (by omega) 0 (ok := fun _ => True) (okp := fun _ => True) rfl (fun _ hk => hk) trivial (of_decide_eq_true asA) (Nat.le_trans (Nat.mul_le_mul_right _ (of_decide_eq_true asA : ji19.toNat ≤ 35184372088832)) (by omega)) (Below.refl _ _) (Nat.le_refl _) ?_; intro v118 w22 ho23 hb hg_ hnew_; clear hg_ hnew_; (first | rw [← Ny117.out] at ho23 | (simp only [Int.reduceToNat] at ho23; rw [← Ny117.out] at ho23)); have n0_ := Aside0.mk (Kd.R_lower ho23 (below_size (bA HB.out))); have n1_ := Aside0.mk (below_step (bA HB.out) hb); clear HB; have HO119 := n0_; have HB := n1_; clear n0_ n1_; clear hb ho23)))
              go_loopg [56] k3 (fun kq v56 w' => ∃ (x7_4 : List Int) (x56_4 : Int), v56 = .int .i64 x56_4 ∧ Aside0 (grid_Count.l1 kq l1 x7_4 l0 (l0.length : Int) x56_4 = some (r1, r2)) ∧ Aside0 (kq ≤ k3) ∧ Aside0 (Kd.R (Kd.int .i64) 3 w' w.heap.size (fun _ => True) v118 x7_4) ∧ Aside0 (Below w.heap.size w w'))
              case atStart => exact ⟨(y117), (0), (by first | rfl | (simp; done) | (simp [*]; done)), H', ⟨Nat.le_refl _⟩, ⟨rA HO119.out⟩, ⟨bA HB.out⟩⟩
              case round =>
                clear H'
                try clear c1
                try clear p1
                try clear q1
                try clear hx1
                try clear c2
                try clear p2
                try clear c3
                try clear c3b0
                try clear c3b1
                try clear c5
                try clear c5b0
                try clear c5b1
                try clear c5b2
                try clear c6
                try clear p6
                try clear c9
                try clear c9b0
                try clear c9b1
                try clear c11
                try clear p11
                try clear q11
                try clear hx11
                try clear c12
                try clear c12b0
                try clear c14
                try clear c14b0
                try clear c15
                try clear c15b0
                try clear c16
                try clear c16b0
                try clear c17
                try clear c17b0
                try clear c18
                try clear c18b0
                try clear c18b1
                try clear c18b2
                try clear c20
                try clear c20b0
                try clear c20b1
                try clear c21
                try clear c21b0
                try clear c21b1
                try clear hx115_0
                try clear hx116_0
                try clear p115
                try clear p116
                try clear p2
                try clear p6
                try clear q115
                try clear q116
                obtain ⟨x7_4, x56_4, rfl, HA, HK4, HO_7, HB⟩ := hrel
                cases gk with
                | zero => exact absurd HA.out (by simp [grid_Count.l1])
                | succ k4 =>
                  have H := HA.out
                  clear HA
                  simp only [grid_Count.l1] at H
                  by_cases c24 : x56_4 < (l0.length : Int)
                  rotate_left
                  · rw [if_neg c24] at H
                    have c24b0 : decide (x56_4 < (l0.length : Int)) = false := decide_eq_false c24
                    clear c24
                    simp only [Option.some.injEq, Prod.mk.injEq] at H
                    obtain ⟨rfl, rfl⟩ := H
                    go_wp2
                    repeat (go_quiet (fail); try go_wp2)
                    go_ret2
                    exact ⟨_, by first | rfl | (simp [errW_none, errW_some] <;> rfl) | (simp only [← hji19]; first | rfl | (simp [errW_none, errW_some] <;> rfl)) | (simp [*, errW_none, errW_some] <;> rfl), by (with_reducible repeat (first | apply Kd.R_alloc | apply Kd.R_drewN | apply Kd.R_drew)); exact HO_7.out, bA HB.out⟩
                  rw [if_pos c24] at H
                  have c24b0 : decide (x56_4 < (l0.length : Int)) = true := decide_eq_true c24
                  clear c24
                  by_cases c25 : 0 ≤ x56_4
                  rotate_left
                  · rw [if_neg c25] at H
                    exact absurd H (by simp)
                  rw [if_pos c25] at H
                  have c25b0 : decide (0 ≤ x56_4) = true := decide_eq_true c25
                  clear c25
                  by_cases c26 : x56_4 < (l0.length : Int)
                  rotate_left
                  · rw [if_neg c26] at H
                    exact absurd H (by simp)
                  rw [if_pos c26] at H
                  have c26b0 : decide (x56_4 < (l0.length : Int)) = true := decide_eq_true c26
                  clear c26
                  have H' := Aside0.mk H
                  clear H
                  have p120 : 0 ≤ (x56_4 : Int) := of_decide_eq_true asA
                  have q120 : x56_4 < (l0.length : Int) := of_decide_eq_true asA
                  obtain ⟨ad120, e120, hx120_0⟩ := Kd.at_flt HR0.out x56_4 p120 q120
                  cases e120
                  replace hx120_0 := (HB.out.cell (World.block_lt_of_cell? w _ hx120_0)).trans hx120_0
                  replace p120 := eq_true p120
                  replace q120 := eq_true q120
                  go_wp2
                  repeat (go_quiet (fail); try go_wp2)
                  refine wp_scope_straight ?_
                  try go_wp2
                  refine wp_label ?_
                  try go_wp2
                  go_loopg [10, 11] k4 (fun kq v10 v11 w' => ∃ (x10_5 : Int) (x11_5 : Int), v10 = .int .i64 x10_5 ∧ v11 = .int .i64 x11_5 ∧ Aside0 (grid_Count.l2 kq l1 x7_4 (rdOf (0 : Nat) l0 x56_4) x10_5 x11_5 l0 (l0.length : Int) x56_4 = some (r1, r2)) ∧ Aside0 (kq ≤ k4) ∧ Aside0 (Kd.R (Kd.int .i64) 3 w' w.heap.size (fun _ => True) v118 x7_4) ∧ Aside0 (Below w.heap.size w w'))
                  case atStart => exact ⟨(0), ((l1.length : Int)), (by first | rfl | (simp; done) | (simp [*]; done)), (by first | rfl | (simp; done) | (simp [*]; done)), H', ⟨Nat.le_refl _⟩, ⟨rA HO_7.out⟩, ⟨bA HB.out⟩⟩
                  case round =>
                    clear H'
                    try clear c1
                    try clear p1
                    try clear q1
                    try clear hx1
                    try clear c2
                    try clear p2
                    try clear c3
                    try clear c3b0
                    try clear c3b1
                    try clear c5
                    try clear c5b0
                    try clear c5b1
                    try clear c5b2
                    try clear c6
                    try clear p6
                    try clear c9
                    try clear c9b0
                    try clear c9b1
                    try clear c11
                    try clear p11
                    try clear q11
                    try clear hx11
                    try clear c12
                    try clear c12b0
                    try clear p12
                    try clear q12
                    try clear hx12
                    try clear c14
                    try clear c14b0
                    try clear c15
                    try clear c15b0
                    try clear c16
                    try clear c16b0
                    try clear c17
                    try clear c17b0
                    try clear c18
                    try clear c18b0
                    try clear c18b1
                    try clear c18b2
                    try clear c20
                    try clear c20b0
                    try clear c20b1
                    try clear c21
                    try clear c21b0
                    try clear c21b1
                    try clear c24
                    try clear c24b0
                    try clear c25
                    try clear c25b0
                    try clear c26
                    try clear c26b0
                    try clear hx115_0
                    try clear hx116_0
                    try clear hx120_0
                    try clear p1
                    try clear p11
                    try clear p115
                    try clear p116
                    try clear p120
                    try clear p2
                    try clear p6
                    try clear q1
                    try clear q11
                    try clear q115
                    try clear q116
                    try clear q120
                    obtain ⟨x10_5, x11_5, rfl, rfl, HA, HK5, HO_7, HB⟩ := hrel
                    cases gk with
                    | zero => exact absurd HA.out (by simp [grid_Count.l2])
                    | succ k5 =>
                      have H := HA.out
                      clear HA
                      simp only [grid_Count.l2] at H
                      by_cases c27 : x10_5 = x11_5
                      rotate_left
                      · rw [if_neg c27] at H
                        have c27b0 : (x10_5 == x11_5) = false := beq_eq_false_iff_ne.mpr c27
                        have c27b1 : (x10_5 != x11_5) = true := bne_iff_ne.mpr c27
                        obtain ⟨ji34, hji34⟩ : ∃ j_ : Int, (wrap64 (Int.tdiv (wrap64 (x10_5 + x11_5)) 2)) = j_ := ⟨_, rfl⟩
                        replace H : (if 0 ≤ (ji34) then (if (ji34) < (l1.length : Int) then (if (FloatKind.f64.format.order (rdOf (0 : Nat) l1 (ji34)) (rdOf (0 : Nat) l0 x56_4) == some .lt || FloatKind.f64.format.order (rdOf (0 : Nat) l1 (ji34)) (rdOf (0 : Nat) l0 x56_4) == some .eq) = true then (grid_Count.l2 k5 l1 x7_4 (rdOf (0 : Nat) l0 x56_4) (wrap64 ((ji34) + 1)) x11_5 l0 (l0.length : Int) x56_4) else (grid_Count.l2 k5 l1 x7_4 (rdOf (0 : Nat) l0 x56_4) x10_5 ji34 l0 (l0.length : Int) x56_4)) else (none)) else (none)) = some (r1, r2) := by first | (rw [hji34] at H; exact H) | (simp only [hji34] at H ⊢; exact H)
                        have hji34w : (IntKind.i64.wrap (Int.tdiv (wrap64 (x10_5 + x11_5)) 2)) = ji34 := (i64_w _).trans hji34
                        by_cases c35 : 0 ≤ (ji34)
                        rotate_left
                        · rw [if_neg c35] at H
                          exact absurd H (by simp)
                        rw [if_pos c35] at H
                        have c35b0 : decide (0 ≤ (ji34)) = true := decide_eq_true c35
                        clear c35
                        by_cases c36 : (ji34) < (l1.length : Int)
                        rotate_left
                        · rw [if_neg c36] at H
                          exact absurd H (by simp)
                        rw [if_pos c36] at H
                        have c36b0 : decide ((ji34) < (l1.length : Int)) = true := decide_eq_true c36
                        clear c36
                        by_cases c37 : (FloatKind.f64.format.order (rdOf (0 : Nat) l1 (ji34)) (rdOf (0 : Nat) l0 x56_4) == some .lt || FloatKind.f64.format.order (rdOf (0 : Nat) l1 (ji34)) (rdOf (0 : Nat) l0 x56_4) == some .eq) = true
                        · rw [if_pos c37] at H
                          have c37b0 : (FloatKind.f64.format.order (rdOf (0 : Nat) l1 (ji34)) (rdOf (0 : Nat) l0 x56_4) == some .lt || FloatKind.f64.format.order (rdOf (0 : Nat) l1 (ji34)) (rdOf (0 : Nat) l0 x56_4) == some .eq) = true := c37
                          (try (have c37b1 : decide (FloatKind.f64.format.order (rdOf (0 : Nat) l1 (ji34)) (rdOf (0 : Nat) l0 x56_4) = some .lt || FloatKind.f64.format.order (rdOf (0 : Nat) l1 (ji34)) (rdOf (0 : Nat) l0 x56_4) == some .eq) = true := by simpa using c37))
                          (try (have c37b2 : (FloatKind.f64.format.order (rdOf (0 : Nat) l1 (ji34)) (rdOf (0 : Nat) l0 x56_4) == some .lt || FloatKind.f64.format.order (rdOf (0 : Nat) l1 (ji34)) (rdOf (0 : Nat) l0 x56_4) == some .eq) = true := by simpa using c37))
                          clear c37
                          have H' := Aside0.mk H
                          clear H
                          have p123 : 0 ≤ ((ji34) : Int) := of_decide_eq_true asA
                          have q123 : (ji34) < (l1.length : Int) := of_decide_eq_true asA
                          obtain ⟨ad123, e123, hx123_0⟩ := Kd.at_flt HR1.out (ji34) p123 q123
                          cases e123
                          replace hx123_0 := (HB.out.cell (World.block_lt_of_cell? w _ hx123_0)).trans hx123_0
                          replace p123 := eq_true p123
                          replace q123 := eq_true q123
                          go_wp2
                          repeat (go_quiet (fail); try go_wp2)
                          go_roundg k5
                          case measure => have := HJ3.out; have := HJ6.out; have := HK3.out; have := HK4.out; have := HK5.out; omega
                          case rel => exact ⟨(wrap64 ((ji34) + 1)), (x11_5), (by first | rfl | (simp; done) | (simp only [← hji34] <;> (first | rfl | simp)) | (simp [*]; done)), (by first | rfl | (simp; done) | (simp [*]; done)), H', ⟨by have := HJ3.out; have := HJ6.out; have := HK3.out; have := HK4.out; have := HK5.out; omega⟩, ⟨rA HO_7.out⟩, ⟨bA HB.out⟩⟩
                        rw [if_neg c37] at H
                        have c37b0 : (FloatKind.f64.format.order (rdOf (0 : Nat) l1 (ji34)) (rdOf (0 : Nat) l0 x56_4) == some .lt || FloatKind.f64.format.order (rdOf (0 : Nat) l1 (ji34)) (rdOf (0 : Nat) l0 x56_4) == some .eq) = false := by simpa using c37
                        (try (have c37b1 : decide (FloatKind.f64.format.order (rdOf (0 : Nat) l1 (ji34)) (rdOf (0 : Nat) l0 x56_4) = some .lt || FloatKind.f64.format.order (rdOf (0 : Nat) l1 (ji34)) (rdOf (0 : Nat) l0 x56_4) == some .eq) = false := by simpa using c37))
                        (try (have c37b2 : (FloatKind.f64.format.order (rdOf (0 : Nat) l1 (ji34)) (rdOf (0 : Nat) l0 x56_4) == some .lt || FloatKind.f64.format.order (rdOf (0 : Nat) l1 (ji34)) (rdOf (0 : Nat) l0 x56_4) == some .eq) = false := by simpa using c37))
                        (try (have c37b3 : ¬ (FloatKind.f64.format.order (rdOf (0 : Nat) l1 (ji34)) (rdOf (0 : Nat) l0 x56_4) = some .lt || FloatKind.f64.format.order (rdOf (0 : Nat) l1 (ji34)) (rdOf (0 : Nat) l0 x56_4) == some .eq) := by simpa using c37))
                        clear c37
                        have H' := Aside0.mk H
                        clear H
                        have p123 : 0 ≤ ((ji34) : Int) := of_decide_eq_true asA
                        have q123 : (ji34) < (l1.length : Int) := of_decide_eq_true asA
                        obtain ⟨ad123, e123, hx123_0⟩ := Kd.at_flt HR1.out (ji34) p123 q123
                        cases e123
                        replace hx123_0 := (HB.out.cell (World.block_lt_of_cell? w _ hx123_0)).trans hx123_0
                        replace p123 := eq_true p123
                        replace q123 := eq_true q123
                        go_wp2
                        repeat (go_quiet (fail); try go_wp2)
                        go_roundg k5
                        case measure => have := HJ3.out; have := HJ6.out; have := HK3.out; have := HK4.out; have := HK5.out; omega
                        case rel => exact ⟨(x10_5), (ji34), (by first | rfl | (simp; done) | (simp [*]; done)), (by first | rfl | (simp; done) | (simp only [← hji34] <;> (first | rfl | simp)) | (simp [*]; done)), H', ⟨by have := HJ3.out; have := HJ6.out; have := HK3.out; have := HK4.out; have := HK5.out; omega⟩, ⟨rA HO_7.out⟩, ⟨bA HB.out⟩⟩
                      rw [if_pos c27] at H
                      have c27b0 : (x10_5 == x11_5) = true := beq_iff_eq.mpr c27
                      have c27b1 : (x10_5 != x11_5) = false := bne_eq_false_iff_eq.mpr c27
                      clear c27
                      by_cases c28 : 0 ≤ x10_5
                      rotate_left
                      · rw [if_neg c28] at H
                        exact absurd H (by simp)
                      rw [if_pos c28] at H
                      have c28b0 : decide (0 ≤ x10_5) = true := decide_eq_true c28
                      clear c28
                      by_cases c29 : x10_5 < (x7_4.length : Int)
                      rotate_left
                      · rw [if_neg c29] at H
                        exact absurd H (by simp)
                      rw [if_pos c29] at H
                      have c29b0 : decide (x10_5 < (x7_4.length : Int)) = true := decide_eq_true c29
                      clear c29
                      obtain ⟨y122, hy122⟩ : ∃ y_ : List Int, y_ = (x7_4.set (x10_5 : Int).toNat (wrap64 ((rd x7_4 x10_5) + 1))) := ⟨_, rfl⟩
                      replace H : (grid_Count.l1 k5 l1 y122 l0 (l0.length : Int) (wrap64 (x56_4 + 1))) = some (r1, r2) := by first | (rw [hy122]; with_reducible exact H) | (have H2_ := (Option.bind_some _ _).symm.trans H; rw [hy122]; with_reducible exact H2_) | (have H2_ := (Option.bind_some _ _).symm.trans H; with_reducible exact H2_) | with_reducible exact H | (rw [hy122]; exact H) | exact H
                      have Ny122 := Aside0.mk hy122
                      clear hy122
                      have H' := Aside0.mk H
                      clear H
                      obtain ⟨Ao31, co31, eo31⟩ := Kd.R_slice HO_7.out
                      subst eo31
                      have p121 : 0 ≤ (x10_5 : Int) := of_decide_eq_true asA
                      have q121 : x10_5 < (x7_4.length : Int) := of_decide_eq_true asA
                      obtain ⟨ad121, e121, hx121_0⟩ := Kd.at_int (Kd.R_reads' HO_7.out).2.2 x10_5 p121 q121
                      cases e121
                      replace p121 := eq_true p121
                      replace q121 := eq_true q121
                      have p30 : 0 ≤ (x10_5 : Int) := of_decide_eq_true asA
                      have q30 : (x10_5 : Int) < ((x7_4.length : Int) : Int) := of_decide_eq_true asA
                      obtain ⟨go30, co30, eo30, gb30, gl30, cl30, HG30⟩ := Kd.R_form HO_7.out (by omega)
                      (first | cases eo30 | (injection eo30 with ea_ en_ ec_; (first | subst ea_ | (injection ea_ with ea_; subst ea_)); subst ec_; clear en_))
                      have GB30 := Aside0.mk gb30
                      have GG30 := Aside0.mk HG30
                      clear gb30 gl30 HG30
                      (first | simp only [add_plain] at hx121_0 | skip)
                      obtain ⟨hx30_0, hf30_0⟩ := Kd.R_celln 0 HO_7.out (x10_5 : Int) p30 q30
                      replace p30 := eq_true p30
                      replace q30 := eq_true q30
                      have HP32 := Kd.R_putg HO_7.out (x10_5 : Int) (wrap64 ((rd x7_4 x10_5) + 1))
                      go_wp2_with (first | ((with_reducible refine gate_store (t := 3) (p := 85) rfl ?_); (try rw [World.drewN_drewN]); (try (rw [drewN_self wr]; generalize hq_ : World.drewN wr _ = wr; have n0_ := Aside0.mk (Kd.R_at hq_ HO_7.out); have n1_ := Aside0.mk (below_at hq_ HB.out); clear hq_ HO_7 HB; have HO_7 := n0_; have HB := n1_; clear n0_ n1_; (try (have HP32 := Kd.R_putg HO_7.out (x10_5 : Int) (wrap64 ((rd x7_4 x10_5) + 1)))))); refine store_event (t := 3) (p := 85) (v := ?vo_w33) (w1 := (wr.setCell ⟨go30, (x10_5 : Int).toNat, none⟩ (.int .i64 (wrap64 ((rd x7_4 x10_5) + 1))))) ?hg ?ho ?hn ?hr ?_; (case ho => rfl); (case hg => rfl); (case hn => rfl); (case hr => first | (go_simp; done) | (go_simp; rfl)); intro w33 hw; have hg : wr.grownBy w33 (some go30) := (by rw [hw]; exact HP32.2); have hp_ : Kd.R (Kd.int .i64) 3 w33 w.heap.size (fun _ => True) (.slice (some ⟨go30, 0, none⟩) x7_4.length co31) y122 := (by rw [hw, Ny122.out]; exact HP32.1); clear HP32; have n0_ := Aside0.mk (hp_); have n1_ := Aside0.mk ((by rw [hw]; exact below_set (HB.out) GB30.out : Below w.heap.size w w33)); clear HO_7; clear HB; have HO_7 := n0_; have HB := n1_; clear n0_ n1_; clear hg hw hp_))
                      repeat (go_quiet (first | ((with_reducible refine gate_store (t := 3) (p := 85) rfl ?_); (try rw [World.drewN_drewN]); (try (rw [drewN_self wr]; generalize hq_ : World.drewN wr _ = wr; have n0_ := Aside0.mk (Kd.R_at hq_ HO_7.out); have n1_ := Aside0.mk (below_at hq_ HB.out); clear hq_ HO_7 HB; have HO_7 := n0_; have HB := n1_; clear n0_ n1_; (try (have HP32 := Kd.R_putg HO_7.out (x10_5 : Int) (wrap64 ((rd x7_4 x10_5) + 1)))))); refine store_event (t := 3) (p := 85) (v := ?vo_w33) (w1 := (wr.setCell ⟨go30, (x10_5 : Int).toNat, none⟩ (.int .i64 (wrap64 ((rd x7_4 x10_5) + 1))))) ?hg ?ho ?hn ?hr ?_; (case ho => rfl); (case hg => rfl); (case hn => rfl); (case hr => first | (go_simp; done) | (go_simp; rfl)); intro w33 hw; have hg : wr.grownBy w33 (some go30) := (by rw [hw]; exact HP32.2); have hp_ : Kd.R (Kd.int .i64) 3 w33 w.heap.size (fun _ => True) (.slice (some ⟨go30, 0, none⟩) x7_4.length co31) y122 := (by rw [hw, Ny122.out]; exact HP32.1); clear HP32; have n0_ := Aside0.mk (hp_); have n1_ := Aside0.mk ((by rw [hw]; exact below_set (HB.out) GB30.out : Below w.heap.size w w33)); clear HO_7; clear HB; have HO_7 := n0_; have HB := n1_; clear n0_ n1_; clear hg hw hp_)); try go_wp2_with (first | ((with_reducible refine gate_store (t := 3) (p := 85) rfl ?_); (try rw [World.drewN_drewN]); (try (rw [drewN_self wr]; generalize hq_ : World.drewN wr _ = wr; have n0_ := Aside0.mk (Kd.R_at hq_ HO_7.out); have n1_ := Aside0.mk (below_at hq_ HB.out); clear hq_ HO_7 HB; have HO_7 := n0_; have HB := n1_; clear n0_ n1_; (try (have HP32 := Kd.R_putg HO_7.out (x10_5 : Int) (wrap64 ((rd x7_4 x10_5) + 1)))))); refine store_event (t := 3) (p := 85) (v := ?vo_w33) (w1 := (wr.setCell ⟨go30, (x10_5 : Int).toNat, none⟩ (.int .i64 (wrap64 ((rd x7_4 x10_5) + 1))))) ?hg ?ho ?hn ?hr ?_; (case ho => rfl); (case hg => rfl); (case hn => rfl); (case hr => first | (go_simp; done) | (go_simp; rfl)); intro w33 hw; have hg : wr.grownBy w33 (some go30) := (by rw [hw]; exact HP32.2); have hp_ : Kd.R (Kd.int .i64) 3 w33 w.heap.size (fun _ => True) (.slice (some ⟨go30, 0, none⟩) x7_4.length co31) y122 := (by rw [hw, Ny122.out]; exact HP32.1); clear HP32; have n0_ := Aside0.mk (hp_); have n1_ := Aside0.mk ((by rw [hw]; exact below_set (HB.out) GB30.out : Below w.heap.size w w33)); clear HO_7; clear HB; have HO_7 := n0_; have HB := n1_; clear n0_ n1_; clear hg hw hp_)))
                      refine noGoto_normal ?_
                      try go_wp2
                      go_roundg k5
                      case measure => have := HJ3.out; have := HJ6.out; have := HK3.out; have := HK4.out; have := HK5.out; omega
                      case rel => exact ⟨(y122), (wrap64 (x56_4 + 1)), (by first | rfl | (simp; done) | (simp [*]; done)), H', ⟨by have := HJ3.out; have := HJ6.out; have := HK3.out; have := HK4.out; have := HK5.out; omega⟩, ⟨by first | ((with_reducible repeat (first | apply Kd.R_alloc | apply Kd.R_drewN | apply Kd.R_drew)); exact HO_7.out) | (rw [Ny122.out]; exact (Kd.R_putg (Kd.R_drewN HO_7.out _) (x10_5 : Int) (wrap64 ((rd x7_4 x10_5) + 1))).1)⟩, ⟨by first | ((repeat (first | (with_reducible first | exact HB.out | apply below_alloc | apply pw_below_drewN | apply below_drew1) | exact HB.out)); done) | exact below_set (pw_below_drewN HB.out _) GB30.out⟩⟩

end Go.Proofs.YtepcegiciecogaaGreat.FG
