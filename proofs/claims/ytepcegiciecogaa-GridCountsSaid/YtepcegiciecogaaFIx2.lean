/- Written by the session's fprint.py out of the translation. -/
import Derived.Test.YtepcegiciecogaaFIx0
import Derived.Test.YtepcegiciecogaaFIx1
namespace Go.Proofs.Ytepcegiciecogaa.FI
open Go.RowKit Go.Proofs.YtepcegiciecogaaW.PrintWords Go.Proofs.YtepcegiciecogaaW.PrintLast Go.Proofs.YtepcegiciecogaaW.PrintMore
attribute [local go_sem] max2_int min2_int max_two min_two max_three min_three max_four min_four   -- for this text's walks alone
open Go.Proofs.Ytepcegiciecogaa.FX Go.Proofs.Ytepcegiciecogaa.FG
attribute [local go_sem] run_store_float run_neg_float run_fmul isSome_setCell 
set_option linter.unusedVariables false
set_option linter.unusedSimpArgs false

/-! ### tenorref25_Count: function 23 -/
mutual
def tenorref25_Count.j0 : Nat → List Int → List Int → Bool → Option (List Int × Int)
  | 0, _, _, _ => none
  | k + 1, x0, x1, x22 => if x22 = true then (some (([] : List Int), 100)) else (tenorref25_Count.l0 k x0 x1 0)
def tenorref25_Count.l0 : Nat → List Int → List Int → Int → Option (List Int × Int)
  | 0, _, _, _ => none
  | k + 1, x0, x1, x6 => if x6 < (x0.length : Int) then (if 0 ≤ x6 then ((tenorref1_Number.f (rd x0 x6)).bind fun t114 => (if t114 = true then (tenorref25_Count.l0 k x0 x1 (wrap64 (x6 + 1))) else (some (([] : List Int), 91)))) else (none)) else (tenorref25_Count.l1 k x0 x1 0)
def tenorref25_Count.l1 : Nat → List Int → List Int → Int → Option (List Int × Int)
  | 0, _, _, _ => none
  | k + 1, x0, x1, x7 => if x7 < (x1.length : Int) then (if 0 ≤ x7 then ((tenorref1_Number.f (rd x1 x7)).bind fun t116 => (if t116 = true then (tenorref25_Count.l1 k x0 x1 (wrap64 (x7 + 1))) else (some (([] : List Int), 91)))) else (none)) else (tenorref25_Count.l2 k x0 x1 1)
def tenorref25_Count.l2 : Nat → List Int → List Int → Int → Option (List Int × Int)
  | 0, _, _, _ => none
  | k + 1, x0, x1, x8 => if x8 < (x1.length : Int) then (if 0 ≤ (wrap64 (x8 - 1)) then (if (wrap64 (x8 - 1)) < (x1.length : Int) then (if 0 ≤ x8 then ((tenorref1_Lt.f (rd x1 (wrap64 (x8 - 1))) (rd x1 x8)).bind fun t119 => (if t119 = true then (tenorref25_Count.l2 k x0 x1 (wrap64 (x8 + 1))) else (some (([] : List Int), 1)))) else (none)) else (none)) else (none)) else (if 0 ≤ (wrap64 ((x1.length : Int) + 1)) then (if (wrap64 ((x1.length : Int) + 1) : Int).toNat ≤ 35184372088832 then (tenorref25_Count.l3 k x0 x1 (List.replicate (wrap64 ((x1.length : Int) + 1) : Int).toNat 0) 0) else (none)) else (none))
def tenorref25_Count.l3 : Nat → List Int → List Int → List Int → Int → Option (List Int × Int)
  | 0, _, _, _, _ => none
  | k + 1, x0, x1, x9, x10 => if x10 < (x0.length : Int) then (tenorref25_Count.l4 k x0 x1 x9 x10 0) else (some (x9, 0))
def tenorref25_Count.l4 : Nat → List Int → List Int → List Int → Int → Int → Option (List Int × Int)
  | 0, _, _, _, _, _ => none
  | k + 1, x0, x1, x9, x10, x11 => if x11 < (x1.length : Int) then (if 0 ≤ x10 then (if x10 < (x0.length : Int) then (if 0 ≤ x11 then ((tenorref1_Lt.f (rd x0 x10) (rd x1 x11)).bind fun t125 => (if t125 = true then (if x11 < (x9.length : Int) then (tenorref25_Count.l3 k x0 x1 (x9.set (x11 : Int).toNat (wrap64 ((rd x9 x11) + 1))) (wrap64 (x10 + 1))) else (none)) else (tenorref25_Count.l4 k x0 x1 x9 x10 (wrap64 (x11 + 1))))) else (none)) else (none)) else (none)) else (if 0 ≤ x11 then (if x11 < (x9.length : Int) then (tenorref25_Count.l3 k x0 x1 (x9.set (x11 : Int).toNat (wrap64 ((rd x9 x11) + 1))) (wrap64 (x10 + 1))) else (none)) else (none))
end
def tenorref25_Count.f (k : Nat) (l0 : List Int) (l1 : List Int) : Option (List Int × Int) := if (l1.length : Int) > 256 then (some (([] : List Int), 2)) else (if (l1.length : Int) = 0 then (tenorref25_Count.j0 k l0 l1 true) else (tenorref25_Count.j0 k l0 l1 (decide ((l0.length : Int) > 1048576))))
theorem tenorref25_Count.mono_l : ∀ k, (∀ y0 y1 y2, LeO (tenorref25_Count.j0 k y0 y1 y2) (tenorref25_Count.j0 (k + 1) y0 y1 y2)) ∧ (∀ y0 y1 y2, LeO (tenorref25_Count.l0 k y0 y1 y2) (tenorref25_Count.l0 (k + 1) y0 y1 y2)) ∧ (∀ y0 y1 y2, LeO (tenorref25_Count.l1 k y0 y1 y2) (tenorref25_Count.l1 (k + 1) y0 y1 y2)) ∧ (∀ y0 y1 y2, LeO (tenorref25_Count.l2 k y0 y1 y2) (tenorref25_Count.l2 (k + 1) y0 y1 y2)) ∧ (∀ y0 y1 y2 y3, LeO (tenorref25_Count.l3 k y0 y1 y2 y3) (tenorref25_Count.l3 (k + 1) y0 y1 y2 y3)) ∧ (∀ y0 y1 y2 y3 y4, LeO (tenorref25_Count.l4 k y0 y1 y2 y3 y4) (tenorref25_Count.l4 (k + 1) y0 y1 y2 y3 y4))
  | 0 => ⟨fun _ _ _ r h => by simp [tenorref25_Count.j0] at h, fun _ _ _ r h => by simp [tenorref25_Count.l0] at h, fun _ _ _ r h => by simp [tenorref25_Count.l1] at h, fun _ _ _ r h => by simp [tenorref25_Count.l2] at h, fun _ _ _ _ r h => by simp [tenorref25_Count.l3] at h, fun _ _ _ _ _ r h => by simp [tenorref25_Count.l4] at h⟩
  | k + 1 => by
    obtain ⟨ih0, ih1, ih2, ih3, ih4, ih5⟩ := tenorref25_Count.mono_l k
    refine ⟨?_, ?_, ?_, ?_, ?_, ?_⟩
    · intro y0 y1 y2
      unfold tenorref25_Count.j0
      repeat' first
      | (with_reducible exact ih0 _ _ _)
      | (with_reducible exact ih1 _ _ _)
      | (with_reducible exact ih2 _ _ _)
      | (with_reducible exact ih3 _ _ _)
      | (with_reducible exact ih4 _ _ _ _)
      | (with_reducible exact ih5 _ _ _ _ _)
      | (with_reducible exact LeO.refl _)
      | (with_reducible exact LeO.none _)
      | (with_reducible refine LeO.ite ?_ ?_)
      | (with_reducible refine LeO.bind ?_ (fun _ => ?_))
      | exact ih0 _ _ _
      | exact ih1 _ _ _
      | exact ih2 _ _ _
      | exact ih3 _ _ _
      | exact ih4 _ _ _ _
      | exact ih5 _ _ _ _ _
      | exact LeO.none _
      | refine LeO.ite ?_ ?_
      | refine LeO.bind ?_ (fun _ => ?_)
    · intro y0 y1 y2
      unfold tenorref25_Count.l0
      repeat' first
      | (with_reducible exact ih0 _ _ _)
      | (with_reducible exact ih1 _ _ _)
      | (with_reducible exact ih2 _ _ _)
      | (with_reducible exact ih3 _ _ _)
      | (with_reducible exact ih4 _ _ _ _)
      | (with_reducible exact ih5 _ _ _ _ _)
      | (with_reducible exact LeO.refl _)
      | (with_reducible exact LeO.none _)
      | (with_reducible refine LeO.ite ?_ ?_)
      | (with_reducible refine LeO.bind ?_ (fun _ => ?_))
      | exact ih0 _ _ _
      | exact ih1 _ _ _
      | exact ih2 _ _ _
      | exact ih3 _ _ _
      | exact ih4 _ _ _ _
      | exact ih5 _ _ _ _ _
      | exact LeO.none _
      | refine LeO.ite ?_ ?_
      | refine LeO.bind ?_ (fun _ => ?_)
    · intro y0 y1 y2
      unfold tenorref25_Count.l1
      repeat' first
      | (with_reducible exact ih0 _ _ _)
      | (with_reducible exact ih1 _ _ _)
      | (with_reducible exact ih2 _ _ _)
      | (with_reducible exact ih3 _ _ _)
      | (with_reducible exact ih4 _ _ _ _)
      | (with_reducible exact ih5 _ _ _ _ _)
      | (with_reducible exact LeO.refl _)
      | (with_reducible exact LeO.none _)
      | (with_reducible refine LeO.ite ?_ ?_)
      | (with_reducible refine LeO.bind ?_ (fun _ => ?_))
      | exact ih0 _ _ _
      | exact ih1 _ _ _
      | exact ih2 _ _ _
      | exact ih3 _ _ _
      | exact ih4 _ _ _ _
      | exact ih5 _ _ _ _ _
      | exact LeO.none _
      | refine LeO.ite ?_ ?_
      | refine LeO.bind ?_ (fun _ => ?_)
    · intro y0 y1 y2
      unfold tenorref25_Count.l2
      repeat' first
      | (with_reducible exact ih0 _ _ _)
      | (with_reducible exact ih1 _ _ _)
      | (with_reducible exact ih2 _ _ _)
      | (with_reducible exact ih3 _ _ _)
      | (with_reducible exact ih4 _ _ _ _)
      | (with_reducible exact ih5 _ _ _ _ _)
      | (with_reducible exact LeO.refl _)
      | (with_reducible exact LeO.none _)
      | (with_reducible refine LeO.ite ?_ ?_)
      | (with_reducible refine LeO.bind ?_ (fun _ => ?_))
      | exact ih0 _ _ _
      | exact ih1 _ _ _
      | exact ih2 _ _ _
      | exact ih3 _ _ _
      | exact ih4 _ _ _ _
      | exact ih5 _ _ _ _ _
      | exact LeO.none _
      | refine LeO.ite ?_ ?_
      | refine LeO.bind ?_ (fun _ => ?_)
    · intro y0 y1 y2 y3
      unfold tenorref25_Count.l3
      repeat' first
      | (with_reducible exact ih0 _ _ _)
      | (with_reducible exact ih1 _ _ _)
      | (with_reducible exact ih2 _ _ _)
      | (with_reducible exact ih3 _ _ _)
      | (with_reducible exact ih4 _ _ _ _)
      | (with_reducible exact ih5 _ _ _ _ _)
      | (with_reducible exact LeO.refl _)
      | (with_reducible exact LeO.none _)
      | (with_reducible refine LeO.ite ?_ ?_)
      | (with_reducible refine LeO.bind ?_ (fun _ => ?_))
      | exact ih0 _ _ _
      | exact ih1 _ _ _
      | exact ih2 _ _ _
      | exact ih3 _ _ _
      | exact ih4 _ _ _ _
      | exact ih5 _ _ _ _ _
      | exact LeO.none _
      | refine LeO.ite ?_ ?_
      | refine LeO.bind ?_ (fun _ => ?_)
    · intro y0 y1 y2 y3 y4
      unfold tenorref25_Count.l4
      repeat' first
      | (with_reducible exact ih0 _ _ _)
      | (with_reducible exact ih1 _ _ _)
      | (with_reducible exact ih2 _ _ _)
      | (with_reducible exact ih3 _ _ _)
      | (with_reducible exact ih4 _ _ _ _)
      | (with_reducible exact ih5 _ _ _ _ _)
      | (with_reducible exact LeO.refl _)
      | (with_reducible exact LeO.none _)
      | (with_reducible refine LeO.ite ?_ ?_)
      | (with_reducible refine LeO.bind ?_ (fun _ => ?_))
      | exact ih0 _ _ _
      | exact ih1 _ _ _
      | exact ih2 _ _ _
      | exact ih3 _ _ _
      | exact ih4 _ _ _ _
      | exact ih5 _ _ _ _ _
      | exact LeO.none _
      | refine LeO.ite ?_ ?_
      | refine LeO.bind ?_ (fun _ => ?_)
theorem tenorref25_Count.mono : ∀ a0 a1 k, LeO (tenorref25_Count.f k a0 a1) (tenorref25_Count.f (k + 1) a0 a1) := by
  intro a0 a1 k
  obtain ⟨ih0, ih1, ih2, ih3, ih4, ih5⟩ := tenorref25_Count.mono_l k
  unfold tenorref25_Count.f
  repeat' first
    | (with_reducible exact ih0 _ _ _)
    | (with_reducible exact ih1 _ _ _)
    | (with_reducible exact ih2 _ _ _)
    | (with_reducible exact ih3 _ _ _)
    | (with_reducible exact ih4 _ _ _ _)
    | (with_reducible exact ih5 _ _ _ _ _)
    | (with_reducible exact LeO.refl _)
    | (with_reducible exact LeO.none _)
    | (with_reducible refine LeO.ite ?_ ?_)
    | (with_reducible refine LeO.bind ?_ (fun _ => ?_))
    | exact ih0 _ _ _
    | exact ih1 _ _ _
    | exact ih2 _ _ _
    | exact ih3 _ _ _
    | exact ih4 _ _ _ _
    | exact ih5 _ _ _ _ _
    | exact LeO.none _
    | refine LeO.ite ?_ ?_
    | refine LeO.bind ?_ (fun _ => ?_)
set_option maxHeartbeats 8000000 in
set_option maxRecDepth 100000 in
theorem tenorref25_Count.calls (k : Nat) (A0 : Option Addr) (c0 : Nat) (l0 : List Int) (A1 : Option Addr) (c1 : Nat) (l1 : List Int) (r1 : List Int) (r2 : Int) (w : World) (hr0 : Kd.C (Kd.int .u64) w A0 l0.length l0) (hc0 : l0.length ≤ c0) (hr1 : Kd.C (Kd.int .u64) w A1 l1.length l1) (hc1 : l1.length ≤ c1) (h : tenorref25_Count.f k l0 l1 = some (r1, r2)) :
    Calls Try.prog 23 #[.slice A0 l0.length c0, .slice A1 l1.length c1] w fun e w' => ∃ v0_ : Value, e = .returned (.tuple #[v0_, .int .i64 r2]) ∧ Kd.R (Kd.int .i64) 3 w' w.heap.size (fun _ => True) v0_ r1 ∧ Below w.heap.size w w' := by
  have HR0 := Aside0.mk hr0
  have HC0 := Aside0.mk hc0
  clear hr0 hc0
  have HR1 := Aside0.mk hr1
  have HC1 := Aside0.mk hc1
  clear hr1 hc1
  have HB := Aside0.mk (Below.refl w.heap.size w)
  have H : (if (l1.length : Int) > 256 then (some (([] : List Int), 2)) else (if (l1.length : Int) = 0 then (tenorref25_Count.j0 k l0 l1 true) else (tenorref25_Count.j0 k l0 l1 (decide ((l0.length : Int) > 1048576))))) = some (r1, r2) := h
  clear h
  by_cases c3 : (l1.length : Int) > 256
  · rw [if_pos c3] at H
    have c3b0 : decide (256 < (l1.length : Int)) = true := decide_eq_true c3
    have c3b1 : decide (256 < l1.length) = true := decide_eq_true (by omega)
    clear c3
    simp only [Option.some.injEq, Prod.mk.injEq] at H
    obtain ⟨rfl, rfl⟩ := H
    go_enter Try.func23, Try.ntmps23
    go_wp2
    repeat (go_quiet (fail); try go_wp2)
    go_ret2
    exact ⟨_, by first | rfl | (simp [errW_none, errW_some] <;> rfl) | (simp [*, errW_none, errW_some] <;> rfl), by first | exact Kd.R_nil _ _ _ _ _ | exact Kd.N_nil _ _ _ _ _ | exact Kd.V_nil _ _ _ _ _ | exact Kd.Q_nil _ _ _ _ _ | exact Kd.S_nil _ _ _ _ _, by repeat (first | (with_reducible first | exact HB.out | apply below_alloc | apply pw_below_drewN | apply below_drew1) | exact HB.out)⟩
  rw [if_neg c3] at H
  have c3b0 : decide (256 < (l1.length : Int)) = false := decide_eq_false c3
  have c3b1 : decide (256 < l1.length) = false := decide_eq_false (by omega)
  clear c3
  have HC4 := Aside0.mk H
  clear H
  go_enter Try.func23, Try.ntmps23
  go_upto_region 3 with (fail)
  repeat (go_quiet (fail); go_upto_region 3 with (fail))
  go_cut [22] (fun v22 wc => ∃ (kq : Nat) (x22_3 : Bool), v22 = .bool x22_3 ∧ Aside0 (tenorref25_Count.j0 kq l0 l1 x22_3 = some (r1, r2)) ∧ Aside0 (kq ≤ k) ∧ Aside0 (Below w.heap.size w wc))
  case first =>
    have H := HC4.out
    clear HC4
    by_cases c5 : (l1.length : Int) = 0
    · rw [if_pos c5] at H
      have c5b0 : ((l1.length : Int) == 0) = true := beq_iff_eq.mpr c5
      have c5b1 : ((l1.length : Int) != 0) = false := bne_eq_false_iff_eq.mpr c5
      clear c5
      (first | rw [c5b0] | (simp only [i64_w, i32_w]; rw [c5b0]) | skip)
      have H' := Aside0.mk H
      clear H
      go_wp2
      repeat (go_quiet (fail); try go_wp2)
      go_meet
      case rel => exact ⟨_, (true), (by first | rfl | (simp; done) | (simp [*]; done)), H', ⟨by first | omega | exact Nat.le_refl _⟩, ⟨by repeat (first | (with_reducible first | exact HB.out | apply below_alloc | apply pw_below_drewN | apply below_drew1) | exact HB.out)⟩⟩
    rw [if_neg c5] at H
    have c5b0 : ((l1.length : Int) == 0) = false := beq_eq_false_iff_ne.mpr c5
    have c5b1 : ((l1.length : Int) != 0) = true := bne_iff_ne.mpr c5
    have c5b2 : ¬ (l1 = []) := fun h_ => c5 (by rw [h_]; rfl)
    (first | rw [c5b0] | (simp only [i64_w, i32_w]; rw [c5b0]) | skip)
    have H' := Aside0.mk H
    clear H
    go_wp2
    repeat (go_quiet (fail); try go_wp2)
    go_meet
    case rel => exact ⟨_, (decide ((l0.length : Int) > 1048576)), (by first | rfl | (simp; done) | (simp [*]; done)), H', ⟨by first | omega | exact Nat.le_refl _⟩, ⟨by repeat (first | (with_reducible first | exact HB.out | apply below_alloc | apply pw_below_drewN | apply below_drew1) | exact HB.out)⟩⟩
  case rest =>
    clear HC4
    try clear c1
    try clear c2
    try clear p2
    try clear c3
    try clear c3b0
    try clear c3b1
    try clear c5
    try clear c5b0
    try clear c5b1
    try clear c5b2
    obtain ⟨kq, x22_3, rfl, HA, HJ3, HB⟩ := hcut
    cases kq with
    | zero => exact absurd HA.out (by simp [tenorref25_Count.j0])
    | succ kj3 =>
      have H := HA.out
      clear HA
      simp only [tenorref25_Count.j0] at H
      by_cases c6 : x22_3 = true
      · subst c6
        have H1 : (some (([] : List Int), 100)) = some (r1, r2) := by rw [if_pos rfl] at H; exact H
        clear H
        have H := H1
        clear H1
        simp only [Option.some.injEq, Prod.mk.injEq] at H
        obtain ⟨rfl, rfl⟩ := H
        go_wp2
        repeat (go_quiet (fail); try go_wp2)
        go_ret2
        exact ⟨_, by first | rfl | (simp [errW_none, errW_some] <;> rfl) | (simp [*, errW_none, errW_some] <;> rfl), by first | exact Kd.R_nil _ _ _ _ _ | exact Kd.N_nil _ _ _ _ _ | exact Kd.V_nil _ _ _ _ _ | exact Kd.Q_nil _ _ _ _ _ | exact Kd.S_nil _ _ _ _ _, by repeat (first | (with_reducible first | exact HB.out | apply below_alloc | apply pw_below_drewN | apply below_drew1) | exact HB.out)⟩
      replace c6 := Bool.eq_false_iff.mpr c6
      subst c6
      have H1 : (tenorref25_Count.l0 kj3 l0 l1 0) = some (r1, r2) := by rw [if_neg (show ¬ (false = true) by decide)] at H; exact H
      clear H
      have H := H1
      clear H1
      have H' := Aside0.mk H
      clear H
      go_wp2
      repeat (go_quiet (fail); try go_wp2)
      go_loopg [6] kj3 (fun kq v6 w' => ∃ (x6_2 : Int), v6 = .int .i64 x6_2 ∧ Aside0 (tenorref25_Count.l0 kq l0 l1 x6_2 = some (r1, r2)) ∧ Aside0 (kq ≤ kj3) ∧ Aside0 (Below w.heap.size w w'))
      case atStart => exact ⟨(0), (by first | rfl | (simp; done) | (simp [*]; done)), H', ⟨Nat.le_refl _⟩, ⟨by repeat (first | (with_reducible first | exact HB.out | apply below_alloc | apply pw_below_drewN | apply below_drew1) | exact HB.out)⟩⟩
      case round =>
        clear H'
        try clear c1
        try clear c2
        try clear p2
        try clear c3
        try clear c3b0
        try clear c3b1
        try clear c5
        try clear c5b0
        try clear c5b1
        try clear c5b2
        try clear c6
        try clear p2
        obtain ⟨x6_2, rfl, HA, HK2, HB⟩ := hrel
        cases gk with
        | zero => exact absurd HA.out (by simp [tenorref25_Count.l0])
        | succ k2 =>
          have H := HA.out
          clear HA
          simp only [tenorref25_Count.l0] at H
          by_cases c7 : x6_2 < (l0.length : Int)
          · rw [if_pos c7] at H
            have c7b0 : decide (x6_2 < (l0.length : Int)) = true := decide_eq_true c7
            clear c7
            by_cases c8 : 0 ≤ x6_2
            rotate_left
            · rw [if_neg c8] at H
              exact absurd H (by simp)
            rw [if_pos c8] at H
            have c8b0 : decide (0 ≤ x6_2) = true := decide_eq_true c8
            clear c8
            replace H := Option.bind_eq_some_iff.mp H
            obtain ⟨t114, A90, H⟩ := H
            replace H : (if t114 = true then (tenorref25_Count.l0 k2 l0 l1 (wrap64 (x6_2 + 1))) else (some (([] : List Int), 91))) = some (r1, r2) := H
            have A9 := Aside0.mk A90
            clear A90
            by_cases c10 : t114 = true
            · subst c10
              have H1 : (tenorref25_Count.l0 k2 l0 l1 (wrap64 (x6_2 + 1))) = some (r1, r2) := by rw [if_pos rfl] at H; exact H
              clear H
              have H := H1
              clear H1
              have H' := Aside0.mk H
              clear H
              have p113 : 0 ≤ (x6_2 : Int) := of_decide_eq_true (by first | (with_reducible assumption) | assumption)
              have q113 : x6_2 < (l0.length : Int) := of_decide_eq_true (by first | (with_reducible assumption) | assumption)
              obtain ⟨ad113, e113, hx113_0⟩ := Kd.at_int HR0.out x6_2 p113 q113
              cases e113
              replace hx113_0 := (HB.out.cell (World.block_lt_of_cell? w _ hx113_0)).trans hx113_0
              replace p113 := eq_true p113
              replace q113 := eq_true q113
              go_wp2_with (first | (go_at_call 30; (with_reducible refine (tenorref1_Number.calls (rd l0 x6_2) true _ A9.out).mono ?_); rintro e w' ⟨rfl, ⟨nd, rfl⟩⟩; (try first | exact ⟨rfl, _, World.drewN_drewN _ _ _⟩ | exact ⟨rfl, _, Eq.trans (World.drewN_drewN _ _ _) (congrArg (World.drewN _) (Nat.add_assoc _ _ _))⟩)))
              repeat (go_quiet (first | (go_at_call 30; (with_reducible refine (tenorref1_Number.calls (rd l0 x6_2) true _ A9.out).mono ?_); rintro e w' ⟨rfl, ⟨nd, rfl⟩⟩; (try first | exact ⟨rfl, _, World.drewN_drewN _ _ _⟩ | exact ⟨rfl, _, Eq.trans (World.drewN_drewN _ _ _) (congrArg (World.drewN _) (Nat.add_assoc _ _ _))⟩))); try go_wp2_with (first | (go_at_call 30; (with_reducible refine (tenorref1_Number.calls (rd l0 x6_2) true _ A9.out).mono ?_); rintro e w' ⟨rfl, ⟨nd, rfl⟩⟩; (try first | exact ⟨rfl, _, World.drewN_drewN _ _ _⟩ | exact ⟨rfl, _, Eq.trans (World.drewN_drewN _ _ _) (congrArg (World.drewN _) (Nat.add_assoc _ _ _))⟩))))
              go_roundg k2
              case measure => have := HJ3.out; have := HK2.out; omega
              case rel => exact ⟨(wrap64 (x6_2 + 1)), (by first | rfl | (simp; done) | (simp [*]; done)), H', ⟨by have := HJ3.out; have := HK2.out; omega⟩, ⟨by repeat (first | (with_reducible first | exact HB.out | apply below_alloc | apply pw_below_drewN | apply below_drew1) | exact HB.out)⟩⟩
            replace c10 := Bool.eq_false_iff.mpr c10
            subst c10
            have H1 : (some (([] : List Int), 91)) = some (r1, r2) := by rw [if_neg (show ¬ (false = true) by decide)] at H; exact H
            clear H
            have H := H1
            clear H1
            simp only [Option.some.injEq, Prod.mk.injEq] at H
            obtain ⟨rfl, rfl⟩ := H
            have p113 : 0 ≤ (x6_2 : Int) := of_decide_eq_true (by first | (with_reducible assumption) | assumption)
            have q113 : x6_2 < (l0.length : Int) := of_decide_eq_true (by first | (with_reducible assumption) | assumption)
            obtain ⟨ad113, e113, hx113_0⟩ := Kd.at_int HR0.out x6_2 p113 q113
            cases e113
            replace hx113_0 := (HB.out.cell (World.block_lt_of_cell? w _ hx113_0)).trans hx113_0
            replace p113 := eq_true p113
            replace q113 := eq_true q113
            go_wp2_with (first | (go_at_call 30; (with_reducible refine (tenorref1_Number.calls (rd l0 x6_2) false _ A9.out).mono ?_); rintro e w' ⟨rfl, ⟨nd, rfl⟩⟩; (try first | exact ⟨rfl, _, World.drewN_drewN _ _ _⟩ | exact ⟨rfl, _, Eq.trans (World.drewN_drewN _ _ _) (congrArg (World.drewN _) (Nat.add_assoc _ _ _))⟩)))
            repeat (go_quiet (first | (go_at_call 30; (with_reducible refine (tenorref1_Number.calls (rd l0 x6_2) false _ A9.out).mono ?_); rintro e w' ⟨rfl, ⟨nd, rfl⟩⟩; (try first | exact ⟨rfl, _, World.drewN_drewN _ _ _⟩ | exact ⟨rfl, _, Eq.trans (World.drewN_drewN _ _ _) (congrArg (World.drewN _) (Nat.add_assoc _ _ _))⟩))); try go_wp2_with (first | (go_at_call 30; (with_reducible refine (tenorref1_Number.calls (rd l0 x6_2) false _ A9.out).mono ?_); rintro e w' ⟨rfl, ⟨nd, rfl⟩⟩; (try first | exact ⟨rfl, _, World.drewN_drewN _ _ _⟩ | exact ⟨rfl, _, Eq.trans (World.drewN_drewN _ _ _) (congrArg (World.drewN _) (Nat.add_assoc _ _ _))⟩))))
            go_ret2
            exact ⟨_, by first | rfl | (simp [errW_none, errW_some] <;> rfl) | (simp [*, errW_none, errW_some] <;> rfl), by first | exact Kd.R_nil _ _ _ _ _ | exact Kd.N_nil _ _ _ _ _ | exact Kd.V_nil _ _ _ _ _ | exact Kd.Q_nil _ _ _ _ _ | exact Kd.S_nil _ _ _ _ _, by repeat (first | (with_reducible first | exact HB.out | apply below_alloc | apply pw_below_drewN | apply below_drew1) | exact HB.out)⟩
          rw [if_neg c7] at H
          have c7b0 : decide (x6_2 < (l0.length : Int)) = false := decide_eq_false c7
          clear c7
          have H' := Aside0.mk H
          clear H
          go_wp2
          repeat (go_quiet (fail); try go_wp2)
          go_loopg [7] k2 (fun kq v7 w' => ∃ (x7_3 : Int), v7 = .int .i64 x7_3 ∧ Aside0 (tenorref25_Count.l1 kq l0 l1 x7_3 = some (r1, r2)) ∧ Aside0 (kq ≤ k2) ∧ Aside0 (Below w.heap.size w w'))
          case atStart => exact ⟨(0), (by first | rfl | (simp; done) | (simp [*]; done)), H', ⟨Nat.le_refl _⟩, ⟨by repeat (first | (with_reducible first | exact HB.out | apply below_alloc | apply pw_below_drewN | apply below_drew1) | exact HB.out)⟩⟩
          case round =>
            clear H'
            try clear c1
            try clear p1
            try clear q1
            try clear hx1
            try clear c2
            try clear p2
            try clear c3
            try clear c3b0
            try clear c3b1
            try clear c5
            try clear c5b0
            try clear c5b1
            try clear c5b2
            try clear c6
            try clear p6
            try clear c7
            try clear c7b0
            try clear c8
            try clear c8b0
            try clear c10
            try clear hx113_0
            try clear p113
            try clear p2
            try clear q113
            obtain ⟨x7_3, rfl, HA, HK3, HB⟩ := hrel
            cases gk with
            | zero => exact absurd HA.out (by simp [tenorref25_Count.l1])
            | succ k3 =>
              have H := HA.out
              clear HA
              simp only [tenorref25_Count.l1] at H
              by_cases c11 : x7_3 < (l1.length : Int)
              · rw [if_pos c11] at H
                have c11b0 : decide (x7_3 < (l1.length : Int)) = true := decide_eq_true c11
                clear c11
                by_cases c12 : 0 ≤ x7_3
                rotate_left
                · rw [if_neg c12] at H
                  exact absurd H (by simp)
                rw [if_pos c12] at H
                have c12b0 : decide (0 ≤ x7_3) = true := decide_eq_true c12
                clear c12
                replace H := Option.bind_eq_some_iff.mp H
                obtain ⟨t116, A130, H⟩ := H
                replace H : (if t116 = true then (tenorref25_Count.l1 k3 l0 l1 (wrap64 (x7_3 + 1))) else (some (([] : List Int), 91))) = some (r1, r2) := H
                have A13 := Aside0.mk A130
                clear A130
                by_cases c14 : t116 = true
                · subst c14
                  have H1 : (tenorref25_Count.l1 k3 l0 l1 (wrap64 (x7_3 + 1))) = some (r1, r2) := by rw [if_pos rfl] at H; exact H
                  clear H
                  have H := H1
                  clear H1
                  have H' := Aside0.mk H
                  clear H
                  have p115 : 0 ≤ (x7_3 : Int) := of_decide_eq_true (by first | (with_reducible assumption) | assumption)
                  have q115 : x7_3 < (l1.length : Int) := of_decide_eq_true (by first | (with_reducible assumption) | assumption)
                  obtain ⟨ad115, e115, hx115_0⟩ := Kd.at_int HR1.out x7_3 p115 q115
                  cases e115
                  replace hx115_0 := (HB.out.cell (World.block_lt_of_cell? w _ hx115_0)).trans hx115_0
                  replace p115 := eq_true p115
                  replace q115 := eq_true q115
                  go_wp2_with (first | (go_at_call 30; (with_reducible refine (tenorref1_Number.calls (rd l1 x7_3) true _ A13.out).mono ?_); rintro e w' ⟨rfl, ⟨nd, rfl⟩⟩; (try first | exact ⟨rfl, _, World.drewN_drewN _ _ _⟩ | exact ⟨rfl, _, Eq.trans (World.drewN_drewN _ _ _) (congrArg (World.drewN _) (Nat.add_assoc _ _ _))⟩)))
                  repeat (go_quiet (first | (go_at_call 30; (with_reducible refine (tenorref1_Number.calls (rd l1 x7_3) true _ A13.out).mono ?_); rintro e w' ⟨rfl, ⟨nd, rfl⟩⟩; (try first | exact ⟨rfl, _, World.drewN_drewN _ _ _⟩ | exact ⟨rfl, _, Eq.trans (World.drewN_drewN _ _ _) (congrArg (World.drewN _) (Nat.add_assoc _ _ _))⟩))); try go_wp2_with (first | (go_at_call 30; (with_reducible refine (tenorref1_Number.calls (rd l1 x7_3) true _ A13.out).mono ?_); rintro e w' ⟨rfl, ⟨nd, rfl⟩⟩; (try first | exact ⟨rfl, _, World.drewN_drewN _ _ _⟩ | exact ⟨rfl, _, Eq.trans (World.drewN_drewN _ _ _) (congrArg (World.drewN _) (Nat.add_assoc _ _ _))⟩))))
                  go_roundg k3
                  case measure => have := HJ3.out; have := HK2.out; have := HK3.out; omega
                  case rel => exact ⟨(wrap64 (x7_3 + 1)), (by first | rfl | (simp; done) | (simp [*]; done)), H', ⟨by have := HJ3.out; have := HK2.out; have := HK3.out; omega⟩, ⟨by repeat (first | (with_reducible first | exact HB.out | apply below_alloc | apply pw_below_drewN | apply below_drew1) | exact HB.out)⟩⟩
                replace c14 := Bool.eq_false_iff.mpr c14
                subst c14
                have H1 : (some (([] : List Int), 91)) = some (r1, r2) := by rw [if_neg (show ¬ (false = true) by decide)] at H; exact H
                clear H
                have H := H1
                clear H1
                simp only [Option.some.injEq, Prod.mk.injEq] at H
                obtain ⟨rfl, rfl⟩ := H
                have p115 : 0 ≤ (x7_3 : Int) := of_decide_eq_true (by first | (with_reducible assumption) | assumption)
                have q115 : x7_3 < (l1.length : Int) := of_decide_eq_true (by first | (with_reducible assumption) | assumption)
                obtain ⟨ad115, e115, hx115_0⟩ := Kd.at_int HR1.out x7_3 p115 q115
                cases e115
                replace hx115_0 := (HB.out.cell (World.block_lt_of_cell? w _ hx115_0)).trans hx115_0
                replace p115 := eq_true p115
                replace q115 := eq_true q115
                go_wp2_with (first | (go_at_call 30; (with_reducible refine (tenorref1_Number.calls (rd l1 x7_3) false _ A13.out).mono ?_); rintro e w' ⟨rfl, ⟨nd, rfl⟩⟩; (try first | exact ⟨rfl, _, World.drewN_drewN _ _ _⟩ | exact ⟨rfl, _, Eq.trans (World.drewN_drewN _ _ _) (congrArg (World.drewN _) (Nat.add_assoc _ _ _))⟩)))
                repeat (go_quiet (first | (go_at_call 30; (with_reducible refine (tenorref1_Number.calls (rd l1 x7_3) false _ A13.out).mono ?_); rintro e w' ⟨rfl, ⟨nd, rfl⟩⟩; (try first | exact ⟨rfl, _, World.drewN_drewN _ _ _⟩ | exact ⟨rfl, _, Eq.trans (World.drewN_drewN _ _ _) (congrArg (World.drewN _) (Nat.add_assoc _ _ _))⟩))); try go_wp2_with (first | (go_at_call 30; (with_reducible refine (tenorref1_Number.calls (rd l1 x7_3) false _ A13.out).mono ?_); rintro e w' ⟨rfl, ⟨nd, rfl⟩⟩; (try first | exact ⟨rfl, _, World.drewN_drewN _ _ _⟩ | exact ⟨rfl, _, Eq.trans (World.drewN_drewN _ _ _) (congrArg (World.drewN _) (Nat.add_assoc _ _ _))⟩))))
                go_ret2
                exact ⟨_, by first | rfl | (simp [errW_none, errW_some] <;> rfl) | (simp [*, errW_none, errW_some] <;> rfl), by first | exact Kd.R_nil _ _ _ _ _ | exact Kd.N_nil _ _ _ _ _ | exact Kd.V_nil _ _ _ _ _ | exact Kd.Q_nil _ _ _ _ _ | exact Kd.S_nil _ _ _ _ _, by repeat (first | (with_reducible first | exact HB.out | apply below_alloc | apply pw_below_drewN | apply below_drew1) | exact HB.out)⟩
              rw [if_neg c11] at H
              have c11b0 : decide (x7_3 < (l1.length : Int)) = false := decide_eq_false c11
              clear c11
              have H' := Aside0.mk H
              clear H
              go_wp2
              repeat (go_quiet (fail); try go_wp2)
              go_loopg [8] k3 (fun kq v8 w' => ∃ (x8_4 : Int), v8 = .int .i64 x8_4 ∧ Aside0 (tenorref25_Count.l2 kq l0 l1 x8_4 = some (r1, r2)) ∧ Aside0 (kq ≤ k3) ∧ Aside0 (Below w.heap.size w w'))
              case atStart => exact ⟨(1), (by first | rfl | (simp; done) | (simp [*]; done)), H', ⟨Nat.le_refl _⟩, ⟨by repeat (first | (with_reducible first | exact HB.out | apply below_alloc | apply pw_below_drewN | apply below_drew1) | exact HB.out)⟩⟩
              case round =>
                clear H'
                try clear c1
                try clear p1
                try clear q1
                try clear hx1
                try clear c2
                try clear p2
                try clear c3
                try clear c3b0
                try clear c3b1
                try clear c5
                try clear c5b0
                try clear c5b1
                try clear c5b2
                try clear c6
                try clear p6
                try clear c7
                try clear c7b0
                try clear c8
                try clear c8b0
                try clear c10
                try clear c11
                try clear c11b0
                try clear p11
                try clear q11
                try clear hx11
                try clear c12
                try clear c12b0
                try clear c14
                try clear hx113_0
                try clear hx115_0
                try clear p1
                try clear p113
                try clear p115
                try clear p2
                try clear p6
                try clear q1
                try clear q113
                try clear q115
                obtain ⟨x8_4, rfl, HA, HK4, HB⟩ := hrel
                cases gk with
                | zero => exact absurd HA.out (by simp [tenorref25_Count.l2])
                | succ k4 =>
                  have H := HA.out
                  clear HA
                  simp only [tenorref25_Count.l2] at H
                  by_cases c15 : x8_4 < (l1.length : Int)
                  · rw [if_pos c15] at H
                    have c15b0 : decide (x8_4 < (l1.length : Int)) = true := decide_eq_true c15
                    clear c15
                    obtain ⟨ji16, hji16⟩ : ∃ j_ : Int, (wrap64 (x8_4 - 1)) = j_ := ⟨_, rfl⟩
                    replace H : (if 0 ≤ (ji16) then (if (ji16) < (l1.length : Int) then (if 0 ≤ x8_4 then ((tenorref1_Lt.f (rd l1 (ji16)) (rd l1 x8_4)).bind fun t119 => (if t119 = true then (tenorref25_Count.l2 k4 l0 l1 (wrap64 (x8_4 + 1))) else (some (([] : List Int), 1)))) else (none)) else (none)) else (none)) = some (r1, r2) := by first | (rw [hji16] at H; exact H) | (simp only [hji16] at H ⊢; exact H)
                    have hji16w : (IntKind.i64.wrap (x8_4 - 1)) = ji16 := (i64_w _).trans hji16
                    by_cases c17 : 0 ≤ (ji16)
                    rotate_left
                    · rw [if_neg c17] at H
                      exact absurd H (by simp)
                    rw [if_pos c17] at H
                    have c17b0 : decide (0 ≤ (ji16)) = true := decide_eq_true c17
                    clear c17
                    by_cases c18 : (ji16) < (l1.length : Int)
                    rotate_left
                    · rw [if_neg c18] at H
                      exact absurd H (by simp)
                    rw [if_pos c18] at H
                    have c18b0 : decide ((ji16) < (l1.length : Int)) = true := decide_eq_true c18
                    clear c18
                    by_cases c19 : 0 ≤ x8_4
                    rotate_left
                    · rw [if_neg c19] at H
                      exact absurd H (by simp)
                    rw [if_pos c19] at H
                    have c19b0 : decide (0 ≤ x8_4) = true := decide_eq_true c19
                    clear c19
                    replace H := Option.bind_eq_some_iff.mp H
                    obtain ⟨t119, A200, H⟩ := H
                    replace H : (if t119 = true then (tenorref25_Count.l2 k4 l0 l1 (wrap64 (x8_4 + 1))) else (some (([] : List Int), 1))) = some (r1, r2) := H
                    have A20 := Aside0.mk A200
                    clear A200
                    by_cases c21 : t119 = true
                    · subst c21
                      have H1 : (tenorref25_Count.l2 k4 l0 l1 (wrap64 (x8_4 + 1))) = some (r1, r2) := by rw [if_pos rfl] at H; exact H
                      clear H
                      have H := H1
                      clear H1
                      have H' := Aside0.mk H
                      clear H
                      have p117 : 0 ≤ ((ji16) : Int) := of_decide_eq_true (by first | (with_reducible assumption) | assumption)
                      have q117 : (ji16) < (l1.length : Int) := of_decide_eq_true (by first | (with_reducible assumption) | assumption)
                      obtain ⟨ad117, e117, hx117_0⟩ := Kd.at_int HR1.out (ji16) p117 q117
                      cases e117
                      replace hx117_0 := (HB.out.cell (World.block_lt_of_cell? w _ hx117_0)).trans hx117_0
                      replace p117 := eq_true p117
                      replace q117 := eq_true q117
                      have p118 : 0 ≤ (x8_4 : Int) := of_decide_eq_true (by first | (with_reducible assumption) | assumption)
                      have q118 : x8_4 < (l1.length : Int) := of_decide_eq_true (by first | (with_reducible assumption) | assumption)
                      obtain ⟨ad118, e118, hx118_0⟩ := Kd.at_int HR1.out x8_4 p118 q118
                      obtain rfl : ad117 = ad118 := (by injection e118)
                      replace hx118_0 := (HB.out.cell (World.block_lt_of_cell? w _ hx118_0)).trans hx118_0
                      replace p118 := eq_true p118
                      replace q118 := eq_true q118
                      go_wp2_with (first | (go_at_call 43; (with_reducible refine (tenorref1_Lt.calls (rd l1 (ji16)) (rd l1 x8_4) true _ A20.out).mono ?_); rintro e w' ⟨rfl, ⟨nd, rfl⟩⟩; (try first | exact ⟨rfl, _, World.drewN_drewN _ _ _⟩ | exact ⟨rfl, _, Eq.trans (World.drewN_drewN _ _ _) (congrArg (World.drewN _) (Nat.add_assoc _ _ _))⟩)))
                      repeat (go_quiet (first | (go_at_call 43; (with_reducible refine (tenorref1_Lt.calls (rd l1 (ji16)) (rd l1 x8_4) true _ A20.out).mono ?_); rintro e w' ⟨rfl, ⟨nd, rfl⟩⟩; (try first | exact ⟨rfl, _, World.drewN_drewN _ _ _⟩ | exact ⟨rfl, _, Eq.trans (World.drewN_drewN _ _ _) (congrArg (World.drewN _) (Nat.add_assoc _ _ _))⟩))); try go_wp2_with (first | (go_at_call 43; (with_reducible refine (tenorref1_Lt.calls (rd l1 (ji16)) (rd l1 x8_4) true _ A20.out).mono ?_); rintro e w' ⟨rfl, ⟨nd, rfl⟩⟩; (try first | exact ⟨rfl, _, World.drewN_drewN _ _ _⟩ | exact ⟨rfl, _, Eq.trans (World.drewN_drewN _ _ _) (congrArg (World.drewN _) (Nat.add_assoc _ _ _))⟩))))
                      go_roundg k4
                      case measure => have := HJ3.out; have := HK2.out; have := HK3.out; have := HK4.out; omega
                      case rel => exact ⟨(wrap64 (x8_4 + 1)), (by first | rfl | (simp; done) | (simp [*]; done)), H', ⟨by have := HJ3.out; have := HK2.out; have := HK3.out; have := HK4.out; omega⟩, ⟨by repeat (first | (with_reducible first | exact HB.out | apply below_alloc | apply pw_below_drewN | apply below_drew1) | exact HB.out)⟩⟩
                    replace c21 := Bool.eq_false_iff.mpr c21
                    subst c21
                    have H1 : (some (([] : List Int), 1)) = some (r1, r2) := by rw [if_neg (show ¬ (false = true) by decide)] at H; exact H
                    clear H
                    have H := H1
                    clear H1
                    simp only [Option.some.injEq, Prod.mk.injEq] at H
                    obtain ⟨rfl, rfl⟩ := H
                    have p117 : 0 ≤ ((ji16) : Int) := of_decide_eq_true (by first | (with_reducible assumption) | assumption)
                    have q117 : (ji16) < (l1.length : Int) := of_decide_eq_true (by first | (with_reducible assumption) | assumption)
                    obtain ⟨ad117, e117, hx117_0⟩ := Kd.at_int HR1.out (ji16) p117 q117
                    cases e117
                    replace hx117_0 := (HB.out.cell (World.block_lt_of_cell? w _ hx117_0)).trans hx117_0
                    replace p117 := eq_true p117
                    replace q117 := eq_true q117
                    have p118 : 0 ≤ (x8_4 : Int) := of_decide_eq_true (by first | (with_reducible assumption) | assumption)
                    have q118 : x8_4 < (l1.length : Int) := of_decide_eq_true (by first | (with_reducible assumption) | assumption)
                    obtain ⟨ad118, e118, hx118_0⟩ := Kd.at_int HR1.out x8_4 p118 q118
                    obtain rfl : ad117 = ad118 := (by injection e118)
                    replace hx118_0 := (HB.out.cell (World.block_lt_of_cell? w _ hx118_0)).trans hx118_0
                    replace p118 := eq_true p118
                    replace q118 := eq_true q118
                    go_wp2_with (first | (go_at_call 43; (with_reducible refine (tenorref1_Lt.calls (rd l1 (ji16)) (rd l1 x8_4) false _ A20.out).mono ?_); rintro e w' ⟨rfl, ⟨nd, rfl⟩⟩; (try first | exact ⟨rfl, _, World.drewN_drewN _ _ _⟩ | exact ⟨rfl, _, Eq.trans (World.drewN_drewN _ _ _) (congrArg (World.drewN _) (Nat.add_assoc _ _ _))⟩)))
                    repeat (go_quiet (first | (go_at_call 43; (with_reducible refine (tenorref1_Lt.calls (rd l1 (ji16)) (rd l1 x8_4) false _ A20.out).mono ?_); rintro e w' ⟨rfl, ⟨nd, rfl⟩⟩; (try first | exact ⟨rfl, _, World.drewN_drewN _ _ _⟩ | exact ⟨rfl, _, Eq.trans (World.drewN_drewN _ _ _) (congrArg (World.drewN _) (Nat.add_assoc _ _ _))⟩))); try go_wp2_with (first | (go_at_call 43; (with_reducible refine (tenorref1_Lt.calls (rd l1 (ji16)) (rd l1 x8_4) false _ A20.out).mono ?_); rintro e w' ⟨rfl, ⟨nd, rfl⟩⟩; (try first | exact ⟨rfl, _, World.drewN_drewN _ _ _⟩ | exact ⟨rfl, _, Eq.trans (World.drewN_drewN _ _ _) (congrArg (World.drewN _) (Nat.add_assoc _ _ _))⟩))))
                    go_ret2
                    exact ⟨_, by first | rfl | (simp [errW_none, errW_some] <;> rfl) | (simp only [← hji16]; first | rfl | (simp [errW_none, errW_some] <;> rfl)) | (simp [*, errW_none, errW_some] <;> rfl), by first | exact Kd.R_nil _ _ _ _ _ | exact Kd.N_nil _ _ _ _ _ | exact Kd.V_nil _ _ _ _ _ | exact Kd.Q_nil _ _ _ _ _ | exact Kd.S_nil _ _ _ _ _, by repeat (first | (with_reducible first | exact HB.out | apply below_alloc | apply pw_below_drewN | apply below_drew1) | exact HB.out)⟩
                  rw [if_neg c15] at H
                  have c15b0 : decide (x8_4 < (l1.length : Int)) = false := decide_eq_false c15
                  clear c15
                  obtain ⟨ji22, hji22⟩ : ∃ j_ : Int, (wrap64 ((l1.length : Int) + 1)) = j_ := ⟨_, rfl⟩
                  replace H : (if 0 ≤ (ji22) then (if (ji22 : Int).toNat ≤ 35184372088832 then (tenorref25_Count.l3 k4 l0 l1 (List.replicate (ji22 : Int).toNat 0) 0) else (none)) else (none)) = some (r1, r2) := by first | (rw [hji22] at H; exact H) | (simp only [hji22] at H ⊢; exact H)
                  have hji22w : (IntKind.i64.wrap ((l1.length : Int) + 1)) = ji22 := (i64_w _).trans hji22
                  by_cases c23 : 0 ≤ (ji22)
                  rotate_left
                  · rw [if_neg c23] at H
                    exact absurd H (by simp)
                  rw [if_pos c23] at H
                  have c23b0 := eq_true c23
                  have c23b1 : decide (0 ≤ (ji22)) = true := decide_eq_true c23
                  clear c23
                  by_cases c24 : (ji22 : Int).toNat ≤ 35184372088832
                  rotate_left
                  · rw [if_neg c24] at H
                    exact absurd H (by simp)
                  rw [if_pos c24] at H
                  have c24b0 := eq_true c24
                  have c24b1 : decide ((ji22 : Int).toNat ≤ 35184372088832) = true := decide_eq_true c24
                  clear c24
                  obtain ⟨y120, hy120⟩ : ∃ y_ : List Int, y_ = (List.replicate (ji22 : Int).toNat 0) := ⟨_, rfl⟩
                  replace H : (tenorref25_Count.l3 k4 l0 l1 y120 0) = some (r1, r2) := by first | (rw [hy120]; with_reducible exact H) | (have H2_ := (Option.bind_some _ _).symm.trans H; rw [hy120]; with_reducible exact H2_) | (have H2_ := (Option.bind_some _ _).symm.trans H; with_reducible exact H2_) | with_reducible exact H | (rw [hy120]; exact H) | exact H
                  have Ny120 := Aside0.mk hy120
                  clear hy120
                  have H' := Aside0.mk H
                  clear H
                  go_wp2_with (first | ((with_reducible refine gate_dst (N := 67) rfl ?_); (try (refine gate_guard (by rfl) ?_; dsimp only)); refine Kd.R_make (Kd.int .i64) _ 3 rfl (N := 67) rfl 32 _ _ rfl ji22 rfl rfl Try.underlying32 (.int .i64 0) 8 info3 rfl (by decide) (by omega) 0 (ok := fun _ => True) (okp := fun _ => True) rfl (fun _ hk => hk) trivial (of_decide_eq_true (by first | (with_reducible assumption) | assumption)) (Nat.le_trans (Nat.mul_le_mul_right _ (of_decide_eq_true (by first | (with_reducible assumption) | assumption) : ji22.toNat ≤ 35184372088832)) (by omega)) (Below.refl _ _) (Nat.le_refl _) ?_; intro v121 w25 ho26 hb hg_ hnew_; clear hg_ hnew_; (first | rw [← Ny120.out] at ho26 | (simp only [Int.reduceToNat] at ho26; rw [← Ny120.out] at ho26)); have n0_ := Aside0.mk (Kd.R_lower ho26 (below_size (by repeat (first | (with_reducible first | exact HB.out | apply below_alloc | apply pw_below_drewN | apply below_drew1) | exact HB.out)))); have n1_ := Aside0.mk (below_step (by repeat (first | (with_reducible first | exact HB.out | apply below_alloc | apply pw_below_drewN | apply below_drew1) | exact HB.out)) hb); clear HB; have HO122 := n0_; have HB := n1_; clear n0_ n1_; clear hb ho26))
                  repeat (go_quiet (first | ((with_reducible refine gate_dst (N := 67) rfl ?_); (try (refine gate_guard (by rfl) ?_; dsimp only)); refine Kd.R_make (Kd.int .i64) _ 3 rfl (N := 67) rfl 32 _ _ rfl ji22 rfl rfl Try.underlying32 (.int .i64 0) 8 info3 rfl (by decide) (by omega) 0 (ok := fun _ => True) (okp := fun _ => True) rfl (fun _ hk => hk) trivial (of_decide_eq_true (by first | (with_reducible assumption) | assumption)) (Nat.le_trans (Nat.mul_le_mul_right _ (of_decide_eq_true (by first | (with_reducible assumption) | assumption) : ji22.toNat ≤ 35184372088832)) (by omega)) (Below.refl _ _) (Nat.le_refl _) ?_; intro v121 w25 ho26 hb hg_ hnew_; clear hg_ hnew_; (first | rw [← Ny120.out] at ho26 | (simp only [Int.reduceToNat] at ho26; rw [← Ny120.out] at ho26)); have n0_ := Aside0.mk (Kd.R_lower ho26 (below_size (by repeat (first | (with_reducible first | exact HB.out | apply below_alloc | apply pw_below_drewN | apply below_drew1) | exact HB.out)))); have n1_ := Aside0.mk (below_step (by repeat (first | (with_reducible first | exact HB.out | apply below_alloc | apply pw_below_drewN | apply below_drew1) | exact HB.out)) hb); clear HB; have HO122 := n0_; have HB := n1_; clear n0_ n1_; clear hb ho26)); try go_wp2_with (first | ((with_reducible refine gate_dst (N := 67) rfl ?_); (try (refine gate_guard (by rfl) ?_; dsimp only)); refine Kd.R_make (Kd.int .i64) _ 3 rfl (N := 67) rfl 32 _ _ rfl ji22 rfl rfl Try.underlying32 (.int .i64 0) 8 info3 rfl (by decide) (by omega) 0 (ok := fun _ => True) (okp := fun _ => True) rfl (fun _ hk => hk) trivial (of_decide_eq_true (by first | (with_reducible assumption) | assumption)) (Nat.le_trans (Nat.mul_le_mul_right _ (of_decide_eq_true (by first | (with_reducible assumption) | assumption) : ji22.toNat ≤ 35184372088832)) (by omega)) (Below.refl _ _) (Nat.le_refl _) ?_; intro v121 w25 ho26 hb hg_ hnew_; clear hg_ hnew_; (first | rw [← Ny120.out] at ho26 | (simp only [Int.reduceToNat] at ho26; rw [← Ny120.out] at ho26)); have n0_ := Aside0.mk (Kd.R_lower ho26 (below_size (by repeat (first | (with_reducible first | exact HB.out | apply below_alloc | apply pw_below_drewN | apply below_drew1) | exact HB.out)))); have n1_ := Aside0.mk (below_step (by repeat (first | (with_reducible first | exact HB.out | apply below_alloc | apply pw_below_drewN | apply below_drew1) | exact HB.out)) hb); clear HB; have HO122 := n0_; have HB := n1_; clear n0_ n1_; clear hb ho26)))
                  go_loopg [10] k4 (fun kq v10 w' => ∃ (x9_5 : List Int) (x10_5 : Int), v10 = .int .i64 x10_5 ∧ Aside0 (tenorref25_Count.l3 kq l0 l1 x9_5 x10_5 = some (r1, r2)) ∧ Aside0 (kq ≤ k4) ∧ Aside0 (Kd.R (Kd.int .i64) 3 w' w.heap.size (fun _ => True) v121 x9_5) ∧ Aside0 (Below w.heap.size w w'))
                  case atStart => exact ⟨(y120), (0), (by first | rfl | (simp; done) | (simp [*]; done)), H', ⟨Nat.le_refl _⟩, ⟨by (with_reducible repeat (first | apply Kd.R_alloc | apply Kd.R_drewN | apply Kd.R_drew)); exact HO122.out⟩, ⟨by repeat (first | (with_reducible first | exact HB.out | apply below_alloc | apply pw_below_drewN | apply below_drew1) | exact HB.out)⟩⟩
                  case round =>
                    clear H'
                    try clear c1
                    try clear p1
                    try clear q1
                    try clear hx1
                    try clear c2
                    try clear p2
                    try clear c3
                    try clear c3b0
                    try clear c3b1
                    try clear c5
                    try clear c5b0
                    try clear c5b1
                    try clear c5b2
                    try clear c6
                    try clear p6
                    try clear c7
                    try clear c7b0
                    try clear c8
                    try clear c8b0
                    try clear c10
                    try clear c11
                    try clear c11b0
                    try clear p11
                    try clear q11
                    try clear hx11
                    try clear c12
                    try clear c12b0
                    try clear c14
                    try clear c15
                    try clear c15b0
                    try clear c17
                    try clear c17b0
                    try clear c18
                    try clear c18b0
                    try clear c19
                    try clear c19b0
                    try clear c21
                    try clear c23
                    try clear c23b0
                    try clear c23b1
                    try clear c24
                    try clear c24b0
                    try clear c24b1
                    try clear hx113_0
                    try clear hx115_0
                    try clear hx117_0
                    try clear hx118_0
                    try clear p1
                    try clear p11
                    try clear p113
                    try clear p115
                    try clear p117
                    try clear p118
                    try clear p2
                    try clear p6
                    try clear q1
                    try clear q11
                    try clear q113
                    try clear q115
                    try clear q117
                    try clear q118
                    obtain ⟨x9_5, x10_5, rfl, HA, HK5, HO_9, HB⟩ := hrel
                    cases gk with
                    | zero => exact absurd HA.out (by simp [tenorref25_Count.l3])
                    | succ k5 =>
                      have H := HA.out
                      clear HA
                      simp only [tenorref25_Count.l3] at H
                      by_cases c27 : x10_5 < (l0.length : Int)
                      rotate_left
                      · rw [if_neg c27] at H
                        have c27b0 : decide (x10_5 < (l0.length : Int)) = false := decide_eq_false c27
                        clear c27
                        simp only [Option.some.injEq, Prod.mk.injEq] at H
                        obtain ⟨rfl, rfl⟩ := H
                        go_wp2
                        repeat (go_quiet (fail); try go_wp2)
                        go_ret2
                        exact ⟨_, by first | rfl | (simp [errW_none, errW_some] <;> rfl) | (simp only [← hji22]; first | rfl | (simp [errW_none, errW_some] <;> rfl)) | (simp [*, errW_none, errW_some] <;> rfl), by (with_reducible repeat (first | apply Kd.R_alloc | apply Kd.R_drewN | apply Kd.R_drew)); exact HO_9.out, by repeat (first | (with_reducible first | exact HB.out | apply below_alloc | apply pw_below_drewN | apply below_drew1) | exact HB.out)⟩
                      rw [if_pos c27] at H
                      have c27b0 : decide (x10_5 < (l0.length : Int)) = true := decide_eq_true c27
                      clear c27
                      have H' := Aside0.mk H
                      clear H
                      go_wp2
                      repeat (go_quiet (fail); try go_wp2)
                      go_loopg [11] k5 (fun kq v11 w' => ∃ (x11_6 : Int), v11 = .int .i64 x11_6 ∧ Aside0 (tenorref25_Count.l4 kq l0 l1 x9_5 x10_5 x11_6 = some (r1, r2)) ∧ Aside0 (kq ≤ k5) ∧ Aside0 (Kd.R (Kd.int .i64) 3 w' w.heap.size (fun _ => True) v121 x9_5) ∧ Aside0 (Below w.heap.size w w'))
                      case atStart => exact ⟨(0), (by first | rfl | (simp; done) | (simp [*]; done)), H', ⟨Nat.le_refl _⟩, ⟨by (with_reducible repeat (first | apply Kd.R_alloc | apply Kd.R_drewN | apply Kd.R_drew)); exact HO_9.out⟩, ⟨by repeat (first | (with_reducible first | exact HB.out | apply below_alloc | apply pw_below_drewN | apply below_drew1) | exact HB.out)⟩⟩
                      case round =>
                        clear H'
                        try clear c1
                        try clear p1
                        try clear q1
                        try clear hx1
                        try clear c2
                        try clear p2
                        try clear c3
                        try clear c3b0
                        try clear c3b1
                        try clear c5
                        try clear c5b0
                        try clear c5b1
                        try clear c5b2
                        try clear c6
                        try clear p6
                        try clear c7
                        try clear c7b0
                        try clear c8
                        try clear c8b0
                        try clear c10
                        try clear c11
                        try clear c11b0
                        try clear p11
                        try clear q11
                        try clear hx11
                        try clear c12
                        try clear c12b0
                        try clear c14
                        try clear c15
                        try clear c15b0
                        try clear c17
                        try clear c17b0
                        try clear c18
                        try clear c18b0
                        try clear c19
                        try clear c19b0
                        try clear c21
                        try clear c23
                        try clear c23b0
                        try clear c23b1
                        try clear c24
                        try clear c24b0
                        try clear c24b1
                        try clear c27
                        try clear c27b0
                        try clear hx113_0
                        try clear hx115_0
                        try clear hx117_0
                        try clear hx118_0
                        try clear p1
                        try clear p11
                        try clear p113
                        try clear p115
                        try clear p117
                        try clear p118
                        try clear p2
                        try clear p6
                        try clear q1
                        try clear q11
                        try clear q113
                        try clear q115
                        try clear q117
                        try clear q118
                        obtain ⟨x11_6, rfl, HA, HK6, HO_9, HB⟩ := hrel
                        cases gk with
                        | zero => exact absurd HA.out (by simp [tenorref25_Count.l4])
                        | succ k6 =>
                          have H := HA.out
                          clear HA
                          simp only [tenorref25_Count.l4] at H
                          by_cases c28 : x11_6 < (l1.length : Int)
                          rotate_left
                          · rw [if_neg c28] at H
                            have c28b0 : decide (x11_6 < (l1.length : Int)) = false := decide_eq_false c28
                            clear c28
                            by_cases c39 : 0 ≤ x11_6
                            rotate_left
                            · rw [if_neg c39] at H
                              exact absurd H (by simp)
                            rw [if_pos c39] at H
                            have c39b0 : decide (0 ≤ x11_6) = true := decide_eq_true c39
                            clear c39
                            by_cases c40 : x11_6 < (x9_5.length : Int)
                            rotate_left
                            · rw [if_neg c40] at H
                              exact absurd H (by simp)
                            rw [if_pos c40] at H
                            have c40b0 : decide (x11_6 < (x9_5.length : Int)) = true := decide_eq_true c40
                            clear c40
                            obtain ⟨y129, hy129⟩ : ∃ y_ : List Int, y_ = (x9_5.set (x11_6 : Int).toNat (wrap64 ((rd x9_5 x11_6) + 1))) := ⟨_, rfl⟩
                            replace H : (tenorref25_Count.l3 k6 l0 l1 y129 (wrap64 (x10_5 + 1))) = some (r1, r2) := by first | (rw [hy129]; with_reducible exact H) | (have H2_ := (Option.bind_some _ _).symm.trans H; rw [hy129]; with_reducible exact H2_) | (have H2_ := (Option.bind_some _ _).symm.trans H; with_reducible exact H2_) | with_reducible exact H | (rw [hy129]; exact H) | exact H
                            have Ny129 := Aside0.mk hy129
                            clear hy129
                            have H' := Aside0.mk H
                            clear H
                            obtain ⟨Ao42, co42, eo42⟩ := Kd.R_slice HO_9.out
                            subst eo42
                            have p128 : 0 ≤ (x11_6 : Int) := of_decide_eq_true (by first | (with_reducible assumption) | assumption)
                            have q128 : x11_6 < (x9_5.length : Int) := of_decide_eq_true (by first | (with_reducible assumption) | assumption)
                            obtain ⟨ad128, e128, hx128_0⟩ := Kd.at_int (Kd.R_reads' HO_9.out).2.2 x11_6 p128 q128
                            cases e128
                            replace p128 := eq_true p128
                            replace q128 := eq_true q128
                            have p41 : 0 ≤ (x11_6 : Int) := of_decide_eq_true (by first | (with_reducible assumption) | assumption)
                            have q41 : (x11_6 : Int) < ((x9_5.length : Int) : Int) := of_decide_eq_true (by first | (with_reducible assumption) | assumption)
                            obtain ⟨go41, co41, eo41, gb41, gl41, cl41, HG41⟩ := Kd.R_form HO_9.out (by omega)
                            (first | cases eo41 | (injection eo41 with ea_ en_ ec_; (first | subst ea_ | (injection ea_ with ea_; subst ea_)); subst ec_; clear en_))
                            have GB41 := Aside0.mk gb41
                            have GG41 := Aside0.mk HG41
                            clear gb41 gl41 HG41
                            (first | simp only [add_plain] at hx128_0 | skip)
                            obtain ⟨hx41_0, hf41_0⟩ := Kd.R_celln 0 HO_9.out (x11_6 : Int) p41 q41
                            replace p41 := eq_true p41
                            replace q41 := eq_true q41
                            have HP43 := Kd.R_putg HO_9.out (x11_6 : Int) (wrap64 ((rd x9_5 x11_6) + 1))
                            go_wp2_with (first | ((with_reducible refine gate_store (t := 3) (p := 97) rfl ?_); (try (rw [drewN_self wr]; generalize hq_ : World.drewN wr _ = wr; have n0_ := Aside0.mk (Kd.R_at hq_ HO_9.out); have n1_ := Aside0.mk (below_at hq_ HB.out); clear hq_ HO_9 HB; have HO_9 := n0_; have HB := n1_; clear n0_ n1_; (try (have HP43 := Kd.R_putg HO_9.out (x11_6 : Int) (wrap64 ((rd x9_5 x11_6) + 1)))))); refine store_event (t := 3) (p := 97) (v := ?vo_w44) (w1 := (wr.setCell ⟨go41, (x11_6 : Int).toNat, none⟩ (.int .i64 (wrap64 ((rd x9_5 x11_6) + 1))))) ?hg ?ho ?hn ?hr ?_; (case ho => rfl); (case hg => rfl); (case hn => rfl); (case hr => first | (go_simp; done) | (go_simp; rfl)); intro w44 hw; have hg : wr.grownBy w44 (some go41) := (by rw [hw]; exact HP43.2); have hp_ : Kd.R (Kd.int .i64) 3 w44 w.heap.size (fun _ => True) (.slice (some ⟨go41, 0, none⟩) x9_5.length co42) y129 := (by rw [hw, Ny129.out]; exact HP43.1); clear HP43; have n0_ := Aside0.mk (hp_); have n1_ := Aside0.mk ((by rw [hw]; exact below_set (HB.out) GB41.out : Below w.heap.size w w44)); clear HO_9; clear HB; have HO_9 := n0_; have HB := n1_; clear n0_ n1_; clear hg hw hp_))
                            repeat (go_quiet (first | ((with_reducible refine gate_store (t := 3) (p := 97) rfl ?_); (try (rw [drewN_self wr]; generalize hq_ : World.drewN wr _ = wr; have n0_ := Aside0.mk (Kd.R_at hq_ HO_9.out); have n1_ := Aside0.mk (below_at hq_ HB.out); clear hq_ HO_9 HB; have HO_9 := n0_; have HB := n1_; clear n0_ n1_; (try (have HP43 := Kd.R_putg HO_9.out (x11_6 : Int) (wrap64 ((rd x9_5 x11_6) + 1)))))); refine store_event (t := 3) (p := 97) (v := ?vo_w44) (w1 := (wr.setCell ⟨go41, (x11_6 : Int).toNat, none⟩ (.int .i64 (wrap64 ((rd x9_5 x11_6) + 1))))) ?hg ?ho ?hn ?hr ?_; (case ho => rfl); (case hg => rfl); (case hn => rfl); (case hr => first | (go_simp; done) | (go_simp; rfl)); intro w44 hw; have hg : wr.grownBy w44 (some go41) := (by rw [hw]; exact HP43.2); have hp_ : Kd.R (Kd.int .i64) 3 w44 w.heap.size (fun _ => True) (.slice (some ⟨go41, 0, none⟩) x9_5.length co42) y129 := (by rw [hw, Ny129.out]; exact HP43.1); clear HP43; have n0_ := Aside0.mk (hp_); have n1_ := Aside0.mk ((by rw [hw]; exact below_set (HB.out) GB41.out : Below w.heap.size w w44)); clear HO_9; clear HB; have HO_9 := n0_; have HB := n1_; clear n0_ n1_; clear hg hw hp_)); try go_wp2_with (first | ((with_reducible refine gate_store (t := 3) (p := 97) rfl ?_); (try (rw [drewN_self wr]; generalize hq_ : World.drewN wr _ = wr; have n0_ := Aside0.mk (Kd.R_at hq_ HO_9.out); have n1_ := Aside0.mk (below_at hq_ HB.out); clear hq_ HO_9 HB; have HO_9 := n0_; have HB := n1_; clear n0_ n1_; (try (have HP43 := Kd.R_putg HO_9.out (x11_6 : Int) (wrap64 ((rd x9_5 x11_6) + 1)))))); refine store_event (t := 3) (p := 97) (v := ?vo_w44) (w1 := (wr.setCell ⟨go41, (x11_6 : Int).toNat, none⟩ (.int .i64 (wrap64 ((rd x9_5 x11_6) + 1))))) ?hg ?ho ?hn ?hr ?_; (case ho => rfl); (case hg => rfl); (case hn => rfl); (case hr => first | (go_simp; done) | (go_simp; rfl)); intro w44 hw; have hg : wr.grownBy w44 (some go41) := (by rw [hw]; exact HP43.2); have hp_ : Kd.R (Kd.int .i64) 3 w44 w.heap.size (fun _ => True) (.slice (some ⟨go41, 0, none⟩) x9_5.length co42) y129 := (by rw [hw, Ny129.out]; exact HP43.1); clear HP43; have n0_ := Aside0.mk (hp_); have n1_ := Aside0.mk ((by rw [hw]; exact below_set (HB.out) GB41.out : Below w.heap.size w w44)); clear HO_9; clear HB; have HO_9 := n0_; have HB := n1_; clear n0_ n1_; clear hg hw hp_)))
                            go_roundg k6
                            case measure => have := HJ3.out; have := HK2.out; have := HK3.out; have := HK4.out; have := HK5.out; have := HK6.out; omega
                            case rel => exact ⟨(y129), (wrap64 (x10_5 + 1)), (by first | rfl | (simp; done) | (simp [*]; done)), H', ⟨by have := HJ3.out; have := HK2.out; have := HK3.out; have := HK4.out; have := HK5.out; have := HK6.out; omega⟩, ⟨by first | ((with_reducible repeat (first | apply Kd.R_alloc | apply Kd.R_drewN | apply Kd.R_drew)); exact HO_9.out) | (rw [Ny129.out]; exact (Kd.R_putg (Kd.R_drewN HO_9.out _) (x11_6 : Int) (wrap64 ((rd x9_5 x11_6) + 1))).1)⟩, ⟨by first | ((repeat (first | (with_reducible first | exact HB.out | apply below_alloc | apply pw_below_drewN | apply below_drew1) | exact HB.out)); done) | exact below_set (pw_below_drewN HB.out _) GB41.out⟩⟩
                          rw [if_pos c28] at H
                          have c28b0 : decide (x11_6 < (l1.length : Int)) = true := decide_eq_true c28
                          clear c28
                          by_cases c29 : 0 ≤ x10_5
                          rotate_left
                          · rw [if_neg c29] at H
                            exact absurd H (by simp)
                          rw [if_pos c29] at H
                          have c29b0 : decide (0 ≤ x10_5) = true := decide_eq_true c29
                          clear c29
                          by_cases c30 : x10_5 < (l0.length : Int)
                          rotate_left
                          · rw [if_neg c30] at H
                            exact absurd H (by simp)
                          rw [if_pos c30] at H
                          have c30b0 : decide (x10_5 < (l0.length : Int)) = true := decide_eq_true c30
                          clear c30
                          by_cases c31 : 0 ≤ x11_6
                          rotate_left
                          · rw [if_neg c31] at H
                            exact absurd H (by simp)
                          rw [if_pos c31] at H
                          have c31b0 : decide (0 ≤ x11_6) = true := decide_eq_true c31
                          clear c31
                          replace H := Option.bind_eq_some_iff.mp H
                          obtain ⟨t125, A320, H⟩ := H
                          replace H : (if t125 = true then (if x11_6 < (x9_5.length : Int) then (tenorref25_Count.l3 k6 l0 l1 (x9_5.set (x11_6 : Int).toNat (wrap64 ((rd x9_5 x11_6) + 1))) (wrap64 (x10_5 + 1))) else (none)) else (tenorref25_Count.l4 k6 l0 l1 x9_5 x10_5 (wrap64 (x11_6 + 1)))) = some (r1, r2) := H
                          have A32 := Aside0.mk A320
                          clear A320
                          by_cases c33 : t125 = true
                          rotate_left
                          · replace c33 := Bool.eq_false_iff.mpr c33
                            subst c33
                            have H1 : (tenorref25_Count.l4 k6 l0 l1 x9_5 x10_5 (wrap64 (x11_6 + 1))) = some (r1, r2) := by rw [if_neg (show ¬ (false = true) by decide)] at H; exact H
                            clear H
                            have H := H1
                            clear H1
                            have H' := Aside0.mk H
                            clear H
                            have p123 : 0 ≤ (x10_5 : Int) := of_decide_eq_true (by first | (with_reducible assumption) | assumption)
                            have q123 : x10_5 < (l0.length : Int) := of_decide_eq_true (by first | (with_reducible assumption) | assumption)
                            obtain ⟨ad123, e123, hx123_0⟩ := Kd.at_int HR0.out x10_5 p123 q123
                            cases e123
                            replace hx123_0 := (HB.out.cell (World.block_lt_of_cell? w _ hx123_0)).trans hx123_0
                            replace p123 := eq_true p123
                            replace q123 := eq_true q123
                            have p124 : 0 ≤ (x11_6 : Int) := of_decide_eq_true (by first | (with_reducible assumption) | assumption)
                            have q124 : x11_6 < (l1.length : Int) := of_decide_eq_true (by first | (with_reducible assumption) | assumption)
                            obtain ⟨ad124, e124, hx124_0⟩ := Kd.at_int HR1.out x11_6 p124 q124
                            cases e124
                            replace hx124_0 := (HB.out.cell (World.block_lt_of_cell? w _ hx124_0)).trans hx124_0
                            replace p124 := eq_true p124
                            replace q124 := eq_true q124
                            go_wp2_with (first | (go_at_call 43; (with_reducible refine (tenorref1_Lt.calls (rd l0 x10_5) (rd l1 x11_6) false _ A32.out).mono ?_); rintro e w' ⟨rfl, ⟨nd, rfl⟩⟩; (try first | exact ⟨rfl, _, World.drewN_drewN _ _ _⟩ | exact ⟨rfl, _, Eq.trans (World.drewN_drewN _ _ _) (congrArg (World.drewN _) (Nat.add_assoc _ _ _))⟩)))
                            repeat (go_quiet (first | (go_at_call 43; (with_reducible refine (tenorref1_Lt.calls (rd l0 x10_5) (rd l1 x11_6) false _ A32.out).mono ?_); rintro e w' ⟨rfl, ⟨nd, rfl⟩⟩; (try first | exact ⟨rfl, _, World.drewN_drewN _ _ _⟩ | exact ⟨rfl, _, Eq.trans (World.drewN_drewN _ _ _) (congrArg (World.drewN _) (Nat.add_assoc _ _ _))⟩))); try go_wp2_with (first | (go_at_call 43; (with_reducible refine (tenorref1_Lt.calls (rd l0 x10_5) (rd l1 x11_6) false _ A32.out).mono ?_); rintro e w' ⟨rfl, ⟨nd, rfl⟩⟩; (try first | exact ⟨rfl, _, World.drewN_drewN _ _ _⟩ | exact ⟨rfl, _, Eq.trans (World.drewN_drewN _ _ _) (congrArg (World.drewN _) (Nat.add_assoc _ _ _))⟩))))
                            go_roundg k6
                            case measure => have := HJ3.out; have := HK2.out; have := HK3.out; have := HK4.out; have := HK5.out; have := HK6.out; omega
                            case rel => exact ⟨(wrap64 (x11_6 + 1)), (by first | rfl | (simp; done) | (simp [*]; done)), H', ⟨by have := HJ3.out; have := HK2.out; have := HK3.out; have := HK4.out; have := HK5.out; have := HK6.out; omega⟩, ⟨by (with_reducible repeat (first | apply Kd.R_alloc | apply Kd.R_drewN | apply Kd.R_drew)); exact HO_9.out⟩, ⟨by repeat (first | (with_reducible first | exact HB.out | apply below_alloc | apply pw_below_drewN | apply below_drew1) | exact HB.out)⟩⟩
                          subst c33
                          have H1 : (if x11_6 < (x9_5.length : Int) then (tenorref25_Count.l3 k6 l0 l1 (x9_5.set (x11_6 : Int).toNat (wrap64 ((rd x9_5 x11_6) + 1))) (wrap64 (x10_5 + 1))) else (none)) = some (r1, r2) := by rw [if_pos rfl] at H; exact H
                          clear H
                          have H := H1
                          clear H1
                          by_cases c34 : x11_6 < (x9_5.length : Int)
                          rotate_left
                          · rw [if_neg c34] at H
                            exact absurd H (by simp)
                          rw [if_pos c34] at H
                          have c34b0 : decide (x11_6 < (x9_5.length : Int)) = true := decide_eq_true c34
                          clear c34
                          obtain ⟨y127, hy127⟩ : ∃ y_ : List Int, y_ = (x9_5.set (x11_6 : Int).toNat (wrap64 ((rd x9_5 x11_6) + 1))) := ⟨_, rfl⟩
                          replace H : (tenorref25_Count.l3 k6 l0 l1 y127 (wrap64 (x10_5 + 1))) = some (r1, r2) := by first | (rw [hy127]; with_reducible exact H) | (have H2_ := (Option.bind_some _ _).symm.trans H; rw [hy127]; with_reducible exact H2_) | (have H2_ := (Option.bind_some _ _).symm.trans H; with_reducible exact H2_) | with_reducible exact H | (rw [hy127]; exact H) | exact H
                          have Ny127 := Aside0.mk hy127
                          clear hy127
                          have H' := Aside0.mk H
                          clear H
                          have p123 : 0 ≤ (x10_5 : Int) := of_decide_eq_true (by first | (with_reducible assumption) | assumption)
                          have q123 : x10_5 < (l0.length : Int) := of_decide_eq_true (by first | (with_reducible assumption) | assumption)
                          obtain ⟨ad123, e123, hx123_0⟩ := Kd.at_int HR0.out x10_5 p123 q123
                          cases e123
                          replace hx123_0 := (HB.out.cell (World.block_lt_of_cell? w _ hx123_0)).trans hx123_0
                          replace p123 := eq_true p123
                          replace q123 := eq_true q123
                          have p124 : 0 ≤ (x11_6 : Int) := of_decide_eq_true (by first | (with_reducible assumption) | assumption)
                          have q124 : x11_6 < (l1.length : Int) := of_decide_eq_true (by first | (with_reducible assumption) | assumption)
                          obtain ⟨ad124, e124, hx124_0⟩ := Kd.at_int HR1.out x11_6 p124 q124
                          cases e124
                          replace hx124_0 := (HB.out.cell (World.block_lt_of_cell? w _ hx124_0)).trans hx124_0
                          replace p124 := eq_true p124
                          replace q124 := eq_true q124
                          go_wp2_with (first | (go_at_call 43; (with_reducible refine (tenorref1_Lt.calls (rd l0 x10_5) (rd l1 x11_6) true _ A32.out).mono ?_); rintro e w' ⟨rfl, ⟨nd, rfl⟩⟩; (try first | exact ⟨rfl, _, World.drewN_drewN _ _ _⟩ | exact ⟨rfl, _, Eq.trans (World.drewN_drewN _ _ _) (congrArg (World.drewN _) (Nat.add_assoc _ _ _))⟩); obtain ⟨Ao36, co36, eo36⟩ := Kd.R_slice HO_9.out; subst eo36; have p126 : 0 ≤ (x11_6 : Int) := of_decide_eq_true (by first | (with_reducible assumption) | assumption); have q126 : x11_6 < (x9_5.length : Int) := of_decide_eq_true (by first | (with_reducible assumption) | assumption); obtain ⟨ad126, e126, hx126_0⟩ := Kd.at_int (Kd.R_reads' HO_9.out).2.2 x11_6 p126 q126; cases e126; replace p126 := eq_true p126; replace q126 := eq_true q126; have p35 : 0 ≤ (x11_6 : Int) := of_decide_eq_true (by first | (with_reducible assumption) | assumption); have q35 : (x11_6 : Int) < ((x9_5.length : Int) : Int) := of_decide_eq_true (by first | (with_reducible assumption) | assumption); obtain ⟨go35, co35, eo35, gb35, gl35, cl35, HG35⟩ := Kd.R_form HO_9.out (by omega); (first | cases eo35 | (injection eo35 with ea_ en_ ec_; (first | subst ea_ | (injection ea_ with ea_; subst ea_)); subst ec_; clear en_)); have GB35 := Aside0.mk gb35; have GG35 := Aside0.mk HG35; clear gb35 gl35 HG35; (first | simp only [add_plain] at hx126_0 | skip); obtain ⟨hx35_0, hf35_0⟩ := Kd.R_celln 0 HO_9.out (x11_6 : Int) p35 q35; replace p35 := eq_true p35; replace q35 := eq_true q35; obtain ⟨hy37_, hz37_⟩ := Kd.R_celln 0 HO_9.out (x11_6 : Int) (of_decide_eq_true (by first | (with_reducible assumption) | assumption)) (of_decide_eq_true (by first | (with_reducible assumption) | assumption)); have HP37 := Kd.R_putg HO_9.out (x11_6 : Int) (wrap64 ((rd x9_5 x11_6) + 1))) | ((with_reducible refine gate_store (t := 3) (p := 97) rfl ?_); (try (rw [drewN_self wr]; generalize hq_ : World.drewN wr _ = wr; have n0_ := Aside0.mk (Kd.R_at hq_ HO_9.out); have n1_ := Aside0.mk (below_at hq_ HB.out); clear hq_ HO_9 HB; have HO_9 := n0_; have HB := n1_; clear n0_ n1_; (try (obtain ⟨hy37_, hz37_⟩ := Kd.R_celln 0 HO_9.out (x11_6 : Int) (of_decide_eq_true (by first | (with_reducible assumption) | assumption)) (of_decide_eq_true (by first | (with_reducible assumption) | assumption)))); (try (have HP37 := Kd.R_putg HO_9.out (x11_6 : Int) (wrap64 ((rd x9_5 x11_6) + 1)))))); refine store_event (t := 3) (p := 97) (v := ?vo_w38) (w1 := (wr.setCell ⟨go35, (x11_6 : Int).toNat, none⟩ (.int .i64 (wrap64 ((rd x9_5 x11_6) + 1))))) ?hg ?ho ?hn ?hr ?_; (case ho => rfl); (case hg => rfl); (case hn => rfl); (case hr => first | (go_simp; done) | (go_simp; rfl)); intro w38 hw; have hg : wr.grownBy w38 (some go35) := (by rw [hw]; exact HP37.2); have hp_ : Kd.R (Kd.int .i64) 3 w38 w.heap.size (fun _ => True) (.slice (some ⟨go35, 0, none⟩) x9_5.length co36) y127 := (by rw [hw, Ny127.out]; exact HP37.1); clear HP37; have n0_ := Aside0.mk (hp_); have n1_ := Aside0.mk ((by rw [hw]; exact below_set (HB.out) GB35.out : Below w.heap.size w w38)); clear HO_9; clear HB; have HO_9 := n0_; have HB := n1_; clear n0_ n1_; clear hg hw hp_))
                          repeat (go_quiet (first | (go_at_call 43; (with_reducible refine (tenorref1_Lt.calls (rd l0 x10_5) (rd l1 x11_6) true _ A32.out).mono ?_); rintro e w' ⟨rfl, ⟨nd, rfl⟩⟩; (try first | exact ⟨rfl, _, World.drewN_drewN _ _ _⟩ | exact ⟨rfl, _, Eq.trans (World.drewN_drewN _ _ _) (congrArg (World.drewN _) (Nat.add_assoc _ _ _))⟩); obtain ⟨Ao36, co36, eo36⟩ := Kd.R_slice HO_9.out; subst eo36; have p126 : 0 ≤ (x11_6 : Int) := of_decide_eq_true (by first | (with_reducible assumption) | assumption); have q126 : x11_6 < (x9_5.length : Int) := of_decide_eq_true (by first | (with_reducible assumption) | assumption); obtain ⟨ad126, e126, hx126_0⟩ := Kd.at_int (Kd.R_reads' HO_9.out).2.2 x11_6 p126 q126; cases e126; replace p126 := eq_true p126; replace q126 := eq_true q126; have p35 : 0 ≤ (x11_6 : Int) := of_decide_eq_true (by first | (with_reducible assumption) | assumption); have q35 : (x11_6 : Int) < ((x9_5.length : Int) : Int) := of_decide_eq_true (by first | (with_reducible assumption) | assumption); obtain ⟨go35, co35, eo35, gb35, gl35, cl35, HG35⟩ := Kd.R_form HO_9.out (by omega); (first | cases eo35 | (injection eo35 with ea_ en_ ec_; (first | subst ea_ | (injection ea_ with ea_; subst ea_)); subst ec_; clear en_)); have GB35 := Aside0.mk gb35; have GG35 := Aside0.mk HG35; clear gb35 gl35 HG35; (first | simp only [add_plain] at hx126_0 | skip); obtain ⟨hx35_0, hf35_0⟩ := Kd.R_celln 0 HO_9.out (x11_6 : Int) p35 q35; replace p35 := eq_true p35; replace q35 := eq_true q35; obtain ⟨hy37_, hz37_⟩ := Kd.R_celln 0 HO_9.out (x11_6 : Int) (of_decide_eq_true (by first | (with_reducible assumption) | assumption)) (of_decide_eq_true (by first | (with_reducible assumption) | assumption)); have HP37 := Kd.R_putg HO_9.out (x11_6 : Int) (wrap64 ((rd x9_5 x11_6) + 1))) | ((with_reducible refine gate_store (t := 3) (p := 97) rfl ?_); (try (rw [drewN_self wr]; generalize hq_ : World.drewN wr _ = wr; have n0_ := Aside0.mk (Kd.R_at hq_ HO_9.out); have n1_ := Aside0.mk (below_at hq_ HB.out); clear hq_ HO_9 HB; have HO_9 := n0_; have HB := n1_; clear n0_ n1_; (try (obtain ⟨hy37_, hz37_⟩ := Kd.R_celln 0 HO_9.out (x11_6 : Int) (of_decide_eq_true (by first | (with_reducible assumption) | assumption)) (of_decide_eq_true (by first | (with_reducible assumption) | assumption)))); (try (have HP37 := Kd.R_putg HO_9.out (x11_6 : Int) (wrap64 ((rd x9_5 x11_6) + 1)))))); refine store_event (t := 3) (p := 97) (v := ?vo_w38) (w1 := (wr.setCell ⟨go35, (x11_6 : Int).toNat, none⟩ (.int .i64 (wrap64 ((rd x9_5 x11_6) + 1))))) ?hg ?ho ?hn ?hr ?_; (case ho => rfl); (case hg => rfl); (case hn => rfl); (case hr => first | (go_simp; done) | (go_simp; rfl)); intro w38 hw; have hg : wr.grownBy w38 (some go35) := (by rw [hw]; exact HP37.2); have hp_ : Kd.R (Kd.int .i64) 3 w38 w.heap.size (fun _ => True) (.slice (some ⟨go35, 0, none⟩) x9_5.length co36) y127 := (by rw [hw, Ny127.out]; exact HP37.1); clear HP37; have n0_ := Aside0.mk (hp_); have n1_ := Aside0.mk ((by rw [hw]; exact below_set (HB.out) GB35.out : Below w.heap.size w w38)); clear HO_9; clear HB; have HO_9 := n0_; have HB := n1_; clear n0_ n1_; clear hg hw hp_)); try go_wp2_with (first | (go_at_call 43; (with_reducible refine (tenorref1_Lt.calls (rd l0 x10_5) (rd l1 x11_6) true _ A32.out).mono ?_); rintro e w' ⟨rfl, ⟨nd, rfl⟩⟩; (try first | exact ⟨rfl, _, World.drewN_drewN _ _ _⟩ | exact ⟨rfl, _, Eq.trans (World.drewN_drewN _ _ _) (congrArg (World.drewN _) (Nat.add_assoc _ _ _))⟩); obtain ⟨Ao36, co36, eo36⟩ := Kd.R_slice HO_9.out; subst eo36; have p126 : 0 ≤ (x11_6 : Int) := of_decide_eq_true (by first | (with_reducible assumption) | assumption); have q126 : x11_6 < (x9_5.length : Int) := of_decide_eq_true (by first | (with_reducible assumption) | assumption); obtain ⟨ad126, e126, hx126_0⟩ := Kd.at_int (Kd.R_reads' HO_9.out).2.2 x11_6 p126 q126; cases e126; replace p126 := eq_true p126; replace q126 := eq_true q126; have p35 : 0 ≤ (x11_6 : Int) := of_decide_eq_true (by first | (with_reducible assumption) | assumption); have q35 : (x11_6 : Int) < ((x9_5.length : Int) : Int) := of_decide_eq_true (by first | (with_reducible assumption) | assumption); obtain ⟨go35, co35, eo35, gb35, gl35, cl35, HG35⟩ := Kd.R_form HO_9.out (by omega); (first | cases eo35 | (injection eo35 with ea_ en_ ec_; (first | subst ea_ | (injection ea_ with ea_; subst ea_)); subst ec_; clear en_)); have GB35 := Aside0.mk gb35; have GG35 := Aside0.mk HG35; clear gb35 gl35 HG35; (first | simp only [add_plain] at hx126_0 | skip); obtain ⟨hx35_0, hf35_0⟩ := Kd.R_celln 0 HO_9.out (x11_6 : Int) p35 q35; replace p35 := eq_true p35; replace q35 := eq_true q35; obtain ⟨hy37_, hz37_⟩ := Kd.R_celln 0 HO_9.out (x11_6 : Int) (of_decide_eq_true (by first | (with_reducible assumption) | assumption)) (of_decide_eq_true (by first | (with_reducible assumption) | assumption)); have HP37 := Kd.R_putg HO_9.out (x11_6 : Int) (wrap64 ((rd x9_5 x11_6) + 1))) | ((with_reducible refine gate_store (t := 3) (p := 97) rfl ?_); (try (rw [drewN_self wr]; generalize hq_ : World.drewN wr _ = wr; have n0_ := Aside0.mk (Kd.R_at hq_ HO_9.out); have n1_ := Aside0.mk (below_at hq_ HB.out); clear hq_ HO_9 HB; have HO_9 := n0_; have HB := n1_; clear n0_ n1_; (try (obtain ⟨hy37_, hz37_⟩ := Kd.R_celln 0 HO_9.out (x11_6 : Int) (of_decide_eq_true (by first | (with_reducible assumption) | assumption)) (of_decide_eq_true (by first | (with_reducible assumption) | assumption)))); (try (have HP37 := Kd.R_putg HO_9.out (x11_6 : Int) (wrap64 ((rd x9_5 x11_6) + 1)))))); refine store_event (t := 3) (p := 97) (v := ?vo_w38) (w1 := (wr.setCell ⟨go35, (x11_6 : Int).toNat, none⟩ (.int .i64 (wrap64 ((rd x9_5 x11_6) + 1))))) ?hg ?ho ?hn ?hr ?_; (case ho => rfl); (case hg => rfl); (case hn => rfl); (case hr => first | (go_simp; done) | (go_simp; rfl)); intro w38 hw; have hg : wr.grownBy w38 (some go35) := (by rw [hw]; exact HP37.2); have hp_ : Kd.R (Kd.int .i64) 3 w38 w.heap.size (fun _ => True) (.slice (some ⟨go35, 0, none⟩) x9_5.length co36) y127 := (by rw [hw, Ny127.out]; exact HP37.1); clear HP37; have n0_ := Aside0.mk (hp_); have n1_ := Aside0.mk ((by rw [hw]; exact below_set (HB.out) GB35.out : Below w.heap.size w w38)); clear HO_9; clear HB; have HO_9 := n0_; have HB := n1_; clear n0_ n1_; clear hg hw hp_)))
                          go_roundg k6
                          case measure => have := HJ3.out; have := HK2.out; have := HK3.out; have := HK4.out; have := HK5.out; have := HK6.out; omega
                          case rel => exact ⟨(y127), (wrap64 (x10_5 + 1)), (by first | rfl | (simp; done) | (simp [*]; done)), H', ⟨by have := HJ3.out; have := HK2.out; have := HK3.out; have := HK4.out; have := HK5.out; have := HK6.out; omega⟩, ⟨by first | ((with_reducible repeat (first | apply Kd.R_alloc | apply Kd.R_drewN | apply Kd.R_drew)); exact HO_9.out) | (rw [Ny127.out]; exact (Kd.R_putg (Kd.R_drewN HO_9.out _) (x11_6 : Int) (wrap64 ((rd x9_5 x11_6) + 1))).1)⟩, ⟨by first | ((repeat (first | (with_reducible first | exact HB.out | apply below_alloc | apply pw_below_drewN | apply below_drew1) | exact HB.out)); done) | exact below_set (pw_below_drewN HB.out _) GB35.out⟩⟩

end Go.Proofs.Ytepcegiciecogaa.FI
