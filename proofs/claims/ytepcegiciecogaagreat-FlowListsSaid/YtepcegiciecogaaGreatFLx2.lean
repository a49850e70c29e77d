/- Written by the session's fprint.py out of the translation. -/
import Derived.Test.YtepcegiciecogaaGreatFLx0
import Derived.Test.YtepcegiciecogaaGreatFLx1
namespace Go.Proofs.YtepcegiciecogaaGreat.FL
open Go.RowKit Go.Proofs.YtepcegiciecogaaGreatW.PrintWords Go.Proofs.YtepcegiciecogaaGreatW.PrintLast Go.Proofs.YtepcegiciecogaaGreatW.PrintMore
attribute [local go_sem] max2_int min2_int max_two min_two max_three min_three max_four min_four   -- for this text's walks alone
open Go.Proofs.YtepcegiciecogaaGreat.FX Go.Proofs.YtepcegiciecogaaGreat.FB Go.Proofs.YtepcegiciecogaaGreat.FR Go.Proofs.YtepcegiciecogaaGreat.FDa
attribute [local go_sem] run_store_float run_neg_float run_fmul isSome_setCell run_equalIn_float
set_option linter.unusedVariables false
set_option linter.unusedSimpArgs false

/-! ### tenorref14_Window: function 21 -/
def tenorref14_Window.l0 : Nat → List (S79) → Int → Int → List (S79) → Int → Option ((List (S79)))
  | 0, _, _, _, _, _ => none
  | k + 1, x0, x1, x2, x7, x8 => if x8 < (x0.length : Int) then (if 0 ≤ x8 then (if x1 ≤ ((rd_T79 x0 x8).f0) then (if ((rd_T79 x0 x8).f0) < x2 then (if x7.length < 5864062014805 then (tenorref14_Window.l0 k x0 x1 x2 (x7 ++ [(⟨(rd_T79 x0 x8).f0, (rd_T79 x0 x8).f1, (rd_T79 x0 x8).f2⟩ : S79)]) (wrap64 (x8 + 1))) else (none)) else (tenorref14_Window.l0 k x0 x1 x2 x7 (wrap64 (x8 + 1)))) else (tenorref14_Window.l0 k x0 x1 x2 x7 (wrap64 (x8 + 1)))) else (none)) else (some x7)
def tenorref14_Window.f (k : Nat) (l0 : List (S79)) (a1 : Int) (a2 : Int) : Option ((List (S79))) := tenorref14_Window.l0 k l0 a1 a2 ([] : List (S79)) 0
set_option maxHeartbeats 8000000 in
set_option maxRecDepth 100000 in
theorem tenorref14_Window.calls (k : Nat) (A0 : Option Addr) (c0 : Nat) (l0 : List (S79)) (a1 : Int) (a2 : Int) (r : List (S79)) (w : World) (hr0 : Kd.C k79 w A0 l0.length l0) (hc0 : l0.length ≤ c0) (h : tenorref14_Window.f k l0 a1 a2 = some r) :
    Calls Tryz.prog 21 #[.slice A0 l0.length c0, .int .i64 a1, .int .i64 a2] w fun e w' => ∃ v0_ : Value, e = .returned (v0_) ∧ Kd.R k79 79 w' w.heap.size (fun _ => True) v0_ r ∧ Below w.heap.size w w' := by
  have hu79 := Tryz.underlying79
  have HR0 := Aside0.mk hr0
  have HC0 := Aside0.mk hc0
  clear hr0 hc0
  have HB := Aside0.mk (Below.refl w.heap.size w)
  have H : (tenorref14_Window.l0 k l0 a1 a2 ([] : List (S79)) 0) = some r := h
  clear h
  have H' := Aside0.mk H
  clear H
  go_enter Tryz.func21, Tryz.ntmps21
  go_wp2
  go_loopg [7, 8] k (fun kq v7 v8 w' => ∃ (x7_1 : List (S79)) (x8_1 : Int), v8 = .int .i64 x8_1 ∧ Aside0 (tenorref14_Window.l0 kq l0 a1 a2 x7_1 x8_1 = some r) ∧ Aside0 (kq ≤ k) ∧ Aside0 (Kd.R k79 79 w' w.heap.size (fun _ => True) v7 x7_1) ∧ Aside0 (Below w.heap.size w w'))
  case atStart => exact ⟨(([] : List (S79))), (0), (by first | rfl | (simp; done) | (simp [*]; done)), H', ⟨Nat.le_refl _⟩, ⟨by first | exact Kd.R_nil _ _ _ _ _ | exact Kd.N_nil _ _ _ _ _ | exact Kd.V_nil _ _ _ _ _ | exact Kd.Q_nil _ _ _ _ _ | exact Kd.S_nil _ _ _ _ _⟩, ⟨bA HB.out⟩⟩
  case round =>
    clear H'
    try clear c2
    try clear p2
    obtain ⟨x7_1, x8_1, rfl, HA, HK1, HO_7, HB⟩ := hrel
    cases gk with
    | zero => exact absurd HA.out (by simp [tenorref14_Window.l0])
    | succ k1 =>
      have H := HA.out
      clear HA
      simp only [tenorref14_Window.l0] at H
      by_cases c4 : x8_1 < (l0.length : Int)
      rotate_left
      · rw [if_neg c4] at H
        have c4b0 : decide (x8_1 < (l0.length : Int)) = false := decide_eq_false c4
        clear c4
        obtain rfl := Option.some.inj H
        go_wp2
        go_ret
        exact ⟨_, by first | rfl | (simp [errW_none, errW_some] <;> rfl) | (simp [*, errW_none, errW_some] <;> rfl), by (with_reducible repeat (first | apply Kd.R_alloc | apply Kd.R_drewN | apply Kd.R_drew)); exact HO_7.out, bA HB.out⟩
      rw [if_pos c4] at H
      have c4b0 : decide (x8_1 < (l0.length : Int)) = true := decide_eq_true c4
      clear c4
      by_cases c5 : 0 ≤ x8_1
      rotate_left
      · rw [if_neg c5] at H
        exact absurd H (by simp)
      rw [if_pos c5] at H
      have c5b0 : decide (0 ≤ x8_1) = true := decide_eq_true c5
      clear c5
      by_cases c6 : a1 ≤ ((rd_T79 l0 x8_1).f0)
      rotate_left
      · rw [if_neg c6] at H
        have c6b0 : decide (a1 ≤ ((rd_T79 l0 x8_1).f0)) = false := decide_eq_false c6
        clear c6
        have H' := Aside0.mk H
        clear H
        have p127 : 0 ≤ (x8_1 : Int) := of_decide_eq_true asA
        have q127 : x8_1 < (l0.length : Int) := of_decide_eq_true asA
        obtain ⟨ad127, e127, hx127_0, hx127_1, hx127_2⟩ := at_T79 HR0.out x8_1 p127 q127
        cases e127
        replace hx127_0 := (HB.out.cell (World.block_lt_of_cell? w _ hx127_0)).trans hx127_0
        replace hx127_1 := (HB.out.cell (World.block_lt_of_cell? w _ hx127_1)).trans hx127_1
        replace hx127_2 := (HB.out.cell (World.block_lt_of_cell? w _ hx127_2)).trans hx127_2
        replace p127 := eq_true p127
        replace q127 := eq_true q127
        go_wp2
        go_roundg k1
        case measure => have := HK1.out; omega
        case rel => exact ⟨(x7_1), (wrap64 (x8_1 + 1)), (by first | rfl | (simp; done) | (simp [*]; done)), H', ⟨by have := HK1.out; omega⟩, ⟨rA HO_7.out⟩, ⟨bA HB.out⟩⟩
      rw [if_pos c6] at H
      have c6b0 : decide (a1 ≤ ((rd_T79 l0 x8_1).f0)) = true := decide_eq_true c6
      clear c6
      by_cases c7 : ((rd_T79 l0 x8_1).f0) < a2
      rotate_left
      · rw [if_neg c7] at H
        have c7b0 : decide (((rd_T79 l0 x8_1).f0) < a2) = false := decide_eq_false c7
        clear c7
        have H' := Aside0.mk H
        clear H
        have p127 : 0 ≤ (x8_1 : Int) := of_decide_eq_true asA
        have q127 : x8_1 < (l0.length : Int) := of_decide_eq_true asA
        obtain ⟨ad127, e127, hx127_0, hx127_1, hx127_2⟩ := at_T79 HR0.out x8_1 p127 q127
        cases e127
        replace hx127_0 := (HB.out.cell (World.block_lt_of_cell? w _ hx127_0)).trans hx127_0
        replace hx127_1 := (HB.out.cell (World.block_lt_of_cell? w _ hx127_1)).trans hx127_1
        replace hx127_2 := (HB.out.cell (World.block_lt_of_cell? w _ hx127_2)).trans hx127_2
        replace p127 := eq_true p127
        replace q127 := eq_true q127
        have p128 : 0 ≤ (x8_1 : Int) := of_decide_eq_true asA
        have q128 : x8_1 < (l0.length : Int) := of_decide_eq_true asA
        obtain ⟨ad128, e128, hx128_0, hx128_1, hx128_2⟩ := at_T79 HR0.out x8_1 p128 q128
        obtain rfl : ad127 = ad128 := (by injection e128)
        replace hx128_0 := (HB.out.cell (World.block_lt_of_cell? w _ hx128_0)).trans hx128_0
        replace hx128_1 := (HB.out.cell (World.block_lt_of_cell? w _ hx128_1)).trans hx128_1
        replace hx128_2 := (HB.out.cell (World.block_lt_of_cell? w _ hx128_2)).trans hx128_2
        replace p128 := eq_true p128
        replace q128 := eq_true q128
        go_wp2
        go_roundg k1
        case measure => have := HK1.out; omega
        case rel => exact ⟨(x7_1), (wrap64 (x8_1 + 1)), (by first | rfl | (simp; done) | (simp [*]; done)), H', ⟨by have := HK1.out; omega⟩, ⟨rA HO_7.out⟩, ⟨bA HB.out⟩⟩
      rw [if_pos c7] at H
      have c7b0 : decide (((rd_T79 l0 x8_1).f0) < a2) = true := decide_eq_true c7
      clear c7
      by_cases c8 : x7_1.length < 5864062014805
      rotate_left
      · rw [if_neg c8] at H
        exact absurd H (by simp)
      rw [if_pos c8] at H
      have LMc8 := Aside0.mk c8
      clear c8
      obtain ⟨y130, hy130⟩ : ∃ y_ : List (S79), y_ = (x7_1 ++ [(⟨(rd_T79 l0 x8_1).f0, (rd_T79 l0 x8_1).f1, (rd_T79 l0 x8_1).f2⟩ : S79)]) := ⟨_, rfl⟩
      replace H : (tenorref14_Window.l0 k1 l0 a1 a2 y130 (wrap64 (x8_1 + 1))) = some r := by first | (rw [hy130]; with_reducible exact H) | (have H2_ := (Option.bind_some _ _).symm.trans H; rw [hy130]; with_reducible exact H2_) | (have H2_ := (Option.bind_some _ _).symm.trans H; with_reducible exact H2_) | with_reducible exact H | (rw [hy130]; exact H) | exact H
      have Ny130 := Aside0.mk hy130
      clear hy130
      have H' := Aside0.mk H
      clear H
      have p127 : 0 ≤ (x8_1 : Int) := of_decide_eq_true asA
      have q127 : x8_1 < (l0.length : Int) := of_decide_eq_true asA
      obtain ⟨ad127, e127, hx127_0, hx127_1, hx127_2⟩ := at_T79 HR0.out x8_1 p127 q127
      cases e127
      replace hx127_0 := (HB.out.cell (World.block_lt_of_cell? w _ hx127_0)).trans hx127_0
      replace hx127_1 := (HB.out.cell (World.block_lt_of_cell? w _ hx127_1)).trans hx127_1
      replace hx127_2 := (HB.out.cell (World.block_lt_of_cell? w _ hx127_2)).trans hx127_2
      replace p127 := eq_true p127
      replace q127 := eq_true q127
      have p128 : 0 ≤ (x8_1 : Int) := of_decide_eq_true asA
      have q128 : x8_1 < (l0.length : Int) := of_decide_eq_true asA
      obtain ⟨ad128, e128, hx128_0, hx128_1, hx128_2⟩ := at_T79 HR0.out x8_1 p128 q128
      obtain rfl : ad127 = ad128 := (by injection e128)
      replace hx128_0 := (HB.out.cell (World.block_lt_of_cell? w _ hx128_0)).trans hx128_0
      replace hx128_1 := (HB.out.cell (World.block_lt_of_cell? w _ hx128_1)).trans hx128_1
      replace hx128_2 := (HB.out.cell (World.block_lt_of_cell? w _ hx128_2)).trans hx128_2
      replace p128 := eq_true p128
      replace q128 := eq_true q128
      have p129 : 0 ≤ (x8_1 : Int) := of_decide_eq_true asA
      have q129 : x8_1 < (l0.length : Int) := of_decide_eq_true asA
      obtain ⟨ad129, e129, hx129_0, hx129_1, hx129_2⟩ := at_T79 HR0.out x8_1 p129 q129
      obtain rfl : ad127 = ad129 := (by injection e129)
      replace hx129_0 := (HB.out.cell (World.block_lt_of_cell? w _ hx129_0)).trans hx129_0
      replace hx129_1 := (HB.out.cell (World.block_lt_of_cell? w _ hx129_1)).trans hx129_1
      replace hx129_2 := (HB.out.cell (World.block_lt_of_cell? w _ hx129_2)).trans hx129_2
      replace p129 := eq_true p129
      replace q129 := eq_true q129
      go_wp2_with (first | ((with_reducible refine gate_builtin (b := .append) (xs := #[.tmp 31, .tmp 36]) rfl ?_); at_builtin; refine Kd.R_append k79 (w0 := w) w.heap.size rfl (.tmp 31) (.tmp 36) 28 79 (.agg #[(.int .i64 0), (.int .u64 0), (.int .i64 0)]) 24 rfl Tryz.underlying28 info79 rfl (by decide) (by omega) u7 x7_1 (⟨(rd_T79 l0 x8_1).f0, (rd_T79 l0 x8_1).f1, (rd_T79 l0 x8_1).f2⟩ : S79) [.int .i64 ((rd_T79 l0 x8_1).f0), .int .u64 ((rd_T79 l0 x8_1).f1), .int .i64 ((rd_T79 l0 x8_1).f2)] (fun _ => True) (fun _ => False) rfl rfl ?aP (fun _ hk => hk.elim) ?aF ?aO ?aB ?aS ?aL ?_; (case aP => exact k79_mkM _ _ _ (⟨(rd_T79 l0 x8_1).f0, (rd_T79 l0 x8_1).f1, (rd_T79 l0 x8_1).f2⟩ : S79)); (case aB => exact (bA HB.out)); (case aF => exact (fun _ _ => trivial)); (case aO => exact (rA HO_7.out)); (case aS => exact (below_size (bA HB.out))); (case aL => have := LMc8.out; omega); intro v131 w9 ho hb hg hat; rw [← Ny130.out] at ho; have n0_ := Aside0.mk (hb); have n1_ := Aside0.mk (ho); clear HB; clear HO_7; have HB := n0_; have HO132 := n1_; clear n0_ n1_; clear ho hb hg hat))
      go_roundg k1
      case measure => have := HK1.out; omega
      case rel => exact ⟨(y130), (wrap64 (x8_1 + 1)), (by first | rfl | (simp; done) | (simp [*]; done)), H', ⟨by have := HK1.out; omega⟩, ⟨rA HO132.out⟩, ⟨bA HB.out⟩⟩

/-! ### tenorref14_Shift: function 17 -/
def tenorref14_Shift.l0 : Nat → List (S79) → Int → List (S79) → Int → Option ((List (S79)) × Int)
  | 0, _, _, _, _ => none
  | k + 1, x0, x1, x6, x7 => if x7 < (x0.length : Int) then (if 0 ≤ x7 then ((tenorref5_Months.f k ((rd_T79 x0 x7).f0) x1 false).bind fun bt134 => (if bt134.2 = 0 then (if x6.length < 5864062014805 then (tenorref14_Shift.l0 k x0 x1 (x6 ++ [(⟨bt134.1, (rd_T79 x0 x7).f1, (rd_T79 x0 x7).f2⟩ : S79)]) (wrap64 (x7 + 1))) else (none)) else (some (([] : List (S79)), bt134.2)))) else (none)) else (some (x6, 0))
def tenorref14_Shift.f (k : Nat) (l0 : List (S79)) (a1 : Int) : Option ((List (S79)) × Int) := tenorref14_Shift.l0 k l0 a1 ([] : List (S79)) 0
def tenorref14_Shift.T8 : Bool × List (List Nat × List Nat) := (true, [([], []), ([], []), ([], []), ([], []), ([2, 3], [2, 3]), ([4], [4]), ([5], [5]), ([], []), ([], []), ([7, 8], [7, 8]), ([9], [9]), ([10], [10]), ([1, 6, 11], [1, 6, 11]), ([12], [12]), ([0, 13], [0, 13]), ([14, 14, 0, 1, 2, 3, 4, 5, 6, 7, 8, 9, 10, 11, 12, 13, 14], [0, 14])])
def tenorref14_Shift.B8 : List Nat := [0, 0, 0, 0, 12, 28, 60, 0, 0, 384, 896, 1920, 4094, 8190, 16383, 32767]
theorem tenorref14_Shift.tab8 : rtab .any (opsOf Tryz.f17 8) = tenorref14_Shift.T8 := by kernel_rfl
theorem tenorref14_Shift.bits8 : waitsOk tenorref14_Shift.T8.2 tenorref14_Shift.B8 = true := by kernel_rfl
set_option maxHeartbeats 8000000 in
set_option maxRecDepth 100000 in
theorem tenorref14_Shift.calls (k : Nat) (A0 : Option Addr) (c0 : Nat) (l0 : List (S79)) (a1 : Int) (r1 : List (S79)) (r2 : Int) (w : World) (hr0 : Kd.C k79 w A0 l0.length l0) (hc0 : l0.length ≤ c0) (h : tenorref14_Shift.f k l0 a1 = some (r1, r2)) :
    Calls Tryz.prog 17 #[.slice A0 l0.length c0, .int .i64 a1] w fun e w' => ∃ v0_ : Value, e = .returned (.tuple #[v0_, .int .i64 r2]) ∧ Kd.R k79 79 w' w.heap.size (fun _ => True) v0_ r1 ∧ Below w.heap.size w w' := by
  have hu79 := Tryz.underlying79
  have HR0 := Aside0.mk hr0
  have HC0 := Aside0.mk hc0
  clear hr0 hc0
  have HB := Aside0.mk (Below.refl w.heap.size w)
  have H : (tenorref14_Shift.l0 k l0 a1 ([] : List (S79)) 0) = some (r1, r2) := h
  clear h
  have H' := Aside0.mk H
  clear H
  go_enter Tryz.func17, Tryz.ntmps17
  go_wp2
  go_loopg [6, 7] k (fun kq v6 v7 w' => ∃ (x6_1 : List (S79)) (x7_1 : Int), v7 = .int .i64 x7_1 ∧ Aside0 (tenorref14_Shift.l0 kq l0 a1 x6_1 x7_1 = some (r1, r2)) ∧ Aside0 (kq ≤ k) ∧ Aside0 (Kd.R k79 79 w' w.heap.size (fun _ => True) v6 x6_1) ∧ Aside0 (Below w.heap.size w w'))
  case atStart => exact ⟨(([] : List (S79))), (0), (by first | rfl | (simp; done) | (simp [*]; done)), H', ⟨Nat.le_refl _⟩, ⟨by first | exact Kd.R_nil _ _ _ _ _ | exact Kd.N_nil _ _ _ _ _ | exact Kd.V_nil _ _ _ _ _ | exact Kd.Q_nil _ _ _ _ _ | exact Kd.S_nil _ _ _ _ _⟩, ⟨bA HB.out⟩⟩
  case round =>
    clear H'
    try clear c1
    try clear p2
    obtain ⟨x6_1, x7_1, rfl, HA, HK1, HO_6, HB⟩ := hrel
    cases gk with
    | zero => exact absurd HA.out (by simp [tenorref14_Shift.l0])
    | succ k1 =>
      have H := HA.out
      clear HA
      simp only [tenorref14_Shift.l0] at H
      by_cases c3 : x7_1 < (l0.length : Int)
      rotate_left
      · rw [if_neg c3] at H
        have c3b0 : decide (x7_1 < (l0.length : Int)) = false := decide_eq_false c3
        clear c3
        simp only [Option.some.injEq, Prod.mk.injEq] at H
        obtain ⟨rfl, rfl⟩ := H
        go_wp2
        go_ret2
        exact ⟨_, by first | rfl | (simp [errW_none, errW_some] <;> rfl) | (simp [*, errW_none, errW_some] <;> rfl), by (with_reducible repeat (first | apply Kd.R_alloc | apply Kd.R_drewN | apply Kd.R_drew)); exact HO_6.out, bA HB.out⟩
      rw [if_pos c3] at H
      have c3b0 : decide (x7_1 < (l0.length : Int)) = true := decide_eq_true c3
      clear c3
      by_cases c4 : 0 ≤ x7_1
      rotate_left
      · rw [if_neg c4] at H
        exact absurd H (by simp)
      rw [if_pos c4] at H
      have c4b0 : decide (0 ≤ x7_1) = true := decide_eq_true c4
      clear c4
      replace H := Option.bind_eq_some_iff.mp H
      obtain ⟨⟨t134, t135⟩, A50, H⟩ := H
      have A5 := Aside0.mk A50
      clear A50
      by_cases c6 : t135 = 0
      rotate_left
      · rw [if_neg c6] at H
        have c6b0 : (t135 == 0) = false := beq_eq_false_iff_ne.mpr c6
        have c6b1 : (t135 != 0) = true := bne_iff_ne.mpr c6
        simp only [Option.some.injEq, Prod.mk.injEq] at H
        obtain ⟨rfl, rfl⟩ := H
        have p133 : 0 ≤ (x7_1 : Int) := of_decide_eq_true asA
        have q133 : x7_1 < (l0.length : Int) := of_decide_eq_true asA
        obtain ⟨ad133, e133, hx133_0, hx133_1, hx133_2⟩ := at_T79 HR0.out x7_1 p133 q133
        cases e133
        replace hx133_0 := (HB.out.cell (World.block_lt_of_cell? w _ hx133_0)).trans hx133_0
        replace hx133_1 := (HB.out.cell (World.block_lt_of_cell? w _ hx133_1)).trans hx133_1
        replace hx133_2 := (HB.out.cell (World.block_lt_of_cell? w _ hx133_2)).trans hx133_2
        replace p133 := eq_true p133
        replace q133 := eq_true q133
        go_wp2_with (first | ((with_reducible refine gate_callee (f := 47) rfl ?_); refine goesL_ (some 23) rfl rfl Tryz.func47 (by kernel_rfl) rfl #[.int .i64 ((rd_T79 l0 x7_1).f0), .int .i64 a1, .bool false] rfl mA ?_; (with_reducible refine (tenorref5_Months.calls k1 ((rd_T79 l0 x7_1).f0) a1 false t134 t135 _ A5.out).mono ?_); rintro e w11 ⟨rfl, hb⟩; refine ⟨_, rfl, ?_⟩; have n0_ := Aside0.mk (Kd.R_below (rA HO_6.out) hb); have n1_ := Aside0.mk (below_step (bA HB.out) hb); clear HO_6; clear HB; have HO_6 := n0_; have HB := n1_; clear n0_ n1_; (try clear hb); (try clear hb2); (try clear hk); (try clear hi)))
        go_ret2
        exact ⟨_, by first | rfl | (simp [errW_none, errW_some] <;> rfl) | (simp [*, errW_none, errW_some] <;> rfl), by first | exact Kd.R_nil _ _ _ _ _ | exact Kd.N_nil _ _ _ _ _ | exact Kd.V_nil _ _ _ _ _ | exact Kd.Q_nil _ _ _ _ _ | exact Kd.S_nil _ _ _ _ _, bA HB.out⟩
      rw [if_pos c6] at H
      have c6b0 : (t135 == 0) = true := beq_iff_eq.mpr c6
      have c6b1 : (t135 != 0) = false := bne_eq_false_iff_eq.mpr c6
      clear c6
      by_cases c7 : x6_1.length < 5864062014805
      rotate_left
      · rw [if_neg c7] at H
        exact absurd H (by simp)
      rw [if_pos c7] at H
      have LMc7 := Aside0.mk c7
      clear c7
      obtain ⟨y138, hy138⟩ : ∃ y_ : List (S79), y_ = (x6_1 ++ [(⟨t134, (rd_T79 l0 x7_1).f1, (rd_T79 l0 x7_1).f2⟩ : S79)]) := ⟨_, rfl⟩
      replace H : (tenorref14_Shift.l0 k1 l0 a1 y138 (wrap64 (x7_1 + 1))) = some (r1, r2) := by first | (rw [hy138]; with_reducible exact H) | (have H2_ := (Option.bind_some _ _).symm.trans H; rw [hy138]; with_reducible exact H2_) | (have H2_ := (Option.bind_some _ _).symm.trans H; with_reducible exact H2_) | with_reducible exact H | (rw [hy138]; exact H) | exact H
      have Ny138 := Aside0.mk hy138
      clear hy138
      have H' := Aside0.mk H
      clear H
      have p133 : 0 ≤ (x7_1 : Int) := of_decide_eq_true asA
      have q133 : x7_1 < (l0.length : Int) := of_decide_eq_true asA
      obtain ⟨ad133, e133, hx133_0, hx133_1, hx133_2⟩ := at_T79 HR0.out x7_1 p133 q133
      cases e133
      replace hx133_0 := (HB.out.cell (World.block_lt_of_cell? w _ hx133_0)).trans hx133_0
      replace hx133_1 := (HB.out.cell (World.block_lt_of_cell? w _ hx133_1)).trans hx133_1
      replace hx133_2 := (HB.out.cell (World.block_lt_of_cell? w _ hx133_2)).trans hx133_2
      replace p133 := eq_true p133
      replace q133 := eq_true q133
      try go_wp2_with (first | ((with_reducible refine gate_callee (f := 47) rfl ?_); refine goesL_ (some 23) rfl rfl Tryz.func47 (by kernel_rfl) rfl #[.int .i64 ((rd_T79 l0 x7_1).f0), .int .i64 a1, .bool false] rfl mA ?_; (with_reducible refine (tenorref5_Months.calls k1 ((rd_T79 l0 x7_1).f0) a1 false t134 t135 _ A5.out).mono ?_); rintro e w8 ⟨rfl, hb⟩; refine ⟨_, rfl, ?_⟩; have n0_ := Aside0.mk (Kd.R_below (rA HO_6.out) hb); have n1_ := Aside0.mk (below_step (bA HB.out) hb); clear HO_6; clear HB; have HO_6 := n0_; have HB := n1_; clear n0_ n1_; (try clear hb); (try clear hb2); (try clear hk); (try clear hi)))
      have n0_ := Aside0.mk (Kd.R_drew HO_6.out)
      have n1_ := Aside0.mk (below_drew1 HB.out)
      clear HO_6
      clear HB
      have HO_6 := n0_
      have HB := n1_
      clear n0_ n1_
      have p136 : 0 ≤ (x7_1 : Int) := of_decide_eq_true asA
      have q136 : x7_1 < (l0.length : Int) := of_decide_eq_true asA
      obtain ⟨ad136, e136, hx136_0, hx136_1, hx136_2⟩ := at_T79 HR0.out x7_1 p136 q136
      have hw136_2 := hx136_2
      have hw136_1 := hx136_1
      have hw136_0 := hx136_0
      obtain rfl : ad133 = ad136 := (by injection e136)
      replace hx136_0 := (HB.out.cell (World.block_lt_of_cell? w _ hx136_0)).trans hx136_0
      replace hx136_1 := (HB.out.cell (World.block_lt_of_cell? w _ hx136_1)).trans hx136_1
      replace hx136_2 := (HB.out.cell (World.block_lt_of_cell? w _ hx136_2)).trans hx136_2
      replace p136 := eq_true p136
      replace q136 := eq_true q136
      have p137 : 0 ≤ (x7_1 : Int) := of_decide_eq_true asA
      have q137 : x7_1 < (l0.length : Int) := of_decide_eq_true asA
      obtain ⟨ad137, e137, hx137_0, hx137_1, hx137_2⟩ := at_T79 HR0.out x7_1 p137 q137
      have hw137_2 := hx137_2
      have hw137_1 := hx137_1
      have hw137_0 := hx137_0
      obtain rfl : ad133 = ad137 := (by injection e137)
      replace hx137_0 := (HB.out.cell (World.block_lt_of_cell? w _ hx137_0)).trans hx137_0
      replace hx137_1 := (HB.out.cell (World.block_lt_of_cell? w _ hx137_1)).trans hx137_1
      replace hx137_2 := (HB.out.cell (World.block_lt_of_cell? w _ hx137_2)).trans hx137_2
      replace p137 := eq_true p137
      replace q137 := eq_true q137
      refine start_ (n := 16) (S := fun w' => w'.cell? (ad133.add ((x7_1).toNat * 3)) = some (.int .i64 ((rd_T79 l0 x7_1).f0)) ∧ w'.cell? ⟨(ad133.add ((x7_1).toNat * 3)).block, (ad133.add ((x7_1).toNat * 3)).off + 1, none⟩ = some (.int .u64 ((rd_T79 l0 x7_1).f1)) ∧ w'.cell? ⟨(ad133.add ((x7_1).toNat * 3)).block, (ad133.add ((x7_1).toNat * 3)).off + 2, none⟩ = some (.int .i64 ((rd_T79 l0 x7_1).f2)) ∧ w'.cell? (ad133.add ((x7_1).toNat * 3)) = some (.int .i64 ((rd_T79 l0 x7_1).f0)) ∧ w'.cell? ⟨(ad133.add ((x7_1).toNat * 3)).block, (ad133.add ((x7_1).toNat * 3)).off + 1, none⟩ = some (.int .u64 ((rd_T79 l0 x7_1).f1)) ∧ w'.cell? ⟨(ad133.add ((x7_1).toNat * 3)).block, (ad133.add ((x7_1).toNat * 3)).off + 2, none⟩ = some (.int .i64 ((rd_T79 l0 x7_1).f2))) (ds := []) (dnA 16 0) (by kernel_rfl) rfl rfl ⟨((HB.out.cell (World.block_lt_of_cell? w _ hw136_0)).trans hw136_0), ((HB.out.cell (World.block_lt_of_cell? w _ hw136_1)).trans hw136_1), ((HB.out.cell (World.block_lt_of_cell? w _ hw136_2)).trans hw136_2), ((HB.out.cell (World.block_lt_of_cell? w _ hw137_0)).trans hw137_0), ((HB.out.cell (World.block_lt_of_cell? w _ hw137_1)).trans hw137_1), ((HB.out.cell (World.block_lt_of_cell? w _ hw137_2)).trans hw137_2)⟩ (fun hHeld => ?_); refine with_tabW tenorref14_Shift.tab8 tenorref14_Shift.bits8 (fun HT_ HW_ => ?_)
      generalize w8.drew = w9 at HO_6 HB hx136_0 hx136_1 hx136_2 hx137_0 hx137_1 hx137_2 hHeld ⊢
      refine pure_ (i := 0) (N := some 29) (v := ?_) (a' := ?_) (dnA 16 1) rfl rfl (any_of HT_.out (by kernel_rfl)) (fun _ _ _ h => h) (Or.inl ⟨by rfl, ?_⟩) ?_ ?_
      rotate_left
      · intro w'
        go_simp
        with_reducible rfl
      rotate_left
      · simp only [Act.put, List.setIfInBounds_toArray, List.set_cons_zero, List.set_cons_succ, i64_w, i32_w]
        rfl
      refine pure_ (i := 1) (N := some 30) (v := ?_) (a' := ?_) (dnA 16 3) rfl rfl (any_of HT_.out (by kernel_rfl)) (fun _ _ _ h => h) (Or.inl ⟨by rfl, ?_⟩) ?_ ?_
      rotate_left
      · intro w'
        go_simp
        with_reducible rfl
      rotate_left
      · simp only [Act.put, List.setIfInBounds_toArray, List.set_cons_zero, List.set_cons_succ, i64_w, i32_w]
        rfl
      refine pure_ (i := 2) (N := some 31) (v := ?_) (a' := ?_) (dnA 16 7) rfl rfl (any_of HT_.out (by kernel_rfl)) (fun _ _ _ h => h) (Or.inl ⟨by rfl, ?_⟩) ?_ ?_
      rotate_left
      · intro w'
        go_simp
        with_reducible rfl
      rotate_left
      · simp only [Act.put, List.setIfInBounds_toArray, List.set_cons_zero, List.set_cons_succ, i64_w, i32_w]
        rfl
      refine pure_ (i := 3) (N := some 32) (v := ?_) (a' := ?_) (dnA 16 15) rfl rfl (any_of HT_.out (by kernel_rfl)) (fun _ _ _ h => h) (Or.inl ⟨by rfl, ?_⟩) ?_ ?_
      rotate_left
      · intro w'
        go_simp
        with_reducible rfl
      rotate_left
      · simp only [Act.put, List.setIfInBounds_toArray, List.set_cons_zero, List.set_cons_succ, i64_w, i32_w]
        rfl
      refine pure_ (i := 4) (N := some 33) (v := ?_) (a' := ?_) (dnA 16 31) rfl rfl (any_of HT_.out (by kernel_rfl)) (fun _ _ _ h => h) (Or.inl ⟨by rfl, ?_⟩) ?_ ?_
      rotate_left
      · intro w'
        go_simp
        with_reducible rfl
      rotate_left
      · simp only [Act.put, List.setIfInBounds_toArray, List.set_cons_zero, List.set_cons_succ, i64_w, i32_w]
        rfl
      refine pure_ (i := 5) (N := some 34) (v := ?_) (a' := ?_) (dnA 16 63) rfl rfl (any_of HT_.out (by kernel_rfl)) (fun _ _ _ h => h) (Or.inl ⟨by rfl, ?_⟩) ?_ ?_
      rotate_left
      · intro w'
        go_simp
        with_reducible rfl
      rotate_left
      · simp only [Act.put, List.setIfInBounds_toArray, List.set_cons_zero, List.set_cons_succ, i64_w, i32_w]
        rfl
      refine pure_ (i := 7) (N := some 36) (v := ?_) (a' := ?_) (dnA 16 191) rfl rfl (any_of HT_.out (by kernel_rfl)) (fun _ _ _ h => h) (Or.inl ⟨by rfl, ?_⟩) ?_ ?_
      rotate_left
      · intro w'
        go_simp
        with_reducible rfl
      rotate_left
      · simp only [Act.put, List.setIfInBounds_toArray, List.set_cons_zero, List.set_cons_succ, i64_w, i32_w]
        rfl
      refine pure_ (i := 8) (N := some 37) (v := ?_) (a' := ?_) (dnA 16 447) rfl rfl (any_of HT_.out (by kernel_rfl)) (fun _ _ _ h => h) (Or.inl ⟨by rfl, ?_⟩) ?_ ?_
      rotate_left
      · intro w'
        go_simp
        with_reducible rfl
      rotate_left
      · simp only [Act.put, List.setIfInBounds_toArray, List.set_cons_zero, List.set_cons_succ, i64_w, i32_w]
        rfl
      refine pure_ (i := 9) (N := some 38) (v := ?_) (a' := ?_) (dnA 16 959) rfl rfl (any_of HT_.out (by kernel_rfl)) (fun _ _ _ h => h) (Or.inl ⟨by rfl, ?_⟩) ?_ ?_
      rotate_left
      · intro w'
        go_simp
        with_reducible rfl
      rotate_left
      · simp only [Act.put, List.setIfInBounds_toArray, List.set_cons_zero, List.set_cons_succ, i64_w, i32_w]
        rfl
      refine pure_ (i := 10) (N := some 39) (v := ?_) (a' := ?_) (dnA 16 1983) rfl rfl (any_of HT_.out (by kernel_rfl)) (fun _ _ _ h => h) (Or.inl ⟨by rfl, ?_⟩) ?_ ?_
      rotate_left
      · intro w'
        go_simp
        with_reducible rfl
      rotate_left
      · simp only [Act.put, List.setIfInBounds_toArray, List.set_cons_zero, List.set_cons_succ, i64_w, i32_w]
        rfl
      refine take_ (i := 6) (N := some 35) (v := ?_) (a' := ?_) (dnA 16 2047) rfl rfl (take_ofW HT_.out HW_.out (by kernel_rfl)) (fun _ _ _ h => h) (Or.inl ⟨by rfl, ?_⟩) hHeld ?_ ?_
      rotate_left
      · rintro w' ⟨s0, s1, s2, s3, s4, s5⟩
        go_simp
        with_reducible rfl
      rotate_left
      · simp only [Act.put, List.setIfInBounds_toArray, List.set_cons_zero, List.set_cons_succ, i64_w, i32_w]
        rfl
      refine take_ (i := 11) (N := some 40) (v := ?_) (a' := ?_) (dnA 16 4095) rfl rfl (take_ofW HT_.out HW_.out (by kernel_rfl)) (fun _ _ _ h => h) (Or.inl ⟨by rfl, ?_⟩) hHeld ?_ ?_
      rotate_left
      · rintro w' ⟨s0, s1, s2, s3, s4, s5⟩
        go_simp
        with_reducible rfl
      rotate_left
      · simp only [Act.put, List.setIfInBounds_toArray, List.set_cons_zero, List.set_cons_succ, i64_w, i32_w]
        rfl
      refine pure_ (i := 12) (N := some 41) (v := ?_) (a' := ?_) (dnA 16 8191) rfl rfl (any_of HT_.out (by kernel_rfl)) (fun _ _ _ h => h) (Or.inl ⟨by rfl, ?_⟩) ?_ ?_
      rotate_left
      · intro w'
        go_simp
        with_reducible rfl
      rotate_left
      · simp only [Act.put, List.setIfInBounds_toArray, List.set_cons_zero, List.set_cons_succ, i64_w, i32_w]
        rfl
      refine one_ (i := 13) (N := some 42) (dnA 16 16383) rfl rfl (one_of HT_.out (by kernel_rfl)) (by decide) (fun K hK => ?_)
      refine value_ (w1 := ?_) (v := ?_) (by rfl) rfl ?_ ?_
      rotate_left 2
      · go_simp
        constructor
        · rfl
        · rfl
      refine hK.out _ _ ⟨(World.cell?_alloc_lt _ _ _ (World.block_lt_of_cell? _ _ (((HB.out.cell (World.block_lt_of_cell? w _ hw136_0)).trans hw136_0)))).trans (((HB.out.cell (World.block_lt_of_cell? w _ hw136_0)).trans hw136_0)), (World.cell?_alloc_lt _ _ _ (World.block_lt_of_cell? _ _ (((HB.out.cell (World.block_lt_of_cell? w _ hw136_1)).trans hw136_1)))).trans (((HB.out.cell (World.block_lt_of_cell? w _ hw136_1)).trans hw136_1)), (World.cell?_alloc_lt _ _ _ (World.block_lt_of_cell? _ _ (((HB.out.cell (World.block_lt_of_cell? w _ hw136_2)).trans hw136_2)))).trans (((HB.out.cell (World.block_lt_of_cell? w _ hw136_2)).trans hw136_2)), (World.cell?_alloc_lt _ _ _ (World.block_lt_of_cell? _ _ (((HB.out.cell (World.block_lt_of_cell? w _ hw137_0)).trans hw137_0)))).trans (((HB.out.cell (World.block_lt_of_cell? w _ hw137_0)).trans hw137_0)), (World.cell?_alloc_lt _ _ _ (World.block_lt_of_cell? _ _ (((HB.out.cell (World.block_lt_of_cell? w _ hw137_1)).trans hw137_1)))).trans (((HB.out.cell (World.block_lt_of_cell? w _ hw137_1)).trans hw137_1)), (World.cell?_alloc_lt _ _ _ (World.block_lt_of_cell? _ _ (((HB.out.cell (World.block_lt_of_cell? w _ hw137_2)).trans hw137_2)))).trans (((HB.out.cell (World.block_lt_of_cell? w _ hw137_2)).trans hw137_2))⟩ (fun hHeld => ?_)
      clear hK K
      refine norm_ (a' := ?_) ?_ ?_
      rotate_left
      · show Act.put _ (some 42) _ = _
        simp only [Act.put, List.setIfInBounds_toArray, List.set_cons_zero, List.set_cons_succ, i64_w, i32_w]
        rfl
      refine one_ (i := 14) (N := some 43) (dnA 16 32767) rfl rfl (one_of HT_.out (by kernel_rfl)) (by decide) (fun K hK => ?_)
      refine Kd.R_append_step k79 (w0 := w) w.heap.size (by rfl) (.tmp 29) (.tmp 42) 28 79 (.agg #[(.int .i64 0), (.int .u64 0), (.int .i64 0)]) 24 rfl Tryz.underlying28 info79 rfl (by decide) (by omega) u6 x6_1 (⟨t134, (rd_T79 l0 x7_1).f1, (rd_T79 l0 x7_1).f2⟩ : S79) [.int .i64 t134, .int .u64 ((rd_T79 l0 x7_1).f1), .int .i64 ((rd_T79 l0 x7_1).f2)] (fun _ => True) (fun _ => False) rfl rfl ?aP (fun _ hk => hk.elim) ?aF ?aO ?aB ?aS ?aL ?_
      (case aP => exact k79_mkM _ _ _ (⟨t134, (rd_T79 l0 x7_1).f1, (rd_T79 l0 x7_1).f2⟩ : S79))
      (case aB => exact (bA HB.out))
      (case aF => exact (fun _ _ => trivial))
      (case aO => exact (rA HO_6.out))
      (case aS => exact (below_size (bA HB.out)))
      (case aL => have := LMc7.out; omega)
      intro v139 w10 ho hb hg hat
      rw [← Ny138.out] at ho
      have n0_ := Aside0.mk (hb)
      have n1_ := Aside0.mk (ho)
      clear HB
      clear HO_6
      have HB := n0_
      have HO140 := n1_
      clear n0_ n1_
      clear ho hb hg hat
      refine hK.out _ _ ⟨((HB.out.cell (World.block_lt_of_cell? w _ hw136_0)).trans hw136_0), ((HB.out.cell (World.block_lt_of_cell? w _ hw136_1)).trans hw136_1), ((HB.out.cell (World.block_lt_of_cell? w _ hw136_2)).trans hw136_2), ((HB.out.cell (World.block_lt_of_cell? w _ hw137_0)).trans hw137_0), ((HB.out.cell (World.block_lt_of_cell? w _ hw137_1)).trans hw137_1), ((HB.out.cell (World.block_lt_of_cell? w _ hw137_2)).trans hw137_2)⟩ (fun hHeld => ?_)
      clear hK K
      refine norm_ (a' := ?_) ?_ ?_
      rotate_left
      · show Act.put _ (some 43) _ = _
        simp only [Act.put, List.setIfInBounds_toArray, List.set_cons_zero, List.set_cons_succ, i64_w, i32_w]
        rfl
      refine pure_ (i := 15) (N := some 6) (v := ?_) (a' := ?_) (dnA 16 65535) rfl rfl (any_of HT_.out (by kernel_rfl)) (fun _ _ _ h => h) (Or.inl ⟨by rfl, ?_⟩) ?_ ?_
      rotate_left
      · intro w'
        go_simp
        with_reducible rfl
      rotate_left
      · simp only [Act.put, List.setIfInBounds_toArray, List.set_cons_zero, List.set_cons_succ, i64_w, i32_w]
        rfl
      refine done_ (done_of HT_.out (by kernel_rfl)) ?_
      try go_wp2
      go_roundg k1
      case measure => have := HK1.out; omega
      case rel => exact ⟨(y138), (wrap64 (x7_1 + 1)), (by first | rfl | (simp; done) | (simp [*]; done)), H', ⟨by have := HK1.out; omega⟩, ⟨rA HO140.out⟩, ⟨bA HB.out⟩⟩

/-! ### tenorlaw14_FlowLists: function 4 -/
def tenorlaw14_FlowLists.f (k : Nat) (l0 : List (S46)) (a1 : Nat) (a2 : Int) (a3 : Int) (a4 : Int) : Option (Bool) := (tenorlaw14_Few.f l0).bind fun t141 => (if t141 = true then ((tenorref14_Of.f k l0).bind fun t143 => ((FS.flow_Scale.f k a1 l0).bind fun bt146 => ((api_Bits.f a1).bind fun t150 => ((tenorref14_Scale.f k t150 t143).bind fun bt151 => ((flow_Shift.f k l0 a4).bind fun bt155 => ((tenorref14_Shift.f k t143 a4).bind fun bt159 => ((flow_Give.f k l0).bind fun t163 => ((tenorref14_Give.f k t143).bind fun t166 => ((tenorref14_Same.f k t163 t166).bind fun t169 => (if t169 = true then ((tenorref14_Same.f k bt146.1 bt151.1).bind fun t170 => (if t170 = true then (if bt146.2 = bt151.2 then ((flow_Window.f l0 a2 a3).bind fun t171 => ((tenorref14_Window.f k t143 a2 a3).bind fun t174 => ((tenorref14_Same.f k t171 t174).bind fun t177 => (if t177 = true then ((tenorref14_Same.f k bt155.1 bt159.1).bind fun t178 => (if t178 = true then (if bt155.2 = bt159.2 then ((law14_awake.f).bind fun t179 => (some t179)) else (none)) else (some false))) else (some false))))) else (none)) else (some false))) else (some false))))))))))) else ((law14_awake.f).bind fun t142 => (some t142)))
set_option maxHeartbeats 8000000 in
set_option maxRecDepth 100000 in
theorem tenorlaw14_FlowLists.calls (k : Nat) (A0 : Option Addr) (c0 : Nat) (l0 : List (S46)) (a1 : Nat) (a2 : Int) (a3 : Int) (a4 : Int) (r : Bool) (w : World) (hr0 : Kd.C k46 w A0 l0.length l0) (hc0 : l0.length ≤ c0) (h : tenorlaw14_FlowLists.f k l0 a1 a2 a3 a4 = some r) :
    Calls Tryz.prog 4 #[.slice A0 l0.length c0, .float .f64 a1, .int .i64 a2, .int .i64 a3, .int .i64 a4] w fun e w' => e = .returned (.bool r) ∧ Below w.heap.size w w' := by
  have HR0 := Aside0.mk hr0
  have HC0 := Aside0.mk hc0
  clear hr0 hc0
  have HB := Aside0.mk (Below.refl w.heap.size w)
  have H : ((tenorlaw14_Few.f l0).bind fun t141 => (if t141 = true then ((tenorref14_Of.f k l0).bind fun t143 => ((FS.flow_Scale.f k a1 l0).bind fun bt146 => ((api_Bits.f a1).bind fun t150 => ((tenorref14_Scale.f k t150 t143).bind fun bt151 => ((flow_Shift.f k l0 a4).bind fun bt155 => ((tenorref14_Shift.f k t143 a4).bind fun bt159 => ((flow_Give.f k l0).bind fun t163 => ((tenorref14_Give.f k t143).bind fun t166 => ((tenorref14_Same.f k t163 t166).bind fun t169 => (if t169 = true then ((tenorref14_Same.f k bt146.1 bt151.1).bind fun t170 => (if t170 = true then (if bt146.2 = bt151.2 then ((flow_Window.f l0 a2 a3).bind fun t171 => ((tenorref14_Window.f k t143 a2 a3).bind fun t174 => ((tenorref14_Same.f k t171 t174).bind fun t177 => (if t177 = true then ((tenorref14_Same.f k bt155.1 bt159.1).bind fun t178 => (if t178 = true then (if bt155.2 = bt159.2 then ((law14_awake.f).bind fun t179 => (some t179)) else (none)) else (some false))) else (some false))))) else (none)) else (some false))) else (some false))))))))))) else ((law14_awake.f).bind fun t142 => (some t142)))) = some r := h
  clear h
  replace H := Option.bind_eq_some_iff.mp H
  obtain ⟨t141, A60, H⟩ := H
  have A6 := Aside0.mk A60
  clear A60
  by_cases c7 : t141 = true
  rotate_left
  · replace c7 := Bool.eq_false_iff.mpr c7
    subst c7
    have H1 : ((law14_awake.f).bind fun t142 => (some t142)) = some r := by rw [if_neg (show ¬ (false = true) by decide)] at H; exact H
    clear H
    have H := H1
    clear H1
    replace H := Option.bind_eq_some_iff.mp H
    obtain ⟨t142, A1180, H⟩ := H
    have A118 := Aside0.mk A1180
    clear A1180
    obtain rfl := Option.some.inj H
    go_enter Tryz.func4, Tryz.ntmps4
    go_wp2_with (first | ((with_reducible refine gate_callee (f := 7) rfl ?_); refine goesL_ (some 21) rfl rfl Tryz.func7 (by kernel_rfl) rfl #[.slice A0 l0.length c0] rfl mA ?_; (with_reducible refine (tenorlaw14_Few.calls _ _ l0 false _ ?side1 ?side2 A6.out).mono ?_); (case side1 => exact cA HR0.out); (case side2 => exact HC0.out); rintro e w' ⟨rfl, ⟨nd, rfl⟩⟩; refine ⟨_, rfl, ?_⟩) | ((with_reducible refine gate_callee (f := 8) rfl ?_); refine goesL_ (some 23) rfl rfl Tryz.func8 (by kernel_rfl) rfl #[] rfl mA ?_; (with_reducible refine (law14_awake.calls  t142 _ A118.out).mono ?_); rintro e w119 ⟨rfl, hb⟩; refine ⟨_, rfl, ?_⟩; have n0_ := Aside0.mk (below_step (bA HB.out) hb); clear HB; have HB := n0_; clear n0_; (try clear hb); (try clear hb2); (try clear hk); (try clear hi)))
    go_ret
    exact ⟨by first | rfl | (simp [errW_none, errW_some] <;> rfl) | (simp [*, errW_none, errW_some] <;> rfl), bA HB.out⟩
  subst c7
  have H1 : ((tenorref14_Of.f k l0).bind fun t143 => ((FS.flow_Scale.f k a1 l0).bind fun bt146 => ((api_Bits.f a1).bind fun t150 => ((tenorref14_Scale.f k t150 t143).bind fun bt151 => ((flow_Shift.f k l0 a4).bind fun bt155 => ((tenorref14_Shift.f k t143 a4).bind fun bt159 => ((flow_Give.f k l0).bind fun t163 => ((tenorref14_Give.f k t143).bind fun t166 => ((tenorref14_Same.f k t163 t166).bind fun t169 => (if t169 = true then ((tenorref14_Same.f k bt146.1 bt151.1).bind fun t170 => (if t170 = true then (if bt146.2 = bt151.2 then ((flow_Window.f l0 a2 a3).bind fun t171 => ((tenorref14_Window.f k t143 a2 a3).bind fun t174 => ((tenorref14_Same.f k t171 t174).bind fun t177 => (if t177 = true then ((tenorref14_Same.f k bt155.1 bt159.1).bind fun t178 => (if t178 = true then (if bt155.2 = bt159.2 then ((law14_awake.f).bind fun t179 => (some t179)) else (none)) else (some false))) else (some false))))) else (none)) else (some false))) else (some false))))))))))) = some r := by rw [if_pos rfl] at H; exact H
  clear H
  have H := H1
  clear H1
  replace H := Option.bind_eq_some_iff.mp H
  obtain ⟨t143, A80, H⟩ := H
  have A8 := Aside0.mk A80
  clear A80
  replace H := Option.bind_eq_some_iff.mp H
  obtain ⟨⟨t146, t147⟩, A90, H⟩ := H
  have A9 := Aside0.mk A90
  clear A90
  replace H := Option.bind_eq_some_iff.mp H
  obtain ⟨t150, A100, H⟩ := H
  have A10 := Aside0.mk A100
  clear A100
  replace H := Option.bind_eq_some_iff.mp H
  obtain ⟨⟨t151, t152⟩, A110, H⟩ := H
  have A11 := Aside0.mk A110
  clear A110
  replace H := Option.bind_eq_some_iff.mp H
  obtain ⟨⟨t155, t156⟩, A120, H⟩ := H
  have A12 := Aside0.mk A120
  clear A120
  replace H := Option.bind_eq_some_iff.mp H
  obtain ⟨⟨t159, t160⟩, A130, H⟩ := H
  have A13 := Aside0.mk A130
  clear A130
  replace H := Option.bind_eq_some_iff.mp H
  obtain ⟨t163, A140, H⟩ := H
  have A14 := Aside0.mk A140
  clear A140
  replace H := Option.bind_eq_some_iff.mp H
  obtain ⟨t166, A150, H⟩ := H
  have A15 := Aside0.mk A150
  clear A150
  replace H := Option.bind_eq_some_iff.mp H
  obtain ⟨t169, A160, H⟩ := H
  have A16 := Aside0.mk A160
  clear A160
  by_cases c17 : t169 = true
  rotate_left
  · replace c17 := Bool.eq_false_iff.mpr c17
    subst c17
    have H1 : (some false) = some r := by rw [if_neg (show ¬ (false = true) by decide)] at H; exact H
    clear H
    have H := H1
    clear H1
    obtain rfl := Option.some.inj H
    go_enter Tryz.func4, Tryz.ntmps4
    go_wp2_with (first | ((with_reducible refine gate_callee (f := 7) rfl ?_); refine goesL_ (some 21) rfl rfl Tryz.func7 (by kernel_rfl) rfl #[.slice A0 l0.length c0] rfl mA ?_; (with_reducible refine (tenorlaw14_Few.calls _ _ l0 true _ ?side1 ?side2 A6.out).mono ?_); (case side1 => exact cA HR0.out); (case side2 => exact HC0.out); rintro e w' ⟨rfl, ⟨nd, rfl⟩⟩; refine ⟨_, rfl, ?_⟩) | ((with_reducible refine gate_callee (f := 11) rfl ?_); refine goesL_ (some 25) rfl rfl Tryz.func11 (by kernel_rfl) rfl #[.slice A0 l0.length c0] rfl mA ?_; (with_reducible refine (tenorref14_Of.calls k _ _ l0 t143 _ ?side1 ?side2 A8.out).mono ?_); (case side1 => exact cA HR0.out); (case side2 => exact HC0.out); rintro e w107 ⟨v144, rfl, ho0, hb⟩; refine ⟨_, rfl, ?_⟩; have n0_ := Aside0.mk (Kd.R_lower ho0 (below_size (bA HB.out))); have n1_ := Aside0.mk (below_step (bA HB.out) hb); clear HB; have HO145 := n0_; have HB := n1_; clear n0_ n1_; (try clear hb); (try clear hb2); (try clear hk); (try clear hi); (try clear ho0)) | ((with_reducible refine gate_callee (f := 13) rfl ?_); refine goesL_ (some 29) rfl rfl Tryz.func13 (by kernel_rfl) rfl #[.float .f64 a1, .slice A0 l0.length c0] rfl mA ?_; (with_reducible refine (FS.flow_Scale.calls k a1 _ _ l0 t146 t147 _ ?side1 ?side2 A9.out).mono ?_); (case side1 => exact cA (Kd.C_below HR0.out HB.out)); (case side2 => exact HC0.out); rintro e w108 ⟨v148, rfl, ho0, hb⟩; refine ⟨_, rfl, ?_⟩; have n0_ := Aside0.mk (Kd.R_below (rA HO145.out) hb); have n1_ := Aside0.mk (Kd.R_lower ho0 (below_size (bA HB.out))); have n2_ := Aside0.mk (below_step (bA HB.out) hb); clear HO145; clear HB; have HO145 := n0_; have HO149 := n1_; have HB := n2_; clear n0_ n1_ n2_; (try clear hb); (try clear hb2); (try clear hk); (try clear hi); (try clear ho0)) | ((with_reducible refine gate_callee (f := 15) rfl ?_); refine goesL_ (some 34) rfl rfl Tryz.func15 (by kernel_rfl) rfl #[.float .f64 a1] rfl mA ?_; (with_reducible refine (api_Bits.calls a1 t150 _ A10.out).mono ?_); rintro e w' ⟨rfl, ⟨nd, rfl⟩⟩; refine ⟨_, rfl, ?_⟩; obtain ⟨Ao109, co109, eo109⟩ := Kd.R_slice HO145.out; subst eo109) | ((with_reducible refine gate_callee (f := 14) rfl ?_); refine goesL_ (some 36) rfl rfl Tryz.func14 (by kernel_rfl) rfl #[.int .u64 t150, .slice Ao109 t143.length co109] rfl mA ?_; (with_reducible refine (tenorref14_Scale.calls k t150 _ _ t143 t151 t152 _ ?side1 ?side2 A11.out).mono ?_); (case side1 => exact cA ((Kd.R_reads' HO145.out).2.2)); (case side2 => exact (Kd.R_reads' HO145.out).2.1); rintro e w110 ⟨v153, rfl, ho0, hb⟩; refine ⟨_, rfl, ?_⟩; have n0_ := Aside0.mk (Kd.R_elder' (rA HO145.out) (Kd.R_base ho0) hb); have n1_ := Aside0.mk (Kd.R_below (rA HO149.out) hb); have n2_ := Aside0.mk (Kd.R_lower (Kd.R_new' ho0 (Kd.R_lt (rA HO145.out))) (below_size (bA HB.out))); have n3_ := Aside0.mk (below_step (bA HB.out) hb); clear HO145; clear HO149; clear HB; have HO145 := n0_; have HO149 := n1_; have HO154 := n2_; have HB := n3_; clear n0_ n1_ n2_ n3_; (try clear hb); (try clear hb2); (try clear hk); (try clear hi); (try clear ho0)) | ((with_reducible refine gate_callee (f := 16) rfl ?_); refine goesL_ (some 42) rfl rfl Tryz.func16 (by kernel_rfl) rfl #[.slice A0 l0.length c0, .int .i64 a4] rfl mA ?_; (with_reducible refine (flow_Shift.calls k _ _ l0 a4 t155 t156 _ ?side1 ?side2 A12.out).mono ?_); (case side1 => exact cA (Kd.C_below HR0.out HB.out)); (case side2 => exact HC0.out); rintro e w111 ⟨v157, rfl, ho0, hb⟩; refine ⟨_, rfl, ?_⟩; have n0_ := Aside0.mk (Kd.R_below (rA HO145.out) hb); have n1_ := Aside0.mk (Kd.R_elder' (rA HO149.out) (Kd.R_base ho0) hb); have n2_ := Aside0.mk (Kd.R_below (rA HO154.out) hb); have n3_ := Aside0.mk (Kd.R_lower (Kd.R_new' ho0 (Kd.R_lt (rA HO149.out))) (below_size (bA HB.out))); have n4_ := Aside0.mk (below_step (bA HB.out) hb); clear HO145; clear HO149; clear HO154; clear HB; have HO145 := n0_; have HO149 := n1_; have HO154 := n2_; have HO158 := n3_; have HB := n4_; clear n0_ n1_ n2_ n3_ n4_; (try clear hb); (try clear hb2); (try clear hk); (try clear hi); (try clear ho0)) | ((with_reducible refine gate_callee (f := 17) rfl ?_); refine goesL_ (some 48) rfl rfl Tryz.func17 (by kernel_rfl) rfl #[.slice Ao109 t143.length co109, .int .i64 a4] rfl mA ?_; (with_reducible refine (tenorref14_Shift.calls k _ _ t143 a4 t159 t160 _ ?side1 ?side2 A13.out).mono ?_); (case side1 => exact cA ((Kd.R_reads' HO145.out).2.2)); (case side2 => exact (Kd.R_reads' HO145.out).2.1); rintro e w112 ⟨v161, rfl, ho0, hb⟩; refine ⟨_, rfl, ?_⟩; have n0_ := Aside0.mk (Kd.R_elder' (rA HO145.out) (Kd.R_base ho0) hb); have n1_ := Aside0.mk (Kd.R_below (rA HO149.out) hb); have n2_ := Aside0.mk (Kd.R_elder' (rA HO154.out) (Kd.R_base ho0) hb); have n3_ := Aside0.mk (Kd.R_below (rA HO158.out) hb); have n4_ := Aside0.mk (Kd.R_lower (Kd.R_new' (Kd.R_new' ho0 (Kd.R_lt (rA HO145.out))) (Kd.R_lt (rA HO154.out))) (below_size (bA HB.out))); have n5_ := Aside0.mk (below_step (bA HB.out) hb); clear HO145; clear HO149; clear HO154; clear HO158; clear HB; have HO145 := n0_; have HO149 := n1_; have HO154 := n2_; have HO158 := n3_; have HO162 := n4_; have HB := n5_; clear n0_ n1_ n2_ n3_ n4_ n5_; (try clear hb); (try clear hb2); (try clear hk); (try clear hi); (try clear ho0)) | ((with_reducible refine gate_callee (f := 18) rfl ?_); refine goesL_ (some 52) rfl rfl Tryz.func18 (by kernel_rfl) rfl #[.slice A0 l0.length c0] rfl mA ?_; (with_reducible refine (flow_Give.calls k _ _ l0 t163 _ ?side1 ?side2 A14.out).mono ?_); (case side1 => exact cA (Kd.C_below HR0.out HB.out)); (case side2 => exact HC0.out); rintro e w113 ⟨v164, rfl, ho0, hb⟩; refine ⟨_, rfl, ?_⟩; have n0_ := Aside0.mk (Kd.R_below (rA HO145.out) hb); have n1_ := Aside0.mk (Kd.R_elder' (rA HO149.out) (Kd.R_base ho0) hb); have n2_ := Aside0.mk (Kd.R_below (rA HO154.out) hb); have n3_ := Aside0.mk (Kd.R_elder' (rA HO158.out) (Kd.R_base ho0) hb); have n4_ := Aside0.mk (Kd.R_below (rA HO162.out) hb); have n5_ := Aside0.mk (Kd.R_lower (Kd.R_new' (Kd.R_new' ho0 (Kd.R_lt (rA HO149.out))) (Kd.R_lt (rA HO158.out))) (below_size (bA HB.out))); have n6_ := Aside0.mk (below_step (bA HB.out) hb); clear HO145; clear HO149; clear HO154; clear HO158; clear HO162; clear HB; have HO145 := n0_; have HO149 := n1_; have HO154 := n2_; have HO158 := n3_; have HO162 := n4_; have HO165 := n5_; have HB := n6_; clear n0_ n1_ n2_ n3_ n4_ n5_ n6_; (try clear hb); (try clear hb2); (try clear hk); (try clear hi); (try clear ho0)) | ((with_reducible refine gate_callee (f := 19) rfl ?_); refine goesL_ (some 54) rfl rfl Tryz.func19 (by kernel_rfl) rfl #[.slice Ao109 t143.length co109] rfl mA ?_; (with_reducible refine (tenorref14_Give.calls k _ _ t143 t166 _ ?side1 ?side2 A15.out).mono ?_); (case side1 => exact cA ((Kd.R_reads' HO145.out).2.2)); (case side2 => exact (Kd.R_reads' HO145.out).2.1); rintro e w114 ⟨v167, rfl, ho0, hb⟩; refine ⟨_, rfl, ?_⟩; have n0_ := Aside0.mk (Kd.R_elder' (rA HO145.out) (Kd.R_base ho0) hb); have n1_ := Aside0.mk (Kd.R_below (rA HO149.out) hb); have n2_ := Aside0.mk (Kd.R_elder' (rA HO154.out) (Kd.R_base ho0) hb); have n3_ := Aside0.mk (Kd.R_below (rA HO158.out) hb); have n4_ := Aside0.mk (Kd.R_elder' (rA HO162.out) (Kd.R_base ho0) hb); have n5_ := Aside0.mk (Kd.R_below (rA HO165.out) hb); have n6_ := Aside0.mk (Kd.R_lower (Kd.R_new' (Kd.R_new' (Kd.R_new' ho0 (Kd.R_lt (rA HO145.out))) (Kd.R_lt (rA HO154.out))) (Kd.R_lt (rA HO162.out))) (below_size (bA HB.out))); have n7_ := Aside0.mk (below_step (bA HB.out) hb); clear HO145; clear HO149; clear HO154; clear HO158; clear HO162; clear HO165; clear HB; have HO145 := n0_; have HO149 := n1_; have HO154 := n2_; have HO158 := n3_; have HO162 := n4_; have HO165 := n5_; have HO168 := n6_; have HB := n7_; clear n0_ n1_ n2_ n3_ n4_ n5_ n6_ n7_; (try clear hb); (try clear hb2); (try clear hk); (try clear hi); (try clear ho0); obtain ⟨Ao115, co115, eo115⟩ := Kd.R_slice HO165.out; subst eo115; obtain ⟨Ao116, co116, eo116⟩ := Kd.R_slice HO168.out; subst eo116) | ((with_reducible refine gate_callee (f := 12) rfl ?_); refine goesL_ (some 55) rfl rfl Tryz.func12 (by kernel_rfl) rfl #[.slice Ao115 t163.length co115, .slice Ao116 t166.length co116] rfl mA ?_; (with_reducible refine (tenorref14_Same.calls k _ _ t163 _ _ t166 false _ ?side1 ?side2 ?side3 ?side4 A16.out).mono ?_); (case side1 => exact cA ((Kd.R_reads' HO165.out).2.2)); (case side2 => exact (Kd.R_reads' HO165.out).2.1); (case side3 => exact cA ((Kd.R_reads' HO168.out).2.2)); (case side4 => exact (Kd.R_reads' HO168.out).2.1); rintro e w117 ⟨rfl, hb⟩; refine ⟨_, rfl, ?_⟩; have n0_ := Aside0.mk (Kd.R_below (rA HO145.out) hb); have n1_ := Aside0.mk (Kd.R_below (rA HO149.out) hb); have n2_ := Aside0.mk (Kd.R_below (rA HO154.out) hb); have n3_ := Aside0.mk (Kd.R_below (rA HO158.out) hb); have n4_ := Aside0.mk (Kd.R_below (rA HO162.out) hb); have n5_ := Aside0.mk (Kd.R_below (rA HO165.out) hb); have n6_ := Aside0.mk (Kd.R_below (rA HO168.out) hb); have n7_ := Aside0.mk (below_step (bA HB.out) hb); clear HO145; clear HO149; clear HO154; clear HO158; clear HO162; clear HO165; clear HO168; clear HB; have HO145 := n0_; have HO149 := n1_; have HO154 := n2_; have HO158 := n3_; have HO162 := n4_; have HO165 := n5_; have HO168 := n6_; have HB := n7_; clear n0_ n1_ n2_ n3_ n4_ n5_ n6_ n7_; (try clear hb); (try clear hb2); (try clear hk); (try clear hi)))
    go_ret
    exact ⟨by first | rfl | (simp [errW_none, errW_some] <;> rfl) | (simp [*, errW_none, errW_some] <;> rfl), bA HB.out⟩
  subst c17
  have H1 : ((tenorref14_Same.f k t146 t151).bind fun t170 => (if t170 = true then (if t147 = t152 then ((flow_Window.f l0 a2 a3).bind fun t171 => ((tenorref14_Window.f k t143 a2 a3).bind fun t174 => ((tenorref14_Same.f k t171 t174).bind fun t177 => (if t177 = true then ((tenorref14_Same.f k t155 t159).bind fun t178 => (if t178 = true then (if t156 = t160 then ((law14_awake.f).bind fun t179 => (some t179)) else (none)) else (some false))) else (some false))))) else (none)) else (some false))) = some r := by rw [if_pos rfl] at H; exact H
  clear H
  have H := H1
  clear H1
  replace H := Option.bind_eq_some_iff.mp H
  obtain ⟨t170, A180, H⟩ := H
  have A18 := Aside0.mk A180
  clear A180
  by_cases c19 : t170 = true
  rotate_left
  · replace c19 := Bool.eq_false_iff.mpr c19
    subst c19
    have H1 : (some false) = some r := by rw [if_neg (show ¬ (false = true) by decide)] at H; exact H
    clear H
    have H := H1
    clear H1
    obtain rfl := Option.some.inj H
    go_enter Tryz.func4, Tryz.ntmps4
    go_wp2_with (first | ((with_reducible refine gate_callee (f := 7) rfl ?_); refine goesL_ (some 21) rfl rfl Tryz.func7 (by kernel_rfl) rfl #[.slice A0 l0.length c0] rfl mA ?_; (with_reducible refine (tenorlaw14_Few.calls _ _ l0 true _ ?side1 ?side2 A6.out).mono ?_); (case side1 => exact cA HR0.out); (case side2 => exact HC0.out); rintro e w' ⟨rfl, ⟨nd, rfl⟩⟩; refine ⟨_, rfl, ?_⟩) | ((with_reducible refine gate_callee (f := 11) rfl ?_); refine goesL_ (some 25) rfl rfl Tryz.func11 (by kernel_rfl) rfl #[.slice A0 l0.length c0] rfl mA ?_; (with_reducible refine (tenorref14_Of.calls k _ _ l0 t143 _ ?side1 ?side2 A8.out).mono ?_); (case side1 => exact cA HR0.out); (case side2 => exact HC0.out); rintro e w93 ⟨v144, rfl, ho0, hb⟩; refine ⟨_, rfl, ?_⟩; have n0_ := Aside0.mk (Kd.R_lower ho0 (below_size (bA HB.out))); have n1_ := Aside0.mk (below_step (bA HB.out) hb); clear HB; have HO145 := n0_; have HB := n1_; clear n0_ n1_; (try clear hb); (try clear hb2); (try clear hk); (try clear hi); (try clear ho0)) | ((with_reducible refine gate_callee (f := 13) rfl ?_); refine goesL_ (some 29) rfl rfl Tryz.func13 (by kernel_rfl) rfl #[.float .f64 a1, .slice A0 l0.length c0] rfl mA ?_; (with_reducible refine (FS.flow_Scale.calls k a1 _ _ l0 t146 t147 _ ?side1 ?side2 A9.out).mono ?_); (case side1 => exact cA (Kd.C_below HR0.out HB.out)); (case side2 => exact HC0.out); rintro e w94 ⟨v148, rfl, ho0, hb⟩; refine ⟨_, rfl, ?_⟩; have n0_ := Aside0.mk (Kd.R_below (rA HO145.out) hb); have n1_ := Aside0.mk (Kd.R_lower ho0 (below_size (bA HB.out))); have n2_ := Aside0.mk (below_step (bA HB.out) hb); clear HO145; clear HB; have HO145 := n0_; have HO149 := n1_; have HB := n2_; clear n0_ n1_ n2_; (try clear hb); (try clear hb2); (try clear hk); (try clear hi); (try clear ho0)) | ((with_reducible refine gate_callee (f := 15) rfl ?_); refine goesL_ (some 34) rfl rfl Tryz.func15 (by kernel_rfl) rfl #[.float .f64 a1] rfl mA ?_; (with_reducible refine (api_Bits.calls a1 t150 _ A10.out).mono ?_); rintro e w' ⟨rfl, ⟨nd, rfl⟩⟩; refine ⟨_, rfl, ?_⟩; obtain ⟨Ao95, co95, eo95⟩ := Kd.R_slice HO145.out; subst eo95) | ((with_reducible refine gate_callee (f := 14) rfl ?_); refine goesL_ (some 36) rfl rfl Tryz.func14 (by kernel_rfl) rfl #[.int .u64 t150, .slice Ao95 t143.length co95] rfl mA ?_; (with_reducible refine (tenorref14_Scale.calls k t150 _ _ t143 t151 t152 _ ?side1 ?side2 A11.out).mono ?_); (case side1 => exact cA ((Kd.R_reads' HO145.out).2.2)); (case side2 => exact (Kd.R_reads' HO145.out).2.1); rintro e w96 ⟨v153, rfl, ho0, hb⟩; refine ⟨_, rfl, ?_⟩; have n0_ := Aside0.mk (Kd.R_elder' (rA HO145.out) (Kd.R_base ho0) hb); have n1_ := Aside0.mk (Kd.R_below (rA HO149.out) hb); have n2_ := Aside0.mk (Kd.R_lower (Kd.R_new' ho0 (Kd.R_lt (rA HO145.out))) (below_size (bA HB.out))); have n3_ := Aside0.mk (below_step (bA HB.out) hb); clear HO145; clear HO149; clear HB; have HO145 := n0_; have HO149 := n1_; have HO154 := n2_; have HB := n3_; clear n0_ n1_ n2_ n3_; (try clear hb); (try clear hb2); (try clear hk); (try clear hi); (try clear ho0)) | ((with_reducible refine gate_callee (f := 16) rfl ?_); refine goesL_ (some 42) rfl rfl Tryz.func16 (by kernel_rfl) rfl #[.slice A0 l0.length c0, .int .i64 a4] rfl mA ?_; (with_reducible refine (flow_Shift.calls k _ _ l0 a4 t155 t156 _ ?side1 ?side2 A12.out).mono ?_); (case side1 => exact cA (Kd.C_below HR0.out HB.out)); (case side2 => exact HC0.out); rintro e w97 ⟨v157, rfl, ho0, hb⟩; refine ⟨_, rfl, ?_⟩; have n0_ := Aside0.mk (Kd.R_below (rA HO145.out) hb); have n1_ := Aside0.mk (Kd.R_elder' (rA HO149.out) (Kd.R_base ho0) hb); have n2_ := Aside0.mk (Kd.R_below (rA HO154.out) hb); have n3_ := Aside0.mk (Kd.R_lower (Kd.R_new' ho0 (Kd.R_lt (rA HO149.out))) (below_size (bA HB.out))); have n4_ := Aside0.mk (below_step (bA HB.out) hb); clear HO145; clear HO149; clear HO154; clear HB; have HO145 := n0_; have HO149 := n1_; have HO154 := n2_; have HO158 := n3_; have HB := n4_; clear n0_ n1_ n2_ n3_ n4_; (try clear hb); (try clear hb2); (try clear hk); (try clear hi); (try clear ho0)) | ((with_reducible refine gate_callee (f := 17) rfl ?_); refine goesL_ (some 48) rfl rfl Tryz.func17 (by kernel_rfl) rfl #[.slice Ao95 t143.length co95, .int .i64 a4] rfl mA ?_; (with_reducible refine (tenorref14_Shift.calls k _ _ t143 a4 t159 t160 _ ?side1 ?side2 A13.out).mono ?_); (case side1 => exact cA ((Kd.R_reads' HO145.out).2.2)); (case side2 => exact (Kd.R_reads' HO145.out).2.1); rintro e w98 ⟨v161, rfl, ho0, hb⟩; refine ⟨_, rfl, ?_⟩; have n0_ := Aside0.mk (Kd.R_elder' (rA HO145.out) (Kd.R_base ho0) hb); have n1_ := Aside0.mk (Kd.R_below (rA HO149.out) hb); have n2_ := Aside0.mk (Kd.R_elder' (rA HO154.out) (Kd.R_base ho0) hb); have n3_ := Aside0.mk (Kd.R_below (rA HO158.out) hb); have n4_ := Aside0.mk (Kd.R_lower (Kd.R_new' (Kd.R_new' ho0 (Kd.R_lt (rA HO145.out))) (Kd.R_lt (rA HO154.out))) (below_size (bA HB.out))); have n5_ := Aside0.mk (below_step (bA HB.out) hb); clear HO145; clear HO149; clear HO154; clear HO158; clear HB; have HO145 := n0_; have HO149 := n1_; have HO154 := n2_; have HO158 := n3_; have HO162 := n4_; have HB := n5_; clear n0_ n1_ n2_ n3_ n4_ n5_; (try clear hb); (try clear hb2); (try clear hk); (try clear hi); (try clear ho0)) | ((with_reducible refine gate_callee (f := 18) rfl ?_); refine goesL_ (some 52) rfl rfl Tryz.func18 (by kernel_rfl) rfl #[.slice A0 l0.length c0] rfl mA ?_; (with_reducible refine (flow_Give.calls k _ _ l0 t163 _ ?side1 ?side2 A14.out).mono ?_); (case side1 => exact cA (Kd.C_below HR0.out HB.out)); (case side2 => exact HC0.out); rintro e w99 ⟨v164, rfl, ho0, hb⟩; refine ⟨_, rfl, ?_⟩; have n0_ := Aside0.mk (Kd.R_below (rA HO145.out) hb); have n1_ := Aside0.mk (Kd.R_elder' (rA HO149.out) (Kd.R_base ho0) hb); have n2_ := Aside0.mk (Kd.R_below (rA HO154.out) hb); have n3_ := Aside0.mk (Kd.R_elder' (rA HO158.out) (Kd.R_base ho0) hb); have n4_ := Aside0.mk (Kd.R_below (rA HO162.out) hb); have n5_ := Aside0.mk (Kd.R_lower (Kd.R_new' (Kd.R_new' ho0 (Kd.R_lt (rA HO149.out))) (Kd.R_lt (rA HO158.out))) (below_size (bA HB.out))); have n6_ := Aside0.mk (below_step (bA HB.out) hb); clear HO145; clear HO149; clear HO154; clear HO158; clear HO162; clear HB; have HO145 := n0_; have HO149 := n1_; have HO154 := n2_; have HO158 := n3_; have HO162 := n4_; have HO165 := n5_; have HB := n6_; clear n0_ n1_ n2_ n3_ n4_ n5_ n6_; (try clear hb); (try clear hb2); (try clear hk); (try clear hi); (try clear ho0)) | ((with_reducible refine gate_callee (f := 19) rfl ?_); refine goesL_ (some 54) rfl rfl Tryz.func19 (by kernel_rfl) rfl #[.slice Ao95 t143.length co95] rfl mA ?_; (with_reducible refine (tenorref14_Give.calls k _ _ t143 t166 _ ?side1 ?side2 A15.out).mono ?_); (case side1 => exact cA ((Kd.R_reads' HO145.out).2.2)); (case side2 => exact (Kd.R_reads' HO145.out).2.1); rintro e w100 ⟨v167, rfl, ho0, hb⟩; refine ⟨_, rfl, ?_⟩; have n0_ := Aside0.mk (Kd.R_elder' (rA HO145.out) (Kd.R_base ho0) hb); have n1_ := Aside0.mk (Kd.R_below (rA HO149.out) hb); have n2_ := Aside0.mk (Kd.R_elder' (rA HO154.out) (Kd.R_base ho0) hb); have n3_ := Aside0.mk (Kd.R_below (rA HO158.out) hb); have n4_ := Aside0.mk (Kd.R_elder' (rA HO162.out) (Kd.R_base ho0) hb); have n5_ := Aside0.mk (Kd.R_below (rA HO165.out) hb); have n6_ := Aside0.mk (Kd.R_lower (Kd.R_new' (Kd.R_new' (Kd.R_new' ho0 (Kd.R_lt (rA HO145.out))) (Kd.R_lt (rA HO154.out))) (Kd.R_lt (rA HO162.out))) (below_size (bA HB.out))); have n7_ := Aside0.mk (below_step (bA HB.out) hb); clear HO145; clear HO149; clear HO154; clear HO158; clear HO162; clear HO165; clear HB; have HO145 := n0_; have HO149 := n1_; have HO154 := n2_; have HO158 := n3_; have HO162 := n4_; have HO165 := n5_; have HO168 := n6_; have HB := n7_; clear n0_ n1_ n2_ n3_ n4_ n5_ n6_ n7_; (try clear hb); (try clear hb2); (try clear hk); (try clear hi); (try clear ho0); obtain ⟨Ao101, co101, eo101⟩ := Kd.R_slice HO165.out; subst eo101; obtain ⟨Ao102, co102, eo102⟩ := Kd.R_slice HO168.out; subst eo102) | ((with_reducible refine gate_callee (f := 12) rfl ?_); refine goesL_ (some 55) rfl rfl Tryz.func12 (by kernel_rfl) rfl #[.slice Ao101 t163.length co101, .slice Ao102 t166.length co102] rfl mA ?_; (with_reducible refine (tenorref14_Same.calls k _ _ t163 _ _ t166 true _ ?side1 ?side2 ?side3 ?side4 A16.out).mono ?_); (case side1 => exact cA ((Kd.R_reads' HO165.out).2.2)); (case side2 => exact (Kd.R_reads' HO165.out).2.1); (case side3 => exact cA ((Kd.R_reads' HO168.out).2.2)); (case side4 => exact (Kd.R_reads' HO168.out).2.1); rintro e w103 ⟨rfl, hb⟩; refine ⟨_, rfl, ?_⟩; have n0_ := Aside0.mk (Kd.R_below (rA HO145.out) hb); have n1_ := Aside0.mk (Kd.R_below (rA HO149.out) hb); have n2_ := Aside0.mk (Kd.R_below (rA HO154.out) hb); have n3_ := Aside0.mk (Kd.R_below (rA HO158.out) hb); have n4_ := Aside0.mk (Kd.R_below (rA HO162.out) hb); have n5_ := Aside0.mk (Kd.R_below (rA HO165.out) hb); have n6_ := Aside0.mk (Kd.R_below (rA HO168.out) hb); have n7_ := Aside0.mk (below_step (bA HB.out) hb); clear HO145; clear HO149; clear HO154; clear HO158; clear HO162; clear HO165; clear HO168; clear HB; have HO145 := n0_; have HO149 := n1_; have HO154 := n2_; have HO158 := n3_; have HO162 := n4_; have HO165 := n5_; have HO168 := n6_; have HB := n7_; clear n0_ n1_ n2_ n3_ n4_ n5_ n6_ n7_; (try clear hb); (try clear hb2); (try clear hk); (try clear hi); obtain ⟨Ao104, co104, eo104⟩ := Kd.R_slice HO149.out; subst eo104; obtain ⟨Ao105, co105, eo105⟩ := Kd.R_slice HO154.out; subst eo105) | (go_at_call 12; (with_reducible refine (tenorref14_Same.calls k _ _ t146 _ _ t151 false _ ?side1 ?side2 ?side3 ?side4 A18.out).mono ?_); (case side1 => exact cA ((Kd.R_reads' HO149.out).2.2)); (case side2 => exact (Kd.R_reads' HO149.out).2.1); (case side3 => exact cA ((Kd.R_reads' HO154.out).2.2)); (case side4 => exact (Kd.R_reads' HO154.out).2.1); rintro e w106 ⟨rfl, hb⟩; have n0_ := Aside0.mk (Kd.R_below (rA HO145.out) hb); have n1_ := Aside0.mk (Kd.R_below (rA HO149.out) hb); have n2_ := Aside0.mk (Kd.R_below (rA HO154.out) hb); have n3_ := Aside0.mk (Kd.R_below (rA HO158.out) hb); have n4_ := Aside0.mk (Kd.R_below (rA HO162.out) hb); have n5_ := Aside0.mk (Kd.R_below (rA HO165.out) hb); have n6_ := Aside0.mk (Kd.R_below (rA HO168.out) hb); have n7_ := Aside0.mk (below_step (bA HB.out) hb); clear HO145; clear HO149; clear HO154; clear HO158; clear HO162; clear HO165; clear HO168; clear HB; have HO145 := n0_; have HO149 := n1_; have HO154 := n2_; have HO158 := n3_; have HO162 := n4_; have HO165 := n5_; have HO168 := n6_; have HB := n7_; clear n0_ n1_ n2_ n3_ n4_ n5_ n6_ n7_; (try clear hb); (try clear hb2); (try clear hk); (try clear hi)))
    go_ret
    exact ⟨by first | rfl | (simp [errW_none, errW_some] <;> rfl) | (simp [*, errW_none, errW_some] <;> rfl), bA HB.out⟩
  subst c19
  have H1 : (if t147 = t152 then ((flow_Window.f l0 a2 a3).bind fun t171 => ((tenorref14_Window.f k t143 a2 a3).bind fun t174 => ((tenorref14_Same.f k t171 t174).bind fun t177 => (if t177 = true then ((tenorref14_Same.f k t155 t159).bind fun t178 => (if t178 = true then (if t156 = t160 then ((law14_awake.f).bind fun t179 => (some t179)) else (none)) else (some false))) else (some false))))) else (none)) = some r := by rw [if_pos rfl] at H; exact H
  clear H
  have H := H1
  clear H1
  by_cases c20 : t147 = t152
  rotate_left
  · rw [if_neg c20] at H
    exact absurd H (by simp)
  rw [if_pos c20] at H
  have c20b0 : (t147 == t152) = true := beq_iff_eq.mpr c20
  have c20b1 : (t147 != t152) = false := bne_eq_false_iff_eq.mpr c20
  clear c20
  replace H := Option.bind_eq_some_iff.mp H
  obtain ⟨t171, A210, H⟩ := H
  have A21 := Aside0.mk A210
  clear A210
  replace H := Option.bind_eq_some_iff.mp H
  obtain ⟨t174, A220, H⟩ := H
  have A22 := Aside0.mk A220
  clear A220
  replace H := Option.bind_eq_some_iff.mp H
  obtain ⟨t177, A230, H⟩ := H
  have A23 := Aside0.mk A230
  clear A230
  by_cases c24 : t177 = true
  rotate_left
  · replace c24 := Bool.eq_false_iff.mpr c24
    subst c24
    have H1 : (some false) = some r := by rw [if_neg (show ¬ (false = true) by decide)] at H; exact H
    clear H
    have H := H1
    clear H1
    obtain rfl := Option.some.inj H
    go_enter Tryz.func4, Tryz.ntmps4
    go_wp2_with (first | ((with_reducible refine gate_callee (f := 7) rfl ?_); refine goesL_ (some 21) rfl rfl Tryz.func7 (by kernel_rfl) rfl #[.slice A0 l0.length c0] rfl mA ?_; (with_reducible refine (tenorlaw14_Few.calls _ _ l0 true _ ?side1 ?side2 A6.out).mono ?_); (case side1 => exact cA HR0.out); (case side2 => exact HC0.out); rintro e w' ⟨rfl, ⟨nd, rfl⟩⟩; refine ⟨_, rfl, ?_⟩) | ((with_reducible refine gate_callee (f := 11) rfl ?_); refine goesL_ (some 25) rfl rfl Tryz.func11 (by kernel_rfl) rfl #[.slice A0 l0.length c0] rfl mA ?_; (with_reducible refine (tenorref14_Of.calls k _ _ l0 t143 _ ?side1 ?side2 A8.out).mono ?_); (case side1 => exact cA HR0.out); (case side2 => exact HC0.out); rintro e w74 ⟨v144, rfl, ho0, hb⟩; refine ⟨_, rfl, ?_⟩; have n0_ := Aside0.mk (Kd.R_lower ho0 (below_size (bA HB.out))); have n1_ := Aside0.mk (below_step (bA HB.out) hb); clear HB; have HO145 := n0_; have HB := n1_; clear n0_ n1_; (try clear hb); (try clear hb2); (try clear hk); (try clear hi); (try clear ho0)) | ((with_reducible refine gate_callee (f := 13) rfl ?_); refine goesL_ (some 29) rfl rfl Tryz.func13 (by kernel_rfl) rfl #[.float .f64 a1, .slice A0 l0.length c0] rfl mA ?_; (with_reducible refine (FS.flow_Scale.calls k a1 _ _ l0 t146 t147 _ ?side1 ?side2 A9.out).mono ?_); (case side1 => exact cA (Kd.C_below HR0.out HB.out)); (case side2 => exact HC0.out); rintro e w75 ⟨v148, rfl, ho0, hb⟩; refine ⟨_, rfl, ?_⟩; have n0_ := Aside0.mk (Kd.R_below (rA HO145.out) hb); have n1_ := Aside0.mk (Kd.R_lower ho0 (below_size (bA HB.out))); have n2_ := Aside0.mk (below_step (bA HB.out) hb); clear HO145; clear HB; have HO145 := n0_; have HO149 := n1_; have HB := n2_; clear n0_ n1_ n2_; (try clear hb); (try clear hb2); (try clear hk); (try clear hi); (try clear ho0)) | ((with_reducible refine gate_callee (f := 15) rfl ?_); refine goesL_ (some 34) rfl rfl Tryz.func15 (by kernel_rfl) rfl #[.float .f64 a1] rfl mA ?_; (with_reducible refine (api_Bits.calls a1 t150 _ A10.out).mono ?_); rintro e w' ⟨rfl, ⟨nd, rfl⟩⟩; refine ⟨_, rfl, ?_⟩; obtain ⟨Ao76, co76, eo76⟩ := Kd.R_slice HO145.out; subst eo76) | ((with_reducible refine gate_callee (f := 14) rfl ?_); refine goesL_ (some 36) rfl rfl Tryz.func14 (by kernel_rfl) rfl #[.int .u64 t150, .slice Ao76 t143.length co76] rfl mA ?_; (with_reducible refine (tenorref14_Scale.calls k t150 _ _ t143 t151 t152 _ ?side1 ?side2 A11.out).mono ?_); (case side1 => exact cA ((Kd.R_reads' HO145.out).2.2)); (case side2 => exact (Kd.R_reads' HO145.out).2.1); rintro e w77 ⟨v153, rfl, ho0, hb⟩; refine ⟨_, rfl, ?_⟩; have n0_ := Aside0.mk (Kd.R_elder' (rA HO145.out) (Kd.R_base ho0) hb); have n1_ := Aside0.mk (Kd.R_below (rA HO149.out) hb); have n2_ := Aside0.mk (Kd.R_lower (Kd.R_new' ho0 (Kd.R_lt (rA HO145.out))) (below_size (bA HB.out))); have n3_ := Aside0.mk (below_step (bA HB.out) hb); clear HO145; clear HO149; clear HB; have HO145 := n0_; have HO149 := n1_; have HO154 := n2_; have HB := n3_; clear n0_ n1_ n2_ n3_; (try clear hb); (try clear hb2); (try clear hk); (try clear hi); (try clear ho0)) | ((with_reducible refine gate_callee (f := 16) rfl ?_); refine goesL_ (some 42) rfl rfl Tryz.func16 (by kernel_rfl) rfl #[.slice A0 l0.length c0, .int .i64 a4] rfl mA ?_; (with_reducible refine (flow_Shift.calls k _ _ l0 a4 t155 t156 _ ?side1 ?side2 A12.out).mono ?_); (case side1 => exact cA (Kd.C_below HR0.out HB.out)); (case side2 => exact HC0.out); rintro e w78 ⟨v157, rfl, ho0, hb⟩; refine ⟨_, rfl, ?_⟩; have n0_ := Aside0.mk (Kd.R_below (rA HO145.out) hb); have n1_ := Aside0.mk (Kd.R_elder' (rA HO149.out) (Kd.R_base ho0) hb); have n2_ := Aside0.mk (Kd.R_below (rA HO154.out) hb); have n3_ := Aside0.mk (Kd.R_lower (Kd.R_new' ho0 (Kd.R_lt (rA HO149.out))) (below_size (bA HB.out))); have n4_ := Aside0.mk (below_step (bA HB.out) hb); clear HO145; clear HO149; clear HO154; clear HB; have HO145 := n0_; have HO149 := n1_; have HO154 := n2_; have HO158 := n3_; have HB := n4_; clear n0_ n1_ n2_ n3_ n4_; (try clear hb); (try clear hb2); (try clear hk); (try clear hi); (try clear ho0)) | ((with_reducible refine gate_callee (f := 17) rfl ?_); refine goesL_ (some 48) rfl rfl Tryz.func17 (by kernel_rfl) rfl #[.slice Ao76 t143.length co76, .int .i64 a4] rfl mA ?_; (with_reducible refine (tenorref14_Shift.calls k _ _ t143 a4 t159 t160 _ ?side1 ?side2 A13.out).mono ?_); (case side1 => exact cA ((Kd.R_reads' HO145.out).2.2)); (case side2 => exact (Kd.R_reads' HO145.out).2.1); rintro e w79 ⟨v161, rfl, ho0, hb⟩; refine ⟨_, rfl, ?_⟩; have n0_ := Aside0.mk (Kd.R_elder' (rA HO145.out) (Kd.R_base ho0) hb); have n1_ := Aside0.mk (Kd.R_below (rA HO149.out) hb); have n2_ := Aside0.mk (Kd.R_elder' (rA HO154.out) (Kd.R_base ho0) hb); have n3_ := Aside0.mk (Kd.R_below (rA HO158.out) hb); have n4_ := Aside0.mk (Kd.R_lower (Kd.R_new' (Kd.R_new' ho0 (Kd.R_lt (rA HO145.out))) (Kd.R_lt (rA HO154.out))) (below_size (bA HB.out))); have n5_ := Aside0.mk (below_step (bA HB.out) hb); clear HO145; clear HO149; clear HO154; clear HO158; clear HB; have HO145 := n0_; have HO149 := n1_; have HO154 := n2_; have HO158 := n3_; have HO162 := n4_; have HB := n5_; clear n0_ n1_ n2_ n3_ n4_ n5_; (try clear hb); (try clear hb2); (try clear hk); (try clear hi); (try clear ho0)) | ((with_reducible refine gate_callee (f := 18) rfl ?_); refine goesL_ (some 52) rfl rfl Tryz.func18 (by kernel_rfl) rfl #[.slice A0 l0.length c0] rfl mA ?_; (with_reducible refine (flow_Give.calls k _ _ l0 t163 _ ?side1 ?side2 A14.out).mono ?_); (case side1 => exact cA (Kd.C_below HR0.out HB.out)); (case side2 => exact HC0.out); rintro e w80 ⟨v164, rfl, ho0, hb⟩; refine ⟨_, rfl, ?_⟩; have n0_ := Aside0.mk (Kd.R_below (rA HO145.out) hb); have n1_ := Aside0.mk (Kd.R_elder' (rA HO149.out) (Kd.R_base ho0) hb); have n2_ := Aside0.mk (Kd.R_below (rA HO154.out) hb); have n3_ := Aside0.mk (Kd.R_elder' (rA HO158.out) (Kd.R_base ho0) hb); have n4_ := Aside0.mk (Kd.R_below (rA HO162.out) hb); have n5_ := Aside0.mk (Kd.R_lower (Kd.R_new' (Kd.R_new' ho0 (Kd.R_lt (rA HO149.out))) (Kd.R_lt (rA HO158.out))) (below_size (bA HB.out))); have n6_ := Aside0.mk (below_step (bA HB.out) hb); clear HO145; clear HO149; clear HO154; clear HO158; clear HO162; clear HB; have HO145 := n0_; have HO149 := n1_; have HO154 := n2_; have HO158 := n3_; have HO162 := n4_; have HO165 := n5_; have HB := n6_; clear n0_ n1_ n2_ n3_ n4_ n5_ n6_; (try clear hb); (try clear hb2); (try clear hk); (try clear hi); (try clear ho0)) | ((with_reducible refine gate_callee (f := 19) rfl ?_); refine goesL_ (some 54) rfl rfl Tryz.func19 (by kernel_rfl) rfl #[.slice Ao76 t143.length co76] rfl mA ?_; (with_reducible refine (tenorref14_Give.calls k _ _ t143 t166 _ ?side1 ?side2 A15.out).mono ?_); (case side1 => exact cA ((Kd.R_reads' HO145.out).2.2)); (case side2 => exact (Kd.R_reads' HO145.out).2.1); rintro e w81 ⟨v167, rfl, ho0, hb⟩; refine ⟨_, rfl, ?_⟩; have n0_ := Aside0.mk (Kd.R_elder' (rA HO145.out) (Kd.R_base ho0) hb); have n1_ := Aside0.mk (Kd.R_below (rA HO149.out) hb); have n2_ := Aside0.mk (Kd.R_elder' (rA HO154.out) (Kd.R_base ho0) hb); have n3_ := Aside0.mk (Kd.R_below (rA HO158.out) hb); have n4_ := Aside0.mk (Kd.R_elder' (rA HO162.out) (Kd.R_base ho0) hb); have n5_ := Aside0.mk (Kd.R_below (rA HO165.out) hb); have n6_ := Aside0.mk (Kd.R_lower (Kd.R_new' (Kd.R_new' (Kd.R_new' ho0 (Kd.R_lt (rA HO145.out))) (Kd.R_lt (rA HO154.out))) (Kd.R_lt (rA HO162.out))) (below_size (bA HB.out))); have n7_ := Aside0.mk (below_step (bA HB.out) hb); clear HO145; clear HO149; clear HO154; clear HO158; clear HO162; clear HO165; clear HB; have HO145 := n0_; have HO149 := n1_; have HO154 := n2_; have HO158 := n3_; have HO162 := n4_; have HO165 := n5_; have HO168 := n6_; have HB := n7_; clear n0_ n1_ n2_ n3_ n4_ n5_ n6_ n7_; (try clear hb); (try clear hb2); (try clear hk); (try clear hi); (try clear ho0); obtain ⟨Ao82, co82, eo82⟩ := Kd.R_slice HO165.out; subst eo82; obtain ⟨Ao83, co83, eo83⟩ := Kd.R_slice HO168.out; subst eo83) | ((with_reducible refine gate_callee (f := 12) rfl ?_); refine goesL_ (some 55) rfl rfl Tryz.func12 (by kernel_rfl) rfl #[.slice Ao82 t163.length co82, .slice Ao83 t166.length co83] rfl mA ?_; (with_reducible refine (tenorref14_Same.calls k _ _ t163 _ _ t166 true _ ?side1 ?side2 ?side3 ?side4 A16.out).mono ?_); (case side1 => exact cA ((Kd.R_reads' HO165.out).2.2)); (case side2 => exact (Kd.R_reads' HO165.out).2.1); (case side3 => exact cA ((Kd.R_reads' HO168.out).2.2)); (case side4 => exact (Kd.R_reads' HO168.out).2.1); rintro e w84 ⟨rfl, hb⟩; refine ⟨_, rfl, ?_⟩; have n0_ := Aside0.mk (Kd.R_below (rA HO145.out) hb); have n1_ := Aside0.mk (Kd.R_below (rA HO149.out) hb); have n2_ := Aside0.mk (Kd.R_below (rA HO154.out) hb); have n3_ := Aside0.mk (Kd.R_below (rA HO158.out) hb); have n4_ := Aside0.mk (Kd.R_below (rA HO162.out) hb); have n5_ := Aside0.mk (Kd.R_below (rA HO165.out) hb); have n6_ := Aside0.mk (Kd.R_below (rA HO168.out) hb); have n7_ := Aside0.mk (below_step (bA HB.out) hb); clear HO145; clear HO149; clear HO154; clear HO158; clear HO162; clear HO165; clear HO168; clear HB; have HO145 := n0_; have HO149 := n1_; have HO154 := n2_; have HO158 := n3_; have HO162 := n4_; have HO165 := n5_; have HO168 := n6_; have HB := n7_; clear n0_ n1_ n2_ n3_ n4_ n5_ n6_ n7_; (try clear hb); (try clear hb2); (try clear hk); (try clear hi); obtain ⟨Ao85, co85, eo85⟩ := Kd.R_slice HO149.out; subst eo85; obtain ⟨Ao86, co86, eo86⟩ := Kd.R_slice HO154.out; subst eo86) | (go_at_call 12; (with_reducible refine (tenorref14_Same.calls k _ _ t146 _ _ t151 true _ ?side1 ?side2 ?side3 ?side4 A18.out).mono ?_); (case side1 => exact cA ((Kd.R_reads' HO149.out).2.2)); (case side2 => exact (Kd.R_reads' HO149.out).2.1); (case side3 => exact cA ((Kd.R_reads' HO154.out).2.2)); (case side4 => exact (Kd.R_reads' HO154.out).2.1); rintro e w87 ⟨rfl, hb⟩; have n0_ := Aside0.mk (Kd.R_below (rA HO145.out) hb); have n1_ := Aside0.mk (Kd.R_below (rA HO149.out) hb); have n2_ := Aside0.mk (Kd.R_below (rA HO154.out) hb); have n3_ := Aside0.mk (Kd.R_below (rA HO158.out) hb); have n4_ := Aside0.mk (Kd.R_below (rA HO162.out) hb); have n5_ := Aside0.mk (Kd.R_below (rA HO165.out) hb); have n6_ := Aside0.mk (Kd.R_below (rA HO168.out) hb); have n7_ := Aside0.mk (below_step (bA HB.out) hb); clear HO145; clear HO149; clear HO154; clear HO158; clear HO162; clear HO165; clear HO168; clear HB; have HO145 := n0_; have HO149 := n1_; have HO154 := n2_; have HO158 := n3_; have HO162 := n4_; have HO165 := n5_; have HO168 := n6_; have HB := n7_; clear n0_ n1_ n2_ n3_ n4_ n5_ n6_ n7_; (try clear hb); (try clear hb2); (try clear hk); (try clear hi)) | (go_at_call 20; (with_reducible refine (flow_Window.calls _ _ l0 a2 a3 t171 _ ?side1 ?side2 A21.out).mono ?_); (case side1 => exact cA (Kd.C_below HR0.out HB.out)); (case side2 => exact HC0.out); rintro e w88 ⟨v172, rfl, ho0, hb⟩; have n0_ := Aside0.mk (Kd.R_below (rA HO145.out) hb); have n1_ := Aside0.mk (Kd.R_below (rA HO149.out) hb); have n2_ := Aside0.mk (Kd.R_below (rA HO154.out) hb); have n3_ := Aside0.mk (Kd.R_below (rA HO158.out) hb); have n4_ := Aside0.mk (Kd.R_below (rA HO162.out) hb); have n5_ := Aside0.mk (Kd.R_below (rA HO165.out) hb); have n6_ := Aside0.mk (Kd.R_below (rA HO168.out) hb); have n7_ := Aside0.mk (Kd.V_lower (Kd.V_mono (ok' := fun k_ => some k_ ≠ (.slice Ao76 t143.length co76 : Value).ownBlock ∧ some k_ ≠ (.slice Ao85 t146.length co85 : Value).ownBlock ∧ some k_ ≠ (.slice Ao86 t151.length co86 : Value).ownBlock ∧ some k_ ≠ (v157 : Value).ownBlock ∧ some k_ ≠ (v161 : Value).ownBlock ∧ some k_ ≠ (.slice Ao82 t163.length co82 : Value).ownBlock ∧ some k_ ≠ (.slice Ao83 t166.length co83 : Value).ownBlock) (V_bnd ho0) (fun k_ hk_ => ⟨(Kd.fresh' (Kd.R_lt (rA HO145.out)) k_ hk_.2.1), (Kd.fresh' (Kd.R_lt (rA HO149.out)) k_ hk_.2.1), (Kd.fresh' (Kd.R_lt (rA HO154.out)) k_ hk_.2.1), (Kd.fresh' (Kd.R_lt (rA HO158.out)) k_ hk_.2.1), (Kd.fresh' (Kd.R_lt (rA HO162.out)) k_ hk_.2.1), (Kd.fresh' (Kd.R_lt (rA HO165.out)) k_ hk_.2.1), (Kd.fresh' (Kd.R_lt (rA HO168.out)) k_ hk_.2.1)⟩)) (below_size (bA HB.out))); have n8_ := Aside0.mk (below_step (bA HB.out) hb); clear HO145; clear HO149; clear HO154; clear HO158; clear HO162; clear HO165; clear HO168; clear HB; have HO145 := n0_; have HO149 := n1_; have HO154 := n2_; have HO158 := n3_; have HO162 := n4_; have HO165 := n5_; have HO168 := n6_; have HO173 := n7_; have HB := n8_; clear n0_ n1_ n2_ n3_ n4_ n5_ n6_ n7_ n8_; (try clear hb); (try clear hb2); (try clear hk); (try clear hi); (try clear ho0)) | (go_at_call 21; (with_reducible refine (tenorref14_Window.calls k _ _ t143 a2 a3 t174 _ ?side1 ?side2 A22.out).mono ?_); (case side1 => exact cA ((Kd.R_reads' HO145.out).2.2)); (case side2 => exact (Kd.R_reads' HO145.out).2.1); rintro e w89 ⟨v175, rfl, ho0, hb⟩; have n0_ := Aside0.mk (Kd.R_elder' (rA HO145.out) (Kd.R_base ho0) hb); have n1_ := Aside0.mk (Kd.R_below (rA HO149.out) hb); have n2_ := Aside0.mk (Kd.R_elder' (rA HO154.out) (Kd.R_base ho0) hb); have n3_ := Aside0.mk (Kd.R_below (rA HO158.out) hb); have n4_ := Aside0.mk (Kd.R_elder' (rA HO162.out) (Kd.R_base ho0) hb); have n5_ := Aside0.mk (Kd.R_below (rA HO165.out) hb); have n6_ := Aside0.mk (Kd.R_elder' (rA HO168.out) (Kd.R_base ho0) hb); have n7_ := Aside0.mk (Kd.V_elder' (by (with_reducible repeat (first | apply Kd.V_alloc | apply Kd.V_drewN | apply Kd.V_drew)); exact HO173.out) (Kd.R_base ho0) hb); have n8_ := Aside0.mk (Kd.R_lower (Kd.R_new' (Kd.R_new' (Kd.R_new' (Kd.R_new' ho0 (Kd.R_lt (rA HO145.out))) (Kd.R_lt (rA HO154.out))) (Kd.R_lt (rA HO162.out))) (Kd.R_lt (rA HO168.out))) (below_size (bA HB.out))); have n9_ := Aside0.mk (below_step (bA HB.out) hb); clear HO145; clear HO149; clear HO154; clear HO158; clear HO162; clear HO165; clear HO168; clear HO173; clear HB; have HO145 := n0_; have HO149 := n1_; have HO154 := n2_; have HO158 := n3_; have HO162 := n4_; have HO165 := n5_; have HO168 := n6_; have HO173 := n7_; have HO176 := n8_; have HB := n9_; clear n0_ n1_ n2_ n3_ n4_ n5_ n6_ n7_ n8_ n9_; (try clear hb); (try clear hb2); (try clear hk); (try clear hi); (try clear ho0); obtain ⟨Ao90, co90, eo90⟩ := Kd.V_slice HO173.out; subst eo90; obtain ⟨Ao91, co91, eo91⟩ := Kd.R_slice HO176.out; subst eo91) | (go_at_call 12; (with_reducible refine (tenorref14_Same.calls k _ _ t171 _ _ t174 false _ ?side1 ?side2 ?side3 ?side4 A23.out).mono ?_); (case side1 => exact cA ((Kd.V_reads' HO173.out).2.2)); (case side2 => exact (Kd.V_reads' HO173.out).2.1); (case side3 => exact cA ((Kd.R_reads' HO176.out).2.2)); (case side4 => exact (Kd.R_reads' HO176.out).2.1); rintro e w92 ⟨rfl, hb⟩; have n0_ := Aside0.mk (Kd.R_below (rA HO145.out) hb); have n1_ := Aside0.mk (Kd.R_below (rA HO149.out) hb); have n2_ := Aside0.mk (Kd.R_below (rA HO154.out) hb); have n3_ := Aside0.mk (Kd.R_below (rA HO158.out) hb); have n4_ := Aside0.mk (Kd.R_below (rA HO162.out) hb); have n5_ := Aside0.mk (Kd.R_below (rA HO165.out) hb); have n6_ := Aside0.mk (Kd.R_below (rA HO168.out) hb); have n7_ := Aside0.mk (Kd.V_below (by (with_reducible repeat (first | apply Kd.V_alloc | apply Kd.V_drewN | apply Kd.V_drew)); exact HO173.out) hb); have n8_ := Aside0.mk (Kd.R_below (rA HO176.out) hb); have n9_ := Aside0.mk (below_step (bA HB.out) hb); clear HO145; clear HO149; clear HO154; clear HO158; clear HO162; clear HO165; clear HO168; clear HO173; clear HO176; clear HB; have HO145 := n0_; have HO149 := n1_; have HO154 := n2_; have HO158 := n3_; have HO162 := n4_; have HO165 := n5_; have HO168 := n6_; have HO173 := n7_; have HO176 := n8_; have HB := n9_; clear n0_ n1_ n2_ n3_ n4_ n5_ n6_ n7_ n8_ n9_; (try clear hb); (try clear hb2); (try clear hk); (try clear hi)))
    go_ret
    exact ⟨by first | rfl | (simp [errW_none, errW_some] <;> rfl) | (simp [*, errW_none, errW_some] <;> rfl), bA HB.out⟩
  subst c24
  have H1 : ((tenorref14_Same.f k t155 t159).bind fun t178 => (if t178 = true then (if t156 = t160 then ((law14_awake.f).bind fun t179 => (some t179)) else (none)) else (some false))) = some r := by rw [if_pos rfl] at H; exact H
  clear H
  have H := H1
  clear H1
  replace H := Option.bind_eq_some_iff.mp H
  obtain ⟨t178, A250, H⟩ := H
  have A25 := Aside0.mk A250
  clear A250
  by_cases c26 : t178 = true
  rotate_left
  · replace c26 := Bool.eq_false_iff.mpr c26
    subst c26
    have H1 : (some false) = some r := by rw [if_neg (show ¬ (false = true) by decide)] at H; exact H
    clear H
    have H := H1
    clear H1
    obtain rfl := Option.some.inj H
    go_enter Tryz.func4, Tryz.ntmps4
    go_wp2_with (first | ((with_reducible refine gate_callee (f := 7) rfl ?_); refine goesL_ (some 21) rfl rfl Tryz.func7 (by kernel_rfl) rfl #[.slice A0 l0.length c0] rfl mA ?_; (with_reducible refine (tenorlaw14_Few.calls _ _ l0 true _ ?side1 ?side2 A6.out).mono ?_); (case side1 => exact cA HR0.out); (case side2 => exact HC0.out); rintro e w' ⟨rfl, ⟨nd, rfl⟩⟩; refine ⟨_, rfl, ?_⟩) | ((with_reducible refine gate_callee (f := 11) rfl ?_); refine goesL_ (some 25) rfl rfl Tryz.func11 (by kernel_rfl) rfl #[.slice A0 l0.length c0] rfl mA ?_; (with_reducible refine (tenorref14_Of.calls k _ _ l0 t143 _ ?side1 ?side2 A8.out).mono ?_); (case side1 => exact cA HR0.out); (case side2 => exact HC0.out); rintro e w52 ⟨v144, rfl, ho0, hb⟩; refine ⟨_, rfl, ?_⟩; have n0_ := Aside0.mk (Kd.R_lower ho0 (below_size (bA HB.out))); have n1_ := Aside0.mk (below_step (bA HB.out) hb); clear HB; have HO145 := n0_; have HB := n1_; clear n0_ n1_; (try clear hb); (try clear hb2); (try clear hk); (try clear hi); (try clear ho0)) | ((with_reducible refine gate_callee (f := 13) rfl ?_); refine goesL_ (some 29) rfl rfl Tryz.func13 (by kernel_rfl) rfl #[.float .f64 a1, .slice A0 l0.length c0] rfl mA ?_; (with_reducible refine (FS.flow_Scale.calls k a1 _ _ l0 t146 t147 _ ?side1 ?side2 A9.out).mono ?_); (case side1 => exact cA (Kd.C_below HR0.out HB.out)); (case side2 => exact HC0.out); rintro e w53 ⟨v148, rfl, ho0, hb⟩; refine ⟨_, rfl, ?_⟩; have n0_ := Aside0.mk (Kd.R_below (rA HO145.out) hb); have n1_ := Aside0.mk (Kd.R_lower ho0 (below_size (bA HB.out))); have n2_ := Aside0.mk (below_step (bA HB.out) hb); clear HO145; clear HB; have HO145 := n0_; have HO149 := n1_; have HB := n2_; clear n0_ n1_ n2_; (try clear hb); (try clear hb2); (try clear hk); (try clear hi); (try clear ho0)) | ((with_reducible refine gate_callee (f := 15) rfl ?_); refine goesL_ (some 34) rfl rfl Tryz.func15 (by kernel_rfl) rfl #[.float .f64 a1] rfl mA ?_; (with_reducible refine (api_Bits.calls a1 t150 _ A10.out).mono ?_); rintro e w' ⟨rfl, ⟨nd, rfl⟩⟩; refine ⟨_, rfl, ?_⟩; obtain ⟨Ao54, co54, eo54⟩ := Kd.R_slice HO145.out; subst eo54) | ((with_reducible refine gate_callee (f := 14) rfl ?_); refine goesL_ (some 36) rfl rfl Tryz.func14 (by kernel_rfl) rfl #[.int .u64 t150, .slice Ao54 t143.length co54] rfl mA ?_; (with_reducible refine (tenorref14_Scale.calls k t150 _ _ t143 t151 t152 _ ?side1 ?side2 A11.out).mono ?_); (case side1 => exact cA ((Kd.R_reads' HO145.out).2.2)); (case side2 => exact (Kd.R_reads' HO145.out).2.1); rintro e w55 ⟨v153, rfl, ho0, hb⟩; refine ⟨_, rfl, ?_⟩; have n0_ := Aside0.mk (Kd.R_elder' (rA HO145.out) (Kd.R_base ho0) hb); have n1_ := Aside0.mk (Kd.R_below (rA HO149.out) hb); have n2_ := Aside0.mk (Kd.R_lower (Kd.R_new' ho0 (Kd.R_lt (rA HO145.out))) (below_size (bA HB.out))); have n3_ := Aside0.mk (below_step (bA HB.out) hb); clear HO145; clear HO149; clear HB; have HO145 := n0_; have HO149 := n1_; have HO154 := n2_; have HB := n3_; clear n0_ n1_ n2_ n3_; (try clear hb); (try clear hb2); (try clear hk); (try clear hi); (try clear ho0)) | ((with_reducible refine gate_callee (f := 16) rfl ?_); refine goesL_ (some 42) rfl rfl Tryz.func16 (by kernel_rfl) rfl #[.slice A0 l0.length c0, .int .i64 a4] rfl mA ?_; (with_reducible refine (flow_Shift.calls k _ _ l0 a4 t155 t156 _ ?side1 ?side2 A12.out).mono ?_); (case side1 => exact cA (Kd.C_below HR0.out HB.out)); (case side2 => exact HC0.out); rintro e w56 ⟨v157, rfl, ho0, hb⟩; refine ⟨_, rfl, ?_⟩; have n0_ := Aside0.mk (Kd.R_below (rA HO145.out) hb); have n1_ := Aside0.mk (Kd.R_elder' (rA HO149.out) (Kd.R_base ho0) hb); have n2_ := Aside0.mk (Kd.R_below (rA HO154.out) hb); have n3_ := Aside0.mk (Kd.R_lower (Kd.R_new' ho0 (Kd.R_lt (rA HO149.out))) (below_size (bA HB.out))); have n4_ := Aside0.mk (below_step (bA HB.out) hb); clear HO145; clear HO149; clear HO154; clear HB; have HO145 := n0_; have HO149 := n1_; have HO154 := n2_; have HO158 := n3_; have HB := n4_; clear n0_ n1_ n2_ n3_ n4_; (try clear hb); (try clear hb2); (try clear hk); (try clear hi); (try clear ho0)) | ((with_reducible refine gate_callee (f := 17) rfl ?_); refine goesL_ (some 48) rfl rfl Tryz.func17 (by kernel_rfl) rfl #[.slice Ao54 t143.length co54, .int .i64 a4] rfl mA ?_; (with_reducible refine (tenorref14_Shift.calls k _ _ t143 a4 t159 t160 _ ?side1 ?side2 A13.out).mono ?_); (case side1 => exact cA ((Kd.R_reads' HO145.out).2.2)); (case side2 => exact (Kd.R_reads' HO145.out).2.1); rintro e w57 ⟨v161, rfl, ho0, hb⟩; refine ⟨_, rfl, ?_⟩; have n0_ := Aside0.mk (Kd.R_elder' (rA HO145.out) (Kd.R_base ho0) hb); have n1_ := Aside0.mk (Kd.R_below (rA HO149.out) hb); have n2_ := Aside0.mk (Kd.R_elder' (rA HO154.out) (Kd.R_base ho0) hb); have n3_ := Aside0.mk (Kd.R_below (rA HO158.out) hb); have n4_ := Aside0.mk (Kd.R_lower (Kd.R_new' (Kd.R_new' ho0 (Kd.R_lt (rA HO145.out))) (Kd.R_lt (rA HO154.out))) (below_size (bA HB.out))); have n5_ := Aside0.mk (below_step (bA HB.out) hb); clear HO145; clear HO149; clear HO154; clear HO158; clear HB; have HO145 := n0_; have HO149 := n1_; have HO154 := n2_; have HO158 := n3_; have HO162 := n4_; have HB := n5_; clear n0_ n1_ n2_ n3_ n4_ n5_; (try clear hb); (try clear hb2); (try clear hk); (try clear hi); (try clear ho0)) | ((with_reducible refine gate_callee (f := 18) rfl ?_); refine goesL_ (some 52) rfl rfl Tryz.func18 (by kernel_rfl) rfl #[.slice A0 l0.length c0] rfl mA ?_; (with_reducible refine (flow_Give.calls k _ _ l0 t163 _ ?side1 ?side2 A14.out).mono ?_); (case side1 => exact cA (Kd.C_below HR0.out HB.out)); (case side2 => exact HC0.out); rintro e w58 ⟨v164, rfl, ho0, hb⟩; refine ⟨_, rfl, ?_⟩; have n0_ := Aside0.mk (Kd.R_below (rA HO145.out) hb); have n1_ := Aside0.mk (Kd.R_elder' (rA HO149.out) (Kd.R_base ho0) hb); have n2_ := Aside0.mk (Kd.R_below (rA HO154.out) hb); have n3_ := Aside0.mk (Kd.R_elder' (rA HO158.out) (Kd.R_base ho0) hb); have n4_ := Aside0.mk (Kd.R_below (rA HO162.out) hb); have n5_ := Aside0.mk (Kd.R_lower (Kd.R_new' (Kd.R_new' ho0 (Kd.R_lt (rA HO149.out))) (Kd.R_lt (rA HO158.out))) (below_size (bA HB.out))); have n6_ := Aside0.mk (below_step (bA HB.out) hb); clear HO145; clear HO149; clear HO154; clear HO158; clear HO162; clear HB; have HO145 := n0_; have HO149 := n1_; have HO154 := n2_; have HO158 := n3_; have HO162 := n4_; have HO165 := n5_; have HB := n6_; clear n0_ n1_ n2_ n3_ n4_ n5_ n6_; (try clear hb); (try clear hb2); (try clear hk); (try clear hi); (try clear ho0)) | ((with_reducible refine gate_callee (f := 19) rfl ?_); refine goesL_ (some 54) rfl rfl Tryz.func19 (by kernel_rfl) rfl #[.slice Ao54 t143.length co54] rfl mA ?_; (with_reducible refine (tenorref14_Give.calls k _ _ t143 t166 _ ?side1 ?side2 A15.out).mono ?_); (case side1 => exact cA ((Kd.R_reads' HO145.out).2.2)); (case side2 => exact (Kd.R_reads' HO145.out).2.1); rintro e w59 ⟨v167, rfl, ho0, hb⟩; refine ⟨_, rfl, ?_⟩; have n0_ := Aside0.mk (Kd.R_elder' (rA HO145.out) (Kd.R_base ho0) hb); have n1_ := Aside0.mk (Kd.R_below (rA HO149.out) hb); have n2_ := Aside0.mk (Kd.R_elder' (rA HO154.out) (Kd.R_base ho0) hb); have n3_ := Aside0.mk (Kd.R_below (rA HO158.out) hb); have n4_ := Aside0.mk (Kd.R_elder' (rA HO162.out) (Kd.R_base ho0) hb); have n5_ := Aside0.mk (Kd.R_below (rA HO165.out) hb); have n6_ := Aside0.mk (Kd.R_lower (Kd.R_new' (Kd.R_new' (Kd.R_new' ho0 (Kd.R_lt (rA HO145.out))) (Kd.R_lt (rA HO154.out))) (Kd.R_lt (rA HO162.out))) (below_size (bA HB.out))); have n7_ := Aside0.mk (below_step (bA HB.out) hb); clear HO145; clear HO149; clear HO154; clear HO158; clear HO162; clear HO165; clear HB; have HO145 := n0_; have HO149 := n1_; have HO154 := n2_; have HO158 := n3_; have HO162 := n4_; have HO165 := n5_; have HO168 := n6_; have HB := n7_; clear n0_ n1_ n2_ n3_ n4_ n5_ n6_ n7_; (try clear hb); (try clear hb2); (try clear hk); (try clear hi); (try clear ho0); obtain ⟨Ao60, co60, eo60⟩ := Kd.R_slice HO165.out; subst eo60; obtain ⟨Ao61, co61, eo61⟩ := Kd.R_slice HO168.out; subst eo61) | ((with_reducible refine gate_callee (f := 12) rfl ?_); refine goesL_ (some 55) rfl rfl Tryz.func12 (by kernel_rfl) rfl #[.slice Ao60 t163.length co60, .slice Ao61 t166.length co61] rfl mA ?_; (with_reducible refine (tenorref14_Same.calls k _ _ t163 _ _ t166 true _ ?side1 ?side2 ?side3 ?side4 A16.out).mono ?_); (case side1 => exact cA ((Kd.R_reads' HO165.out).2.2)); (case side2 => exact (Kd.R_reads' HO165.out).2.1); (case side3 => exact cA ((Kd.R_reads' HO168.out).2.2)); (case side4 => exact (Kd.R_reads' HO168.out).2.1); rintro e w62 ⟨rfl, hb⟩; refine ⟨_, rfl, ?_⟩; have n0_ := Aside0.mk (Kd.R_below (rA HO145.out) hb); have n1_ := Aside0.mk (Kd.R_below (rA HO149.out) hb); have n2_ := Aside0.mk (Kd.R_below (rA HO154.out) hb); have n3_ := Aside0.mk (Kd.R_below (rA HO158.out) hb); have n4_ := Aside0.mk (Kd.R_below (rA HO162.out) hb); have n5_ := Aside0.mk (Kd.R_below (rA HO165.out) hb); have n6_ := Aside0.mk (Kd.R_below (rA HO168.out) hb); have n7_ := Aside0.mk (below_step (bA HB.out) hb); clear HO145; clear HO149; clear HO154; clear HO158; clear HO162; clear HO165; clear HO168; clear HB; have HO145 := n0_; have HO149 := n1_; have HO154 := n2_; have HO158 := n3_; have HO162 := n4_; have HO165 := n5_; have HO168 := n6_; have HB := n7_; clear n0_ n1_ n2_ n3_ n4_ n5_ n6_ n7_; (try clear hb); (try clear hb2); (try clear hk); (try clear hi); obtain ⟨Ao63, co63, eo63⟩ := Kd.R_slice HO149.out; subst eo63; obtain ⟨Ao64, co64, eo64⟩ := Kd.R_slice HO154.out; subst eo64) | (go_at_call 12; (with_reducible refine (tenorref14_Same.calls k _ _ t146 _ _ t151 true _ ?side1 ?side2 ?side3 ?side4 A18.out).mono ?_); (case side1 => exact cA ((Kd.R_reads' HO149.out).2.2)); (case side2 => exact (Kd.R_reads' HO149.out).2.1); (case side3 => exact cA ((Kd.R_reads' HO154.out).2.2)); (case side4 => exact (Kd.R_reads' HO154.out).2.1); rintro e w65 ⟨rfl, hb⟩; have n0_ := Aside0.mk (Kd.R_below (rA HO145.out) hb); have n1_ := Aside0.mk (Kd.R_below (rA HO149.out) hb); have n2_ := Aside0.mk (Kd.R_below (rA HO154.out) hb); have n3_ := Aside0.mk (Kd.R_below (rA HO158.out) hb); have n4_ := Aside0.mk (Kd.R_below (rA HO162.out) hb); have n5_ := Aside0.mk (Kd.R_below (rA HO165.out) hb); have n6_ := Aside0.mk (Kd.R_below (rA HO168.out) hb); have n7_ := Aside0.mk (below_step (bA HB.out) hb); clear HO145; clear HO149; clear HO154; clear HO158; clear HO162; clear HO165; clear HO168; clear HB; have HO145 := n0_; have HO149 := n1_; have HO154 := n2_; have HO158 := n3_; have HO162 := n4_; have HO165 := n5_; have HO168 := n6_; have HB := n7_; clear n0_ n1_ n2_ n3_ n4_ n5_ n6_ n7_; (try clear hb); (try clear hb2); (try clear hk); (try clear hi)) | (go_at_call 20; (with_reducible refine (flow_Window.calls _ _ l0 a2 a3 t171 _ ?side1 ?side2 A21.out).mono ?_); (case side1 => exact cA (Kd.C_below HR0.out HB.out)); (case side2 => exact HC0.out); rintro e w66 ⟨v172, rfl, ho0, hb⟩; have n0_ := Aside0.mk (Kd.R_below (rA HO145.out) hb); have n1_ := Aside0.mk (Kd.R_below (rA HO149.out) hb); have n2_ := Aside0.mk (Kd.R_below (rA HO154.out) hb); have n3_ := Aside0.mk (Kd.R_below (rA HO158.out) hb); have n4_ := Aside0.mk (Kd.R_below (rA HO162.out) hb); have n5_ := Aside0.mk (Kd.R_below (rA HO165.out) hb); have n6_ := Aside0.mk (Kd.R_below (rA HO168.out) hb); have n7_ := Aside0.mk (Kd.V_lower (Kd.V_mono (ok' := fun k_ => some k_ ≠ (.slice Ao54 t143.length co54 : Value).ownBlock ∧ some k_ ≠ (.slice Ao63 t146.length co63 : Value).ownBlock ∧ some k_ ≠ (.slice Ao64 t151.length co64 : Value).ownBlock ∧ some k_ ≠ (v157 : Value).ownBlock ∧ some k_ ≠ (v161 : Value).ownBlock ∧ some k_ ≠ (.slice Ao60 t163.length co60 : Value).ownBlock ∧ some k_ ≠ (.slice Ao61 t166.length co61 : Value).ownBlock) (V_bnd ho0) (fun k_ hk_ => ⟨(Kd.fresh' (Kd.R_lt (rA HO145.out)) k_ hk_.2.1), (Kd.fresh' (Kd.R_lt (rA HO149.out)) k_ hk_.2.1), (Kd.fresh' (Kd.R_lt (rA HO154.out)) k_ hk_.2.1), (Kd.fresh' (Kd.R_lt (rA HO158.out)) k_ hk_.2.1), (Kd.fresh' (Kd.R_lt (rA HO162.out)) k_ hk_.2.1), (Kd.fresh' (Kd.R_lt (rA HO165.out)) k_ hk_.2.1), (Kd.fresh' (Kd.R_lt (rA HO168.out)) k_ hk_.2.1)⟩)) (below_size (bA HB.out))); have n8_ := Aside0.mk (below_step (bA HB.out) hb); clear HO145; clear HO149; clear HO154; clear HO158; clear HO162; clear HO165; clear HO168; clear HB; have HO145 := n0_; have HO149 := n1_; have HO154 := n2_; have HO158 := n3_; have HO162 := n4_; have HO165 := n5_; have HO168 := n6_; have HO173 := n7_; have HB := n8_; clear n0_ n1_ n2_ n3_ n4_ n5_ n6_ n7_ n8_; (try clear hb); (try clear hb2); (try clear hk); (try clear hi); (try clear ho0)) | (go_at_call 21; (with_reducible refine (tenorref14_Window.calls k _ _ t143 a2 a3 t174 _ ?side1 ?side2 A22.out).mono ?_); (case side1 => exact cA ((Kd.R_reads' HO145.out).2.2)); (case side2 => exact (Kd.R_reads' HO145.out).2.1); rintro e w67 ⟨v175, rfl, ho0, hb⟩; have n0_ := Aside0.mk (Kd.R_elder' (rA HO145.out) (Kd.R_base ho0) hb); have n1_ := Aside0.mk (Kd.R_below (rA HO149.out) hb); have n2_ := Aside0.mk (Kd.R_elder' (rA HO154.out) (Kd.R_base ho0) hb); have n3_ := Aside0.mk (Kd.R_below (rA HO158.out) hb); have n4_ := Aside0.mk (Kd.R_elder' (rA HO162.out) (Kd.R_base ho0) hb); have n5_ := Aside0.mk (Kd.R_below (rA HO165.out) hb); have n6_ := Aside0.mk (Kd.R_elder' (rA HO168.out) (Kd.R_base ho0) hb); have n7_ := Aside0.mk (Kd.V_elder' (by (with_reducible repeat (first | apply Kd.V_alloc | apply Kd.V_drewN | apply Kd.V_drew)); exact HO173.out) (Kd.R_base ho0) hb); have n8_ := Aside0.mk (Kd.R_lower (Kd.R_new' (Kd.R_new' (Kd.R_new' (Kd.R_new' ho0 (Kd.R_lt (rA HO145.out))) (Kd.R_lt (rA HO154.out))) (Kd.R_lt (rA HO162.out))) (Kd.R_lt (rA HO168.out))) (below_size (bA HB.out))); have n9_ := Aside0.mk (below_step (bA HB.out) hb); clear HO145; clear HO149; clear HO154; clear HO158; clear HO162; clear HO165; clear HO168; clear HO173; clear HB; have HO145 := n0_; have HO149 := n1_; have HO154 := n2_; have HO158 := n3_; have HO162 := n4_; have HO165 := n5_; have HO168 := n6_; have HO173 := n7_; have HO176 := n8_; have HB := n9_; clear n0_ n1_ n2_ n3_ n4_ n5_ n6_ n7_ n8_ n9_; (try clear hb); (try clear hb2); (try clear hk); (try clear hi); (try clear ho0); obtain ⟨Ao68, co68, eo68⟩ := Kd.V_slice HO173.out; subst eo68; obtain ⟨Ao69, co69, eo69⟩ := Kd.R_slice HO176.out; subst eo69) | (go_at_call 12; (with_reducible refine (tenorref14_Same.calls k _ _ t171 _ _ t174 true _ ?side1 ?side2 ?side3 ?side4 A23.out).mono ?_); (case side1 => exact cA ((Kd.V_reads' HO173.out).2.2)); (case side2 => exact (Kd.V_reads' HO173.out).2.1); (case side3 => exact cA ((Kd.R_reads' HO176.out).2.2)); (case side4 => exact (Kd.R_reads' HO176.out).2.1); rintro e w70 ⟨rfl, hb⟩; have n0_ := Aside0.mk (Kd.R_below (rA HO145.out) hb); have n1_ := Aside0.mk (Kd.R_below (rA HO149.out) hb); have n2_ := Aside0.mk (Kd.R_below (rA HO154.out) hb); have n3_ := Aside0.mk (Kd.R_below (rA HO158.out) hb); have n4_ := Aside0.mk (Kd.R_below (rA HO162.out) hb); have n5_ := Aside0.mk (Kd.R_below (rA HO165.out) hb); have n6_ := Aside0.mk (Kd.R_below (rA HO168.out) hb); have n7_ := Aside0.mk (Kd.V_below (by (with_reducible repeat (first | apply Kd.V_alloc | apply Kd.V_drewN | apply Kd.V_drew)); exact HO173.out) hb); have n8_ := Aside0.mk (Kd.R_below (rA HO176.out) hb); have n9_ := Aside0.mk (below_step (bA HB.out) hb); clear HO145; clear HO149; clear HO154; clear HO158; clear HO162; clear HO165; clear HO168; clear HO173; clear HO176; clear HB; have HO145 := n0_; have HO149 := n1_; have HO154 := n2_; have HO158 := n3_; have HO162 := n4_; have HO165 := n5_; have HO168 := n6_; have HO173 := n7_; have HO176 := n8_; have HB := n9_; clear n0_ n1_ n2_ n3_ n4_ n5_ n6_ n7_ n8_ n9_; (try clear hb); (try clear hb2); (try clear hk); (try clear hi); obtain ⟨Ao71, co71, eo71⟩ := Kd.R_slice HO158.out; subst eo71; obtain ⟨Ao72, co72, eo72⟩ := Kd.R_slice HO162.out; subst eo72) | (go_at_call 12; (with_reducible refine (tenorref14_Same.calls k _ _ t155 _ _ t159 false _ ?side1 ?side2 ?side3 ?side4 A25.out).mono ?_); (case side1 => exact cA ((Kd.R_reads' HO158.out).2.2)); (case side2 => exact (Kd.R_reads' HO158.out).2.1); (case side3 => exact cA ((Kd.R_reads' HO162.out).2.2)); (case side4 => exact (Kd.R_reads' HO162.out).2.1); rintro e w73 ⟨rfl, hb⟩; have n0_ := Aside0.mk (Kd.R_below (rA HO145.out) hb); have n1_ := Aside0.mk (Kd.R_below (rA HO149.out) hb); have n2_ := Aside0.mk (Kd.R_below (rA HO154.out) hb); have n3_ := Aside0.mk (Kd.R_below (rA HO158.out) hb); have n4_ := Aside0.mk (Kd.R_below (rA HO162.out) hb); have n5_ := Aside0.mk (Kd.R_below (rA HO165.out) hb); have n6_ := Aside0.mk (Kd.R_below (rA HO168.out) hb); have n7_ := Aside0.mk (Kd.V_below (by (with_reducible repeat (first | apply Kd.V_alloc | apply Kd.V_drewN | apply Kd.V_drew)); exact HO173.out) hb); have n8_ := Aside0.mk (Kd.R_below (rA HO176.out) hb); have n9_ := Aside0.mk (below_step (bA HB.out) hb); clear HO145; clear HO149; clear HO154; clear HO158; clear HO162; clear HO165; clear HO168; clear HO173; clear HO176; clear HB; have HO145 := n0_; have HO149 := n1_; have HO154 := n2_; have HO158 := n3_; have HO162 := n4_; have HO165 := n5_; have HO168 := n6_; have HO173 := n7_; have HO176 := n8_; have HB := n9_; clear n0_ n1_ n2_ n3_ n4_ n5_ n6_ n7_ n8_ n9_; (try clear hb); (try clear hb2); (try clear hk); (try clear hi)))
    go_ret
    exact ⟨by first | rfl | (simp [errW_none, errW_some] <;> rfl) | (simp [*, errW_none, errW_some] <;> rfl), bA HB.out⟩
  subst c26
  have H1 : (if t156 = t160 then ((law14_awake.f).bind fun t179 => (some t179)) else (none)) = some r := by rw [if_pos rfl] at H; exact H
  clear H
  have H := H1
  clear H1
  by_cases c27 : t156 = t160
  rotate_left
  · rw [if_neg c27] at H
    exact absurd H (by simp)
  rw [if_pos c27] at H
  have c27b0 : (t156 == t160) = true := beq_iff_eq.mpr c27
  have c27b1 : (t156 != t160) = false := bne_eq_false_iff_eq.mpr c27
  clear c27
  replace H := Option.bind_eq_some_iff.mp H
  obtain ⟨t179, A280, H⟩ := H
  have A28 := Aside0.mk A280
  clear A280
  obtain rfl := Option.some.inj H
  go_enter Tryz.func4, Tryz.ntmps4
  go_wp2_with (first | ((with_reducible refine gate_callee (f := 7) rfl ?_); refine goesL_ (some 21) rfl rfl Tryz.func7 (by kernel_rfl) rfl #[.slice A0 l0.length c0] rfl mA ?_; (with_reducible refine (tenorlaw14_Few.calls _ _ l0 true _ ?side1 ?side2 A6.out).mono ?_); (case side1 => exact cA HR0.out); (case side2 => exact HC0.out); rintro e w' ⟨rfl, ⟨nd, rfl⟩⟩; refine ⟨_, rfl, ?_⟩) | ((with_reducible refine gate_callee (f := 11) rfl ?_); refine goesL_ (some 25) rfl rfl Tryz.func11 (by kernel_rfl) rfl #[.slice A0 l0.length c0] rfl mA ?_; (with_reducible refine (tenorref14_Of.calls k _ _ l0 t143 _ ?side1 ?side2 A8.out).mono ?_); (case side1 => exact cA HR0.out); (case side2 => exact HC0.out); rintro e w29 ⟨v144, rfl, ho0, hb⟩; refine ⟨_, rfl, ?_⟩; have n0_ := Aside0.mk (Kd.R_lower ho0 (below_size (bA HB.out))); have n1_ := Aside0.mk (below_step (bA HB.out) hb); clear HB; have HO145 := n0_; have HB := n1_; clear n0_ n1_; (try clear hb); (try clear hb2); (try clear hk); (try clear hi); (try clear ho0)) | ((with_reducible refine gate_callee (f := 13) rfl ?_); refine goesL_ (some 29) rfl rfl Tryz.func13 (by kernel_rfl) rfl #[.float .f64 a1, .slice A0 l0.length c0] rfl mA ?_; (with_reducible refine (FS.flow_Scale.calls k a1 _ _ l0 t146 t147 _ ?side1 ?side2 A9.out).mono ?_); (case side1 => exact cA (Kd.C_below HR0.out HB.out)); (case side2 => exact HC0.out); rintro e w30 ⟨v148, rfl, ho0, hb⟩; refine ⟨_, rfl, ?_⟩; have n0_ := Aside0.mk (Kd.R_below (rA HO145.out) hb); have n1_ := Aside0.mk (Kd.R_lower ho0 (below_size (bA HB.out))); have n2_ := Aside0.mk (below_step (bA HB.out) hb); clear HO145; clear HB; have HO145 := n0_; have HO149 := n1_; have HB := n2_; clear n0_ n1_ n2_; (try clear hb); (try clear hb2); (try clear hk); (try clear hi); (try clear ho0)) | ((with_reducible refine gate_callee (f := 15) rfl ?_); refine goesL_ (some 34) rfl rfl Tryz.func15 (by kernel_rfl) rfl #[.float .f64 a1] rfl mA ?_; (with_reducible refine (api_Bits.calls a1 t150 _ A10.out).mono ?_); rintro e w' ⟨rfl, ⟨nd, rfl⟩⟩; refine ⟨_, rfl, ?_⟩; obtain ⟨Ao31, co31, eo31⟩ := Kd.R_slice HO145.out; subst eo31) | ((with_reducible refine gate_callee (f := 14) rfl ?_); refine goesL_ (some 36) rfl rfl Tryz.func14 (by kernel_rfl) rfl #[.int .u64 t150, .slice Ao31 t143.length co31] rfl mA ?_; (with_reducible refine (tenorref14_Scale.calls k t150 _ _ t143 t151 t152 _ ?side1 ?side2 A11.out).mono ?_); (case side1 => exact cA ((Kd.R_reads' HO145.out).2.2)); (case side2 => exact (Kd.R_reads' HO145.out).2.1); rintro e w32 ⟨v153, rfl, ho0, hb⟩; refine ⟨_, rfl, ?_⟩; have n0_ := Aside0.mk (Kd.R_elder' (rA HO145.out) (Kd.R_base ho0) hb); have n1_ := Aside0.mk (Kd.R_below (rA HO149.out) hb); have n2_ := Aside0.mk (Kd.R_lower (Kd.R_new' ho0 (Kd.R_lt (rA HO145.out))) (below_size (bA HB.out))); have n3_ := Aside0.mk (below_step (bA HB.out) hb); clear HO145; clear HO149; clear HB; have HO145 := n0_; have HO149 := n1_; have HO154 := n2_; have HB := n3_; clear n0_ n1_ n2_ n3_; (try clear hb); (try clear hb2); (try clear hk); (try clear hi); (try clear ho0)) | ((with_reducible refine gate_callee (f := 16) rfl ?_); refine goesL_ (some 42) rfl rfl Tryz.func16 (by kernel_rfl) rfl #[.slice A0 l0.length c0, .int .i64 a4] rfl mA ?_; (with_reducible refine (flow_Shift.calls k _ _ l0 a4 t155 t156 _ ?side1 ?side2 A12.out).mono ?_); (case side1 => exact cA (Kd.C_below HR0.out HB.out)); (case side2 => exact HC0.out); rintro e w33 ⟨v157, rfl, ho0, hb⟩; refine ⟨_, rfl, ?_⟩; have n0_ := Aside0.mk (Kd.R_below (rA HO145.out) hb); have n1_ := Aside0.mk (Kd.R_elder' (rA HO149.out) (Kd.R_base ho0) hb); have n2_ := Aside0.mk (Kd.R_below (rA HO154.out) hb); have n3_ := Aside0.mk (Kd.R_lower (Kd.R_new' ho0 (Kd.R_lt (rA HO149.out))) (below_size (bA HB.out))); have n4_ := Aside0.mk (below_step (bA HB.out) hb); clear HO145; clear HO149; clear HO154; clear HB; have HO145 := n0_; have HO149 := n1_; have HO154 := n2_; have HO158 := n3_; have HB := n4_; clear n0_ n1_ n2_ n3_ n4_; (try clear hb); (try clear hb2); (try clear hk); (try clear hi); (try clear ho0)) | ((with_reducible refine gate_callee (f := 17) rfl ?_); refine goesL_ (some 48) rfl rfl Tryz.func17 (by kernel_rfl) rfl #[.slice Ao31 t143.length co31, .int .i64 a4] rfl mA ?_; (with_reducible refine (tenorref14_Shift.calls k _ _ t143 a4 t159 t160 _ ?side1 ?side2 A13.out).mono ?_); (case side1 => exact cA ((Kd.R_reads' HO145.out).2.2)); (case side2 => exact (Kd.R_reads' HO145.out).2.1); rintro e w34 ⟨v161, rfl, ho0, hb⟩; refine ⟨_, rfl, ?_⟩; have n0_ := Aside0.mk (Kd.R_elder' (rA HO145.out) (Kd.R_base ho0) hb); have n1_ := Aside0.mk (Kd.R_below (rA HO149.out) hb); have n2_ := Aside0.mk (Kd.R_elder' (rA HO154.out) (Kd.R_base ho0) hb); have n3_ := Aside0.mk (Kd.R_below (rA HO158.out) hb); have n4_ := Aside0.mk (Kd.R_lower (Kd.R_new' (Kd.R_new' ho0 (Kd.R_lt (rA HO145.out))) (Kd.R_lt (rA HO154.out))) (below_size (bA HB.out))); have n5_ := Aside0.mk (below_step (bA HB.out) hb); clear HO145; clear HO149; clear HO154; clear HO158; clear HB; have HO145 := n0_; have HO149 := n1_; have HO154 := n2_; have HO158 := n3_; have HO162 := n4_; have HB := n5_; clear n0_ n1_ n2_ n3_ n4_ n5_; (try clear hb); (try clear hb2); (try clear hk); (try clear hi); (try clear ho0)) | ((with_reducible refine gate_callee (f := 18) rfl ?_); refine goesL_ (some 52) rfl rfl Tryz.func18 (by kernel_rfl) rfl #[.slice A0 l0.length c0] rfl mA ?_; (with_reducible refine (flow_Give.calls k _ _ l0 t163 _ ?side1 ?side2 A14.out).mono ?_); (case side1 => exact cA (Kd.C_below HR0.out HB.out)); (case side2 => exact HC0.out); rintro e w35 ⟨v164, rfl, ho0, hb⟩; refine ⟨_, rfl, ?_⟩; have n0_ := Aside0.mk (Kd.R_below (rA HO145.out) hb); have n1_ := Aside0.mk (Kd.R_elder' (rA HO149.out) (Kd.R_base ho0) hb); have n2_ := Aside0.mk (Kd.R_below (rA HO154.out) hb); have n3_ := Aside0.mk (Kd.R_elder' (rA HO158.out) (Kd.R_base ho0) hb); have n4_ := Aside0.mk (Kd.R_below (rA HO162.out) hb); have n5_ := Aside0.mk (Kd.R_lower (Kd.R_new' (Kd.R_new' ho0 (Kd.R_lt (rA HO149.out))) (Kd.R_lt (rA HO158.out))) (below_size (bA HB.out))); have n6_ := Aside0.mk (below_step (bA HB.out) hb); clear HO145; clear HO149; clear HO154; clear HO158; clear HO162; clear HB; have HO145 := n0_; have HO149 := n1_; have HO154 := n2_; have HO158 := n3_; have HO162 := n4_; have HO165 := n5_; have HB := n6_; clear n0_ n1_ n2_ n3_ n4_ n5_ n6_; (try clear hb); (try clear hb2); (try clear hk); (try clear hi); (try clear ho0)) | ((with_reducible refine gate_callee (f := 19) rfl ?_); refine goesL_ (some 54) rfl rfl Tryz.func19 (by kernel_rfl) rfl #[.slice Ao31 t143.length co31] rfl mA ?_; (with_reducible refine (tenorref14_Give.calls k _ _ t143 t166 _ ?side1 ?side2 A15.out).mono ?_); (case side1 => exact cA ((Kd.R_reads' HO145.out).2.2)); (case side2 => exact (Kd.R_reads' HO145.out).2.1); rintro e w36 ⟨v167, rfl, ho0, hb⟩; refine ⟨_, rfl, ?_⟩; have n0_ := Aside0.mk (Kd.R_elder' (rA HO145.out) (Kd.R_base ho0) hb); have n1_ := Aside0.mk (Kd.R_below (rA HO149.out) hb); have n2_ := Aside0.mk (Kd.R_elder' (rA HO154.out) (Kd.R_base ho0) hb); have n3_ := Aside0.mk (Kd.R_below (rA HO158.out) hb); have n4_ := Aside0.mk (Kd.R_elder' (rA HO162.out) (Kd.R_base ho0) hb); have n5_ := Aside0.mk (Kd.R_below (rA HO165.out) hb); have n6_ := Aside0.mk (Kd.R_lower (Kd.R_new' (Kd.R_new' (Kd.R_new' ho0 (Kd.R_lt (rA HO145.out))) (Kd.R_lt (rA HO154.out))) (Kd.R_lt (rA HO162.out))) (below_size (bA HB.out))); have n7_ := Aside0.mk (below_step (bA HB.out) hb); clear HO145; clear HO149; clear HO154; clear HO158; clear HO162; clear HO165; clear HB; have HO145 := n0_; have HO149 := n1_; have HO154 := n2_; have HO158 := n3_; have HO162 := n4_; have HO165 := n5_; have HO168 := n6_; have HB := n7_; clear n0_ n1_ n2_ n3_ n4_ n5_ n6_ n7_; (try clear hb); (try clear hb2); (try clear hk); (try clear hi); (try clear ho0); obtain ⟨Ao37, co37, eo37⟩ := Kd.R_slice HO165.out; subst eo37; obtain ⟨Ao38, co38, eo38⟩ := Kd.R_slice HO168.out; subst eo38) | ((with_reducible refine gate_callee (f := 12) rfl ?_); refine goesL_ (some 55) rfl rfl Tryz.func12 (by kernel_rfl) rfl #[.slice Ao37 t163.length co37, .slice Ao38 t166.length co38] rfl mA ?_; (with_reducible refine (tenorref14_Same.calls k _ _ t163 _ _ t166 true _ ?side1 ?side2 ?side3 ?side4 A16.out).mono ?_); (case side1 => exact cA ((Kd.R_reads' HO165.out).2.2)); (case side2 => exact (Kd.R_reads' HO165.out).2.1); (case side3 => exact cA ((Kd.R_reads' HO168.out).2.2)); (case side4 => exact (Kd.R_reads' HO168.out).2.1); rintro e w39 ⟨rfl, hb⟩; refine ⟨_, rfl, ?_⟩; have n0_ := Aside0.mk (Kd.R_below (rA HO145.out) hb); have n1_ := Aside0.mk (Kd.R_below (rA HO149.out) hb); have n2_ := Aside0.mk (Kd.R_below (rA HO154.out) hb); have n3_ := Aside0.mk (Kd.R_below (rA HO158.out) hb); have n4_ := Aside0.mk (Kd.R_below (rA HO162.out) hb); have n5_ := Aside0.mk (Kd.R_below (rA HO165.out) hb); have n6_ := Aside0.mk (Kd.R_below (rA HO168.out) hb); have n7_ := Aside0.mk (below_step (bA HB.out) hb); clear HO145; clear HO149; clear HO154; clear HO158; clear HO162; clear HO165; clear HO168; clear HB; have HO145 := n0_; have HO149 := n1_; have HO154 := n2_; have HO158 := n3_; have HO162 := n4_; have HO165 := n5_; have HO168 := n6_; have HB := n7_; clear n0_ n1_ n2_ n3_ n4_ n5_ n6_ n7_; (try clear hb); (try clear hb2); (try clear hk); (try clear hi); obtain ⟨Ao40, co40, eo40⟩ := Kd.R_slice HO149.out; subst eo40; obtain ⟨Ao41, co41, eo41⟩ := Kd.R_slice HO154.out; subst eo41) | (go_at_call 12; (with_reducible refine (tenorref14_Same.calls k _ _ t146 _ _ t151 true _ ?side1 ?side2 ?side3 ?side4 A18.out).mono ?_); (case side1 => exact cA ((Kd.R_reads' HO149.out).2.2)); (case side2 => exact (Kd.R_reads' HO149.out).2.1); (case side3 => exact cA ((Kd.R_reads' HO154.out).2.2)); (case side4 => exact (Kd.R_reads' HO154.out).2.1); rintro e w42 ⟨rfl, hb⟩; have n0_ := Aside0.mk (Kd.R_below (rA HO145.out) hb); have n1_ := Aside0.mk (Kd.R_below (rA HO149.out) hb); have n2_ := Aside0.mk (Kd.R_below (rA HO154.out) hb); have n3_ := Aside0.mk (Kd.R_below (rA HO158.out) hb); have n4_ := Aside0.mk (Kd.R_below (rA HO162.out) hb); have n5_ := Aside0.mk (Kd.R_below (rA HO165.out) hb); have n6_ := Aside0.mk (Kd.R_below (rA HO168.out) hb); have n7_ := Aside0.mk (below_step (bA HB.out) hb); clear HO145; clear HO149; clear HO154; clear HO158; clear HO162; clear HO165; clear HO168; clear HB; have HO145 := n0_; have HO149 := n1_; have HO154 := n2_; have HO158 := n3_; have HO162 := n4_; have HO165 := n5_; have HO168 := n6_; have HB := n7_; clear n0_ n1_ n2_ n3_ n4_ n5_ n6_ n7_; (try clear hb); (try clear hb2); (try clear hk); (try clear hi)) | (go_at_call 20; (with_reducible refine (flow_Window.calls _ _ l0 a2 a3 t171 _ ?side1 ?side2 A21.out).mono ?_); (case side1 => exact cA (Kd.C_below HR0.out HB.out)); (case side2 => exact HC0.out); rintro e w43 ⟨v172, rfl, ho0, hb⟩; have n0_ := Aside0.mk (Kd.R_below (rA HO145.out) hb); have n1_ := Aside0.mk (Kd.R_below (rA HO149.out) hb); have n2_ := Aside0.mk (Kd.R_below (rA HO154.out) hb); have n3_ := Aside0.mk (Kd.R_below (rA HO158.out) hb); have n4_ := Aside0.mk (Kd.R_below (rA HO162.out) hb); have n5_ := Aside0.mk (Kd.R_below (rA HO165.out) hb); have n6_ := Aside0.mk (Kd.R_below (rA HO168.out) hb); have n7_ := Aside0.mk (Kd.V_lower (Kd.V_mono (ok' := fun k_ => some k_ ≠ (.slice Ao31 t143.length co31 : Value).ownBlock ∧ some k_ ≠ (.slice Ao40 t146.length co40 : Value).ownBlock ∧ some k_ ≠ (.slice Ao41 t151.length co41 : Value).ownBlock ∧ some k_ ≠ (v157 : Value).ownBlock ∧ some k_ ≠ (v161 : Value).ownBlock ∧ some k_ ≠ (.slice Ao37 t163.length co37 : Value).ownBlock ∧ some k_ ≠ (.slice Ao38 t166.length co38 : Value).ownBlock) (V_bnd ho0) (fun k_ hk_ => ⟨(Kd.fresh' (Kd.R_lt (rA HO145.out)) k_ hk_.2.1), (Kd.fresh' (Kd.R_lt (rA HO149.out)) k_ hk_.2.1), (Kd.fresh' (Kd.R_lt (rA HO154.out)) k_ hk_.2.1), (Kd.fresh' (Kd.R_lt (rA HO158.out)) k_ hk_.2.1), (Kd.fresh' (Kd.R_lt (rA HO162.out)) k_ hk_.2.1), (Kd.fresh' (Kd.R_lt (rA HO165.out)) k_ hk_.2.1), (Kd.fresh' (Kd.R_lt (rA HO168.out)) k_ hk_.2.1)⟩)) (below_size (bA HB.out))); have n8_ := Aside0.mk (below_step (bA HB.out) hb); clear HO145; clear HO149; clear HO154; clear HO158; clear HO162; clear HO165; clear HO168; clear HB; have HO145 := n0_; have HO149 := n1_; have HO154 := n2_; have HO158 := n3_; have HO162 := n4_; have HO165 := n5_; have HO168 := n6_; have HO173 := n7_; have HB := n8_; clear n0_ n1_ n2_ n3_ n4_ n5_ n6_ n7_ n8_; (try clear hb); (try clear hb2); (try clear hk); (try clear hi); (try clear ho0)) | (go_at_call 21; (with_reducible refine (tenorref14_Window.calls k _ _ t143 a2 a3 t174 _ ?side1 ?side2 A22.out).mono ?_); (case side1 => exact cA ((Kd.R_reads' HO145.out).2.2)); (case side2 => exact (Kd.R_reads' HO145.out).2.1); rintro e w44 ⟨v175, rfl, ho0, hb⟩; have n0_ := Aside0.mk (Kd.R_elder' (rA HO145.out) (Kd.R_base ho0) hb); have n1_ := Aside0.mk (Kd.R_below (rA HO149.out) hb); have n2_ := Aside0.mk (Kd.R_elder' (rA HO154.out) (Kd.R_base ho0) hb); have n3_ := Aside0.mk (Kd.R_below (rA HO158.out) hb); have n4_ := Aside0.mk (Kd.R_elder' (rA HO162.out) (Kd.R_base ho0) hb); have n5_ := Aside0.mk (Kd.R_below (rA HO165.out) hb); have n6_ := Aside0.mk (Kd.R_elder' (rA HO168.out) (Kd.R_base ho0) hb); have n7_ := Aside0.mk (Kd.V_elder' (by (with_reducible repeat (first | apply Kd.V_alloc | apply Kd.V_drewN | apply Kd.V_drew)); exact HO173.out) (Kd.R_base ho0) hb); have n8_ := Aside0.mk (Kd.R_lower (Kd.R_new' (Kd.R_new' (Kd.R_new' (Kd.R_new' ho0 (Kd.R_lt (rA HO145.out))) (Kd.R_lt (rA HO154.out))) (Kd.R_lt (rA HO162.out))) (Kd.R_lt (rA HO168.out))) (below_size (bA HB.out))); have n9_ := Aside0.mk (below_step (bA HB.out) hb); clear HO145; clear HO149; clear HO154; clear HO158; clear HO162; clear HO165; clear HO168; clear HO173; clear HB; have HO145 := n0_; have HO149 := n1_; have HO154 := n2_; have HO158 := n3_; have HO162 := n4_; have HO165 := n5_; have HO168 := n6_; have HO173 := n7_; have HO176 := n8_; have HB := n9_; clear n0_ n1_ n2_ n3_ n4_ n5_ n6_ n7_ n8_ n9_; (try clear hb); (try clear hb2); (try clear hk); (try clear hi); (try clear ho0); obtain ⟨Ao45, co45, eo45⟩ := Kd.V_slice HO173.out; subst eo45; obtain ⟨Ao46, co46, eo46⟩ := Kd.R_slice HO176.out; subst eo46) | (go_at_call 12; (with_reducible refine (tenorref14_Same.calls k _ _ t171 _ _ t174 true _ ?side1 ?side2 ?side3 ?side4 A23.out).mono ?_); (case side1 => exact cA ((Kd.V_reads' HO173.out).2.2)); (case side2 => exact (Kd.V_reads' HO173.out).2.1); (case side3 => exact cA ((Kd.R_reads' HO176.out).2.2)); (case side4 => exact (Kd.R_reads' HO176.out).2.1); rintro e w47 ⟨rfl, hb⟩; have n0_ := Aside0.mk (Kd.R_below (rA HO145.out) hb); have n1_ := Aside0.mk (Kd.R_below (rA HO149.out) hb); have n2_ := Aside0.mk (Kd.R_below (rA HO154.out) hb); have n3_ := Aside0.mk (Kd.R_below (rA HO158.out) hb); have n4_ := Aside0.mk (Kd.R_below (rA HO162.out) hb); have n5_ := Aside0.mk (Kd.R_below (rA HO165.out) hb); have n6_ := Aside0.mk (Kd.R_below (rA HO168.out) hb); have n7_ := Aside0.mk (Kd.V_below (by (with_reducible repeat (first | apply Kd.V_alloc | apply Kd.V_drewN | apply Kd.V_drew)); exact HO173.out) hb); have n8_ := Aside0.mk (Kd.R_below (rA HO176.out) hb); have n9_ := Aside0.mk (below_step (bA HB.out) hb); clear HO145; clear HO149; clear HO154; clear HO158; clear HO162; clear HO165; clear HO168; clear HO173; clear HO176; clear HB; have HO145 := n0_; have HO149 := n1_; have HO154 := n2_; have HO158 := n3_; have HO162 := n4_; have HO165 := n5_; have HO168 := n6_; have HO173 := n7_; have HO176 := n8_; have HB := n9_; clear n0_ n1_ n2_ n3_ n4_ n5_ n6_ n7_ n8_ n9_; (try clear hb); (try clear hb2); (try clear hk); (try clear hi); obtain ⟨Ao48, co48, eo48⟩ := Kd.R_slice HO158.out; subst eo48; obtain ⟨Ao49, co49, eo49⟩ := Kd.R_slice HO162.out; subst eo49) | (go_at_call 12; (with_reducible refine (tenorref14_Same.calls k _ _ t155 _ _ t159 true _ ?side1 ?side2 ?side3 ?side4 A25.out).mono ?_); (case side1 => exact cA ((Kd.R_reads' HO158.out).2.2)); (case side2 => exact (Kd.R_reads' HO158.out).2.1); (case side3 => exact cA ((Kd.R_reads' HO162.out).2.2)); (case side4 => exact (Kd.R_reads' HO162.out).2.1); rintro e w50 ⟨rfl, hb⟩; have n0_ := Aside0.mk (Kd.R_below (rA HO145.out) hb); have n1_ := Aside0.mk (Kd.R_below (rA HO149.out) hb); have n2_ := Aside0.mk (Kd.R_below (rA HO154.out) hb); have n3_ := Aside0.mk (Kd.R_below (rA HO158.out) hb); have n4_ := Aside0.mk (Kd.R_below (rA HO162.out) hb); have n5_ := Aside0.mk (Kd.R_below (rA HO165.out) hb); have n6_ := Aside0.mk (Kd.R_below (rA HO168.out) hb); have n7_ := Aside0.mk (Kd.V_below (by (with_reducible repeat (first | apply Kd.V_alloc | apply Kd.V_drewN | apply Kd.V_drew)); exact HO173.out) hb); have n8_ := Aside0.mk (Kd.R_below (rA HO176.out) hb); have n9_ := Aside0.mk (below_step (bA HB.out) hb); clear HO145; clear HO149; clear HO154; clear HO158; clear HO162; clear HO165; clear HO168; clear HO173; clear HO176; clear HB; have HO145 := n0_; have HO149 := n1_; have HO154 := n2_; have HO158 := n3_; have HO162 := n4_; have HO165 := n5_; have HO168 := n6_; have HO173 := n7_; have HO176 := n8_; have HB := n9_; clear n0_ n1_ n2_ n3_ n4_ n5_ n6_ n7_ n8_ n9_; (try clear hb); (try clear hb2); (try clear hk); (try clear hi)) | (go_at_call 8; (with_reducible refine (law14_awake.calls  t179 _ A28.out).mono ?_); rintro e w51 ⟨rfl, hb⟩; have n0_ := Aside0.mk (Kd.R_below (rA HO145.out) hb); have n1_ := Aside0.mk (Kd.R_below (rA HO149.out) hb); have n2_ := Aside0.mk (Kd.R_below (rA HO154.out) hb); have n3_ := Aside0.mk (Kd.R_below (rA HO158.out) hb); have n4_ := Aside0.mk (Kd.R_below (rA HO162.out) hb); have n5_ := Aside0.mk (Kd.R_below (rA HO165.out) hb); have n6_ := Aside0.mk (Kd.R_below (rA HO168.out) hb); have n7_ := Aside0.mk (Kd.V_below (by (with_reducible repeat (first | apply Kd.V_alloc | apply Kd.V_drewN | apply Kd.V_drew)); exact HO173.out) hb); have n8_ := Aside0.mk (Kd.R_below (rA HO176.out) hb); have n9_ := Aside0.mk (below_step (bA HB.out) hb); clear HO145; clear HO149; clear HO154; clear HO158; clear HO162; clear HO165; clear HO168; clear HO173; clear HO176; clear HB; have HO145 := n0_; have HO149 := n1_; have HO154 := n2_; have HO158 := n3_; have HO162 := n4_; have HO165 := n5_; have HO168 := n6_; have HO173 := n7_; have HO176 := n8_; have HB := n9_; clear n0_ n1_ n2_ n3_ n4_ n5_ n6_ n7_ n8_ n9_; (try clear hb); (try clear hb2); (try clear hk); (try clear hi)))
  go_ret
  exact ⟨by first | rfl | (simp [errW_none, errW_some] <;> rfl) | (simp [*, errW_none, errW_some] <;> rfl), bA HB.out⟩

end Go.Proofs.YtepcegiciecogaaGreat.FL
