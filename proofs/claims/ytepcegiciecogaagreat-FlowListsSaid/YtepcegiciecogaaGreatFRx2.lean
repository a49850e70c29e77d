/- Written by the session's fprint.py out of the translation. -/
import Derived.Test.YtepcegiciecogaaGreatFRx0
import Derived.Test.YtepcegiciecogaaGreatFRx1
namespace Go.Proofs.YtepcegiciecogaaGreat.FR
open Go.RowKit Go.Proofs.YtepcegiciecogaaGreatW.PrintWords Go.Proofs.YtepcegiciecogaaGreatW.PrintLast Go.Proofs.YtepcegiciecogaaGreatW.PrintMore
attribute [local go_sem] max2_int min2_int max_two min_two max_three min_three max_four min_four   -- for this text's walks alone
open Go.Proofs.YtepcegiciecogaaGreat.FX
attribute [local go_sem] run_store_float run_neg_float run_fmul isSome_setCell 
set_option linter.unusedVariables false
set_option linter.unusedSimpArgs false

/-! ### tenorref1_ShiftDown: function 156 -/
mutual
def tenorref1_ShiftDown.l0 : Nat → List Int → Int → Bool → Int → Option (List Int × Bool)
  | 0, _, _, _, _ => none
  | k + 1, x0, x1, x6, x7 => if x7 < (wrap64 (Int.tdiv x1 32)) then (if x6 = true then (tenorref1_ShiftDown.l0 k x0 x1 true (wrap64 (x7 + 1))) else (if 0 ≤ x7 then (if x7 < (x0.length : Int) then (tenorref1_ShiftDown.l0 k x0 x1 ((rd x0 x7) != 0) (wrap64 (x7 + 1))) else (none)) else (none))) else (if x6 = true then (tenorref1_ShiftDown.j1 k x0 x1 true) else (if 0 ≤ (wrap64 (Int.tdiv x1 32)) then (if (wrap64 (Int.tdiv x1 32)) < (x0.length : Int) then (if 0 ≤ (Int.tmod x1 32) then (if (shl .u64 1 (Int.tmod x1 32)) = 0 then (none) else (tenorref1_ShiftDown.j1 k x0 x1 ((Int.tmod (rd x0 (wrap64 (Int.tdiv x1 32))) (shl .u64 1 (Int.tmod x1 32))) != 0))) else (none)) else (none)) else (none)))
def tenorref1_ShiftDown.j1 : Nat → List Int → Int → Bool → Option (List Int × Bool)
  | 0, _, _, _ => none
  | k + 1, x0, x1, x6 => if 0 ≤ (wrap64 ((x0.length : Int) - (wrap64 (Int.tdiv x1 32)))) then (if (wrap64 ((x0.length : Int) - (wrap64 (Int.tdiv x1 32))) : Int).toNat ≤ 35184372088832 then (tenorref1_ShiftDown.l1 k x0 x1 x6 (List.replicate (wrap64 ((x0.length : Int) - (wrap64 (Int.tdiv x1 32))) : Int).toNat 0) 0) else (none)) else (none)
def tenorref1_ShiftDown.l1 : Nat → List Int → Int → Bool → List Int → Int → Option (List Int × Bool)
  | 0, _, _, _, _, _ => none
  | k + 1, x0, x1, x6, x8, x9 => if x9 < (x8.length : Int) then (if 0 ≤ (wrap64 (x9 + (wrap64 (Int.tdiv x1 32)))) then (if (wrap64 (x9 + (wrap64 (Int.tdiv x1 32)))) < (x0.length : Int) then ((tenorref1_digit.f x0 (wrap64 ((wrap64 (x9 + (wrap64 (Int.tdiv x1 32)))) + 1))).bind fun t143 => (if 0 ≤ (Int.tmod x1 32) then (if 0 ≤ x9 then (tenorref1_ShiftDown.l1 k x0 x1 x6 (x8.set (x9 : Int).toNat (Int.tmod (shr .u64 (IntKind.u64.wrap ((rd x0 (wrap64 (x9 + (wrap64 (Int.tdiv x1 32))))) + (IntKind.u64.wrap (t143 * 4294967296)))) (Int.tmod x1 32)) 4294967296)) (wrap64 (x9 + 1))) else (none)) else (none))) else (none)) else (none)) else ((tenorref1_trim.f k x8).bind fun t145 => (some (t145, x6)))
end
def tenorref1_ShiftDown.f (k : Nat) (l0 : List Int) (a1 : Int) : Option (List Int × Bool) := if a1 ≥ (wrap64 (32 * (l0.length : Int))) then (some (([] : List Int), decide ((l0.length : Int) > 0))) else (tenorref1_ShiftDown.l0 k l0 a1 false 0)
def tenorref1_ShiftDown.T8 : Bool × List (List Nat × List Nat) := (true, [([], []), ([0], [0]), ([1], [1]), ([1], [1]), ([3, 1], [1, 3]), ([2, 4, 1], [1, 2, 4]), ([5, 1], [1, 5]), ([1], [1]), ([7, 1], [1, 7]), ([8, 1], [1, 8]), ([6, 9, 1], [1, 6, 9]), ([10, 1], [1, 10]), ([1, 11], [1, 11]), ([12, 1, 0, 1, 2, 3, 4, 5, 6, 7, 8, 9, 10, 11, 12], [0, 12])])
def tenorref1_ShiftDown.B8 : List Nat := [0, 1, 3, 3, 11, 31, 63, 3, 131, 387, 1023, 2047, 4095, 8191]
theorem tenorref1_ShiftDown.tab8 : rtab .any (opsOf Tryz.f156 8) = tenorref1_ShiftDown.T8 := by kernel_rfl
theorem tenorref1_ShiftDown.bits8 : waitsOk tenorref1_ShiftDown.T8.2 tenorref1_ShiftDown.B8 = true := by kernel_rfl
def tenorref1_ShiftDown.T13 : Bool × List (List Nat × List Nat) := (true, [([], []), ([], []), ([], []), ([], []), ([], []), ([4], [4]), ([3, 5], [3, 5]), ([2, 6], [2, 6]), ([7], [7]), ([], []), ([], []), ([], []), ([11], [11]), ([10, 12], [10, 12]), ([13], [13]), ([9, 14], [9, 14]), ([15], [15]), ([8, 16], [8, 16]), ([], []), ([18], [18]), ([17, 19], [17, 19]), ([20], [20]), ([0, 1, 0, 1, 2, 3, 4, 5, 6, 7, 8, 9, 10, 11, 12, 13, 14, 15, 16, 17, 18, 19, 20, 21], [0, 1]), ([22, 21, 15, 0, 1, 2, 3, 4, 5, 6, 7, 8, 9, 10, 11, 12, 13, 14, 15, 16, 17, 18, 19, 20, 21], [21, 22])])
def tenorref1_ShiftDown.B13 : List Nat := [0, 0, 0, 0, 0, 16, 56, 124, 252, 0, 0, 0, 2048, 7168, 15360, 32256, 65024, 131068, 0, 262144, 1048572, 2097148, 4194303, 8388607]
theorem tenorref1_ShiftDown.tab13 : rtab .any (opsOf Tryz.f156 13) = tenorref1_ShiftDown.T13 := by kernel_rfl
theorem tenorref1_ShiftDown.bits13 : waitsOk tenorref1_ShiftDown.T13.2 tenorref1_ShiftDown.B13 = true := by kernel_rfl
set_option maxHeartbeats 8000000 in
set_option maxRecDepth 100000 in
theorem tenorref1_ShiftDown.calls (k : Nat) (A0 : Option Addr) (c0 : Nat) (l0 : List Int) (a1 : Int) (r1 : List Int) (r2 : Bool) (w : World) (hr0 : Kd.C (Kd.int .u64) w A0 l0.length l0) (hc0 : l0.length ≤ c0) (h : tenorref1_ShiftDown.f k l0 a1 = some (r1, r2)) :
    Calls Tryz.prog 156 #[.slice A0 l0.length c0, .int .i64 a1] w fun e w' => ∃ v0_ : Value, e = .returned (.tuple #[v0_, .bool r2]) ∧ Kd.R (Kd.int .u64) 36 w' w.heap.size (fun _ => True) v0_ r1 ∧ Below w.heap.size w w' := by
  have HR0 := Aside0.mk hr0
  have HC0 := Aside0.mk hc0
  clear hr0 hc0
  have HB := Aside0.mk (Below.refl w.heap.size w)
  have H : (if a1 ≥ (wrap64 (32 * (l0.length : Int))) then (some (([] : List Int), decide ((l0.length : Int) > 0))) else (tenorref1_ShiftDown.l0 k l0 a1 false 0)) = some (r1, r2) := h
  clear h
  by_cases c3 : a1 ≥ (wrap64 (32 * (l0.length : Int)))
  · rw [if_pos c3] at H
    have c3b0 : decide ((wrap64 (32 * (l0.length : Int))) ≤ a1) = true := decide_eq_true c3
    clear c3
    simp only [Option.some.injEq, Prod.mk.injEq] at H
    obtain ⟨rfl, rfl⟩ := H
    go_enter Tryz.func156, Tryz.ntmps156
    go_wp2
    go_ret2
    exact ⟨_, by first | rfl | (simp [errW_none, errW_some] <;> rfl) | (simp [*, errW_none, errW_some] <;> rfl), by first | exact Kd.R_nil _ _ _ _ _ | exact Kd.N_nil _ _ _ _ _ | exact Kd.V_nil _ _ _ _ _ | exact Kd.Q_nil _ _ _ _ _ | exact Kd.S_nil _ _ _ _ _, bA HB.out⟩
  rw [if_neg c3] at H
  have c3b0 : decide ((wrap64 (32 * (l0.length : Int))) ≤ a1) = false := decide_eq_false c3
  clear c3
  have H' := Aside0.mk H
  clear H
  go_enter Tryz.func156, Tryz.ntmps156
  go_wp2
  go_loopg [6, 7] k (fun kq v6 v7 w' => ∃ (x6_1 : Bool) (x7_1 : Int), v6 = .bool x6_1 ∧ v7 = .int .i64 x7_1 ∧ Aside0 (tenorref1_ShiftDown.l0 kq l0 a1 x6_1 x7_1 = some (r1, r2)) ∧ Aside0 (kq ≤ k) ∧ Aside0 (Below w.heap.size w w'))
  case atStart => exact ⟨(false), (0), (by first | (with_reducible rfl) | (simp; done) | (simp [*]; done) | rfl), (by first | (with_reducible rfl) | (simp; done) | (simp [*]; done) | rfl), H', ⟨Nat.le_refl _⟩, ⟨bA HB.out⟩⟩
  case round =>
    clear H'
    try clear c1
    try clear p2
    try clear c3
    try clear c3b0
    obtain ⟨x6_1, x7_1, rfl, rfl, HA, HK1, HB⟩ := hrel
    cases gk with
    | zero => exact absurd HA.out (by simp [tenorref1_ShiftDown.l0])
    | succ k1 =>
      have H := HA.out
      clear HA
      simp only [tenorref1_ShiftDown.l0] at H
      by_cases c4 : x7_1 < (wrap64 (Int.tdiv a1 32))
      · rw [if_pos c4] at H
        have c4b0 : decide (x7_1 < (wrap64 (Int.tdiv a1 32))) = true := decide_eq_true c4
        clear c4
        by_cases c5 : x6_1 = true
        · subst c5
          have H1 : (tenorref1_ShiftDown.l0 k1 l0 a1 true (wrap64 (x7_1 + 1))) = some (r1, r2) := by rw [if_pos rfl] at H; exact H
          clear H
          have H := H1
          clear H1
          have H' := Aside0.mk H
          clear H
          go_wp2
          go_roundg k1
          case measure => have := HK1.out; omega
          case rel => exact ⟨(true), (wrap64 (x7_1 + 1)), (by first | (with_reducible rfl) | (simp; done) | (simp [*]; done) | rfl), (by first | (with_reducible rfl) | (simp; done) | (simp [*]; done) | rfl), H', ⟨by have := HK1.out; omega⟩, ⟨bA HB.out⟩⟩
        replace c5 := Bool.eq_false_iff.mpr c5
        subst c5
        have H1 : (if 0 ≤ x7_1 then (if x7_1 < (l0.length : Int) then (tenorref1_ShiftDown.l0 k1 l0 a1 ((rd l0 x7_1) != 0) (wrap64 (x7_1 + 1))) else (none)) else (none)) = some (r1, r2) := by rw [if_neg (show ¬ (false = true) by decide)] at H; exact H
        clear H
        have H := H1
        clear H1
        by_cases c6 : 0 ≤ x7_1
        rotate_left
        · rw [if_neg c6] at H
          exact absurd H (by simp)
        rw [if_pos c6] at H
        have c6b0 : decide (0 ≤ x7_1) = true := decide_eq_true c6
        clear c6
        by_cases c7 : x7_1 < (l0.length : Int)
        rotate_left
        · rw [if_neg c7] at H
          exact absurd H (by simp)
        rw [if_pos c7] at H
        have c7b0 : decide (x7_1 < (l0.length : Int)) = true := decide_eq_true c7
        clear c7
        have H' := Aside0.mk H
        clear H
        have p137 : 0 ≤ (x7_1 : Int) := of_decide_eq_true asA
        have q137 : x7_1 < (l0.length : Int) := of_decide_eq_true asA
        obtain ⟨ad137, e137, hx137_0⟩ := Kd.at_int HR0.out x7_1 p137 q137
        cases e137
        replace hx137_0 := (HB.out.cell (World.block_lt_of_cell? w _ hx137_0)).trans hx137_0
        replace p137 := eq_true p137
        replace q137 := eq_true q137
        go_wp2
        go_roundg k1
        case measure => have := HK1.out; omega
        case rel => exact ⟨(((rd l0 x7_1) != 0)), (wrap64 (x7_1 + 1)), (by first | (with_reducible rfl) | (simp; done) | (simp [*]; done) | rfl), (by first | (with_reducible rfl) | (simp; done) | (simp [*]; done) | rfl), H', ⟨by have := HK1.out; omega⟩, ⟨bA HB.out⟩⟩
      rw [if_neg c4] at H
      have c4b0 : decide (x7_1 < (wrap64 (Int.tdiv a1 32))) = false := decide_eq_false c4
      clear c4
      have HC8 := Aside0.mk H
      clear H
      go_upto_region 8 with (fail)
      go_cut [6] (fun v6 wc => ∃ (kq : Nat) (x6_7 : Bool), v6 = .bool x6_7 ∧ Aside0 (tenorref1_ShiftDown.j1 kq l0 a1 x6_7 = some (r1, r2)) ∧ Aside0 (kq ≤ k1) ∧ Aside0 (Below w.heap.size w wc))
      case first =>
        have H := HC8.out
        clear HC8
        by_cases c9 : x6_1 = true
        · subst c9
          have H1 : (tenorref1_ShiftDown.j1 k1 l0 a1 true) = some (r1, r2) := by rw [if_pos rfl] at H; exact H
          clear H
          have H := H1
          clear H1
          have H' := Aside0.mk H
          clear H
          try go_wp2
          have n0_ := Aside0.mk (below_drew1 HB.out)
          clear HB
          have HB := n0_
          clear n0_
          refine start_ (n := 14) (S := fun w' => True) (ds := []) (dnA 14 0) (by kernel_rfl) rfl rfl trivial (fun hHeld => ?_); refine with_tabW tenorref1_ShiftDown.tab8 tenorref1_ShiftDown.bits8 (fun HT_ HW_ => ?_)
          generalize wr.drew = w10 at HB hHeld ⊢
          refine pure_ (i := 0) (N := some 32) (v := ?_) (a' := ?_) (dnA 14 1) rfl rfl (any_of HT_.out (by kernel_rfl)) (fun _ _ _ h => h) (Or.inl ⟨by rfl, ?_⟩) ?_ ?_
          rotate_left
          · intro w'
            go_simp
            with_reducible rfl
          rotate_left
          · simp only [Act.put, List.setIfInBounds_toArray, List.set_cons_zero, List.set_cons_succ, i64_w, i32_w]
            rfl
          refine pure_ (i := 1) (N := some 33) (v := ?_) (a' := ?_) (dnA 14 3) rfl rfl (any_of HT_.out (by kernel_rfl)) (fun _ _ _ h => h) (Or.inl ⟨by rfl, ?_⟩) ?_ ?_
          rotate_left
          · intro w'
            go_simp
            with_reducible rfl
          rotate_left
          · simp only [Act.put, List.setIfInBounds_toArray, List.set_cons_zero, List.set_cons_succ, i64_w, i32_w]
            rfl
          refine pure_ (i := 2) (N := some 34) (v := undef) (a' := ?_) (dnA 14 7) rfl rfl (any_of HT_.out (by kernel_rfl)) (fun _ _ _ h => h) (Or.inr ⟨by rfl, rfl⟩) ?_ ?_
          rotate_left
          · simp only [Act.put, List.setIfInBounds_toArray, List.set_cons_zero, List.set_cons_succ, i64_w, i32_w]
            rfl
          refine pure_ (i := 3) (N := some 35) (v := undef) (a' := ?_) (dnA 14 15) rfl rfl (any_of HT_.out (by kernel_rfl)) (fun _ _ _ h => h) (Or.inr ⟨by rfl, rfl⟩) ?_ ?_
          rotate_left
          · simp only [Act.put, List.setIfInBounds_toArray, List.set_cons_zero, List.set_cons_succ, i64_w, i32_w]
            rfl
          refine pure_ (i := 4) (N := some 36) (v := undef) (a' := ?_) (dnA 14 31) rfl rfl (any_of HT_.out (by kernel_rfl)) (fun _ _ _ h => h) (Or.inr ⟨by rfl, rfl⟩) ?_ ?_
          rotate_left
          · simp only [Act.put, List.setIfInBounds_toArray, List.set_cons_zero, List.set_cons_succ, i64_w, i32_w]
            rfl
          refine pure_ (i := 5) (N := some 37) (v := undef) (a' := ?_) (dnA 14 63) rfl rfl (any_of HT_.out (by kernel_rfl)) (fun _ _ _ h => h) (Or.inr ⟨by rfl, rfl⟩) ?_ ?_
          rotate_left
          · simp only [Act.put, List.setIfInBounds_toArray, List.set_cons_zero, List.set_cons_succ, i64_w, i32_w]
            rfl
          refine pure_ (i := 6) (N := some 38) (v := undef) (a' := ?_) (dnA 14 127) rfl rfl (any_of HT_.out (by kernel_rfl)) (fun _ _ _ h => h) (Or.inr ⟨by rfl, rfl⟩) ?_ ?_
          rotate_left
          · simp only [Act.put, List.setIfInBounds_toArray, List.set_cons_zero, List.set_cons_succ, i64_w, i32_w]
            rfl
          refine pure_ (i := 7) (N := some 39) (v := undef) (a' := ?_) (dnA 14 255) rfl rfl (any_of HT_.out (by kernel_rfl)) (fun _ _ _ h => h) (Or.inr ⟨by rfl, rfl⟩) ?_ ?_
          rotate_left
          · simp only [Act.put, List.setIfInBounds_toArray, List.set_cons_zero, List.set_cons_succ, i64_w, i32_w]
            rfl
          refine pure_ (i := 8) (N := some 40) (v := undef) (a' := ?_) (dnA 14 511) rfl rfl (any_of HT_.out (by kernel_rfl)) (fun _ _ _ h => h) (Or.inr ⟨by rfl, rfl⟩) ?_ ?_
          rotate_left
          · simp only [Act.put, List.setIfInBounds_toArray, List.set_cons_zero, List.set_cons_succ, i64_w, i32_w]
            rfl
          refine pure_ (i := 9) (N := some 41) (v := undef) (a' := ?_) (dnA 14 1023) rfl rfl (any_of HT_.out (by kernel_rfl)) (fun _ _ _ h => h) (Or.inr ⟨by rfl, rfl⟩) ?_ ?_
          rotate_left
          · simp only [Act.put, List.setIfInBounds_toArray, List.set_cons_zero, List.set_cons_succ, i64_w, i32_w]
            rfl
          refine pure_ (i := 10) (N := some 42) (v := undef) (a' := ?_) (dnA 14 2047) rfl rfl (any_of HT_.out (by kernel_rfl)) (fun _ _ _ h => h) (Or.inr ⟨by rfl, rfl⟩) ?_ ?_
          rotate_left
          · simp only [Act.put, List.setIfInBounds_toArray, List.set_cons_zero, List.set_cons_succ, i64_w, i32_w]
            rfl
          refine pure_ (i := 11) (N := some 43) (v := undef) (a' := ?_) (dnA 14 4095) rfl rfl (any_of HT_.out (by kernel_rfl)) (fun _ _ _ h => h) (Or.inr ⟨by rfl, rfl⟩) ?_ ?_
          rotate_left
          · simp only [Act.put, List.setIfInBounds_toArray, List.set_cons_zero, List.set_cons_succ, i64_w, i32_w]
            rfl
          refine pure_ (i := 12) (N := some 44) (v := ?_) (a' := ?_) (dnA 14 8191) rfl rfl (any_of HT_.out (by kernel_rfl)) (fun _ _ _ h => h) (Or.inl ⟨by rfl, ?_⟩) ?_ ?_
          rotate_left
          · intro w'
            go_simp
            with_reducible rfl
          rotate_left
          · simp only [Act.put, List.setIfInBounds_toArray, List.set_cons_zero, List.set_cons_succ, i64_w, i32_w]
            rfl
          refine pure_ (i := 13) (N := some 6) (v := ?_) (a' := ?_) (dnA 14 16383) rfl rfl (any_of HT_.out (by kernel_rfl)) (fun _ _ _ h => h) (Or.inl ⟨by rfl, ?_⟩) ?_ ?_
          rotate_left
          · intro w'
            go_simp
            with_reducible rfl
          rotate_left
          · simp only [Act.put, List.setIfInBounds_toArray, List.set_cons_zero, List.set_cons_succ, i64_w, i32_w]
            rfl
          refine done_ (done_of HT_.out (by kernel_rfl)) ?_
          try go_wp2
          go_meet
          case rel => exact ⟨_, (true), (by first | (with_reducible rfl) | (simp; done) | (simp [*]; done) | rfl), H', ⟨by have := HK1.out; first | omega | exact Nat.le_refl _⟩, ⟨bA HB.out⟩⟩
        replace c9 := Bool.eq_false_iff.mpr c9
        subst c9
        have H1 : (if 0 ≤ (wrap64 (Int.tdiv a1 32)) then (if (wrap64 (Int.tdiv a1 32)) < (l0.length : Int) then (if 0 ≤ (Int.tmod a1 32) then (if (shl .u64 1 (Int.tmod a1 32)) = 0 then (none) else (tenorref1_ShiftDown.j1 k1 l0 a1 ((Int.tmod (rd l0 (wrap64 (Int.tdiv a1 32))) (shl .u64 1 (Int.tmod a1 32))) != 0))) else (none)) else (none)) else (none)) = some (r1, r2) := by rw [if_neg (show ¬ (false = true) by decide)] at H; exact H
        clear H
        have H := H1
        clear H1
        obtain ⟨ji11, hji11⟩ : ∃ j_ : Int, (wrap64 (Int.tdiv a1 32)) = j_ := ⟨_, rfl⟩
        replace H : (if 0 ≤ (ji11) then (if (ji11) < (l0.length : Int) then (if 0 ≤ (Int.tmod a1 32) then (if (shl .u64 1 (Int.tmod a1 32)) = 0 then (none) else (tenorref1_ShiftDown.j1 k1 l0 a1 ((Int.tmod (rd l0 (ji11)) (shl .u64 1 (Int.tmod a1 32))) != 0))) else (none)) else (none)) else (none)) = some (r1, r2) := by first | (rw [hji11] at H; exact H) | (simp only [hji11] at H ⊢; exact H)
        (try rw [hji11] at c4b0)
        have hji11w : (IntKind.i64.wrap (Int.tdiv a1 32)) = ji11 := (i64_w _).trans hji11
        by_cases c12 : 0 ≤ (ji11)
        rotate_left
        · rw [if_neg c12] at H
          exact absurd H (by simp)
        rw [if_pos c12] at H
        have c12b0 : decide (0 ≤ (ji11)) = true := decide_eq_true c12
        clear c12
        (first | rw [c12b0] | (simp only [i64_w, i32_w]; rw [c12b0]) | skip)
        by_cases c13 : (ji11) < (l0.length : Int)
        rotate_left
        · rw [if_neg c13] at H
          exact absurd H (by simp)
        rw [if_pos c13] at H
        have c13b0 : decide ((ji11) < (l0.length : Int)) = true := decide_eq_true c13
        clear c13
        obtain ⟨ji14, hji14⟩ : ∃ j_ : Int, (Int.tmod a1 32) = j_ := ⟨_, rfl⟩
        replace H : (if 0 ≤ (ji14) then (if (shl .u64 1 (ji14)) = 0 then (none) else (tenorref1_ShiftDown.j1 k1 l0 a1 ((Int.tmod (rd l0 (ji11)) (shl .u64 1 (ji14))) != 0))) else (none)) = some (r1, r2) := by first | (rw [hji14] at H; exact H) | (simp only [hji14] at H ⊢; exact H)
        by_cases c15 : 0 ≤ (ji14)
        rotate_left
        · rw [if_neg c15] at H
          exact absurd H (by simp)
        rw [if_pos c15] at H
        have c15b0 := eq_true c15
        have c15b1 : decide (0 ≤ (ji14)) = true := decide_eq_true c15
        clear c15
        obtain ⟨ji16, hji16⟩ : ∃ j_ : Int, (shl .u64 1 (ji14)) = j_ := ⟨_, rfl⟩
        replace H : (if (ji16) = 0 then (none) else (tenorref1_ShiftDown.j1 k1 l0 a1 ((Int.tmod (rd l0 (ji11)) (ji16)) != 0))) = some (r1, r2) := by first | (rw [hji16] at H; exact H) | (simp only [hji16] at H ⊢; exact H)
        have hji16_ : (IntKind.u64.wrap (1 * 2 ^ min (ji14).toNat 64)) = ji16 := hji16
        have hji16z : (ji14) ≤ 64 → (IntKind.u64.wrap (1 * 2 ^ (ji14).toNat)) = ji16 := shl_small hji16
        have hji16u : (IntKind.u64.wrap (2 ^ min (ji14).toNat 64)) = ji16 := by have h_ := hji16_; rw [Int.one_mul] at h_; exact h_
        have hji16v : (ji14) ≤ 64 → (IntKind.u64.wrap (2 ^ (ji14).toNat)) = ji16 := fun hle_ => by have h_ := hji16z hle_; rw [Int.one_mul] at h_; exact h_
        by_cases c17 : (ji16) = 0
        · rw [if_pos c17] at H
          exact absurd H (by simp)
        · rw [if_neg c17] at H
          have c17b0 : ((ji16) == 0) = false := beq_eq_false_iff_ne.mpr c17
          have c17b1 : ((ji16) != 0) = true := bne_iff_ne.mpr c17
          have H' := Aside0.mk H
          clear H
          try go_wp2
          have n0_ := Aside0.mk (below_drew1 HB.out)
          clear HB
          have HB := n0_
          clear n0_
          have p138 : 0 ≤ ((ji11) : Int) := of_decide_eq_true asA
          have q138 : (ji11) < (l0.length : Int) := of_decide_eq_true asA
          obtain ⟨ad138, e138, hx138_0⟩ := Kd.at_int HR0.out (ji11) p138 q138
          have hw138_0 := hx138_0
          cases e138
          replace hx138_0 := (HB.out.cell (World.block_lt_of_cell? w _ hx138_0)).trans hx138_0
          replace p138 := eq_true p138
          replace q138 := eq_true q138
          refine start_ (n := 14) (S := fun w' => w'.cell? (ad138.add ((ji11)).toNat) = some (.int .u64 (rd l0 (ji11)))) (ds := []) (dnA 14 0) (by kernel_rfl) rfl rfl (((HB.out.cell (World.block_lt_of_cell? w _ hw138_0)).trans hw138_0)) (fun hHeld => ?_); refine with_tabW tenorref1_ShiftDown.tab8 tenorref1_ShiftDown.bits8 (fun HT_ HW_ => ?_)
          generalize wr.drew = w18 at HB hx138_0 hHeld ⊢
          refine pure_ (i := 0) (N := some 32) (v := ?_) (a' := ?_) (dnA 14 1) rfl rfl (any_of HT_.out (by kernel_rfl)) (fun _ _ _ h => h) (Or.inl ⟨by rfl, ?_⟩) ?_ ?_
          rotate_left
          · intro w'
            go_simp
            with_reducible rfl
          rotate_left
          · simp only [Act.put, List.setIfInBounds_toArray, List.set_cons_zero, List.set_cons_succ, i64_w, i32_w]
            rfl
          refine pure_ (i := 1) (N := some 33) (v := ?_) (a' := ?_) (dnA 14 3) rfl rfl (any_of HT_.out (by kernel_rfl)) (fun _ _ _ h => h) (Or.inl ⟨by rfl, ?_⟩) ?_ ?_
          rotate_left
          · intro w'
            go_simp
            with_reducible rfl
          rotate_left
          · simp only [Act.put, List.setIfInBounds_toArray, List.set_cons_zero, List.set_cons_succ, i64_w, i32_w]
            rfl
          refine pure_ (i := 2) (N := some 34) (v := ?_) (a' := ?_) (dnA 14 7) rfl rfl (any_of HT_.out (by kernel_rfl)) (fun _ _ _ h => h) (Or.inl ⟨by rfl, ?_⟩) ?_ ?_
          rotate_left
          · intro w'
            go_simp
            with_reducible rfl
          rotate_left
          · simp only [Act.put, List.setIfInBounds_toArray, List.set_cons_zero, List.set_cons_succ, i64_w, i32_w]
            rfl
          refine pure_ (i := 3) (N := some 35) (v := ?_) (a' := ?_) (dnA 14 15) rfl rfl (any_of HT_.out (by kernel_rfl)) (fun _ _ _ h => h) (Or.inl ⟨by rfl, ?_⟩) ?_ ?_
          rotate_left
          · intro w'
            go_simp
            with_reducible rfl
          rotate_left
          · simp only [Act.put, List.setIfInBounds_toArray, List.set_cons_zero, List.set_cons_succ, i64_w, i32_w]
            rfl
          refine pure_ (i := 4) (N := some 36) (v := ?_) (a' := ?_) (dnA 14 31) rfl rfl (any_of HT_.out (by kernel_rfl)) (fun _ _ _ h => h) (Or.inl ⟨by rfl, ?_⟩) ?_ ?_
          rotate_left
          · intro w'
            go_simp
            with_reducible rfl
          rotate_left
          · simp only [Act.put, List.setIfInBounds_toArray, List.set_cons_zero, List.set_cons_succ, i64_w, i32_w]
            rfl
          refine pure_ (i := 5) (N := some 37) (v := ?_) (a' := ?_) (dnA 14 63) rfl rfl (any_of HT_.out (by kernel_rfl)) (fun _ _ _ h => h) (Or.inl ⟨by rfl, ?_⟩) ?_ ?_
          rotate_left
          · intro w'
            go_simp
            with_reducible rfl
          rotate_left
          · simp only [Act.put, List.setIfInBounds_toArray, List.set_cons_zero, List.set_cons_succ, i64_w, i32_w]
            rfl
          refine pure_ (i := 7) (N := some 39) (v := ?_) (a' := ?_) (dnA 14 191) rfl rfl (any_of HT_.out (by kernel_rfl)) (fun _ _ _ h => h) (Or.inl ⟨by rfl, ?_⟩) ?_ ?_
          rotate_left
          · intro w'
            go_simp
            with_reducible rfl
          rotate_left
          · simp only [Act.put, List.setIfInBounds_toArray, List.set_cons_zero, List.set_cons_succ, i64_w, i32_w]
            rfl
          refine pure_ (i := 8) (N := some 40) (v := ?_) (a' := ?_) (dnA 14 447) rfl rfl (any_of HT_.out (by kernel_rfl)) (fun _ _ _ h => h) (Or.inl ⟨by rfl, ?_⟩) ?_ ?_
          rotate_left
          · intro w'
            go_simp
            with_reducible rfl
          rotate_left
          · simp only [Act.put, List.setIfInBounds_toArray, List.set_cons_zero, List.set_cons_succ, i64_w, i32_w]
            rfl
          refine pure_ (i := 9) (N := some 41) (v := ?_) (a' := ?_) (dnA 14 959) rfl rfl (any_of HT_.out (by kernel_rfl)) (fun _ _ _ h => h) (Or.inl ⟨by rfl, ?_⟩) ?_ ?_
          rotate_left
          · intro w'
            go_simp
            with_reducible rfl
          rotate_left
          · simp only [Act.put, List.setIfInBounds_toArray, List.set_cons_zero, List.set_cons_succ, i64_w, i32_w]
            rfl
          refine take_ (i := 6) (N := some 38) (v := ?_) (a' := ?_) (dnA 14 1023) rfl rfl (take_ofW HT_.out HW_.out (by kernel_rfl)) (fun _ _ _ h => h) (Or.inl ⟨by rfl, ?_⟩) hHeld ?_ ?_
          rotate_left
          · intro w' s0
            go_simp
            with_reducible rfl
          rotate_left
          · simp only [Act.put, List.setIfInBounds_toArray, List.set_cons_zero, List.set_cons_succ, i64_w, i32_w]
            rfl
          refine pure_ (i := 10) (N := some 42) (v := ?_) (a' := ?_) (dnA 14 2047) rfl rfl (any_of HT_.out (by kernel_rfl)) (fun _ _ _ h => h) (Or.inl ⟨by rfl, ?_⟩) ?_ ?_
          rotate_left
          · intro w'
            go_simp
            with_reducible rfl
          rotate_left
          · simp only [Act.put, List.setIfInBounds_toArray, List.set_cons_zero, List.set_cons_succ, i64_w, i32_w]
            rfl
          refine pure_ (i := 11) (N := some 43) (v := ?_) (a' := ?_) (dnA 14 4095) rfl rfl (any_of HT_.out (by kernel_rfl)) (fun _ _ _ h => h) (Or.inl ⟨by rfl, ?_⟩) ?_ ?_
          rotate_left
          · intro w'
            go_simp
            with_reducible rfl
          rotate_left
          · simp only [Act.put, List.setIfInBounds_toArray, List.set_cons_zero, List.set_cons_succ, i64_w, i32_w]
            rfl
          refine pure_ (i := 12) (N := some 44) (v := ?_) (a' := ?_) (dnA 14 8191) rfl rfl (any_of HT_.out (by kernel_rfl)) (fun _ _ _ h => h) (Or.inl ⟨by rfl, ?_⟩) ?_ ?_
          rotate_left
          · intro w'
            go_simp
            with_reducible rfl
          rotate_left
          · simp only [Act.put, List.setIfInBounds_toArray, List.set_cons_zero, List.set_cons_succ, i64_w, i32_w]
            rfl
          refine pure_ (i := 13) (N := some 6) (v := ?_) (a' := ?_) (dnA 14 16383) rfl rfl (any_of HT_.out (by kernel_rfl)) (fun _ _ _ h => h) (Or.inl ⟨by rfl, ?_⟩) ?_ ?_
          rotate_left
          · intro w'
            go_simp
            with_reducible rfl
          rotate_left
          · simp only [Act.put, List.setIfInBounds_toArray, List.set_cons_zero, List.set_cons_succ, i64_w, i32_w]
            rfl
          refine done_ (done_of HT_.out (by kernel_rfl)) ?_
          try go_wp2
          go_meet
          case rel => exact ⟨_, (((Int.tmod (rd l0 (ji11)) (ji16)) != 0)), (by first | rfl | (simp; done) | (simp only [← hji11, ← hji16] <;> (first | rfl | simp)) | (simp [*]; done)), H', ⟨by have := HK1.out; first | omega | exact Nat.le_refl _⟩, ⟨bA HB.out⟩⟩
      case rest =>
        clear HC8
        try clear c1
        try clear p1
        try clear q1
        try clear hx1
        try clear p2
        try clear c3
        try clear c3b0
        try clear c4
        try clear c4b0
        try clear c5
        try clear c6
        try clear c6b0
        try clear p6
        try clear c7
        try clear c7b0
        try clear c9
        try clear c12
        try clear c12b0
        try clear c13
        try clear c13b0
        try clear p13
        try clear q13
        try clear hx13
        try clear c15
        try clear c15b0
        try clear c15b1
        try clear c17
        try clear c17b0
        try clear c17b1
        try clear hx137_0
        try clear hx138_0
        try clear p137
        try clear p138
        try clear p2
        try clear q137
        try clear q138
        obtain ⟨kq, x6_7, rfl, HA, HJ7, HB⟩ := hcut
        cases kq with
        | zero => exact absurd HA.out (by simp [tenorref1_ShiftDown.j1])
        | succ kj7 =>
          have H := HA.out
          clear HA
          simp only [tenorref1_ShiftDown.j1] at H
          obtain ⟨ji19, hji19⟩ : ∃ j_ : Int, (wrap64 ((l0.length : Int) - (wrap64 (Int.tdiv a1 32)))) = j_ := ⟨_, rfl⟩
          replace H : (if 0 ≤ (ji19) then (if (ji19 : Int).toNat ≤ 35184372088832 then (tenorref1_ShiftDown.l1 kj7 l0 a1 x6_7 (List.replicate (ji19 : Int).toNat 0) 0) else (none)) else (none)) = some (r1, r2) := by first | (rw [hji19] at H; exact H) | (simp only [hji19] at H ⊢; exact H)
          have hji19w : (IntKind.i64.wrap ((l0.length : Int) - (wrap64 (Int.tdiv a1 32)))) = ji19 := (i64_w _).trans hji19
          by_cases c20 : 0 ≤ (ji19)
          rotate_left
          · rw [if_neg c20] at H
            exact absurd H (by simp)
          rw [if_pos c20] at H
          have c20b0 := eq_true c20
          have c20b1 : decide (0 ≤ (ji19)) = true := decide_eq_true c20
          clear c20
          by_cases c21 : (ji19 : Int).toNat ≤ 35184372088832
          rotate_left
          · rw [if_neg c21] at H
            exact absurd H (by simp)
          rw [if_pos c21] at H
          have c21b0 := eq_true c21
          have c21b1 : decide ((ji19 : Int).toNat ≤ 35184372088832) = true := decide_eq_true c21
          clear c21
          obtain ⟨y139, hy139⟩ : ∃ y_ : List Int, y_ = (List.replicate (ji19 : Int).toNat 0) := ⟨_, rfl⟩
          replace H : (tenorref1_ShiftDown.l1 kj7 l0 a1 x6_7 y139 0) = some (r1, r2) := by first | (rw [hy139]; with_reducible exact H) | (have H2_ := (Option.bind_some _ _).symm.trans H; rw [hy139]; with_reducible exact H2_) | (have H2_ := (Option.bind_some _ _).symm.trans H; with_reducible exact H2_) | with_reducible exact H | (rw [hy139]; exact H) | exact H
          have Ny139 := Aside0.mk hy139
          clear hy139
          have H' := Aside0.mk H
          clear H
          go_wp2_with (first | ((with_reducible refine gate_dst (N := 50) rfl ?_); refine Kd.R_make (Kd.int .u64) _ 36 rfl (N := 50) rfl 49 _ _ rfl ji19 rfl rfl Tryz.underlying49 (.int .u64 0) 8 info36 rfl (by decide) (by omega) 0 (ok := fun _ => True) (okp := fun _ => True) rfl (fun _ hk => hk) trivial (of_decide_eq_true asA) (Nat.le_trans (Nat.mul_le_mul_right _ (of_decide_eq_true asA : ji19.toNat ≤ 35184372088832)) (by omega)) (Below.refl _ _) (Nat.le_refl _) ?_; intro v140 w22 ho23 hb hg_ hnew_; clear hg_ hnew_; (first | rw [← Ny139.out] at ho23 | (simp only [Int.reduceToNat] at ho23; rw [← Ny139.out] at ho23)); have n0_ := Aside0.mk (Kd.R_lower ho23 (below_size (bA HB.out))); have n1_ := Aside0.mk (below_step (bA HB.out) hb); clear HB; have HO141 := n0_; have HB := n1_; clear n0_ n1_; clear hb ho23))
          go_loopg [9] kj7 (fun kq v9 w' => ∃ (x8_3 : List Int) (x9_3 : Int), v9 = .int .i64 x9_3 ∧ Aside0 (tenorref1_ShiftDown.l1 kq l0 a1 x6_7 x8_3 x9_3 = some (r1, r2)) ∧ Aside0 (kq ≤ kj7) ∧ Aside0 (Kd.R (Kd.int .u64) 36 w' w.heap.size (fun _ => True) v140 x8_3) ∧ Aside0 (Below w.heap.size w w'))
          case atStart => exact ⟨(y139), (0), (by first | (with_reducible rfl) | (simp; done) | (simp [*]; done) | rfl), H', ⟨Nat.le_refl _⟩, ⟨rA HO141.out⟩, ⟨bA HB.out⟩⟩
          case round =>
            clear H'
            try clear c1
            try clear p1
            try clear q1
            try clear hx1
            try clear c2
            try clear p2
            try clear c3
            try clear c3b0
            try clear c4
            try clear c4b0
            try clear c5
            try clear c6
            try clear c6b0
            try clear p6
            try clear c7
            try clear c7b0
            try clear c9
            try clear c12
            try clear c12b0
            try clear c13
            try clear c13b0
            try clear p13
            try clear q13
            try clear hx13
            try clear c15
            try clear c15b0
            try clear c15b1
            try clear c17
            try clear c17b0
            try clear c17b1
            try clear c20
            try clear c20b0
            try clear c20b1
            try clear c21
            try clear c21b0
            try clear c21b1
            try clear hx137_0
            try clear hx138_0
            try clear p1
            try clear p13
            try clear p137
            try clear p138
            try clear p2
            try clear p6
            try clear q1
            try clear q13
            try clear q137
            try clear q138
            obtain ⟨x8_3, x9_3, rfl, HA, HK3, HO_8, HB⟩ := hrel
            cases gk with
            | zero => exact absurd HA.out (by simp [tenorref1_ShiftDown.l1])
            | succ k3 =>
              have H := HA.out
              clear HA
              simp only [tenorref1_ShiftDown.l1] at H
              by_cases c24 : x9_3 < (x8_3.length : Int)
              rotate_left
              · rw [if_neg c24] at H
                have c24b0 : decide (x9_3 < (x8_3.length : Int)) = false := decide_eq_false c24
                clear c24
                replace H := Option.bind_eq_some_iff.mp H
                obtain ⟨t145, A370, H⟩ := H
                have A37 := Aside0.mk A370
                clear A370
                simp only [Option.some.injEq, Prod.mk.injEq] at H
                obtain ⟨rfl, rfl⟩ := H
                obtain ⟨Ao38, co38, eo38⟩ := Kd.R_slice HO_8.out
                subst eo38
                go_wp2_with (first | ((with_reducible refine gate_callee (f := 141) rfl ?_); refine goesL_ (some 81) rfl rfl Tryz.func141 (by kernel_rfl) rfl #[.slice Ao38 x8_3.length co38] rfl mA ?_; (with_reducible refine (tenorref1_trim.calls k3 (fun k_ => some k_ = (.slice Ao38 x8_3.length co38 : Value).ownBlock) (.slice Ao38 x8_3.length co38) x8_3 t145 w _ ?side1 ?side2 A37.out).mono ?_); (case side1 => exact bA HB.out); (case side2 => exact Kd.R_tight rfl HO_8.out); rintro e w39 ⟨v146, rfl, ho0, hb, hkp⟩; refine ⟨_, rfl, ?_⟩; have n0_ := Aside0.mk (Kd.R_mono (ok' := fun k_ => True) ho0 (fun k_ hk_ => trivial)); have n1_ := Aside0.mk (hb); clear HB; clear HO_8; have HO147 := n0_; have HB := n1_; clear n0_ n1_; (try clear hb); (try clear hkp); (try clear ho0)))
                go_ret2
                exact ⟨_, by first | rfl | (simp [errW_none, errW_some] <;> rfl) | (simp only [← hji19]; first | rfl | (simp [errW_none, errW_some] <;> rfl)) | (simp [*, errW_none, errW_some] <;> rfl), by (with_reducible repeat (first | apply Kd.R_alloc | apply Kd.R_drewN | apply Kd.R_drew)); exact HO147.out, bA HB.out⟩
              rw [if_pos c24] at H
              have c24b0 : decide (x9_3 < (x8_3.length : Int)) = true := decide_eq_true c24
              clear c24
              obtain ⟨ji25, hji25⟩ : ∃ j_ : Int, (wrap64 (x9_3 + (wrap64 (Int.tdiv a1 32)))) = j_ := ⟨_, rfl⟩
              replace H : (if 0 ≤ (ji25) then (if (ji25) < (l0.length : Int) then ((tenorref1_digit.f l0 (wrap64 ((ji25) + 1))).bind fun t143 => (if 0 ≤ (Int.tmod a1 32) then (if 0 ≤ x9_3 then (tenorref1_ShiftDown.l1 k3 l0 a1 x6_7 (x8_3.set (x9_3 : Int).toNat (Int.tmod (shr .u64 (IntKind.u64.wrap ((rd l0 (ji25)) + (IntKind.u64.wrap (t143 * 4294967296)))) (Int.tmod a1 32)) 4294967296)) (wrap64 (x9_3 + 1))) else (none)) else (none))) else (none)) else (none)) = some (r1, r2) := by first | (rw [hji25] at H; exact H) | (simp only [hji25] at H ⊢; exact H)
              have hji25w : (IntKind.i64.wrap (x9_3 + (wrap64 (Int.tdiv a1 32)))) = ji25 := (i64_w _).trans hji25
              by_cases c26 : 0 ≤ (ji25)
              rotate_left
              · rw [if_neg c26] at H
                exact absurd H (by simp)
              rw [if_pos c26] at H
              have c26b0 : decide (0 ≤ (ji25)) = true := decide_eq_true c26
              clear c26
              by_cases c27 : (ji25) < (l0.length : Int)
              rotate_left
              · rw [if_neg c27] at H
                exact absurd H (by simp)
              rw [if_pos c27] at H
              have c27b0 : decide ((ji25) < (l0.length : Int)) = true := decide_eq_true c27
              clear c27
              replace H := Option.bind_eq_some_iff.mp H
              obtain ⟨t143, A280, H⟩ := H
              have A28 := Aside0.mk A280
              clear A280
              obtain ⟨ji29, hji29⟩ : ∃ j_ : Int, (Int.tmod a1 32) = j_ := ⟨_, rfl⟩
              replace H : (if 0 ≤ (ji29) then (if 0 ≤ x9_3 then (tenorref1_ShiftDown.l1 k3 l0 a1 x6_7 (x8_3.set (x9_3 : Int).toNat (Int.tmod (shr .u64 (IntKind.u64.wrap ((rd l0 (ji25)) + (IntKind.u64.wrap (t143 * 4294967296)))) (ji29)) 4294967296)) (wrap64 (x9_3 + 1))) else (none)) else (none)) = some (r1, r2) := by first | (rw [hji29] at H; exact H) | (simp only [hji29] at H ⊢; exact H)
              (try rw [hji29] at A28)
              by_cases c30 : 0 ≤ (ji29)
              rotate_left
              · rw [if_neg c30] at H
                exact absurd H (by simp)
              rw [if_pos c30] at H
              have c30b0 := eq_true c30
              have c30b1 : decide (0 ≤ (ji29)) = true := decide_eq_true c30
              clear c30
              obtain ⟨ji31, hji31⟩ : ∃ j_ : Int, (shr .u64 (IntKind.u64.wrap ((rd l0 (ji25)) + (IntKind.u64.wrap (t143 * 4294967296)))) (ji29)) = j_ := ⟨_, rfl⟩
              replace H : (if 0 ≤ x9_3 then (tenorref1_ShiftDown.l1 k3 l0 a1 x6_7 (x8_3.set (x9_3 : Int).toNat (Int.tmod (ji31) 4294967296)) (wrap64 (x9_3 + 1))) else (none)) = some (r1, r2) := by first | (rw [hji31] at H; exact H) | (simp only [hji31] at H ⊢; exact H)
              (try rw [hji31] at A28)
              have hji31_ : ((IntKind.u64.wrap ((rd l0 (ji25)) + (IntKind.u64.wrap (t143 * 4294967296)))) / 2 ^ min (ji29).toNat 64) = ji31 := hji31
              have hji31z : (ji29) ≤ 64 → ((IntKind.u64.wrap ((rd l0 (ji25)) + (IntKind.u64.wrap (t143 * 4294967296)))) / 2 ^ (ji29).toNat) = ji31 := shr_small hji31
              by_cases c32 : 0 ≤ x9_3
              rotate_left
              · rw [if_neg c32] at H
                exact absurd H (by simp)
              rw [if_pos c32] at H
              have c32b0 : decide (0 ≤ x9_3) = true := decide_eq_true c32
              clear c32
              obtain ⟨y144, hy144⟩ : ∃ y_ : List Int, y_ = (x8_3.set (x9_3 : Int).toNat (Int.tmod (ji31) 4294967296)) := ⟨_, rfl⟩
              replace H : (tenorref1_ShiftDown.l1 k3 l0 a1 x6_7 y144 (wrap64 (x9_3 + 1))) = some (r1, r2) := by first | (rw [hy144]; with_reducible exact H) | (have H2_ := (Option.bind_some _ _).symm.trans H; rw [hy144]; with_reducible exact H2_) | (have H2_ := (Option.bind_some _ _).symm.trans H; with_reducible exact H2_) | with_reducible exact H | (rw [hy144]; exact H) | exact H
              have Ny144 := Aside0.mk hy144
              clear hy144
              have H' := Aside0.mk H
              clear H
              obtain ⟨Ao34, co34, eo34⟩ := Kd.R_slice HO_8.out
              subst eo34
              try go_wp2
              have n0_ := Aside0.mk (Kd.R_drew HO_8.out)
              have n1_ := Aside0.mk (below_drew1 HB.out)
              clear HO_8
              clear HB
              have HO_8 := n0_
              have HB := n1_
              clear n0_ n1_
              have p142 : 0 ≤ ((ji25) : Int) := of_decide_eq_true asA
              have q142 : (ji25) < (l0.length : Int) := of_decide_eq_true asA
              obtain ⟨ad142, e142, hx142_0⟩ := Kd.at_int HR0.out (ji25) p142 q142
              have hw142_0 := hx142_0
              cases e142
              replace hx142_0 := (HB.out.cell (World.block_lt_of_cell? w _ hx142_0)).trans hx142_0
              replace p142 := eq_true p142
              replace q142 := eq_true q142
              refine start_ (n := 24) (S := fun w' => w'.cell? (ad142.add ((ji25)).toNat) = some (.int .u64 (rd l0 (ji25)))) (ds := [23]) (dnA 24 0) (by kernel_rfl) rfl rfl (((HB.out.cell (World.block_lt_of_cell? w _ hw142_0)).trans hw142_0)) (fun hHeld => ?_); refine with_tabW tenorref1_ShiftDown.tab13 tenorref1_ShiftDown.bits13 (fun HT_ HW_ => ?_)
              generalize wr.drew = w35 at HO_8 HB hx142_0 hHeld ⊢
              refine pure_ (i := 0) (N := some 57) (v := ?_) (a' := ?_) (dnA 24 1) rfl rfl (any_of HT_.out (by kernel_rfl)) (fun _ _ _ h => h) (Or.inl ⟨by rfl, ?_⟩) ?_ ?_
              rotate_left
              · intro w'
                go_simp
                with_reducible rfl
              rotate_left
              · simp only [Act.put, List.setIfInBounds_toArray, List.set_cons_zero, List.set_cons_succ, i64_w, i32_w]
                rfl
              refine pure_ (i := 1) (N := some 58) (v := ?_) (a' := ?_) (dnA 24 3) rfl rfl (any_of HT_.out (by kernel_rfl)) (fun _ _ _ h => h) (Or.inl ⟨by rfl, ?_⟩) ?_ ?_
              rotate_left
              · intro w'
                go_simp
                with_reducible rfl
              rotate_left
              · simp only [Act.put, List.setIfInBounds_toArray, List.set_cons_zero, List.set_cons_succ, i64_w, i32_w]
                rfl
              refine pure_ (i := 2) (N := some 59) (v := ?_) (a' := ?_) (dnA 24 7) rfl rfl (any_of HT_.out (by kernel_rfl)) (fun _ _ _ h => h) (Or.inl ⟨by rfl, ?_⟩) ?_ ?_
              rotate_left
              · intro w'
                go_simp
                with_reducible rfl
              rotate_left
              · simp only [Act.put, List.setIfInBounds_toArray, List.set_cons_zero, List.set_cons_succ, i64_w, i32_w]
                rfl
              refine pure_ (i := 3) (N := some 60) (v := ?_) (a' := ?_) (dnA 24 15) rfl rfl (any_of HT_.out (by kernel_rfl)) (fun _ _ _ h => h) (Or.inl ⟨by rfl, ?_⟩) ?_ ?_
              rotate_left
              · intro w'
                go_simp
                with_reducible rfl
              rotate_left
              · simp only [Act.put, List.setIfInBounds_toArray, List.set_cons_zero, List.set_cons_succ, i64_w, i32_w]
                rfl
              refine pure_ (i := 4) (N := some 61) (v := ?_) (a' := ?_) (dnA 24 31) rfl rfl (any_of HT_.out (by kernel_rfl)) (fun _ _ _ h => h) (Or.inl ⟨by rfl, ?_⟩) ?_ ?_
              rotate_left
              · intro w'
                go_simp
                with_reducible rfl
              rotate_left
              · simp only [Act.put, List.setIfInBounds_toArray, List.set_cons_zero, List.set_cons_succ, i64_w, i32_w]
                rfl
              refine pure_ (i := 5) (N := some 62) (v := ?_) (a' := ?_) (dnA 24 63) rfl rfl (any_of HT_.out (by kernel_rfl)) (fun _ _ _ h => h) (Or.inl ⟨by rfl, ?_⟩) ?_ ?_
              rotate_left
              · intro w'
                go_simp
                with_reducible rfl
              rotate_left
              · simp only [Act.put, List.setIfInBounds_toArray, List.set_cons_zero, List.set_cons_succ, i64_w, i32_w]
                rfl
              refine pure_ (i := 6) (N := some 63) (v := ?_) (a' := ?_) (dnA 24 127) rfl rfl (any_of HT_.out (by kernel_rfl)) (fun _ _ _ h => h) (Or.inl ⟨by rfl, ?_⟩) ?_ ?_
              rotate_left
              · intro w'
                go_simp
                with_reducible rfl
              rotate_left
              · simp only [Act.put, List.setIfInBounds_toArray, List.set_cons_zero, List.set_cons_succ, i64_w, i32_w]
                rfl
              refine pure_ (i := 7) (N := some 64) (v := ?_) (a' := ?_) (dnA 24 255) rfl rfl (any_of HT_.out (by kernel_rfl)) (fun _ _ _ h => h) (Or.inl ⟨by rfl, ?_⟩) ?_ ?_
              rotate_left
              · intro w'
                go_simp
                with_reducible rfl
              rotate_left
              · simp only [Act.put, List.setIfInBounds_toArray, List.set_cons_zero, List.set_cons_succ, i64_w, i32_w]
                rfl
              refine pure_ (i := 9) (N := some 66) (v := ?_) (a' := ?_) (dnA 24 767) rfl rfl (any_of HT_.out (by kernel_rfl)) (fun _ _ _ h => h) (Or.inl ⟨by rfl, ?_⟩) ?_ ?_
              rotate_left
              · intro w'
                go_simp
                with_reducible rfl
              rotate_left
              · simp only [Act.put, List.setIfInBounds_toArray, List.set_cons_zero, List.set_cons_succ, i64_w, i32_w]
                rfl
              refine pure_ (i := 10) (N := some 67) (v := ?_) (a' := ?_) (dnA 24 1791) rfl rfl (any_of HT_.out (by kernel_rfl)) (fun _ _ _ h => h) (Or.inl ⟨by rfl, ?_⟩) ?_ ?_
              rotate_left
              · intro w'
                go_simp
                with_reducible rfl
              rotate_left
              · simp only [Act.put, List.setIfInBounds_toArray, List.set_cons_zero, List.set_cons_succ, i64_w, i32_w]
                rfl
              refine pure_ (i := 11) (N := some 68) (v := ?_) (a' := ?_) (dnA 24 3839) rfl rfl (any_of HT_.out (by kernel_rfl)) (fun _ _ _ h => h) (Or.inl ⟨by rfl, ?_⟩) ?_ ?_
              rotate_left
              · intro w'
                go_simp
                with_reducible rfl
              rotate_left
              · simp only [Act.put, List.setIfInBounds_toArray, List.set_cons_zero, List.set_cons_succ, i64_w, i32_w]
                rfl
              refine pure_ (i := 12) (N := some 69) (v := ?_) (a' := ?_) (dnA 24 7935) rfl rfl (any_of HT_.out (by kernel_rfl)) (fun _ _ _ h => h) (Or.inl ⟨by rfl, ?_⟩) ?_ ?_
              rotate_left
              · intro w'
                go_simp
                with_reducible rfl
              rotate_left
              · simp only [Act.put, List.setIfInBounds_toArray, List.set_cons_zero, List.set_cons_succ, i64_w, i32_w]
                rfl
              refine pure_ (i := 13) (N := some 70) (v := ?_) (a' := ?_) (dnA 24 16127) rfl rfl (any_of HT_.out (by kernel_rfl)) (fun _ _ _ h => h) (Or.inl ⟨by rfl, ?_⟩) ?_ ?_
              rotate_left
              · intro w'
                go_simp
                with_reducible rfl
              rotate_left
              · simp only [Act.put, List.setIfInBounds_toArray, List.set_cons_zero, List.set_cons_succ, i64_w, i32_w]
                rfl
              refine pure_ (i := 14) (N := some 71) (v := ?_) (a' := ?_) (dnA 24 32511) rfl rfl (any_of HT_.out (by kernel_rfl)) (fun _ _ _ h => h) (Or.inl ⟨by rfl, ?_⟩) ?_ ?_
              rotate_left
              · intro w'
                go_simp
                with_reducible rfl
              rotate_left
              · simp only [Act.put, List.setIfInBounds_toArray, List.set_cons_zero, List.set_cons_succ, i64_w, i32_w]
                rfl
              refine pure_ (i := 18) (N := some 75) (v := ?_) (a' := ?_) (dnA 24 294655) rfl rfl (any_of HT_.out (by kernel_rfl)) (fun _ _ _ h => h) (Or.inl ⟨by rfl, ?_⟩) ?_ ?_
              rotate_left
              · intro w'
                go_simp
                with_reducible rfl
              rotate_left
              · simp only [Act.put, List.setIfInBounds_toArray, List.set_cons_zero, List.set_cons_succ, i64_w, i32_w]
                rfl
              refine pure_ (i := 19) (N := some 76) (v := ?_) (a' := ?_) (dnA 24 818943) rfl rfl (any_of HT_.out (by kernel_rfl)) (fun _ _ _ h => h) (Or.inl ⟨by rfl, ?_⟩) ?_ ?_
              rotate_left
              · intro w'
                go_simp
                with_reducible rfl
              rotate_left
              · simp only [Act.put, List.setIfInBounds_toArray, List.set_cons_zero, List.set_cons_succ, i64_w, i32_w]
                rfl
              refine take_ (i := 8) (N := some 65) (v := ?_) (a' := ?_) (dnA 24 819199) rfl rfl (take_ofW HT_.out HW_.out (by kernel_rfl)) (fun _ _ _ h => h) (Or.inl ⟨by rfl, ?_⟩) hHeld ?_ ?_
              rotate_left
              · intro w' s0
                go_simp
                with_reducible rfl
              rotate_left
              · simp only [Act.put, List.setIfInBounds_toArray, List.set_cons_zero, List.set_cons_succ, i64_w, i32_w]
                rfl
              refine one_ (i := 15) (N := some 72) (dnA 24 851967) rfl rfl (one_of HT_.out (by kernel_rfl)) (by decide) (fun K hK => ?_)
              refine goes_ Tryz.func140 (by kernel_rfl) rfl #[.slice (some ad142) l0.length c0, .int .i64 (wrap64 ((ji25) + 1))] (by rfl) rfl rfl (by (try simp only [List.map_toArray, List.map_cons, List.map_nil]); first | done | (simp only [hji25]; rfl) | rfl | (simp only [List.length_drop, List.length_take]; rfl)) ?_
              with_reducible refine (tenorref1_digit.calls _ _ l0 (wrap64 ((ji25) + 1)) t143 _ ?side1 ?side2 A28.out).mono ?_
              (case side1 => exact cA (Kd.C_below HR0.out HB.out))
              (case side2 => exact HC0.out)
              rintro e w' ⟨rfl, ⟨nd, rfl⟩⟩
              refine ⟨_, rfl, ?_⟩
              have p33 : 0 ≤ (x9_3 : Int) := of_decide_eq_true asA
              have q33 : (x9_3 : Int) < ((x8_3.length : Int) : Int) := of_decide_eq_true asA
              obtain ⟨go33, co33, eo33, gb33, gl33, cl33, HG33⟩ := Kd.R_form HO_8.out (by omega)
              (first | cases eo33 | (injection eo33 with ea_ en_ ec_; (first | subst ea_ | (injection ea_ with ea_; subst ea_)); subst ec_; clear en_))
              have GB33 := Aside0.mk gb33
              have GG33 := Aside0.mk HG33
              clear gb33 gl33 HG33
              obtain ⟨hx33_0, hf33_0⟩ := Kd.R_celln 0 HO_8.out (x9_3 : Int) p33 q33
              replace p33 := eq_true p33
              replace q33 := eq_true q33
              have HP36 := Kd.R_putn HO_8.out (x9_3 : Int) (Int.tmod (ji31) 4294967296)
              rw [← Ny144.out] at HP36
              have HQ36 := Aside0.mk HP36
              clear HP36
              refine hK.out _ _ (((HB.out.cell (World.block_lt_of_cell? w _ hw142_0)).trans hw142_0)) (fun hHeld => ?_)
              clear hK K
              refine norm_ (a' := ?_) ?_ ?_
              rotate_left
              · show Act.put _ (some 72) _ = _
                simp only [Act.put, List.setIfInBounds_toArray, List.set_cons_zero, List.set_cons_succ, i64_w, i32_w]
                rfl
              refine pure_ (i := 16) (N := some 73) (v := ?_) (a' := ?_) (dnA 24 917503) rfl rfl (any_of HT_.out (by kernel_rfl)) (fun _ _ _ h => h) (Or.inl ⟨by rfl, ?_⟩) ?_ ?_
              rotate_left
              · intro w'
                go_simp
                with_reducible rfl
              rotate_left
              · simp only [Act.put, List.setIfInBounds_toArray, List.set_cons_zero, List.set_cons_succ, i64_w, i32_w]
                rfl
              refine pure_ (i := 17) (N := some 74) (v := ?_) (a' := ?_) (dnA 24 1048575) rfl rfl (any_of HT_.out (by kernel_rfl)) (fun _ _ _ h => h) (Or.inl ⟨by rfl, ?_⟩) ?_ ?_
              rotate_left
              · intro w'
                go_simp
                with_reducible rfl
              rotate_left
              · simp only [Act.put, List.setIfInBounds_toArray, List.set_cons_zero, List.set_cons_succ, i64_w, i32_w]
                rfl
              refine pure_ (i := 20) (N := some 77) (v := ?_) (a' := ?_) (dnA 24 2097151) rfl rfl (any_of HT_.out (by kernel_rfl)) (fun _ _ _ h => h) (Or.inl ⟨by rfl, ?_⟩) ?_ ?_
              rotate_left
              · intro w'
                go_simp
                with_reducible rfl
              rotate_left
              · simp only [Act.put, List.setIfInBounds_toArray, List.set_cons_zero, List.set_cons_succ, i64_w, i32_w]
                rfl
              refine pure_ (i := 21) (N := some 78) (v := ?_) (a' := ?_) (dnA 24 4194303) rfl rfl (any_of HT_.out (by kernel_rfl)) (fun _ _ _ h => h) (Or.inl ⟨by rfl, ?_⟩) ?_ ?_
              rotate_left
              · intro w'
                go_simp
                with_reducible rfl
              rotate_left
              · simp only [Act.put, List.setIfInBounds_toArray, List.set_cons_zero, List.set_cons_succ, i64_w, i32_w]
                rfl
              refine pure_ (i := 22) (N := some 79) (v := ?_) (a' := ?_) (dnA 24 8388607) rfl rfl (any_of HT_.out (by kernel_rfl)) (fun _ _ _ h => h) (Or.inl ⟨by rfl, ?_⟩) ?_ ?_
              rotate_left
              · intro w'
                go_simp
                with_reducible rfl
              rotate_left
              · simp only [Act.put, List.setIfInBounds_toArray, List.set_cons_zero, List.set_cons_succ, i64_w, i32_w]
                rfl
              refine last_ (i := 23) (N := none) (dnA 24 16777215) rfl rfl (one_of HT_.out (by kernel_rfl)) (by decide) (fun K hK => ?_)
              refine skip_ (w1 := ?_) (by rfl) rfl ?_ ?_
              rotate_left
              · go_simp
                rfl
              refine hK.out _ _ ?_
              clear hK K
              refine done_ (done_of HT_.out (by kernel_rfl)) ?_
              try go_wp2
              go_roundg k3
              case measure => have := HK1.out; have := HJ7.out; have := HK3.out; omega
              case rel => exact ⟨(y144), (wrap64 (x9_3 + 1)), (by first | (with_reducible rfl) | (simp; done) | (simp [*]; done) | rfl), H', ⟨by have := HK1.out; have := HJ7.out; have := HK3.out; omega⟩, ⟨rA HQ36.out⟩, ⟨by repeat (first | (with_reducible first | exact HB.out | apply below_alloc | apply pw_below_drewN | apply below_drew1 | refine below_set ?_ GB33.out) | exact HB.out)⟩⟩

end Go.Proofs.YtepcegiciecogaaGreat.FR
