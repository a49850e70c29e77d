/- Written by the session's fprint.py out of the translation. -/
import Derived.Test.YtepcegiciecogaaGreatFNx0
namespace Go.Proofs.YtepcegiciecogaaGreat.FN
open Go.RowKit Go.Proofs.YtepcegiciecogaaGreatW.PrintWords Go.Proofs.YtepcegiciecogaaGreatW.PrintLast Go.Proofs.YtepcegiciecogaaGreatW.PrintMore
attribute [local go_sem] max2_int min2_int max_two min_two max_three min_three max_four min_four   -- for this text's walks alone
open Go.Proofs.YtepcegiciecogaaGreat.FX Go.Proofs.YtepcegiciecogaaGreat.FB Go.Proofs.YtepcegiciecogaaGreat.FR Go.Proofs.YtepcegiciecogaaGreat.FT
attribute [local go_sem] run_store_float run_neg_float run_fmul isSome_setCell run_equalIn_float
set_option linter.unusedVariables false
set_option linter.unusedSimpArgs false

/-! ### tenorref14_Net: function 10 -/
mutual
def tenorref14_Net.l0 : Nat → List (S79) → List (S79) → Int → Option ((List (S79)) × Int)
  | 0, _, _, _ => none
  | k + 1, x0, x6, x7 => tenorref14_Net.l1 k x0 x6 x7 (-1) 0
def tenorref14_Net.l1 : Nat → List (S79) → List (S79) → Int → Int → Int → Option ((List (S79)) × Int)
  | 0, _, _, _, _, _ => none
  | k + 1, x0, x6, x7, x8, x9 => if x9 < (x0.length : Int) then (if 0 ≤ x9 then (if (wrap64 ((wrap64 (((rd_T79 x0 x9).f2) * 1048576)) + ((rd_T79 x0 x9).f0))) > x7 then (if x8 < 0 then (tenorref14_Net.l1 k x0 x6 x7 (wrap64 ((wrap64 (((rd_T79 x0 x9).f2) * 1048576)) + ((rd_T79 x0 x9).f0))) (wrap64 (x9 + 1))) else (if (wrap64 ((wrap64 (((rd_T79 x0 x9).f2) * 1048576)) + ((rd_T79 x0 x9).f0))) < x8 then (tenorref14_Net.l1 k x0 x6 x7 (wrap64 ((wrap64 (((rd_T79 x0 x9).f2) * 1048576)) + ((rd_T79 x0 x9).f0))) (wrap64 (x9 + 1))) else (tenorref14_Net.l1 k x0 x6 x7 x8 (wrap64 (x9 + 1))))) else (tenorref14_Net.l1 k x0 x6 x7 x8 (wrap64 (x9 + 1)))) else (none)) else (if x8 < 0 then (some (x6, 0)) else (tenorref14_Net.l2 k x0 x6 x8 0 0 false ([] : List Int) 0))
def tenorref14_Net.l2 : Nat → List (S79) → List (S79) → Int → Int → Int → Bool → List Int → Int → Option ((List (S79)) × Int)
  | 0, _, _, _, _, _, _, _, _ => none
  | k + 1, x0, x6, x8, x12, x106000, x106001, x106002, x106003 => if x12 < (x0.length : Int) then (if 0 ≤ x12 then (if (wrap64 ((wrap64 (((rd_T79 x0 x12).f2) * 1048576)) + ((rd_T79 x0 x12).f0))) = x8 then ((tenorref3_Add.f k x106000 x106001 x106002 x106003 ((rd_T79 x0 x12).f1)).bind fun bt109 => (tenorref14_Net.l2 k x0 x6 x8 (wrap64 (x12 + 1)) bt109.1 bt109.2.1 bt109.2.2.1 bt109.2.2.2)) else (tenorref14_Net.l2 k x0 x6 x8 (wrap64 (x12 + 1)) x106000 x106001 x106002 x106003)) else (none)) else ((tenorref3_Value.f k x106000 x106001 x106002 x106003).bind fun t115 => ((tenorref1_Number.f t115).bind fun t116 => (if t116 = true then (if x6.length < 5864062014805 then (tenorref14_Net.l0 k x0 (x6 ++ [(⟨Int.tmod x8 1048576, t115, x8 / 1048576⟩ : S79)]) x8) else (none)) else (some (([] : List (S79)), 91)))))
end
def tenorref14_Net.f (k : Nat) (l0 : List (S79)) : Option ((List (S79)) × Int) := (tenorref14_Check.f k l0).bind fun bt101 => (if bt101.1 = 0 then (tenorref14_Net.l0 k l0 ([] : List (S79)) (-1)) else (some (([] : List (S79)), bt101.1)))
def tenorref14_Net.T10 : Bool × List (List Nat × List Nat) := (true, [([], []), ([], []), ([0, 1], [0, 1]), ([2], [2]), ([3], [3]), ([4], [4]), ([], []), ([], []), ([6, 7], [6, 7]), ([8], [8]), ([9], [9]), ([5, 10], [5, 10]), ([11, 0, 1, 2, 3, 4, 5, 6, 7, 8, 9, 10, 11], [11])])
def tenorref14_Net.B10 : List Nat := [0, 0, 3, 7, 15, 31, 0, 0, 192, 448, 960, 2047, 4095]
theorem tenorref14_Net.tab10 : rtab .any (opsOf Tryz.f10 10) = tenorref14_Net.T10 := by kernel_rfl
theorem tenorref14_Net.bits10 : waitsOk tenorref14_Net.T10.2 tenorref14_Net.B10 = true := by kernel_rfl
def tenorref14_Net.T19 : Bool × List (List Nat × List Nat) := (true, [([], []), ([], []), ([0, 1], [0, 1]), ([2], [2]), ([3], [3]), ([4], [4]), ([], []), ([], []), ([6, 7], [6, 7]), ([8], [8]), ([9], [9]), ([5, 10], [5, 10]), ([], []), ([11, 12], [11, 12])])
def tenorref14_Net.B19 : List Nat := [0, 0, 3, 7, 15, 31, 0, 0, 192, 448, 960, 2047, 0, 8191]
theorem tenorref14_Net.tab19 : rtab .any (opsOf Tryz.f10 19) = tenorref14_Net.T19 := by kernel_rfl
theorem tenorref14_Net.bits19 : waitsOk tenorref14_Net.T19.2 tenorref14_Net.B19 = true := by kernel_rfl
def tenorref14_Net.T20 : Bool × List (List Nat × List Nat) := (true, [([], []), ([], []), ([], []), ([1, 2], [1, 2]), ([3], [3]), ([4], [4]), ([0, 5], [0, 5]), ([6, 6, 0, 1, 2, 3, 4, 5, 6], [6])])
def tenorref14_Net.B20 : List Nat := [0, 0, 0, 6, 14, 30, 63, 127]
theorem tenorref14_Net.tab20 : rtab .any (opsOf Tryz.f10 20) = tenorref14_Net.T20 := by kernel_rfl
theorem tenorref14_Net.bits20 : waitsOk tenorref14_Net.T20.2 tenorref14_Net.B20 = true := by kernel_rfl
set_option maxHeartbeats 8000000 in
set_option maxRecDepth 100000 in
theorem tenorref14_Net.calls (k : Nat) (A0 : Option Addr) (c0 : Nat) (l0 : List (S79)) (r1 : List (S79)) (r2 : Int) (w : World) (hr0 : Kd.C k79 w A0 l0.length l0) (hc0 : l0.length ≤ c0) (h : tenorref14_Net.f k l0 = some (r1, r2)) :
    Calls Tryz.prog 10 #[.slice A0 l0.length c0] w fun e w' => ∃ v0_ : Value, e = .returned (.tuple #[v0_, .int .i64 r2]) ∧ Kd.R k79 79 w' w.heap.size (fun _ => True) v0_ r1 ∧ Below w.heap.size w w' := by
  have hu84 := Tryz.underlying84
  have hu79 := Tryz.underlying79
  have HR0 := Aside0.mk hr0
  have HC0 := Aside0.mk hc0
  clear hr0 hc0
  have HB := Aside0.mk (Below.refl w.heap.size w)
  have H : ((tenorref14_Check.f k l0).bind fun bt101 => (if bt101.1 = 0 then (tenorref14_Net.l0 k l0 ([] : List (S79)) (-1)) else (some (([] : List (S79)), bt101.1)))) = some (r1, r2) := h
  clear h
  replace H := Option.bind_eq_some_iff.mp H
  obtain ⟨⟨t101, t102⟩, A20, H⟩ := H
  have A2 := Aside0.mk A20
  clear A20
  by_cases c3 : t101 = 0
  rotate_left
  · rw [if_neg c3] at H
    have c3b0 : (t101 == 0) = false := beq_eq_false_iff_ne.mpr c3
    have c3b1 : (t101 != 0) = true := bne_iff_ne.mpr c3
    simp only [Option.some.injEq, Prod.mk.injEq] at H
    obtain ⟨rfl, rfl⟩ := H
    go_enter Tryz.func10, Tryz.ntmps10
    go_wp2_with (first | ((with_reducible refine gate_callee (f := 39) rfl ?_); refine goesL_ (some 16) rfl rfl Tryz.func39 (by kernel_rfl) rfl #[.slice A0 l0.length c0] rfl mA ?_; (with_reducible refine (tenorref14_Check.calls k _ _ l0 t101 t102 _ ?side1 ?side2 A2.out).mono ?_); (case side1 => exact cA HR0.out); (case side2 => exact HC0.out); rintro e w' ⟨rfl, ⟨nd, rfl⟩⟩; refine ⟨_, rfl, ?_⟩))
    go_ret2
    exact ⟨_, by first | rfl | (simp [errW_none, errW_some] <;> rfl) | (simp [*, errW_none, errW_some] <;> rfl), by first | exact Kd.R_nil _ _ _ _ _ | exact Kd.N_nil _ _ _ _ _ | exact Kd.V_nil _ _ _ _ _ | exact Kd.Q_nil _ _ _ _ _ | exact Kd.S_nil _ _ _ _ _, bA HB.out⟩
  rw [if_pos c3] at H
  have c3b0 : (t101 == 0) = true := beq_iff_eq.mpr c3
  have c3b1 : (t101 != 0) = false := bne_eq_false_iff_eq.mpr c3
  clear c3
  have H' := Aside0.mk H
  clear H
  go_enter Tryz.func10, Tryz.ntmps10
  go_wp2_with (first | ((with_reducible refine gate_callee (f := 39) rfl ?_); refine goesL_ (some 16) rfl rfl Tryz.func39 (by kernel_rfl) rfl #[.slice A0 l0.length c0] rfl mA ?_; (with_reducible refine (tenorref14_Check.calls k _ _ l0 t101 t102 _ ?side1 ?side2 A2.out).mono ?_); (case side1 => exact cA HR0.out); (case side2 => exact HC0.out); rintro e w' ⟨rfl, ⟨nd, rfl⟩⟩; refine ⟨_, rfl, ?_⟩))
  go_loopg [6, 7] k (fun kq v6 v7 w' => ∃ (x6_1 : List (S79)) (x7_1 : Int), v7 = .int .i64 x7_1 ∧ Aside0 (tenorref14_Net.l0 kq l0 x6_1 x7_1 = some (r1, r2)) ∧ Aside0 (kq ≤ k) ∧ Aside0 (Kd.R k79 79 w' w.heap.size (fun _ => True) v6 x6_1) ∧ Aside0 (Below w.heap.size w w'))
  case atStart => exact ⟨(([] : List (S79))), ((-1)), (by first | rfl | (simp; done) | (simp [*]; done)), H', ⟨Nat.le_refl _⟩, ⟨by first | exact Kd.R_nil _ _ _ _ _ | exact Kd.N_nil _ _ _ _ _ | exact Kd.V_nil _ _ _ _ _ | exact Kd.Q_nil _ _ _ _ _ | exact Kd.S_nil _ _ _ _ _⟩, ⟨bA HB.out⟩⟩
  case round =>
    clear H'
    try clear c1
    try clear p2
    try clear c3
    try clear c3b0
    try clear c3b1
    obtain ⟨x6_1, x7_1, rfl, HA, HK1, HO_6, HB⟩ := hrel
    cases gk with
    | zero => exact absurd HA.out (by simp [tenorref14_Net.l0])
    | succ k1 =>
      have H := HA.out
      clear HA
      simp only [tenorref14_Net.l0] at H
      have H' := Aside0.mk H
      clear H
      go_wp2
      go_loopg [8, 9] k1 (fun kq v8 v9 w' => ∃ (x8_2 : Int) (x9_2 : Int), v8 = .int .i64 x8_2 ∧ v9 = .int .i64 x9_2 ∧ Aside0 (tenorref14_Net.l1 kq l0 x6_1 x7_1 x8_2 x9_2 = some (r1, r2)) ∧ Aside0 (kq ≤ k1) ∧ Aside0 (Kd.R k79 79 w' w.heap.size (fun _ => True) u6 x6_1) ∧ Aside0 (Below w.heap.size w w'))
      case atStart => exact ⟨((-1)), (0), (by first | rfl | (simp; done) | (simp [*]; done)), (by first | rfl | (simp; done) | (simp [*]; done)), H', ⟨Nat.le_refl _⟩, ⟨rA HO_6.out⟩, ⟨bA HB.out⟩⟩
      case round =>
        clear H'
        try clear c1
        try clear p2
        try clear c3
        try clear c3b0
        try clear c3b1
        try clear p2
        obtain ⟨x8_2, x9_2, rfl, rfl, HA, HK2, HO_6, HB⟩ := hrel
        cases gk with
        | zero => exact absurd HA.out (by simp [tenorref14_Net.l1])
        | succ k2 =>
          have H := HA.out
          clear HA
          simp only [tenorref14_Net.l1] at H
          by_cases c4 : x9_2 < (l0.length : Int)
          · rw [if_pos c4] at H
            have c4b0 : decide (x9_2 < (l0.length : Int)) = true := decide_eq_true c4
            clear c4
            by_cases c5 : 0 ≤ x9_2
            rotate_left
            · rw [if_neg c5] at H
              exact absurd H (by simp)
            rw [if_pos c5] at H
            have c5b0 : decide (0 ≤ x9_2) = true := decide_eq_true c5
            clear c5
            by_cases c6 : (wrap64 ((wrap64 (((rd_T79 l0 x9_2).f2) * 1048576)) + ((rd_T79 l0 x9_2).f0))) > x7_1
            rotate_left
            · rw [if_neg c6] at H
              have c6b0 : decide (x7_1 < (wrap64 ((wrap64 (((rd_T79 l0 x9_2).f2) * 1048576)) + ((rd_T79 l0 x9_2).f0)))) = false := decide_eq_false c6
              clear c6
              have H' := Aside0.mk H
              clear H
              try go_wp2
              have n0_ := Aside0.mk (Kd.R_drew HO_6.out)
              have n1_ := Aside0.mk (below_drew1 HB.out)
              clear HO_6
              clear HB
              have HO_6 := n0_
              have HB := n1_
              clear n0_ n1_
              have p103 : 0 ≤ (x9_2 : Int) := of_decide_eq_true asA
              have q103 : x9_2 < (l0.length : Int) := of_decide_eq_true asA
              obtain ⟨ad103, e103, hx103_0, hx103_1, hx103_2⟩ := at_T79 HR0.out x9_2 p103 q103
              have hw103_2 := hx103_2
              have hw103_1 := hx103_1
              have hw103_0 := hx103_0
              cases e103
              replace hx103_0 := (HB.out.cell (World.block_lt_of_cell? w _ hx103_0)).trans hx103_0
              replace hx103_1 := (HB.out.cell (World.block_lt_of_cell? w _ hx103_1)).trans hx103_1
              replace hx103_2 := (HB.out.cell (World.block_lt_of_cell? w _ hx103_2)).trans hx103_2
              replace p103 := eq_true p103
              replace q103 := eq_true q103
              have p104 : 0 ≤ (x9_2 : Int) := of_decide_eq_true asA
              have q104 : x9_2 < (l0.length : Int) := of_decide_eq_true asA
              obtain ⟨ad104, e104, hx104_0, hx104_1, hx104_2⟩ := at_T79 HR0.out x9_2 p104 q104
              have hw104_2 := hx104_2
              have hw104_1 := hx104_1
              have hw104_0 := hx104_0
              obtain rfl : ad103 = ad104 := (by injection e104)
              replace hx104_0 := (HB.out.cell (World.block_lt_of_cell? w _ hx104_0)).trans hx104_0
              replace hx104_1 := (HB.out.cell (World.block_lt_of_cell? w _ hx104_1)).trans hx104_1
              replace hx104_2 := (HB.out.cell (World.block_lt_of_cell? w _ hx104_2)).trans hx104_2
              replace p104 := eq_true p104
              replace q104 := eq_true q104
              refine start_ (n := 13) (S := fun w' => w'.cell? (ad103.add ((x9_2).toNat * 3)) = some (.int .i64 ((rd_T79 l0 x9_2).f0)) ∧ w'.cell? ⟨(ad103.add ((x9_2).toNat * 3)).block, (ad103.add ((x9_2).toNat * 3)).off + 1, none⟩ = some (.int .u64 ((rd_T79 l0 x9_2).f1)) ∧ w'.cell? ⟨(ad103.add ((x9_2).toNat * 3)).block, (ad103.add ((x9_2).toNat * 3)).off + 2, none⟩ = some (.int .i64 ((rd_T79 l0 x9_2).f2)) ∧ w'.cell? (ad103.add ((x9_2).toNat * 3)) = some (.int .i64 ((rd_T79 l0 x9_2).f0)) ∧ w'.cell? ⟨(ad103.add ((x9_2).toNat * 3)).block, (ad103.add ((x9_2).toNat * 3)).off + 1, none⟩ = some (.int .u64 ((rd_T79 l0 x9_2).f1)) ∧ w'.cell? ⟨(ad103.add ((x9_2).toNat * 3)).block, (ad103.add ((x9_2).toNat * 3)).off + 2, none⟩ = some (.int .i64 ((rd_T79 l0 x9_2).f2))) (ds := []) (dnA 13 0) (by kernel_rfl) rfl rfl ⟨((HB.out.cell (World.block_lt_of_cell? w _ hw103_0)).trans hw103_0), ((HB.out.cell (World.block_lt_of_cell? w _ hw103_1)).trans hw103_1), ((HB.out.cell (World.block_lt_of_cell? w _ hw103_2)).trans hw103_2), ((HB.out.cell (World.block_lt_of_cell? w _ hw104_0)).trans hw104_0), ((HB.out.cell (World.block_lt_of_cell? w _ hw104_1)).trans hw104_1), ((HB.out.cell (World.block_lt_of_cell? w _ hw104_2)).trans hw104_2)⟩ (fun hHeld => ?_); refine with_tabW tenorref14_Net.tab10 tenorref14_Net.bits10 (fun HT_ HW_ => ?_)
              generalize wr.drew = w12 at HO_6 HB hx103_0 hx103_1 hx103_2 hx104_0 hx104_1 hx104_2 hHeld ⊢
              refine pure_ (i := 0) (N := some 28) (v := ?_) (a' := ?_) (dnA 13 1) rfl rfl (any_of HT_.out (by kernel_rfl)) (fun _ _ _ h => h) (Or.inl ⟨by rfl, ?_⟩) ?_ ?_
              rotate_left
              · intro w'
                go_simp
                with_reducible rfl
              rotate_left
              · simp only [Act.put, List.setIfInBounds_toArray, List.set_cons_zero, List.set_cons_succ, i64_w, i32_w]
                rfl
              refine pure_ (i := 1) (N := some 29) (v := ?_) (a' := ?_) (dnA 13 3) rfl rfl (any_of HT_.out (by kernel_rfl)) (fun _ _ _ h => h) (Or.inl ⟨by rfl, ?_⟩) ?_ ?_
              rotate_left
              · intro w'
                go_simp
                with_reducible rfl
              rotate_left
              · simp only [Act.put, List.setIfInBounds_toArray, List.set_cons_zero, List.set_cons_succ, i64_w, i32_w]
                rfl
              refine pure_ (i := 2) (N := some 30) (v := ?_) (a' := ?_) (dnA 13 7) rfl rfl (any_of HT_.out (by kernel_rfl)) (fun _ _ _ h => h) (Or.inl ⟨by rfl, ?_⟩) ?_ ?_
              rotate_left
              · intro w'
                go_simp
                with_reducible rfl
              rotate_left
              · simp only [Act.put, List.setIfInBounds_toArray, List.set_cons_zero, List.set_cons_succ, i64_w, i32_w]
                rfl
              refine pure_ (i := 3) (N := some 31) (v := ?_) (a' := ?_) (dnA 13 15) rfl rfl (any_of HT_.out (by kernel_rfl)) (fun _ _ _ h => h) (Or.inl ⟨by rfl, ?_⟩) ?_ ?_
              rotate_left
              · intro w'
                go_simp
                with_reducible rfl
              rotate_left
              · simp only [Act.put, List.setIfInBounds_toArray, List.set_cons_zero, List.set_cons_succ, i64_w, i32_w]
                rfl
              refine pure_ (i := 6) (N := some 34) (v := ?_) (a' := ?_) (dnA 13 79) rfl rfl (any_of HT_.out (by kernel_rfl)) (fun _ _ _ h => h) (Or.inl ⟨by rfl, ?_⟩) ?_ ?_
              rotate_left
              · intro w'
                go_simp
                with_reducible rfl
              rotate_left
              · simp only [Act.put, List.setIfInBounds_toArray, List.set_cons_zero, List.set_cons_succ, i64_w, i32_w]
                rfl
              refine pure_ (i := 7) (N := some 35) (v := ?_) (a' := ?_) (dnA 13 207) rfl rfl (any_of HT_.out (by kernel_rfl)) (fun _ _ _ h => h) (Or.inl ⟨by rfl, ?_⟩) ?_ ?_
              rotate_left
              · intro w'
                go_simp
                with_reducible rfl
              rotate_left
              · simp only [Act.put, List.setIfInBounds_toArray, List.set_cons_zero, List.set_cons_succ, i64_w, i32_w]
                rfl
              refine pure_ (i := 8) (N := some 36) (v := ?_) (a' := ?_) (dnA 13 463) rfl rfl (any_of HT_.out (by kernel_rfl)) (fun _ _ _ h => h) (Or.inl ⟨by rfl, ?_⟩) ?_ ?_
              rotate_left
              · intro w'
                go_simp
                with_reducible rfl
              rotate_left
              · simp only [Act.put, List.setIfInBounds_toArray, List.set_cons_zero, List.set_cons_succ, i64_w, i32_w]
                rfl
              refine pure_ (i := 9) (N := some 37) (v := ?_) (a' := ?_) (dnA 13 975) rfl rfl (any_of HT_.out (by kernel_rfl)) (fun _ _ _ h => h) (Or.inl ⟨by rfl, ?_⟩) ?_ ?_
              rotate_left
              · intro w'
                go_simp
                with_reducible rfl
              rotate_left
              · simp only [Act.put, List.setIfInBounds_toArray, List.set_cons_zero, List.set_cons_succ, i64_w, i32_w]
                rfl
              refine take_ (i := 4) (N := some 32) (v := ?_) (a' := ?_) (dnA 13 991) rfl rfl (take_ofW HT_.out HW_.out (by kernel_rfl)) (fun _ _ _ h => h) (Or.inl ⟨by rfl, ?_⟩) hHeld ?_ ?_
              rotate_left
              · rintro w' ⟨s0, s1, s2, s3, s4, s5⟩
                go_simp
                with_reducible rfl
              rotate_left
              · simp only [Act.put, List.setIfInBounds_toArray, List.set_cons_zero, List.set_cons_succ, i64_w, i32_w]
                rfl
              refine pure_ (i := 5) (N := some 33) (v := ?_) (a' := ?_) (dnA 13 1023) rfl rfl (any_of HT_.out (by kernel_rfl)) (fun _ _ _ h => h) (Or.inl ⟨by rfl, ?_⟩) ?_ ?_
              rotate_left
              · intro w'
                go_simp
                with_reducible rfl
              rotate_left
              · simp only [Act.put, List.setIfInBounds_toArray, List.set_cons_zero, List.set_cons_succ, i64_w, i32_w]
                rfl
              refine take_ (i := 10) (N := some 38) (v := ?_) (a' := ?_) (dnA 13 2047) rfl rfl (take_ofW HT_.out HW_.out (by kernel_rfl)) (fun _ _ _ h => h) (Or.inl ⟨by rfl, ?_⟩) hHeld ?_ ?_
              rotate_left
              · rintro w' ⟨s0, s1, s2, s3, s4, s5⟩
                go_simp
                with_reducible rfl
              rotate_left
              · simp only [Act.put, List.setIfInBounds_toArray, List.set_cons_zero, List.set_cons_succ, i64_w, i32_w]
                rfl
              refine pure_ (i := 11) (N := some 39) (v := ?_) (a' := ?_) (dnA 13 4095) rfl rfl (any_of HT_.out (by kernel_rfl)) (fun _ _ _ h => h) (Or.inl ⟨by rfl, ?_⟩) ?_ ?_
              rotate_left
              · intro w'
                go_simp
                with_reducible rfl
              rotate_left
              · simp only [Act.put, List.setIfInBounds_toArray, List.set_cons_zero, List.set_cons_succ, i64_w, i32_w]
                rfl
              refine pure_ (i := 12) (N := some 10) (v := ?_) (a' := ?_) (dnA 13 8191) rfl rfl (any_of HT_.out (by kernel_rfl)) (fun _ _ _ h => h) (Or.inl ⟨by rfl, ?_⟩) ?_ ?_
              rotate_left
              · intro w'
                go_simp
                with_reducible rfl
              rotate_left
              · simp only [Act.put, List.setIfInBounds_toArray, List.set_cons_zero, List.set_cons_succ, i64_w, i32_w]
                rfl
              refine done_ (done_of HT_.out (by kernel_rfl)) ?_
              try go_wp2
              go_roundg k2
              case measure => have := HK1.out; have := HK2.out; omega
              case rel => exact ⟨(x8_2), (wrap64 (x9_2 + 1)), (by first | rfl | (simp; done) | (simp [*]; done)), (by first | rfl | (simp; done) | (simp [*]; done)), H', ⟨by have := HK1.out; have := HK2.out; omega⟩, ⟨rA HO_6.out⟩, ⟨bA HB.out⟩⟩
            rw [if_pos c6] at H
            have c6b0 : decide (x7_1 < (wrap64 ((wrap64 (((rd_T79 l0 x9_2).f2) * 1048576)) + ((rd_T79 l0 x9_2).f0)))) = true := decide_eq_true c6
            clear c6
            by_cases c7 : x8_2 < 0
            · rw [if_pos c7] at H
              have c7b0 : decide (x8_2 < 0) = true := decide_eq_true c7
              clear c7
              have H' := Aside0.mk H
              clear H
              try go_wp2
              have n0_ := Aside0.mk (Kd.R_drew HO_6.out)
              have n1_ := Aside0.mk (below_drew1 HB.out)
              clear HO_6
              clear HB
              have HO_6 := n0_
              have HB := n1_
              clear n0_ n1_
              have p103 : 0 ≤ (x9_2 : Int) := of_decide_eq_true asA
              have q103 : x9_2 < (l0.length : Int) := of_decide_eq_true asA
              obtain ⟨ad103, e103, hx103_0, hx103_1, hx103_2⟩ := at_T79 HR0.out x9_2 p103 q103
              have hw103_2 := hx103_2
              have hw103_1 := hx103_1
              have hw103_0 := hx103_0
              cases e103
              replace hx103_0 := (HB.out.cell (World.block_lt_of_cell? w _ hx103_0)).trans hx103_0
              replace hx103_1 := (HB.out.cell (World.block_lt_of_cell? w _ hx103_1)).trans hx103_1
              replace hx103_2 := (HB.out.cell (World.block_lt_of_cell? w _ hx103_2)).trans hx103_2
              replace p103 := eq_true p103
              replace q103 := eq_true q103
              have p104 : 0 ≤ (x9_2 : Int) := of_decide_eq_true asA
              have q104 : x9_2 < (l0.length : Int) := of_decide_eq_true asA
              obtain ⟨ad104, e104, hx104_0, hx104_1, hx104_2⟩ := at_T79 HR0.out x9_2 p104 q104
              have hw104_2 := hx104_2
              have hw104_1 := hx104_1
              have hw104_0 := hx104_0
              obtain rfl : ad103 = ad104 := (by injection e104)
              replace hx104_0 := (HB.out.cell (World.block_lt_of_cell? w _ hx104_0)).trans hx104_0
              replace hx104_1 := (HB.out.cell (World.block_lt_of_cell? w _ hx104_1)).trans hx104_1
              replace hx104_2 := (HB.out.cell (World.block_lt_of_cell? w _ hx104_2)).trans hx104_2
              replace p104 := eq_true p104
              replace q104 := eq_true q104
              refine start_ (n := 13) (S := fun w' => w'.cell? (ad103.add ((x9_2).toNat * 3)) = some (.int .i64 ((rd_T79 l0 x9_2).f0)) ∧ w'.cell? ⟨(ad103.add ((x9_2).toNat * 3)).block, (ad103.add ((x9_2).toNat * 3)).off + 1, none⟩ = some (.int .u64 ((rd_T79 l0 x9_2).f1)) ∧ w'.cell? ⟨(ad103.add ((x9_2).toNat * 3)).block, (ad103.add ((x9_2).toNat * 3)).off + 2, none⟩ = some (.int .i64 ((rd_T79 l0 x9_2).f2)) ∧ w'.cell? (ad103.add ((x9_2).toNat * 3)) = some (.int .i64 ((rd_T79 l0 x9_2).f0)) ∧ w'.cell? ⟨(ad103.add ((x9_2).toNat * 3)).block, (ad103.add ((x9_2).toNat * 3)).off + 1, none⟩ = some (.int .u64 ((rd_T79 l0 x9_2).f1)) ∧ w'.cell? ⟨(ad103.add ((x9_2).toNat * 3)).block, (ad103.add ((x9_2).toNat * 3)).off + 2, none⟩ = some (.int .i64 ((rd_T79 l0 x9_2).f2))) (ds := []) (dnA 13 0) (by kernel_rfl) rfl rfl ⟨((HB.out.cell (World.block_lt_of_cell? w _ hw103_0)).trans hw103_0), ((HB.out.cell (World.block_lt_of_cell? w _ hw103_1)).trans hw103_1), ((HB.out.cell (World.block_lt_of_cell? w _ hw103_2)).trans hw103_2), ((HB.out.cell (World.block_lt_of_cell? w _ hw104_0)).trans hw104_0), ((HB.out.cell (World.block_lt_of_cell? w _ hw104_1)).trans hw104_1), ((HB.out.cell (World.block_lt_of_cell? w _ hw104_2)).trans hw104_2)⟩ (fun hHeld => ?_); refine with_tabW tenorref14_Net.tab10 tenorref14_Net.bits10 (fun HT_ HW_ => ?_)
              generalize wr.drew = w8 at HO_6 HB hx103_0 hx103_1 hx103_2 hx104_0 hx104_1 hx104_2 hHeld ⊢
              refine pure_ (i := 0) (N := some 28) (v := ?_) (a' := ?_) (dnA 13 1) rfl rfl (any_of HT_.out (by kernel_rfl)) (fun _ _ _ h => h) (Or.inl ⟨by rfl, ?_⟩) ?_ ?_
              rotate_left
              · intro w'
                go_simp
                with_reducible rfl
              rotate_left
              · simp only [Act.put, List.setIfInBounds_toArray, List.set_cons_zero, List.set_cons_succ, i64_w, i32_w]
                rfl
              refine pure_ (i := 1) (N := some 29) (v := ?_) (a' := ?_) (dnA 13 3) rfl rfl (any_of HT_.out (by kernel_rfl)) (fun _ _ _ h => h) (Or.inl ⟨by rfl, ?_⟩) ?_ ?_
              rotate_left
              · intro w'
                go_simp
                with_reducible rfl
              rotate_left
              · simp only [Act.put, List.setIfInBounds_toArray, List.set_cons_zero, List.set_cons_succ, i64_w, i32_w]
                rfl
              refine pure_ (i := 2) (N := some 30) (v := ?_) (a' := ?_) (dnA 13 7) rfl rfl (any_of HT_.out (by kernel_rfl)) (fun _ _ _ h => h) (Or.inl ⟨by rfl, ?_⟩) ?_ ?_
              rotate_left
              · intro w'
                go_simp
                with_reducible rfl
              rotate_left
              · simp only [Act.put, List.setIfInBounds_toArray, List.set_cons_zero, List.set_cons_succ, i64_w, i32_w]
                rfl
              refine pure_ (i := 3) (N := some 31) (v := ?_) (a' := ?_) (dnA 13 15) rfl rfl (any_of HT_.out (by kernel_rfl)) (fun _ _ _ h => h) (Or.inl ⟨by rfl, ?_⟩) ?_ ?_
              rotate_left
              · intro w'
                go_simp
                with_reducible rfl
              rotate_left
              · simp only [Act.put, List.setIfInBounds_toArray, List.set_cons_zero, List.set_cons_succ, i64_w, i32_w]
                rfl
              refine pure_ (i := 6) (N := some 34) (v := ?_) (a' := ?_) (dnA 13 79) rfl rfl (any_of HT_.out (by kernel_rfl)) (fun _ _ _ h => h) (Or.inl ⟨by rfl, ?_⟩) ?_ ?_
              rotate_left
              · intro w'
                go_simp
                with_reducible rfl
              rotate_left
              · simp only [Act.put, List.setIfInBounds_toArray, List.set_cons_zero, List.set_cons_succ, i64_w, i32_w]
                rfl
              refine pure_ (i := 7) (N := some 35) (v := ?_) (a' := ?_) (dnA 13 207) rfl rfl (any_of HT_.out (by kernel_rfl)) (fun _ _ _ h => h) (Or.inl ⟨by rfl, ?_⟩) ?_ ?_
              rotate_left
              · intro w'
                go_simp
                with_reducible rfl
              rotate_left
              · simp only [Act.put, List.setIfInBounds_toArray, List.set_cons_zero, List.set_cons_succ, i64_w, i32_w]
                rfl
              refine pure_ (i := 8) (N := some 36) (v := ?_) (a' := ?_) (dnA 13 463) rfl rfl (any_of HT_.out (by kernel_rfl)) (fun _ _ _ h => h) (Or.inl ⟨by rfl, ?_⟩) ?_ ?_
              rotate_left
              · intro w'
                go_simp
                with_reducible rfl
              rotate_left
              · simp only [Act.put, List.setIfInBounds_toArray, List.set_cons_zero, List.set_cons_succ, i64_w, i32_w]
                rfl
              refine pure_ (i := 9) (N := some 37) (v := ?_) (a' := ?_) (dnA 13 975) rfl rfl (any_of HT_.out (by kernel_rfl)) (fun _ _ _ h => h) (Or.inl ⟨by rfl, ?_⟩) ?_ ?_
              rotate_left
              · intro w'
                go_simp
                with_reducible rfl
              rotate_left
              · simp only [Act.put, List.setIfInBounds_toArray, List.set_cons_zero, List.set_cons_succ, i64_w, i32_w]
                rfl
              refine take_ (i := 4) (N := some 32) (v := ?_) (a' := ?_) (dnA 13 991) rfl rfl (take_ofW HT_.out HW_.out (by kernel_rfl)) (fun _ _ _ h => h) (Or.inl ⟨by rfl, ?_⟩) hHeld ?_ ?_
              rotate_left
              · rintro w' ⟨s0, s1, s2, s3, s4, s5⟩
                go_simp
                with_reducible rfl
              rotate_left
              · simp only [Act.put, List.setIfInBounds_toArray, List.set_cons_zero, List.set_cons_succ, i64_w, i32_w]
                rfl
              refine pure_ (i := 5) (N := some 33) (v := ?_) (a' := ?_) (dnA 13 1023) rfl rfl (any_of HT_.out (by kernel_rfl)) (fun _ _ _ h => h) (Or.inl ⟨by rfl, ?_⟩) ?_ ?_
              rotate_left
              · intro w'
                go_simp
                with_reducible rfl
              rotate_left
              · simp only [Act.put, List.setIfInBounds_toArray, List.set_cons_zero, List.set_cons_succ, i64_w, i32_w]
                rfl
              refine take_ (i := 10) (N := some 38) (v := ?_) (a' := ?_) (dnA 13 2047) rfl rfl (take_ofW HT_.out HW_.out (by kernel_rfl)) (fun _ _ _ h => h) (Or.inl ⟨by rfl, ?_⟩) hHeld ?_ ?_
              rotate_left
              · rintro w' ⟨s0, s1, s2, s3, s4, s5⟩
                go_simp
                with_reducible rfl
              rotate_left
              · simp only [Act.put, List.setIfInBounds_toArray, List.set_cons_zero, List.set_cons_succ, i64_w, i32_w]
                rfl
              refine pure_ (i := 11) (N := some 39) (v := ?_) (a' := ?_) (dnA 13 4095) rfl rfl (any_of HT_.out (by kernel_rfl)) (fun _ _ _ h => h) (Or.inl ⟨by rfl, ?_⟩) ?_ ?_
              rotate_left
              · intro w'
                go_simp
                with_reducible rfl
              rotate_left
              · simp only [Act.put, List.setIfInBounds_toArray, List.set_cons_zero, List.set_cons_succ, i64_w, i32_w]
                rfl
              refine pure_ (i := 12) (N := some 10) (v := ?_) (a' := ?_) (dnA 13 8191) rfl rfl (any_of HT_.out (by kernel_rfl)) (fun _ _ _ h => h) (Or.inl ⟨by rfl, ?_⟩) ?_ ?_
              rotate_left
              · intro w'
                go_simp
                with_reducible rfl
              rotate_left
              · simp only [Act.put, List.setIfInBounds_toArray, List.set_cons_zero, List.set_cons_succ, i64_w, i32_w]
                rfl
              refine done_ (done_of HT_.out (by kernel_rfl)) ?_
              try go_wp2
              go_roundg k2
              case measure => have := HK1.out; have := HK2.out; omega
              case rel => exact ⟨(wrap64 ((wrap64 (((rd_T79 l0 x9_2).f2) * 1048576)) + ((rd_T79 l0 x9_2).f0))), (wrap64 (x9_2 + 1)), (by first | rfl | (simp; done) | (simp [*]; done)), (by first | rfl | (simp; done) | (simp [*]; done)), H', ⟨by have := HK1.out; have := HK2.out; omega⟩, ⟨rA HO_6.out⟩, ⟨bA HB.out⟩⟩
            rw [if_neg c7] at H
            have c7b0 : decide (x8_2 < 0) = false := decide_eq_false c7
            clear c7
            by_cases c9 : (wrap64 ((wrap64 (((rd_T79 l0 x9_2).f2) * 1048576)) + ((rd_T79 l0 x9_2).f0))) < x8_2
            rotate_left
            · rw [if_neg c9] at H
              have c9b0 : decide ((wrap64 ((wrap64 (((rd_T79 l0 x9_2).f2) * 1048576)) + ((rd_T79 l0 x9_2).f0))) < x8_2) = false := decide_eq_false c9
              clear c9
              have H' := Aside0.mk H
              clear H
              try go_wp2
              have n0_ := Aside0.mk (Kd.R_drew HO_6.out)
              have n1_ := Aside0.mk (below_drew1 HB.out)
              clear HO_6
              clear HB
              have HO_6 := n0_
              have HB := n1_
              clear n0_ n1_
              have p103 : 0 ≤ (x9_2 : Int) := of_decide_eq_true asA
              have q103 : x9_2 < (l0.length : Int) := of_decide_eq_true asA
              obtain ⟨ad103, e103, hx103_0, hx103_1, hx103_2⟩ := at_T79 HR0.out x9_2 p103 q103
              have hw103_2 := hx103_2
              have hw103_1 := hx103_1
              have hw103_0 := hx103_0
              cases e103
              replace hx103_0 := (HB.out.cell (World.block_lt_of_cell? w _ hx103_0)).trans hx103_0
              replace hx103_1 := (HB.out.cell (World.block_lt_of_cell? w _ hx103_1)).trans hx103_1
              replace hx103_2 := (HB.out.cell (World.block_lt_of_cell? w _ hx103_2)).trans hx103_2
              replace p103 := eq_true p103
              replace q103 := eq_true q103
              have p104 : 0 ≤ (x9_2 : Int) := of_decide_eq_true asA
              have q104 : x9_2 < (l0.length : Int) := of_decide_eq_true asA
              obtain ⟨ad104, e104, hx104_0, hx104_1, hx104_2⟩ := at_T79 HR0.out x9_2 p104 q104
              have hw104_2 := hx104_2
              have hw104_1 := hx104_1
              have hw104_0 := hx104_0
              obtain rfl : ad103 = ad104 := (by injection e104)
              replace hx104_0 := (HB.out.cell (World.block_lt_of_cell? w _ hx104_0)).trans hx104_0
              replace hx104_1 := (HB.out.cell (World.block_lt_of_cell? w _ hx104_1)).trans hx104_1
              replace hx104_2 := (HB.out.cell (World.block_lt_of_cell? w _ hx104_2)).trans hx104_2
              replace p104 := eq_true p104
              replace q104 := eq_true q104
              refine start_ (n := 13) (S := fun w' => w'.cell? (ad103.add ((x9_2).toNat * 3)) = some (.int .i64 ((rd_T79 l0 x9_2).f0)) ∧ w'.cell? ⟨(ad103.add ((x9_2).toNat * 3)).block, (ad103.add ((x9_2).toNat * 3)).off + 1, none⟩ = some (.int .u64 ((rd_T79 l0 x9_2).f1)) ∧ w'.cell? ⟨(ad103.add ((x9_2).toNat * 3)).block, (ad103.add ((x9_2).toNat * 3)).off + 2, none⟩ = some (.int .i64 ((rd_T79 l0 x9_2).f2)) ∧ w'.cell? (ad103.add ((x9_2).toNat * 3)) = some (.int .i64 ((rd_T79 l0 x9_2).f0)) ∧ w'.cell? ⟨(ad103.add ((x9_2).toNat * 3)).block, (ad103.add ((x9_2).toNat * 3)).off + 1, none⟩ = some (.int .u64 ((rd_T79 l0 x9_2).f1)) ∧ w'.cell? ⟨(ad103.add ((x9_2).toNat * 3)).block, (ad103.add ((x9_2).toNat * 3)).off + 2, none⟩ = some (.int .i64 ((rd_T79 l0 x9_2).f2))) (ds := []) (dnA 13 0) (by kernel_rfl) rfl rfl ⟨((HB.out.cell (World.block_lt_of_cell? w _ hw103_0)).trans hw103_0), ((HB.out.cell (World.block_lt_of_cell? w _ hw103_1)).trans hw103_1), ((HB.out.cell (World.block_lt_of_cell? w _ hw103_2)).trans hw103_2), ((HB.out.cell (World.block_lt_of_cell? w _ hw104_0)).trans hw104_0), ((HB.out.cell (World.block_lt_of_cell? w _ hw104_1)).trans hw104_1), ((HB.out.cell (World.block_lt_of_cell? w _ hw104_2)).trans hw104_2)⟩ (fun hHeld => ?_); refine with_tabW tenorref14_Net.tab10 tenorref14_Net.bits10 (fun HT_ HW_ => ?_)
              generalize wr.drew = w11 at HO_6 HB hx103_0 hx103_1 hx103_2 hx104_0 hx104_1 hx104_2 hHeld ⊢
              refine pure_ (i := 0) (N := some 28) (v := ?_) (a' := ?_) (dnA 13 1) rfl rfl (any_of HT_.out (by kernel_rfl)) (fun _ _ _ h => h) (Or.inl ⟨by rfl, ?_⟩) ?_ ?_
              rotate_left
              · intro w'
                go_simp
                with_reducible rfl
              rotate_left
              · simp only [Act.put, List.setIfInBounds_toArray, List.set_cons_zero, List.set_cons_succ, i64_w, i32_w]
                rfl
              refine pure_ (i := 1) (N := some 29) (v := ?_) (a' := ?_) (dnA 13 3) rfl rfl (any_of HT_.out (by kernel_rfl)) (fun _ _ _ h => h) (Or.inl ⟨by rfl, ?_⟩) ?_ ?_
              rotate_left
              · intro w'
                go_simp
                with_reducible rfl
              rotate_left
              · simp only [Act.put, List.setIfInBounds_toArray, List.set_cons_zero, List.set_cons_succ, i64_w, i32_w]
                rfl
              refine pure_ (i := 2) (N := some 30) (v := ?_) (a' := ?_) (dnA 13 7) rfl rfl (any_of HT_.out (by kernel_rfl)) (fun _ _ _ h => h) (Or.inl ⟨by rfl, ?_⟩) ?_ ?_
              rotate_left
              · intro w'
                go_simp
                with_reducible rfl
              rotate_left
              · simp only [Act.put, List.setIfInBounds_toArray, List.set_cons_zero, List.set_cons_succ, i64_w, i32_w]
                rfl
              refine pure_ (i := 3) (N := some 31) (v := ?_) (a' := ?_) (dnA 13 15) rfl rfl (any_of HT_.out (by kernel_rfl)) (fun _ _ _ h => h) (Or.inl ⟨by rfl, ?_⟩) ?_ ?_
              rotate_left
              · intro w'
                go_simp
                with_reducible rfl
              rotate_left
              · simp only [Act.put, List.setIfInBounds_toArray, List.set_cons_zero, List.set_cons_succ, i64_w, i32_w]
                rfl
              refine pure_ (i := 6) (N := some 34) (v := ?_) (a' := ?_) (dnA 13 79) rfl rfl (any_of HT_.out (by kernel_rfl)) (fun _ _ _ h => h) (Or.inl ⟨by rfl, ?_⟩) ?_ ?_
              rotate_left
              · intro w'
                go_simp
                with_reducible rfl
              rotate_left
              · simp only [Act.put, List.setIfInBounds_toArray, List.set_cons_zero, List.set_cons_succ, i64_w, i32_w]
                rfl
              refine pure_ (i := 7) (N := some 35) (v := ?_) (a' := ?_) (dnA 13 207) rfl rfl (any_of HT_.out (by kernel_rfl)) (fun _ _ _ h => h) (Or.inl ⟨by rfl, ?_⟩) ?_ ?_
              rotate_left
              · intro w'
                go_simp
                with_reducible rfl
              rotate_left
              · simp only [Act.put, List.setIfInBounds_toArray, List.set_cons_zero, List.set_cons_succ, i64_w, i32_w]
                rfl
              refine pure_ (i := 8) (N := some 36) (v := ?_) (a' := ?_) (dnA 13 463) rfl rfl (any_of HT_.out (by kernel_rfl)) (fun _ _ _ h => h) (Or.inl ⟨by rfl, ?_⟩) ?_ ?_
              rotate_left
              · intro w'
                go_simp
                with_reducible rfl
              rotate_left
              · simp only [Act.put, List.setIfInBounds_toArray, List.set_cons_zero, List.set_cons_succ, i64_w, i32_w]
                rfl
              refine pure_ (i := 9) (N := some 37) (v := ?_) (a' := ?_) (dnA 13 975) rfl rfl (any_of HT_.out (by kernel_rfl)) (fun _ _ _ h => h) (Or.inl ⟨by rfl, ?_⟩) ?_ ?_
              rotate_left
              · intro w'
                go_simp
                with_reducible rfl
              rotate_left
              · simp only [Act.put, List.setIfInBounds_toArray, List.set_cons_zero, List.set_cons_succ, i64_w, i32_w]
                rfl
              refine take_ (i := 4) (N := some 32) (v := ?_) (a' := ?_) (dnA 13 991) rfl rfl (take_ofW HT_.out HW_.out (by kernel_rfl)) (fun _ _ _ h => h) (Or.inl ⟨by rfl, ?_⟩) hHeld ?_ ?_
              rotate_left
              · rintro w' ⟨s0, s1, s2, s3, s4, s5⟩
                go_simp
                with_reducible rfl
              rotate_left
              · simp only [Act.put, List.setIfInBounds_toArray, List.set_cons_zero, List.set_cons_succ, i64_w, i32_w]
                rfl
              refine pure_ (i := 5) (N := some 33) (v := ?_) (a' := ?_) (dnA 13 1023) rfl rfl (any_of HT_.out (by kernel_rfl)) (fun _ _ _ h => h) (Or.inl ⟨by rfl, ?_⟩) ?_ ?_
              rotate_left
              · intro w'
                go_simp
                with_reducible rfl
              rotate_left
              · simp only [Act.put, List.setIfInBounds_toArray, List.set_cons_zero, List.set_cons_succ, i64_w, i32_w]
                rfl
              refine take_ (i := 10) (N := some 38) (v := ?_) (a' := ?_) (dnA 13 2047) rfl rfl (take_ofW HT_.out HW_.out (by kernel_rfl)) (fun _ _ _ h => h) (Or.inl ⟨by rfl, ?_⟩) hHeld ?_ ?_
              rotate_left
              · rintro w' ⟨s0, s1, s2, s3, s4, s5⟩
                go_simp
                with_reducible rfl
              rotate_left
              · simp only [Act.put, List.setIfInBounds_toArray, List.set_cons_zero, List.set_cons_succ, i64_w, i32_w]
                rfl
              refine pure_ (i := 11) (N := some 39) (v := ?_) (a' := ?_) (dnA 13 4095) rfl rfl (any_of HT_.out (by kernel_rfl)) (fun _ _ _ h => h) (Or.inl ⟨by rfl, ?_⟩) ?_ ?_
              rotate_left
              · intro w'
                go_simp
                with_reducible rfl
              rotate_left
              · simp only [Act.put, List.setIfInBounds_toArray, List.set_cons_zero, List.set_cons_succ, i64_w, i32_w]
                rfl
              refine pure_ (i := 12) (N := some 10) (v := ?_) (a' := ?_) (dnA 13 8191) rfl rfl (any_of HT_.out (by kernel_rfl)) (fun _ _ _ h => h) (Or.inl ⟨by rfl, ?_⟩) ?_ ?_
              rotate_left
              · intro w'
                go_simp
                with_reducible rfl
              rotate_left
              · simp only [Act.put, List.setIfInBounds_toArray, List.set_cons_zero, List.set_cons_succ, i64_w, i32_w]
                rfl
              refine done_ (done_of HT_.out (by kernel_rfl)) ?_
              try go_wp2
              go_roundg k2
              case measure => have := HK1.out; have := HK2.out; omega
              case rel => exact ⟨(x8_2), (wrap64 (x9_2 + 1)), (by first | rfl | (simp; done) | (simp [*]; done)), (by first | rfl | (simp; done) | (simp [*]; done)), H', ⟨by have := HK1.out; have := HK2.out; omega⟩, ⟨rA HO_6.out⟩, ⟨bA HB.out⟩⟩
            rw [if_pos c9] at H
            have c9b0 : decide ((wrap64 ((wrap64 (((rd_T79 l0 x9_2).f2) * 1048576)) + ((rd_T79 l0 x9_2).f0))) < x8_2) = true := decide_eq_true c9
            clear c9
            have H' := Aside0.mk H
            clear H
            try go_wp2
            have n0_ := Aside0.mk (Kd.R_drew HO_6.out)
            have n1_ := Aside0.mk (below_drew1 HB.out)
            clear HO_6
            clear HB
            have HO_6 := n0_
            have HB := n1_
            clear n0_ n1_
            have p103 : 0 ≤ (x9_2 : Int) := of_decide_eq_true asA
            have q103 : x9_2 < (l0.length : Int) := of_decide_eq_true asA
            obtain ⟨ad103, e103, hx103_0, hx103_1, hx103_2⟩ := at_T79 HR0.out x9_2 p103 q103
            have hw103_2 := hx103_2
            have hw103_1 := hx103_1
            have hw103_0 := hx103_0
            cases e103
            replace hx103_0 := (HB.out.cell (World.block_lt_of_cell? w _ hx103_0)).trans hx103_0
            replace hx103_1 := (HB.out.cell (World.block_lt_of_cell? w _ hx103_1)).trans hx103_1
            replace hx103_2 := (HB.out.cell (World.block_lt_of_cell? w _ hx103_2)).trans hx103_2
            replace p103 := eq_true p103
            replace q103 := eq_true q103
            have p104 : 0 ≤ (x9_2 : Int) := of_decide_eq_true asA
            have q104 : x9_2 < (l0.length : Int) := of_decide_eq_true asA
            obtain ⟨ad104, e104, hx104_0, hx104_1, hx104_2⟩ := at_T79 HR0.out x9_2 p104 q104
            have hw104_2 := hx104_2
            have hw104_1 := hx104_1
            have hw104_0 := hx104_0
            obtain rfl : ad103 = ad104 := (by injection e104)
            replace hx104_0 := (HB.out.cell (World.block_lt_of_cell? w _ hx104_0)).trans hx104_0
            replace hx104_1 := (HB.out.cell (World.block_lt_of_cell? w _ hx104_1)).trans hx104_1
            replace hx104_2 := (HB.out.cell (World.block_lt_of_cell? w _ hx104_2)).trans hx104_2
            replace p104 := eq_true p104
            replace q104 := eq_true q104
            refine start_ (n := 13) (S := fun w' => w'.cell? (ad103.add ((x9_2).toNat * 3)) = some (.int .i64 ((rd_T79 l0 x9_2).f0)) ∧ w'.cell? ⟨(ad103.add ((x9_2).toNat * 3)).block, (ad103.add ((x9_2).toNat * 3)).off + 1, none⟩ = some (.int .u64 ((rd_T79 l0 x9_2).f1)) ∧ w'.cell? ⟨(ad103.add ((x9_2).toNat * 3)).block, (ad103.add ((x9_2).toNat * 3)).off + 2, none⟩ = some (.int .i64 ((rd_T79 l0 x9_2).f2)) ∧ w'.cell? (ad103.add ((x9_2).toNat * 3)) = some (.int .i64 ((rd_T79 l0 x9_2).f0)) ∧ w'.cell? ⟨(ad103.add ((x9_2).toNat * 3)).block, (ad103.add ((x9_2).toNat * 3)).off + 1, none⟩ = some (.int .u64 ((rd_T79 l0 x9_2).f1)) ∧ w'.cell? ⟨(ad103.add ((x9_2).toNat * 3)).block, (ad103.add ((x9_2).toNat * 3)).off + 2, none⟩ = some (.int .i64 ((rd_T79 l0 x9_2).f2))) (ds := []) (dnA 13 0) (by kernel_rfl) rfl rfl ⟨((HB.out.cell (World.block_lt_of_cell? w _ hw103_0)).trans hw103_0), ((HB.out.cell (World.block_lt_of_cell? w _ hw103_1)).trans hw103_1), ((HB.out.cell (World.block_lt_of_cell? w _ hw103_2)).trans hw103_2), ((HB.out.cell (World.block_lt_of_cell? w _ hw104_0)).trans hw104_0), ((HB.out.cell (World.block_lt_of_cell? w _ hw104_1)).trans hw104_1), ((HB.out.cell (World.block_lt_of_cell? w _ hw104_2)).trans hw104_2)⟩ (fun hHeld => ?_); refine with_tabW tenorref14_Net.tab10 tenorref14_Net.bits10 (fun HT_ HW_ => ?_)
            generalize wr.drew = w10 at HO_6 HB hx103_0 hx103_1 hx103_2 hx104_0 hx104_1 hx104_2 hHeld ⊢
            refine pure_ (i := 0) (N := some 28) (v := ?_) (a' := ?_) (dnA 13 1) rfl rfl (any_of HT_.out (by kernel_rfl)) (fun _ _ _ h => h) (Or.inl ⟨by rfl, ?_⟩) ?_ ?_
            rotate_left
            · intro w'
              go_simp
              with_reducible rfl
            rotate_left
            · simp only [Act.put, List.setIfInBounds_toArray, List.set_cons_zero, List.set_cons_succ, i64_w, i32_w]
              rfl
            refine pure_ (i := 1) (N := some 29) (v := ?_) (a' := ?_) (dnA 13 3) rfl rfl (any_of HT_.out (by kernel_rfl)) (fun _ _ _ h => h) (Or.inl ⟨by rfl, ?_⟩) ?_ ?_
            rotate_left
            · intro w'
              go_simp
              with_reducible rfl
            rotate_left
            · simp only [Act.put, List.setIfInBounds_toArray, List.set_cons_zero, List.set_cons_succ, i64_w, i32_w]
              rfl
            refine pure_ (i := 2) (N := some 30) (v := ?_) (a' := ?_) (dnA 13 7) rfl rfl (any_of HT_.out (by kernel_rfl)) (fun _ _ _ h => h) (Or.inl ⟨by rfl, ?_⟩) ?_ ?_
            rotate_left
            · intro w'
              go_simp
              with_reducible rfl
            rotate_left
            · simp only [Act.put, List.setIfInBounds_toArray, List.set_cons_zero, List.set_cons_succ, i64_w, i32_w]
              rfl
            refine pure_ (i := 3) (N := some 31) (v := ?_) (a' := ?_) (dnA 13 15) rfl rfl (any_of HT_.out (by kernel_rfl)) (fun _ _ _ h => h) (Or.inl ⟨by rfl, ?_⟩) ?_ ?_
            rotate_left
            · intro w'
              go_simp
              with_reducible rfl
            rotate_left
            · simp only [Act.put, List.setIfInBounds_toArray, List.set_cons_zero, List.set_cons_succ, i64_w, i32_w]
              rfl
            refine pure_ (i := 6) (N := some 34) (v := ?_) (a' := ?_) (dnA 13 79) rfl rfl (any_of HT_.out (by kernel_rfl)) (fun _ _ _ h => h) (Or.inl ⟨by rfl, ?_⟩) ?_ ?_
            rotate_left
            · intro w'
              go_simp
              with_reducible rfl
            rotate_left
            · simp only [Act.put, List.setIfInBounds_toArray, List.set_cons_zero, List.set_cons_succ, i64_w, i32_w]
              rfl
            refine pure_ (i := 7) (N := some 35) (v := ?_) (a' := ?_) (dnA 13 207) rfl rfl (any_of HT_.out (by kernel_rfl)) (fun _ _ _ h => h) (Or.inl ⟨by rfl, ?_⟩) ?_ ?_
            rotate_left
            · intro w'
              go_simp
              with_reducible rfl
            rotate_left
            · simp only [Act.put, List.setIfInBounds_toArray, List.set_cons_zero, List.set_cons_succ, i64_w, i32_w]
              rfl
            refine pure_ (i := 8) (N := some 36) (v := ?_) (a' := ?_) (dnA 13 463) rfl rfl (any_of HT_.out (by kernel_rfl)) (fun _ _ _ h => h) (Or.inl ⟨by rfl, ?_⟩) ?_ ?_
            rotate_left
            · intro w'
              go_simp
              with_reducible rfl
            rotate_left
            · simp only [Act.put, List.setIfInBounds_toArray, List.set_cons_zero, List.set_cons_succ, i64_w, i32_w]
              rfl
            refine pure_ (i := 9) (N := some 37) (v := ?_) (a' := ?_) (dnA 13 975) rfl rfl (any_of HT_.out (by kernel_rfl)) (fun _ _ _ h => h) (Or.inl ⟨by rfl, ?_⟩) ?_ ?_
            rotate_left
            · intro w'
              go_simp
              with_reducible rfl
            rotate_left
            · simp only [Act.put, List.setIfInBounds_toArray, List.set_cons_zero, List.set_cons_succ, i64_w, i32_w]
              rfl
            refine take_ (i := 4) (N := some 32) (v := ?_) (a' := ?_) (dnA 13 991) rfl rfl (take_ofW HT_.out HW_.out (by kernel_rfl)) (fun _ _ _ h => h) (Or.inl ⟨by rfl, ?_⟩) hHeld ?_ ?_
            rotate_left
            · rintro w' ⟨s0, s1, s2, s3, s4, s5⟩
              go_simp
              with_reducible rfl
            rotate_left
            · simp only [Act.put, List.setIfInBounds_toArray, List.set_cons_zero, List.set_cons_succ, i64_w, i32_w]
              rfl
            refine pure_ (i := 5) (N := some 33) (v := ?_) (a' := ?_) (dnA 13 1023) rfl rfl (any_of HT_.out (by kernel_rfl)) (fun _ _ _ h => h) (Or.inl ⟨by rfl, ?_⟩) ?_ ?_
            rotate_left
            · intro w'
              go_simp
              with_reducible rfl
            rotate_left
            · simp only [Act.put, List.setIfInBounds_toArray, List.set_cons_zero, List.set_cons_succ, i64_w, i32_w]
              rfl
            refine take_ (i := 10) (N := some 38) (v := ?_) (a' := ?_) (dnA 13 2047) rfl rfl (take_ofW HT_.out HW_.out (by kernel_rfl)) (fun _ _ _ h => h) (Or.inl ⟨by rfl, ?_⟩) hHeld ?_ ?_
            rotate_left
            · rintro w' ⟨s0, s1, s2, s3, s4, s5⟩
              go_simp
              with_reducible rfl
            rotate_left
            · simp only [Act.put, List.setIfInBounds_toArray, List.set_cons_zero, List.set_cons_succ, i64_w, i32_w]
              rfl
            refine pure_ (i := 11) (N := some 39) (v := ?_) (a' := ?_) (dnA 13 4095) rfl rfl (any_of HT_.out (by kernel_rfl)) (fun _ _ _ h => h) (Or.inl ⟨by rfl, ?_⟩) ?_ ?_
            rotate_left
            · intro w'
              go_simp
              with_reducible rfl
            rotate_left
            · simp only [Act.put, List.setIfInBounds_toArray, List.set_cons_zero, List.set_cons_succ, i64_w, i32_w]
              rfl
            refine pure_ (i := 12) (N := some 10) (v := ?_) (a' := ?_) (dnA 13 8191) rfl rfl (any_of HT_.out (by kernel_rfl)) (fun _ _ _ h => h) (Or.inl ⟨by rfl, ?_⟩) ?_ ?_
            rotate_left
            · intro w'
              go_simp
              with_reducible rfl
            rotate_left
            · simp only [Act.put, List.setIfInBounds_toArray, List.set_cons_zero, List.set_cons_succ, i64_w, i32_w]
              rfl
            refine done_ (done_of HT_.out (by kernel_rfl)) ?_
            try go_wp2
            go_roundg k2
            case measure => have := HK1.out; have := HK2.out; omega
            case rel => exact ⟨(wrap64 ((wrap64 (((rd_T79 l0 x9_2).f2) * 1048576)) + ((rd_T79 l0 x9_2).f0))), (wrap64 (x9_2 + 1)), (by first | rfl | (simp; done) | (simp [*]; done)), (by first | rfl | (simp; done) | (simp [*]; done)), H', ⟨by have := HK1.out; have := HK2.out; omega⟩, ⟨rA HO_6.out⟩, ⟨bA HB.out⟩⟩
          rw [if_neg c4] at H
          have c4b0 : decide (x9_2 < (l0.length : Int)) = false := decide_eq_false c4
          clear c4
          by_cases c13 : x8_2 < 0
          · rw [if_pos c13] at H
            have c13b0 : decide (x8_2 < 0) = true := decide_eq_true c13
            clear c13
            simp only [Option.some.injEq, Prod.mk.injEq] at H
            obtain ⟨rfl, rfl⟩ := H
            go_wp2
            go_ret2
            exact ⟨_, by first | rfl | (simp [errW_none, errW_some] <;> rfl) | (simp [*, errW_none, errW_some] <;> rfl), by (with_reducible repeat (first | apply Kd.R_alloc | apply Kd.R_drewN | apply Kd.R_drew)); exact HO_6.out, bA HB.out⟩
          rw [if_neg c13] at H
          have c13b0 : decide (x8_2 < 0) = false := decide_eq_false c13
          clear c13
          have H' := Aside0.mk H
          clear H
          go_wp2_with (first | ((with_reducible refine gate_dst (N := 11) rfl ?_); refine box_event ?hg (N := 11) ?hd (cs := #[.int .i64 0, .bool false, .slice none 0 0, .int .i64 0]) (t := 84) ?hr ?_; (case hd => rfl); (case hg => rfl); (case hr => first | (go_simp; done) | (go_simp; rfl)); intro gb105 hg w14 hbox hb; have n0_ := Aside0.mk (Kd.R_below (rA HO_6.out) hb); have n1_ := Aside0.mk (below_step (bA HB.out) hb); have n2_ := Aside0.mk (hbox); have n3_ := Aside0.mk ((by rw [hg]; exact (below_size (bA HB.out)) : w.heap.size ≤ gb105)); have n4_ := Aside0.mk ((by rw [hg]; exact (below_size (bA HB.out)) : w.heap.size ≤ gb105)); clear HO_6; clear HB; have HO_6 := n0_; have HB := n1_; have BK105 := n2_; have GW105 := n3_; have GE105 := n4_; clear n0_ n1_ n2_ n3_ n4_; clear hb hbox hg))
          go_loopg [12] k2 (fun kq v12 w' => ∃ (x12_3 : Int) (x106000_3 : Int) (x106001_3 : Bool) (x106002_3 : List Int) (x106003_3 : Int) (u106002 : Value), v12 = .int .i64 x12_3 ∧ Aside0 (tenorref14_Net.l2 kq l0 x6_1 x8_2 x12_3 x106000_3 x106001_3 x106002_3 x106003_3 = some (r1, r2)) ∧ Aside0 (kq ≤ k2) ∧ Aside0 (Kd.R k79 79 w' w.heap.size (fun _ => True) u6 x6_1) ∧ Aside0 (Kd.R (Kd.int .u64) 36 w' w.heap.size (fun _ => True) u106002 x106002_3) ∧ Aside0 (w'.heap[gb105]? = some (.cells #[.int .i64 x106000_3, .bool x106001_3, u106002, .int .i64 x106003_3] 84 (0, 0))) ∧ Aside0 (Below w.heap.size w w'))
          case atStart => exact ⟨(0), (0), (false), (([] : List Int)), (0), (.slice none 0 0), (by first | rfl | (simp; done) | (simp [*]; done)), H', ⟨Nat.le_refl _⟩, ⟨rA HO_6.out⟩, ⟨by first | exact Kd.R_nil _ _ _ _ _ | exact Kd.N_nil _ _ _ _ _ | exact Kd.V_nil _ _ _ _ _ | exact Kd.Q_nil _ _ _ _ _ | exact Kd.S_nil _ _ _ _ _⟩, ⟨kA BK105.out⟩, ⟨bG HB.out⟩⟩
          case round =>
            clear H'
            try clear c1
            try clear p1
            try clear q1
            try clear hx1
            try clear p2
            try clear c4
            try clear c4b0
            try clear c5
            try clear c6
            try clear c6b0
            try clear p6
            try clear c7
            try clear c7b0
            try clear c9
            try clear c9b0
            try clear p10
            try clear q10
            try clear hx10
            try clear c13
            try clear c13b0
            try clear hx103_0
            try clear hx103_1
            try clear hx103_2
            try clear hx104_0
            try clear hx104_1
            try clear hx104_2
            try clear p103
            try clear p104
            try clear q103
            try clear q104
            obtain ⟨x12_3, x106000_3, x106001_3, x106002_3, x106003_3, u106002, rfl, HA, HK3, HO_6, HO_106002, BK105, HB⟩ := hrel
            cases gk with
            | zero => exact absurd HA.out (by simp [tenorref14_Net.l2])
            | succ k3 =>
              have H := HA.out
              clear HA
              simp only [tenorref14_Net.l2] at H
              by_cases c15 : x12_3 < (l0.length : Int)
              rotate_left
              · rw [if_neg c15] at H
                have c15b0 : decide (x12_3 < (l0.length : Int)) = false := decide_eq_false c15
                clear c15
                replace H := Option.bind_eq_some_iff.mp H
                obtain ⟨t115, A290, H⟩ := H
                have A29 := Aside0.mk A290
                clear A290
                replace H := Option.bind_eq_some_iff.mp H
                obtain ⟨t116, A300, H⟩ := H
                have A30 := Aside0.mk A300
                clear A300
                by_cases c31 : t116 = true
                rotate_left
                · replace c31 := Bool.eq_false_iff.mpr c31
                  subst c31
                  have H1 : (some (([] : List (S79)), 91)) = some (r1, r2) := by rw [if_neg (show ¬ (false = true) by decide)] at H; exact H
                  clear H
                  have H := H1
                  clear H1
                  simp only [Option.some.injEq, Prod.mk.injEq] at H
                  obtain ⟨rfl, rfl⟩ := H
                  have hcz37_0 : wr.cell? ⟨gb105, 0, none⟩ = some (.int .i64 x106000_3) := (blk_cell BK105.out 0).trans rfl
                  have hcz37_1 : wr.cell? ⟨gb105, 1, none⟩ = some (.bool x106001_3) := (blk_cell BK105.out 1).trans rfl
                  have hcz37_2 : wr.cell? ⟨gb105, 2, none⟩ = some (u106002) := (blk_cell BK105.out 2).trans rfl
                  have hcz37_3 : wr.cell? ⟨gb105, 3, none⟩ = some (.int .i64 x106003_3) := (blk_cell BK105.out 3).trans rfl
                  have hfz37_0 := blk_frozen BK105.out 0
                  have hfz37_1 := blk_frozen BK105.out 1
                  have hfz37_2 := blk_frozen BK105.out 2
                  have hfz37_3 := blk_frozen BK105.out 3
                  obtain ⟨Ao38, co38, eo38⟩ := Kd.R_slice HO_106002.out
                  subst eo38
                  go_wp2_with (first | ((with_reducible refine gate_callee (f := 41) rfl ?_); refine goesL_ (some 84) rfl rfl Tryz.func41 (by kernel_rfl) rfl #[.agg #[.int .i64 x106000_3, .bool x106001_3, .slice Ao38 x106002_3.length co38, .int .i64 x106003_3]] rfl mA ?_; (with_reducible refine (tenorref3_Value.calls k3 x106000_3 x106001_3 _ _ x106002_3 x106003_3 t115 _ ?side1 ?side2 A29.out).mono ?_); (case side1 => exact cA ((Kd.R_reads' HO_106002.out).2.2)); (case side2 => exact (Kd.R_reads' HO_106002.out).2.1); rintro e w39 ⟨rfl, hb⟩; refine ⟨_, rfl, ?_⟩; have n0_ := Aside0.mk (Kd.R_below (rA HO_6.out) hb); have n1_ := Aside0.mk (Kd.R_below (rA HO_106002.out) hb); have n2_ := Aside0.mk (blk_below (g := gb105) (o := .cells #[.int .i64 x106000_3, .bool x106001_3, .slice Ao38 x106002_3.length co38, .int .i64 x106003_3] 84 (0, 0)) (kA BK105.out) hb); have n3_ := Aside0.mk (below_step (bG HB.out) hb); clear HO_6; clear HO_106002; clear BK105; clear HB; have HO_6 := n0_; have HO_106002 := n1_; have BK105 := n2_; have HB := n3_; clear n0_ n1_ n2_ n3_; (try clear hb); (try clear hb2); (try clear hk); (try clear hi)) | ((with_reducible refine gate_callee (f := 42) rfl ?_); refine goesL_ (some 86) rfl rfl Tryz.func42 (by kernel_rfl) rfl #[.int .u64 t115] rfl mA ?_; (with_reducible refine (tenorref1_Number.calls t115 false _ A30.out).mono ?_); rintro e w' ⟨rfl, ⟨nd, rfl⟩⟩; refine ⟨_, rfl, ?_⟩))
                  go_ret2
                  exact ⟨_, by first | rfl | (simp [errW_none, errW_some] <;> rfl) | (simp [*, errW_none, errW_some] <;> rfl), by first | exact Kd.R_nil _ _ _ _ _ | exact Kd.N_nil _ _ _ _ _ | exact Kd.V_nil _ _ _ _ _ | exact Kd.Q_nil _ _ _ _ _ | exact Kd.S_nil _ _ _ _ _, bG HB.out⟩
                subst c31
                have H1 : (if x6_1.length < 5864062014805 then (tenorref14_Net.l0 k3 l0 (x6_1 ++ [(⟨Int.tmod x8_2 1048576, t115, x8_2 / 1048576⟩ : S79)]) x8_2) else (none)) = some (r1, r2) := by rw [if_pos rfl] at H; exact H
                clear H
                have H := H1
                clear H1
                by_cases c32 : x6_1.length < 5864062014805
                rotate_left
                · rw [if_neg c32] at H
                  exact absurd H (by simp)
                rw [if_pos c32] at H
                have LMc32 := Aside0.mk c32
                clear c32
                obtain ⟨y117, hy117⟩ : ∃ y_ : List (S79), y_ = (x6_1 ++ [(⟨Int.tmod x8_2 1048576, t115, x8_2 / 1048576⟩ : S79)]) := ⟨_, rfl⟩
                replace H : (tenorref14_Net.l0 k3 l0 y117 x8_2) = some (r1, r2) := by first | (rw [hy117]; with_reducible exact H) | (have H2_ := (Option.bind_some _ _).symm.trans H; rw [hy117]; with_reducible exact H2_) | (have H2_ := (Option.bind_some _ _).symm.trans H; with_reducible exact H2_) | with_reducible exact H | (rw [hy117]; exact H) | exact H
                have Ny117 := Aside0.mk hy117
                clear hy117
                have H' := Aside0.mk H
                clear H
                have hcz33_0 : wr.cell? ⟨gb105, 0, none⟩ = some (.int .i64 x106000_3) := (blk_cell BK105.out 0).trans rfl
                have hcz33_1 : wr.cell? ⟨gb105, 1, none⟩ = some (.bool x106001_3) := (blk_cell BK105.out 1).trans rfl
                have hcz33_2 : wr.cell? ⟨gb105, 2, none⟩ = some (u106002) := (blk_cell BK105.out 2).trans rfl
                have hcz33_3 : wr.cell? ⟨gb105, 3, none⟩ = some (.int .i64 x106003_3) := (blk_cell BK105.out 3).trans rfl
                have hfz33_0 := blk_frozen BK105.out 0
                have hfz33_1 := blk_frozen BK105.out 1
                have hfz33_2 := blk_frozen BK105.out 2
                have hfz33_3 := blk_frozen BK105.out 3
                obtain ⟨Ao34, co34, eo34⟩ := Kd.R_slice HO_106002.out
                subst eo34
                go_wp2_with (first | ((with_reducible refine gate_callee (f := 41) rfl ?_); refine goesL_ (some 84) rfl rfl Tryz.func41 (by kernel_rfl) rfl #[.agg #[.int .i64 x106000_3, .bool x106001_3, .slice Ao34 x106002_3.length co34, .int .i64 x106003_3]] rfl mA ?_; (with_reducible refine (tenorref3_Value.calls k3 x106000_3 x106001_3 _ _ x106002_3 x106003_3 t115 _ ?side1 ?side2 A29.out).mono ?_); (case side1 => exact cA ((Kd.R_reads' HO_106002.out).2.2)); (case side2 => exact (Kd.R_reads' HO_106002.out).2.1); rintro e w35 ⟨rfl, hb⟩; refine ⟨_, rfl, ?_⟩; have n0_ := Aside0.mk (Kd.R_below (rA HO_6.out) hb); have n1_ := Aside0.mk (Kd.R_below (rA HO_106002.out) hb); have n2_ := Aside0.mk (blk_below (g := gb105) (o := .cells #[.int .i64 x106000_3, .bool x106001_3, .slice Ao34 x106002_3.length co34, .int .i64 x106003_3] 84 (0, 0)) (kA BK105.out) hb); have n3_ := Aside0.mk (below_step (bG HB.out) hb); clear HO_6; clear HO_106002; clear BK105; clear HB; have HO_6 := n0_; have HO_106002 := n1_; have BK105 := n2_; have HB := n3_; clear n0_ n1_ n2_ n3_; (try clear hb); (try clear hb2); (try clear hk); (try clear hi)) | ((with_reducible refine gate_callee (f := 42) rfl ?_); refine goesL_ (some 86) rfl rfl Tryz.func42 (by kernel_rfl) rfl #[.int .u64 t115] rfl mA ?_; (with_reducible refine (tenorref1_Number.calls t115 true _ A30.out).mono ?_); rintro e w' ⟨rfl, ⟨nd, rfl⟩⟩; refine ⟨_, rfl, ?_⟩) | ((with_reducible refine gate_builtin (b := .append) (xs := #[.tmp 88, .tmp 95]) rfl ?_); at_builtin; refine Kd.R_append k79 (w0 := w) w.heap.size rfl (.tmp 88) (.tmp 95) 28 79 (.agg #[(.int .i64 0), (.int .u64 0), (.int .i64 0)]) 24 rfl Tryz.underlying28 info79 rfl (by decide) (by omega) u6 x6_1 (⟨Int.tmod x8_2 1048576, t115, x8_2 / 1048576⟩ : S79) [.int .i64 (Int.tmod x8_2 1048576), .int .u64 t115, .int .i64 (x8_2 / 1048576)] (fun _ => True) (fun _ => False) rfl rfl ?aP (fun _ hk => hk.elim) ?aF ?aO ?aB ?aS ?aL ?_; (case aP => exact k79_mkM _ _ _ (⟨Int.tmod x8_2 1048576, t115, x8_2 / 1048576⟩ : S79)); (case aB => exact (bG HB.out)); (case aF => exact (fun _ _ => trivial)); (case aO => exact (rA HO_6.out)); (case aS => exact (below_size (bG HB.out))); (case aL => have := LMc32.out; omega); intro v118 w36 ho hb hg hat; rw [← Ny117.out] at ho; have n0_ := Aside0.mk (Kd.R_over' (rA HO_106002.out) (Kd.R_typed (rA HO_6.out)) (by decide) hg); have n1_ := Aside0.mk (blk_grown (g := gb105) (o := .cells #[.int .i64 x106000_3, .bool x106001_3, .slice Ao34 x106002_3.length co34, .int .i64 x106003_3] 84 (0, 0)) (kA BK105.out) hg (Kd.R_ne HO_6.out BK105.out (by decide))); have n2_ := Aside0.mk (hb); have n3_ := Aside0.mk (ho); clear HO_106002; clear BK105; clear HB; clear HO_6; have HO_106002 := n0_; have BK105 := n1_; have HB := n2_; have HO119 := n3_; clear n0_ n1_ n2_ n3_; clear ho hb hg hat))
                go_roundg k3
                case measure => have := HK1.out; have := HK2.out; have := HK3.out; omega
                case rel => exact ⟨(y117), (x8_2), (by first | rfl | (simp; done) | (simp [*]; done)), H', ⟨by have := HK1.out; have := HK2.out; have := HK3.out; omega⟩, ⟨rA HO119.out⟩, ⟨bG HB.out⟩⟩
              rw [if_pos c15] at H
              have c15b0 : decide (x12_3 < (l0.length : Int)) = true := decide_eq_true c15
              clear c15
              by_cases c16 : 0 ≤ x12_3
              rotate_left
              · rw [if_neg c16] at H
                exact absurd H (by simp)
              rw [if_pos c16] at H
              have c16b0 : decide (0 ≤ x12_3) = true := decide_eq_true c16
              clear c16
              by_cases c17 : (wrap64 ((wrap64 (((rd_T79 l0 x12_3).f2) * 1048576)) + ((rd_T79 l0 x12_3).f0))) = x8_2
              rotate_left
              · rw [if_neg c17] at H
                have c17b0 : ((wrap64 ((wrap64 (((rd_T79 l0 x12_3).f2) * 1048576)) + ((rd_T79 l0 x12_3).f0))) == x8_2) = false := beq_eq_false_iff_ne.mpr c17
                have c17b1 : ((wrap64 ((wrap64 (((rd_T79 l0 x12_3).f2) * 1048576)) + ((rd_T79 l0 x12_3).f0))) != x8_2) = true := bne_iff_ne.mpr c17
                have H' := Aside0.mk H
                clear H
                try go_wp2
                have n0_ := Aside0.mk (Kd.R_drew HO_6.out)
                have n1_ := Aside0.mk (Kd.R_drew HO_106002.out)
                have n2_ := Aside0.mk (blk_drew BK105.out)
                have n3_ := Aside0.mk (below_drew1 HB.out)
                clear HO_6
                clear HO_106002
                clear BK105
                clear HB
                have HO_6 := n0_
                have HO_106002 := n1_
                have BK105 := n2_
                have HB := n3_
                clear n0_ n1_ n2_ n3_
                have p106 : 0 ≤ (x12_3 : Int) := of_decide_eq_true asA
                have q106 : x12_3 < (l0.length : Int) := of_decide_eq_true asA
                obtain ⟨ad106, e106, hx106_0, hx106_1, hx106_2⟩ := at_T79 HR0.out x12_3 p106 q106
                have hw106_2 := hx106_2
                have hw106_1 := hx106_1
                have hw106_0 := hx106_0
                cases e106
                replace hx106_0 := (HB.out.cell (World.block_lt_of_cell? w _ hx106_0)).trans hx106_0
                replace hx106_1 := (HB.out.cell (World.block_lt_of_cell? w _ hx106_1)).trans hx106_1
                replace hx106_2 := (HB.out.cell (World.block_lt_of_cell? w _ hx106_2)).trans hx106_2
                replace p106 := eq_true p106
                replace q106 := eq_true q106
                have p107 : 0 ≤ (x12_3 : Int) := of_decide_eq_true asA
                have q107 : x12_3 < (l0.length : Int) := of_decide_eq_true asA
                obtain ⟨ad107, e107, hx107_0, hx107_1, hx107_2⟩ := at_T79 HR0.out x12_3 p107 q107
                have hw107_2 := hx107_2
                have hw107_1 := hx107_1
                have hw107_0 := hx107_0
                obtain rfl : ad106 = ad107 := (by injection e107)
                replace hx107_0 := (HB.out.cell (World.block_lt_of_cell? w _ hx107_0)).trans hx107_0
                replace hx107_1 := (HB.out.cell (World.block_lt_of_cell? w _ hx107_1)).trans hx107_1
                replace hx107_2 := (HB.out.cell (World.block_lt_of_cell? w _ hx107_2)).trans hx107_2
                replace p107 := eq_true p107
                replace q107 := eq_true q107
                refine start_ (n := 14) (S := fun w' => w'.cell? (ad106.add ((x12_3).toNat * 3)) = some (.int .i64 ((rd_T79 l0 x12_3).f0)) ∧ w'.cell? ⟨(ad106.add ((x12_3).toNat * 3)).block, (ad106.add ((x12_3).toNat * 3)).off + 1, none⟩ = some (.int .u64 ((rd_T79 l0 x12_3).f1)) ∧ w'.cell? ⟨(ad106.add ((x12_3).toNat * 3)).block, (ad106.add ((x12_3).toNat * 3)).off + 2, none⟩ = some (.int .i64 ((rd_T79 l0 x12_3).f2)) ∧ w'.cell? (ad106.add ((x12_3).toNat * 3)) = some (.int .i64 ((rd_T79 l0 x12_3).f0)) ∧ w'.cell? ⟨(ad106.add ((x12_3).toNat * 3)).block, (ad106.add ((x12_3).toNat * 3)).off + 1, none⟩ = some (.int .u64 ((rd_T79 l0 x12_3).f1)) ∧ w'.cell? ⟨(ad106.add ((x12_3).toNat * 3)).block, (ad106.add ((x12_3).toNat * 3)).off + 2, none⟩ = some (.int .i64 ((rd_T79 l0 x12_3).f2))) (ds := []) (dnA 14 0) (by kernel_rfl) rfl rfl ⟨((HB.out.cell (World.block_lt_of_cell? w _ hw106_0)).trans hw106_0), ((HB.out.cell (World.block_lt_of_cell? w _ hw106_1)).trans hw106_1), ((HB.out.cell (World.block_lt_of_cell? w _ hw106_2)).trans hw106_2), ((HB.out.cell (World.block_lt_of_cell? w _ hw107_0)).trans hw107_0), ((HB.out.cell (World.block_lt_of_cell? w _ hw107_1)).trans hw107_1), ((HB.out.cell (World.block_lt_of_cell? w _ hw107_2)).trans hw107_2)⟩ (fun hHeld => ?_); refine with_tabW tenorref14_Net.tab19 tenorref14_Net.bits19 (fun HT_ HW_ => ?_)
                generalize wr.drew = w28 at HO_6 HO_106002 BK105 HB hx106_0 hx106_1 hx106_2 hx107_0 hx107_1 hx107_2 hHeld ⊢
                refine pure_ (i := 0) (N := some 62) (v := ?_) (a' := ?_) (dnA 14 1) rfl rfl (any_of HT_.out (by kernel_rfl)) (fun _ _ _ h => h) (Or.inl ⟨by rfl, ?_⟩) ?_ ?_
                rotate_left
                · intro w'
                  go_simp
                  with_reducible rfl
                rotate_left
                · simp only [Act.put, List.setIfInBounds_toArray, List.set_cons_zero, List.set_cons_succ, i64_w, i32_w]
                  rfl
                refine pure_ (i := 1) (N := some 63) (v := ?_) (a' := ?_) (dnA 14 3) rfl rfl (any_of HT_.out (by kernel_rfl)) (fun _ _ _ h => h) (Or.inl ⟨by rfl, ?_⟩) ?_ ?_
                rotate_left
                · intro w'
                  go_simp
                  with_reducible rfl
                rotate_left
                · simp only [Act.put, List.setIfInBounds_toArray, List.set_cons_zero, List.set_cons_succ, i64_w, i32_w]
                  rfl
                refine pure_ (i := 2) (N := some 64) (v := ?_) (a' := ?_) (dnA 14 7) rfl rfl (any_of HT_.out (by kernel_rfl)) (fun _ _ _ h => h) (Or.inl ⟨by rfl, ?_⟩) ?_ ?_
                rotate_left
                · intro w'
                  go_simp
                  with_reducible rfl
                rotate_left
                · simp only [Act.put, List.setIfInBounds_toArray, List.set_cons_zero, List.set_cons_succ, i64_w, i32_w]
                  rfl
                refine pure_ (i := 3) (N := some 65) (v := ?_) (a' := ?_) (dnA 14 15) rfl rfl (any_of HT_.out (by kernel_rfl)) (fun _ _ _ h => h) (Or.inl ⟨by rfl, ?_⟩) ?_ ?_
                rotate_left
                · intro w'
                  go_simp
                  with_reducible rfl
                rotate_left
                · simp only [Act.put, List.setIfInBounds_toArray, List.set_cons_zero, List.set_cons_succ, i64_w, i32_w]
                  rfl
                refine pure_ (i := 6) (N := some 68) (v := ?_) (a' := ?_) (dnA 14 79) rfl rfl (any_of HT_.out (by kernel_rfl)) (fun _ _ _ h => h) (Or.inl ⟨by rfl, ?_⟩) ?_ ?_
                rotate_left
                · intro w'
                  go_simp
                  with_reducible rfl
                rotate_left
                · simp only [Act.put, List.setIfInBounds_toArray, List.set_cons_zero, List.set_cons_succ, i64_w, i32_w]
                  rfl
                refine pure_ (i := 7) (N := some 69) (v := ?_) (a' := ?_) (dnA 14 207) rfl rfl (any_of HT_.out (by kernel_rfl)) (fun _ _ _ h => h) (Or.inl ⟨by rfl, ?_⟩) ?_ ?_
                rotate_left
                · intro w'
                  go_simp
                  with_reducible rfl
                rotate_left
                · simp only [Act.put, List.setIfInBounds_toArray, List.set_cons_zero, List.set_cons_succ, i64_w, i32_w]
                  rfl
                refine pure_ (i := 8) (N := some 70) (v := ?_) (a' := ?_) (dnA 14 463) rfl rfl (any_of HT_.out (by kernel_rfl)) (fun _ _ _ h => h) (Or.inl ⟨by rfl, ?_⟩) ?_ ?_
                rotate_left
                · intro w'
                  go_simp
                  with_reducible rfl
                rotate_left
                · simp only [Act.put, List.setIfInBounds_toArray, List.set_cons_zero, List.set_cons_succ, i64_w, i32_w]
                  rfl
                refine pure_ (i := 9) (N := some 71) (v := ?_) (a' := ?_) (dnA 14 975) rfl rfl (any_of HT_.out (by kernel_rfl)) (fun _ _ _ h => h) (Or.inl ⟨by rfl, ?_⟩) ?_ ?_
                rotate_left
                · intro w'
                  go_simp
                  with_reducible rfl
                rotate_left
                · simp only [Act.put, List.setIfInBounds_toArray, List.set_cons_zero, List.set_cons_succ, i64_w, i32_w]
                  rfl
                refine pure_ (i := 12) (N := some 74) (v := ?_) (a' := ?_) (dnA 14 5071) rfl rfl (any_of HT_.out (by kernel_rfl)) (fun _ _ _ h => h) (Or.inl ⟨by rfl, ?_⟩) ?_ ?_
                rotate_left
                · intro w'
                  go_simp
                  with_reducible rfl
                rotate_left
                · simp only [Act.put, List.setIfInBounds_toArray, List.set_cons_zero, List.set_cons_succ, i64_w, i32_w]
                  rfl
                refine take_ (i := 4) (N := some 66) (v := ?_) (a' := ?_) (dnA 14 5087) rfl rfl (take_ofW HT_.out HW_.out (by kernel_rfl)) (fun _ _ _ h => h) (Or.inl ⟨by rfl, ?_⟩) hHeld ?_ ?_
                rotate_left
                · rintro w' ⟨s0, s1, s2, s3, s4, s5⟩
                  go_simp
                  with_reducible rfl
                rotate_left
                · simp only [Act.put, List.setIfInBounds_toArray, List.set_cons_zero, List.set_cons_succ, i64_w, i32_w]
                  rfl
                refine pure_ (i := 5) (N := some 67) (v := ?_) (a' := ?_) (dnA 14 5119) rfl rfl (any_of HT_.out (by kernel_rfl)) (fun _ _ _ h => h) (Or.inl ⟨by rfl, ?_⟩) ?_ ?_
                rotate_left
                · intro w'
                  go_simp
                  with_reducible rfl
                rotate_left
                · simp only [Act.put, List.setIfInBounds_toArray, List.set_cons_zero, List.set_cons_succ, i64_w, i32_w]
                  rfl
                refine take_ (i := 10) (N := some 72) (v := ?_) (a' := ?_) (dnA 14 6143) rfl rfl (take_ofW HT_.out HW_.out (by kernel_rfl)) (fun _ _ _ h => h) (Or.inl ⟨by rfl, ?_⟩) hHeld ?_ ?_
                rotate_left
                · rintro w' ⟨s0, s1, s2, s3, s4, s5⟩
                  go_simp
                  with_reducible rfl
                rotate_left
                · simp only [Act.put, List.setIfInBounds_toArray, List.set_cons_zero, List.set_cons_succ, i64_w, i32_w]
                  rfl
                refine pure_ (i := 11) (N := some 73) (v := ?_) (a' := ?_) (dnA 14 8191) rfl rfl (any_of HT_.out (by kernel_rfl)) (fun _ _ _ h => h) (Or.inl ⟨by rfl, ?_⟩) ?_ ?_
                rotate_left
                · intro w'
                  go_simp
                  with_reducible rfl
                rotate_left
                · simp only [Act.put, List.setIfInBounds_toArray, List.set_cons_zero, List.set_cons_succ, i64_w, i32_w]
                  rfl
                refine pure_ (i := 13) (N := some 75) (v := ?_) (a' := ?_) (dnA 14 16383) rfl rfl (any_of HT_.out (by kernel_rfl)) (fun _ _ _ h => h) (Or.inl ⟨by rfl, ?_⟩) ?_ ?_
                rotate_left
                · intro w'
                  go_simp
                  with_reducible rfl
                rotate_left
                · simp only [Act.put, List.setIfInBounds_toArray, List.set_cons_zero, List.set_cons_succ, i64_w, i32_w]
                  rfl
                refine done_ (done_of HT_.out (by kernel_rfl)) ?_
                try go_wp2
                go_roundg k3
                case measure => have := HK1.out; have := HK2.out; have := HK3.out; omega
                case rel => exact ⟨(wrap64 (x12_3 + 1)), (x106000_3), (x106001_3), (x106002_3), (x106003_3), (u106002), (by first | rfl | (simp; done) | (simp [*]; done)), H', ⟨by have := HK1.out; have := HK2.out; have := HK3.out; omega⟩, ⟨rA HO_6.out⟩, ⟨rA HO_106002.out⟩, ⟨kA BK105.out⟩, ⟨bG HB.out⟩⟩
              rw [if_pos c17] at H
              have c17b0 : ((wrap64 ((wrap64 (((rd_T79 l0 x12_3).f2) * 1048576)) + ((rd_T79 l0 x12_3).f0))) == x8_2) = true := beq_iff_eq.mpr c17
              have c17b1 : ((wrap64 ((wrap64 (((rd_T79 l0 x12_3).f2) * 1048576)) + ((rd_T79 l0 x12_3).f0))) != x8_2) = false := bne_eq_false_iff_eq.mpr c17
              clear c17
              replace H := Option.bind_eq_some_iff.mp H
              obtain ⟨⟨t109, t110, t111, t114⟩, A180, H⟩ := H
              have A18 := Aside0.mk A180
              clear A180
              have H' := Aside0.mk H
              clear H
              try go_wp2
              have n0_ := Aside0.mk (Kd.R_drew HO_6.out)
              have n1_ := Aside0.mk (Kd.R_drew HO_106002.out)
              have n2_ := Aside0.mk (blk_drew BK105.out)
              have n3_ := Aside0.mk (below_drew1 HB.out)
              clear HO_6
              clear HO_106002
              clear BK105
              clear HB
              have HO_6 := n0_
              have HO_106002 := n1_
              have BK105 := n2_
              have HB := n3_
              clear n0_ n1_ n2_ n3_
              have p106 : 0 ≤ (x12_3 : Int) := of_decide_eq_true asA
              have q106 : x12_3 < (l0.length : Int) := of_decide_eq_true asA
              obtain ⟨ad106, e106, hx106_0, hx106_1, hx106_2⟩ := at_T79 HR0.out x12_3 p106 q106
              have hw106_2 := hx106_2
              have hw106_1 := hx106_1
              have hw106_0 := hx106_0
              cases e106
              replace hx106_0 := (HB.out.cell (World.block_lt_of_cell? w _ hx106_0)).trans hx106_0
              replace hx106_1 := (HB.out.cell (World.block_lt_of_cell? w _ hx106_1)).trans hx106_1
              replace hx106_2 := (HB.out.cell (World.block_lt_of_cell? w _ hx106_2)).trans hx106_2
              replace p106 := eq_true p106
              replace q106 := eq_true q106
              have p107 : 0 ≤ (x12_3 : Int) := of_decide_eq_true asA
              have q107 : x12_3 < (l0.length : Int) := of_decide_eq_true asA
              obtain ⟨ad107, e107, hx107_0, hx107_1, hx107_2⟩ := at_T79 HR0.out x12_3 p107 q107
              have hw107_2 := hx107_2
              have hw107_1 := hx107_1
              have hw107_0 := hx107_0
              obtain rfl : ad106 = ad107 := (by injection e107)
              replace hx107_0 := (HB.out.cell (World.block_lt_of_cell? w _ hx107_0)).trans hx107_0
              replace hx107_1 := (HB.out.cell (World.block_lt_of_cell? w _ hx107_1)).trans hx107_1
              replace hx107_2 := (HB.out.cell (World.block_lt_of_cell? w _ hx107_2)).trans hx107_2
              replace p107 := eq_true p107
              replace q107 := eq_true q107
              refine start_ (n := 14) (S := fun w' => w'.cell? (ad106.add ((x12_3).toNat * 3)) = some (.int .i64 ((rd_T79 l0 x12_3).f0)) ∧ w'.cell? ⟨(ad106.add ((x12_3).toNat * 3)).block, (ad106.add ((x12_3).toNat * 3)).off + 1, none⟩ = some (.int .u64 ((rd_T79 l0 x12_3).f1)) ∧ w'.cell? ⟨(ad106.add ((x12_3).toNat * 3)).block, (ad106.add ((x12_3).toNat * 3)).off + 2, none⟩ = some (.int .i64 ((rd_T79 l0 x12_3).f2)) ∧ w'.cell? (ad106.add ((x12_3).toNat * 3)) = some (.int .i64 ((rd_T79 l0 x12_3).f0)) ∧ w'.cell? ⟨(ad106.add ((x12_3).toNat * 3)).block, (ad106.add ((x12_3).toNat * 3)).off + 1, none⟩ = some (.int .u64 ((rd_T79 l0 x12_3).f1)) ∧ w'.cell? ⟨(ad106.add ((x12_3).toNat * 3)).block, (ad106.add ((x12_3).toNat * 3)).off + 2, none⟩ = some (.int .i64 ((rd_T79 l0 x12_3).f2))) (ds := []) (dnA 14 0) (by kernel_rfl) rfl rfl ⟨((HB.out.cell (World.block_lt_of_cell? w _ hw106_0)).trans hw106_0), ((HB.out.cell (World.block_lt_of_cell? w _ hw106_1)).trans hw106_1), ((HB.out.cell (World.block_lt_of_cell? w _ hw106_2)).trans hw106_2), ((HB.out.cell (World.block_lt_of_cell? w _ hw107_0)).trans hw107_0), ((HB.out.cell (World.block_lt_of_cell? w _ hw107_1)).trans hw107_1), ((HB.out.cell (World.block_lt_of_cell? w _ hw107_2)).trans hw107_2)⟩ (fun hHeld => ?_); refine with_tabW tenorref14_Net.tab19 tenorref14_Net.bits19 (fun HT_ HW_ => ?_)
              generalize wr.drew = w19 at HO_6 HO_106002 BK105 HB hx106_0 hx106_1 hx106_2 hx107_0 hx107_1 hx107_2 hHeld ⊢
              refine pure_ (i := 0) (N := some 62) (v := ?_) (a' := ?_) (dnA 14 1) rfl rfl (any_of HT_.out (by kernel_rfl)) (fun _ _ _ h => h) (Or.inl ⟨by rfl, ?_⟩) ?_ ?_
              rotate_left
              · intro w'
                go_simp
                with_reducible rfl
              rotate_left
              · simp only [Act.put, List.setIfInBounds_toArray, List.set_cons_zero, List.set_cons_succ, i64_w, i32_w]
                rfl
              refine pure_ (i := 1) (N := some 63) (v := ?_) (a' := ?_) (dnA 14 3) rfl rfl (any_of HT_.out (by kernel_rfl)) (fun _ _ _ h => h) (Or.inl ⟨by rfl, ?_⟩) ?_ ?_
              rotate_left
              · intro w'
                go_simp
                with_reducible rfl
              rotate_left
              · simp only [Act.put, List.setIfInBounds_toArray, List.set_cons_zero, List.set_cons_succ, i64_w, i32_w]
                rfl
              refine pure_ (i := 2) (N := some 64) (v := ?_) (a' := ?_) (dnA 14 7) rfl rfl (any_of HT_.out (by kernel_rfl)) (fun _ _ _ h => h) (Or.inl ⟨by rfl, ?_⟩) ?_ ?_
              rotate_left
              · intro w'
                go_simp
                with_reducible rfl
              rotate_left
              · simp only [Act.put, List.setIfInBounds_toArray, List.set_cons_zero, List.set_cons_succ, i64_w, i32_w]
                rfl
              refine pure_ (i := 3) (N := some 65) (v := ?_) (a' := ?_) (dnA 14 15) rfl rfl (any_of HT_.out (by kernel_rfl)) (fun _ _ _ h => h) (Or.inl ⟨by rfl, ?_⟩) ?_ ?_
              rotate_left
              · intro w'
                go_simp
                with_reducible rfl
              rotate_left
              · simp only [Act.put, List.setIfInBounds_toArray, List.set_cons_zero, List.set_cons_succ, i64_w, i32_w]
                rfl
              refine pure_ (i := 6) (N := some 68) (v := ?_) (a' := ?_) (dnA 14 79) rfl rfl (any_of HT_.out (by kernel_rfl)) (fun _ _ _ h => h) (Or.inl ⟨by rfl, ?_⟩) ?_ ?_
              rotate_left
              · intro w'
                go_simp
                with_reducible rfl
              rotate_left
              · simp only [Act.put, List.setIfInBounds_toArray, List.set_cons_zero, List.set_cons_succ, i64_w, i32_w]
                rfl
              refine pure_ (i := 7) (N := some 69) (v := ?_) (a' := ?_) (dnA 14 207) rfl rfl (any_of HT_.out (by kernel_rfl)) (fun _ _ _ h => h) (Or.inl ⟨by rfl, ?_⟩) ?_ ?_
              rotate_left
              · intro w'
                go_simp
                with_reducible rfl
              rotate_left
              · simp only [Act.put, List.setIfInBounds_toArray, List.set_cons_zero, List.set_cons_succ, i64_w, i32_w]
                rfl
              refine pure_ (i := 8) (N := some 70) (v := ?_) (a' := ?_) (dnA 14 463) rfl rfl (any_of HT_.out (by kernel_rfl)) (fun _ _ _ h => h) (Or.inl ⟨by rfl, ?_⟩) ?_ ?_
              rotate_left
              · intro w'
                go_simp
                with_reducible rfl
              rotate_left
              · simp only [Act.put, List.setIfInBounds_toArray, List.set_cons_zero, List.set_cons_succ, i64_w, i32_w]
                rfl
              refine pure_ (i := 9) (N := some 71) (v := ?_) (a' := ?_) (dnA 14 975) rfl rfl (any_of HT_.out (by kernel_rfl)) (fun _ _ _ h => h) (Or.inl ⟨by rfl, ?_⟩) ?_ ?_
              rotate_left
              · intro w'
                go_simp
                with_reducible rfl
              rotate_left
              · simp only [Act.put, List.setIfInBounds_toArray, List.set_cons_zero, List.set_cons_succ, i64_w, i32_w]
                rfl
              refine pure_ (i := 12) (N := some 74) (v := ?_) (a' := ?_) (dnA 14 5071) rfl rfl (any_of HT_.out (by kernel_rfl)) (fun _ _ _ h => h) (Or.inl ⟨by rfl, ?_⟩) ?_ ?_
              rotate_left
              · intro w'
                go_simp
                with_reducible rfl
              rotate_left
              · simp only [Act.put, List.setIfInBounds_toArray, List.set_cons_zero, List.set_cons_succ, i64_w, i32_w]
                rfl
              refine take_ (i := 4) (N := some 66) (v := ?_) (a' := ?_) (dnA 14 5087) rfl rfl (take_ofW HT_.out HW_.out (by kernel_rfl)) (fun _ _ _ h => h) (Or.inl ⟨by rfl, ?_⟩) hHeld ?_ ?_
              rotate_left
              · rintro w' ⟨s0, s1, s2, s3, s4, s5⟩
                go_simp
                with_reducible rfl
              rotate_left
              · simp only [Act.put, List.setIfInBounds_toArray, List.set_cons_zero, List.set_cons_succ, i64_w, i32_w]
                rfl
              refine pure_ (i := 5) (N := some 67) (v := ?_) (a' := ?_) (dnA 14 5119) rfl rfl (any_of HT_.out (by kernel_rfl)) (fun _ _ _ h => h) (Or.inl ⟨by rfl, ?_⟩) ?_ ?_
              rotate_left
              · intro w'
                go_simp
                with_reducible rfl
              rotate_left
              · simp only [Act.put, List.setIfInBounds_toArray, List.set_cons_zero, List.set_cons_succ, i64_w, i32_w]
                rfl
              refine take_ (i := 10) (N := some 72) (v := ?_) (a' := ?_) (dnA 14 6143) rfl rfl (take_ofW HT_.out HW_.out (by kernel_rfl)) (fun _ _ _ h => h) (Or.inl ⟨by rfl, ?_⟩) hHeld ?_ ?_
              rotate_left
              · rintro w' ⟨s0, s1, s2, s3, s4, s5⟩
                go_simp
                with_reducible rfl
              rotate_left
              · simp only [Act.put, List.setIfInBounds_toArray, List.set_cons_zero, List.set_cons_succ, i64_w, i32_w]
                rfl
              refine pure_ (i := 11) (N := some 73) (v := ?_) (a' := ?_) (dnA 14 8191) rfl rfl (any_of HT_.out (by kernel_rfl)) (fun _ _ _ h => h) (Or.inl ⟨by rfl, ?_⟩) ?_ ?_
              rotate_left
              · intro w'
                go_simp
                with_reducible rfl
              rotate_left
              · simp only [Act.put, List.setIfInBounds_toArray, List.set_cons_zero, List.set_cons_succ, i64_w, i32_w]
                rfl
              refine pure_ (i := 13) (N := some 75) (v := ?_) (a' := ?_) (dnA 14 16383) rfl rfl (any_of HT_.out (by kernel_rfl)) (fun _ _ _ h => h) (Or.inl ⟨by rfl, ?_⟩) ?_ ?_
              rotate_left
              · intro w'
                go_simp
                with_reducible rfl
              rotate_left
              · simp only [Act.put, List.setIfInBounds_toArray, List.set_cons_zero, List.set_cons_succ, i64_w, i32_w]
                rfl
              refine done_ (done_of HT_.out (by kernel_rfl)) ?_
              try go_wp2
              have n0_ := Aside0.mk (Kd.R_drew HO_6.out)
              have n1_ := Aside0.mk (Kd.R_drew HO_106002.out)
              have n2_ := Aside0.mk (blk_drew BK105.out)
              have n3_ := Aside0.mk (below_drew1 HB.out)
              clear HO_6
              clear HO_106002
              clear BK105
              clear HB
              have HO_6 := n0_
              have HO_106002 := n1_
              have BK105 := n2_
              have HB := n3_
              clear n0_ n1_ n2_ n3_
              have p108 : 0 ≤ (x12_3 : Int) := of_decide_eq_true asA
              have q108 : x12_3 < (l0.length : Int) := of_decide_eq_true asA
              obtain ⟨ad108, e108, hx108_0, hx108_1, hx108_2⟩ := at_T79 HR0.out x12_3 p108 q108
              have hw108_2 := hx108_2
              have hw108_1 := hx108_1
              have hw108_0 := hx108_0
              obtain rfl : ad106 = ad108 := (by injection e108)
              replace hx108_0 := (HB.out.cell (World.block_lt_of_cell? w _ hx108_0)).trans hx108_0
              replace hx108_1 := (HB.out.cell (World.block_lt_of_cell? w _ hx108_1)).trans hx108_1
              replace hx108_2 := (HB.out.cell (World.block_lt_of_cell? w _ hx108_2)).trans hx108_2
              replace p108 := eq_true p108
              replace q108 := eq_true q108
              obtain ⟨Ao21, co21, eo21⟩ := Kd.R_slice HO_106002.out
              (first | subst eo21 | (injection eo21 with f1_ f2_ f3_; have f4_ := f1_.symm; have f5_ := f3_.symm; clear f1_ f2_ f3_; subst f4_; subst f5_))
              refine start_ (n := 8) (S := fun w' => w'.cell? ⟨gb105, 0, none⟩ = some (.int .i64 x106000_3) ∧ w'.cell? ⟨gb105, 1, none⟩ = some (.bool x106001_3) ∧ w'.cell? ⟨gb105, 2, none⟩ = some (.slice Ao21 x106002_3.length co21) ∧ w'.cell? ⟨gb105, 3, none⟩ = some (.int .i64 x106003_3) ∧ w'.cell? (ad106.add ((x12_3).toNat * 3)) = some (.int .i64 ((rd_T79 l0 x12_3).f0)) ∧ w'.cell? ⟨(ad106.add ((x12_3).toNat * 3)).block, (ad106.add ((x12_3).toNat * 3)).off + 1, none⟩ = some (.int .u64 ((rd_T79 l0 x12_3).f1)) ∧ w'.cell? ⟨(ad106.add ((x12_3).toNat * 3)).block, (ad106.add ((x12_3).toNat * 3)).off + 2, none⟩ = some (.int .i64 ((rd_T79 l0 x12_3).f2))) (ds := [7]) #[false, false, false, false, false, false, false, false] (by kernel_rfl) rfl rfl ⟨(blk_cell BK105.out 0).trans rfl, (blk_cell BK105.out 1).trans rfl, (blk_cell BK105.out 2).trans rfl, (blk_cell BK105.out 3).trans rfl, ((HB.out.cell (World.block_lt_of_cell? w _ hw108_0)).trans hw108_0), ((HB.out.cell (World.block_lt_of_cell? w _ hw108_1)).trans hw108_1), ((HB.out.cell (World.block_lt_of_cell? w _ hw108_2)).trans hw108_2)⟩ (fun hHeld => ?_); refine with_tabW tenorref14_Net.tab20 tenorref14_Net.bits20 (fun HT_ HW_ => ?_)
              generalize w19.drew = w20 at HO_6 HO_106002 BK105 HB hx108_0 hx108_1 hx108_2 hHeld ⊢
              refine pure_ (i := 1) (N := some 77) (v := ?_) (a' := ?_) #[false, true, false, false, false, false, false, false] rfl rfl (any_of HT_.out (by kernel_rfl)) (fun _ _ _ h => h) (Or.inl ⟨by rfl, ?_⟩) ?_ ?_
              rotate_left
              · intro w'
                go_simp
                with_reducible rfl
              rotate_left
              · simp only [Act.put, List.setIfInBounds_toArray, List.set_cons_zero, List.set_cons_succ, i64_w, i32_w]
                rfl
              refine pure_ (i := 2) (N := some 78) (v := ?_) (a' := ?_) #[false, true, true, false, false, false, false, false] rfl rfl (any_of HT_.out (by kernel_rfl)) (fun _ _ _ h => h) (Or.inl ⟨by rfl, ?_⟩) ?_ ?_
              rotate_left
              · intro w'
                go_simp
                with_reducible rfl
              rotate_left
              · simp only [Act.put, List.setIfInBounds_toArray, List.set_cons_zero, List.set_cons_succ, i64_w, i32_w]
                rfl
              refine pure_ (i := 3) (N := some 79) (v := ?_) (a' := ?_) #[false, true, true, true, false, false, false, false] rfl rfl (any_of HT_.out (by kernel_rfl)) (fun _ _ _ h => h) (Or.inl ⟨by rfl, ?_⟩) ?_ ?_
              rotate_left
              · intro w'
                go_simp
                with_reducible rfl
              rotate_left
              · simp only [Act.put, List.setIfInBounds_toArray, List.set_cons_zero, List.set_cons_succ, i64_w, i32_w]
                rfl
              refine pure_ (i := 4) (N := some 80) (v := ?_) (a' := ?_) #[false, true, true, true, true, false, false, false] rfl rfl (any_of HT_.out (by kernel_rfl)) (fun _ _ _ h => h) (Or.inl ⟨by rfl, ?_⟩) ?_ ?_
              rotate_left
              · intro w'
                go_simp
                with_reducible rfl
              rotate_left
              · simp only [Act.put, List.setIfInBounds_toArray, List.set_cons_zero, List.set_cons_succ, i64_w, i32_w]
                rfl
              refine take_ (i := 0) (N := some 76) (v := ?_) (a' := ?_) #[true, true, true, true, true, false, false, false] rfl rfl (take_ofW HT_.out HW_.out (by kernel_rfl)) (fun _ _ _ h => h) (Or.inl ⟨by rfl, ?_⟩) hHeld ?_ ?_
              rotate_left
              · rintro w' ⟨s0, s1, s2, s3, s4, s5, s6⟩
                go_simp
                with_reducible rfl
              rotate_left
              · simp only [Act.put, List.setIfInBounds_toArray, List.set_cons_zero, List.set_cons_succ, i64_w, i32_w]
                rfl
              refine take_ (i := 5) (N := some 81) (v := ?_) (a' := ?_) #[true, true, true, true, true, true, false, false] rfl rfl (take_ofW HT_.out HW_.out (by kernel_rfl)) (fun _ _ _ h => h) (Or.inl ⟨by rfl, ?_⟩) hHeld ?_ ?_
              rotate_left
              · rintro w' ⟨s0, s1, s2, s3, s4, s5, s6⟩
                go_simp
                with_reducible rfl
              rotate_left
              · simp only [Act.put, List.setIfInBounds_toArray, List.set_cons_zero, List.set_cons_succ, i64_w, i32_w]
                rfl
              refine one_ (i := 6) (N := some 82) #[true, true, true, true, true, true, true, false] rfl rfl (one_of HT_.out (by kernel_rfl)) (by decide) (fun K hK => ?_)
              refine goes_ Tryz.func40 (by kernel_rfl) rfl #[.agg #[.int .i64 x106000_3, .bool x106001_3, .slice Ao21 x106002_3.length co21, .int .i64 x106003_3], .int .u64 ((rd_T79 l0 x12_3).f1)] (by rfl) rfl rfl mA ?_
              with_reducible refine (tenorref3_Add.calls k3 x106000_3 x106001_3 _ _ x106002_3 x106003_3 ((rd_T79 l0 x12_3).f1) t109 t110 t111 t114 _ ?side1 ?side2 A18.out).mono ?_
              (case side1 => exact cA ((Kd.R_reads' HO_106002.out).2.2))
              (case side2 => exact (Kd.R_reads' HO_106002.out).2.1)
              rintro e w22 ⟨v112, rfl, ho0, hb⟩
              refine ⟨_, rfl, ?_⟩
              have n0_ := Aside0.mk (Kd.R_below (rA HO_6.out) hb)
              have n1_ := Aside0.mk (Kd.R_elder' (rA HO_106002.out) (Kd.R_base ho0) hb)
              have n2_ := Aside0.mk (Kd.R_lower (Kd.R_new' ho0 (Kd.R_lt (rA HO_106002.out))) (below_size (bG HB.out)))
              have n3_ := Aside0.mk (blk_below (g := gb105) (o := .cells #[.int .i64 x106000_3, .bool x106001_3, .slice Ao21 x106002_3.length co21, .int .i64 x106003_3] 84 (0, 0)) (kA BK105.out) hb)
              have n4_ := Aside0.mk (below_step (bG HB.out) hb)
              clear HO_6
              clear HO_106002
              clear BK105
              clear HB
              have HO_6 := n0_
              have HO_106002 := n1_
              have HO113 := n2_
              have BK105 := n3_
              have HB := n4_
              clear n0_ n1_ n2_ n3_ n4_
              (try clear hb)
              (try clear hb2)
              (try clear hk)
              (try clear hi)
              (try clear ho0)
              obtain ⟨Ao25, co25, eo25⟩ := Kd.R_slice HO113.out
              (first | subst eo25 | (injection eo25 with f1_ f2_ f3_; have f4_ := f1_.symm; have f5_ := f3_.symm; clear f1_ f2_ f3_; subst f4_; subst f5_))
              refine hK.out _ _ ⟨(blk_cell BK105.out 0).trans rfl, (blk_cell BK105.out 1).trans rfl, (blk_cell BK105.out 2).trans rfl, (blk_cell BK105.out 3).trans rfl, ((HB.out.cell (World.block_lt_of_cell? w _ hw108_0)).trans hw108_0), ((HB.out.cell (World.block_lt_of_cell? w _ hw108_1)).trans hw108_1), ((HB.out.cell (World.block_lt_of_cell? w _ hw108_2)).trans hw108_2)⟩ (fun hHeld => ?_)
              clear hK K
              refine norm_ (a' := ?_) ?_ ?_
              rotate_left
              · show Act.put _ (some 82) _ = _
                simp only [Act.put, List.setIfInBounds_toArray, List.set_cons_zero, List.set_cons_succ, i64_w, i32_w]
                rfl
              refine last_ (i := 7) (N := none) #[true, true, true, true, true, true, true, true] rfl rfl (one_of HT_.out (by kernel_rfl)) (by decide) (fun K hK => ?_)
              have hs23 : w22.cell? ⟨gb105, 0, none⟩ = some (.int .i64 x106000_3) := (blk_cell BK105.out 0).trans rfl
              have hfs23 := blk_frozen BK105.out 0
              have hs24 : w22.cell? ⟨gb105, 1, none⟩ = some (.bool x106001_3) := (blk_cell BK105.out 1).trans rfl
              have hfs24 := blk_frozen BK105.out 1
              have hs26 : w22.cell? ⟨gb105, 2, none⟩ = some (.slice Ao21 x106002_3.length co21) := (blk_cell BK105.out 2).trans rfl
              have hfs26 := blk_frozen BK105.out 2
              have hs27 : w22.cell? ⟨gb105, 3, none⟩ = some (.int .i64 x106003_3) := (blk_cell BK105.out 3).trans rfl
              have hfs27 := blk_frozen BK105.out 3
              refine skip_ (w1 := ?_) (by rfl) rfl ?_ ?_
              rotate_left
              · go_simp
                rfl
              refine hK.out _ _ ?_
              clear hK K
              refine done_ (done_of HT_.out (by kernel_rfl)) ?_
              try go_wp2
              go_roundg k3
              case measure => have := HK1.out; have := HK2.out; have := HK3.out; omega
              case rel => exact ⟨(wrap64 (x12_3 + 1)), (t109), (t110), (t111), (t114), (.slice Ao25 t111.length co25), (by first | rfl | (simp; done) | (simp [*]; done)), H', ⟨by have := HK1.out; have := HK2.out; have := HK3.out; omega⟩, ⟨rA (Kd.R_mono (Kd.R_far (p := ⟨gb105, 3, none⟩) (Kd.R_far (p := ⟨gb105, 2, none⟩) (Kd.R_far (p := ⟨gb105, 1, none⟩) (Kd.R_far (p := ⟨gb105, 0, none⟩) (Kd.R_types HO_6.out BK105.out (by decide)) (fun _ hk => hk.2) (.int .i64 t109)) (fun _ hk => hk.2) (.bool t110)) (fun _ hk => hk.2) (.slice Ao25 t111.length co25)) (fun _ hk => hk.2) (.int .i64 t114)) (fun _ hk => trivial))⟩, ⟨rA (Kd.R_mono (Kd.R_far (p := ⟨gb105, 3, none⟩) (Kd.R_far (p := ⟨gb105, 2, none⟩) (Kd.R_far (p := ⟨gb105, 1, none⟩) (Kd.R_far (p := ⟨gb105, 0, none⟩) (Kd.R_types HO113.out BK105.out (by decide)) (fun _ hk => hk.2) (.int .i64 t109)) (fun _ hk => hk.2) (.bool t110)) (fun _ hk => hk.2) (.slice Ao25 t111.length co25)) (fun _ hk => hk.2) (.int .i64 t114)) (fun _ hk => trivial))⟩, ⟨by (with_reducible repeat (first | refine blk_drewN ?_ _ | refine blk_drew ?_ | refine blk_alloc ?_ _)); refine blk_put (cs := #[.int .i64 t109, .bool t110, .slice Ao25 t111.length co25, .int .i64 x106003_3]) ?_ 3 _ rfl; (with_reducible repeat (first | refine blk_drewN ?_ _ | refine blk_drew ?_ | refine blk_alloc ?_ _)); refine blk_put (cs := #[.int .i64 t109, .bool t110, .slice Ao21 x106002_3.length co21, .int .i64 x106003_3]) ?_ 2 _ rfl; (with_reducible repeat (first | refine blk_drewN ?_ _ | refine blk_drew ?_ | refine blk_alloc ?_ _)); refine blk_put (cs := #[.int .i64 t109, .bool x106001_3, .slice Ao21 x106002_3.length co21, .int .i64 x106003_3]) ?_ 1 _ rfl; (with_reducible repeat (first | refine blk_drewN ?_ _ | refine blk_drew ?_ | refine blk_alloc ?_ _)); refine blk_put (cs := #[.int .i64 x106000_3, .bool x106001_3, .slice Ao21 x106002_3.length co21, .int .i64 x106003_3]) ?_ 0 _ rfl; (with_reducible repeat (first | refine blk_drewN ?_ _ | refine blk_drew ?_ | refine blk_alloc ?_ _)); exact BK105.out⟩, ⟨bG HB.out⟩⟩

end Go.Proofs.YtepcegiciecogaaGreat.FN
