/- Written by the session's fprint.py out of the translation. -/
import Derived.Test.YtepcegiciecogaaGreatFCx0
import Derived.Test.YtepcegiciecogaaGreatFCx1
namespace Go.Proofs.YtepcegiciecogaaGreat.FC
open Go.RowKit Go.Proofs.YtepcegiciecogaaGreatW.PrintWords Go.Proofs.YtepcegiciecogaaGreatW.PrintLast Go.Proofs.YtepcegiciecogaaGreatW.PrintMore
attribute [local go_sem] max2_int min2_int max_two min_two max_three min_three max_four min_four   -- for this text's walks alone
open Go.Proofs.YtepcegiciecogaaGreat.FX Go.Proofs.YtepcegiciecogaaGreat.FB
attribute [local go_sem] run_store_float run_neg_float run_fmul isSome_setCell run_equalIn_float
set_option linter.unusedVariables false
set_option linter.unusedSimpArgs false

attribute [local go_sem high] eqA46
/-! ### tenorlaw14_awake: function 8 -/
def tenorlaw14_awake.f (k : Nat)  : Option (Bool) := (some (([(⟨5, (4613937818241073152 : Nat), 2⟩ : S46), (⟨5, (4607182418800017408 : Nat), 1⟩ : S46), (⟨5, (4611686018427387904 : Nat), 1⟩ : S46)] : List (S46)) : List (S46))).bind fun y101 => ((flow_Net.f k y101).bind fun bt104 => ((flow_Give.f k y101).bind fun t108 => ((flow_Scale.f k (4611686018427387904 : Nat) y101).bind fun bt111 => (if bt104.2 = 0 then (if bt111.2 = 0 then (if (bt104.1.length : Int) = 2 then (if 0 < (bt104.1.length : Int) then (if (((rd_T46 bt104.1 0).f0) == 5 && (FloatKind.f64.format.order ((rd_T46 bt104.1 0).f1) (4613937818241073152 : Nat) == some .eq && (((rd_T46 bt104.1 0).f2) == 1))) = true then (if (t108.length : Int) = 3 then (if 0 < (t108.length : Int) then (if (FloatKind.f64.format.order ((rd_T46 t108 0).f1) (13837309855095848960 : Nat) == some .eq) = true then (if (bt111.1.length : Int) = 3 then (if 2 < (bt111.1.length : Int) then (if (FloatKind.f64.format.order ((rd_T46 bt111.1 2).f1) (4616189618054758400 : Nat) == some .eq) = true then ((flow_Window.f y101 5 6).bind fun t118 => (if (t118.length : Int) = 3 then ((flow_Window.f y101 6 9).bind fun t121 => (some ((t121.length : Int) == 0))) else (none))) else (none)) else (none)) else (none)) else (none)) else (none)) else (none)) else (none)) else (none)) else (none)) else (none)) else (none)))))
set_option maxHeartbeats 8000000 in
set_option maxRecDepth 100000 in
theorem tenorlaw14_awake.calls (k : Nat)  (r : Bool) (w : World) (h : tenorlaw14_awake.f k  = some r) :
    Calls Tryz.prog 8 #[] w fun e w' => e = .returned (.bool r) ∧ Below w.heap.size w w' := by
  have hu46 := Tryz.underlying46
  have HB := Aside0.mk (Below.refl w.heap.size w)
  have H : ((some (([(⟨5, (4613937818241073152 : Nat), 2⟩ : S46), (⟨5, (4607182418800017408 : Nat), 1⟩ : S46), (⟨5, (4611686018427387904 : Nat), 1⟩ : S46)] : List (S46)) : List (S46))).bind fun y101 => ((flow_Net.f k y101).bind fun bt104 => ((flow_Give.f k y101).bind fun t108 => ((flow_Scale.f k (4611686018427387904 : Nat) y101).bind fun bt111 => (if bt104.2 = 0 then (if bt111.2 = 0 then (if (bt104.1.length : Int) = 2 then (if 0 < (bt104.1.length : Int) then (if (((rd_T46 bt104.1 0).f0) == 5 && (FloatKind.f64.format.order ((rd_T46 bt104.1 0).f1) (4613937818241073152 : Nat) == some .eq && (((rd_T46 bt104.1 0).f2) == 1))) = true then (if (t108.length : Int) = 3 then (if 0 < (t108.length : Int) then (if (FloatKind.f64.format.order ((rd_T46 t108 0).f1) (13837309855095848960 : Nat) == some .eq) = true then (if (bt111.1.length : Int) = 3 then (if 2 < (bt111.1.length : Int) then (if (FloatKind.f64.format.order ((rd_T46 bt111.1 2).f1) (4616189618054758400 : Nat) == some .eq) = true then ((flow_Window.f y101 5 6).bind fun t118 => (if (t118.length : Int) = 3 then ((flow_Window.f y101 6 9).bind fun t121 => (some ((t121.length : Int) == 0))) else (none))) else (none)) else (none)) else (none)) else (none)) else (none)) else (none)) else (none)) else (none)) else (none)) else (none)) else (none)))))) = some r := h
  clear h
  obtain ⟨y101, hy101⟩ : ∃ y_ : List (S46), y_ = (([(⟨5, (4613937818241073152 : Nat), 2⟩ : S46), (⟨5, (4607182418800017408 : Nat), 1⟩ : S46), (⟨5, (4611686018427387904 : Nat), 1⟩ : S46)] : List (S46))) := ⟨_, rfl⟩
  replace H : ((flow_Net.f k y101).bind fun bt104 => ((flow_Give.f k y101).bind fun t108 => ((flow_Scale.f k (4611686018427387904 : Nat) y101).bind fun bt111 => (if bt104.2 = 0 then (if bt111.2 = 0 then (if (bt104.1.length : Int) = 2 then (if 0 < (bt104.1.length : Int) then (if (((rd_T46 bt104.1 0).f0) == 5 && (FloatKind.f64.format.order ((rd_T46 bt104.1 0).f1) (4613937818241073152 : Nat) == some .eq && (((rd_T46 bt104.1 0).f2) == 1))) = true then (if (t108.length : Int) = 3 then (if 0 < (t108.length : Int) then (if (FloatKind.f64.format.order ((rd_T46 t108 0).f1) (13837309855095848960 : Nat) == some .eq) = true then (if (bt111.1.length : Int) = 3 then (if 2 < (bt111.1.length : Int) then (if (FloatKind.f64.format.order ((rd_T46 bt111.1 2).f1) (4616189618054758400 : Nat) == some .eq) = true then ((flow_Window.f y101 5 6).bind fun t118 => (if (t118.length : Int) = 3 then ((flow_Window.f y101 6 9).bind fun t121 => (some ((t121.length : Int) == 0))) else (none))) else (none)) else (none)) else (none)) else (none)) else (none)) else (none)) else (none)) else (none)) else (none)) else (none)) else (none))))) = some r := by first | (rw [hy101]; with_reducible exact H) | (have H2_ := (Option.bind_some _ _).symm.trans H; rw [hy101]; with_reducible exact H2_) | (have H2_ := (Option.bind_some _ _).symm.trans H; with_reducible exact H2_) | with_reducible exact H | (rw [hy101]; exact H) | exact H
  have Ny101 := Aside0.mk hy101
  clear hy101
  replace H := Option.bind_eq_some_iff.mp H
  obtain ⟨⟨t104, t105⟩, A10, H⟩ := H
  have A1 := Aside0.mk A10
  clear A10
  replace H := Option.bind_eq_some_iff.mp H
  obtain ⟨t108, A20, H⟩ := H
  have A2 := Aside0.mk A20
  clear A20
  replace H := Option.bind_eq_some_iff.mp H
  obtain ⟨⟨t111, t112⟩, A30, H⟩ := H
  have A3 := Aside0.mk A30
  clear A30
  by_cases c4 : t105 = 0
  rotate_left
  · rw [if_neg c4] at H
    exact absurd H (by simp)
  rw [if_pos c4] at H
  have c4b0 : (t105 == 0) = true := beq_iff_eq.mpr c4
  have c4b1 : (t105 != 0) = false := bne_eq_false_iff_eq.mpr c4
  clear c4
  by_cases c5 : t112 = 0
  rotate_left
  · rw [if_neg c5] at H
    exact absurd H (by simp)
  rw [if_pos c5] at H
  have c5b0 : (t112 == 0) = true := beq_iff_eq.mpr c5
  have c5b1 : (t112 != 0) = false := bne_eq_false_iff_eq.mpr c5
  clear c5
  by_cases c6 : (t104.length : Int) = 2
  rotate_left
  · rw [if_neg c6] at H
    exact absurd H (by simp)
  rw [if_pos c6] at H
  have c6b0 : ((t104.length : Int) == 2) = true := beq_iff_eq.mpr c6
  have c6b1 : ((t104.length : Int) != 2) = false := bne_eq_false_iff_eq.mpr c6
  clear c6
  by_cases c7 : 0 < (t104.length : Int)
  rotate_left
  · rw [if_neg c7] at H
    exact absurd H (by simp)
  rw [if_pos c7] at H
  have c7b0 : decide (0 < (t104.length : Int)) = true := decide_eq_true c7
  have c7b1 : decide (0 < t104.length) = true := decide_eq_true (by omega)
  clear c7
  by_cases c8 : (((rd_T46 t104 0).f0) == 5 && (FloatKind.f64.format.order ((rd_T46 t104 0).f1) (4613937818241073152 : Nat) == some .eq && (((rd_T46 t104 0).f2) == 1))) = true
  rotate_left
  · rw [if_neg c8] at H
    exact absurd H (by simp)
  rw [if_pos c8] at H
  have c8b0 : (((rd_T46 t104 0).f0) == 5 && (FloatKind.f64.format.order ((rd_T46 t104 0).f1) (4613937818241073152 : Nat) == some .eq && (((rd_T46 t104 0).f2) == 1))) = true := c8
  (try (have c8b1 : decide (((rd_T46 t104 0).f0) = 5 && (FloatKind.f64.format.order ((rd_T46 t104 0).f1) (4613937818241073152 : Nat) == some .eq && (((rd_T46 t104 0).f2) == 1))) = true := by simpa using c8))
  (try (have c8b2 : (((rd_T46 t104 0).f0) == 5 && (FloatKind.f64.format.order ((rd_T46 t104 0).f1) (4613937818241073152 : Nat) == some .eq && (((rd_T46 t104 0).f2) == 1))) = true := by simpa using c8))
  clear c8
  by_cases c9 : (t108.length : Int) = 3
  rotate_left
  · rw [if_neg c9] at H
    exact absurd H (by simp)
  rw [if_pos c9] at H
  have c9b0 : ((t108.length : Int) == 3) = true := beq_iff_eq.mpr c9
  have c9b1 : ((t108.length : Int) != 3) = false := bne_eq_false_iff_eq.mpr c9
  clear c9
  by_cases c10 : 0 < (t108.length : Int)
  rotate_left
  · rw [if_neg c10] at H
    exact absurd H (by simp)
  rw [if_pos c10] at H
  have c10b0 : decide (0 < (t108.length : Int)) = true := decide_eq_true c10
  have c10b1 : decide (0 < t108.length) = true := decide_eq_true (by omega)
  clear c10
  by_cases c11 : (FloatKind.f64.format.order ((rd_T46 t108 0).f1) (13837309855095848960 : Nat) == some .eq) = true
  rotate_left
  · rw [if_neg c11] at H
    exact absurd H (by simp)
  rw [if_pos c11] at H
  have c11b0 : (FloatKind.f64.format.order ((rd_T46 t108 0).f1) (13837309855095848960 : Nat) == some .eq) = true := c11
  (try (have c11b1 : decide (FloatKind.f64.format.order ((rd_T46 t108 0).f1) (13837309855095848960 : Nat) = some .eq) = true := by simpa using c11))
  (try (have c11b2 : (FloatKind.f64.format.order ((rd_T46 t108 0).f1) (13837309855095848960 : Nat) == some .eq) = true := by simpa using c11))
  clear c11
  by_cases c12 : (t111.length : Int) = 3
  rotate_left
  · rw [if_neg c12] at H
    exact absurd H (by simp)
  rw [if_pos c12] at H
  have c12b0 : ((t111.length : Int) == 3) = true := beq_iff_eq.mpr c12
  have c12b1 : ((t111.length : Int) != 3) = false := bne_eq_false_iff_eq.mpr c12
  clear c12
  by_cases c13 : 2 < (t111.length : Int)
  rotate_left
  · rw [if_neg c13] at H
    exact absurd H (by simp)
  rw [if_pos c13] at H
  have c13b0 : decide (2 < (t111.length : Int)) = true := decide_eq_true c13
  have c13b1 : decide (2 < t111.length) = true := decide_eq_true (by omega)
  clear c13
  by_cases c14 : (FloatKind.f64.format.order ((rd_T46 t111 2).f1) (4616189618054758400 : Nat) == some .eq) = true
  rotate_left
  · rw [if_neg c14] at H
    exact absurd H (by simp)
  rw [if_pos c14] at H
  have c14b0 : (FloatKind.f64.format.order ((rd_T46 t111 2).f1) (4616189618054758400 : Nat) == some .eq) = true := c14
  (try (have c14b1 : decide (FloatKind.f64.format.order ((rd_T46 t111 2).f1) (4616189618054758400 : Nat) = some .eq) = true := by simpa using c14))
  (try (have c14b2 : (FloatKind.f64.format.order ((rd_T46 t111 2).f1) (4616189618054758400 : Nat) == some .eq) = true := by simpa using c14))
  clear c14
  replace H := Option.bind_eq_some_iff.mp H
  obtain ⟨t118, A150, H⟩ := H
  have A15 := Aside0.mk A150
  clear A150
  by_cases c16 : (t118.length : Int) = 3
  rotate_left
  · rw [if_neg c16] at H
    exact absurd H (by simp)
  rw [if_pos c16] at H
  have c16b0 : ((t118.length : Int) == 3) = true := beq_iff_eq.mpr c16
  have c16b1 : ((t118.length : Int) != 3) = false := bne_eq_false_iff_eq.mpr c16
  clear c16
  replace H := Option.bind_eq_some_iff.mp H
  obtain ⟨t121, A170, H⟩ := H
  have A17 := Aside0.mk A170
  clear A170
  obtain rfl := Option.some.inj H
  go_enter Tryz.func8, Tryz.ntmps8
  go_wp2_with (first | ((with_reducible refine gate_dst (N := 10) rfl ?_); (try (refine gate_guard (by rfl) ?_; dsimp only)); refine Kd.R_lit k46 _ 46 ?hg (N := 10) ?hd (xs := ([(⟨5, (4613937818241073152 : Nat), 2⟩ : S46), (⟨5, (4607182418800017408 : Nat), 1⟩ : S46), (⟨5, (4611686018427387904 : Nat), 1⟩ : S46)] : List (S46))) (inner := [.int .i64 5, .float .f64 (4613937818241073152 : Nat), .int .i64 2, .int .i64 5, .float .f64 (4607182418800017408 : Nat), .int .i64 1, .int .i64 5, .float .f64 (4611686018427387904 : Nat), .int .i64 1]) (ok := fun _ => True) (okp := fun _ => True) ?hr ?hp (fun _ hk => hk) trivial (Below.refl _ _) (Nat.le_refl _) (by simp) ?_; (case hd => rfl); (case hg => rfl); (case hr => first | (go_simp; done) | (go_simp; rfl)); (case hp => exact (Reps.c3 (show Kd.M k46 _ _ _ (⟨5, (4613937818241073152 : Nat), 2⟩ : S46) [.int .i64 5, .float .f64 (4613937818241073152 : Nat), .int .i64 2] from (k46_mkM _ _ _ (⟨5, (4613937818241073152 : Nat), 2⟩ : S46) )) (Reps.c3 (show Kd.M k46 _ _ _ (⟨5, (4607182418800017408 : Nat), 1⟩ : S46) [.int .i64 5, .float .f64 (4607182418800017408 : Nat), .int .i64 1] from (k46_mkM _ _ _ (⟨5, (4607182418800017408 : Nat), 1⟩ : S46) )) (Reps.c3 (show Kd.M k46 _ _ _ (⟨5, (4611686018427387904 : Nat), 1⟩ : S46) [.int .i64 5, .float .f64 (4611686018427387904 : Nat), .int .i64 1] from (k46_mkM _ _ _ (⟨5, (4611686018427387904 : Nat), 1⟩ : S46) )) (Reps.none _ _))))); intro v102 w18 ho19 hb hg_ hnew_; clear hg_ hnew_; (first | rw [← Ny101.out] at ho19 | (simp only [Int.reduceToNat] at ho19; rw [← Ny101.out] at ho19)); have n0_ := Aside0.mk (Kd.R_lower ho19 (below_size (bA HB.out))); have n1_ := Aside0.mk (below_step (bA HB.out) hb); clear HB; have HO103 := n0_; have HB := n1_; clear n0_ n1_; clear hb ho19; obtain ⟨Ao20, co20, eo20⟩ := Kd.R_slice HO103.out; subst eo20) | ((with_reducible refine gate_callee (f := 9) rfl ?_); refine goesL_ (some 13) rfl rfl Tryz.func9 (by kernel_rfl) rfl #[.slice Ao20 y101.length co20] rfl mA ?_; (with_reducible refine (flow_Net.calls k _ _ y101 t104 t105 _ ?side1 ?side2 A1.out).mono ?_); (case side1 => exact cA ((Kd.R_reads' HO103.out).2.2)); (case side2 => exact (Kd.R_reads' HO103.out).2.1); rintro e w21 ⟨v106, rfl, ho0, hb⟩; refine ⟨_, rfl, ?_⟩; have n0_ := Aside0.mk (Kd.R_elder' (rA HO103.out) (Kd.R_base ho0) hb); have n1_ := Aside0.mk (Kd.R_lower (Kd.R_new' ho0 (Kd.R_lt (rA HO103.out))) (below_size (bA HB.out))); have n2_ := Aside0.mk (below_step (bA HB.out) hb); clear HO103; clear HB; have HO103 := n0_; have HO107 := n1_; have HB := n2_; clear n0_ n1_ n2_; (try clear hb); (try clear hb2); (try clear hk); (try clear hi); (try clear ho0)) | ((with_reducible refine gate_callee (f := 18) rfl ?_); refine goesL_ (some 17) rfl rfl Tryz.func18 (by kernel_rfl) rfl #[.slice Ao20 y101.length co20] rfl mA ?_; (with_reducible refine (flow_Give.calls k _ _ y101 t108 _ ?side1 ?side2 A2.out).mono ?_); (case side1 => exact cA ((Kd.R_reads' HO103.out).2.2)); (case side2 => exact (Kd.R_reads' HO103.out).2.1); rintro e w22 ⟨v109, rfl, ho0, hb⟩; refine ⟨_, rfl, ?_⟩; have n0_ := Aside0.mk (Kd.R_elder' (rA HO103.out) (Kd.R_base ho0) hb); have n1_ := Aside0.mk (Kd.R_elder' (rA HO107.out) (Kd.R_base ho0) hb); have n2_ := Aside0.mk (Kd.R_lower (Kd.R_new' (Kd.R_new' ho0 (Kd.R_lt (rA HO103.out))) (Kd.R_lt (rA HO107.out))) (below_size (bA HB.out))); have n3_ := Aside0.mk (below_step (bA HB.out) hb); clear HO103; clear HO107; clear HB; have HO103 := n0_; have HO107 := n1_; have HO110 := n2_; have HB := n3_; clear n0_ n1_ n2_ n3_; (try clear hb); (try clear hb2); (try clear hk); (try clear hi); (try clear ho0)) | ((with_reducible refine gate_callee (f := 13) rfl ?_); refine goesL_ (some 20) rfl rfl Tryz.func13 (by kernel_rfl) rfl #[.float .f64 (4611686018427387904 : Nat), .slice Ao20 y101.length co20] rfl mA ?_; (with_reducible refine (flow_Scale.calls k (4611686018427387904 : Nat) _ _ y101 t111 t112 _ ?side1 ?side2 A3.out).mono ?_); (case side1 => exact cA ((Kd.R_reads' HO103.out).2.2)); (case side2 => exact (Kd.R_reads' HO103.out).2.1); rintro e w23 ⟨v113, rfl, ho0, hb⟩; refine ⟨_, rfl, ?_⟩; have n0_ := Aside0.mk (Kd.R_elder' (rA HO103.out) (Kd.R_base ho0) hb); have n1_ := Aside0.mk (Kd.R_elder' (rA HO107.out) (Kd.R_base ho0) hb); have n2_ := Aside0.mk (Kd.R_elder' (rA HO110.out) (Kd.R_base ho0) hb); have n3_ := Aside0.mk (Kd.R_lower (Kd.R_new' (Kd.R_new' (Kd.R_new' ho0 (Kd.R_lt (rA HO103.out))) (Kd.R_lt (rA HO107.out))) (Kd.R_lt (rA HO110.out))) (below_size (bA HB.out))); have n4_ := Aside0.mk (below_step (bA HB.out) hb); clear HO103; clear HO107; clear HO110; clear HB; have HO103 := n0_; have HO107 := n1_; have HO110 := n2_; have HO114 := n3_; have HB := n4_; clear n0_ n1_ n2_ n3_ n4_; (try clear hb); (try clear hb2); (try clear hk); (try clear hi); (try clear ho0); obtain ⟨Ao24, co24, eo24⟩ := Kd.R_slice HO107.out; subst eo24; have p115 : 0 ≤ (0 : Int) := (by omega); have q115 : 0 < (t104.length : Int) := of_decide_eq_true asA; obtain ⟨ad115, e115, hx115_0, hx115_1, hx115_2⟩ := at_T46 (Kd.R_reads' HO107.out).2.2 0 p115 q115; cases e115; have qi115 : (0 < t104.length) = True := eq_true (by omega); (try rw [show ((0 : Int)).toNat = 0 from rfl] at hx115_0); (try rw [show 0 * 3 = 0 from rfl] at hx115_0); (try rw [Addr.add_zero'] at hx115_0); (try rw [show ((0 : Int)).toNat = 0 from rfl] at hx115_1); (try rw [show 0 * 3 = 0 from rfl] at hx115_1); (try rw [Addr.add_zero'] at hx115_1); (try rw [show ((0 : Int)).toNat = 0 from rfl] at hx115_2); (try rw [show 0 * 3 = 0 from rfl] at hx115_2); (try rw [Addr.add_zero'] at hx115_2); replace p115 := eq_true p115; replace q115 := eq_true q115; obtain ⟨Ao25, co25, eo25⟩ := Kd.R_slice HO110.out; subst eo25; have p116 : 0 ≤ (0 : Int) := (by omega); have q116 : 0 < (t108.length : Int) := of_decide_eq_true asA; obtain ⟨ad116, e116, hx116_0, hx116_1, hx116_2⟩ := at_T46 (Kd.R_reads' HO110.out).2.2 0 p116 q116; cases e116; have qi116 : (0 < t108.length) = True := eq_true (by omega); (try rw [show ((0 : Int)).toNat = 0 from rfl] at hx116_0); (try rw [show 0 * 3 = 0 from rfl] at hx116_0); (try rw [Addr.add_zero'] at hx116_0); (try rw [show ((0 : Int)).toNat = 0 from rfl] at hx116_1); (try rw [show 0 * 3 = 0 from rfl] at hx116_1); (try rw [Addr.add_zero'] at hx116_1); (try rw [show ((0 : Int)).toNat = 0 from rfl] at hx116_2); (try rw [show 0 * 3 = 0 from rfl] at hx116_2); (try rw [Addr.add_zero'] at hx116_2); replace p116 := eq_true p116; replace q116 := eq_true q116; obtain ⟨Ao26, co26, eo26⟩ := Kd.R_slice HO114.out; subst eo26; have p117 : 0 ≤ (2 : Int) := (by omega); have q117 : 2 < (t111.length : Int) := of_decide_eq_true asA; obtain ⟨ad117, e117, hx117_0, hx117_1, hx117_2⟩ := at_T46 (Kd.R_reads' HO114.out).2.2 2 p117 q117; cases e117; (try simp only [show (2 : Int).toNat = 2 from rfl, Nat.reduceMul, Nat.reduceEqDiff, Go.Addr.add, ↓reduceIte] at hx117_0); (try simp only [show (2 : Int).toNat = 2 from rfl, Nat.reduceMul, Nat.reduceEqDiff, Go.Addr.add, ↓reduceIte] at hx117_1); (try simp only [show (2 : Int).toNat = 2 from rfl, Nat.reduceMul, Nat.reduceEqDiff, Go.Addr.add, ↓reduceIte] at hx117_2); have qi117 : (2 < t111.length) = True := eq_true (by omega); (try rw [show ((2 : Int)).toNat = 2 from rfl] at hx117_0); (try rw [show 2 * 3 = 6 from rfl] at hx117_0); (try rw [show ((2 : Int)).toNat = 2 from rfl] at hx117_1); (try rw [show 2 * 3 = 6 from rfl] at hx117_1); (try rw [show ((2 : Int)).toNat = 2 from rfl] at hx117_2); (try rw [show 2 * 3 = 6 from rfl] at hx117_2); replace p117 := eq_true p117; replace q117 := eq_true q117) | (go_at_call 20; (with_reducible refine (flow_Window.calls _ _ y101 5 6 t118 _ ?side1 ?side2 A15.out).mono ?_); (case side1 => exact cA ((Kd.R_reads' HO103.out).2.2)); (case side2 => exact (Kd.R_reads' HO103.out).2.1); rintro e w27 ⟨v119, rfl, ho0, hb⟩; have n0_ := Aside0.mk (Kd.R_below (rA HO103.out) hb); have n1_ := Aside0.mk (Kd.R_below (rA HO107.out) hb); have n2_ := Aside0.mk (Kd.R_below (rA HO110.out) hb); have n3_ := Aside0.mk (Kd.R_below (rA HO114.out) hb); have n4_ := Aside0.mk (Kd.V_lower (Kd.V_mono (ok' := fun k_ => some k_ ≠ (.slice Ao20 y101.length co20 : Value).ownBlock ∧ some k_ ≠ (.slice (some ad115) t104.length co24 : Value).ownBlock ∧ some k_ ≠ (.slice (some ad116) t108.length co25 : Value).ownBlock ∧ some k_ ≠ (.slice (some ad117) t111.length co26 : Value).ownBlock) (V_bnd ho0) (fun k_ hk_ => ⟨(Kd.fresh' (Kd.R_lt (rA HO103.out)) k_ hk_.2.1), (Kd.fresh' (Kd.R_lt (rA HO107.out)) k_ hk_.2.1), (Kd.fresh' (Kd.R_lt (rA HO110.out)) k_ hk_.2.1), (Kd.fresh' (Kd.R_lt (rA HO114.out)) k_ hk_.2.1)⟩)) (below_size (bA HB.out))); have n5_ := Aside0.mk (below_step (bA HB.out) hb); clear HO103; clear HO107; clear HO110; clear HO114; clear HB; have HO103 := n0_; have HO107 := n1_; have HO110 := n2_; have HO114 := n3_; have HO120 := n4_; have HB := n5_; clear n0_ n1_ n2_ n3_ n4_ n5_; (try clear hb); (try clear hb2); (try clear hk); (try clear hi); (try clear ho0); obtain ⟨Ao28, co28, eo28⟩ := Kd.V_slice HO120.out; subst eo28) | (go_at_call 20; (with_reducible refine (flow_Window.calls _ _ y101 6 9 t121 _ ?side1 ?side2 A17.out).mono ?_); (case side1 => exact cA ((Kd.R_reads' HO103.out).2.2)); (case side2 => exact (Kd.R_reads' HO103.out).2.1); rintro e w29 ⟨v122, rfl, ho0, hb⟩; have n0_ := Aside0.mk (Kd.R_below (rA HO103.out) hb); have n1_ := Aside0.mk (Kd.R_below (rA HO107.out) hb); have n2_ := Aside0.mk (Kd.R_below (rA HO110.out) hb); have n3_ := Aside0.mk (Kd.R_below (rA HO114.out) hb); have n4_ := Aside0.mk (Kd.V_below (by (with_reducible repeat (first | apply Kd.V_alloc | apply Kd.V_drewN | apply Kd.V_drew)); exact HO120.out) hb); have n5_ := Aside0.mk (Kd.V_lower (Kd.V_mono (ok' := fun k_ => some k_ ≠ (.slice Ao20 y101.length co20 : Value).ownBlock ∧ some k_ ≠ (.slice (some ad115) t104.length co24 : Value).ownBlock ∧ some k_ ≠ (.slice (some ad116) t108.length co25 : Value).ownBlock ∧ some k_ ≠ (.slice (some ad117) t111.length co26 : Value).ownBlock) (V_bnd ho0) (fun k_ hk_ => ⟨(Kd.fresh' (Kd.R_lt (rA HO103.out)) k_ hk_.2.1), (Kd.fresh' (Kd.R_lt (rA HO107.out)) k_ hk_.2.1), (Kd.fresh' (Kd.R_lt (rA HO110.out)) k_ hk_.2.1), (Kd.fresh' (Kd.R_lt (rA HO114.out)) k_ hk_.2.1)⟩)) (below_size (bA HB.out))); have n6_ := Aside0.mk (below_step (bA HB.out) hb); clear HO103; clear HO107; clear HO110; clear HO114; clear HO120; clear HB; have HO103 := n0_; have HO107 := n1_; have HO110 := n2_; have HO114 := n3_; have HO120 := n4_; have HO123 := n5_; have HB := n6_; clear n0_ n1_ n2_ n3_ n4_ n5_ n6_; (try clear hb); (try clear hb2); (try clear hk); (try clear hi); (try clear ho0); obtain ⟨Ao30, co30, eo30⟩ := Kd.V_slice HO123.out; subst eo30))
  go_ret
  exact ⟨by first | rfl | (simp [errW_none, errW_some] <;> rfl) | (simp [*, errW_none, errW_some] <;> rfl), bA HB.out⟩

end Go.Proofs.YtepcegiciecogaaGreat.FC
