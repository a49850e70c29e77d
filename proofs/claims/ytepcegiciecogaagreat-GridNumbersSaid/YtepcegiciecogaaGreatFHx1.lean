/- Written by the session's fprint.py out of the translation. -/
import Derived.Test.YtepcegiciecogaaGreatFHx0
namespace Go.Proofs.YtepcegiciecogaaGreat.FH
open Go.RowKit Go.Proofs.YtepcegiciecogaaGreatW.PrintWords Go.Proofs.YtepcegiciecogaaGreatW.PrintLast Go.Proofs.YtepcegiciecogaaGreatW.PrintMore
attribute [local go_sem] max2_int min2_int max_two min_two max_three min_three max_four min_four   -- for this text's walks alone
open Go.Proofs.YtepcegiciecogaaGreat.FX Go.Proofs.YtepcegiciecogaaGreat.FG
attribute [local go_sem] run_store_float run_neg_float run_fmul isSome_setCell 
set_option linter.unusedVariables false
set_option linter.unusedSimpArgs false

/-! ### tenorlaw25_awake: function 22 -/
def tenorlaw25_awake.f (k : Nat)  : Option (Bool) := (grid_Quantile.f k (([(4613937818241073152 : Nat), (4607182418800017408 : Nat), (4611686018427387904 : Nat)] : List Nat)) 1 2).bind fun bt104 => ((grid_Worst.f k (([(4613937818241073152 : Nat), (4607182418800017408 : Nat), (4607182418800017408 : Nat)] : List Nat))).bind fun bt109 => ((grid_Mean.f k (([(4607182418800017408 : Nat), (4611686018427387904 : Nat), (4616189618054758400 : Nat)] : List Nat))).bind fun bt114 => ((grid_Count.f k (([(4607182418800017408 : Nat), (4611686018427387904 : Nat), (4613937818241073152 : Nat), (4616189618054758400 : Nat)] : List Nat)) (([(4611686018427387904 : Nat), (4616189618054758400 : Nat)] : List Nat))).bind fun bt122 => (if bt104.2 = 0 then (if bt109.2 = 0 then (if bt114.2 = 0 then (if bt122.2 = 0 then (if (FloatKind.f64.format.order bt104.1 (4611686018427387904 : Nat) == some .eq) = true then (if bt109.1 = 1 then (if (FloatKind.f64.format.order bt114.1 (4612436618365282987 : Nat) == some .eq) = true then (if (bt122.1.length : Int) = 3 then (if 1 < (bt122.1.length : Int) then (some ((rd bt122.1 1) == 2)) else (none)) else (none)) else (none)) else (none)) else (none)) else (none)) else (none)) else (none)) else (none)))))
set_option maxHeartbeats 8000000 in
set_option maxRecDepth 100000 in
theorem tenorlaw25_awake.calls (k : Nat)  (r : Bool) (w : World) (h : tenorlaw25_awake.f k  = some r) :
    Calls Tryz.prog 22 #[] w fun e w' => e = .returned (.bool r) ∧ Below w.heap.size w w' := by
  have HB := Aside0.mk (Below.refl w.heap.size w)
  have H : ((grid_Quantile.f k (([(4613937818241073152 : Nat), (4607182418800017408 : Nat), (4611686018427387904 : Nat)] : List Nat)) 1 2).bind fun bt104 => ((grid_Worst.f k (([(4613937818241073152 : Nat), (4607182418800017408 : Nat), (4607182418800017408 : Nat)] : List Nat))).bind fun bt109 => ((grid_Mean.f k (([(4607182418800017408 : Nat), (4611686018427387904 : Nat), (4616189618054758400 : Nat)] : List Nat))).bind fun bt114 => ((grid_Count.f k (([(4607182418800017408 : Nat), (4611686018427387904 : Nat), (4613937818241073152 : Nat), (4616189618054758400 : Nat)] : List Nat)) (([(4611686018427387904 : Nat), (4616189618054758400 : Nat)] : List Nat))).bind fun bt122 => (if bt104.2 = 0 then (if bt109.2 = 0 then (if bt114.2 = 0 then (if bt122.2 = 0 then (if (FloatKind.f64.format.order bt104.1 (4611686018427387904 : Nat) == some .eq) = true then (if bt109.1 = 1 then (if (FloatKind.f64.format.order bt114.1 (4612436618365282987 : Nat) == some .eq) = true then (if (bt122.1.length : Int) = 3 then (if 1 < (bt122.1.length : Int) then (some ((rd bt122.1 1) == 2)) else (none)) else (none)) else (none)) else (none)) else (none)) else (none)) else (none)) else (none)) else (none)))))) = some r := h
  clear h
  obtain ⟨y101, hy101⟩ : ∃ y_ : List Nat, y_ = (([(4613937818241073152 : Nat), (4607182418800017408 : Nat), (4611686018427387904 : Nat)] : List Nat)) := ⟨_, rfl⟩
  replace H : ((grid_Quantile.f k y101 1 2).bind fun bt104 => ((grid_Worst.f k (([(4613937818241073152 : Nat), (4607182418800017408 : Nat), (4607182418800017408 : Nat)] : List Nat))).bind fun bt109 => ((grid_Mean.f k (([(4607182418800017408 : Nat), (4611686018427387904 : Nat), (4616189618054758400 : Nat)] : List Nat))).bind fun bt114 => ((grid_Count.f k (([(4607182418800017408 : Nat), (4611686018427387904 : Nat), (4613937818241073152 : Nat), (4616189618054758400 : Nat)] : List Nat)) (([(4611686018427387904 : Nat), (4616189618054758400 : Nat)] : List Nat))).bind fun bt122 => (if bt104.2 = 0 then (if bt109.2 = 0 then (if bt114.2 = 0 then (if bt122.2 = 0 then (if (FloatKind.f64.format.order bt104.1 (4611686018427387904 : Nat) == some .eq) = true then (if bt109.1 = 1 then (if (FloatKind.f64.format.order bt114.1 (4612436618365282987 : Nat) == some .eq) = true then (if (bt122.1.length : Int) = 3 then (if 1 < (bt122.1.length : Int) then (some ((rd bt122.1 1) == 2)) else (none)) else (none)) else (none)) else (none)) else (none)) else (none)) else (none)) else (none)) else (none)))))) = some r := by first | (rw [hy101]; with_reducible exact H) | (have H2_ := (Option.bind_some _ _).symm.trans H; rw [hy101]; with_reducible exact H2_) | (have H2_ := (Option.bind_some _ _).symm.trans H; with_reducible exact H2_) | with_reducible exact H | (rw [hy101]; exact H) | exact H
  have Ny101 := Aside0.mk hy101
  clear hy101
  replace H := Option.bind_eq_some_iff.mp H
  obtain ⟨⟨t104, t105⟩, A10, H⟩ := H
  have A1 := Aside0.mk A10
  clear A10
  obtain ⟨y106, hy106⟩ : ∃ y_ : List Nat, y_ = (([(4613937818241073152 : Nat), (4607182418800017408 : Nat), (4607182418800017408 : Nat)] : List Nat)) := ⟨_, rfl⟩
  replace H : ((grid_Worst.f k y106).bind fun bt109 => ((grid_Mean.f k (([(4607182418800017408 : Nat), (4611686018427387904 : Nat), (4616189618054758400 : Nat)] : List Nat))).bind fun bt114 => ((grid_Count.f k (([(4607182418800017408 : Nat), (4611686018427387904 : Nat), (4613937818241073152 : Nat), (4616189618054758400 : Nat)] : List Nat)) (([(4611686018427387904 : Nat), (4616189618054758400 : Nat)] : List Nat))).bind fun bt122 => (if t105 = 0 then (if bt109.2 = 0 then (if bt114.2 = 0 then (if bt122.2 = 0 then (if (FloatKind.f64.format.order t104 (4611686018427387904 : Nat) == some .eq) = true then (if bt109.1 = 1 then (if (FloatKind.f64.format.order bt114.1 (4612436618365282987 : Nat) == some .eq) = true then (if (bt122.1.length : Int) = 3 then (if 1 < (bt122.1.length : Int) then (some ((rd bt122.1 1) == 2)) else (none)) else (none)) else (none)) else (none)) else (none)) else (none)) else (none)) else (none)) else (none))))) = some r := by first | (rw [hy106]; with_reducible exact H) | (have H2_ := (Option.bind_some _ _).symm.trans H; rw [hy106]; with_reducible exact H2_) | (have H2_ := (Option.bind_some _ _).symm.trans H; with_reducible exact H2_) | with_reducible exact H | (rw [hy106]; exact H) | exact H
  have Ny106 := Aside0.mk hy106
  clear hy106
  replace H := Option.bind_eq_some_iff.mp H
  obtain ⟨⟨t109, t110⟩, A20, H⟩ := H
  have A2 := Aside0.mk A20
  clear A20
  obtain ⟨y111, hy111⟩ : ∃ y_ : List Nat, y_ = (([(4607182418800017408 : Nat), (4611686018427387904 : Nat), (4616189618054758400 : Nat)] : List Nat)) := ⟨_, rfl⟩
  replace H : ((grid_Mean.f k y111).bind fun bt114 => ((grid_Count.f k (([(4607182418800017408 : Nat), (4611686018427387904 : Nat), (4613937818241073152 : Nat), (4616189618054758400 : Nat)] : List Nat)) (([(4611686018427387904 : Nat), (4616189618054758400 : Nat)] : List Nat))).bind fun bt122 => (if t105 = 0 then (if t110 = 0 then (if bt114.2 = 0 then (if bt122.2 = 0 then (if (FloatKind.f64.format.order t104 (4611686018427387904 : Nat) == some .eq) = true then (if t109 = 1 then (if (FloatKind.f64.format.order bt114.1 (4612436618365282987 : Nat) == some .eq) = true then (if (bt122.1.length : Int) = 3 then (if 1 < (bt122.1.length : Int) then (some ((rd bt122.1 1) == 2)) else (none)) else (none)) else (none)) else (none)) else (none)) else (none)) else (none)) else (none)) else (none)))) = some r := by first | (rw [hy111]; with_reducible exact H) | (have H2_ := (Option.bind_some _ _).symm.trans H; rw [hy111]; with_reducible exact H2_) | (have H2_ := (Option.bind_some _ _).symm.trans H; with_reducible exact H2_) | with_reducible exact H | (rw [hy111]; exact H) | exact H
  have Ny111 := Aside0.mk hy111
  clear hy111
  replace H := Option.bind_eq_some_iff.mp H
  obtain ⟨⟨t114, t115⟩, A30, H⟩ := H
  have A3 := Aside0.mk A30
  clear A30
  obtain ⟨y116, hy116⟩ : ∃ y_ : List Nat, y_ = (([(4607182418800017408 : Nat), (4611686018427387904 : Nat), (4613937818241073152 : Nat), (4616189618054758400 : Nat)] : List Nat)) := ⟨_, rfl⟩
  replace H : ((grid_Count.f k y116 (([(4611686018427387904 : Nat), (4616189618054758400 : Nat)] : List Nat))).bind fun bt122 => (if t105 = 0 then (if t110 = 0 then (if t115 = 0 then (if bt122.2 = 0 then (if (FloatKind.f64.format.order t104 (4611686018427387904 : Nat) == some .eq) = true then (if t109 = 1 then (if (FloatKind.f64.format.order t114 (4612436618365282987 : Nat) == some .eq) = true then (if (bt122.1.length : Int) = 3 then (if 1 < (bt122.1.length : Int) then (some ((rd bt122.1 1) == 2)) else (none)) else (none)) else (none)) else (none)) else (none)) else (none)) else (none)) else (none)) else (none))) = some r := by first | (rw [hy116]; with_reducible exact H) | (have H2_ := (Option.bind_some _ _).symm.trans H; rw [hy116]; with_reducible exact H2_) | (have H2_ := (Option.bind_some _ _).symm.trans H; with_reducible exact H2_) | with_reducible exact H | (rw [hy116]; exact H) | exact H
  have Ny116 := Aside0.mk hy116
  clear hy116
  obtain ⟨y119, hy119⟩ : ∃ y_ : List Nat, y_ = (([(4611686018427387904 : Nat), (4616189618054758400 : Nat)] : List Nat)) := ⟨_, rfl⟩
  replace H : ((grid_Count.f k y116 y119).bind fun bt122 => (if t105 = 0 then (if t110 = 0 then (if t115 = 0 then (if bt122.2 = 0 then (if (FloatKind.f64.format.order t104 (4611686018427387904 : Nat) == some .eq) = true then (if t109 = 1 then (if (FloatKind.f64.format.order t114 (4612436618365282987 : Nat) == some .eq) = true then (if (bt122.1.length : Int) = 3 then (if 1 < (bt122.1.length : Int) then (some ((rd bt122.1 1) == 2)) else (none)) else (none)) else (none)) else (none)) else (none)) else (none)) else (none)) else (none)) else (none))) = some r := by first | (rw [hy119]; with_reducible exact H) | (have H2_ := (Option.bind_some _ _).symm.trans H; rw [hy119]; with_reducible exact H2_) | (have H2_ := (Option.bind_some _ _).symm.trans H; with_reducible exact H2_) | with_reducible exact H | (rw [hy119]; exact H) | exact H
  have Ny119 := Aside0.mk hy119
  clear hy119
  replace H := Option.bind_eq_some_iff.mp H
  obtain ⟨⟨t122, t123⟩, A40, H⟩ := H
  have A4 := Aside0.mk A40
  clear A40
  by_cases c5 : t105 = 0
  rotate_left
  · rw [if_neg c5] at H
    exact absurd H (by simp)
  rw [if_pos c5] at H
  have c5b0 : (t105 == 0) = true := beq_iff_eq.mpr c5
  have c5b1 : (t105 != 0) = false := bne_eq_false_iff_eq.mpr c5
  clear c5
  by_cases c6 : t110 = 0
  rotate_left
  · rw [if_neg c6] at H
    exact absurd H (by simp)
  rw [if_pos c6] at H
  have c6b0 : (t110 == 0) = true := beq_iff_eq.mpr c6
  have c6b1 : (t110 != 0) = false := bne_eq_false_iff_eq.mpr c6
  clear c6
  by_cases c7 : t115 = 0
  rotate_left
  · rw [if_neg c7] at H
    exact absurd H (by simp)
  rw [if_pos c7] at H
  have c7b0 : (t115 == 0) = true := beq_iff_eq.mpr c7
  have c7b1 : (t115 != 0) = false := bne_eq_false_iff_eq.mpr c7
  clear c7
  by_cases c8 : t123 = 0
  rotate_left
  · rw [if_neg c8] at H
    exact absurd H (by simp)
  rw [if_pos c8] at H
  have c8b0 : (t123 == 0) = true := beq_iff_eq.mpr c8
  have c8b1 : (t123 != 0) = false := bne_eq_false_iff_eq.mpr c8
  clear c8
  by_cases c9 : (FloatKind.f64.format.order t104 (4611686018427387904 : Nat) == some .eq) = true
  rotate_left
  · rw [if_neg c9] at H
    exact absurd H (by simp)
  rw [if_pos c9] at H
  have c9b0 : (FloatKind.f64.format.order t104 (4611686018427387904 : Nat) == some .eq) = true := c9
  (try (have c9b1 : decide (FloatKind.f64.format.order t104 (4611686018427387904 : Nat) = some .eq) = true := by simpa using c9))
  (try (have c9b2 : (FloatKind.f64.format.order t104 (4611686018427387904 : Nat) == some .eq) = true := by simpa using c9))
  clear c9
  by_cases c10 : t109 = 1
  rotate_left
  · rw [if_neg c10] at H
    exact absurd H (by simp)
  rw [if_pos c10] at H
  have c10b0 : (t109 == 1) = true := beq_iff_eq.mpr c10
  have c10b1 : (t109 != 1) = false := bne_eq_false_iff_eq.mpr c10
  clear c10
  by_cases c11 : (FloatKind.f64.format.order t114 (4612436618365282987 : Nat) == some .eq) = true
  rotate_left
  · rw [if_neg c11] at H
    exact absurd H (by simp)
  rw [if_pos c11] at H
  have c11b0 : (FloatKind.f64.format.order t114 (4612436618365282987 : Nat) == some .eq) = true := c11
  (try (have c11b1 : decide (FloatKind.f64.format.order t114 (4612436618365282987 : Nat) = some .eq) = true := by simpa using c11))
  (try (have c11b2 : (FloatKind.f64.format.order t114 (4612436618365282987 : Nat) == some .eq) = true := by simpa using c11))
  clear c11
  by_cases c12 : (t122.length : Int) = 3
  rotate_left
  · rw [if_neg c12] at H
    exact absurd H (by simp)
  rw [if_pos c12] at H
  have c12b0 : ((t122.length : Int) == 3) = true := beq_iff_eq.mpr c12
  have c12b1 : ((t122.length : Int) != 3) = false := bne_eq_false_iff_eq.mpr c12
  clear c12
  by_cases c13 : 1 < (t122.length : Int)
  rotate_left
  · rw [if_neg c13] at H
    exact absurd H (by simp)
  rw [if_pos c13] at H
  have c13b0 : decide (1 < (t122.length : Int)) = true := decide_eq_true c13
  have c13b1 : decide (1 < t122.length) = true := decide_eq_true (by omega)
  clear c13
  obtain rfl := Option.some.inj H
  go_enter Tryz.func22, Tryz.ntmps22
  go_wp2_with (first | ((with_reducible refine gate_dst (N := 10) rfl ?_); (try (refine gate_guard (by rfl) ?_; dsimp only)); refine Kd.R_lit Kd.flt _ 33 ?hg (N := 10) ?hd (xs := ([(4613937818241073152 : Nat), (4607182418800017408 : Nat), (4611686018427387904 : Nat)] : List Nat)) (inner := [.float .f64 (4613937818241073152 : Nat), .float .f64 (4607182418800017408 : Nat), .float .f64 (4611686018427387904 : Nat)]) (ok := fun _ => True) (okp := fun _ => True) ?hr ?hp (fun _ hk => hk) trivial (Below.refl _ _) (Nat.le_refl _) (by simp) ?_; (case hd => rfl); (case hg => rfl); (case hr => first | (go_simp; done) | (go_simp; rfl)); (case hp => exact (Reps.one (show Kd.M Kd.flt _ _ _ (4613937818241073152 : Nat) [.float .f64 (4613937818241073152 : Nat)] from rfl) (Reps.one (show Kd.M Kd.flt _ _ _ (4607182418800017408 : Nat) [.float .f64 (4607182418800017408 : Nat)] from rfl) (Reps.one (show Kd.M Kd.flt _ _ _ (4611686018427387904 : Nat) [.float .f64 (4611686018427387904 : Nat)] from rfl) (Reps.none _ _))))); intro v102 w14 ho15 hb hg_ hnew_; clear hg_ hnew_; (first | rw [← Ny101.out] at ho15 | (simp only [Int.reduceToNat] at ho15; rw [← Ny101.out] at ho15)); have n0_ := Aside0.mk (Kd.R_lower ho15 (below_size (bA HB.out))); have n1_ := Aside0.mk (below_step (bA HB.out) hb); clear HB; have HO103 := n0_; have HB := n1_; clear n0_ n1_; clear hb ho15; obtain ⟨Ao16, co16, eo16⟩ := Kd.R_slice HO103.out; subst eo16) | ((with_reducible refine gate_callee (f := 24) rfl ?_); refine goesL_ (some 11) rfl rfl Tryz.func24 (by kernel_rfl) rfl #[.slice Ao16 y101.length co16, .int .i64 1, .int .i64 2] rfl mA ?_; (with_reducible refine (grid_Quantile.calls k _ _ y101 1 2 t104 t105 _ ?side1 ?side2 A1.out).mono ?_); (case side1 => exact cA ((Kd.R_reads' HO103.out).2.2)); (case side2 => exact (Kd.R_reads' HO103.out).2.1); rintro e w17 ⟨rfl, hb⟩; refine ⟨_, rfl, ?_⟩; have n0_ := Aside0.mk (Kd.R_below (rA HO103.out) hb); have n1_ := Aside0.mk (below_step (bA HB.out) hb); clear HO103; clear HB; have HO103 := n0_; have HB := n1_; clear n0_ n1_; (try clear hb); (try clear hb2); (try clear hk); (try clear hi)) | ((with_reducible refine gate_dst (N := 15) rfl ?_); (try (refine gate_guard (by rfl) ?_; dsimp only)); refine Kd.R_lit Kd.flt _ 33 ?hg (N := 15) ?hd (xs := ([(4613937818241073152 : Nat), (4607182418800017408 : Nat), (4607182418800017408 : Nat)] : List Nat)) (inner := [.float .f64 (4613937818241073152 : Nat), .float .f64 (4607182418800017408 : Nat), .float .f64 (4607182418800017408 : Nat)]) (ok := fun _ => True) (okp := fun _ => True) ?hr ?hp (fun _ hk => hk) trivial (Below.refl _ _) (Nat.le_refl _) (by simp) ?_; (case hd => rfl); (case hg => rfl); (case hr => first | (go_simp; done) | (go_simp; rfl)); (case hp => exact (Reps.one (show Kd.M Kd.flt _ _ _ (4613937818241073152 : Nat) [.float .f64 (4613937818241073152 : Nat)] from rfl) (Reps.one (show Kd.M Kd.flt _ _ _ (4607182418800017408 : Nat) [.float .f64 (4607182418800017408 : Nat)] from rfl) (Reps.one (show Kd.M Kd.flt _ _ _ (4607182418800017408 : Nat) [.float .f64 (4607182418800017408 : Nat)] from rfl) (Reps.none _ _))))); intro v107 w18 ho19 hb hg_ hnew_; clear hg_ hnew_; (first | rw [← Ny106.out] at ho19 | (simp only [Int.reduceToNat] at ho19; rw [← Ny106.out] at ho19)); have n0_ := Aside0.mk (Kd.R_elder' (rA HO103.out) (Kd.R_base ho19) hb); have n1_ := Aside0.mk (Kd.R_lower (Kd.R_new' ho19 (Kd.R_lt (rA HO103.out))) (below_size (bA HB.out))); have n2_ := Aside0.mk (below_step (bA HB.out) hb); clear HO103; clear HB; have HO103 := n0_; have HO108 := n1_; have HB := n2_; clear n0_ n1_ n2_; clear hb ho19; obtain ⟨Ao20, co20, eo20⟩ := Kd.R_slice HO108.out; subst eo20) | ((with_reducible refine gate_callee (f := 26) rfl ?_); refine goesL_ (some 16) rfl rfl Tryz.func26 (by kernel_rfl) rfl #[.slice Ao20 y106.length co20] rfl mA ?_; (with_reducible refine (grid_Worst.calls k _ _ y106 t109 t110 _ ?side1 ?side2 A2.out).mono ?_); (case side1 => exact cA ((Kd.R_reads' HO108.out).2.2)); (case side2 => exact (Kd.R_reads' HO108.out).2.1); rintro e w' ⟨rfl, ⟨nd, rfl⟩⟩; refine ⟨_, rfl, ?_⟩) | ((with_reducible refine gate_dst (N := 20) rfl ?_); (try (refine gate_guard (by rfl) ?_; dsimp only)); refine Kd.R_lit Kd.flt _ 33 ?hg (N := 20) ?hd (xs := ([(4607182418800017408 : Nat), (4611686018427387904 : Nat), (4616189618054758400 : Nat)] : List Nat)) (inner := [.float .f64 (4607182418800017408 : Nat), .float .f64 (4611686018427387904 : Nat), .float .f64 (4616189618054758400 : Nat)]) (ok := fun _ => True) (okp := fun _ => True) ?hr ?hp (fun _ hk => hk) trivial (Below.refl _ _) (Nat.le_refl _) (by simp) ?_; (case hd => rfl); (case hg => rfl); (case hr => first | (go_simp; done) | (go_simp; rfl)); (case hp => exact (Reps.one (show Kd.M Kd.flt _ _ _ (4607182418800017408 : Nat) [.float .f64 (4607182418800017408 : Nat)] from rfl) (Reps.one (show Kd.M Kd.flt _ _ _ (4611686018427387904 : Nat) [.float .f64 (4611686018427387904 : Nat)] from rfl) (Reps.one (show Kd.M Kd.flt _ _ _ (4616189618054758400 : Nat) [.float .f64 (4616189618054758400 : Nat)] from rfl) (Reps.none _ _))))); intro v112 w21 ho22 hb hg_ hnew_; clear hg_ hnew_; (first | rw [← Ny111.out] at ho22 | (simp only [Int.reduceToNat] at ho22; rw [← Ny111.out] at ho22)); have n0_ := Aside0.mk (Kd.R_elder' (rA HO103.out) (Kd.R_base ho22) hb); have n1_ := Aside0.mk (Kd.R_elder' (rA HO108.out) (Kd.R_base ho22) hb); have n2_ := Aside0.mk (Kd.R_lower (Kd.R_new' (Kd.R_new' ho22 (Kd.R_lt (rA HO103.out))) (Kd.R_lt (rA HO108.out))) (below_size (bA HB.out))); have n3_ := Aside0.mk (below_step (bA HB.out) hb); clear HO103; clear HO108; clear HB; have HO103 := n0_; have HO108 := n1_; have HO113 := n2_; have HB := n3_; clear n0_ n1_ n2_ n3_; clear hb ho22; obtain ⟨Ao23, co23, eo23⟩ := Kd.R_slice HO113.out; subst eo23) | ((with_reducible refine gate_callee (f := 28) rfl ?_); refine goesL_ (some 21) rfl rfl Tryz.func28 (by kernel_rfl) rfl #[.slice Ao23 y111.length co23] rfl mA ?_; (with_reducible refine (grid_Mean.calls k _ _ y111 t114 t115 _ ?side1 ?side2 A3.out).mono ?_); (case side1 => exact cA ((Kd.R_reads' HO113.out).2.2)); (case side2 => exact (Kd.R_reads' HO113.out).2.1); rintro e w24 ⟨rfl, hb⟩; refine ⟨_, rfl, ?_⟩; have n0_ := Aside0.mk (Kd.R_below (rA HO103.out) hb); have n1_ := Aside0.mk (Kd.R_below (rA HO108.out) hb); have n2_ := Aside0.mk (Kd.R_below (rA HO113.out) hb); have n3_ := Aside0.mk (below_step (bA HB.out) hb); clear HO103; clear HO108; clear HO113; clear HB; have HO103 := n0_; have HO108 := n1_; have HO113 := n2_; have HB := n3_; clear n0_ n1_ n2_ n3_; (try clear hb); (try clear hb2); (try clear hk); (try clear hi)) | ((with_reducible refine gate_dst (N := 25) rfl ?_); (try (refine gate_guard (by rfl) ?_; dsimp only)); refine Kd.R_lit Kd.flt _ 33 ?hg (N := 25) ?hd (xs := ([(4607182418800017408 : Nat), (4611686018427387904 : Nat), (4613937818241073152 : Nat), (4616189618054758400 : Nat)] : List Nat)) (inner := [.float .f64 (4607182418800017408 : Nat), .float .f64 (4611686018427387904 : Nat), .float .f64 (4613937818241073152 : Nat), .float .f64 (4616189618054758400 : Nat)]) (ok := fun _ => True) (okp := fun _ => True) ?hr ?hp (fun _ hk => hk) trivial (Below.refl _ _) (Nat.le_refl _) (by simp) ?_; (case hd => rfl); (case hg => rfl); (case hr => first | (go_simp; done) | (go_simp; rfl)); (case hp => exact (Reps.one (show Kd.M Kd.flt _ _ _ (4607182418800017408 : Nat) [.float .f64 (4607182418800017408 : Nat)] from rfl) (Reps.one (show Kd.M Kd.flt _ _ _ (4611686018427387904 : Nat) [.float .f64 (4611686018427387904 : Nat)] from rfl) (Reps.one (show Kd.M Kd.flt _ _ _ (4613937818241073152 : Nat) [.float .f64 (4613937818241073152 : Nat)] from rfl) (Reps.one (show Kd.M Kd.flt _ _ _ (4616189618054758400 : Nat) [.float .f64 (4616189618054758400 : Nat)] from rfl) (Reps.none _ _)))))); intro v117 w25 ho26 hb hg_ hnew_; clear hg_ hnew_; (first | rw [← Ny116.out] at ho26 | (simp only [Int.reduceToNat] at ho26; rw [← Ny116.out] at ho26)); have n0_ := Aside0.mk (Kd.R_elder' (rA HO103.out) (Kd.R_base ho26) hb); have n1_ := Aside0.mk (Kd.R_elder' (rA HO108.out) (Kd.R_base ho26) hb); have n2_ := Aside0.mk (Kd.R_elder' (rA HO113.out) (Kd.R_base ho26) hb); have n3_ := Aside0.mk (Kd.R_lower (Kd.R_new' (Kd.R_new' (Kd.R_new' ho26 (Kd.R_lt (rA HO103.out))) (Kd.R_lt (rA HO108.out))) (Kd.R_lt (rA HO113.out))) (below_size (bA HB.out))); have n4_ := Aside0.mk (below_step (bA HB.out) hb); clear HO103; clear HO108; clear HO113; clear HB; have HO103 := n0_; have HO108 := n1_; have HO113 := n2_; have HO118 := n3_; have HB := n4_; clear n0_ n1_ n2_ n3_ n4_; clear hb ho26) | ((with_reducible refine gate_dst (N := 26) rfl ?_); (try (refine gate_guard (by rfl) ?_; dsimp only)); refine Kd.R_lit Kd.flt _ 33 ?hg (N := 26) ?hd (xs := ([(4611686018427387904 : Nat), (4616189618054758400 : Nat)] : List Nat)) (inner := [.float .f64 (4611686018427387904 : Nat), .float .f64 (4616189618054758400 : Nat)]) (ok := fun _ => True) (okp := fun _ => True) ?hr ?hp (fun _ hk => hk) trivial (Below.refl _ _) (Nat.le_refl _) (by simp) ?_; (case hd => rfl); (case hg => rfl); (case hr => first | (go_simp; done) | (go_simp; rfl)); (case hp => exact (Reps.one (show Kd.M Kd.flt _ _ _ (4611686018427387904 : Nat) [.float .f64 (4611686018427387904 : Nat)] from rfl) (Reps.one (show Kd.M Kd.flt _ _ _ (4616189618054758400 : Nat) [.float .f64 (4616189618054758400 : Nat)] from rfl) (Reps.none _ _)))); intro v120 w27 ho28 hb hg_ hnew_; clear hg_ hnew_; (first | rw [← Ny119.out] at ho28 | (simp only [Int.reduceToNat] at ho28; rw [← Ny119.out] at ho28)); have n0_ := Aside0.mk (Kd.R_elder' (rA HO103.out) (Kd.R_base ho28) hb); have n1_ := Aside0.mk (Kd.R_elder' (rA HO108.out) (Kd.R_base ho28) hb); have n2_ := Aside0.mk (Kd.R_elder' (rA HO113.out) (Kd.R_base ho28) hb); have n3_ := Aside0.mk (Kd.R_elder' (rA HO118.out) (Kd.R_base ho28) hb); have n4_ := Aside0.mk (Kd.R_lower (Kd.R_new' (Kd.R_new' (Kd.R_new' (Kd.R_new' ho28 (Kd.R_lt (rA HO103.out))) (Kd.R_lt (rA HO108.out))) (Kd.R_lt (rA HO113.out))) (Kd.R_lt (rA HO118.out))) (below_size (bA HB.out))); have n5_ := Aside0.mk (below_step (bA HB.out) hb); clear HO103; clear HO108; clear HO113; clear HO118; clear HB; have HO103 := n0_; have HO108 := n1_; have HO113 := n2_; have HO118 := n3_; have HO121 := n4_; have HB := n5_; clear n0_ n1_ n2_ n3_ n4_ n5_; clear hb ho28; obtain ⟨Ao29, co29, eo29⟩ := Kd.R_slice HO118.out; subst eo29; obtain ⟨Ao30, co30, eo30⟩ := Kd.R_slice HO121.out; subst eo30) | ((with_reducible refine gate_callee (f := 50) rfl ?_); refine goesL_ (some 27) rfl rfl Tryz.func50 (by kernel_rfl) rfl #[.slice Ao29 y116.length co29, .slice Ao30 y119.length co30] rfl mA ?_; (with_reducible refine (grid_Count.calls k _ _ y116 _ _ y119 t122 t123 _ ?side1 ?side2 ?side3 ?side4 A4.out).mono ?_); (case side1 => exact cA ((Kd.R_reads' HO118.out).2.2)); (case side2 => exact (Kd.R_reads' HO118.out).2.1); (case side3 => exact cA ((Kd.R_reads' HO121.out).2.2)); (case side4 => exact (Kd.R_reads' HO121.out).2.1); rintro e w31 ⟨v124, rfl, ho0, hb⟩; refine ⟨_, rfl, ?_⟩; have n0_ := Aside0.mk (Kd.R_below (rA HO103.out) hb); have n1_ := Aside0.mk (Kd.R_below (rA HO108.out) hb); have n2_ := Aside0.mk (Kd.R_below (rA HO113.out) hb); have n3_ := Aside0.mk (Kd.R_below (rA HO118.out) hb); have n4_ := Aside0.mk (Kd.R_below (rA HO121.out) hb); have n5_ := Aside0.mk (Kd.R_lower ho0 (below_size (bA HB.out))); have n6_ := Aside0.mk (below_step (bA HB.out) hb); clear HO103; clear HO108; clear HO113; clear HO118; clear HO121; clear HB; have HO103 := n0_; have HO108 := n1_; have HO113 := n2_; have HO118 := n3_; have HO121 := n4_; have HO125 := n5_; have HB := n6_; clear n0_ n1_ n2_ n3_ n4_ n5_ n6_; (try clear hb); (try clear hb2); (try clear hk); (try clear hi); (try clear ho0); obtain ⟨Ao32, co32, eo32⟩ := Kd.R_slice HO125.out; subst eo32; have p126 : 0 ≤ (1 : Int) := (by omega); have q126 : 1 < (t122.length : Int) := of_decide_eq_true asA; obtain ⟨ad126, e126, hx126_0⟩ := Kd.at_int (Kd.R_reads' HO125.out).2.2 1 p126 q126; cases e126; (try simp only [show (1 : Int).toNat = 1 from rfl, Nat.reduceMul, Nat.reduceEqDiff, Go.Addr.add, ↓reduceIte] at hx126_0); have qi126 : (1 < t122.length) = True := eq_true (by omega); (try rw [show ((1 : Int)).toNat = 1 from rfl] at hx126_0); replace p126 := eq_true p126; replace q126 := eq_true q126))
  go_ret
  exact ⟨by first | rfl | (simp [errW_none, errW_some] <;> rfl) | (simp [*, errW_none, errW_some] <;> rfl), bA HB.out⟩

end Go.Proofs.YtepcegiciecogaaGreat.FH
