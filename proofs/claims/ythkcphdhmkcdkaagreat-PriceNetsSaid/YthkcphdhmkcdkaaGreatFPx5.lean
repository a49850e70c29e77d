/- Written by the session's fprint.py out of the translation. -/
import Derived.Test.YthkcphdhmkcdkaaGreatFw
import Derived.Test.YthkcphdhmkcdkaaGreatFPx0
import Derived.Test.YthkcphdhmkcdkaaGreatFPx3
import Derived.Test.YthkcphdhmkcdkaaGreatFPx4
namespace Go.Proofs.YthkcphdhmkcdkaaGreat.FP
open Go.RowKit Go.Proofs.YthkcphdhmkcdkaaGreatW.PrintWords Go.Proofs.YthkcphdhmkcdkaaGreatW.PrintLast Go.Proofs.YthkcphdhmkcdkaaGreatW.PrintMore
attribute [local go_sem] max2_int min2_int max_two min_two max_three min_three max_four min_four   -- for this text's walks alone
open Go.Proofs.YthkcphdhmkcdkaaGreat.FX
attribute [local go_sem] run_store_float run_neg_float run_fmul run_fadd run_fsub run_fdiv run_ftoi isSome_setCell 
set_option linter.unusedVariables false
set_option linter.unusedSimpArgs false

/-! ### interp_points: function 171 -/
def interp_points.f (k : Nat) (a0_0 : Int) (l0_1 : List Int) (l0_2 : List Nat) (a1 : Int) : Option (List Nat) := (interp_slopes.f k a0_0 l0_1 l0_2).bind fun t136 => (if 0 ≤ (wrap64 (a1 + 1)) then (if (wrap64 (a1 + 1)) < (l0_1.length : Int) then (if 0 ≤ a1 then (if a1 < (l0_1.length : Int) then (if a1 < (l0_2.length : Int) then (if (wrap64 (a1 + 1)) < (l0_2.length : Int) then (if a1 < (t136.length : Int) then (if fmulK (rdOf (0 : Nat) t136 a1) (floatOfInt .f64 (wrap64 ((rd l0_1 (wrap64 (a1 + 1))) - (rd l0_1 a1)))) = true then (if fdivK (fmulV (rdOf (0 : Nat) t136 a1) (floatOfInt .f64 (wrap64 ((rd l0_1 (wrap64 (a1 + 1))) - (rd l0_1 a1))))) (4613937818241073152 : Nat) = true then (if faddK (rdOf (0 : Nat) l0_2 a1) (fdivV (fmulV (rdOf (0 : Nat) t136 a1) (floatOfInt .f64 (wrap64 ((rd l0_1 (wrap64 (a1 + 1))) - (rd l0_1 a1))))) (4613937818241073152 : Nat)) = true then ((interp_held.f k (faddV (rdOf (0 : Nat) l0_2 a1) (fdivV (fmulV (rdOf (0 : Nat) t136 a1) (floatOfInt .f64 (wrap64 ((rd l0_1 (wrap64 (a1 + 1))) - (rd l0_1 a1))))) (4613937818241073152 : Nat))) (rdOf (0 : Nat) l0_2 a1) (rdOf (0 : Nat) l0_2 (wrap64 (a1 + 1)))).bind fun t144 => (if (wrap64 (a1 + 1)) < (t136.length : Int) then (if fmulK (rdOf (0 : Nat) t136 (wrap64 (a1 + 1))) (floatOfInt .f64 (wrap64 ((rd l0_1 (wrap64 (a1 + 1))) - (rd l0_1 a1)))) = true then (if fdivK (fmulV (rdOf (0 : Nat) t136 (wrap64 (a1 + 1))) (floatOfInt .f64 (wrap64 ((rd l0_1 (wrap64 (a1 + 1))) - (rd l0_1 a1))))) (4613937818241073152 : Nat) = true then (if fsubK (rdOf (0 : Nat) l0_2 (wrap64 (a1 + 1))) (fdivV (fmulV (rdOf (0 : Nat) t136 (wrap64 (a1 + 1))) (floatOfInt .f64 (wrap64 ((rd l0_1 (wrap64 (a1 + 1))) - (rd l0_1 a1))))) (4613937818241073152 : Nat)) = true then ((interp_held.f k (fsubV (rdOf (0 : Nat) l0_2 (wrap64 (a1 + 1))) (fdivV (fmulV (rdOf (0 : Nat) t136 (wrap64 (a1 + 1))) (floatOfInt .f64 (wrap64 ((rd l0_1 (wrap64 (a1 + 1))) - (rd l0_1 a1))))) (4613937818241073152 : Nat))) t144 (rdOf (0 : Nat) l0_2 (wrap64 (a1 + 1)))).bind fun t146 => (some (([rdOf (0 : Nat) l0_2 a1, t144, t146, rdOf (0 : Nat) l0_2 (wrap64 (a1 + 1))] : List Nat)))) else (none)) else (none)) else (none)) else (none))) else (none)) else (none)) else (none)) else (none)) else (none)) else (none)) else (none)) else (none)) else (none)) else (none))
theorem interp_points.mono : ∀ a0 a1 a2 a3 k, LeO (interp_points.f k a0 a1 a2 a3) (interp_points.f (k + 1) a0 a1 a2 a3) := by
  intro a0 a1 a2 a3 k
  unfold interp_points.f
  repeat' first
    | (with_reducible exact interp_held.mono _ _ _ _)
    | (with_reducible exact interp_slopes.mono _ _ _ _)
    | (with_reducible exact LeO.refl _)
    | (with_reducible exact LeO.none _)
    | (with_reducible refine LeO.ite ?_ ?_)
    | (with_reducible refine LeO.bind ?_ (fun _ => ?_))
    | exact interp_held.mono _ _ _ _
    | exact interp_slopes.mono _ _ _ _
    | exact LeO.none _
    | refine LeO.ite ?_ ?_
    | refine LeO.bind ?_ (fun _ => ?_)
set_option maxHeartbeats 8000000 in
set_option maxRecDepth 100000 in
theorem interp_points.calls (k : Nat) (a0_0 : Int) (A0_1 : Option Addr) (c0_1 : Nat) (l0_1 : List Int) (A0_2 : Option Addr) (c0_2 : Nat) (l0_2 : List Nat) (a1 : Int) (r : List Nat) (w : World) (hr0_1 : Kd.C (Kd.int .i64) w A0_1 l0_1.length l0_1) (hc0_1 : l0_1.length ≤ c0_1) (hr0_2 : Kd.C Kd.flt w A0_2 l0_2.length l0_2) (hc0_2 : l0_2.length ≤ c0_2) (h : interp_points.f k a0_0 l0_1 l0_2 a1 = some r) :
    Calls Tryz.prog 171 #[.agg #[.int .i64 a0_0, .slice A0_1 l0_1.length c0_1, .slice A0_2 l0_2.length c0_2], .int .i64 a1] w fun e w' => ∃ v0_ : Value, e = .returned (v0_) ∧ Kd.R Kd.flt 29 w' w.heap.size (fun _ => True) v0_ r ∧ Below w.heap.size w w' := by
  have hu128 := Tryz.underlying128
  have HR0_1 := aM hr0_1
  have HC0_1 := aM hc0_1
  clear hr0_1 hc0_1
  have HR0_2 := aM hr0_2
  have HC0_2 := aM hc0_2
  clear hr0_2 hc0_2
  have HB := aM (Below.refl w.heap.size w)
  have H : ((interp_slopes.f k a0_0 l0_1 l0_2).bind fun t136 => (if 0 ≤ (wrap64 (a1 + 1)) then (if (wrap64 (a1 + 1)) < (l0_1.length : Int) then (if 0 ≤ a1 then (if a1 < (l0_1.length : Int) then (if a1 < (l0_2.length : Int) then (if (wrap64 (a1 + 1)) < (l0_2.length : Int) then (if a1 < (t136.length : Int) then (if fmulK (rdOf (0 : Nat) t136 a1) (floatOfInt .f64 (wrap64 ((rd l0_1 (wrap64 (a1 + 1))) - (rd l0_1 a1)))) = true then (if fdivK (fmulV (rdOf (0 : Nat) t136 a1) (floatOfInt .f64 (wrap64 ((rd l0_1 (wrap64 (a1 + 1))) - (rd l0_1 a1))))) (4613937818241073152 : Nat) = true then (if faddK (rdOf (0 : Nat) l0_2 a1) (fdivV (fmulV (rdOf (0 : Nat) t136 a1) (floatOfInt .f64 (wrap64 ((rd l0_1 (wrap64 (a1 + 1))) - (rd l0_1 a1))))) (4613937818241073152 : Nat)) = true then ((interp_held.f k (faddV (rdOf (0 : Nat) l0_2 a1) (fdivV (fmulV (rdOf (0 : Nat) t136 a1) (floatOfInt .f64 (wrap64 ((rd l0_1 (wrap64 (a1 + 1))) - (rd l0_1 a1))))) (4613937818241073152 : Nat))) (rdOf (0 : Nat) l0_2 a1) (rdOf (0 : Nat) l0_2 (wrap64 (a1 + 1)))).bind fun t144 => (if (wrap64 (a1 + 1)) < (t136.length : Int) then (if fmulK (rdOf (0 : Nat) t136 (wrap64 (a1 + 1))) (floatOfInt .f64 (wrap64 ((rd l0_1 (wrap64 (a1 + 1))) - (rd l0_1 a1)))) = true then (if fdivK (fmulV (rdOf (0 : Nat) t136 (wrap64 (a1 + 1))) (floatOfInt .f64 (wrap64 ((rd l0_1 (wrap64 (a1 + 1))) - (rd l0_1 a1))))) (4613937818241073152 : Nat) = true then (if fsubK (rdOf (0 : Nat) l0_2 (wrap64 (a1 + 1))) (fdivV (fmulV (rdOf (0 : Nat) t136 (wrap64 (a1 + 1))) (floatOfInt .f64 (wrap64 ((rd l0_1 (wrap64 (a1 + 1))) - (rd l0_1 a1))))) (4613937818241073152 : Nat)) = true then ((interp_held.f k (fsubV (rdOf (0 : Nat) l0_2 (wrap64 (a1 + 1))) (fdivV (fmulV (rdOf (0 : Nat) t136 (wrap64 (a1 + 1))) (floatOfInt .f64 (wrap64 ((rd l0_1 (wrap64 (a1 + 1))) - (rd l0_1 a1))))) (4613937818241073152 : Nat))) t144 (rdOf (0 : Nat) l0_2 (wrap64 (a1 + 1)))).bind fun t146 => (some (([rdOf (0 : Nat) l0_2 a1, t144, t146, rdOf (0 : Nat) l0_2 (wrap64 (a1 + 1))] : List Nat)))) else (none)) else (none)) else (none)) else (none))) else (none)) else (none)) else (none)) else (none)) else (none)) else (none)) else (none)) else (none)) else (none)) else (none))) = some r := h
  clear h
  revert H
  refine bE ?_
  rintro t136 A3 H
  generalize hji4 : (wrap64 (a1 + 1)) = ji4 at H
  (try rw [hji4] at A3)
  have hji4w : (IntKind.i64.wrap (a1 + 1)) = ji4 := (i64_w _).trans hji4
  revert H
  refine ifP fun c5 H => ?_
  have c5b0 := decide_eq_true c5
  clear c5
  revert H
  refine ifP fun c6 H => ?_
  have c6b0 := decide_eq_true c6
  clear c6
  revert H
  refine ifP fun c7 H => ?_
  have c7b0 := decide_eq_true c7
  clear c7
  revert H
  refine ifP fun c8 H => ?_
  have c8b0 := decide_eq_true c8
  clear c8
  revert H
  refine ifP fun c9 H => ?_
  have c9b0 := decide_eq_true c9
  clear c9
  revert H
  refine ifP fun c10 H => ?_
  have c10b0 := decide_eq_true c10
  clear c10
  revert H
  refine ifP fun c11 H => ?_
  have c11b0 := decide_eq_true c11
  clear c11
  revert H
  refine ifP fun c12 H => ?_
  have c12b0 := eq_true c12
  have c12b1 : decide (fmulK (rdOf (0 : Nat) t136 a1) (floatOfInt .f64 (wrap64 ((rd l0_1 (ji4)) - (rd l0_1 a1)))) = true) = true := decide_eq_true c12
  clear c12
  revert H
  refine ifP fun c13 H => ?_
  have c13b0 := eq_true c13
  have c13b1 : decide (fdivK (fmulV (rdOf (0 : Nat) t136 a1) (floatOfInt .f64 (wrap64 ((rd l0_1 (ji4)) - (rd l0_1 a1))))) (4613937818241073152 : Nat) = true) = true := decide_eq_true c13
  clear c13
  revert H
  refine ifP fun c14 H => ?_
  have c14b0 := eq_true c14
  have c14b1 : decide (faddK (rdOf (0 : Nat) l0_2 a1) (fdivV (fmulV (rdOf (0 : Nat) t136 a1) (floatOfInt .f64 (wrap64 ((rd l0_1 (ji4)) - (rd l0_1 a1))))) (4613937818241073152 : Nat)) = true) = true := decide_eq_true c14
  clear c14
  revert H
  refine bE ?_
  rintro t144 A15 H
  revert H
  refine ifP fun c16 H => ?_
  have c16b0 := decide_eq_true c16
  clear c16
  revert H
  refine ifP fun c17 H => ?_
  have c17b0 := eq_true c17
  have c17b1 : decide (fmulK (rdOf (0 : Nat) t136 (ji4)) (floatOfInt .f64 (wrap64 ((rd l0_1 (ji4)) - (rd l0_1 a1)))) = true) = true := decide_eq_true c17
  clear c17
  revert H
  refine ifP fun c18 H => ?_
  have c18b0 := eq_true c18
  have c18b1 : decide (fdivK (fmulV (rdOf (0 : Nat) t136 (ji4)) (floatOfInt .f64 (wrap64 ((rd l0_1 (ji4)) - (rd l0_1 a1))))) (4613937818241073152 : Nat) = true) = true := decide_eq_true c18
  clear c18
  revert H
  refine ifP fun c19 H => ?_
  have c19b0 := eq_true c19
  have c19b1 : decide (fsubK (rdOf (0 : Nat) l0_2 (ji4)) (fdivV (fmulV (rdOf (0 : Nat) t136 (ji4)) (floatOfInt .f64 (wrap64 ((rd l0_1 (ji4)) - (rd l0_1 a1))))) (4613937818241073152 : Nat)) = true) = true := decide_eq_true c19
  clear c19
  revert H
  refine bE ?_
  rintro t146 A20 H
  generalize hy147 : (([rdOf (0 : Nat) l0_2 a1, t144, t146, rdOf (0 : Nat) l0_2 (ji4)] : List Nat)) = y147 at H
  replace hy147 := hy147.symm
  (try (revert H; (with_reducible refine sE y147 ?_); intro H))
  have Ny147 := aM hy147
  clear hy147
  obtain rfl := Option.some.inj H
  go_enter Tryz.func171, Tryz.ntmps171
  go_wp2_with (first | ((with_reducible refine gD 2 rfl ?_); refine boxW (N := 2) #[.int .i64 a0_0, .slice A0_1 l0_1.length c0_1, .slice A0_2 l0_2.length c0_2] 128 HB ?_; clear HB; intro gb135 w21 BK135 HB GW135; have GE135 := GW135; obtain ⟨hcz22_0, hcz22_1, hcz22_2, hfz22_0, hfz22_1, hfz22_2⟩ := cz3 BK135.out) | (go_at_call 199; (with_reducible refine (interp_slopes.calls k a0_0 _ _ l0_1 _ _ l0_2 t136 _ ?side1 ?side2 ?side3 ?side4 A3.out).mono ?_); (case side1 => exact cA (Kd.C_below HR0_1.out HB.out)); (case side2 => exact HC0_1.out); (case side3 => exact cA (Kd.C_below HR0_2.out HB.out)); (case side4 => exact HC0_2.out); rintro e w23 ⟨v137, rfl, ho0, hb⟩; have HO138 := aM (Kd.R_lower ho0 (below_size (bG HB.out))); replace BK135 := kB BK135 hb; replace HB := gB HB hb; (try clear hb); (try clear hb2); (try clear hk); (try clear hi); (try clear ho0); obtain ⟨hcz24_0, hcz24_1, hcz24_2, hfz24_0, hfz24_1, hfz24_2⟩ := cz3 BK135.out; have p139 : 0 ≤ ((ji4) : Int) := of_decide_eq_true asA; have q139 : (ji4) < (l0_1.length : Int) := of_decide_eq_true asA; obtain ⟨ad139, e139, hx139_0⟩ := Kd.at_int HR0_1.out (ji4) p139 q139; cases e139; replace hx139_0 := (HB.out.cell (World.block_lt_of_cell? w _ hx139_0)).trans hx139_0; replace p139 := eq_true p139; replace q139 := eq_true q139; have p140 : 0 ≤ (a1 : Int) := of_decide_eq_true asA; have q140 : a1 < (l0_1.length : Int) := of_decide_eq_true asA; obtain ⟨ad140, e140, hx140_0⟩ := Kd.at_int HR0_1.out a1 p140 q140; obtain rfl : ad139 = ad140 := (by injection e140); replace hx140_0 := (HB.out.cell (World.block_lt_of_cell? w _ hx140_0)).trans hx140_0; replace p140 := eq_true p140; replace q140 := eq_true q140; have p141 : 0 ≤ (a1 : Int) := of_decide_eq_true asA; have q141 : a1 < (l0_2.length : Int) := of_decide_eq_true asA; obtain ⟨ad141, e141, hx141_0⟩ := Kd.at_flt HR0_2.out a1 p141 q141; cases e141; replace hx141_0 := (HB.out.cell (World.block_lt_of_cell? w _ hx141_0)).trans hx141_0; replace p141 := eq_true p141; replace q141 := eq_true q141; have p142 : 0 ≤ ((ji4) : Int) := of_decide_eq_true asA; have q142 : (ji4) < (l0_2.length : Int) := of_decide_eq_true asA; obtain ⟨ad142, e142, hx142_0⟩ := Kd.at_flt HR0_2.out (ji4) p142 q142; obtain rfl : ad141 = ad142 := (by injection e142); replace hx142_0 := (HB.out.cell (World.block_lt_of_cell? w _ hx142_0)).trans hx142_0; replace p142 := eq_true p142; replace q142 := eq_true q142; obtain ⟨Ao25, co25, eo25⟩ := Kd.R_slice HO138.out; subst eo25; have p143 : 0 ≤ (a1 : Int) := of_decide_eq_true asA; have q143 : a1 < (t136.length : Int) := of_decide_eq_true asA; obtain ⟨ad143, e143, hx143_0⟩ := Kd.at_flt (Kd.R_reads' HO138.out).2.2 a1 p143 q143; cases e143; replace p143 := eq_true p143; replace q143 := eq_true q143) | (go_at_call 173; (with_reducible refine (interp_held.calls k (faddV (rdOf (0 : Nat) l0_2 a1) (fdivV (fmulV (rdOf (0 : Nat) t136 a1) (floatOfInt .f64 (wrap64 ((rd l0_1 (ji4)) - (rd l0_1 a1))))) (4613937818241073152 : Nat))) (rdOf (0 : Nat) l0_2 a1) (rdOf (0 : Nat) l0_2 (ji4)) t144 _ A15.out).mono ?_); rintro e w' ⟨rfl, ⟨nd, rfl⟩⟩; (try exact ddA); have p145 : 0 ≤ ((ji4) : Int) := of_decide_eq_true asA; have q145 : (ji4) < (t136.length : Int) := of_decide_eq_true asA; obtain ⟨ad145, e145, hx145_0⟩ := Kd.at_flt (Kd.R_reads' HO138.out).2.2 (ji4) p145 q145; obtain rfl : ad143 = ad145 := (by injection e145); replace p145 := eq_true p145; replace q145 := eq_true q145) | (go_at_call 173; (with_reducible refine (interp_held.calls k (fsubV (rdOf (0 : Nat) l0_2 (ji4)) (fdivV (fmulV (rdOf (0 : Nat) t136 (ji4)) (floatOfInt .f64 (wrap64 ((rd l0_1 (ji4)) - (rd l0_1 a1))))) (4613937818241073152 : Nat))) t144 (rdOf (0 : Nat) l0_2 (ji4)) t146 _ A20.out).mono ?_); rintro e w' ⟨rfl, ⟨nd, rfl⟩⟩; (try exact ddA)) | ((with_reducible refine gD 64 rfl ?_); refine Kd.R_lit Kd.flt _ 29 ?hg (N := 64) ?hd (xs := ([rdOf (0 : Nat) l0_2 a1, t144, t146, rdOf (0 : Nat) l0_2 (ji4)] : List Nat)) (inner := [.float .f64 (rdOf (0 : Nat) l0_2 a1), .float .f64 t144, .float .f64 t146, .float .f64 (rdOf (0 : Nat) l0_2 (ji4))]) (ok := fun _ => True) (okp := fun _ => True) ?hr ?hp (fun _ hk => hk) trivial (Below.refl _ _) (Nat.le_refl _) (by simp) ?_; (case hd => rfl); (case hg => rfl); (case hr => first | (go_simp; done) | (go_simp; rfl)); (case hp => exact (Reps.one (show Kd.M Kd.flt _ _ _ (rdOf (0 : Nat) l0_2 a1) [.float .f64 (rdOf (0 : Nat) l0_2 a1)] from rfl) (Reps.one (show Kd.M Kd.flt _ _ _ t144 [.float .f64 t144] from rfl) (Reps.one (show Kd.M Kd.flt _ _ _ t146 [.float .f64 t146] from rfl) (Reps.one (show Kd.M Kd.flt _ _ _ (rdOf (0 : Nat) l0_2 (ji4)) [.float .f64 (rdOf (0 : Nat) l0_2 (ji4))] from rfl) (Reps.none _ _)))))); intro v148 w26 ho27 hb hg_ hnew_; clear hg_ hnew_; (first | rw [← Ny147.out] at ho27 | (simp only [Int.reduceToNat] at ho27; rw [← Ny147.out] at ho27)); have HO149 := aM (Kd.R_lower (Kd.R_new' ho27 (Kd.R_lt (rA HO138.out))) (below_size (bG HB.out))); replace HO138 := aM (Kd.R_elder' (rA HO138.out) (Kd.R_base ho27) hb); replace BK135 := kB BK135 hb; replace HB := gB HB hb; clear hb ho27))
  repeat (go_quiet (first | ((with_reducible refine gD 2 rfl ?_); refine boxW (N := 2) #[.int .i64 a0_0, .slice A0_1 l0_1.length c0_1, .slice A0_2 l0_2.length c0_2] 128 HB ?_; clear HB; intro gb135 w21 BK135 HB GW135; have GE135 := GW135; obtain ⟨hcz22_0, hcz22_1, hcz22_2, hfz22_0, hfz22_1, hfz22_2⟩ := cz3 BK135.out) | (go_at_call 199; (with_reducible refine (interp_slopes.calls k a0_0 _ _ l0_1 _ _ l0_2 t136 _ ?side1 ?side2 ?side3 ?side4 A3.out).mono ?_); (case side1 => exact cA (Kd.C_below HR0_1.out HB.out)); (case side2 => exact HC0_1.out); (case side3 => exact cA (Kd.C_below HR0_2.out HB.out)); (case side4 => exact HC0_2.out); rintro e w23 ⟨v137, rfl, ho0, hb⟩; have HO138 := aM (Kd.R_lower ho0 (below_size (bG HB.out))); replace BK135 := kB BK135 hb; replace HB := gB HB hb; (try clear hb); (try clear hb2); (try clear hk); (try clear hi); (try clear ho0); obtain ⟨hcz24_0, hcz24_1, hcz24_2, hfz24_0, hfz24_1, hfz24_2⟩ := cz3 BK135.out; have p139 : 0 ≤ ((ji4) : Int) := of_decide_eq_true asA; have q139 : (ji4) < (l0_1.length : Int) := of_decide_eq_true asA; obtain ⟨ad139, e139, hx139_0⟩ := Kd.at_int HR0_1.out (ji4) p139 q139; cases e139; replace hx139_0 := (HB.out.cell (World.block_lt_of_cell? w _ hx139_0)).trans hx139_0; replace p139 := eq_true p139; replace q139 := eq_true q139; have p140 : 0 ≤ (a1 : Int) := of_decide_eq_true asA; have q140 : a1 < (l0_1.length : Int) := of_decide_eq_true asA; obtain ⟨ad140, e140, hx140_0⟩ := Kd.at_int HR0_1.out a1 p140 q140; obtain rfl : ad139 = ad140 := (by injection e140); replace hx140_0 := (HB.out.cell (World.block_lt_of_cell? w _ hx140_0)).trans hx140_0; replace p140 := eq_true p140; replace q140 := eq_true q140; have p141 : 0 ≤ (a1 : Int) := of_decide_eq_true asA; have q141 : a1 < (l0_2.length : Int) := of_decide_eq_true asA; obtain ⟨ad141, e141, hx141_0⟩ := Kd.at_flt HR0_2.out a1 p141 q141; cases e141; replace hx141_0 := (HB.out.cell (World.block_lt_of_cell? w _ hx141_0)).trans hx141_0; replace p141 := eq_true p141; replace q141 := eq_true q141; have p142 : 0 ≤ ((ji4) : Int) := of_decide_eq_true asA; have q142 : (ji4) < (l0_2.length : Int) := of_decide_eq_true asA; obtain ⟨ad142, e142, hx142_0⟩ := Kd.at_flt HR0_2.out (ji4) p142 q142; obtain rfl : ad141 = ad142 := (by injection e142); replace hx142_0 := (HB.out.cell (World.block_lt_of_cell? w _ hx142_0)).trans hx142_0; replace p142 := eq_true p142; replace q142 := eq_true q142; obtain ⟨Ao25, co25, eo25⟩ := Kd.R_slice HO138.out; subst eo25; have p143 : 0 ≤ (a1 : Int) := of_decide_eq_true asA; have q143 : a1 < (t136.length : Int) := of_decide_eq_true asA; obtain ⟨ad143, e143, hx143_0⟩ := Kd.at_flt (Kd.R_reads' HO138.out).2.2 a1 p143 q143; cases e143; replace p143 := eq_true p143; replace q143 := eq_true q143) | (go_at_call 173; (with_reducible refine (interp_held.calls k (faddV (rdOf (0 : Nat) l0_2 a1) (fdivV (fmulV (rdOf (0 : Nat) t136 a1) (floatOfInt .f64 (wrap64 ((rd l0_1 (ji4)) - (rd l0_1 a1))))) (4613937818241073152 : Nat))) (rdOf (0 : Nat) l0_2 a1) (rdOf (0 : Nat) l0_2 (ji4)) t144 _ A15.out).mono ?_); rintro e w' ⟨rfl, ⟨nd, rfl⟩⟩; (try exact ddA); have p145 : 0 ≤ ((ji4) : Int) := of_decide_eq_true asA; have q145 : (ji4) < (t136.length : Int) := of_decide_eq_true asA; obtain ⟨ad145, e145, hx145_0⟩ := Kd.at_flt (Kd.R_reads' HO138.out).2.2 (ji4) p145 q145; obtain rfl : ad143 = ad145 := (by injection e145); replace p145 := eq_true p145; replace q145 := eq_true q145) | (go_at_call 173; (with_reducible refine (interp_held.calls k (fsubV (rdOf (0 : Nat) l0_2 (ji4)) (fdivV (fmulV (rdOf (0 : Nat) t136 (ji4)) (floatOfInt .f64 (wrap64 ((rd l0_1 (ji4)) - (rd l0_1 a1))))) (4613937818241073152 : Nat))) t144 (rdOf (0 : Nat) l0_2 (ji4)) t146 _ A20.out).mono ?_); rintro e w' ⟨rfl, ⟨nd, rfl⟩⟩; (try exact ddA)) | ((with_reducible refine gD 64 rfl ?_); refine Kd.R_lit Kd.flt _ 29 ?hg (N := 64) ?hd (xs := ([rdOf (0 : Nat) l0_2 a1, t144, t146, rdOf (0 : Nat) l0_2 (ji4)] : List Nat)) (inner := [.float .f64 (rdOf (0 : Nat) l0_2 a1), .float .f64 t144, .float .f64 t146, .float .f64 (rdOf (0 : Nat) l0_2 (ji4))]) (ok := fun _ => True) (okp := fun _ => True) ?hr ?hp (fun _ hk => hk) trivial (Below.refl _ _) (Nat.le_refl _) (by simp) ?_; (case hd => rfl); (case hg => rfl); (case hr => first | (go_simp; done) | (go_simp; rfl)); (case hp => exact (Reps.one (show Kd.M Kd.flt _ _ _ (rdOf (0 : Nat) l0_2 a1) [.float .f64 (rdOf (0 : Nat) l0_2 a1)] from rfl) (Reps.one (show Kd.M Kd.flt _ _ _ t144 [.float .f64 t144] from rfl) (Reps.one (show Kd.M Kd.flt _ _ _ t146 [.float .f64 t146] from rfl) (Reps.one (show Kd.M Kd.flt _ _ _ (rdOf (0 : Nat) l0_2 (ji4)) [.float .f64 (rdOf (0 : Nat) l0_2 (ji4))] from rfl) (Reps.none _ _)))))); intro v148 w26 ho27 hb hg_ hnew_; clear hg_ hnew_; (first | rw [← Ny147.out] at ho27 | (simp only [Int.reduceToNat] at ho27; rw [← Ny147.out] at ho27)); have HO149 := aM (Kd.R_lower (Kd.R_new' ho27 (Kd.R_lt (rA HO138.out))) (below_size (bG HB.out))); replace HO138 := aM (Kd.R_elder' (rA HO138.out) (Kd.R_base ho27) hb); replace BK135 := kB BK135 hb; replace HB := gB HB hb; clear hb ho27)); try go_wp2_with (first | ((with_reducible refine gD 2 rfl ?_); refine boxW (N := 2) #[.int .i64 a0_0, .slice A0_1 l0_1.length c0_1, .slice A0_2 l0_2.length c0_2] 128 HB ?_; clear HB; intro gb135 w21 BK135 HB GW135; have GE135 := GW135; obtain ⟨hcz22_0, hcz22_1, hcz22_2, hfz22_0, hfz22_1, hfz22_2⟩ := cz3 BK135.out) | (go_at_call 199; (with_reducible refine (interp_slopes.calls k a0_0 _ _ l0_1 _ _ l0_2 t136 _ ?side1 ?side2 ?side3 ?side4 A3.out).mono ?_); (case side1 => exact cA (Kd.C_below HR0_1.out HB.out)); (case side2 => exact HC0_1.out); (case side3 => exact cA (Kd.C_below HR0_2.out HB.out)); (case side4 => exact HC0_2.out); rintro e w23 ⟨v137, rfl, ho0, hb⟩; have HO138 := aM (Kd.R_lower ho0 (below_size (bG HB.out))); replace BK135 := kB BK135 hb; replace HB := gB HB hb; (try clear hb); (try clear hb2); (try clear hk); (try clear hi); (try clear ho0); obtain ⟨hcz24_0, hcz24_1, hcz24_2, hfz24_0, hfz24_1, hfz24_2⟩ := cz3 BK135.out; have p139 : 0 ≤ ((ji4) : Int) := of_decide_eq_true asA; have q139 : (ji4) < (l0_1.length : Int) := of_decide_eq_true asA; obtain ⟨ad139, e139, hx139_0⟩ := Kd.at_int HR0_1.out (ji4) p139 q139; cases e139; replace hx139_0 := (HB.out.cell (World.block_lt_of_cell? w _ hx139_0)).trans hx139_0; replace p139 := eq_true p139; replace q139 := eq_true q139; have p140 : 0 ≤ (a1 : Int) := of_decide_eq_true asA; have q140 : a1 < (l0_1.length : Int) := of_decide_eq_true asA; obtain ⟨ad140, e140, hx140_0⟩ := Kd.at_int HR0_1.out a1 p140 q140; obtain rfl : ad139 = ad140 := (by injection e140); replace hx140_0 := (HB.out.cell (World.block_lt_of_cell? w _ hx140_0)).trans hx140_0; replace p140 := eq_true p140; replace q140 := eq_true q140; have p141 : 0 ≤ (a1 : Int) := of_decide_eq_true asA; have q141 : a1 < (l0_2.length : Int) := of_decide_eq_true asA; obtain ⟨ad141, e141, hx141_0⟩ := Kd.at_flt HR0_2.out a1 p141 q141; cases e141; replace hx141_0 := (HB.out.cell (World.block_lt_of_cell? w _ hx141_0)).trans hx141_0; replace p141 := eq_true p141; replace q141 := eq_true q141; have p142 : 0 ≤ ((ji4) : Int) := of_decide_eq_true asA; have q142 : (ji4) < (l0_2.length : Int) := of_decide_eq_true asA; obtain ⟨ad142, e142, hx142_0⟩ := Kd.at_flt HR0_2.out (ji4) p142 q142; obtain rfl : ad141 = ad142 := (by injection e142); replace hx142_0 := (HB.out.cell (World.block_lt_of_cell? w _ hx142_0)).trans hx142_0; replace p142 := eq_true p142; replace q142 := eq_true q142; obtain ⟨Ao25, co25, eo25⟩ := Kd.R_slice HO138.out; subst eo25; have p143 : 0 ≤ (a1 : Int) := of_decide_eq_true asA; have q143 : a1 < (t136.length : Int) := of_decide_eq_true asA; obtain ⟨ad143, e143, hx143_0⟩ := Kd.at_flt (Kd.R_reads' HO138.out).2.2 a1 p143 q143; cases e143; replace p143 := eq_true p143; replace q143 := eq_true q143) | (go_at_call 173; (with_reducible refine (interp_held.calls k (faddV (rdOf (0 : Nat) l0_2 a1) (fdivV (fmulV (rdOf (0 : Nat) t136 a1) (floatOfInt .f64 (wrap64 ((rd l0_1 (ji4)) - (rd l0_1 a1))))) (4613937818241073152 : Nat))) (rdOf (0 : Nat) l0_2 a1) (rdOf (0 : Nat) l0_2 (ji4)) t144 _ A15.out).mono ?_); rintro e w' ⟨rfl, ⟨nd, rfl⟩⟩; (try exact ddA); have p145 : 0 ≤ ((ji4) : Int) := of_decide_eq_true asA; have q145 : (ji4) < (t136.length : Int) := of_decide_eq_true asA; obtain ⟨ad145, e145, hx145_0⟩ := Kd.at_flt (Kd.R_reads' HO138.out).2.2 (ji4) p145 q145; obtain rfl : ad143 = ad145 := (by injection e145); replace p145 := eq_true p145; replace q145 := eq_true q145) | (go_at_call 173; (with_reducible refine (interp_held.calls k (fsubV (rdOf (0 : Nat) l0_2 (ji4)) (fdivV (fmulV (rdOf (0 : Nat) t136 (ji4)) (floatOfInt .f64 (wrap64 ((rd l0_1 (ji4)) - (rd l0_1 a1))))) (4613937818241073152 : Nat))) t144 (rdOf (0 : Nat) l0_2 (ji4)) t146 _ A20.out).mono ?_); rintro e w' ⟨rfl, ⟨nd, rfl⟩⟩; (try exact ddA)) | ((with_reducible refine gD 64 rfl ?_); refine Kd.R_lit Kd.flt _ 29 ?hg (N := 64) ?hd (xs := ([rdOf (0 : Nat) l0_2 a1, t144, t146, rdOf (0 : Nat) l0_2 (ji4)] : List Nat)) (inner := [.float .f64 (rdOf (0 : Nat) l0_2 a1), .float .f64 t144, .float .f64 t146, .float .f64 (rdOf (0 : Nat) l0_2 (ji4))]) (ok := fun _ => True) (okp := fun _ => True) ?hr ?hp (fun _ hk => hk) trivial (Below.refl _ _) (Nat.le_refl _) (by simp) ?_; (case hd => rfl); (case hg => rfl); (case hr => first | (go_simp; done) | (go_simp; rfl)); (case hp => exact (Reps.one (show Kd.M Kd.flt _ _ _ (rdOf (0 : Nat) l0_2 a1) [.float .f64 (rdOf (0 : Nat) l0_2 a1)] from rfl) (Reps.one (show Kd.M Kd.flt _ _ _ t144 [.float .f64 t144] from rfl) (Reps.one (show Kd.M Kd.flt _ _ _ t146 [.float .f64 t146] from rfl) (Reps.one (show Kd.M Kd.flt _ _ _ (rdOf (0 : Nat) l0_2 (ji4)) [.float .f64 (rdOf (0 : Nat) l0_2 (ji4))] from rfl) (Reps.none _ _)))))); intro v148 w26 ho27 hb hg_ hnew_; clear hg_ hnew_; (first | rw [← Ny147.out] at ho27 | (simp only [Int.reduceToNat] at ho27; rw [← Ny147.out] at ho27)); have HO149 := aM (Kd.R_lower (Kd.R_new' ho27 (Kd.R_lt (rA HO138.out))) (below_size (bG HB.out))); replace HO138 := aM (Kd.R_elder' (rA HO138.out) (Kd.R_base ho27) hb); replace BK135 := kB BK135 hb; replace HB := gB HB hb; clear hb ho27)))
  go_ret
  exact ⟨_, by first | rfl | (simp [errW_none, errW_some] <;> rfl) | (simp only [← hji4]; first | rfl | (simp [errW_none, errW_some] <;> rfl)) | (simp [*, errW_none, errW_some] <;> rfl), by (with_reducible repeat (first | apply Kd.R_alloc | apply Kd.R_drewN | apply Kd.R_drew)); exact Kd.R_mono HO149.out (fun _ hk => trivial), bG HB.out⟩

/-! ### interp_linear: function 116 -/
def interp_linear.f (a0_0 : Int) (l0_1 : List Int) (l0_2 : List Nat) (a1 : Int) (a2 : Int) (a3 : Int) : Option (Nat) := if 0 ≤ a1 then (if a1 ≤ (wrap64 (a1 + 2)) then (if (wrap64 (a1 + 2)) ≤ (l0_2.length : Int) then ((interp_over.f a3 (([wrap64 (a3 - a2), a2] : List Int)) ((l0_2.take ((wrap64 (a1 + 2)) : Int).toNat).drop (a1 : Int).toNat)).bind fun t155 => (some t155)) else (none)) else (none)) else (none)
set_option maxHeartbeats 8000000 in
set_option maxRecDepth 100000 in
theorem interp_linear.calls (a0_0 : Int) (A0_1 : Option Addr) (c0_1 : Nat) (l0_1 : List Int) (A0_2 : Option Addr) (c0_2 : Nat) (l0_2 : List Nat) (a1 : Int) (a2 : Int) (a3 : Int) (r : Nat) (w : World) (hr0_1 : Kd.C (Kd.int .i64) w A0_1 l0_1.length l0_1) (hc0_1 : l0_1.length ≤ c0_1) (hr0_2 : Kd.C Kd.flt w A0_2 l0_2.length l0_2) (hc0_2 : l0_2.length ≤ c0_2) (h : interp_linear.f a0_0 l0_1 l0_2 a1 a2 a3 = some r) :
    Calls Tryz.prog 116 #[.agg #[.int .i64 a0_0, .slice A0_1 l0_1.length c0_1, .slice A0_2 l0_2.length c0_2], .int .i64 a1, .int .i64 a2, .int .i64 a3] w fun e w' => e = .returned (.float .f64 r) ∧ Below w.heap.size w w' := by
  have hu128 := Tryz.underlying128
  have HR0_1 := aM hr0_1
  have HC0_1 := aM hc0_1
  clear hr0_1 hc0_1
  have HR0_2 := aM hr0_2
  have HC0_2 := aM hc0_2
  clear hr0_2 hc0_2
  have HB := aM (Below.refl w.heap.size w)
  have H : (if 0 ≤ a1 then (if a1 ≤ (wrap64 (a1 + 2)) then (if (wrap64 (a1 + 2)) ≤ (l0_2.length : Int) then ((interp_over.f a3 (([wrap64 (a3 - a2), a2] : List Int)) ((l0_2.take ((wrap64 (a1 + 2)) : Int).toNat).drop (a1 : Int).toNat)).bind fun t155 => (some t155)) else (none)) else (none)) else (none)) = some r := h
  clear h
  generalize hy151 : (([wrap64 (a3 - a2), a2] : List Int)) = y151 at H
  replace hy151 := hy151.symm
  (try (revert H; (with_reducible refine sE y151 ?_); intro H))
  have Ny151 := aM hy151
  clear hy151
  revert H
  refine ifP fun c5 H => ?_
  have c5b0 := eq_true c5
  have c5b1 : decide (0 ≤ a1) = true := decide_eq_true c5
  clear c5
  revert H
  refine ifP fun c6 H => ?_
  have c6b0 := eq_true c6
  have c6b1 : decide (a1 ≤ (wrap64 (a1 + 2))) = true := decide_eq_true c6
  revert H
  refine ifP fun c7 H => ?_
  have c7b0 := eq_true c7
  have c7b1 : decide ((wrap64 (a1 + 2)) ≤ (l0_2.length : Int)) = true := decide_eq_true c7
  revert H
  refine bE ?_
  rintro t155 A8 H
  obtain rfl := Option.some.inj H
  go_enter Tryz.func116, Tryz.ntmps116
  go_wp2_with (first | ((with_reducible refine gD 4 rfl ?_); refine boxW (N := 4) #[.int .i64 a0_0, .slice A0_1 l0_1.length c0_1, .slice A0_2 l0_2.length c0_2] 128 HB ?_; clear HB; intro gb150 w9 BK150 HB GW150; have GE150 := GW150) | ((with_reducible refine gD 14 rfl ?_); refine Kd.R_lit (Kd.int .i64) _ 3 ?hg (N := 14) ?hd (xs := ([wrap64 (a3 - a2), a2] : List Int)) (inner := [.int .i64 (wrap64 (a3 - a2)), .int .i64 a2]) (ok := fun _ => True) (okp := fun _ => True) ?hr ?hp (fun _ hk => hk) trivial (Below.refl _ _) (Nat.le_refl _) (by simp) ?_; (case hd => rfl); (case hg => rfl); (case hr => first | (go_simp; done) | (go_simp; rfl)); (case hp => exact (Reps.one (show Kd.M (Kd.int .i64) _ _ _ (wrap64 (a3 - a2)) [.int .i64 (wrap64 (a3 - a2))] from rfl) (Reps.one (show Kd.M (Kd.int .i64) _ _ _ a2 [.int .i64 a2] from rfl) (Reps.none _ _)))); intro v152 w10 ho11 hb hg_ hnew_; clear hg_ hnew_; (first | rw [← Ny151.out] at ho11 | (simp only [Int.reduceToNat] at ho11; rw [← Ny151.out] at ho11)); have HO153 := aM (Kd.R_lower ho11 (below_size (bG HB.out))); replace BK150 := kB BK150 hb; replace HB := gB HB hb; clear hb ho11; obtain ⟨hcz12_0, hcz12_1, hcz12_2, hfz12_0, hfz12_1, hfz12_2⟩ := cz3 BK150.out; obtain ⟨i013, hi013, _, hsz13, _⟩ := info_parts info29; obtain ⟨A13, hcut13, hA13, hC13⟩ := print_mid_of (P := Tryz.prog) (Value.float .f64) (0 : Nat) 24 29 .i64 .i64 Tryz.underlying24 hi013 hsz13 A0_2 c0_2 l0_2 a1 (wrap64 (a1 + 2)) (of_decide_eq_true asA) (by first | omega | exact of_decide_eq_true asA) (of_decide_eq_true asA) HC0_2.out; have HR154 := aM (Kd.C_of_reads (h1 := fun _ => rfl) (hA13 _ (Kd.reads_of_C HR0_2.out))); have HC154 := aM hC13; clear hA13 hC13 hi013 hsz13; obtain ⟨Ao14, co14, eo14⟩ := Kd.R_slice HO153.out; subst eo14) | ((with_reducible refine gate_callee (f := 170) rfl ?_); refine goesL_ (some 21) rfl rfl Tryz.func170 (by kernel_rfl) rfl #[.int .i64 a3, .slice Ao14 y151.length co14, .slice A13 ((l0_2.take ((wrap64 (a1 + 2)) : Int).toNat).drop (a1 : Int).toNat).length (c0_2 - a1.toNat)] rfl (by (try simp only [List.map_toArray, List.map_cons, List.map_nil]); first | done | (rw [show ((l0_2.take ((wrap64 (a1 + 2)) : Int).toNat).drop (a1 : Int).toNat).length = ((wrap64 (a1 + 2)).toNat - a1.toNat) from (by rw [List.length_drop, List.length_take]; have h_ : ((wrap64 (a1 + 2)) : Int) ≤ (l0_2.length : Int) := of_decide_eq_true asA; omega)] <;> rfl) | rfl | (simp only [List.length_drop, List.length_take]; rfl)) ?_; (with_reducible refine (interp_over.calls a3 _ _ y151 _ _ ((l0_2.take ((wrap64 (a1 + 2)) : Int).toNat).drop (a1 : Int).toNat) t155 _ ?side1 ?side2 ?side3 ?side4 A8.out).mono ?_); (case side1 => exact cA ((Kd.R_reads' HO153.out).2.2)); (case side2 => exact (Kd.R_reads' HO153.out).2.1); (case side3 => exact cA (Kd.C_below HR154.out HB.out)); (case side4 => exact HC154.out); rintro e w15 ⟨rfl, hb⟩; refine ⟨_, rfl, ?_⟩; replace HO153 := rB HO153 hb; replace BK150 := kB BK150 hb; replace HB := gB HB hb; (try clear hb); (try clear hb2); (try clear hk); (try clear hi)))
  go_ret
  exact ⟨eA, bG HB.out⟩

/-! ### interp_cubic: function 117 -/
def interp_cubic.f (k : Nat) (a0_0 : Int) (l0_1 : List Int) (l0_2 : List Nat) (a1 : Int) (a2 : Int) (a3 : Int) : Option (Nat) := (interp_points.f k a0_0 l0_1 l0_2 a1).bind fun t160 => ((interp_over.f (wrap64 ((wrap64 (a3 * a3)) * a3)) (([wrap64 ((wrap64 ((wrap64 (a3 - a2)) * (wrap64 (a3 - a2)))) * (wrap64 (a3 - a2))), wrap64 ((wrap64 ((wrap64 (3 * (wrap64 (a3 - a2)))) * (wrap64 (a3 - a2)))) * a2), wrap64 ((wrap64 ((wrap64 (3 * (wrap64 (a3 - a2)))) * a2)) * a2), wrap64 ((wrap64 (a2 * a2)) * a2)] : List Int)) t160).bind fun t163 => (some t163))
set_option maxHeartbeats 8000000 in
set_option maxRecDepth 100000 in
theorem interp_cubic.calls (k : Nat) (a0_0 : Int) (A0_1 : Option Addr) (c0_1 : Nat) (l0_1 : List Int) (A0_2 : Option Addr) (c0_2 : Nat) (l0_2 : List Nat) (a1 : Int) (a2 : Int) (a3 : Int) (r : Nat) (w : World) (hr0_1 : Kd.C (Kd.int .i64) w A0_1 l0_1.length l0_1) (hc0_1 : l0_1.length ≤ c0_1) (hr0_2 : Kd.C Kd.flt w A0_2 l0_2.length l0_2) (hc0_2 : l0_2.length ≤ c0_2) (h : interp_cubic.f k a0_0 l0_1 l0_2 a1 a2 a3 = some r) :
    Calls Tryz.prog 117 #[.agg #[.int .i64 a0_0, .slice A0_1 l0_1.length c0_1, .slice A0_2 l0_2.length c0_2], .int .i64 a1, .int .i64 a2, .int .i64 a3] w fun e w' => e = .returned (.float .f64 r) ∧ Below w.heap.size w w' := by
  have hu128 := Tryz.underlying128
  have HR0_1 := aM hr0_1
  have HC0_1 := aM hc0_1
  clear hr0_1 hc0_1
  have HR0_2 := aM hr0_2
  have HC0_2 := aM hc0_2
  clear hr0_2 hc0_2
  have HB := aM (Below.refl w.heap.size w)
  have H : ((interp_points.f k a0_0 l0_1 l0_2 a1).bind fun t160 => ((interp_over.f (wrap64 ((wrap64 (a3 * a3)) * a3)) (([wrap64 ((wrap64 ((wrap64 (a3 - a2)) * (wrap64 (a3 - a2)))) * (wrap64 (a3 - a2))), wrap64 ((wrap64 ((wrap64 (3 * (wrap64 (a3 - a2)))) * (wrap64 (a3 - a2)))) * a2), wrap64 ((wrap64 ((wrap64 (3 * (wrap64 (a3 - a2)))) * a2)) * a2), wrap64 ((wrap64 (a2 * a2)) * a2)] : List Int)) t160).bind fun t163 => (some t163))) = some r := h
  clear h
  generalize hy157 : (([wrap64 ((wrap64 ((wrap64 (a3 - a2)) * (wrap64 (a3 - a2)))) * (wrap64 (a3 - a2))), wrap64 ((wrap64 ((wrap64 (3 * (wrap64 (a3 - a2)))) * (wrap64 (a3 - a2)))) * a2), wrap64 ((wrap64 ((wrap64 (3 * (wrap64 (a3 - a2)))) * a2)) * a2), wrap64 ((wrap64 (a2 * a2)) * a2)] : List Int)) = y157 at H
  replace hy157 := hy157.symm
  (try (revert H; (with_reducible refine sE y157 ?_); intro H))
  have Ny157 := aM hy157
  clear hy157
  revert H
  refine bE ?_
  rintro t160 A5 H
  revert H
  refine bE ?_
  rintro t163 A6 H
  obtain rfl := Option.some.inj H
  go_enter Tryz.func117, Tryz.ntmps117
  go_wp2_with (first | ((with_reducible refine gD 4 rfl ?_); refine boxW (N := 4) #[.int .i64 a0_0, .slice A0_1 l0_1.length c0_1, .slice A0_2 l0_2.length c0_2] 128 HB ?_; clear HB; intro gb156 w7 BK156 HB GW156; have GE156 := GW156) | ((with_reducible refine gD 40 rfl ?_); refine Kd.R_lit (Kd.int .i64) _ 3 ?hg (N := 40) ?hd (xs := ([wrap64 ((wrap64 ((wrap64 (a3 - a2)) * (wrap64 (a3 - a2)))) * (wrap64 (a3 - a2))), wrap64 ((wrap64 ((wrap64 (3 * (wrap64 (a3 - a2)))) * (wrap64 (a3 - a2)))) * a2), wrap64 ((wrap64 ((wrap64 (3 * (wrap64 (a3 - a2)))) * a2)) * a2), wrap64 ((wrap64 (a2 * a2)) * a2)] : List Int)) (inner := [.int .i64 (wrap64 ((wrap64 ((wrap64 (a3 - a2)) * (wrap64 (a3 - a2)))) * (wrap64 (a3 - a2)))), .int .i64 (wrap64 ((wrap64 ((wrap64 (3 * (wrap64 (a3 - a2)))) * (wrap64 (a3 - a2)))) * a2)), .int .i64 (wrap64 ((wrap64 ((wrap64 (3 * (wrap64 (a3 - a2)))) * a2)) * a2)), .int .i64 (wrap64 ((wrap64 (a2 * a2)) * a2))]) (ok := fun _ => True) (okp := fun _ => True) ?hr ?hp (fun _ hk => hk) trivial (Below.refl _ _) (Nat.le_refl _) (by simp) ?_; (case hd => rfl); (case hg => rfl); (case hr => first | (go_simp; done) | (go_simp; rfl)); (case hp => exact (Reps.one (show Kd.M (Kd.int .i64) _ _ _ (wrap64 ((wrap64 ((wrap64 (a3 - a2)) * (wrap64 (a3 - a2)))) * (wrap64 (a3 - a2)))) [.int .i64 (wrap64 ((wrap64 ((wrap64 (a3 - a2)) * (wrap64 (a3 - a2)))) * (wrap64 (a3 - a2))))] from rfl) (Reps.one (show Kd.M (Kd.int .i64) _ _ _ (wrap64 ((wrap64 ((wrap64 (3 * (wrap64 (a3 - a2)))) * (wrap64 (a3 - a2)))) * a2)) [.int .i64 (wrap64 ((wrap64 ((wrap64 (3 * (wrap64 (a3 - a2)))) * (wrap64 (a3 - a2)))) * a2))] from rfl) (Reps.one (show Kd.M (Kd.int .i64) _ _ _ (wrap64 ((wrap64 ((wrap64 (3 * (wrap64 (a3 - a2)))) * a2)) * a2)) [.int .i64 (wrap64 ((wrap64 ((wrap64 (3 * (wrap64 (a3 - a2)))) * a2)) * a2))] from rfl) (Reps.one (show Kd.M (Kd.int .i64) _ _ _ (wrap64 ((wrap64 (a2 * a2)) * a2)) [.int .i64 (wrap64 ((wrap64 (a2 * a2)) * a2))] from rfl) (Reps.none _ _)))))); intro v158 w8 ho9 hb hg_ hnew_; clear hg_ hnew_; (first | rw [← Ny157.out] at ho9 | (simp only [Int.reduceToNat] at ho9; rw [← Ny157.out] at ho9)); have HO159 := aM (Kd.R_lower ho9 (below_size (bG HB.out))); replace BK156 := kB BK156 hb; replace HB := gB HB hb; clear hb ho9; obtain ⟨hcz10_0, hcz10_1, hcz10_2, hfz10_0, hfz10_1, hfz10_2⟩ := cz3 BK156.out) | ((with_reducible refine gate_callee (f := 171) rfl ?_); refine goL (N := some 43) Tryz.func171 #[.agg #[.int .i64 a0_0, .slice A0_1 l0_1.length c0_1, .slice A0_2 l0_2.length c0_2], .int .i64 a1] ?_; (with_reducible refine (interp_points.calls k a0_0 _ _ l0_1 _ _ l0_2 a1 t160 _ ?side1 ?side2 ?side3 ?side4 A5.out).mono ?_); (case side1 => exact cA (Kd.C_below HR0_1.out HB.out)); (case side2 => exact HC0_1.out); (case side3 => exact cA (Kd.C_below HR0_2.out HB.out)); (case side4 => exact HC0_2.out); rintro e w11 ⟨v161, rfl, ho0, hb⟩; refine ⟨_, rfl, ?_⟩; replace HO159 := rB HO159 hb; have HO162 := aM (Kd.R_lower ho0 (below_size (bG HB.out))); replace BK156 := kB BK156 hb; replace HB := gB HB hb; (try clear hb); (try clear hb2); (try clear hk); (try clear hi); (try clear ho0); obtain ⟨Ao12, co12, eo12⟩ := Kd.R_slice HO159.out; subst eo12; obtain ⟨Ao13, co13, eo13⟩ := Kd.R_slice HO162.out; subst eo13) | ((with_reducible refine gate_callee (f := 170) rfl ?_); refine goL (N := some 44) Tryz.func170 #[.int .i64 (wrap64 ((wrap64 (a3 * a3)) * a3)), .slice Ao12 y157.length co12, .slice Ao13 t160.length co13] ?_; (with_reducible refine (interp_over.calls (wrap64 ((wrap64 (a3 * a3)) * a3)) _ _ y157 _ _ t160 t163 _ ?side1 ?side2 ?side3 ?side4 A6.out).mono ?_); (case side1 => exact cA ((Kd.R_reads' HO159.out).2.2)); (case side2 => exact (Kd.R_reads' HO159.out).2.1); (case side3 => exact cA ((Kd.R_reads' HO162.out).2.2)); (case side4 => exact (Kd.R_reads' HO162.out).2.1); rintro e w14 ⟨rfl, hb⟩; refine ⟨_, rfl, ?_⟩; replace HO159 := rB HO159 hb; replace HO162 := rB HO162 hb; replace BK156 := kB BK156 hb; replace HB := gB HB hb; (try clear hb); (try clear hb2); (try clear hk); (try clear hi)))
  go_ret
  exact ⟨eA, bG HB.out⟩

/-! ### interp_flat: function 115 -/
def interp_flat.f (a0_0 : Int) (l0_1 : List Int) (l0_2 : List Nat) (a1 : Int) (a2 : Int) (a3 : Int) : Option (Nat) := if 0 ≤ a1 then (if a1 < (l0_2.length : Int) then (some (rdOf (0 : Nat) l0_2 a1)) else (none)) else (none)
set_option maxHeartbeats 8000000 in
set_option maxRecDepth 100000 in
theorem interp_flat.calls (a0_0 : Int) (A0_1 : Option Addr) (c0_1 : Nat) (l0_1 : List Int) (A0_2 : Option Addr) (c0_2 : Nat) (l0_2 : List Nat) (a1 : Int) (a2 : Int) (a3 : Int) (r : Nat) (w : World) (hr0_1 : Kd.C (Kd.int .i64) w A0_1 l0_1.length l0_1) (hc0_1 : l0_1.length ≤ c0_1) (hr0_2 : Kd.C Kd.flt w A0_2 l0_2.length l0_2) (hc0_2 : l0_2.length ≤ c0_2) (h : interp_flat.f a0_0 l0_1 l0_2 a1 a2 a3 = some r) :
    Calls Tryz.prog 115 #[.agg #[.int .i64 a0_0, .slice A0_1 l0_1.length c0_1, .slice A0_2 l0_2.length c0_2], .int .i64 a1, .int .i64 a2, .int .i64 a3] w fun e w' => e = .returned (.float .f64 r) ∧ Below w.heap.size w w' := by
  have hu128 := Tryz.underlying128
  have HR0_1 := aM hr0_1
  have HC0_1 := aM hc0_1
  clear hr0_1 hc0_1
  have HR0_2 := aM hr0_2
  have HC0_2 := aM hc0_2
  clear hr0_2 hc0_2
  have HB := aM (Below.refl w.heap.size w)
  have H : (if 0 ≤ a1 then (if a1 < (l0_2.length : Int) then (some (rdOf (0 : Nat) l0_2 a1)) else (none)) else (none)) = some r := h
  clear h
  revert H
  refine ifP fun c5 H => ?_
  have c5b0 := decide_eq_true c5
  clear c5
  revert H
  refine ifP fun c6 H => ?_
  have c6b0 := decide_eq_true c6
  clear c6
  obtain rfl := Option.some.inj H
  go_enter Tryz.func115, Tryz.ntmps115
  go_wp2_with (first | ((with_reducible refine gD 4 rfl ?_); refine boxW (N := 4) #[.int .i64 a0_0, .slice A0_1 l0_1.length c0_1, .slice A0_2 l0_2.length c0_2] 128 HB ?_; clear HB; intro gb164 w7 BK164 HB GW164; have GE164 := GW164; obtain ⟨hcz8_0, hcz8_1, hcz8_2, hfz8_0, hfz8_1, hfz8_2⟩ := cz3 BK164.out; have p165 : 0 ≤ (a1 : Int) := of_decide_eq_true asA; have q165 : a1 < (l0_2.length : Int) := of_decide_eq_true asA; obtain ⟨ad165, e165, hx165_0⟩ := Kd.at_flt HR0_2.out a1 p165 q165; cases e165; replace hx165_0 := (HB.out.cell (World.block_lt_of_cell? w _ hx165_0)).trans hx165_0; replace p165 := eq_true p165; replace q165 := eq_true q165))
  go_ret
  exact ⟨eA, bG HB.out⟩

/-! ### fn_scaled: function 157 -/
def fn_scaled.f (a0 : Nat) (a1 : Int) : Option (Nat) := (ieee_Split.f a0).bind fun bt166 => ((ieee_Join.f bt166.1 (wrap64 (bt166.2.1 + a1))).bind fun t169 => (some t169))
set_option maxHeartbeats 8000000 in
set_option maxRecDepth 100000 in
theorem fn_scaled.calls (a0 : Nat) (a1 : Int) (r : Nat) (w : World) (h : fn_scaled.f a0 a1 = some r) :
    Calls Tryz.prog 157 #[.float .f64 a0, .int .i64 a1] w fun e w' => e = .returned (.float .f64 r) ∧ Drawn0 w w' := by
  have H : ((ieee_Split.f a0).bind fun bt166 => ((ieee_Join.f bt166.1 (wrap64 (bt166.2.1 + a1))).bind fun t169 => (some t169))) = some r := h
  clear h
  revert H
  refine bE ?_
  rintro ⟨t166, t167, t168⟩ A3 H
  (try dsimp only at H)
  revert H
  refine bE ?_
  rintro t169 A4 H
  obtain rfl := Option.some.inj H
  go_enter Tryz.func157, Tryz.ntmps157
  go_wp2_with (first | ((with_reducible refine gate_callee (f := 76) rfl ?_); refine goL (N := some 10) Tryz.func76 #[.float .f64 a0] ?_; (with_reducible refine (ieee_Split.calls a0 t166 t167 t168 _ A3.out).mono ?_); rintro e w' ⟨rfl, ⟨nd, rfl⟩⟩; refine ⟨_, rfl, ?_⟩) | ((with_reducible refine gate_callee (f := 191) rfl ?_); refine goL (N := some 18) Tryz.func191 #[.int .i64 t166, .int .i64 (wrap64 (t167 + a1))] ?_; (with_reducible refine (ieee_Join.calls t166 (wrap64 (t167 + a1)) t169 _ A4.out).mono ?_); rintro e w' ⟨rfl, ⟨nd, rfl⟩⟩; refine ⟨_, rfl, ?_⟩))
  go_ret
  exact ⟨sA, dA⟩

/-! ### fn_Horner: function 158 -/
def fn_Horner.l0 : Nat → List Nat → Nat → Nat → Int → Option (Nat)
  | 0, _, _, _, _ => none
  | k + 1, x0, x1, x5, x6 => if x6 ≥ 0 then (if fmulK x5 x1 = true then (if 0 ≤ x6 then (if x6 < (x0.length : Int) then (if faddK (fmulV x5 x1) (rdOf (0 : Nat) x0 x6) = true then (fn_Horner.l0 k x0 x1 (faddV (fmulV x5 x1) (rdOf (0 : Nat) x0 x6)) (wrap64 (x6 - 1))) else (none)) else (none)) else (none)) else (none)) else (some x5)
def fn_Horner.f (k : Nat) (l0 : List Nat) (a1 : Nat) : Option (Nat) := if (l0.length : Int) = 0 then (some (0 : Nat)) else (if 0 ≤ (wrap64 ((l0.length : Int) - 1)) then (if (wrap64 ((l0.length : Int) - 1)) < (l0.length : Int) then (fn_Horner.l0 k l0 a1 (rdOf (0 : Nat) l0 (wrap64 ((l0.length : Int) - 1))) (wrap64 ((l0.length : Int) - 2))) else (none)) else (none))
theorem fn_Horner.mono_l : ∀ k, (∀ y0 y1 y2 y3, LeO (fn_Horner.l0 k y0 y1 y2 y3) (fn_Horner.l0 (k + 1) y0 y1 y2 y3))
  | 0 => fun _ _ _ _ r h => by simp [fn_Horner.l0] at h
  | k + 1 => by
    have ih0 := fn_Horner.mono_l k
    · intro y0 y1 y2 y3
      unfold fn_Horner.l0
      repeat' first
      | (with_reducible exact ih0 _ _ _ _)
      | (with_reducible exact LeO.refl _)
      | (with_reducible exact LeO.none _)
      | (with_reducible refine LeO.ite ?_ ?_)
      | (with_reducible refine LeO.bind ?_ (fun _ => ?_))
      | exact ih0 _ _ _ _
      | exact LeO.none _
      | refine LeO.ite ?_ ?_
      | refine LeO.bind ?_ (fun _ => ?_)
theorem fn_Horner.mono : ∀ a0 a1 k, LeO (fn_Horner.f k a0 a1) (fn_Horner.f (k + 1) a0 a1) := by
  intro a0 a1 k
  have ih0 := fn_Horner.mono_l k
  unfold fn_Horner.f
  repeat' first
    | (with_reducible exact ih0 _ _ _ _)
    | (with_reducible exact LeO.refl _)
    | (with_reducible exact LeO.none _)
    | (with_reducible refine LeO.ite ?_ ?_)
    | (with_reducible refine LeO.bind ?_ (fun _ => ?_))
    | exact ih0 _ _ _ _
    | exact LeO.none _
    | refine LeO.ite ?_ ?_
    | refine LeO.bind ?_ (fun _ => ?_)
set_option maxHeartbeats 8000000 in
set_option maxRecDepth 100000 in
theorem fn_Horner.calls (k : Nat) (A0 : Option Addr) (c0 : Nat) (l0 : List Nat) (a1 : Nat) (r : Nat) (w : World) (hr0 : Kd.C Kd.flt w A0 l0.length l0) (hc0 : l0.length ≤ c0) (h : fn_Horner.f k l0 a1 = some r) :
    Calls Tryz.prog 158 #[.slice A0 l0.length c0, .float .f64 a1] w fun e w' => e = .returned (.float .f64 r) ∧ Drawn0 w w' := by
  have HR0 := aM hr0
  have HC0 := aM hc0
  clear hr0 hc0
  have H : (if (l0.length : Int) = 0 then (some (0 : Nat)) else (if 0 ≤ (wrap64 ((l0.length : Int) - 1)) then (if (wrap64 ((l0.length : Int) - 1)) < (l0.length : Int) then (fn_Horner.l0 k l0 a1 (rdOf (0 : Nat) l0 (wrap64 ((l0.length : Int) - 1))) (wrap64 ((l0.length : Int) - 2))) else (none)) else (none))) = some r := h
  clear h
  by_cases c3 : (l0.length : Int) = 0
  · rw [if_pos c3] at H
    have c3b0 : ((l0.length : Int) == 0) = true := beq_iff_eq.mpr c3
    have c3b1 : ((l0.length : Int) != 0) = false := bne_eq_false_iff_eq.mpr c3
    clear c3
    obtain rfl := Option.some.inj H
    go_enter Tryz.func158, Tryz.ntmps158
    go_wp2
    go_ret
    exact ⟨sA, dA⟩
  · rw [if_neg c3] at H
    have c3b0 : ((l0.length : Int) == 0) = false := beq_eq_false_iff_ne.mpr c3
    have c3b1 : ((l0.length : Int) != 0) = true := bne_iff_ne.mpr c3
    have c3b2 : ¬ (l0 = []) := fun h_ => c3 (by rw [h_]; rfl)
    generalize hji4 : (wrap64 ((l0.length : Int) - 1)) = ji4 at H
    have hji4w : (IntKind.i64.wrap ((l0.length : Int) - 1)) = ji4 := (i64_w _).trans hji4
    revert H
    refine ifP fun c5 H => ?_
    have c5b0 := decide_eq_true c5
    clear c5
    revert H
    refine ifP fun c6 H => ?_
    have c6b0 := decide_eq_true c6
    clear c6
    have H' := aM H
    clear H
    have p170 : 0 ≤ ((ji4) : Int) := of_decide_eq_true asA
    have q170 : (ji4) < (l0.length : Int) := of_decide_eq_true asA
    obtain ⟨ad170, e170, hx170_0⟩ := Kd.at_flt HR0.out (ji4) p170 q170
    cases e170
    replace p170 := eq_true p170
    replace q170 := eq_true q170
    go_enter Tryz.func158, Tryz.ntmps158
    go_wp2
    go_loopg [5, 6] k (fun kq v5 v6 w' => ∃ (x5_1 : Nat) (x6_1 : Int), v5 = .float .f64 x5_1 ∧ v6 = .int .i64 x6_1 ∧ Aside0 (fn_Horner.l0 kq l0 a1 x5_1 x6_1 = some r) ∧ Aside0 (kq ≤ k) ∧ Drawn0 w w')
    case atStart => exact ⟨(rdOf (0 : Nat) l0 (ji4)), (wrap64 ((l0.length : Int) - 2)), (by first | rfl | (simp; done) | (simp only [← hji4] <;> (first | rfl | simp)) | (simp [*]; done)), sA, H', ⟨Nat.le_refl _⟩, by repeat (first | exact Drawn0.refl _ | apply Drawn0.step)⟩
    case round =>
      clear H'
      try clear c1
      try clear p1
      try clear q1
      try clear hx1
      try clear p2
      try clear c3
      try clear c3b0
      try clear c3b1
      try clear c3b2
      try clear c5
      try clear c5b0
      try clear c6
      try clear c6b0
      try clear p6
      try clear hx170_0
      try clear p170
      try clear q170
      obtain ⟨x5_1, x6_1, rfl, rfl, HA, HK1, ⟨m1, rfl⟩⟩ := hrel
      cases gk with
      | zero => exact absurd HA.out (by simp [fn_Horner.l0])
      | succ k1 =>
        have H := HA.out
        clear HA
        simp only [fn_Horner.l0] at H
        by_cases c7 : x6_1 ≥ 0
        rotate_left
        · rw [if_neg c7] at H
          have c7b0 : decide (0 ≤ x6_1) = false := decide_eq_false c7
          clear c7
          obtain rfl := Option.some.inj H
          go_wp2
          go_ret
          exact ⟨by first | rfl | (simp; done) | (simp only [← hji4] <;> (first | rfl | simp)) | (simp [*]; done), by repeat (first | exact Drawn0.refl _ | apply Drawn0.step)⟩
        rw [if_pos c7] at H
        have c7b0 : decide (0 ≤ x6_1) = true := decide_eq_true c7
        clear c7
        revert H
        refine ifP fun c8 H => ?_
        have c8b0 := eq_true c8
        have c8b1 : decide (fmulK x5_1 a1 = true) = true := decide_eq_true c8
        clear c8
        revert H
        refine ifP fun c9 H => ?_
        have c9b0 := decide_eq_true c9
        clear c9
        revert H
        refine ifP fun c10 H => ?_
        have c10b0 := decide_eq_true c10
        clear c10
        revert H
        refine ifP fun c11 H => ?_
        have c11b0 := eq_true c11
        have c11b1 : decide (faddK (fmulV x5_1 a1) (rdOf (0 : Nat) l0 x6_1) = true) = true := decide_eq_true c11
        clear c11
        have H' := aM H
        clear H
        have p171 : 0 ≤ (x6_1 : Int) := of_decide_eq_true asA
        have q171 : x6_1 < (l0.length : Int) := of_decide_eq_true asA
        obtain ⟨ad171, e171, hx171_0⟩ := Kd.at_flt HR0.out x6_1 p171 q171
        obtain rfl : ad170 = ad171 := (by injection e171)
        replace p171 := eq_true p171
        replace q171 := eq_true q171
        go_wp2
        go_roundg k1
        case measure => have := HK1.out; omega
        case rel => exact ⟨(faddV (fmulV x5_1 a1) (rdOf (0 : Nat) l0 x6_1)), (wrap64 (x6_1 - 1)), sA, sA, H', ⟨by have := HK1.out; omega⟩, by repeat (first | exact Drawn0.refl _ | apply Drawn0.step)⟩

/-! ### fn_Exp: function 109 -/
def fn_Exp.l0 : Nat → Nat → Nat → List Nat → Nat → Int → Option (Nat)
  | 0, _, _, _, _, _ => none
  | k + 1, x3, x4, x5, x6, x32 => if x32 < 12 then (if fmulK x6 (floatOfInt .f64 (wrap64 (x32 + 2))) = true then (if fdivK (4607182418800017408 : Nat) (fmulV x6 (floatOfInt .f64 (wrap64 (x32 + 2)))) = true then (if x5.length < 17592186044416 then (fn_Exp.l0 k x3 x4 (x5 ++ [fdivV (4607182418800017408 : Nat) (fmulV x6 (floatOfInt .f64 (wrap64 (x32 + 2))))]) (fmulV x6 (floatOfInt .f64 (wrap64 (x32 + 2)))) (wrap64 (x32 + 1))) else (none)) else (none)) else (none)) else ((fn_Horner.f k x5 x4).bind fun t180 => (if ftoiK x3 = true then ((fn_scaled.f t180 (ftoiV x3)).bind fun t181 => (some t181)) else (none)))
def fn_Exp.f (k : Nat) (a0 : Nat) : Option (Nat) := if (FloatKind.f64.format.order a0 a0 != some .eq) = true then (some a0) else (if (FloatKind.f64.format.order a0 (4649456441864749056 : Nat) == some .gt || FloatKind.f64.format.order a0 (4649456441864749056 : Nat) == some .eq) = true then ((math_Inf.f 1).bind fun t172 => (some t172)) else (if (FloatKind.f64.format.order a0 (13873145138068324352 : Nat) == some .lt || FloatKind.f64.format.order a0 (13873145138068324352 : Nat) == some .eq) = true then (some (0 : Nat)) else (if fmulK a0 (4609176140021203710 : Nat) = true then (if faddK (fmulV a0 (4609176140021203710 : Nat)) (4602678819172646912 : Nat) = true then ((math_Floor.f (faddV (fmulV a0 (4609176140021203710 : Nat)) (4602678819172646912 : Nat))).bind fun t173 => (if fmulK t173 (4604418534311723008 : Nat) = true then (if fsubK a0 (fmulV t173 (4604418534311723008 : Nat)) = true then (if fmulK t173 (4461442080421002358 : Nat) = true then (if fsubK (fsubV a0 (fmulV t173 (4604418534311723008 : Nat))) (fmulV t173 (4461442080421002358 : Nat)) = true then (fn_Exp.l0 k t173 (fsubV (fsubV a0 (fmulV t173 (4604418534311723008 : Nat))) (fmulV t173 (4461442080421002358 : Nat))) (([(4607182418800017408 : Nat), (4607182418800017408 : Nat)] : List Nat)) (4607182418800017408 : Nat) 0) else (none)) else (none)) else (none)) else (none))) else (none)) else (none))))
theorem fn_Exp.mono_l : ∀ k, (∀ y0 y1 y2 y3 y4, LeO (fn_Exp.l0 k y0 y1 y2 y3 y4) (fn_Exp.l0 (k + 1) y0 y1 y2 y3 y4))
  | 0 => fun _ _ _ _ _ r h => by simp [fn_Exp.l0] at h
  | k + 1 => by
    have ih0 := fn_Exp.mono_l k
    · intro y0 y1 y2 y3 y4
      unfold fn_Exp.l0
      repeat' first
      | (with_reducible exact ih0 _ _ _ _ _)
      | (with_reducible exact fn_Horner.mono _ _ _)
      | (with_reducible exact LeO.refl _)
      | (with_reducible exact LeO.none _)
      | (with_reducible refine LeO.ite ?_ ?_)
      | (with_reducible refine LeO.bind ?_ (fun _ => ?_))
      | exact ih0 _ _ _ _ _
      | exact fn_Horner.mono _ _ _
      | exact LeO.none _
      | refine LeO.ite ?_ ?_
      | refine LeO.bind ?_ (fun _ => ?_)
theorem fn_Exp.mono : ∀ a0 k, LeO (fn_Exp.f k a0) (fn_Exp.f (k + 1) a0) := by
  intro a0 k
  have ih0 := fn_Exp.mono_l k
  unfold fn_Exp.f
  repeat' first
    | (with_reducible exact ih0 _ _ _ _ _)
    | (with_reducible exact fn_Horner.mono _ _ _)
    | (with_reducible exact LeO.refl _)
    | (with_reducible exact LeO.none _)
    | (with_reducible refine LeO.ite ?_ ?_)
    | (with_reducible refine LeO.bind ?_ (fun _ => ?_))
    | exact ih0 _ _ _ _ _
    | exact fn_Horner.mono _ _ _
    | exact LeO.none _
    | refine LeO.ite ?_ ?_
    | refine LeO.bind ?_ (fun _ => ?_)
set_option maxHeartbeats 8000000 in
set_option maxRecDepth 100000 in
theorem fn_Exp.calls (k : Nat) (a0 : Nat) (r : Nat) (w : World) (h : fn_Exp.f k a0 = some r) :
    Calls Tryz.prog 109 #[.float .f64 a0] w fun e w' => e = .returned (.float .f64 r) ∧ Below w.heap.size w w' := by
  have HB := aM (Below.refl w.heap.size w)
  have H : (if (FloatKind.f64.format.order a0 a0 != some .eq) = true then (some a0) else (if (FloatKind.f64.format.order a0 (4649456441864749056 : Nat) == some .gt || FloatKind.f64.format.order a0 (4649456441864749056 : Nat) == some .eq) = true then ((math_Inf.f 1).bind fun t172 => (some t172)) else (if (FloatKind.f64.format.order a0 (13873145138068324352 : Nat) == some .lt || FloatKind.f64.format.order a0 (13873145138068324352 : Nat) == some .eq) = true then (some (0 : Nat)) else (if fmulK a0 (4609176140021203710 : Nat) = true then (if faddK (fmulV a0 (4609176140021203710 : Nat)) (4602678819172646912 : Nat) = true then ((math_Floor.f (faddV (fmulV a0 (4609176140021203710 : Nat)) (4602678819172646912 : Nat))).bind fun t173 => (if fmulK t173 (4604418534311723008 : Nat) = true then (if fsubK a0 (fmulV t173 (4604418534311723008 : Nat)) = true then (if fmulK t173 (4461442080421002358 : Nat) = true then (if fsubK (fsubV a0 (fmulV t173 (4604418534311723008 : Nat))) (fmulV t173 (4461442080421002358 : Nat)) = true then (fn_Exp.l0 k t173 (fsubV (fsubV a0 (fmulV t173 (4604418534311723008 : Nat))) (fmulV t173 (4461442080421002358 : Nat))) (([(4607182418800017408 : Nat), (4607182418800017408 : Nat)] : List Nat)) (4607182418800017408 : Nat) 0) else (none)) else (none)) else (none)) else (none))) else (none)) else (none))))) = some r := h
  clear h
  by_cases c2 : (FloatKind.f64.format.order a0 a0 != some .eq) = true
  · rw [if_pos c2] at H
    have c2b0 : (FloatKind.f64.format.order a0 a0 != some .eq) = true := c2
    (try (have c2b1 : decide (FloatKind.f64.format.order a0 a0 = some .eq) = false := by simpa using c2))
    (try (have c2b2 : (FloatKind.f64.format.order a0 a0 == some .eq) = false := by simpa using c2))
    (try (have c2b3 : ¬ (FloatKind.f64.format.order a0 a0 = some .eq) := by simpa using c2))
    clear c2
    obtain rfl := Option.some.inj H
    go_enter Tryz.func109, Tryz.ntmps109
    go_wp2
    go_ret
    exact ⟨eA, bA HB.out⟩
  rw [if_neg c2] at H
  have c2b0 : (FloatKind.f64.format.order a0 a0 != some .eq) = false := by simpa using c2
  (try (have c2b1 : decide (FloatKind.f64.format.order a0 a0 = some .eq) = true := by simpa using c2))
  (try (have c2b2 : (FloatKind.f64.format.order a0 a0 == some .eq) = true := by simpa using c2))
  clear c2
  by_cases c3 : (FloatKind.f64.format.order a0 (4649456441864749056 : Nat) == some .gt || FloatKind.f64.format.order a0 (4649456441864749056 : Nat) == some .eq) = true
  · rw [if_pos c3] at H
    have c3b0 : (FloatKind.f64.format.order a0 (4649456441864749056 : Nat) == some .gt || FloatKind.f64.format.order a0 (4649456441864749056 : Nat) == some .eq) = true := c3
    (try (have c3b1 : decide (FloatKind.f64.format.order a0 (4649456441864749056 : Nat) = some .gt || FloatKind.f64.format.order a0 (4649456441864749056 : Nat) == some .eq) = true := by simpa using c3))
    (try (have c3b2 : (FloatKind.f64.format.order a0 (4649456441864749056 : Nat) == some .gt || FloatKind.f64.format.order a0 (4649456441864749056 : Nat) == some .eq) = true := by simpa using c3))
    clear c3
    revert H
    refine bE ?_
    rintro t172 A4 H
    obtain rfl := Option.some.inj H
    go_enter Tryz.func109, Tryz.ntmps109
    go_wp2_with (first | ((with_reducible refine gate_callee (f := 96) rfl ?_); refine goL (N := some 16) Tryz.func96 #[.int .i64 1] ?_; (with_reducible refine (math_Inf.calls 1 t172 _ A4.out).mono ?_); rintro e w' ⟨rfl, ⟨nd, rfl⟩⟩; refine ⟨_, rfl, ?_⟩))
    go_ret
    exact ⟨eA, bA HB.out⟩
  rw [if_neg c3] at H
  have c3b0 : (FloatKind.f64.format.order a0 (4649456441864749056 : Nat) == some .gt || FloatKind.f64.format.order a0 (4649456441864749056 : Nat) == some .eq) = false := by simpa using c3
  (try (have c3b1 : decide (FloatKind.f64.format.order a0 (4649456441864749056 : Nat) = some .gt || FloatKind.f64.format.order a0 (4649456441864749056 : Nat) == some .eq) = false := by simpa using c3))
  (try (have c3b2 : (FloatKind.f64.format.order a0 (4649456441864749056 : Nat) == some .gt || FloatKind.f64.format.order a0 (4649456441864749056 : Nat) == some .eq) = false := by simpa using c3))
  (try (have c3b3 : ¬ (FloatKind.f64.format.order a0 (4649456441864749056 : Nat) = some .gt || FloatKind.f64.format.order a0 (4649456441864749056 : Nat) == some .eq) := by simpa using c3))
  clear c3
  by_cases c5 : (FloatKind.f64.format.order a0 (13873145138068324352 : Nat) == some .lt || FloatKind.f64.format.order a0 (13873145138068324352 : Nat) == some .eq) = true
  · rw [if_pos c5] at H
    have c5b0 : (FloatKind.f64.format.order a0 (13873145138068324352 : Nat) == some .lt || FloatKind.f64.format.order a0 (13873145138068324352 : Nat) == some .eq) = true := c5
    (try (have c5b1 : decide (FloatKind.f64.format.order a0 (13873145138068324352 : Nat) = some .lt || FloatKind.f64.format.order a0 (13873145138068324352 : Nat) == some .eq) = true := by simpa using c5))
    (try (have c5b2 : (FloatKind.f64.format.order a0 (13873145138068324352 : Nat) == some .lt || FloatKind.f64.format.order a0 (13873145138068324352 : Nat) == some .eq) = true := by simpa using c5))
    clear c5
    obtain rfl := Option.some.inj H
    go_enter Tryz.func109, Tryz.ntmps109
    go_wp2
    go_ret
    exact ⟨eA, bA HB.out⟩
  rw [if_neg c5] at H
  have c5b0 : (FloatKind.f64.format.order a0 (13873145138068324352 : Nat) == some .lt || FloatKind.f64.format.order a0 (13873145138068324352 : Nat) == some .eq) = false := by simpa using c5
  (try (have c5b1 : decide (FloatKind.f64.format.order a0 (13873145138068324352 : Nat) = some .lt || FloatKind.f64.format.order a0 (13873145138068324352 : Nat) == some .eq) = false := by simpa using c5))
  (try (have c5b2 : (FloatKind.f64.format.order a0 (13873145138068324352 : Nat) == some .lt || FloatKind.f64.format.order a0 (13873145138068324352 : Nat) == some .eq) = false := by simpa using c5))
  (try (have c5b3 : ¬ (FloatKind.f64.format.order a0 (13873145138068324352 : Nat) = some .lt || FloatKind.f64.format.order a0 (13873145138068324352 : Nat) == some .eq) := by simpa using c5))
  clear c5
  revert H
  refine ifP fun c6 H => ?_
  have c6b0 := eq_true c6
  have c6b1 : decide (fmulK a0 (4609176140021203710 : Nat) = true) = true := decide_eq_true c6
  clear c6
  revert H
  refine ifP fun c7 H => ?_
  have c7b0 := eq_true c7
  have c7b1 : decide (faddK (fmulV a0 (4609176140021203710 : Nat)) (4602678819172646912 : Nat) = true) = true := decide_eq_true c7
  clear c7
  revert H
  refine bE ?_
  rintro t173 A8 H
  revert H
  refine ifP fun c9 H => ?_
  have c9b0 := eq_true c9
  have c9b1 : decide (fmulK t173 (4604418534311723008 : Nat) = true) = true := decide_eq_true c9
  clear c9
  revert H
  refine ifP fun c10 H => ?_
  have c10b0 := eq_true c10
  have c10b1 : decide (fsubK a0 (fmulV t173 (4604418534311723008 : Nat)) = true) = true := decide_eq_true c10
  clear c10
  revert H
  refine ifP fun c11 H => ?_
  have c11b0 := eq_true c11
  have c11b1 : decide (fmulK t173 (4461442080421002358 : Nat) = true) = true := decide_eq_true c11
  clear c11
  revert H
  refine ifP fun c12 H => ?_
  have c12b0 := eq_true c12
  have c12b1 : decide (fsubK (fsubV a0 (fmulV t173 (4604418534311723008 : Nat))) (fmulV t173 (4461442080421002358 : Nat)) = true) = true := decide_eq_true c12
  clear c12
  generalize hy174 : (([(4607182418800017408 : Nat), (4607182418800017408 : Nat)] : List Nat)) = y174 at H
  replace hy174 := hy174.symm
  (try (revert H; (with_reducible refine sE y174 ?_); intro H))
  have Ny174 := aM hy174
  clear hy174
  have H' := aM H
  clear H
  go_enter Tryz.func109, Tryz.ntmps109
  go_wp2_with (first | ((with_reducible refine gate_callee (f := 156) rfl ?_); refine goL (N := some 23) Tryz.func156 #[.float .f64 (faddV (fmulV a0 (4609176140021203710 : Nat)) (4602678819172646912 : Nat))] ?_; (with_reducible refine (math_Floor.calls (faddV (fmulV a0 (4609176140021203710 : Nat)) (4602678819172646912 : Nat)) t173 _ A8.out).mono ?_); rintro e w' ⟨rfl, ⟨nd, rfl⟩⟩; refine ⟨_, rfl, ?_⟩) | ((with_reducible refine gD 31 rfl ?_); refine Kd.R_lit Kd.flt _ 29 ?hg (N := 31) ?hd (xs := ([(4607182418800017408 : Nat), (4607182418800017408 : Nat)] : List Nat)) (inner := [.float .f64 (4607182418800017408 : Nat), .float .f64 (4607182418800017408 : Nat)]) (ok := fun _ => True) (okp := fun _ => True) ?hr ?hp (fun _ hk => hk) trivial (Below.refl _ _) (Nat.le_refl _) (by simp) ?_; (case hd => rfl); (case hg => rfl); (case hr => first | (go_simp; done) | (go_simp; rfl)); (case hp => exact (Reps.one (show Kd.M Kd.flt _ _ _ (4607182418800017408 : Nat) [.float .f64 (4607182418800017408 : Nat)] from rfl) (Reps.one (show Kd.M Kd.flt _ _ _ (4607182418800017408 : Nat) [.float .f64 (4607182418800017408 : Nat)] from rfl) (Reps.none _ _)))); intro v175 w13 ho14 hb hg_ hnew_; clear hg_ hnew_; (first | rw [← Ny174.out] at ho14 | (simp only [Int.reduceToNat] at ho14; rw [← Ny174.out] at ho14)); have HO176 := aM (Kd.R_lower ho14 (below_size (bA HB.out))); replace HB := gB HB hb; clear hb ho14))
  go_loopg [5, 6, 32] k (fun kq v5 v6 v32 w' => ∃ (x5_1 : List Nat) (x6_1 : Nat) (x32_1 : Int), v6 = .float .f64 x6_1 ∧ v32 = .int .i64 x32_1 ∧ Aside0 (fn_Exp.l0 kq t173 (fsubV (fsubV a0 (fmulV t173 (4604418534311723008 : Nat))) (fmulV t173 (4461442080421002358 : Nat))) x5_1 x6_1 x32_1 = some r) ∧ Aside0 (kq ≤ k) ∧ Aside0 (Kd.R Kd.flt 29 w' w.heap.size (fun _ => True) v5 x5_1) ∧ Aside0 (Below w.heap.size w w'))
  case atStart => exact ⟨(y174), ((4607182418800017408 : Nat)), (0), sA, sA, H', ⟨Nat.le_refl _⟩, ⟨rA HO176.out⟩, ⟨bA HB.out⟩⟩
  case round =>
    clear H'
    try clear c1
    try clear c2
    try clear c2b0
    try clear c2b1
    try clear c2b2
    try clear p2
    try clear c3
    try clear c3b0
    try clear c3b1
    try clear c3b2
    try clear c5
    try clear c5b0
    try clear c5b1
    try clear c5b2
    try clear c6
    try clear c6b0
    try clear c6b1
    try clear c7
    try clear c7b0
    try clear c7b1
    try clear c9
    try clear c9b0
    try clear c9b1
    try clear c10
    try clear c10b0
    try clear c10b1
    try clear c11
    try clear c11b0
    try clear c11b1
    try clear c12
    try clear c12b0
    try clear c12b1
    obtain ⟨x5_1, x6_1, x32_1, rfl, rfl, HA, HK1, HO_5, HB⟩ := hrel
    cases gk with
    | zero => exact absurd HA.out (by simp [fn_Exp.l0])
    | succ k1 =>
      have H := HA.out
      clear HA
      simp only [fn_Exp.l0] at H
      by_cases c15 : x32_1 < 12
      rotate_left
      · rw [if_neg c15] at H
        have c15b0 : decide (x32_1 < 12) = false := decide_eq_false c15
        clear c15
        revert H
        refine bE ?_
        rintro t180 A20 H
        revert H
        refine ifP fun c21 H => ?_
        have c21b0 := eq_true c21
        have c21b1 : decide (ftoiK t173 = true) = true := decide_eq_true c21
        clear c21
        revert H
        refine bE ?_
        rintro t181 A22 H
        obtain rfl := Option.some.inj H
        obtain ⟨Ao23, co23, eo23⟩ := Kd.R_slice HO_5.out
        subst eo23
        go_wp2_with (first | ((with_reducible refine gate_callee (f := 158) rfl ?_); refine goL (N := some 48) Tryz.func158 #[.slice Ao23 x5_1.length co23, .float .f64 (fsubV (fsubV a0 (fmulV t173 (4604418534311723008 : Nat))) (fmulV t173 (4461442080421002358 : Nat)))] ?_; (with_reducible refine (fn_Horner.calls k1 _ _ x5_1 (fsubV (fsubV a0 (fmulV t173 (4604418534311723008 : Nat))) (fmulV t173 (4461442080421002358 : Nat))) t180 _ ?side1 ?side2 A20.out).mono ?_); (case side1 => exact cA ((Kd.R_reads' HO_5.out).2.2)); (case side2 => exact (Kd.R_reads' HO_5.out).2.1); rintro e w' ⟨rfl, ⟨nd, rfl⟩⟩; refine ⟨_, rfl, ?_⟩) | ((with_reducible refine gate_callee (f := 157) rfl ?_); refine goL (N := some 51) Tryz.func157 #[.float .f64 t180, .int .i64 (ftoiV t173)] ?_; (with_reducible refine (fn_scaled.calls t180 (ftoiV t173) t181 _ A22.out).mono ?_); rintro e w' ⟨rfl, ⟨nd, rfl⟩⟩; refine ⟨_, rfl, ?_⟩))
        go_ret
        exact ⟨eA, bA HB.out⟩
      rw [if_pos c15] at H
      have c15b0 : decide (x32_1 < 12) = true := decide_eq_true c15
      clear c15
      revert H
      refine ifP fun c16 H => ?_
      have c16b0 := eq_true c16
      have c16b1 : decide (fmulK x6_1 (floatOfInt .f64 (wrap64 (x32_1 + 2))) = true) = true := decide_eq_true c16
      revert H
      refine ifP fun c17 H => ?_
      have c17b0 := eq_true c17
      have c17b1 : decide (fdivK (4607182418800017408 : Nat) (fmulV x6_1 (floatOfInt .f64 (wrap64 (x32_1 + 2)))) = true) = true := decide_eq_true c17
      revert H
      refine ifP fun c18 H => ?_
      have LMc18 := aM c18
      clear c18
      generalize hy177 : (x5_1 ++ [fdivV (4607182418800017408 : Nat) (fmulV x6_1 (floatOfInt .f64 (wrap64 (x32_1 + 2))))]) = y177 at H
      replace hy177 := hy177.symm
      (try (revert H; (with_reducible refine sE y177 ?_); intro H))
      have Ny177 := aM hy177
      clear hy177
      have H' := aM H
      clear H
      go_wp2_with (first | ((with_reducible refine gate_builtin (b := .append) (xs := #[.tmp 40, .tmp 43]) rfl ?_); at_builtin; refine Kd.R_append Kd.flt (w0 := w) w.heap.size rfl (.tmp 40) (.tmp 43) 24 29 (.float .f64 0) 8 rfl Tryz.underlying24 info29 rfl (by decide) (by omega) u5 x5_1 (fdivV (4607182418800017408 : Nat) (fmulV x6_1 (floatOfInt .f64 (wrap64 (x32_1 + 2))))) [.float .f64 (fdivV (4607182418800017408 : Nat) (fmulV x6_1 (floatOfInt .f64 (wrap64 (x32_1 + 2)))))] (fun _ => True) (fun _ => False) rfl rfl ?aP (fun _ hk => hk.elim) ?aF ?aO ?aB ?aS ?aL ?_; (case aP => exact rfl); (case aB => exact (bA HB.out)); (case aF => exact (fun _ _ => trivial)); (case aO => exact (rA HO_5.out)); (case aS => exact (below_size (bA HB.out))); (case aL => have := LMc18.out; omega); intro v178 w19 ho hb hg hat; rw [← Ny177.out] at ho; replace HB := aM hb; have HO179 := aM ho; clear HO_5; clear ho hb hg hat))
      go_roundg k1
      case measure => have := HK1.out; omega
      case rel => exact ⟨(y177), (fmulV x6_1 (floatOfInt .f64 (wrap64 (x32_1 + 2)))), (wrap64 (x32_1 + 1)), sA, sA, H', ⟨by have := HK1.out; omega⟩, ⟨rA HO179.out⟩, ⟨bA HB.out⟩⟩

/-! ### math_IsInf: function 200 -/
def math_IsInf.f (a0 : Nat) (a1 : Int) : Option (Bool) := if a1 = 0 then ((math_Abs.f a0).bind fun t182 => (some (FloatKind.f64.format.order t182 (9218868437227405311 : Nat) == some .gt))) else (if a1 < 0 then (some (FloatKind.f64.format.order (fneg a0) (9218868437227405311 : Nat) == some .gt)) else (some (FloatKind.f64.format.order a0 (9218868437227405311 : Nat) == some .gt)))
set_option maxHeartbeats 8000000 in
set_option maxRecDepth 100000 in
theorem math_IsInf.calls (a0 : Nat) (a1 : Int) (r : Bool) (w : World) (h : math_IsInf.f a0 a1 = some r) :
    Calls Tryz.prog 200 #[.float .f64 a0, .int .i64 a1] w fun e w' => e = .returned (.bool r) ∧ Drawn0 w w' := by
  have H : (if a1 = 0 then ((math_Abs.f a0).bind fun t182 => (some (FloatKind.f64.format.order t182 (9218868437227405311 : Nat) == some .gt))) else (if a1 < 0 then (some (FloatKind.f64.format.order (fneg a0) (9218868437227405311 : Nat) == some .gt)) else (some (FloatKind.f64.format.order a0 (9218868437227405311 : Nat) == some .gt)))) = some r := h
  clear h
  by_cases c3 : a1 = 0
  rotate_left
  · rw [if_neg c3] at H
    have c3b0 : (a1 == 0) = false := beq_eq_false_iff_ne.mpr c3
    have c3b1 : (a1 != 0) = true := bne_iff_ne.mpr c3
    by_cases c5 : a1 < 0
    · rw [if_pos c5] at H
      have c5b0 : decide (a1 < 0) = true := decide_eq_true c5
      clear c5
      obtain rfl := Option.some.inj H
      go_enter Tryz.func200, Tryz.ntmps200
      go_wp2
      go_ret
      exact ⟨sA, dA⟩
    · rw [if_neg c5] at H
      have c5b0 : decide (a1 < 0) = false := decide_eq_false c5
      clear c5
      obtain rfl := Option.some.inj H
      go_enter Tryz.func200, Tryz.ntmps200
      go_wp2
      go_ret
      exact ⟨sA, dA⟩
  rw [if_pos c3] at H
  have c3b0 : (a1 == 0) = true := beq_iff_eq.mpr c3
  have c3b1 : (a1 != 0) = false := bne_eq_false_iff_eq.mpr c3
  clear c3
  revert H
  refine bE ?_
  rintro t182 A4 H
  obtain rfl := Option.some.inj H
  go_enter Tryz.func200, Tryz.ntmps200
  go_wp2_with (first | ((with_reducible refine gate_callee (f := 220) rfl ?_); refine goL (N := some 8) Tryz.func220 #[.float .f64 a0] ?_; (with_reducible refine (math_Abs.calls a0 t182 _ A4.out).mono ?_); rintro e w' ⟨rfl, ⟨nd, rfl⟩⟩; refine ⟨_, rfl, ?_⟩))
  go_ret
  exact ⟨sA, dA⟩

end Go.Proofs.YthkcphdhmkcdkaaGreat.FP
