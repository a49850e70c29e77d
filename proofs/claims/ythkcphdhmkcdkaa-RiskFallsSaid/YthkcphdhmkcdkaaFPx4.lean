/- Written by the session's fprint.py out of the translation. -/
import Derived.Test.YthkcphdhmkcdkaaFPx3
namespace Go.Proofs.Ythkcphdhmkcdkaa.FP
open Go.RowKit Go.Proofs.YthkcphdhmkcdkaaW.PrintWords Go.Proofs.YthkcphdhmkcdkaaW.PrintLast Go.Proofs.YthkcphdhmkcdkaaW.PrintMore
attribute [local go_sem] max2_int min2_int max_two min_two max_three min_three max_four min_four   -- for this text's walks alone
open Go.Proofs.Ythkcphdhmkcdkaa.FX
attribute [local go_sem] run_store_float run_neg_float run_fmul run_fadd run_fsub run_fdiv run_ftoi isSome_setCell 
set_option linter.unusedVariables false
set_option linter.unusedSimpArgs false

def interp_slopes.l0 : Nat → List Nat → Int → Int → Int → List Int → List Nat → Option (List Nat)
 | 0, _, _, _, _, _, _ => none
 | k + 1, x4, x29, x30, x123000, x123001, x123002 => if x30 < x29 then ((interp_rise.f x123000 x123001 x123002 x30).bind fun t130 => ((interp_rise.f x123000 x123001 x123002 (wrap64 (x30 + 1))).bind fun t131 => (if (FloatKind.f64.format.order t130 (0 : Nat) == some .gt) = true then (if (FloatKind.f64.format.order t131 (0 : Nat) == some .gt) = true then (if fdivK (4607182418800017408 : Nat) t130 = true then (if fdivK (4607182418800017408 : Nat) t131 = true then (if faddK (fdivV (4607182418800017408 : Nat) t130) (fdivV (4607182418800017408 : Nat) t131) = true then (if fdivK (4611686018427387904 : Nat) (faddV (fdivV (4607182418800017408 : Nat) t130) (fdivV (4607182418800017408 : Nat) t131)) = true then (if 0 ≤ (wrap64 (x30 + 1)) then (if (wrap64 (x30 + 1)) < (x4.length : Int) then (interp_slopes.l0 k (x4.set ((wrap64 (x30 + 1)) : Int).toNat (fdivV (4611686018427387904 : Nat) (faddV (fdivV (4607182418800017408 : Nat) t130) (fdivV (4607182418800017408 : Nat) t131)))) x29 (wrap64 (x30 + 1)) x123000 x123001 x123002) else (none)) else (none)) else (none)) else (none)) else (none)) else (none)) else (if (FloatKind.f64.format.order t130 (0 : Nat) == some .lt) = true then (if (FloatKind.f64.format.order t131 (0 : Nat) == some .lt) = true then (if fdivK (4607182418800017408 : Nat) t130 = true then (if fdivK (4607182418800017408 : Nat) t131 = true then (if faddK (fdivV (4607182418800017408 : Nat) t130) (fdivV (4607182418800017408 : Nat) t131) = true then (if fdivK (4611686018427387904 : Nat) (faddV (fdivV (4607182418800017408 : Nat) t130) (fdivV (4607182418800017408 : Nat) t131)) = true then (if 0 ≤ (wrap64 (x30 + 1)) then (if (wrap64 (x30 + 1)) < (x4.length : Int) then (interp_slopes.l0 k (x4.set ((wrap64 (x30 + 1)) : Int).toNat (fdivV (4611686018427387904 : Nat) (faddV (fdivV (4607182418800017408 : Nat) t130) (fdivV (4607182418800017408 : Nat) t131)))) x29 (wrap64 (x30 + 1)) x123000 x123001 x123002) else (none)) else (none)) else (none)) else (none)) else (none)) else (none)) else (interp_slopes.l0 k x4 x29 (wrap64 (x30 + 1)) x123000 x123001 x123002)) else (interp_slopes.l0 k x4 x29 (wrap64 (x30 + 1)) x123000 x123001 x123002))) else (if (FloatKind.f64.format.order t130 (0 : Nat) == some .lt) = true then (if (FloatKind.f64.format.order t131 (0 : Nat) == some .lt) = true then (if fdivK (4607182418800017408 : Nat) t130 = true then (if fdivK (4607182418800017408 : Nat) t131 = true then (if faddK (fdivV (4607182418800017408 : Nat) t130) (fdivV (4607182418800017408 : Nat) t131) = true then (if fdivK (4611686018427387904 : Nat) (faddV (fdivV (4607182418800017408 : Nat) t130) (fdivV (4607182418800017408 : Nat) t131)) = true then (if 0 ≤ (wrap64 (x30 + 1)) then (if (wrap64 (x30 + 1)) < (x4.length : Int) then (interp_slopes.l0 k (x4.set ((wrap64 (x30 + 1)) : Int).toNat (fdivV (4611686018427387904 : Nat) (faddV (fdivV (4607182418800017408 : Nat) t130) (fdivV (4607182418800017408 : Nat) t131)))) x29 (wrap64 (x30 + 1)) x123000 x123001 x123002) else (none)) else (none)) else (none)) else (none)) else (none)) else (none)) else (interp_slopes.l0 k x4 x29 (wrap64 (x30 + 1)) x123000 x123001 x123002)) else (interp_slopes.l0 k x4 x29 (wrap64 (x30 + 1)) x123000 x123001 x123002))))) else (some x4)
def interp_slopes.f (k : Nat) (a0_0 : Int) (l0_1 : List Int) (l0_2 : List Nat) : Option (List Nat) := if 0 ≤ (l0_1.length : Int) then (if ((l0_1.length : Int) : Int).toNat ≤ 35184372088832 then ((some (List.replicate ((l0_1.length : Int) : Int).toNat (0 : Nat) : List Nat)).bind fun y123 => (if (l0_1.length : Int) = 1 then (some y123) else ((interp_rise.f a0_0 l0_1 l0_2 0).bind fun t126 => ((interp_rise.f a0_0 l0_1 l0_2 (wrap64 ((l0_1.length : Int) - 2))).bind fun t127 => (if 0 < (y123.length : Int) then (if 0 ≤ (wrap64 ((l0_1.length : Int) - 1)) then (if (wrap64 ((l0_1.length : Int) - 1)) < (y123.length : Int) then (interp_slopes.l0 k ((y123.set (0 : Int).toNat t126).set ((wrap64 ((l0_1.length : Int) - 1)) : Int).toNat t127) (wrap64 ((l0_1.length : Int) - 2)) 0 a0_0 l0_1 l0_2) else (none)) else (none)) else (none)))))) else (none)) else (none)
theorem interp_slopes.mono_l : ∀ k, (∀ y0 y1 y2 y3 y4 y5, LeO (interp_slopes.l0 k y0 y1 y2 y3 y4 y5) (interp_slopes.l0 (k + 1) y0 y1 y2 y3 y4 y5))
 | 0 => fun _ _ _ _ _ _ r h => by simp [interp_slopes.l0] at h
 | k + 1 => by
  have ih0 := interp_slopes.mono_l k
  ·intro y0 y1 y2 y3 y4 y5
   unfold interp_slopes.l0
   repeat' first
   | (with_reducible exact ih0 _ _ _ _ _ _)
   | (with_reducible exact LeO.refl _)
   | (with_reducible exact LeO.none _)
   | (with_reducible refine LeO.ite ?_ ?_)
   | (with_reducible refine LeO.bind ?_ (fun _ => ?_))
   | exact ih0 _ _ _ _ _ _
   | exact LeO.none _
   | refine LeO.ite ?_ ?_
   | refine LeO.bind ?_ (fun _ => ?_)
theorem interp_slopes.mono : ∀ a0 a1 a2 k, LeO (interp_slopes.f k a0 a1 a2) (interp_slopes.f (k + 1) a0 a1 a2) := by
 (intro a0 a1 a2 k);(have ih0 := interp_slopes.mono_l k);(unfold interp_slopes.f)
 repeat' first
  | (with_reducible exact ih0 _ _ _ _ _ _)
  | (with_reducible exact LeO.refl _)
  | (with_reducible exact LeO.none _)
  | (with_reducible refine LeO.ite ?_ ?_)
  | (with_reducible refine LeO.bind ?_ (fun _ => ?_))
  | exact ih0 _ _ _ _ _ _
  | exact LeO.none _
  | refine LeO.ite ?_ ?_
  | refine LeO.bind ?_ (fun _ => ?_)
def interp_slopes.T5 : Bool × List (List Nat × List Nat) := (true, [([], []), ([], []), ([], []), ([2], [2]), ([], []), ([4], [4]), ([], []), ([], []), ([7], [7]), ([6, 8, 5], [6, 8]), ([0, 0, 4, 5, 9], [0]), ([10, 5, 9, 0, 4, 5, 9], [5, 10]), ([1, 3, 0, 1, 2, 3, 4, 5, 6, 7, 8, 9, 10, 11], [1, 3]), ([12, 9, 11, 0, 1, 2, 3, 4, 5, 6, 7, 8, 9, 10, 11], [9, 12])])
def interp_slopes.B5 : List Nat := [0, 0, 0, 4, 0, 16, 0, 0, 128, 496, 1009, 2033, 4095, 8191]
theorem interp_slopes.tab5 : rtab .any (opsOf Try.f110 5) = interp_slopes.T5 := by kernel_rfl
theorem interp_slopes.bits5 : waitsOk interp_slopes.T5.2 interp_slopes.B5 = true := by kernel_rfl
def interp_slopes.T9 : Bool × List (List Nat × List Nat) := (true, [([], []), ([], []), ([0, 1], [0, 1]), ([], []), ([], []), ([4], [4]), ([3, 5, 2], [3, 5]), ([2, 6, 0, 1, 2], [2]), ([6, 7, 0, 1, 2, 3, 4, 5, 6, 7], [6])])
def interp_slopes.B9 : List Nat := [0, 0, 3, 0, 0, 16, 63, 127, 255]
theorem interp_slopes.tab9 : rtab .any (opsOf Try.f110 9) = interp_slopes.T9 := by kernel_rfl
theorem interp_slopes.bits9 : waitsOk interp_slopes.T9.2 interp_slopes.B9 = true := by kernel_rfl
set_option maxHeartbeats 8000000 in
set_option maxRecDepth 100000 in
theorem interp_slopes.calls (k : Nat) (a0_0 : Int) (A0_1 : Option Addr) (c0_1 : Nat) (l0_1 : List Int) (A0_2 : Option Addr) (c0_2 : Nat) (l0_2 : List Nat) (r : List Nat) (w : World) (hr0_1 : Kd.C (Kd.int .i64) w A0_1 l0_1.length l0_1) (hc0_1 : l0_1.length ≤ c0_1) (hr0_2 : Kd.C Kd.flt w A0_2 l0_2.length l0_2) (hc0_2 : l0_2.length ≤ c0_2) (h : interp_slopes.f k a0_0 l0_1 l0_2 = some r) :
  Calls Try.prog 110 #[.agg #[.int .i64 a0_0, .slice A0_1 l0_1.length c0_1, .slice A0_2 l0_2.length c0_2]] w fun e w' => ∃ v0_ : Value, e = .returned (v0_) ∧ Kd.R Kd.flt 35 w' w.heap.size (fun _ => True) v0_ r ∧ Below w.heap.size w w' := by
 (have hu86 := Try.underlying86);(have HR0_1 := Aside0.mk hr0_1);(have HC0_1 := Aside0.mk hc0_1);(clear hr0_1 hc0_1);(have HR0_2 := Aside0.mk hr0_2);(have HC0_2 := Aside0.mk hc0_2);(clear hr0_2 hc0_2);(have HB := Aside0.mk (Below.refl w.heap.size w));(have H : (if 0 ≤ (l0_1.length : Int) then (if ((l0_1.length : Int) : Int).toNat ≤ 35184372088832 then ((some (List.replicate ((l0_1.length : Int) : Int).toNat (0 : Nat) : List Nat)).bind fun y123 => (if (l0_1.length : Int) = 1 then (some y123) else ((interp_rise.f a0_0 l0_1 l0_2 0).bind fun t126 => ((interp_rise.f a0_0 l0_1 l0_2 (wrap64 ((l0_1.length : Int) - 2))).bind fun t127 => (if 0 < (y123.length : Int) then (if 0 ≤ (wrap64 ((l0_1.length : Int) - 1)) then (if (wrap64 ((l0_1.length : Int) - 1)) < (y123.length : Int) then (interp_slopes.l0 k ((y123.set (0 : Int).toNat t126).set ((wrap64 ((l0_1.length : Int) - 1)) : Int).toNat t127) (wrap64 ((l0_1.length : Int) - 2)) 0 a0_0 l0_1 l0_2) else (none)) else (none)) else (none)))))) else (none)) else (none)) = some r := h);(clear h)
 by_cases c2 : 0 ≤ (l0_1.length : Int)
 rotate_left
 ·rw [if_neg c2] at H
  exact absurd H (by simp)
 (rw [if_pos c2] at H);(have c2b0 := eq_true c2);(have c2b1 : decide (0 ≤ (l0_1.length : Int)) = true := decide_eq_true c2);(clear c2)
 by_cases c3 : ((l0_1.length : Int) : Int).toNat ≤ 35184372088832
 rotate_left
 ·rw [if_neg c3] at H
  exact absurd H (by simp)
 (rw [if_pos c3] at H);(have c3b0 := eq_true c3);(have c3b1 : decide (((l0_1.length : Int) : Int).toNat ≤ 35184372088832) = true := decide_eq_true c3);(clear c3);(obtain ⟨y123, hy123⟩ : ∃ y_ : List Nat, y_ = (List.replicate ((l0_1.length : Int) : Int).toNat (0 : Nat)) := ⟨_, rfl⟩);(replace H : (if (l0_1.length : Int) = 1 then (some y123) else ((interp_rise.f a0_0 l0_1 l0_2 0).bind fun t126 => ((interp_rise.f a0_0 l0_1 l0_2 (wrap64 ((l0_1.length : Int) - 2))).bind fun t127 => (if 0 < (y123.length : Int) then (if 0 ≤ (wrap64 ((l0_1.length : Int) - 1)) then (if (wrap64 ((l0_1.length : Int) - 1)) < (y123.length : Int) then (interp_slopes.l0 k ((y123.set (0 : Int).toNat t126).set ((wrap64 ((l0_1.length : Int) - 1)) : Int).toNat t127) (wrap64 ((l0_1.length : Int) - 2)) 0 a0_0 l0_1 l0_2) else (none)) else (none)) else (none))))) = some r := by first | (rw [hy123]; with_reducible exact H) | (have H2_ := (Option.bind_some _ _).symm.trans H; rw [hy123]; with_reducible exact H2_) | (have H2_ := (Option.bind_some _ _).symm.trans H; with_reducible exact H2_) | with_reducible exact H | (rw [hy123]; exact H) | exact H);(have Ny123 := Aside0.mk hy123);(clear hy123)
 by_cases c4 : (l0_1.length : Int) = 1
 ·rw [if_pos c4] at H
  (have c4b0 : ((l0_1.length : Int) == 1) = true := beq_iff_eq.mpr c4);(have c4b1 : ((l0_1.length : Int) != 1) = false := bne_eq_false_iff_eq.mpr c4);(clear c4);(obtain rfl := Option.some.inj H);(go_enter Try.func110, Try.ntmps110)
  go_wp2_with (first | ((with_reducible refine gate_dst (N := 1) rfl ?_); refine box_event ?hg (N := 1) ?hd (cs := #[.int .i64 a0_0, .slice A0_1 l0_1.length c0_1, .slice A0_2 l0_2.length c0_2]) (t := 86) ?hr ?_; (case hd => rfl); (case hg => rfl); (case hr => first | (go_simp; done) | (go_simp; rfl)); intro gb122 hg w5 hbox hb; have n0_ := Aside0.mk (below_step (bA HB.out) hb); have n1_ := Aside0.mk (hbox); have n2_ := Aside0.mk ((by rw [hg]; exact (below_size (bA HB.out)) : w.heap.size ≤ gb122)); have n3_ := Aside0.mk ((by rw [hg]; exact (below_size (bA HB.out)) : w.heap.size ≤ gb122)); clear HB; have HB := n0_; have BK122 := n1_; have GW122 := n2_; have GE122 := n3_; clear n0_ n1_ n2_ n3_; clear hb hbox hg; have hcz6_0 : w5.cell? ⟨gb122, 0, none⟩ = some (.int .i64 a0_0) := (blk_cell BK122.out 0).trans rfl; have hcz6_1 : w5.cell? ⟨gb122, 1, none⟩ = some (.slice A0_1 l0_1.length c0_1) := (blk_cell BK122.out 1).trans rfl; have hcz6_2 : w5.cell? ⟨gb122, 2, none⟩ = some (.slice A0_2 l0_2.length c0_2) := (blk_cell BK122.out 2).trans rfl; have hfz6_0 := blk_frozen BK122.out 0; have hfz6_1 := blk_frozen BK122.out 1; have hfz6_2 := blk_frozen BK122.out 2) | ((with_reducible refine gate_dst (N := 12) rfl ?_); refine Kd.R_make Kd.flt _ 35 rfl (N := 12) rfl 24 _ _ rfl (l0_1.length : Int) rfl rfl Try.underlying24 (.float .f64 0) 8 info35 rfl (by decide) (by omega) (0 : Nat) (ok := fun _ => True) (okp := fun _ => True) rfl (fun _ hk => hk) trivial (of_decide_eq_true asA) (Nat.le_trans (Nat.mul_le_mul_right _ (of_decide_eq_true asA : (l0_1.length : Int).toNat ≤ 35184372088832)) (by omega)) (Below.refl _ _) (Nat.le_refl _) ?_; intro v124 w7 ho8 hb hg_ hnew_; clear hg_ hnew_; (first | rw [← Ny123.out] at ho8 | (simp only [Int.reduceToNat] at ho8; rw [← Ny123.out] at ho8)); have n0_ := Aside0.mk (Kd.R_lower ho8 (below_size (bG HB.out))); have n1_ := Aside0.mk (blk_below (g := gb122) (o := .cells #[.int .i64 a0_0, .slice A0_1 l0_1.length c0_1, .slice A0_2 l0_2.length c0_2] 86 (0, 0)) (kA BK122.out) hb); have n2_ := Aside0.mk (below_step (bG HB.out) hb); clear BK122; clear HB; have HO125 := n0_; have BK122 := n1_; have HB := n2_; clear n0_ n1_ n2_; clear hb ho8))
  (go_ret);(exact ⟨_, by first | rfl | (simp [errW_none, errW_some] <;> rfl) | (simp [*, errW_none, errW_some] <;> rfl), by (with_reducible repeat (first | apply Kd.R_alloc | apply Kd.R_drewN | apply Kd.R_drew)); exact HO125.out, bG HB.out⟩)
 (rw [if_neg c4] at H);(have c4b0 : ((l0_1.length : Int) == 1) = false := beq_eq_false_iff_ne.mpr c4);(have c4b1 : ((l0_1.length : Int) != 1) = true := bne_iff_ne.mpr c4);(replace H := Option.bind_eq_some_iff.mp H);(obtain ⟨t126, A90, H⟩ := H);(have A9 := Aside0.mk A90);(clear A90);(replace H := Option.bind_eq_some_iff.mp H);(obtain ⟨t127, A100, H⟩ := H);(have A10 := Aside0.mk A100);(clear A100)
 by_cases c11 : 0 < (y123.length : Int)
 rotate_left
 ·rw [if_neg c11] at H
  exact absurd H (by simp)
 (rw [if_pos c11] at H);(have c11b0 : decide (0 < (y123.length : Int)) = true := decide_eq_true c11);(have c11b1 : decide (0 < y123.length) = true := decide_eq_true (by omega));(clear c11);(obtain ⟨y128, hy128⟩ : ∃ y_ : List Nat, y_ = (y123.set (0 : Int).toNat t126) := ⟨_, rfl⟩);(replace H : (if 0 ≤ (wrap64 ((l0_1.length : Int) - 1)) then (if (wrap64 ((l0_1.length : Int) - 1)) < (y123.length : Int) then (interp_slopes.l0 k (y128.set ((wrap64 ((l0_1.length : Int) - 1)) : Int).toNat t127) (wrap64 ((l0_1.length : Int) - 2)) 0 a0_0 l0_1 l0_2) else (none)) else (none)) = some r := by first | (rw [hy128]; with_reducible exact H) | (have H2_ := (Option.bind_some _ _).symm.trans H; rw [hy128]; with_reducible exact H2_) | (have H2_ := (Option.bind_some _ _).symm.trans H; with_reducible exact H2_) | with_reducible exact H | (rw [hy128]; exact H) | exact H);(have Ny128 := Aside0.mk hy128);(clear hy128);(obtain ⟨ji13, hji13⟩ : ∃ j_ : Int, (wrap64 ((l0_1.length : Int) - 1)) = j_ := ⟨_, rfl⟩);(replace H : (if 0 ≤ (ji13) then (if (ji13) < (y123.length : Int) then (interp_slopes.l0 k (y128.set ((ji13) : Int).toNat t127) (wrap64 ((l0_1.length : Int) - 2)) 0 a0_0 l0_1 l0_2) else (none)) else (none)) = some r := by first | (rw [hji13] at H; exact H) | (simp only [hji13] at H ⊢; exact H))
 (try rw [hji13] at A9)
 (try rw [hji13] at A10)
 have hji13w : (IntKind.i64.wrap ((l0_1.length : Int) - 1)) = ji13 := (i64_w _).trans hji13
 by_cases c14 : 0 ≤ (ji13)
 rotate_left
 ·rw [if_neg c14] at H
  exact absurd H (by simp)
 (rw [if_pos c14] at H);(have c14b0 : decide (0 ≤ (ji13)) = true := decide_eq_true c14);(clear c14)
 by_cases c15 : (ji13) < (y123.length : Int)
 rotate_left
 ·rw [if_neg c15] at H
  exact absurd H (by simp)
 (rw [if_pos c15] at H);(have c15b0 : decide ((ji13) < (y123.length : Int)) = true := decide_eq_true c15);(clear c15);(obtain ⟨y129, hy129⟩ : ∃ y_ : List Nat, y_ = (y128.set ((ji13) : Int).toNat t127) := ⟨_, rfl⟩);(replace H : (interp_slopes.l0 k y129 (wrap64 ((l0_1.length : Int) - 2)) 0 a0_0 l0_1 l0_2) = some r := by first | (rw [hy129]; with_reducible exact H) | (have H2_ := (Option.bind_some _ _).symm.trans H; rw [hy129]; with_reducible exact H2_) | (have H2_ := (Option.bind_some _ _).symm.trans H; with_reducible exact H2_) | with_reducible exact H | (rw [hy129]; exact H) | exact H);(have Ny129 := Aside0.mk hy129);(clear hy129);(have H' := Aside0.mk H);(clear H);(go_enter Try.func110, Try.ntmps110);(try go_wp2_with (first | ((with_reducible refine gate_dst (N := 1) rfl ?_); refine box_event ?hg (N := 1) ?hd (cs := #[.int .i64 a0_0, .slice A0_1 l0_1.length c0_1, .slice A0_2 l0_2.length c0_2]) (t := 86) ?hr ?_; (case hd => rfl); (case hg => rfl); (case hr => first | (go_simp; done) | (go_simp; rfl)); intro gb122 hg w17 hbox hb; have n0_ := Aside0.mk (below_step (bA HB.out) hb); have n1_ := Aside0.mk (hbox); have n2_ := Aside0.mk ((by rw [hg]; exact (below_size (bA HB.out)) : w.heap.size ≤ gb122)); have n3_ := Aside0.mk ((by rw [hg]; exact (below_size (bA HB.out)) : w.heap.size ≤ gb122)); clear HB; have HB := n0_; have BK122 := n1_; have GW122 := n2_; have GE122 := n3_; clear n0_ n1_ n2_ n3_; clear hb hbox hg; have hcz18_0 : w17.cell? ⟨gb122, 0, none⟩ = some (.int .i64 a0_0) := (blk_cell BK122.out 0).trans rfl; have hcz18_1 : w17.cell? ⟨gb122, 1, none⟩ = some (.slice A0_1 l0_1.length c0_1) := (blk_cell BK122.out 1).trans rfl; have hcz18_2 : w17.cell? ⟨gb122, 2, none⟩ = some (.slice A0_2 l0_2.length c0_2) := (blk_cell BK122.out 2).trans rfl; have hfz18_0 := blk_frozen BK122.out 0; have hfz18_1 := blk_frozen BK122.out 1; have hfz18_2 := blk_frozen BK122.out 2) | ((with_reducible refine gate_dst (N := 12) rfl ?_); refine Kd.R_make Kd.flt _ 35 rfl (N := 12) rfl 24 _ _ rfl (l0_1.length : Int) rfl rfl Try.underlying24 (.float .f64 0) 8 info35 rfl (by decide) (by omega) (0 : Nat) (ok := fun _ => True) (okp := fun _ => True) rfl (fun _ hk => hk) trivial (of_decide_eq_true asA) (Nat.le_trans (Nat.mul_le_mul_right _ (of_decide_eq_true asA : (l0_1.length : Int).toNat ≤ 35184372088832)) (by omega)) (Below.refl _ _) (Nat.le_refl _) ?_; intro v124 w19 ho20 hb hg_ hnew_; clear hg_ hnew_; (first | rw [← Ny123.out] at ho20 | (simp only [Int.reduceToNat] at ho20; rw [← Ny123.out] at ho20)); have n0_ := Aside0.mk (Kd.R_lower ho20 (below_size (bG HB.out))); have n1_ := Aside0.mk (blk_below (g := gb122) (o := .cells #[.int .i64 a0_0, .slice A0_1 l0_1.length c0_1, .slice A0_2 l0_2.length c0_2] 86 (0, 0)) (kA BK122.out) hb); have n2_ := Aside0.mk (below_step (bG HB.out) hb); clear BK122; clear HB; have HO125 := n0_; have BK122 := n1_; have HB := n2_; clear n0_ n1_ n2_; clear hb ho20)));(have n0_ := Aside0.mk (Kd.R_drew HO125.out));(have n1_ := Aside0.mk (blk_drew BK122.out));(have n2_ := Aside0.mk (below_drew1 HB.out));(clear HO125);(clear BK122);(clear HB);(have HO125 := n0_);(have BK122 := n1_);(have HB := n2_);(clear n0_ n1_ n2_);(refine start_ (n := 14) (S := fun w' => w'.cell? ⟨gb122, 0, none⟩ = some (.int .i64 a0_0) ∧ w'.cell? ⟨gb122, 1, none⟩ = some (.slice A0_1 l0_1.length c0_1) ∧ w'.cell? ⟨gb122, 2, none⟩ = some (.slice A0_2 l0_2.length c0_2)) (ds := [11, 13]) (dnA 14 0) (by kernel_rfl) rfl rfl ⟨(blk_cell BK122.out 0).trans rfl, (blk_cell BK122.out 1).trans rfl, (blk_cell BK122.out 2).trans rfl⟩ (fun hHeld => ?_); refine with_tabW interp_slopes.tab5 interp_slopes.bits5 (fun HT_ HW_ => ?_));(generalize w19.drew = w21 at HO125 BK122 HB hHeld ⊢);(refine pure_ (i := 0) (N := some 16) (v := ?_) (a' := ?_) (dnA 14 1) rfl rfl (any_of HT_.out (by kernel_rfl)) (fun _ _ _ h => h) (Or.inl ⟨by rfl, ?_⟩) ?_ ?_);(rotate_left)
 ·intro w'
  (go_simp);(with_reducible rfl)
 rotate_left
 ·simp only [Act.put, List.setIfInBounds_toArray, List.set_cons_zero, List.set_cons_succ, i64_w, i32_w]
  rfl
 (refine pure_ (i := 1) (N := some 17) (v := ?_) (a' := ?_) (dnA 14 3) rfl rfl (any_of HT_.out (by kernel_rfl)) (fun _ _ _ h => h) (Or.inl ⟨by rfl, ?_⟩) ?_ ?_);(rotate_left)
 ·intro w'
  (go_simp);(with_reducible rfl)
 rotate_left
 ·simp only [Act.put, List.setIfInBounds_toArray, List.set_cons_zero, List.set_cons_succ, i64_w, i32_w]
  rfl
 (refine pure_ (i := 2) (N := some 18) (v := ?_) (a' := ?_) (dnA 14 7) rfl rfl (any_of HT_.out (by kernel_rfl)) (fun _ _ _ h => h) (Or.inl ⟨by rfl, ?_⟩) ?_ ?_);(rotate_left)
 ·intro w'
  (go_simp);(with_reducible rfl)
 rotate_left
 ·simp only [Act.put, List.setIfInBounds_toArray, List.set_cons_zero, List.set_cons_succ, i64_w, i32_w]
  rfl
 (refine pure_ (i := 3) (N := some 19) (v := ?_) (a' := ?_) (dnA 14 15) rfl rfl (any_of HT_.out (by kernel_rfl)) (fun _ _ _ h => h) (Or.inl ⟨by rfl, ?_⟩) ?_ ?_);(rotate_left)
 ·intro w'
  (go_simp);(with_reducible rfl)
 rotate_left
 ·simp only [Act.put, List.setIfInBounds_toArray, List.set_cons_zero, List.set_cons_succ, i64_w, i32_w]
  rfl
 (refine pure_ (i := 7) (N := some 23) (v := ?_) (a' := ?_) (dnA 14 143) rfl rfl (any_of HT_.out (by kernel_rfl)) (fun _ _ _ h => h) (Or.inl ⟨by rfl, ?_⟩) ?_ ?_);(rotate_left)
 ·intro w'
  (go_simp);(with_reducible rfl)
 rotate_left
 ·simp only [Act.put, List.setIfInBounds_toArray, List.set_cons_zero, List.set_cons_succ, i64_w, i32_w]
  rfl
 (refine pure_ (i := 8) (N := some 24) (v := ?_) (a' := ?_) (dnA 14 399) rfl rfl (any_of HT_.out (by kernel_rfl)) (fun _ _ _ h => h) (Or.inl ⟨by rfl, ?_⟩) ?_ ?_);(rotate_left)
 ·intro w'
  (go_simp);(with_reducible rfl)
 rotate_left
 ·simp only [Act.put, List.setIfInBounds_toArray, List.set_cons_zero, List.set_cons_succ, i64_w, i32_w]
  rfl
 (refine take_ (i := 4) (N := some 20) (v := ?_) (a' := ?_) (dnA 14 415) rfl rfl (take_ofW HT_.out HW_.out (by kernel_rfl)) (fun _ _ _ h => h) (Or.inl ⟨by rfl, ?_⟩) hHeld ?_ ?_);(rotate_left)
 ·rintro w' ⟨s0, s1, s2⟩
  (go_simp);(with_reducible rfl)
 rotate_left
 ·simp only [Act.put, List.setIfInBounds_toArray, List.set_cons_zero, List.set_cons_succ, i64_w, i32_w]
  rfl
 (refine take_ (i := 6) (N := some 22) (v := ?_) (a' := ?_) (dnA 14 479) rfl rfl (take_ofW HT_.out HW_.out (by kernel_rfl)) (fun _ _ _ h => h) (Or.inl ⟨by rfl, ?_⟩) hHeld ?_ ?_);(rotate_left)
 ·rintro w' ⟨s0, s1, s2⟩
  (go_simp);(with_reducible rfl)
 rotate_left
 ·simp only [Act.put, List.setIfInBounds_toArray, List.set_cons_zero, List.set_cons_succ, i64_w, i32_w]
  rfl
 (refine one_ (i := 5) (N := some 21) (dnA 14 511) rfl rfl (one_of HT_.out (by kernel_rfl)) (by decide) (fun K hK => ?_));(refine goes_ Try.func117 (by kernel_rfl) rfl #[.agg #[.int .i64 a0_0, .slice A0_1 l0_1.length c0_1, .slice A0_2 l0_2.length c0_2], .int .i64 0] (by rfl) rfl rfl mA ?_);(with_reducible refine (interp_rise.calls a0_0 _ _ l0_1 _ _ l0_2 0 t126 _ ?side1 ?side2 ?side3 ?side4 A9.out).mono ?_)
 (case side1 => exact cA (Kd.C_below HR0_1.out HB.out))
 (case side2 => exact HC0_1.out)
 (case side3 => exact cA (Kd.C_below HR0_2.out HB.out))
 (case side4 => exact HC0_2.out)
 rintro e w22 ⟨rfl, hb⟩
 (refine ⟨_, rfl, ?_⟩);(have n0_ := Aside0.mk (Kd.R_below (rA HO125.out) hb));(have n1_ := Aside0.mk (blk_below (g := gb122) (o := .cells #[.int .i64 a0_0, .slice A0_1 l0_1.length c0_1, .slice A0_2 l0_2.length c0_2] 86 (0, 0)) (kA BK122.out) hb));(have n2_ := Aside0.mk (below_step (bG HB.out) hb));(clear HO125);(clear BK122);(clear HB);(have HO125 := n0_);(have BK122 := n1_);(have HB := n2_);(clear n0_ n1_ n2_)
 (try clear hb)
 (try clear hb2)
 (try clear hk)
 (try clear hi)
 (refine hK.out _ _ ⟨(blk_cell BK122.out 0).trans rfl, (blk_cell BK122.out 1).trans rfl, (blk_cell BK122.out 2).trans rfl⟩ (fun hHeld => ?_));(clear hK K);(refine norm_ (a' := ?_) ?_ ?_);(rotate_left)
 ·show Act.put _ (some 21) _ = _
  (simp only [Act.put, List.setIfInBounds_toArray, List.set_cons_zero, List.set_cons_succ, i64_w, i32_w]);(rfl)
 (refine one_ (i := 9) (N := some 25) (dnA 14 1023) rfl rfl (one_of HT_.out (by kernel_rfl)) (by decide) (fun K hK => ?_));(refine goes_ Try.func117 (by kernel_rfl) rfl #[.agg #[.int .i64 a0_0, .slice A0_1 l0_1.length c0_1, .slice A0_2 l0_2.length c0_2], .int .i64 (wrap64 ((l0_1.length : Int) - 2))] (by rfl) rfl rfl mA ?_);(with_reducible refine (interp_rise.calls a0_0 _ _ l0_1 _ _ l0_2 (wrap64 ((l0_1.length : Int) - 2)) t127 _ ?side1 ?side2 ?side3 ?side4 A10.out).mono ?_)
 (case side1 => exact cA (Kd.C_below HR0_1.out HB.out))
 (case side2 => exact HC0_1.out)
 (case side3 => exact cA (Kd.C_below HR0_2.out HB.out))
 (case side4 => exact HC0_2.out)
 rintro e w23 ⟨rfl, hb⟩
 (refine ⟨_, rfl, ?_⟩);(have n0_ := Aside0.mk (Kd.R_below (rA HO125.out) hb));(have n1_ := Aside0.mk (blk_below (g := gb122) (o := .cells #[.int .i64 a0_0, .slice A0_1 l0_1.length c0_1, .slice A0_2 l0_2.length c0_2] 86 (0, 0)) (kA BK122.out) hb));(have n2_ := Aside0.mk (below_step (bG HB.out) hb));(clear HO125);(clear BK122);(clear HB);(have HO125 := n0_);(have BK122 := n1_);(have HB := n2_);(clear n0_ n1_ n2_)
 (try clear hb)
 (try clear hb2)
 (try clear hk)
 (try clear hi)
 (have p12 : 0 ≤ (0 : Int) := (by omega));(have q12 : (0 : Int) < ((y123.length : Int) : Int) := of_decide_eq_true asA);(have qi12 : (0 < y123.length) = True := eq_true (by omega));(obtain ⟨go12, co12, eo12, gb12, gl12, cl12, HG12⟩ := Kd.R_form HO125.out (by omega))
 (first | cases eo12 | (injection eo12 with ea_ en_ ec_; (first | subst ea_ | (injection ea_ with ea_; subst ea_)); subst ec_; clear en_))
 (have GB12 := Aside0.mk gb12);(have GG12 := Aside0.mk HG12);(clear gb12 gl12 HG12);(obtain ⟨hx12_0, hf12_0⟩ := Kd.R_celln (0 : Nat) HO125.out (0 : Int) p12 q12)
 (try rw [show ((0 : Int)).toNat = 0 from rfl] at hx12_0)
 (try simp only [Nat.reduceMul, Nat.zero_mul, Nat.zero_add, Nat.reduceAdd] at hx12_0)
 (try rw [show ((0 : Int)).toNat = 0 from rfl] at hf12_0)
 (try simp only [Nat.reduceMul, Nat.zero_mul, Nat.zero_add, Nat.reduceAdd] at hf12_0)
 (replace p12 := eq_true p12);(replace q12 := eq_true q12);(have HP24 := Kd.R_putn HO125.out (0 : Int) t126);(rw [← Ny128.out] at HP24);(have HQ24 := Aside0.mk HP24);(clear HP24);(have p16 : 0 ≤ ((ji13) : Int) := of_decide_eq_true asA);(have q16 : ((ji13) : Int) < ((y123.length : Int) : Int) := of_decide_eq_true asA);(obtain ⟨hx16_0, hf16_0⟩ := Kd.R_celln (0 : Nat) HQ24.out ((ji13) : Int) p16 q16)
 (try rw [show ((0 : Int)).toNat = 0 from rfl] at hx16_0)
 (try rw [show ((0 : Int)).toNat = 0 from rfl] at hf16_0)
 (replace p16 := eq_true p16);(replace q16 := eq_true q16);(have HP25 := Kd.R_putn HQ24.out ((ji13) : Int) t127);(rw [← Ny129.out] at HP25);(have HQ25 := Aside0.mk HP25);(clear HP25);(refine hK.out _ _ ⟨(blk_cell BK122.out 0).trans rfl, (blk_cell BK122.out 1).trans rfl, (blk_cell BK122.out 2).trans rfl⟩ (fun hHeld => ?_));(clear hK K);(refine norm_ (a' := ?_) ?_ ?_);(rotate_left)
 ·show Act.put _ (some 25) _ = _
  (simp only [Act.put, List.setIfInBounds_toArray, List.set_cons_zero, List.set_cons_succ, i64_w, i32_w]);(rfl)
 (refine pure_ (i := 10) (N := some 26) (v := ?_) (a' := ?_) (dnA 14 2047) rfl rfl (any_of HT_.out (by kernel_rfl)) (fun _ _ _ h => h) (Or.inl ⟨by rfl, ?_⟩) ?_ ?_);(rotate_left)
 ·intro w'
  (go_simp);(with_reducible rfl)
 rotate_left
 ·simp only [Act.put, List.setIfInBounds_toArray, List.set_cons_zero, List.set_cons_succ, i64_w, i32_w]
  rfl
 (refine last_ (i := 11) (N := none) (dnA 14 4095) rfl rfl (one_of HT_.out (by kernel_rfl)) (by decide) (fun K hK => ?_));(refine skip_ (w1 := ?_) (by rfl) rfl ?_ ?_);(rotate_left)
 ·go_simp
  rfl
 (refine hK.out _ _ ?_);(clear hK K);(refine pure_ (i := 12) (N := some 27) (v := ?_) (a' := ?_) (dnA 14 8191) rfl rfl (any_of HT_.out (by kernel_rfl)) (fun _ _ _ h => h) (Or.inl ⟨by rfl, ?_⟩) ?_ ?_);(rotate_left)
 ·intro w'
  (go_simp);(with_reducible rfl)
 rotate_left
 ·simp only [Act.put, List.setIfInBounds_toArray, List.set_cons_zero, List.set_cons_succ, i64_w, i32_w]
  rfl
 (refine last_ (i := 13) (N := none) (dnA 14 16383) rfl rfl (one_of HT_.out (by kernel_rfl)) (by decide) (fun K hK => ?_));(refine skip_ (w1 := ?_) (by rfl) rfl ?_ ?_);(rotate_left)
 ·go_simp
  rfl
 (refine hK.out _ _ ?_);(clear hK K);(refine done_ (done_of HT_.out (by kernel_rfl)) ?_);(try go_wp2)
 go_loopg [30] k (fun kq v30 w' => ∃ (x4_1 : List Nat) (x30_1 : Int), v30 = .int .i64 x30_1 ∧ Aside0 (interp_slopes.l0 kq x4_1 (wrap64 ((l0_1.length : Int) - 2)) x30_1 a0_0 l0_1 l0_2 = some r) ∧ Aside0 (kq ≤ k) ∧ Aside0 (Kd.R Kd.flt 35 w' w.heap.size (fun _ => True) (.slice (some ⟨go12, 0, none⟩) y123.length co12) x4_1) ∧ Aside0 (w'.heap[gb122]? = some (.cells #[.int .i64 a0_0, (.slice A0_1 l0_1.length c0_1), (.slice A0_2 l0_2.length c0_2)] 86 (0, 0))) ∧ Aside0 (Below w.heap.size w w'))
 case atStart => exact ⟨(y129), (0), (by first | rfl | (simp; done) | (simp [*]; done)), H', ⟨Nat.le_refl _⟩, ⟨rA HQ25.out⟩, ⟨by (with_reducible repeat (first | refine blk_drewN ?_ _ | refine blk_drew ?_ | refine blk_alloc ?_ _)); refine blk_far ?_ (by have h_ := Kd.R_ne HO125.out BK122.out (by decide); intro e_; exact h_ (by rw [e_]; rfl)) _; (with_reducible repeat (first | refine blk_drewN ?_ _ | refine blk_drew ?_ | refine blk_alloc ?_ _)); refine blk_far ?_ (by have h_ := Kd.R_ne HO125.out BK122.out (by decide); intro e_; exact h_ (by rw [e_]; rfl)) _; (with_reducible repeat (first | refine blk_drewN ?_ _ | refine blk_drew ?_ | refine blk_alloc ?_ _)); exact BK122.out⟩, ⟨by repeat (first | (with_reducible first | exact HB.out | apply below_alloc | apply pw_below_drewN | apply below_drew1 | refine below_set ?_ GB12.out | refine below_set ?_ GB12.out | refine below_set ?_ GE122.out) | exact HB.out)⟩⟩
 case round =>
  (clear H');(try clear c1);(try clear p1);(try clear q1);(try clear hx1);(try clear qi1);(try clear hf1);(try clear c2);(try clear c2b0);(try clear c2b1);(try clear p2);(try clear c3);(try clear c3b0);(try clear c3b1);(try clear c4);(try clear c4b0);(try clear c4b1);(try clear p6);(try clear c11);(try clear c11b0);(try clear c11b1);(try clear p12);(try clear q12);(try clear hx12);(try clear qi12);(try clear hf12);(try clear c14);(try clear c14b0);(try clear c15);(try clear c15b0);(try clear p16);(try clear q16);(try clear hx16);(try clear hf16);(try clear hcz18_0);(try clear hcz18_1);(try clear hcz18_2);(try clear hcz6_0);(try clear hcz6_1);(try clear hcz6_2);(try clear hfz18_0);(try clear hfz18_1);(try clear hfz18_2);(try clear hfz6_0);(try clear hfz6_1);(try clear hfz6_2);(try clear hx12_0);(try clear hx16_0);(try clear p12);(try clear p16);(try clear q12);(try clear q16);(obtain ⟨x4_1, x30_1, rfl, HA, HK1, HO_4, BK122, HB⟩ := hrel);(have hl4_1 := (Kd.R_reads' HO_4.out).1);(rw [hl4_1] at HO_4)
  (try simp only [hl4_1])
  (try simp only [hl4_1] at BK122)
  cases gk with
  | zero => exact absurd HA.out (by simp [interp_slopes.l0])
  | succ k1 =>
   (have H := HA.out);(clear HA);(simp only [interp_slopes.l0] at H)
   by_cases c26 : x30_1 < (wrap64 ((l0_1.length : Int) - 2))
   rotate_left
   ·rw [if_neg c26] at H
    (have c26b0 : decide (x30_1 < (wrap64 ((l0_1.length : Int) - 2))) = false := decide_eq_false c26);(clear c26);(obtain rfl := Option.some.inj H);(go_wp2);(go_ret);(exact ⟨_, by first | rfl | (simp [errW_none, errW_some] <;> rfl) | (simp only [← hji13]; first | rfl | (simp [errW_none, errW_some] <;> rfl)) | (simp [*, errW_none, errW_some] <;> rfl), by (with_reducible repeat (first | apply Kd.R_alloc | apply Kd.R_drewN | apply Kd.R_drew)); exact HO_4.out, bG HB.out⟩)
   (rw [if_pos c26] at H);(have c26b0 : decide (x30_1 < (wrap64 ((l0_1.length : Int) - 2))) = true := decide_eq_true c26);(clear c26);(replace H := Option.bind_eq_some_iff.mp H);(obtain ⟨t130, A270, H⟩ := H);(have A27 := Aside0.mk A270);(clear A270);(replace H := Option.bind_eq_some_iff.mp H);(obtain ⟨t131, A280, H⟩ := H);(have A28 := Aside0.mk A280);(clear A280)
   by_cases c29 : (FloatKind.f64.format.order t130 (0 : Nat) == some .gt) = true
   rotate_left
   ·rw [if_neg c29] at H
    have c29b0 : (FloatKind.f64.format.order t130 (0 : Nat) == some .gt) = false := by simpa using c29
    (try (have c29b1 : decide (FloatKind.f64.format.order t130 (0 : Nat) = some .gt) = false := by simpa using c29))
    (try (have c29b2 : (FloatKind.f64.format.order t130 (0 : Nat) == some .gt) = false := by simpa using c29))
    (try (have c29b3 : ¬ (FloatKind.f64.format.order t130 (0 : Nat) = some .gt) := by simpa using c29))
    clear c29
    by_cases c65 : (FloatKind.f64.format.order t130 (0 : Nat) == some .lt) = true
    rotate_left
    ·rw [if_neg c65] at H
     have c65b0 : (FloatKind.f64.format.order t130 (0 : Nat) == some .lt) = false := by simpa using c65
     (try (have c65b1 : decide (FloatKind.f64.format.order t130 (0 : Nat) = some .lt) = false := by simpa using c65))
     (try (have c65b2 : (FloatKind.f64.format.order t130 (0 : Nat) == some .lt) = false := by simpa using c65))
     (try (have c65b3 : ¬ (FloatKind.f64.format.order t130 (0 : Nat) = some .lt) := by simpa using c65))
     (clear c65);(have H' := Aside0.mk H);(clear H);(try go_wp2);(have n0_ := Aside0.mk (Kd.R_drew HO_4.out));(have n1_ := Aside0.mk (blk_drew BK122.out));(have n2_ := Aside0.mk (below_drew1 HB.out));(clear HO_4);(clear BK122);(clear HB);(have HO_4 := n0_);(have BK122 := n1_);(have HB := n2_);(clear n0_ n1_ n2_);(refine start_ (n := 9) (S := fun w' => w'.cell? ⟨gb122, 0, none⟩ = some (.int .i64 a0_0) ∧ w'.cell? ⟨gb122, 1, none⟩ = some (.slice A0_1 l0_1.length c0_1) ∧ w'.cell? ⟨gb122, 2, none⟩ = some (.slice A0_2 l0_2.length c0_2)) (ds := []) #[false, false, false, false, false, false, false, false, false] (by kernel_rfl) rfl rfl ⟨(blk_cell BK122.out 0).trans rfl, (blk_cell BK122.out 1).trans rfl, (blk_cell BK122.out 2).trans rfl⟩ (fun hHeld => ?_); refine with_tabW interp_slopes.tab9 interp_slopes.bits9 (fun HT_ HW_ => ?_));(generalize wr.drew = w83 at HO_4 BK122 HB hHeld ⊢);(refine pure_ (i := 1) (N := some 34) (v := ?_) (a' := ?_) #[false, true, false, false, false, false, false, false, false] rfl rfl (any_of HT_.out (by kernel_rfl)) (fun _ _ _ h => h) (Or.inl ⟨by rfl, ?_⟩) ?_ ?_);(rotate_left)
     ·intro w'
      (go_simp);(with_reducible rfl)
     rotate_left
     ·simp only [Act.put, List.setIfInBounds_toArray, List.set_cons_zero, List.set_cons_succ, i64_w, i32_w]
      rfl
     (refine pure_ (i := 4) (N := some 37) (v := ?_) (a' := ?_) #[false, true, false, false, true, false, false, false, false] rfl rfl (any_of HT_.out (by kernel_rfl)) (fun _ _ _ h => h) (Or.inl ⟨by rfl, ?_⟩) ?_ ?_);(rotate_left)
     ·intro w'
      (go_simp);(with_reducible rfl)
     rotate_left
     ·simp only [Act.put, List.setIfInBounds_toArray, List.set_cons_zero, List.set_cons_succ, i64_w, i32_w]
      rfl
     (refine pure_ (i := 5) (N := some 38) (v := ?_) (a' := ?_) #[false, true, false, false, true, true, false, false, false] rfl rfl (any_of HT_.out (by kernel_rfl)) (fun _ _ _ h => h) (Or.inl ⟨by rfl, ?_⟩) ?_ ?_);(rotate_left)
     ·intro w'
      (go_simp);(with_reducible rfl)
     rotate_left
     ·simp only [Act.put, List.setIfInBounds_toArray, List.set_cons_zero, List.set_cons_succ, i64_w, i32_w]
      rfl
     (refine take_ (i := 0) (N := some 33) (v := ?_) (a' := ?_) #[true, true, false, false, true, true, false, false, false] rfl rfl (take_ofW HT_.out HW_.out (by kernel_rfl)) (fun _ _ _ h => h) (Or.inl ⟨by rfl, ?_⟩) hHeld ?_ ?_);(rotate_left)
     ·rintro w' ⟨s0, s1, s2⟩
      (go_simp);(with_reducible rfl)
     rotate_left
     ·simp only [Act.put, List.setIfInBounds_toArray, List.set_cons_zero, List.set_cons_succ, i64_w, i32_w]
      rfl
     (refine take_ (i := 3) (N := some 36) (v := ?_) (a' := ?_) #[true, true, false, true, true, true, false, false, false] rfl rfl (take_ofW HT_.out HW_.out (by kernel_rfl)) (fun _ _ _ h => h) (Or.inl ⟨by rfl, ?_⟩) hHeld ?_ ?_);(rotate_left)
     ·rintro w' ⟨s0, s1, s2⟩
      (go_simp);(with_reducible rfl)
     rotate_left
     ·simp only [Act.put, List.setIfInBounds_toArray, List.set_cons_zero, List.set_cons_succ, i64_w, i32_w]
      rfl
     (refine one_ (i := 2) (N := some 35) #[true, true, true, true, true, true, false, false, false] rfl rfl (one_of HT_.out (by kernel_rfl)) (by decide) (fun K hK => ?_));(refine goes_ Try.func117 (by kernel_rfl) rfl #[.agg #[.int .i64 a0_0, .slice A0_1 l0_1.length c0_1, .slice A0_2 l0_2.length c0_2], .int .i64 x30_1] (by rfl) rfl rfl mA ?_);(with_reducible refine (interp_rise.calls a0_0 _ _ l0_1 _ _ l0_2 x30_1 t130 _ ?side1 ?side2 ?side3 ?side4 A27.out).mono ?_)
     (case side1 => exact cA (Kd.C_below HR0_1.out HB.out))
     (case side2 => exact HC0_1.out)
     (case side3 => exact cA (Kd.C_below HR0_2.out HB.out))
     (case side4 => exact HC0_2.out)
     rintro e w84 ⟨rfl, hb⟩
     (refine ⟨_, rfl, ?_⟩);(have n0_ := Aside0.mk (Kd.R_below (rA HO_4.out) hb));(have n1_ := Aside0.mk (blk_below (g := gb122) (o := .cells #[.int .i64 a0_0, .slice A0_1 l0_1.length c0_1, .slice A0_2 l0_2.length c0_2] 86 (0, 0)) (kA BK122.out) hb));(have n2_ := Aside0.mk (below_step (bG HB.out) hb));(clear HO_4);(clear BK122);(clear HB);(have HO_4 := n0_);(have BK122 := n1_);(have HB := n2_);(clear n0_ n1_ n2_)
     (try clear hb)
     (try clear hb2)
     (try clear hk)
     (try clear hi)
     (refine hK.out _ _ ⟨(blk_cell BK122.out 0).trans rfl, (blk_cell BK122.out 1).trans rfl, (blk_cell BK122.out 2).trans rfl⟩ (fun hHeld => ?_));(clear hK K);(refine norm_ (a' := ?_) ?_ ?_);(rotate_left)
     ·show Act.put _ (some 35) _ = _
      (simp only [Act.put, List.setIfInBounds_toArray, List.set_cons_zero, List.set_cons_succ, i64_w, i32_w]);(rfl)
     (refine one_ (i := 6) (N := some 39) #[true, true, true, true, true, true, true, false, false] rfl rfl (one_of HT_.out (by kernel_rfl)) (by decide) (fun K hK => ?_));(refine goes_ Try.func117 (by kernel_rfl) rfl #[.agg #[.int .i64 a0_0, .slice A0_1 l0_1.length c0_1, .slice A0_2 l0_2.length c0_2], .int .i64 (wrap64 (x30_1 + 1))] (by rfl) rfl rfl mA ?_);(with_reducible refine (interp_rise.calls a0_0 _ _ l0_1 _ _ l0_2 (wrap64 (x30_1 + 1)) t131 _ ?side1 ?side2 ?side3 ?side4 A28.out).mono ?_)
     (case side1 => exact cA (Kd.C_below HR0_1.out HB.out))
     (case side2 => exact HC0_1.out)
     (case side3 => exact cA (Kd.C_below HR0_2.out HB.out))
     (case side4 => exact HC0_2.out)
     rintro e w85 ⟨rfl, hb⟩
     (refine ⟨_, rfl, ?_⟩);(have n0_ := Aside0.mk (Kd.R_below (rA HO_4.out) hb));(have n1_ := Aside0.mk (blk_below (g := gb122) (o := .cells #[.int .i64 a0_0, .slice A0_1 l0_1.length c0_1, .slice A0_2 l0_2.length c0_2] 86 (0, 0)) (kA BK122.out) hb));(have n2_ := Aside0.mk (below_step (bG HB.out) hb));(clear HO_4);(clear BK122);(clear HB);(have HO_4 := n0_);(have BK122 := n1_);(have HB := n2_);(clear n0_ n1_ n2_)
     (try clear hb)
     (try clear hb2)
     (try clear hk)
     (try clear hi)
     (refine hK.out _ _ ⟨(blk_cell BK122.out 0).trans rfl, (blk_cell BK122.out 1).trans rfl, (blk_cell BK122.out 2).trans rfl⟩ (fun hHeld => ?_));(clear hK K);(refine norm_ (a' := ?_) ?_ ?_);(rotate_left)
     ·show Act.put _ (some 39) _ = _
      (simp only [Act.put, List.setIfInBounds_toArray, List.set_cons_zero, List.set_cons_succ, i64_w, i32_w]);(rfl)
     (refine pure_ (i := 7) (N := some 6) (v := ?_) (a' := ?_) #[true, true, true, true, true, true, true, true, false] rfl rfl (any_of HT_.out (by kernel_rfl)) (fun _ _ _ h => h) (Or.inl ⟨by rfl, ?_⟩) ?_ ?_);(rotate_left)
     ·intro w'
      (go_simp);(with_reducible rfl)
     rotate_left
     ·simp only [Act.put, List.setIfInBounds_toArray, List.set_cons_zero, List.set_cons_succ, i64_w, i32_w]
      rfl
     (refine pure_ (i := 8) (N := some 7) (v := ?_) (a' := ?_) #[true, true, true, true, true, true, true, true, true] rfl rfl (any_of HT_.out (by kernel_rfl)) (fun _ _ _ h => h) (Or.inl ⟨by rfl, ?_⟩) ?_ ?_);(rotate_left)
     ·intro w'
      (go_simp);(with_reducible rfl)
     rotate_left
     ·simp only [Act.put, List.setIfInBounds_toArray, List.set_cons_zero, List.set_cons_succ, i64_w, i32_w]
      rfl
     (refine done_ (done_of HT_.out (by kernel_rfl)) ?_);(try go_wp2)
     (try simp only [← hl4_1])
     go_roundg k1
     case measure => have := HK1.out; omega
     case rel => exact ⟨(x4_1), (wrap64 (x30_1 + 1)), (by first | rfl | (simp; done) | (simp [*]; done)), H', ⟨by have := HK1.out; omega⟩, ⟨by (try simp only [hl4_1]); (with_reducible repeat (first | apply Kd.R_alloc | apply Kd.R_drewN | apply Kd.R_drew)); exact HO_4.out⟩, ⟨by (try simp only [hl4_1]); (with_reducible repeat (first | refine blk_drewN ?_ _ | refine blk_drew ?_ | refine blk_alloc ?_ _)); exact BK122.out⟩, ⟨bG HB.out⟩⟩
    (rw [if_pos c65] at H);(have c65b0 : (FloatKind.f64.format.order t130 (0 : Nat) == some .lt) = true := c65)
    (try (have c65b1 : decide (FloatKind.f64.format.order t130 (0 : Nat) = some .lt) = true := by simpa using c65))
    (try (have c65b2 : (FloatKind.f64.format.order t130 (0 : Nat) == some .lt) = true := by simpa using c65))
    clear c65
    by_cases c66 : (FloatKind.f64.format.order t131 (0 : Nat) == some .lt) = true
    rotate_left
    ·rw [if_neg c66] at H
     have c66b0 : (FloatKind.f64.format.order t131 (0 : Nat) == some .lt) = false := by simpa using c66
     (try (have c66b1 : decide (FloatKind.f64.format.order t131 (0 : Nat) = some .lt) = false := by simpa using c66))
     (try (have c66b2 : (FloatKind.f64.format.order t131 (0 : Nat) == some .lt) = false := by simpa using c66))
     (try (have c66b3 : ¬ (FloatKind.f64.format.order t131 (0 : Nat) = some .lt) := by simpa using c66))
     (clear c66);(have H' := Aside0.mk H);(clear H);(try go_wp2);(have n0_ := Aside0.mk (Kd.R_drew HO_4.out));(have n1_ := Aside0.mk (blk_drew BK122.out));(have n2_ := Aside0.mk (below_drew1 HB.out));(clear HO_4);(clear BK122);(clear HB);(have HO_4 := n0_);(have BK122 := n1_);(have HB := n2_);(clear n0_ n1_ n2_);(refine start_ (n := 9) (S := fun w' => w'.cell? ⟨gb122, 0, none⟩ = some (.int .i64 a0_0) ∧ w'.cell? ⟨gb122, 1, none⟩ = some (.slice A0_1 l0_1.length c0_1) ∧ w'.cell? ⟨gb122, 2, none⟩ = some (.slice A0_2 l0_2.length c0_2)) (ds := []) #[false, false, false, false, false, false, false, false, false] (by kernel_rfl) rfl rfl ⟨(blk_cell BK122.out 0).trans rfl, (blk_cell BK122.out 1).trans rfl, (blk_cell BK122.out 2).trans rfl⟩ (fun hHeld => ?_); refine with_tabW interp_slopes.tab9 interp_slopes.bits9 (fun HT_ HW_ => ?_));(generalize wr.drew = w80 at HO_4 BK122 HB hHeld ⊢);(refine pure_ (i := 1) (N := some 34) (v := ?_) (a' := ?_) #[false, true, false, false, false, false, false, false, false] rfl rfl (any_of HT_.out (by kernel_rfl)) (fun _ _ _ h => h) (Or.inl ⟨by rfl, ?_⟩) ?_ ?_);(rotate_left)
     ·intro w'
      (go_simp);(with_reducible rfl)
     rotate_left
     ·simp only [Act.put, List.setIfInBounds_toArray, List.set_cons_zero, List.set_cons_succ, i64_w, i32_w]
      rfl
     (refine pure_ (i := 4) (N := some 37) (v := ?_) (a' := ?_) #[false, true, false, false, true, false, false, false, false] rfl rfl (any_of HT_.out (by kernel_rfl)) (fun _ _ _ h => h) (Or.inl ⟨by rfl, ?_⟩) ?_ ?_);(rotate_left)
     ·intro w'
      (go_simp);(with_reducible rfl)
     rotate_left
     ·simp only [Act.put, List.setIfInBounds_toArray, List.set_cons_zero, List.set_cons_succ, i64_w, i32_w]
      rfl
     (refine pure_ (i := 5) (N := some 38) (v := ?_) (a' := ?_) #[false, true, false, false, true, true, false, false, false] rfl rfl (any_of HT_.out (by kernel_rfl)) (fun _ _ _ h => h) (Or.inl ⟨by rfl, ?_⟩) ?_ ?_);(rotate_left)
     ·intro w'
      (go_simp);(with_reducible rfl)
     rotate_left
     ·simp only [Act.put, List.setIfInBounds_toArray, List.set_cons_zero, List.set_cons_succ, i64_w, i32_w]
      rfl
     (refine take_ (i := 0) (N := some 33) (v := ?_) (a' := ?_) #[true, true, false, false, true, true, false, false, false] rfl rfl (take_ofW HT_.out HW_.out (by kernel_rfl)) (fun _ _ _ h => h) (Or.inl ⟨by rfl, ?_⟩) hHeld ?_ ?_);(rotate_left)
     ·rintro w' ⟨s0, s1, s2⟩
      (go_simp);(with_reducible rfl)
     rotate_left
     ·simp only [Act.put, List.setIfInBounds_toArray, List.set_cons_zero, List.set_cons_succ, i64_w, i32_w]
      rfl
     (refine take_ (i := 3) (N := some 36) (v := ?_) (a' := ?_) #[true, true, false, true, true, true, false, false, false] rfl rfl (take_ofW HT_.out HW_.out (by kernel_rfl)) (fun _ _ _ h => h) (Or.inl ⟨by rfl, ?_⟩) hHeld ?_ ?_);(rotate_left)
     ·rintro w' ⟨s0, s1, s2⟩
      (go_simp);(with_reducible rfl)
     rotate_left
     ·simp only [Act.put, List.setIfInBounds_toArray, List.set_cons_zero, List.set_cons_succ, i64_w, i32_w]
      rfl
     (refine one_ (i := 2) (N := some 35) #[true, true, true, true, true, true, false, false, false] rfl rfl (one_of HT_.out (by kernel_rfl)) (by decide) (fun K hK => ?_));(refine goes_ Try.func117 (by kernel_rfl) rfl #[.agg #[.int .i64 a0_0, .slice A0_1 l0_1.length c0_1, .slice A0_2 l0_2.length c0_2], .int .i64 x30_1] (by rfl) rfl rfl mA ?_);(with_reducible refine (interp_rise.calls a0_0 _ _ l0_1 _ _ l0_2 x30_1 t130 _ ?side1 ?side2 ?side3 ?side4 A27.out).mono ?_)
     (case side1 => exact cA (Kd.C_below HR0_1.out HB.out))
     (case side2 => exact HC0_1.out)
     (case side3 => exact cA (Kd.C_below HR0_2.out HB.out))
     (case side4 => exact HC0_2.out)
     rintro e w81 ⟨rfl, hb⟩
     (refine ⟨_, rfl, ?_⟩);(have n0_ := Aside0.mk (Kd.R_below (rA HO_4.out) hb));(have n1_ := Aside0.mk (blk_below (g := gb122) (o := .cells #[.int .i64 a0_0, .slice A0_1 l0_1.length c0_1, .slice A0_2 l0_2.length c0_2] 86 (0, 0)) (kA BK122.out) hb));(have n2_ := Aside0.mk (below_step (bG HB.out) hb));(clear HO_4);(clear BK122);(clear HB);(have HO_4 := n0_);(have BK122 := n1_);(have HB := n2_);(clear n0_ n1_ n2_)
     (try clear hb)
     (try clear hb2)
     (try clear hk)
     (try clear hi)
     (refine hK.out _ _ ⟨(blk_cell BK122.out 0).trans rfl, (blk_cell BK122.out 1).trans rfl, (blk_cell BK122.out 2).trans rfl⟩ (fun hHeld => ?_));(clear hK K);(refine norm_ (a' := ?_) ?_ ?_);(rotate_left)
     ·show Act.put _ (some 35) _ = _
      (simp only [Act.put, List.setIfInBounds_toArray, List.set_cons_zero, List.set_cons_succ, i64_w, i32_w]);(rfl)
     (refine one_ (i := 6) (N := some 39) #[true, true, true, true, true, true, true, false, false] rfl rfl (one_of HT_.out (by kernel_rfl)) (by decide) (fun K hK => ?_));(refine goes_ Try.func117 (by kernel_rfl) rfl #[.agg #[.int .i64 a0_0, .slice A0_1 l0_1.length c0_1, .slice A0_2 l0_2.length c0_2], .int .i64 (wrap64 (x30_1 + 1))] (by rfl) rfl rfl mA ?_);(with_reducible refine (interp_rise.calls a0_0 _ _ l0_1 _ _ l0_2 (wrap64 (x30_1 + 1)) t131 _ ?side1 ?side2 ?side3 ?side4 A28.out).mono ?_)
     (case side1 => exact cA (Kd.C_below HR0_1.out HB.out))
     (case side2 => exact HC0_1.out)
     (case side3 => exact cA (Kd.C_below HR0_2.out HB.out))
     (case side4 => exact HC0_2.out)
     rintro e w82 ⟨rfl, hb⟩
     (refine ⟨_, rfl, ?_⟩);(have n0_ := Aside0.mk (Kd.R_below (rA HO_4.out) hb));(have n1_ := Aside0.mk (blk_below (g := gb122) (o := .cells #[.int .i64 a0_0, .slice A0_1 l0_1.length c0_1, .slice A0_2 l0_2.length c0_2] 86 (0, 0)) (kA BK122.out) hb));(have n2_ := Aside0.mk (below_step (bG HB.out) hb));(clear HO_4);(clear BK122);(clear HB);(have HO_4 := n0_);(have BK122 := n1_);(have HB := n2_);(clear n0_ n1_ n2_)
     (try clear hb)
     (try clear hb2)
     (try clear hk)
     (try clear hi)
     (refine hK.out _ _ ⟨(blk_cell BK122.out 0).trans rfl, (blk_cell BK122.out 1).trans rfl, (blk_cell BK122.out 2).trans rfl⟩ (fun hHeld => ?_));(clear hK K);(refine norm_ (a' := ?_) ?_ ?_);(rotate_left)
     ·show Act.put _ (some 39) _ = _
      (simp only [Act.put, List.setIfInBounds_toArray, List.set_cons_zero, List.set_cons_succ, i64_w, i32_w]);(rfl)
     (refine pure_ (i := 7) (N := some 6) (v := ?_) (a' := ?_) #[true, true, true, true, true, true, true, true, false] rfl rfl (any_of HT_.out (by kernel_rfl)) (fun _ _ _ h => h) (Or.inl ⟨by rfl, ?_⟩) ?_ ?_);(rotate_left)
     ·intro w'
      (go_simp);(with_reducible rfl)
     rotate_left
     ·simp only [Act.put, List.setIfInBounds_toArray, List.set_cons_zero, List.set_cons_succ, i64_w, i32_w]
      rfl
     (refine pure_ (i := 8) (N := some 7) (v := ?_) (a' := ?_) #[true, true, true, true, true, true, true, true, true] rfl rfl (any_of HT_.out (by kernel_rfl)) (fun _ _ _ h => h) (Or.inl ⟨by rfl, ?_⟩) ?_ ?_);(rotate_left)
     ·intro w'
      (go_simp);(with_reducible rfl)
     rotate_left
     ·simp only [Act.put, List.setIfInBounds_toArray, List.set_cons_zero, List.set_cons_succ, i64_w, i32_w]
      rfl
     (refine done_ (done_of HT_.out (by kernel_rfl)) ?_);(try go_wp2)
     (try simp only [← hl4_1])
     go_roundg k1
     case measure => have := HK1.out; omega
     case rel => exact ⟨(x4_1), (wrap64 (x30_1 + 1)), (by first | rfl | (simp; done) | (simp [*]; done)), H', ⟨by have := HK1.out; omega⟩, ⟨by (try simp only [hl4_1]); (with_reducible repeat (first | apply Kd.R_alloc | apply Kd.R_drewN | apply Kd.R_drew)); exact HO_4.out⟩, ⟨by (try simp only [hl4_1]); (with_reducible repeat (first | refine blk_drewN ?_ _ | refine blk_drew ?_ | refine blk_alloc ?_ _)); exact BK122.out⟩, ⟨bG HB.out⟩⟩
    (rw [if_pos c66] at H);(have c66b0 : (FloatKind.f64.format.order t131 (0 : Nat) == some .lt) = true := c66)
    (try (have c66b1 : decide (FloatKind.f64.format.order t131 (0 : Nat) = some .lt) = true := by simpa using c66))
    (try (have c66b2 : (FloatKind.f64.format.order t131 (0 : Nat) == some .lt) = true := by simpa using c66))
    clear c66
    by_cases c67 : fdivK (4607182418800017408 : Nat) t130 = true
    rotate_left
    ·rw [if_neg c67] at H
     exact absurd H (by simp)
    (rw [if_pos c67] at H);(have c67b0 := eq_true c67);(have c67b1 : decide (fdivK (4607182418800017408 : Nat) t130 = true) = true := decide_eq_true c67);(clear c67)
    by_cases c68 : fdivK (4607182418800017408 : Nat) t131 = true
    rotate_left
    ·rw [if_neg c68] at H
     exact absurd H (by simp)
    (rw [if_pos c68] at H);(have c68b0 := eq_true c68);(have c68b1 : decide (fdivK (4607182418800017408 : Nat) t131 = true) = true := decide_eq_true c68);(clear c68)
    by_cases c69 : faddK (fdivV (4607182418800017408 : Nat) t130) (fdivV (4607182418800017408 : Nat) t131) = true
    rotate_left
    ·rw [if_neg c69] at H
     exact absurd H (by simp)
    (rw [if_pos c69] at H);(have c69b0 := eq_true c69);(have c69b1 : decide (faddK (fdivV (4607182418800017408 : Nat) t130) (fdivV (4607182418800017408 : Nat) t131) = true) = true := decide_eq_true c69);(clear c69)
    by_cases c70 : fdivK (4611686018427387904 : Nat) (faddV (fdivV (4607182418800017408 : Nat) t130) (fdivV (4607182418800017408 : Nat) t131)) = true
    rotate_left
    ·rw [if_neg c70] at H
     exact absurd H (by simp)
    (rw [if_pos c70] at H);(have c70b0 := eq_true c70);(have c70b1 : decide (fdivK (4611686018427387904 : Nat) (faddV (fdivV (4607182418800017408 : Nat) t130) (fdivV (4607182418800017408 : Nat) t131)) = true) = true := decide_eq_true c70);(clear c70);(obtain ⟨ji71, hji71⟩ : ∃ j_ : Int, (wrap64 (x30_1 + 1)) = j_ := ⟨_, rfl⟩);(replace H : (if 0 ≤ (ji71) then (if (ji71) < (x4_1.length : Int) then (interp_slopes.l0 k1 (x4_1.set ((ji71) : Int).toNat (fdivV (4611686018427387904 : Nat) (faddV (fdivV (4607182418800017408 : Nat) t130) (fdivV (4607182418800017408 : Nat) t131)))) (wrap64 ((l0_1.length : Int) - 2)) ji71 a0_0 l0_1 l0_2) else (none)) else (none)) = some r := by first | (rw [hji71] at H; exact H) | (simp only [hji71] at H ⊢; exact H))
    (try rw [hji71] at A27)
    (try rw [hji71] at A28)
    have hji71w : (IntKind.i64.wrap (x30_1 + 1)) = ji71 := (i64_w _).trans hji71
    by_cases c72 : 0 ≤ (ji71)
    rotate_left
    ·rw [if_neg c72] at H
     exact absurd H (by simp)
    (rw [if_pos c72] at H);(have c72b0 : decide (0 ≤ (ji71)) = true := decide_eq_true c72);(clear c72)
    by_cases c73 : (ji71) < (x4_1.length : Int)
    rotate_left
    ·rw [if_neg c73] at H
     exact absurd H (by simp)
    (rw [if_pos c73] at H);(have c73b0 : decide ((ji71) < (x4_1.length : Int)) = true := decide_eq_true c73);(clear c73);(obtain ⟨y134, hy134⟩ : ∃ y_ : List Nat, y_ = (x4_1.set ((ji71) : Int).toNat (fdivV (4611686018427387904 : Nat) (faddV (fdivV (4607182418800017408 : Nat) t130) (fdivV (4607182418800017408 : Nat) t131)))) := ⟨_, rfl⟩);(replace H : (interp_slopes.l0 k1 y134 (wrap64 ((l0_1.length : Int) - 2)) ji71 a0_0 l0_1 l0_2) = some r := by first | (rw [hy134]; with_reducible exact H) | (have H2_ := (Option.bind_some _ _).symm.trans H; rw [hy134]; with_reducible exact H2_) | (have H2_ := (Option.bind_some _ _).symm.trans H; with_reducible exact H2_) | with_reducible exact H | (rw [hy134]; exact H) | exact H);(have Ny134 := Aside0.mk hy134);(clear hy134);(have H' := Aside0.mk H);(clear H);(try go_wp2);(have n0_ := Aside0.mk (Kd.R_drew HO_4.out));(have n1_ := Aside0.mk (blk_drew BK122.out));(have n2_ := Aside0.mk (below_drew1 HB.out));(clear HO_4);(clear BK122);(clear HB);(have HO_4 := n0_);(have BK122 := n1_);(have HB := n2_);(clear n0_ n1_ n2_);(refine start_ (n := 9) (S := fun w' => w'.cell? ⟨gb122, 0, none⟩ = some (.int .i64 a0_0) ∧ w'.cell? ⟨gb122, 1, none⟩ = some (.slice A0_1 l0_1.length c0_1) ∧ w'.cell? ⟨gb122, 2, none⟩ = some (.slice A0_2 l0_2.length c0_2)) (ds := []) #[false, false, false, false, false, false, false, false, false] (by kernel_rfl) rfl rfl ⟨(blk_cell BK122.out 0).trans rfl, (blk_cell BK122.out 1).trans rfl, (blk_cell BK122.out 2).trans rfl⟩ (fun hHeld => ?_); refine with_tabW interp_slopes.tab9 interp_slopes.bits9 (fun HT_ HW_ => ?_));(generalize wr.drew = w75 at HO_4 BK122 HB hHeld ⊢);(refine pure_ (i := 1) (N := some 34) (v := ?_) (a' := ?_) #[false, true, false, false, false, false, false, false, false] rfl rfl (any_of HT_.out (by kernel_rfl)) (fun _ _ _ h => h) (Or.inl ⟨by rfl, ?_⟩) ?_ ?_);(rotate_left)
    ·intro w'
     (go_simp);(with_reducible rfl)
    rotate_left
    ·simp only [Act.put, List.setIfInBounds_toArray, List.set_cons_zero, List.set_cons_succ, i64_w, i32_w]
     rfl
    (refine pure_ (i := 4) (N := some 37) (v := ?_) (a' := ?_) #[false, true, false, false, true, false, false, false, false] rfl rfl (any_of HT_.out (by kernel_rfl)) (fun _ _ _ h => h) (Or.inl ⟨by rfl, ?_⟩) ?_ ?_);(rotate_left)
    ·intro w'
     (go_simp);(with_reducible rfl)
    rotate_left
    ·simp only [Act.put, List.setIfInBounds_toArray, List.set_cons_zero, List.set_cons_succ, i64_w, i32_w]
     rfl
    (refine pure_ (i := 5) (N := some 38) (v := ?_) (a' := ?_) #[false, true, false, false, true, true, false, false, false] rfl rfl (any_of HT_.out (by kernel_rfl)) (fun _ _ _ h => h) (Or.inl ⟨by rfl, ?_⟩) ?_ ?_);(rotate_left)
    ·intro w'
     (go_simp);(with_reducible rfl)
    rotate_left
    ·simp only [Act.put, List.setIfInBounds_toArray, List.set_cons_zero, List.set_cons_succ, i64_w, i32_w]
     rfl
    (refine take_ (i := 0) (N := some 33) (v := ?_) (a' := ?_) #[true, true, false, false, true, true, false, false, false] rfl rfl (take_ofW HT_.out HW_.out (by kernel_rfl)) (fun _ _ _ h => h) (Or.inl ⟨by rfl, ?_⟩) hHeld ?_ ?_);(rotate_left)
    ·rintro w' ⟨s0, s1, s2⟩
     (go_simp);(with_reducible rfl)
    rotate_left
    ·simp only [Act.put, List.setIfInBounds_toArray, List.set_cons_zero, List.set_cons_succ, i64_w, i32_w]
     rfl
    (refine take_ (i := 3) (N := some 36) (v := ?_) (a' := ?_) #[true, true, false, true, true, true, false, false, false] rfl rfl (take_ofW HT_.out HW_.out (by kernel_rfl)) (fun _ _ _ h => h) (Or.inl ⟨by rfl, ?_⟩) hHeld ?_ ?_);(rotate_left)
    ·rintro w' ⟨s0, s1, s2⟩
     (go_simp);(with_reducible rfl)
    rotate_left
    ·simp only [Act.put, List.setIfInBounds_toArray, List.set_cons_zero, List.set_cons_succ, i64_w, i32_w]
     rfl
    (refine one_ (i := 2) (N := some 35) #[true, true, true, true, true, true, false, false, false] rfl rfl (one_of HT_.out (by kernel_rfl)) (by decide) (fun K hK => ?_));(refine goes_ Try.func117 (by kernel_rfl) rfl #[.agg #[.int .i64 a0_0, .slice A0_1 l0_1.length c0_1, .slice A0_2 l0_2.length c0_2], .int .i64 x30_1] (by rfl) rfl rfl mA ?_);(with_reducible refine (interp_rise.calls a0_0 _ _ l0_1 _ _ l0_2 x30_1 t130 _ ?side1 ?side2 ?side3 ?side4 A27.out).mono ?_)
    (case side1 => exact cA (Kd.C_below HR0_1.out HB.out))
    (case side2 => exact HC0_1.out)
    (case side3 => exact cA (Kd.C_below HR0_2.out HB.out))
    (case side4 => exact HC0_2.out)
    rintro e w76 ⟨rfl, hb⟩
    (refine ⟨_, rfl, ?_⟩);(have n0_ := Aside0.mk (Kd.R_below (rA HO_4.out) hb));(have n1_ := Aside0.mk (blk_below (g := gb122) (o := .cells #[.int .i64 a0_0, .slice A0_1 l0_1.length c0_1, .slice A0_2 l0_2.length c0_2] 86 (0, 0)) (kA BK122.out) hb));(have n2_ := Aside0.mk (below_step (bG HB.out) hb));(clear HO_4);(clear BK122);(clear HB);(have HO_4 := n0_);(have BK122 := n1_);(have HB := n2_);(clear n0_ n1_ n2_)
    (try clear hb)
    (try clear hb2)
    (try clear hk)
    (try clear hi)
    (refine hK.out _ _ ⟨(blk_cell BK122.out 0).trans rfl, (blk_cell BK122.out 1).trans rfl, (blk_cell BK122.out 2).trans rfl⟩ (fun hHeld => ?_));(clear hK K);(refine norm_ (a' := ?_) ?_ ?_);(rotate_left)
    ·show Act.put _ (some 35) _ = _
     (simp only [Act.put, List.setIfInBounds_toArray, List.set_cons_zero, List.set_cons_succ, i64_w, i32_w]);(rfl)
    (refine one_ (i := 6) (N := some 39) #[true, true, true, true, true, true, true, false, false] rfl rfl (one_of HT_.out (by kernel_rfl)) (by decide) (fun K hK => ?_));(refine goes_ Try.func117 (by kernel_rfl) rfl #[.agg #[.int .i64 a0_0, .slice A0_1 l0_1.length c0_1, .slice A0_2 l0_2.length c0_2], .int .i64 ji71] (by rfl) rfl rfl (by (try simp only [List.map_toArray, List.map_cons, List.map_nil]); first | done | (simp only [hji71]; rfl) | rfl | (simp only [List.length_drop, List.length_take]; rfl)) ?_);(with_reducible refine (interp_rise.calls a0_0 _ _ l0_1 _ _ l0_2 ji71 t131 _ ?side1 ?side2 ?side3 ?side4 A28.out).mono ?_)
    (case side1 => exact cA (Kd.C_below HR0_1.out HB.out))
    (case side2 => exact HC0_1.out)
    (case side3 => exact cA (Kd.C_below HR0_2.out HB.out))
    (case side4 => exact HC0_2.out)
    rintro e w77 ⟨rfl, hb⟩
    (refine ⟨_, rfl, ?_⟩);(have n0_ := Aside0.mk (Kd.R_below (rA HO_4.out) hb));(have n1_ := Aside0.mk (blk_below (g := gb122) (o := .cells #[.int .i64 a0_0, .slice A0_1 l0_1.length c0_1, .slice A0_2 l0_2.length c0_2] 86 (0, 0)) (kA BK122.out) hb));(have n2_ := Aside0.mk (below_step (bG HB.out) hb));(clear HO_4);(clear BK122);(clear HB);(have HO_4 := n0_);(have BK122 := n1_);(have HB := n2_);(clear n0_ n1_ n2_)
    (try clear hb)
    (try clear hb2)
    (try clear hk)
    (try clear hi)
    (refine hK.out _ _ ⟨(blk_cell BK122.out 0).trans rfl, (blk_cell BK122.out 1).trans rfl, (blk_cell BK122.out 2).trans rfl⟩ (fun hHeld => ?_));(clear hK K);(refine norm_ (a' := ?_) ?_ ?_);(rotate_left)
    ·show Act.put _ (some 39) _ = _
     (simp only [Act.put, List.setIfInBounds_toArray, List.set_cons_zero, List.set_cons_succ, i64_w, i32_w]);(rfl)
    (refine pure_ (i := 7) (N := some 6) (v := ?_) (a' := ?_) #[true, true, true, true, true, true, true, true, false] rfl rfl (any_of HT_.out (by kernel_rfl)) (fun _ _ _ h => h) (Or.inl ⟨by rfl, ?_⟩) ?_ ?_);(rotate_left)
    ·intro w'
     (go_simp);(with_reducible rfl)
    rotate_left
    ·simp only [Act.put, List.setIfInBounds_toArray, List.set_cons_zero, List.set_cons_succ, i64_w, i32_w]
     rfl
    (refine pure_ (i := 8) (N := some 7) (v := ?_) (a' := ?_) #[true, true, true, true, true, true, true, true, true] rfl rfl (any_of HT_.out (by kernel_rfl)) (fun _ _ _ h => h) (Or.inl ⟨by rfl, ?_⟩) ?_ ?_);(rotate_left)
    ·intro w'
     (go_simp);(with_reducible rfl)
    rotate_left
    ·simp only [Act.put, List.setIfInBounds_toArray, List.set_cons_zero, List.set_cons_succ, i64_w, i32_w]
     rfl
    (refine done_ (done_of HT_.out (by kernel_rfl)) ?_);(have p74 : 0 ≤ ((ji71) : Int) := of_decide_eq_true asA);(have q74 : ((ji71) : Int) < ((x4_1.length : Int) : Int) := of_decide_eq_true asA);(obtain ⟨hx74_0, hf74_0⟩ := Kd.R_celln (0 : Nat) HO_4.out ((ji71) : Int) p74 q74)
    (try rw [show ((0 : Int)).toNat = 0 from rfl] at hx74_0)
    (try rw [show ((0 : Int)).toNat = 0 from rfl] at hf74_0)
    (replace p74 := eq_true p74);(replace q74 := eq_true q74);(obtain ⟨hy78_, hz78_⟩ := Kd.R_celln (0 : Nat) HO_4.out ((ji71) : Int) (of_decide_eq_true asA) (of_decide_eq_true asA));(have HP78 := Kd.R_putg HO_4.out ((ji71) : Int) (fdivV (4611686018427387904 : Nat) (faddV (fdivV (4607182418800017408 : Nat) t130) (fdivV (4607182418800017408 : Nat) t131))));(try go_wp2_with (first | ((with_reducible refine gate_store (t := 35) (p := 63) rfl ?_); refine store_event (t := 35) (p := 63) (v := ?vo_w79) (w1 := (w77.setCell ⟨go12, ((ji71) : Int).toNat, none⟩ (.float .f64 (fdivV (4611686018427387904 : Nat) (faddV (fdivV (4607182418800017408 : Nat) t130) (fdivV (4607182418800017408 : Nat) t131)))))) ?hg ?ho ?hn ?hr ?_; (case ho => rfl); (case hg => rfl); (case hn => rfl); (case hr => first | (go_simp; done) | (go_simp; rfl)); intro w79 hw; have hg : w77.grownBy w79 (some go12) := (by rw [hw]; exact HP78.2); have hp_ : Kd.R Kd.flt 35 w79 w.heap.size (fun _ => True) (.slice (some ⟨go12, 0, none⟩) x4_1.length co12) y134 := (by rw [hw, Ny134.out]; exact HP78.1); clear HP78; have n0_ := Aside0.mk (hp_); have n1_ := Aside0.mk (blk_grown (g := gb122) (o := .cells #[.int .i64 a0_0, .slice A0_1 l0_1.length c0_1, .slice A0_2 l0_2.length c0_2] 86 (0, 0)) (kA BK122.out) hg (Kd.R_ne HO_4.out BK122.out (by decide))); have n2_ := Aside0.mk ((by rw [hw]; exact below_set (HB.out) GB12.out : Below w.heap.size w w79)); clear HO_4; clear BK122; clear HB; have HO_4 := n0_; have BK122 := n1_; have HB := n2_; clear n0_ n1_ n2_; clear hg hw hp_)))
    (try simp only [← hl4_1])
    go_roundg k1
    case measure => have := HK1.out; omega
    case rel => exact ⟨(y134), (ji71), (by first | rfl | (simp; done) | (simp only [← hji71] <;> (first | rfl | simp)) | (simp [*]; done)), H', ⟨by have := HK1.out; omega⟩, ⟨by (try simp only [hl4_1]); (with_reducible repeat (first | apply Kd.R_alloc | apply Kd.R_drewN | apply Kd.R_drew)); exact HO_4.out⟩, ⟨by (try simp only [hl4_1]); (with_reducible repeat (first | refine blk_drewN ?_ _ | refine blk_drew ?_ | refine blk_alloc ?_ _)); exact BK122.out⟩, ⟨bG HB.out⟩⟩
   (rw [if_pos c29] at H);(have c29b0 : (FloatKind.f64.format.order t130 (0 : Nat) == some .gt) = true := c29)
   (try (have c29b1 : decide (FloatKind.f64.format.order t130 (0 : Nat) = some .gt) = true := by simpa using c29))
   (try (have c29b2 : (FloatKind.f64.format.order t130 (0 : Nat) == some .gt) = true := by simpa using c29))
   clear c29
   by_cases c30 : (FloatKind.f64.format.order t131 (0 : Nat) == some .gt) = true
   ·rw [if_pos c30] at H
    have c30b0 : (FloatKind.f64.format.order t131 (0 : Nat) == some .gt) = true := c30
    (try (have c30b1 : decide (FloatKind.f64.format.order t131 (0 : Nat) = some .gt) = true := by simpa using c30))
    (try (have c30b2 : (FloatKind.f64.format.order t131 (0 : Nat) == some .gt) = true := by simpa using c30))
    clear c30
    by_cases c31 : fdivK (4607182418800017408 : Nat) t130 = true
    rotate_left
    ·rw [if_neg c31] at H
     exact absurd H (by simp)
    (rw [if_pos c31] at H);(have c31b0 := eq_true c31);(have c31b1 : decide (fdivK (4607182418800017408 : Nat) t130 = true) = true := decide_eq_true c31);(clear c31)
    by_cases c32 : fdivK (4607182418800017408 : Nat) t131 = true
    rotate_left
    ·rw [if_neg c32] at H
     exact absurd H (by simp)
    (rw [if_pos c32] at H);(have c32b0 := eq_true c32);(have c32b1 : decide (fdivK (4607182418800017408 : Nat) t131 = true) = true := decide_eq_true c32);(clear c32)
    by_cases c33 : faddK (fdivV (4607182418800017408 : Nat) t130) (fdivV (4607182418800017408 : Nat) t131) = true
    rotate_left
    ·rw [if_neg c33] at H
     exact absurd H (by simp)
    (rw [if_pos c33] at H);(have c33b0 := eq_true c33);(have c33b1 : decide (faddK (fdivV (4607182418800017408 : Nat) t130) (fdivV (4607182418800017408 : Nat) t131) = true) = true := decide_eq_true c33);(clear c33)
    by_cases c34 : fdivK (4611686018427387904 : Nat) (faddV (fdivV (4607182418800017408 : Nat) t130) (fdivV (4607182418800017408 : Nat) t131)) = true
    rotate_left
    ·rw [if_neg c34] at H
     exact absurd H (by simp)
    (rw [if_pos c34] at H);(have c34b0 := eq_true c34);(have c34b1 : decide (fdivK (4611686018427387904 : Nat) (faddV (fdivV (4607182418800017408 : Nat) t130) (fdivV (4607182418800017408 : Nat) t131)) = true) = true := decide_eq_true c34);(clear c34);(obtain ⟨ji35, hji35⟩ : ∃ j_ : Int, (wrap64 (x30_1 + 1)) = j_ := ⟨_, rfl⟩);(replace H : (if 0 ≤ (ji35) then (if (ji35) < (x4_1.length : Int) then (interp_slopes.l0 k1 (x4_1.set ((ji35) : Int).toNat (fdivV (4611686018427387904 : Nat) (faddV (fdivV (4607182418800017408 : Nat) t130) (fdivV (4607182418800017408 : Nat) t131)))) (wrap64 ((l0_1.length : Int) - 2)) ji35 a0_0 l0_1 l0_2) else (none)) else (none)) = some r := by first | (rw [hji35] at H; exact H) | (simp only [hji35] at H ⊢; exact H))
    (try rw [hji35] at A27)
    (try rw [hji35] at A28)
    have hji35w : (IntKind.i64.wrap (x30_1 + 1)) = ji35 := (i64_w _).trans hji35
    by_cases c36 : 0 ≤ (ji35)
    rotate_left
    ·rw [if_neg c36] at H
     exact absurd H (by simp)
    (rw [if_pos c36] at H);(have c36b0 : decide (0 ≤ (ji35)) = true := decide_eq_true c36);(clear c36)
    by_cases c37 : (ji35) < (x4_1.length : Int)
    rotate_left
    ·rw [if_neg c37] at H
     exact absurd H (by simp)
    (rw [if_pos c37] at H);(have c37b0 : decide ((ji35) < (x4_1.length : Int)) = true := decide_eq_true c37);(clear c37);(obtain ⟨y132, hy132⟩ : ∃ y_ : List Nat, y_ = (x4_1.set ((ji35) : Int).toNat (fdivV (4611686018427387904 : Nat) (faddV (fdivV (4607182418800017408 : Nat) t130) (fdivV (4607182418800017408 : Nat) t131)))) := ⟨_, rfl⟩);(replace H : (interp_slopes.l0 k1 y132 (wrap64 ((l0_1.length : Int) - 2)) ji35 a0_0 l0_1 l0_2) = some r := by first | (rw [hy132]; with_reducible exact H) | (have H2_ := (Option.bind_some _ _).symm.trans H; rw [hy132]; with_reducible exact H2_) | (have H2_ := (Option.bind_some _ _).symm.trans H; with_reducible exact H2_) | with_reducible exact H | (rw [hy132]; exact H) | exact H);(have Ny132 := Aside0.mk hy132);(clear hy132);(have H' := Aside0.mk H);(clear H);(try go_wp2);(have n0_ := Aside0.mk (Kd.R_drew HO_4.out));(have n1_ := Aside0.mk (blk_drew BK122.out));(have n2_ := Aside0.mk (below_drew1 HB.out));(clear HO_4);(clear BK122);(clear HB);(have HO_4 := n0_);(have BK122 := n1_);(have HB := n2_);(clear n0_ n1_ n2_);(refine start_ (n := 9) (S := fun w' => w'.cell? ⟨gb122, 0, none⟩ = some (.int .i64 a0_0) ∧ w'.cell? ⟨gb122, 1, none⟩ = some (.slice A0_1 l0_1.length c0_1) ∧ w'.cell? ⟨gb122, 2, none⟩ = some (.slice A0_2 l0_2.length c0_2)) (ds := []) #[false, false, false, false, false, false, false, false, false] (by kernel_rfl) rfl rfl ⟨(blk_cell BK122.out 0).trans rfl, (blk_cell BK122.out 1).trans rfl, (blk_cell BK122.out 2).trans rfl⟩ (fun hHeld => ?_); refine with_tabW interp_slopes.tab9 interp_slopes.bits9 (fun HT_ HW_ => ?_));(generalize wr.drew = w39 at HO_4 BK122 HB hHeld ⊢);(refine pure_ (i := 1) (N := some 34) (v := ?_) (a' := ?_) #[false, true, false, false, false, false, false, false, false] rfl rfl (any_of HT_.out (by kernel_rfl)) (fun _ _ _ h => h) (Or.inl ⟨by rfl, ?_⟩) ?_ ?_);(rotate_left)
    ·intro w'
     (go_simp);(with_reducible rfl)
    rotate_left
    ·simp only [Act.put, List.setIfInBounds_toArray, List.set_cons_zero, List.set_cons_succ, i64_w, i32_w]
     rfl
    (refine pure_ (i := 4) (N := some 37) (v := ?_) (a' := ?_) #[false, true, false, false, true, false, false, false, false] rfl rfl (any_of HT_.out (by kernel_rfl)) (fun _ _ _ h => h) (Or.inl ⟨by rfl, ?_⟩) ?_ ?_);(rotate_left)
    ·intro w'
     (go_simp);(with_reducible rfl)
    rotate_left
    ·simp only [Act.put, List.setIfInBounds_toArray, List.set_cons_zero, List.set_cons_succ, i64_w, i32_w]
     rfl
    (refine pure_ (i := 5) (N := some 38) (v := ?_) (a' := ?_) #[false, true, false, false, true, true, false, false, false] rfl rfl (any_of HT_.out (by kernel_rfl)) (fun _ _ _ h => h) (Or.inl ⟨by rfl, ?_⟩) ?_ ?_);(rotate_left)
    ·intro w'
     (go_simp);(with_reducible rfl)
    rotate_left
    ·simp only [Act.put, List.setIfInBounds_toArray, List.set_cons_zero, List.set_cons_succ, i64_w, i32_w]
     rfl
    (refine take_ (i := 0) (N := some 33) (v := ?_) (a' := ?_) #[true, true, false, false, true, true, false, false, false] rfl rfl (take_ofW HT_.out HW_.out (by kernel_rfl)) (fun _ _ _ h => h) (Or.inl ⟨by rfl, ?_⟩) hHeld ?_ ?_);(rotate_left)
    ·rintro w' ⟨s0, s1, s2⟩
     (go_simp);(with_reducible rfl)
    rotate_left
    ·simp only [Act.put, List.setIfInBounds_toArray, List.set_cons_zero, List.set_cons_succ, i64_w, i32_w]
     rfl
    (refine take_ (i := 3) (N := some 36) (v := ?_) (a' := ?_) #[true, true, false, true, true, true, false, false, false] rfl rfl (take_ofW HT_.out HW_.out (by kernel_rfl)) (fun _ _ _ h => h) (Or.inl ⟨by rfl, ?_⟩) hHeld ?_ ?_);(rotate_left)
    ·rintro w' ⟨s0, s1, s2⟩
     (go_simp);(with_reducible rfl)
    rotate_left
    ·simp only [Act.put, List.setIfInBounds_toArray, List.set_cons_zero, List.set_cons_succ, i64_w, i32_w]
     rfl
    (refine one_ (i := 2) (N := some 35) #[true, true, true, true, true, true, false, false, false] rfl rfl (one_of HT_.out (by kernel_rfl)) (by decide) (fun K hK => ?_));(refine goes_ Try.func117 (by kernel_rfl) rfl #[.agg #[.int .i64 a0_0, .slice A0_1 l0_1.length c0_1, .slice A0_2 l0_2.length c0_2], .int .i64 x30_1] (by rfl) rfl rfl mA ?_);(with_reducible refine (interp_rise.calls a0_0 _ _ l0_1 _ _ l0_2 x30_1 t130 _ ?side1 ?side2 ?side3 ?side4 A27.out).mono ?_)
    (case side1 => exact cA (Kd.C_below HR0_1.out HB.out))
    (case side2 => exact HC0_1.out)
    (case side3 => exact cA (Kd.C_below HR0_2.out HB.out))
    (case side4 => exact HC0_2.out)
    rintro e w40 ⟨rfl, hb⟩
    (refine ⟨_, rfl, ?_⟩);(have n0_ := Aside0.mk (Kd.R_below (rA HO_4.out) hb));(have n1_ := Aside0.mk (blk_below (g := gb122) (o := .cells #[.int .i64 a0_0, .slice A0_1 l0_1.length c0_1, .slice A0_2 l0_2.length c0_2] 86 (0, 0)) (kA BK122.out) hb));(have n2_ := Aside0.mk (below_step (bG HB.out) hb));(clear HO_4);(clear BK122);(clear HB);(have HO_4 := n0_);(have BK122 := n1_);(have HB := n2_);(clear n0_ n1_ n2_)
    (try clear hb)
    (try clear hb2)
    (try clear hk)
    (try clear hi)
    (refine hK.out _ _ ⟨(blk_cell BK122.out 0).trans rfl, (blk_cell BK122.out 1).trans rfl, (blk_cell BK122.out 2).trans rfl⟩ (fun hHeld => ?_));(clear hK K);(refine norm_ (a' := ?_) ?_ ?_);(rotate_left)
    ·show Act.put _ (some 35) _ = _
     (simp only [Act.put, List.setIfInBounds_toArray, List.set_cons_zero, List.set_cons_succ, i64_w, i32_w]);(rfl)
    (refine one_ (i := 6) (N := some 39) #[true, true, true, true, true, true, true, false, false] rfl rfl (one_of HT_.out (by kernel_rfl)) (by decide) (fun K hK => ?_));(refine goes_ Try.func117 (by kernel_rfl) rfl #[.agg #[.int .i64 a0_0, .slice A0_1 l0_1.length c0_1, .slice A0_2 l0_2.length c0_2], .int .i64 ji35] (by rfl) rfl rfl (by (try simp only [List.map_toArray, List.map_cons, List.map_nil]); first | done | (simp only [hji35]; rfl) | rfl | (simp only [List.length_drop, List.length_take]; rfl)) ?_);(with_reducible refine (interp_rise.calls a0_0 _ _ l0_1 _ _ l0_2 ji35 t131 _ ?side1 ?side2 ?side3 ?side4 A28.out).mono ?_)
    (case side1 => exact cA (Kd.C_below HR0_1.out HB.out))
    (case side2 => exact HC0_1.out)
    (case side3 => exact cA (Kd.C_below HR0_2.out HB.out))
    (case side4 => exact HC0_2.out)
    rintro e w41 ⟨rfl, hb⟩
    (refine ⟨_, rfl, ?_⟩);(have n0_ := Aside0.mk (Kd.R_below (rA HO_4.out) hb));(have n1_ := Aside0.mk (blk_below (g := gb122) (o := .cells #[.int .i64 a0_0, .slice A0_1 l0_1.length c0_1, .slice A0_2 l0_2.length c0_2] 86 (0, 0)) (kA BK122.out) hb));(have n2_ := Aside0.mk (below_step (bG HB.out) hb));(clear HO_4);(clear BK122);(clear HB);(have HO_4 := n0_);(have BK122 := n1_);(have HB := n2_);(clear n0_ n1_ n2_)
    (try clear hb)
    (try clear hb2)
    (try clear hk)
    (try clear hi)
    (refine hK.out _ _ ⟨(blk_cell BK122.out 0).trans rfl, (blk_cell BK122.out 1).trans rfl, (blk_cell BK122.out 2).trans rfl⟩ (fun hHeld => ?_));(clear hK K);(refine norm_ (a' := ?_) ?_ ?_);(rotate_left)
    ·show Act.put _ (some 39) _ = _
     (simp only [Act.put, List.setIfInBounds_toArray, List.set_cons_zero, List.set_cons_succ, i64_w, i32_w]);(rfl)
    (refine pure_ (i := 7) (N := some 6) (v := ?_) (a' := ?_) #[true, true, true, true, true, true, true, true, false] rfl rfl (any_of HT_.out (by kernel_rfl)) (fun _ _ _ h => h) (Or.inl ⟨by rfl, ?_⟩) ?_ ?_);(rotate_left)
    ·intro w'
     (go_simp);(with_reducible rfl)
    rotate_left
    ·simp only [Act.put, List.setIfInBounds_toArray, List.set_cons_zero, List.set_cons_succ, i64_w, i32_w]
     rfl
    (refine pure_ (i := 8) (N := some 7) (v := ?_) (a' := ?_) #[true, true, true, true, true, true, true, true, true] rfl rfl (any_of HT_.out (by kernel_rfl)) (fun _ _ _ h => h) (Or.inl ⟨by rfl, ?_⟩) ?_ ?_);(rotate_left)
    ·intro w'
     (go_simp);(with_reducible rfl)
    rotate_left
    ·simp only [Act.put, List.setIfInBounds_toArray, List.set_cons_zero, List.set_cons_succ, i64_w, i32_w]
     rfl
    (refine done_ (done_of HT_.out (by kernel_rfl)) ?_);(have p38 : 0 ≤ ((ji35) : Int) := of_decide_eq_true asA);(have q38 : ((ji35) : Int) < ((x4_1.length : Int) : Int) := of_decide_eq_true asA);(obtain ⟨hx38_0, hf38_0⟩ := Kd.R_celln (0 : Nat) HO_4.out ((ji35) : Int) p38 q38)
    (try rw [show ((0 : Int)).toNat = 0 from rfl] at hx38_0)
    (try rw [show ((0 : Int)).toNat = 0 from rfl] at hf38_0)
    (replace p38 := eq_true p38);(replace q38 := eq_true q38);(obtain ⟨hy42_, hz42_⟩ := Kd.R_celln (0 : Nat) HO_4.out ((ji35) : Int) (of_decide_eq_true asA) (of_decide_eq_true asA));(have HP42 := Kd.R_putg HO_4.out ((ji35) : Int) (fdivV (4611686018427387904 : Nat) (faddV (fdivV (4607182418800017408 : Nat) t130) (fdivV (4607182418800017408 : Nat) t131))));(try go_wp2_with (first | ((with_reducible refine gate_store (t := 35) (p := 63) rfl ?_); refine store_event (t := 35) (p := 63) (v := ?vo_w43) (w1 := (w41.setCell ⟨go12, ((ji35) : Int).toNat, none⟩ (.float .f64 (fdivV (4611686018427387904 : Nat) (faddV (fdivV (4607182418800017408 : Nat) t130) (fdivV (4607182418800017408 : Nat) t131)))))) ?hg ?ho ?hn ?hr ?_; (case ho => rfl); (case hg => rfl); (case hn => rfl); (case hr => first | (go_simp; done) | (go_simp; rfl)); intro w43 hw; have hg : w41.grownBy w43 (some go12) := (by rw [hw]; exact HP42.2); have hp_ : Kd.R Kd.flt 35 w43 w.heap.size (fun _ => True) (.slice (some ⟨go12, 0, none⟩) x4_1.length co12) y132 := (by rw [hw, Ny132.out]; exact HP42.1); clear HP42; have n0_ := Aside0.mk (hp_); have n1_ := Aside0.mk (blk_grown (g := gb122) (o := .cells #[.int .i64 a0_0, .slice A0_1 l0_1.length c0_1, .slice A0_2 l0_2.length c0_2] 86 (0, 0)) (kA BK122.out) hg (Kd.R_ne HO_4.out BK122.out (by decide))); have n2_ := Aside0.mk ((by rw [hw]; exact below_set (HB.out) GB12.out : Below w.heap.size w w43)); clear HO_4; clear BK122; clear HB; have HO_4 := n0_; have BK122 := n1_; have HB := n2_; clear n0_ n1_ n2_; clear hg hw hp_)))
    (try simp only [← hl4_1])
    go_roundg k1
    case measure => have := HK1.out; omega
    case rel => exact ⟨(y132), (ji35), (by first | rfl | (simp; done) | (simp only [← hji35] <;> (first | rfl | simp)) | (simp [*]; done)), H', ⟨by have := HK1.out; omega⟩, ⟨by (try simp only [hl4_1]); (with_reducible repeat (first | apply Kd.R_alloc | apply Kd.R_drewN | apply Kd.R_drew)); exact HO_4.out⟩, ⟨by (try simp only [hl4_1]); (with_reducible repeat (first | refine blk_drewN ?_ _ | refine blk_drew ?_ | refine blk_alloc ?_ _)); exact BK122.out⟩, ⟨bG HB.out⟩⟩
   (rw [if_neg c30] at H);(have c30b0 : (FloatKind.f64.format.order t131 (0 : Nat) == some .gt) = false := by simpa using c30)
   (try (have c30b1 : decide (FloatKind.f64.format.order t131 (0 : Nat) = some .gt) = false := by simpa using c30))
   (try (have c30b2 : (FloatKind.f64.format.order t131 (0 : Nat) == some .gt) = false := by simpa using c30))
   (try (have c30b3 : ¬ (FloatKind.f64.format.order t131 (0 : Nat) = some .gt) := by simpa using c30))
   clear c30
   by_cases c44 : (FloatKind.f64.format.order t130 (0 : Nat) == some .lt) = true
   rotate_left
   ·rw [if_neg c44] at H
    have c44b0 : (FloatKind.f64.format.order t130 (0 : Nat) == some .lt) = false := by simpa using c44
    (try (have c44b1 : decide (FloatKind.f64.format.order t130 (0 : Nat) = some .lt) = false := by simpa using c44))
    (try (have c44b2 : (FloatKind.f64.format.order t130 (0 : Nat) == some .lt) = false := by simpa using c44))
    (try (have c44b3 : ¬ (FloatKind.f64.format.order t130 (0 : Nat) = some .lt) := by simpa using c44))
    (clear c44);(have H' := Aside0.mk H);(clear H);(try go_wp2);(have n0_ := Aside0.mk (Kd.R_drew HO_4.out));(have n1_ := Aside0.mk (blk_drew BK122.out));(have n2_ := Aside0.mk (below_drew1 HB.out));(clear HO_4);(clear BK122);(clear HB);(have HO_4 := n0_);(have BK122 := n1_);(have HB := n2_);(clear n0_ n1_ n2_);(refine start_ (n := 9) (S := fun w' => w'.cell? ⟨gb122, 0, none⟩ = some (.int .i64 a0_0) ∧ w'.cell? ⟨gb122, 1, none⟩ = some (.slice A0_1 l0_1.length c0_1) ∧ w'.cell? ⟨gb122, 2, none⟩ = some (.slice A0_2 l0_2.length c0_2)) (ds := []) #[false, false, false, false, false, false, false, false, false] (by kernel_rfl) rfl rfl ⟨(blk_cell BK122.out 0).trans rfl, (blk_cell BK122.out 1).trans rfl, (blk_cell BK122.out 2).trans rfl⟩ (fun hHeld => ?_); refine with_tabW interp_slopes.tab9 interp_slopes.bits9 (fun HT_ HW_ => ?_));(generalize wr.drew = w62 at HO_4 BK122 HB hHeld ⊢);(refine pure_ (i := 1) (N := some 34) (v := ?_) (a' := ?_) #[false, true, false, false, false, false, false, false, false] rfl rfl (any_of HT_.out (by kernel_rfl)) (fun _ _ _ h => h) (Or.inl ⟨by rfl, ?_⟩) ?_ ?_);(rotate_left)
    ·intro w'
     (go_simp);(with_reducible rfl)
    rotate_left
    ·simp only [Act.put, List.setIfInBounds_toArray, List.set_cons_zero, List.set_cons_succ, i64_w, i32_w]
     rfl
    (refine pure_ (i := 4) (N := some 37) (v := ?_) (a' := ?_) #[false, true, false, false, true, false, false, false, false] rfl rfl (any_of HT_.out (by kernel_rfl)) (fun _ _ _ h => h) (Or.inl ⟨by rfl, ?_⟩) ?_ ?_);(rotate_left)
    ·intro w'
     (go_simp);(with_reducible rfl)
    rotate_left
    ·simp only [Act.put, List.setIfInBounds_toArray, List.set_cons_zero, List.set_cons_succ, i64_w, i32_w]
     rfl
    (refine pure_ (i := 5) (N := some 38) (v := ?_) (a' := ?_) #[false, true, false, false, true, true, false, false, false] rfl rfl (any_of HT_.out (by kernel_rfl)) (fun _ _ _ h => h) (Or.inl ⟨by rfl, ?_⟩) ?_ ?_);(rotate_left)
    ·intro w'
     (go_simp);(with_reducible rfl)
    rotate_left
    ·simp only [Act.put, List.setIfInBounds_toArray, List.set_cons_zero, List.set_cons_succ, i64_w, i32_w]
     rfl
    (refine take_ (i := 0) (N := some 33) (v := ?_) (a' := ?_) #[true, true, false, false, true, true, false, false, false] rfl rfl (take_ofW HT_.out HW_.out (by kernel_rfl)) (fun _ _ _ h => h) (Or.inl ⟨by rfl, ?_⟩) hHeld ?_ ?_);(rotate_left)
    ·rintro w' ⟨s0, s1, s2⟩
     (go_simp);(with_reducible rfl)
    rotate_left
    ·simp only [Act.put, List.setIfInBounds_toArray, List.set_cons_zero, List.set_cons_succ, i64_w, i32_w]
     rfl
    (refine take_ (i := 3) (N := some 36) (v := ?_) (a' := ?_) #[true, true, false, true, true, true, false, false, false] rfl rfl (take_ofW HT_.out HW_.out (by kernel_rfl)) (fun _ _ _ h => h) (Or.inl ⟨by rfl, ?_⟩) hHeld ?_ ?_);(rotate_left)
    ·rintro w' ⟨s0, s1, s2⟩
     (go_simp);(with_reducible rfl)
    rotate_left
    ·simp only [Act.put, List.setIfInBounds_toArray, List.set_cons_zero, List.set_cons_succ, i64_w, i32_w]
     rfl
    (refine one_ (i := 2) (N := some 35) #[true, true, true, true, true, true, false, false, false] rfl rfl (one_of HT_.out (by kernel_rfl)) (by decide) (fun K hK => ?_));(refine goes_ Try.func117 (by kernel_rfl) rfl #[.agg #[.int .i64 a0_0, .slice A0_1 l0_1.length c0_1, .slice A0_2 l0_2.length c0_2], .int .i64 x30_1] (by rfl) rfl rfl mA ?_);(with_reducible refine (interp_rise.calls a0_0 _ _ l0_1 _ _ l0_2 x30_1 t130 _ ?side1 ?side2 ?side3 ?side4 A27.out).mono ?_)
    (case side1 => exact cA (Kd.C_below HR0_1.out HB.out))
    (case side2 => exact HC0_1.out)
    (case side3 => exact cA (Kd.C_below HR0_2.out HB.out))
    (case side4 => exact HC0_2.out)
    rintro e w63 ⟨rfl, hb⟩
    (refine ⟨_, rfl, ?_⟩);(have n0_ := Aside0.mk (Kd.R_below (rA HO_4.out) hb));(have n1_ := Aside0.mk (blk_below (g := gb122) (o := .cells #[.int .i64 a0_0, .slice A0_1 l0_1.length c0_1, .slice A0_2 l0_2.length c0_2] 86 (0, 0)) (kA BK122.out) hb));(have n2_ := Aside0.mk (below_step (bG HB.out) hb));(clear HO_4);(clear BK122);(clear HB);(have HO_4 := n0_);(have BK122 := n1_);(have HB := n2_);(clear n0_ n1_ n2_)
    (try clear hb)
    (try clear hb2)
    (try clear hk)
    (try clear hi)
    (refine hK.out _ _ ⟨(blk_cell BK122.out 0).trans rfl, (blk_cell BK122.out 1).trans rfl, (blk_cell BK122.out 2).trans rfl⟩ (fun hHeld => ?_));(clear hK K);(refine norm_ (a' := ?_) ?_ ?_);(rotate_left)
    ·show Act.put _ (some 35) _ = _
     (simp only [Act.put, List.setIfInBounds_toArray, List.set_cons_zero, List.set_cons_succ, i64_w, i32_w]);(rfl)
    (refine one_ (i := 6) (N := some 39) #[true, true, true, true, true, true, true, false, false] rfl rfl (one_of HT_.out (by kernel_rfl)) (by decide) (fun K hK => ?_));(refine goes_ Try.func117 (by kernel_rfl) rfl #[.agg #[.int .i64 a0_0, .slice A0_1 l0_1.length c0_1, .slice A0_2 l0_2.length c0_2], .int .i64 (wrap64 (x30_1 + 1))] (by rfl) rfl rfl mA ?_);(with_reducible refine (interp_rise.calls a0_0 _ _ l0_1 _ _ l0_2 (wrap64 (x30_1 + 1)) t131 _ ?side1 ?side2 ?side3 ?side4 A28.out).mono ?_)
    (case side1 => exact cA (Kd.C_below HR0_1.out HB.out))
    (case side2 => exact HC0_1.out)
    (case side3 => exact cA (Kd.C_below HR0_2.out HB.out))
    (case side4 => exact HC0_2.out)
    rintro e w64 ⟨rfl, hb⟩
    (refine ⟨_, rfl, ?_⟩);(have n0_ := Aside0.mk (Kd.R_below (rA HO_4.out) hb));(have n1_ := Aside0.mk (blk_below (g := gb122) (o := .cells #[.int .i64 a0_0, .slice A0_1 l0_1.length c0_1, .slice A0_2 l0_2.length c0_2] 86 (0, 0)) (kA BK122.out) hb));(have n2_ := Aside0.mk (below_step (bG HB.out) hb));(clear HO_4);(clear BK122);(clear HB);(have HO_4 := n0_);(have BK122 := n1_);(have HB := n2_);(clear n0_ n1_ n2_)
    (try clear hb)
    (try clear hb2)
    (try clear hk)
    (try clear hi)
    (refine hK.out _ _ ⟨(blk_cell BK122.out 0).trans rfl, (blk_cell BK122.out 1).trans rfl, (blk_cell BK122.out 2).trans rfl⟩ (fun hHeld => ?_));(clear hK K);(refine norm_ (a' := ?_) ?_ ?_);(rotate_left)
    ·show Act.put _ (some 39) _ = _
     (simp only [Act.put, List.setIfInBounds_toArray, List.set_cons_zero, List.set_cons_succ, i64_w, i32_w]);(rfl)
    (refine pure_ (i := 7) (N := some 6) (v := ?_) (a' := ?_) #[true, true, true, true, true, true, true, true, false] rfl rfl (any_of HT_.out (by kernel_rfl)) (fun _ _ _ h => h) (Or.inl ⟨by rfl, ?_⟩) ?_ ?_);(rotate_left)
    ·intro w'
     (go_simp);(with_reducible rfl)
    rotate_left
    ·simp only [Act.put, List.setIfInBounds_toArray, List.set_cons_zero, List.set_cons_succ, i64_w, i32_w]
     rfl
    (refine pure_ (i := 8) (N := some 7) (v := ?_) (a' := ?_) #[true, true, true, true, true, true, true, true, true] rfl rfl (any_of HT_.out (by kernel_rfl)) (fun _ _ _ h => h) (Or.inl ⟨by rfl, ?_⟩) ?_ ?_);(rotate_left)
    ·intro w'
     (go_simp);(with_reducible rfl)
    rotate_left
    ·simp only [Act.put, List.setIfInBounds_toArray, List.set_cons_zero, List.set_cons_succ, i64_w, i32_w]
     rfl
    (refine done_ (done_of HT_.out (by kernel_rfl)) ?_);(try go_wp2)
    (try simp only [← hl4_1])
    go_roundg k1
    case measure => have := HK1.out; omega
    case rel => exact ⟨(x4_1), (wrap64 (x30_1 + 1)), (by first | rfl | (simp; done) | (simp [*]; done)), H', ⟨by have := HK1.out; omega⟩, ⟨by (try simp only [hl4_1]); (with_reducible repeat (first | apply Kd.R_alloc | apply Kd.R_drewN | apply Kd.R_drew)); exact HO_4.out⟩, ⟨by (try simp only [hl4_1]); (with_reducible repeat (first | refine blk_drewN ?_ _ | refine blk_drew ?_ | refine blk_alloc ?_ _)); exact BK122.out⟩, ⟨bG HB.out⟩⟩
   (rw [if_pos c44] at H);(have c44b0 : (FloatKind.f64.format.order t130 (0 : Nat) == some .lt) = true := c44)
   (try (have c44b1 : decide (FloatKind.f64.format.order t130 (0 : Nat) = some .lt) = true := by simpa using c44))
   (try (have c44b2 : (FloatKind.f64.format.order t130 (0 : Nat) == some .lt) = true := by simpa using c44))
   clear c44
   by_cases c45 : (FloatKind.f64.format.order t131 (0 : Nat) == some .lt) = true
   rotate_left
   ·rw [if_neg c45] at H
    have c45b0 : (FloatKind.f64.format.order t131 (0 : Nat) == some .lt) = false := by simpa using c45
    (try (have c45b1 : decide (FloatKind.f64.format.order t131 (0 : Nat) = some .lt) = false := by simpa using c45))
    (try (have c45b2 : (FloatKind.f64.format.order t131 (0 : Nat) == some .lt) = false := by simpa using c45))
    (try (have c45b3 : ¬ (FloatKind.f64.format.order t131 (0 : Nat) = some .lt) := by simpa using c45))
    (clear c45);(have H' := Aside0.mk H);(clear H);(try go_wp2);(have n0_ := Aside0.mk (Kd.R_drew HO_4.out));(have n1_ := Aside0.mk (blk_drew BK122.out));(have n2_ := Aside0.mk (below_drew1 HB.out));(clear HO_4);(clear BK122);(clear HB);(have HO_4 := n0_);(have BK122 := n1_);(have HB := n2_);(clear n0_ n1_ n2_);(refine start_ (n := 9) (S := fun w' => w'.cell? ⟨gb122, 0, none⟩ = some (.int .i64 a0_0) ∧ w'.cell? ⟨gb122, 1, none⟩ = some (.slice A0_1 l0_1.length c0_1) ∧ w'.cell? ⟨gb122, 2, none⟩ = some (.slice A0_2 l0_2.length c0_2)) (ds := []) #[false, false, false, false, false, false, false, false, false] (by kernel_rfl) rfl rfl ⟨(blk_cell BK122.out 0).trans rfl, (blk_cell BK122.out 1).trans rfl, (blk_cell BK122.out 2).trans rfl⟩ (fun hHeld => ?_); refine with_tabW interp_slopes.tab9 interp_slopes.bits9 (fun HT_ HW_ => ?_));(generalize wr.drew = w59 at HO_4 BK122 HB hHeld ⊢);(refine pure_ (i := 1) (N := some 34) (v := ?_) (a' := ?_) #[false, true, false, false, false, false, false, false, false] rfl rfl (any_of HT_.out (by kernel_rfl)) (fun _ _ _ h => h) (Or.inl ⟨by rfl, ?_⟩) ?_ ?_);(rotate_left)
    ·intro w'
     (go_simp);(with_reducible rfl)
    rotate_left
    ·simp only [Act.put, List.setIfInBounds_toArray, List.set_cons_zero, List.set_cons_succ, i64_w, i32_w]
     rfl
    (refine pure_ (i := 4) (N := some 37) (v := ?_) (a' := ?_) #[false, true, false, false, true, false, false, false, false] rfl rfl (any_of HT_.out (by kernel_rfl)) (fun _ _ _ h => h) (Or.inl ⟨by rfl, ?_⟩) ?_ ?_);(rotate_left)
    ·intro w'
     (go_simp);(with_reducible rfl)
    rotate_left
    ·simp only [Act.put, List.setIfInBounds_toArray, List.set_cons_zero, List.set_cons_succ, i64_w, i32_w]
     rfl
    (refine pure_ (i := 5) (N := some 38) (v := ?_) (a' := ?_) #[false, true, false, false, true, true, false, false, false] rfl rfl (any_of HT_.out (by kernel_rfl)) (fun _ _ _ h => h) (Or.inl ⟨by rfl, ?_⟩) ?_ ?_);(rotate_left)
    ·intro w'
     (go_simp);(with_reducible rfl)
    rotate_left
    ·simp only [Act.put, List.setIfInBounds_toArray, List.set_cons_zero, List.set_cons_succ, i64_w, i32_w]
     rfl
    (refine take_ (i := 0) (N := some 33) (v := ?_) (a' := ?_) #[true, true, false, false, true, true, false, false, false] rfl rfl (take_ofW HT_.out HW_.out (by kernel_rfl)) (fun _ _ _ h => h) (Or.inl ⟨by rfl, ?_⟩) hHeld ?_ ?_);(rotate_left)
    ·rintro w' ⟨s0, s1, s2⟩
     (go_simp);(with_reducible rfl)
    rotate_left
    ·simp only [Act.put, List.setIfInBounds_toArray, List.set_cons_zero, List.set_cons_succ, i64_w, i32_w]
     rfl
    (refine take_ (i := 3) (N := some 36) (v := ?_) (a' := ?_) #[true, true, false, true, true, true, false, false, false] rfl rfl (take_ofW HT_.out HW_.out (by kernel_rfl)) (fun _ _ _ h => h) (Or.inl ⟨by rfl, ?_⟩) hHeld ?_ ?_);(rotate_left)
    ·rintro w' ⟨s0, s1, s2⟩
     (go_simp);(with_reducible rfl)
    rotate_left
    ·simp only [Act.put, List.setIfInBounds_toArray, List.set_cons_zero, List.set_cons_succ, i64_w, i32_w]
     rfl
    (refine one_ (i := 2) (N := some 35) #[true, true, true, true, true, true, false, false, false] rfl rfl (one_of HT_.out (by kernel_rfl)) (by decide) (fun K hK => ?_));(refine goes_ Try.func117 (by kernel_rfl) rfl #[.agg #[.int .i64 a0_0, .slice A0_1 l0_1.length c0_1, .slice A0_2 l0_2.length c0_2], .int .i64 x30_1] (by rfl) rfl rfl mA ?_);(with_reducible refine (interp_rise.calls a0_0 _ _ l0_1 _ _ l0_2 x30_1 t130 _ ?side1 ?side2 ?side3 ?side4 A27.out).mono ?_)
    (case side1 => exact cA (Kd.C_below HR0_1.out HB.out))
    (case side2 => exact HC0_1.out)
    (case side3 => exact cA (Kd.C_below HR0_2.out HB.out))
    (case side4 => exact HC0_2.out)
    rintro e w60 ⟨rfl, hb⟩
    (refine ⟨_, rfl, ?_⟩);(have n0_ := Aside0.mk (Kd.R_below (rA HO_4.out) hb));(have n1_ := Aside0.mk (blk_below (g := gb122) (o := .cells #[.int .i64 a0_0, .slice A0_1 l0_1.length c0_1, .slice A0_2 l0_2.length c0_2] 86 (0, 0)) (kA BK122.out) hb));(have n2_ := Aside0.mk (below_step (bG HB.out) hb));(clear HO_4);(clear BK122);(clear HB);(have HO_4 := n0_);(have BK122 := n1_);(have HB := n2_);(clear n0_ n1_ n2_)
    (try clear hb)
    (try clear hb2)
    (try clear hk)
    (try clear hi)
    (refine hK.out _ _ ⟨(blk_cell BK122.out 0).trans rfl, (blk_cell BK122.out 1).trans rfl, (blk_cell BK122.out 2).trans rfl⟩ (fun hHeld => ?_));(clear hK K);(refine norm_ (a' := ?_) ?_ ?_);(rotate_left)
    ·show Act.put _ (some 35) _ = _
     (simp only [Act.put, List.setIfInBounds_toArray, List.set_cons_zero, List.set_cons_succ, i64_w, i32_w]);(rfl)
    (refine one_ (i := 6) (N := some 39) #[true, true, true, true, true, true, true, false, false] rfl rfl (one_of HT_.out (by kernel_rfl)) (by decide) (fun K hK => ?_));(refine goes_ Try.func117 (by kernel_rfl) rfl #[.agg #[.int .i64 a0_0, .slice A0_1 l0_1.length c0_1, .slice A0_2 l0_2.length c0_2], .int .i64 (wrap64 (x30_1 + 1))] (by rfl) rfl rfl mA ?_);(with_reducible refine (interp_rise.calls a0_0 _ _ l0_1 _ _ l0_2 (wrap64 (x30_1 + 1)) t131 _ ?side1 ?side2 ?side3 ?side4 A28.out).mono ?_)
    (case side1 => exact cA (Kd.C_below HR0_1.out HB.out))
    (case side2 => exact HC0_1.out)
    (case side3 => exact cA (Kd.C_below HR0_2.out HB.out))
    (case side4 => exact HC0_2.out)
    rintro e w61 ⟨rfl, hb⟩
    (refine ⟨_, rfl, ?_⟩);(have n0_ := Aside0.mk (Kd.R_below (rA HO_4.out) hb));(have n1_ := Aside0.mk (blk_below (g := gb122) (o := .cells #[.int .i64 a0_0, .slice A0_1 l0_1.length c0_1, .slice A0_2 l0_2.length c0_2] 86 (0, 0)) (kA BK122.out) hb));(have n2_ := Aside0.mk (below_step (bG HB.out) hb));(clear HO_4);(clear BK122);(clear HB);(have HO_4 := n0_);(have BK122 := n1_);(have HB := n2_);(clear n0_ n1_ n2_)
    (try clear hb)
    (try clear hb2)
    (try clear hk)
    (try clear hi)
    (refine hK.out _ _ ⟨(blk_cell BK122.out 0).trans rfl, (blk_cell BK122.out 1).trans rfl, (blk_cell BK122.out 2).trans rfl⟩ (fun hHeld => ?_));(clear hK K);(refine norm_ (a' := ?_) ?_ ?_);(rotate_left)
    ·show Act.put _ (some 39) _ = _
     (simp only [Act.put, List.setIfInBounds_toArray, List.set_cons_zero, List.set_cons_succ, i64_w, i32_w]);(rfl)
    (refine pure_ (i := 7) (N := some 6) (v := ?_) (a' := ?_) #[true, true, true, true, true, true, true, true, false] rfl rfl (any_of HT_.out (by kernel_rfl)) (fun _ _ _ h => h) (Or.inl ⟨by rfl, ?_⟩) ?_ ?_);(rotate_left)
    ·intro w'
     (go_simp);(with_reducible rfl)
    rotate_left
    ·simp only [Act.put, List.setIfInBounds_toArray, List.set_cons_zero, List.set_cons_succ, i64_w, i32_w]
     rfl
    (refine pure_ (i := 8) (N := some 7) (v := ?_) (a' := ?_) #[true, true, true, true, true, true, true, true, true] rfl rfl (any_of HT_.out (by kernel_rfl)) (fun _ _ _ h => h) (Or.inl ⟨by rfl, ?_⟩) ?_ ?_);(rotate_left)
    ·intro w'
     (go_simp);(with_reducible rfl)
    rotate_left
    ·simp only [Act.put, List.setIfInBounds_toArray, List.set_cons_zero, List.set_cons_succ, i64_w, i32_w]
     rfl
    (refine done_ (done_of HT_.out (by kernel_rfl)) ?_);(try go_wp2)
    (try simp only [← hl4_1])
    go_roundg k1
    case measure => have := HK1.out; omega
    case rel => exact ⟨(x4_1), (wrap64 (x30_1 + 1)), (by first | rfl | (simp; done) | (simp [*]; done)), H', ⟨by have := HK1.out; omega⟩, ⟨by (try simp only [hl4_1]); (with_reducible repeat (first | apply Kd.R_alloc | apply Kd.R_drewN | apply Kd.R_drew)); exact HO_4.out⟩, ⟨by (try simp only [hl4_1]); (with_reducible repeat (first | refine blk_drewN ?_ _ | refine blk_drew ?_ | refine blk_alloc ?_ _)); exact BK122.out⟩, ⟨bG HB.out⟩⟩
   (rw [if_pos c45] at H);(have c45b0 : (FloatKind.f64.format.order t131 (0 : Nat) == some .lt) = true := c45)
   (try (have c45b1 : decide (FloatKind.f64.format.order t131 (0 : Nat) = some .lt) = true := by simpa using c45))
   (try (have c45b2 : (FloatKind.f64.format.order t131 (0 : Nat) == some .lt) = true := by simpa using c45))
   clear c45
   by_cases c46 : fdivK (4607182418800017408 : Nat) t130 = true
   rotate_left
   ·rw [if_neg c46] at H
    exact absurd H (by simp)
   (rw [if_pos c46] at H);(have c46b0 := eq_true c46);(have c46b1 : decide (fdivK (4607182418800017408 : Nat) t130 = true) = true := decide_eq_true c46);(clear c46)
   by_cases c47 : fdivK (4607182418800017408 : Nat) t131 = true
   rotate_left
   ·rw [if_neg c47] at H
    exact absurd H (by simp)
   (rw [if_pos c47] at H);(have c47b0 := eq_true c47);(have c47b1 : decide (fdivK (4607182418800017408 : Nat) t131 = true) = true := decide_eq_true c47);(clear c47)
   by_cases c48 : faddK (fdivV (4607182418800017408 : Nat) t130) (fdivV (4607182418800017408 : Nat) t131) = true
   rotate_left
   ·rw [if_neg c48] at H
    exact absurd H (by simp)
   (rw [if_pos c48] at H);(have c48b0 := eq_true c48);(have c48b1 : decide (faddK (fdivV (4607182418800017408 : Nat) t130) (fdivV (4607182418800017408 : Nat) t131) = true) = true := decide_eq_true c48);(clear c48)
   by_cases c49 : fdivK (4611686018427387904 : Nat) (faddV (fdivV (4607182418800017408 : Nat) t130) (fdivV (4607182418800017408 : Nat) t131)) = true
   rotate_left
   ·rw [if_neg c49] at H
    exact absurd H (by simp)
   (rw [if_pos c49] at H);(have c49b0 := eq_true c49);(have c49b1 : decide (fdivK (4611686018427387904 : Nat) (faddV (fdivV (4607182418800017408 : Nat) t130) (fdivV (4607182418800017408 : Nat) t131)) = true) = true := decide_eq_true c49);(clear c49);(obtain ⟨ji50, hji50⟩ : ∃ j_ : Int, (wrap64 (x30_1 + 1)) = j_ := ⟨_, rfl⟩);(replace H : (if 0 ≤ (ji50) then (if (ji50) < (x4_1.length : Int) then (interp_slopes.l0 k1 (x4_1.set ((ji50) : Int).toNat (fdivV (4611686018427387904 : Nat) (faddV (fdivV (4607182418800017408 : Nat) t130) (fdivV (4607182418800017408 : Nat) t131)))) (wrap64 ((l0_1.length : Int) - 2)) ji50 a0_0 l0_1 l0_2) else (none)) else (none)) = some r := by first | (rw [hji50] at H; exact H) | (simp only [hji50] at H ⊢; exact H))
   (try rw [hji50] at A27)
   (try rw [hji50] at A28)
   have hji50w : (IntKind.i64.wrap (x30_1 + 1)) = ji50 := (i64_w _).trans hji50
   by_cases c51 : 0 ≤ (ji50)
   rotate_left
   ·rw [if_neg c51] at H
    exact absurd H (by simp)
   (rw [if_pos c51] at H);(have c51b0 : decide (0 ≤ (ji50)) = true := decide_eq_true c51);(clear c51)
   by_cases c52 : (ji50) < (x4_1.length : Int)
   rotate_left
   ·rw [if_neg c52] at H
    exact absurd H (by simp)
   (rw [if_pos c52] at H);(have c52b0 : decide ((ji50) < (x4_1.length : Int)) = true := decide_eq_true c52);(clear c52);(obtain ⟨y133, hy133⟩ : ∃ y_ : List Nat, y_ = (x4_1.set ((ji50) : Int).toNat (fdivV (4611686018427387904 : Nat) (faddV (fdivV (4607182418800017408 : Nat) t130) (fdivV (4607182418800017408 : Nat) t131)))) := ⟨_, rfl⟩);(replace H : (interp_slopes.l0 k1 y133 (wrap64 ((l0_1.length : Int) - 2)) ji50 a0_0 l0_1 l0_2) = some r := by first | (rw [hy133]; with_reducible exact H) | (have H2_ := (Option.bind_some _ _).symm.trans H; rw [hy133]; with_reducible exact H2_) | (have H2_ := (Option.bind_some _ _).symm.trans H; with_reducible exact H2_) | with_reducible exact H | (rw [hy133]; exact H) | exact H);(have Ny133 := Aside0.mk hy133);(clear hy133);(have H' := Aside0.mk H);(clear H);(try go_wp2);(have n0_ := Aside0.mk (Kd.R_drew HO_4.out));(have n1_ := Aside0.mk (blk_drew BK122.out));(have n2_ := Aside0.mk (below_drew1 HB.out));(clear HO_4);(clear BK122);(clear HB);(have HO_4 := n0_);(have BK122 := n1_);(have HB := n2_);(clear n0_ n1_ n2_);(refine start_ (n := 9) (S := fun w' => w'.cell? ⟨gb122, 0, none⟩ = some (.int .i64 a0_0) ∧ w'.cell? ⟨gb122, 1, none⟩ = some (.slice A0_1 l0_1.length c0_1) ∧ w'.cell? ⟨gb122, 2, none⟩ = some (.slice A0_2 l0_2.length c0_2)) (ds := []) #[false, false, false, false, false, false, false, false, false] (by kernel_rfl) rfl rfl ⟨(blk_cell BK122.out 0).trans rfl, (blk_cell BK122.out 1).trans rfl, (blk_cell BK122.out 2).trans rfl⟩ (fun hHeld => ?_); refine with_tabW interp_slopes.tab9 interp_slopes.bits9 (fun HT_ HW_ => ?_));(generalize wr.drew = w54 at HO_4 BK122 HB hHeld ⊢);(refine pure_ (i := 1) (N := some 34) (v := ?_) (a' := ?_) #[false, true, false, false, false, false, false, false, false] rfl rfl (any_of HT_.out (by kernel_rfl)) (fun _ _ _ h => h) (Or.inl ⟨by rfl, ?_⟩) ?_ ?_);(rotate_left)
   ·intro w'
    (go_simp);(with_reducible rfl)
   rotate_left
   ·simp only [Act.put, List.setIfInBounds_toArray, List.set_cons_zero, List.set_cons_succ, i64_w, i32_w]
    rfl
   (refine pure_ (i := 4) (N := some 37) (v := ?_) (a' := ?_) #[false, true, false, false, true, false, false, false, false] rfl rfl (any_of HT_.out (by kernel_rfl)) (fun _ _ _ h => h) (Or.inl ⟨by rfl, ?_⟩) ?_ ?_);(rotate_left)
   ·intro w'
    (go_simp);(with_reducible rfl)
   rotate_left
   ·simp only [Act.put, List.setIfInBounds_toArray, List.set_cons_zero, List.set_cons_succ, i64_w, i32_w]
    rfl
   (refine pure_ (i := 5) (N := some 38) (v := ?_) (a' := ?_) #[false, true, false, false, true, true, false, false, false] rfl rfl (any_of HT_.out (by kernel_rfl)) (fun _ _ _ h => h) (Or.inl ⟨by rfl, ?_⟩) ?_ ?_);(rotate_left)
   ·intro w'
    (go_simp);(with_reducible rfl)
   rotate_left
   ·simp only [Act.put, List.setIfInBounds_toArray, List.set_cons_zero, List.set_cons_succ, i64_w, i32_w]
    rfl
   (refine take_ (i := 0) (N := some 33) (v := ?_) (a' := ?_) #[true, true, false, false, true, true, false, false, false] rfl rfl (take_ofW HT_.out HW_.out (by kernel_rfl)) (fun _ _ _ h => h) (Or.inl ⟨by rfl, ?_⟩) hHeld ?_ ?_);(rotate_left)
   ·rintro w' ⟨s0, s1, s2⟩
    (go_simp);(with_reducible rfl)
   rotate_left
   ·simp only [Act.put, List.setIfInBounds_toArray, List.set_cons_zero, List.set_cons_succ, i64_w, i32_w]
    rfl
   (refine take_ (i := 3) (N := some 36) (v := ?_) (a' := ?_) #[true, true, false, true, true, true, false, false, false] rfl rfl (take_ofW HT_.out HW_.out (by kernel_rfl)) (fun _ _ _ h => h) (Or.inl ⟨by rfl, ?_⟩) hHeld ?_ ?_);(rotate_left)
   ·rintro w' ⟨s0, s1, s2⟩
    (go_simp);(with_reducible rfl)
   rotate_left
   ·simp only [Act.put, List.setIfInBounds_toArray, List.set_cons_zero, List.set_cons_succ, i64_w, i32_w]
    rfl
   (refine one_ (i := 2) (N := some 35) #[true, true, true, true, true, true, false, false, false] rfl rfl (one_of HT_.out (by kernel_rfl)) (by decide) (fun K hK => ?_));(refine goes_ Try.func117 (by kernel_rfl) rfl #[.agg #[.int .i64 a0_0, .slice A0_1 l0_1.length c0_1, .slice A0_2 l0_2.length c0_2], .int .i64 x30_1] (by rfl) rfl rfl mA ?_);(with_reducible refine (interp_rise.calls a0_0 _ _ l0_1 _ _ l0_2 x30_1 t130 _ ?side1 ?side2 ?side3 ?side4 A27.out).mono ?_)
   (case side1 => exact cA (Kd.C_below HR0_1.out HB.out))
   (case side2 => exact HC0_1.out)
   (case side3 => exact cA (Kd.C_below HR0_2.out HB.out))
   (case side4 => exact HC0_2.out)
   rintro e w55 ⟨rfl, hb⟩
   (refine ⟨_, rfl, ?_⟩);(have n0_ := Aside0.mk (Kd.R_below (rA HO_4.out) hb));(have n1_ := Aside0.mk (blk_below (g := gb122) (o := .cells #[.int .i64 a0_0, .slice A0_1 l0_1.length c0_1, .slice A0_2 l0_2.length c0_2] 86 (0, 0)) (kA BK122.out) hb));(have n2_ := Aside0.mk (below_step (bG HB.out) hb));(clear HO_4);(clear BK122);(clear HB);(have HO_4 := n0_);(have BK122 := n1_);(have HB := n2_);(clear n0_ n1_ n2_)
   (try clear hb)
   (try clear hb2)
   (try clear hk)
   (try clear hi)
   (refine hK.out _ _ ⟨(blk_cell BK122.out 0).trans rfl, (blk_cell BK122.out 1).trans rfl, (blk_cell BK122.out 2).trans rfl⟩ (fun hHeld => ?_));(clear hK K);(refine norm_ (a' := ?_) ?_ ?_);(rotate_left)
   ·show Act.put _ (some 35) _ = _
    (simp only [Act.put, List.setIfInBounds_toArray, List.set_cons_zero, List.set_cons_succ, i64_w, i32_w]);(rfl)
   (refine one_ (i := 6) (N := some 39) #[true, true, true, true, true, true, true, false, false] rfl rfl (one_of HT_.out (by kernel_rfl)) (by decide) (fun K hK => ?_));(refine goes_ Try.func117 (by kernel_rfl) rfl #[.agg #[.int .i64 a0_0, .slice A0_1 l0_1.length c0_1, .slice A0_2 l0_2.length c0_2], .int .i64 ji50] (by rfl) rfl rfl (by (try simp only [List.map_toArray, List.map_cons, List.map_nil]); first | done | (simp only [hji50]; rfl) | rfl | (simp only [List.length_drop, List.length_take]; rfl)) ?_);(with_reducible refine (interp_rise.calls a0_0 _ _ l0_1 _ _ l0_2 ji50 t131 _ ?side1 ?side2 ?side3 ?side4 A28.out).mono ?_)
   (case side1 => exact cA (Kd.C_below HR0_1.out HB.out))
   (case side2 => exact HC0_1.out)
   (case side3 => exact cA (Kd.C_below HR0_2.out HB.out))
   (case side4 => exact HC0_2.out)
   rintro e w56 ⟨rfl, hb⟩
   (refine ⟨_, rfl, ?_⟩);(have n0_ := Aside0.mk (Kd.R_below (rA HO_4.out) hb));(have n1_ := Aside0.mk (blk_below (g := gb122) (o := .cells #[.int .i64 a0_0, .slice A0_1 l0_1.length c0_1, .slice A0_2 l0_2.length c0_2] 86 (0, 0)) (kA BK122.out) hb));(have n2_ := Aside0.mk (below_step (bG HB.out) hb));(clear HO_4);(clear BK122);(clear HB);(have HO_4 := n0_);(have BK122 := n1_);(have HB := n2_);(clear n0_ n1_ n2_)
   (try clear hb)
   (try clear hb2)
   (try clear hk)
   (try clear hi)
   (refine hK.out _ _ ⟨(blk_cell BK122.out 0).trans rfl, (blk_cell BK122.out 1).trans rfl, (blk_cell BK122.out 2).trans rfl⟩ (fun hHeld => ?_));(clear hK K);(refine norm_ (a' := ?_) ?_ ?_);(rotate_left)
   ·show Act.put _ (some 39) _ = _
    (simp only [Act.put, List.setIfInBounds_toArray, List.set_cons_zero, List.set_cons_succ, i64_w, i32_w]);(rfl)
   (refine pure_ (i := 7) (N := some 6) (v := ?_) (a' := ?_) #[true, true, true, true, true, true, true, true, false] rfl rfl (any_of HT_.out (by kernel_rfl)) (fun _ _ _ h => h) (Or.inl ⟨by rfl, ?_⟩) ?_ ?_);(rotate_left)
   ·intro w'
    (go_simp);(with_reducible rfl)
   rotate_left
   ·simp only [Act.put, List.setIfInBounds_toArray, List.set_cons_zero, List.set_cons_succ, i64_w, i32_w]
    rfl
   (refine pure_ (i := 8) (N := some 7) (v := ?_) (a' := ?_) #[true, true, true, true, true, true, true, true, true] rfl rfl (any_of HT_.out (by kernel_rfl)) (fun _ _ _ h => h) (Or.inl ⟨by rfl, ?_⟩) ?_ ?_);(rotate_left)
   ·intro w'
    (go_simp);(with_reducible rfl)
   rotate_left
   ·simp only [Act.put, List.setIfInBounds_toArray, List.set_cons_zero, List.set_cons_succ, i64_w, i32_w]
    rfl
   (refine done_ (done_of HT_.out (by kernel_rfl)) ?_);(have p53 : 0 ≤ ((ji50) : Int) := of_decide_eq_true asA);(have q53 : ((ji50) : Int) < ((x4_1.length : Int) : Int) := of_decide_eq_true asA);(obtain ⟨hx53_0, hf53_0⟩ := Kd.R_celln (0 : Nat) HO_4.out ((ji50) : Int) p53 q53)
   (try rw [show ((0 : Int)).toNat = 0 from rfl] at hx53_0)
   (try rw [show ((0 : Int)).toNat = 0 from rfl] at hf53_0)
   (replace p53 := eq_true p53);(replace q53 := eq_true q53);(obtain ⟨hy57_, hz57_⟩ := Kd.R_celln (0 : Nat) HO_4.out ((ji50) : Int) (of_decide_eq_true asA) (of_decide_eq_true asA));(have HP57 := Kd.R_putg HO_4.out ((ji50) : Int) (fdivV (4611686018427387904 : Nat) (faddV (fdivV (4607182418800017408 : Nat) t130) (fdivV (4607182418800017408 : Nat) t131))));(try go_wp2_with (first | ((with_reducible refine gate_store (t := 35) (p := 63) rfl ?_); refine store_event (t := 35) (p := 63) (v := ?vo_w58) (w1 := (w56.setCell ⟨go12, ((ji50) : Int).toNat, none⟩ (.float .f64 (fdivV (4611686018427387904 : Nat) (faddV (fdivV (4607182418800017408 : Nat) t130) (fdivV (4607182418800017408 : Nat) t131)))))) ?hg ?ho ?hn ?hr ?_; (case ho => rfl); (case hg => rfl); (case hn => rfl); (case hr => first | (go_simp; done) | (go_simp; rfl)); intro w58 hw; have hg : w56.grownBy w58 (some go12) := (by rw [hw]; exact HP57.2); have hp_ : Kd.R Kd.flt 35 w58 w.heap.size (fun _ => True) (.slice (some ⟨go12, 0, none⟩) x4_1.length co12) y133 := (by rw [hw, Ny133.out]; exact HP57.1); clear HP57; have n0_ := Aside0.mk (hp_); have n1_ := Aside0.mk (blk_grown (g := gb122) (o := .cells #[.int .i64 a0_0, .slice A0_1 l0_1.length c0_1, .slice A0_2 l0_2.length c0_2] 86 (0, 0)) (kA BK122.out) hg (Kd.R_ne HO_4.out BK122.out (by decide))); have n2_ := Aside0.mk ((by rw [hw]; exact below_set (HB.out) GB12.out : Below w.heap.size w w58)); clear HO_4; clear BK122; clear HB; have HO_4 := n0_; have BK122 := n1_; have HB := n2_; clear n0_ n1_ n2_; clear hg hw hp_)))
   (try simp only [← hl4_1])
   go_roundg k1
   case measure => have := HK1.out; omega
   case rel => exact ⟨(y133), (ji50), (by first | rfl | (simp; done) | (simp only [← hji50] <;> (first | rfl | simp)) | (simp [*]; done)), H', ⟨by have := HK1.out; omega⟩, ⟨by (try simp only [hl4_1]); (with_reducible repeat (first | apply Kd.R_alloc | apply Kd.R_drewN | apply Kd.R_drew)); exact HO_4.out⟩, ⟨by (try simp only [hl4_1]); (with_reducible repeat (first | refine blk_drewN ?_ _ | refine blk_drew ?_ | refine blk_alloc ?_ _)); exact BK122.out⟩, ⟨bG HB.out⟩⟩

end Go.Proofs.Ythkcphdhmkcdkaa.FP
