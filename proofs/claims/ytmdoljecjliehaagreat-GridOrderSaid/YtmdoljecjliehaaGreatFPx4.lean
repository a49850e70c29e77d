/- Written by the session's fprint.py out of the translation. -/
import Derived.Test.YtmdoljecjliehaaGreatFPx3
namespace Go.Proofs.YtmdoljecjliehaaGreat.FP
open Go.RowKit Go.Proofs.YtmdoljecjliehaaGreatW.PrintWords Go.Proofs.YtmdoljecjliehaaGreatW.PrintLast Go.Proofs.YtmdoljecjliehaaGreatW.PrintMore
attribute [local go_sem] max2_int min2_int max_two min_two max_three min_three max_four min_four   -- for this text's walks alone
open Go.Proofs.YtmdoljecjliehaaGreat.FX
attribute [local go_sem] run_store_float run_neg_float run_fmul run_fadd run_fsub run_fdiv run_ftoi isSome_setCell 
set_option linter.unusedVariables false
set_option linter.unusedSimpArgs false

def interp_slopes.l0 : Nat → List Nat → Int → Int → Int → List Int → List Nat → Option (List Nat)
 | 0, _, _, _, _, _, _ => none
 | k + 1, x4, x29, x30, x123000, x123001, x123002 => if x30 < x29 then ((interp_rise.f x123000 x123001 x123002 x30).bind fun t130 => ((interp_rise.f x123000 x123001 x123002 (wrap64 (x30 + 1))).bind fun t131 => (if (FloatKind.f64.format.order t130 (0 : Nat) == some .gt) = true then (if (FloatKind.f64.format.order t131 (0 : Nat) == some .gt) = true then (if fdivK (4607182418800017408 : Nat) t130 = true then (if fdivK (4607182418800017408 : Nat) t131 = true then (if faddK (fdivV (4607182418800017408 : Nat) t130) (fdivV (4607182418800017408 : Nat) t131) = true then (if fdivK (4611686018427387904 : Nat) (faddV (fdivV (4607182418800017408 : Nat) t130) (fdivV (4607182418800017408 : Nat) t131)) = true then (if 0 ≤ (wrap64 (x30 + 1)) then (if (wrap64 (x30 + 1)) < (x4.length : Int) then (interp_slopes.l0 k (x4.set ((wrap64 (x30 + 1)) : Int).toNat (fdivV (4611686018427387904 : Nat) (faddV (fdivV (4607182418800017408 : Nat) t130) (fdivV (4607182418800017408 : Nat) t131)))) x29 (wrap64 (x30 + 1)) x123000 x123001 x123002) else (none)) else (none)) else (none)) else (none)) else (none)) else (none)) else (if (FloatKind.f64.format.order t130 (0 : Nat) == some .lt) = true then (if (FloatKind.f64.format.order t131 (0 : Nat) == some .lt) = true then (if fdivK (4607182418800017408 : Nat) t130 = true then (if fdivK (4607182418800017408 : Nat) t131 = true then (if faddK (fdivV (4607182418800017408 : Nat) t130) (fdivV (4607182418800017408 : Nat) t131) = true then (if fdivK (4611686018427387904 : Nat) (faddV (fdivV (4607182418800017408 : Nat) t130) (fdivV (4607182418800017408 : Nat) t131)) = true then (if 0 ≤ (wrap64 (x30 + 1)) then (if (wrap64 (x30 + 1)) < (x4.length : Int) then (interp_slopes.l0 k (x4.set ((wrap64 (x30 + 1)) : Int).toNat (fdivV (4611686018427387904 : Nat) (faddV (fdivV (4607182418800017408 : Nat) t130) (fdivV (4607182418800017408 : Nat) t131)))) x29 (wrap64 (x30 + 1)) x123000 x123001 x123002) else (none)) else (none)) else (none)) else (none)) else (none)) else (none)) else (interp_slopes.l0 k x4 x29 (wrap64 (x30 + 1)) x123000 x123001 x123002)) else (interp_slopes.l0 k x4 x29 (wrap64 (x30 + 1)) x123000 x123001 x123002))) else (if (FloatKind.f64.format.order t130 (0 : Nat) == some .lt) = true then (if (FloatKind.f64.format.order t131 (0 : Nat) == some .lt) = true then (if fdivK (4607182418800017408 : Nat) t130 = true then (if fdivK (4607182418800017408 : Nat) t131 = true then (if faddK (fdivV (4607182418800017408 : Nat) t130) (fdivV (4607182418800017408 : Nat) t131) = true then (if fdivK (4611686018427387904 : Nat) (faddV (fdivV (4607182418800017408 : Nat) t130) (fdivV (4607182418800017408 : Nat) t131)) = true then (if 0 ≤ (wrap64 (x30 + 1)) then (if (wrap64 (x30 + 1)) < (x4.length : Int) then (interp_slopes.l0 k (x4.set ((wrap64 (x30 + 1)) : Int).toNat (fdivV (4611686018427387904 : Nat) (faddV (fdivV (4607182418800017408 : Nat) t130) (fdivV (4607182418800017408 : Nat) t131)))) x29 (wrap64 (x30 + 1)) x123000 x123001 x123002) else (none)) else (none)) else (none)) else (none)) else (none)) else (none)) else (interp_slopes.l0 k x4 x29 (wrap64 (x30 + 1)) x123000 x123001 x123002)) else (interp_slopes.l0 k x4 x29 (wrap64 (x30 + 1)) x123000 x123001 x123002))))) else (some x4)
def interp_slopes.f (k : Nat) (a0_0 : Int) (l0_1 : List Int) (l0_2 : List Nat) : Option (List Nat) := if 0 ≤ (l0_1.length : Int) then (if ((l0_1.length : Int) : Int).toNat ≤ 35184372088832 then ((some (List.replicate ((l0_1.length : Int) : Int).toNat (0 : Nat) : List Nat)).bind fun y123 => (if (l0_1.length : Int) = 1 then (some y123) else ((interp_rise.f a0_0 l0_1 l0_2 0).bind fun t126 => ((interp_rise.f a0_0 l0_1 l0_2 (wrap64 ((l0_1.length : Int) - 2))).bind fun t127 => (if 0 < (y123.length : Int) then (if 0 ≤ (wrap64 ((l0_1.length : Int) - 1)) then (if (wrap64 ((l0_1.length : Int) - 1)) < (y123.length : Int) then (interp_slopes.l0 k ((y123.set (0 : Int).toNat t126).set ((wrap64 ((l0_1.length : Int) - 1)) : Int).toNat t127) (wrap64 ((l0_1.length : Int) - 2)) 0 a0_0 l0_1 l0_2) else (none)) else (none)) else (none)))))) else (none)) else (none)
theorem interp_slopes.mono_l : ∀ k, (∀ y0 y1 y2 y3 y4 y5, LeO (interp_slopes.l0 k y0 y1 y2 y3 y4 y5) (interp_slopes.l0 (k + 1) y0 y1 y2 y3 y4 y5))
 | 0 => fun _ _ _ _ _ _ r h => by simp [interp_slopes.l0] at h
 | k + 1 => by
  have ih0 := interp_slopes.mono_l k
  ·intro y0 y1 y2 y3 y4 y5
   unfold interp_slopes.l0
   repeat' first
   | (with_reducible exact ih0 _ _ _ _ _ _)
   | (with_reducible exact LeO.refl _)
   | (with_reducible exact LeO.none _)
   | (with_reducible refine LeO.ite ?_ ?_)
   | (with_reducible refine LeO.bind ?_ (fun _ => ?_))
   | exact ih0 _ _ _ _ _ _
   | exact LeO.none _
   | refine LeO.ite ?_ ?_
   | refine LeO.bind ?_ (fun _ => ?_)
theorem interp_slopes.mono : ∀ a0 a1 a2 k, LeO (interp_slopes.f k a0 a1 a2) (interp_slopes.f (k + 1) a0 a1 a2) := by
 (intro a0 a1 a2 k);(have ih0 := interp_slopes.mono_l k);(unfold interp_slopes.f)
 repeat' first
  | (with_reducible exact ih0 _ _ _ _ _ _)
  | (with_reducible exact LeO.refl _)
  | (with_reducible exact LeO.none _)
  | (with_reducible refine LeO.ite ?_ ?_)
  | (with_reducible refine LeO.bind ?_ (fun _ => ?_))
  | exact ih0 _ _ _ _ _ _
  | exact LeO.none _
  | refine LeO.ite ?_ ?_
  | refine LeO.bind ?_ (fun _ => ?_)
def interp_slopes.T5 : Bool × List (List Nat × List Nat) := (true, [([], []), ([], []), ([], []), ([2], [2]), ([], []), ([4], [4]), ([], []), ([], []), ([7], [7]), ([6, 8, 5], [6, 8]), ([0, 0, 4, 5, 9], [0]), ([10, 5, 9, 0, 4, 5, 9], [5, 10]), ([1, 3, 0, 1, 2, 3, 4, 5, 6, 7, 8, 9, 10, 11], [1, 3]), ([12, 9, 11, 0, 1, 2, 3, 4, 5, 6, 7, 8, 9, 10, 11], [9, 12])])
def interp_slopes.B5 : List Nat := [0, 0, 0, 4, 0, 16, 0, 0, 128, 496, 1009, 2033, 4095, 8191]
theorem interp_slopes.tab5 : rtab .any (opsOf Tryz.f242 5) = interp_slopes.T5 := by kernel_rfl
theorem interp_slopes.bits5 : waitsOk interp_slopes.T5.2 interp_slopes.B5 = true := by kernel_rfl
def interp_slopes.T9 : Bool × List (List Nat × List Nat) := (true, [([], []), ([], []), ([0, 1], [0, 1]), ([], []), ([], []), ([4], [4]), ([3, 5, 2], [3, 5]), ([2, 6, 0, 1, 2], [2]), ([6, 7, 0, 1, 2, 3, 4, 5, 6, 7], [6])])
def interp_slopes.B9 : List Nat := [0, 0, 3, 0, 0, 16, 63, 127, 255]
theorem interp_slopes.tab9 : rtab .any (opsOf Tryz.f242 9) = interp_slopes.T9 := by kernel_rfl
theorem interp_slopes.bits9 : waitsOk interp_slopes.T9.2 interp_slopes.B9 = true := by kernel_rfl
set_option maxHeartbeats 8000000 in
set_option maxRecDepth 100000 in
theorem interp_slopes.calls (k : Nat) (a0_0 : Int) (A0_1 : Option Addr) (c0_1 : Nat) (l0_1 : List Int) (A0_2 : Option Addr) (c0_2 : Nat) (l0_2 : List Nat) (r : List Nat) (w : World) (hr0_1 : Kd.C (Kd.int .i64) w A0_1 l0_1.length l0_1) (hc0_1 : l0_1.length ≤ c0_1) (hr0_2 : Kd.C Kd.flt w A0_2 l0_2.length l0_2) (hc0_2 : l0_2.length ≤ c0_2) (h : interp_slopes.f k a0_0 l0_1 l0_2 = some r) :
  Calls Tryz.prog 242 #[.agg #[.int .i64 a0_0, .slice A0_1 l0_1.length c0_1, .slice A0_2 l0_2.length c0_2]] w fun e w' => ∃ v0_ : Value, e = .returned (v0_) ∧ Kd.R Kd.flt 30 w' w.heap.size (fun _ => True) v0_ r ∧ Below w.heap.size w w' := by
 (have hu119 := Tryz.underlying119);(have HR0_1 := aM hr0_1);(have HC0_1 := aM hc0_1);(clear hr0_1 hc0_1);(have HR0_2 := aM hr0_2);(have HC0_2 := aM hc0_2);(clear hr0_2 hc0_2);(have HB := aM (Below.refl w.heap.size w));(have H : (if 0 ≤ (l0_1.length : Int) then (if ((l0_1.length : Int) : Int).toNat ≤ 35184372088832 then ((some (List.replicate ((l0_1.length : Int) : Int).toNat (0 : Nat) : List Nat)).bind fun y123 => (if (l0_1.length : Int) = 1 then (some y123) else ((interp_rise.f a0_0 l0_1 l0_2 0).bind fun t126 => ((interp_rise.f a0_0 l0_1 l0_2 (wrap64 ((l0_1.length : Int) - 2))).bind fun t127 => (if 0 < (y123.length : Int) then (if 0 ≤ (wrap64 ((l0_1.length : Int) - 1)) then (if (wrap64 ((l0_1.length : Int) - 1)) < (y123.length : Int) then (interp_slopes.l0 k ((y123.set (0 : Int).toNat t126).set ((wrap64 ((l0_1.length : Int) - 1)) : Int).toNat t127) (wrap64 ((l0_1.length : Int) - 2)) 0 a0_0 l0_1 l0_2) else (none)) else (none)) else (none)))))) else (none)) else (none)) = some r := h);(clear h);(revert H);(refine ifP fun c2 H => ?_);(have c2b0 := eq_true c2);(have c2b1 : decide (0 ≤ (l0_1.length : Int)) = true := decide_eq_true c2);(clear c2);(revert H);(refine ifP fun c3 H => ?_);(have c3b0 := eq_true c3);(have c3b1 : decide (((l0_1.length : Int) : Int).toNat ≤ 35184372088832) = true := decide_eq_true c3);(clear c3);(generalize hy123 : (List.replicate ((l0_1.length : Int) : Int).toNat (0 : Nat)) = y123 at H);(replace hy123 := hy123.symm)
 (try (revert H; (with_reducible refine sE y123 ?_); intro H))
 (have Ny123 := aM hy123);(clear hy123)
 by_cases c4 : (l0_1.length : Int) = 1
 ·rw [if_pos c4] at H
  (have c4b0 : ((l0_1.length : Int) == 1) = true := beq_iff_eq.mpr c4);(have c4b1 : ((l0_1.length : Int) != 1) = false := bne_eq_false_iff_eq.mpr c4);(clear c4);(obtain rfl := Option.some.inj H);(go_enter Tryz.func242, Tryz.ntmps242)
  go_wp2_with (first | ((with_reducible refine gD 1 rfl ?_); refine boxW (N := 1) #[.int .i64 a0_0, .slice A0_1 l0_1.length c0_1, .slice A0_2 l0_2.length c0_2] 119 HB ?_; clear HB; intro gb122 w5 BK122 HB GW122; have GE122 := GW122; obtain ⟨hcz6_0, hcz6_1, hcz6_2, hfz6_0, hfz6_1, hfz6_2⟩ := cz3 BK122.out) | ((with_reducible refine gD 12 rfl ?_); refine Kd.R_make Kd.flt _ 30 rfl (N := 12) rfl 23 _ _ rfl (l0_1.length : Int) rfl rfl Tryz.underlying23 (.float .f64 0) 8 info30 rfl (by decide) (by omega) (0 : Nat) (ok := fun _ => True) (okp := fun _ => True) rfl (fun _ hk => hk) trivial (of_decide_eq_true asA) (Nat.le_trans (Nat.mul_le_mul_right _ (of_decide_eq_true asA : (l0_1.length : Int).toNat ≤ 35184372088832)) (by omega)) (Below.refl _ _) (Nat.le_refl _) ?_; intro v124 w7 ho8 hb hg_ hnew_; clear hg_ hnew_; (first | rw [← Ny123.out] at ho8 | (simp only [Int.reduceToNat] at ho8; rw [← Ny123.out] at ho8)); have HO125 := aM (Kd.R_lower ho8 (below_size (bG HB.out))); replace BK122 := kB BK122 hb; replace HB := gB HB hb; clear hb ho8))
  (go_ret);(exact ⟨_, eA, rA HO125.out, bG HB.out⟩)
 (rw [if_neg c4] at H);(have c4b0 : ((l0_1.length : Int) == 1) = false := beq_eq_false_iff_ne.mpr c4);(have c4b1 : ((l0_1.length : Int) != 1) = true := bne_iff_ne.mpr c4);(revert H);(refine bE ?_);(rintro t126 A9 H);(revert H);(refine bE ?_);(rintro t127 A10 H);(revert H);(refine ifP fun c11 H => ?_);(have c11b0 := decide_eq_true c11);(have c11b1 : decide (0 < y123.length) = true := decide_eq_true (by omega));(clear c11);(generalize hy128 : (y123.set (0 : Int).toNat t126) = y128 at H);(replace hy128 := hy128.symm)
 (try (revert H; (with_reducible refine sE y128 ?_); intro H))
 (have Ny128 := aM hy128);(clear hy128);(generalize hji13 : (wrap64 ((l0_1.length : Int) - 1)) = ji13 at H)
 (try rw [hji13] at A9)
 (try rw [hji13] at A10)
 (have hji13w : (IntKind.i64.wrap ((l0_1.length : Int) - 1)) = ji13 := (i64_w _).trans hji13);(revert H);(refine ifP fun c14 H => ?_);(have c14b0 := decide_eq_true c14);(clear c14);(revert H);(refine ifP fun c15 H => ?_);(have c15b0 := decide_eq_true c15);(clear c15);(generalize hy129 : (y128.set ((ji13) : Int).toNat t127) = y129 at H);(replace hy129 := hy129.symm)
 (try (revert H; (with_reducible refine sE y129 ?_); intro H))
 (have Ny129 := aM hy129);(clear hy129);(have H' := aM H);(clear H);(go_enter Tryz.func242, Tryz.ntmps242);(try go_wp2_with (first | ((with_reducible refine gD 1 rfl ?_); refine boxW (N := 1) #[.int .i64 a0_0, .slice A0_1 l0_1.length c0_1, .slice A0_2 l0_2.length c0_2] 119 HB ?_; clear HB; intro gb122 w17 BK122 HB GW122; have GE122 := GW122; obtain ⟨hcz18_0, hcz18_1, hcz18_2, hfz18_0, hfz18_1, hfz18_2⟩ := cz3 BK122.out) | ((with_reducible refine gD 12 rfl ?_); refine Kd.R_make Kd.flt _ 30 rfl (N := 12) rfl 23 _ _ rfl (l0_1.length : Int) rfl rfl Tryz.underlying23 (.float .f64 0) 8 info30 rfl (by decide) (by omega) (0 : Nat) (ok := fun _ => True) (okp := fun _ => True) rfl (fun _ hk => hk) trivial (of_decide_eq_true asA) (Nat.le_trans (Nat.mul_le_mul_right _ (of_decide_eq_true asA : (l0_1.length : Int).toNat ≤ 35184372088832)) (by omega)) (Below.refl _ _) (Nat.le_refl _) ?_; intro v124 w19 ho20 hb hg_ hnew_; clear hg_ hnew_; (first | rw [← Ny123.out] at ho20 | (simp only [Int.reduceToNat] at ho20; rw [← Ny123.out] at ho20)); have HO125 := aM (Kd.R_lower ho20 (below_size (bG HB.out))); replace BK122 := kB BK122 hb; replace HB := gB HB hb; clear hb ho20)));(replace HO125 := aM (Kd.R_drew HO125.out));(replace BK122 := aM (blk_drew BK122.out));(replace HB := aM (below_drew1 HB.out));(refine start_ (n := 14) (S := fun w' => w'.cell? ⟨gb122, 0, none⟩ = some (.int .i64 a0_0) ∧ w'.cell? ⟨gb122, 1, none⟩ = some (.slice A0_1 l0_1.length c0_1) ∧ w'.cell? ⟨gb122, 2, none⟩ = some (.slice A0_2 l0_2.length c0_2)) (ds := [11, 13]) (dnA 14 0) (by kernel_rfl) rfl rfl (ch3 BK122.out) (fun hHeld => ?_); refine with_tabW interp_slopes.tab5 interp_slopes.bits5 (fun HT_ HW_ => ?_));(generalize w19.drew = w21 at HO125 BK122 HB hHeld ⊢);(refine pW 0 (some 16) (dnA 14 1) ?_);(refine pW 1 (some 17) (dnA 14 3) ?_);(refine pW 2 (some 18) (dnA 14 7) ?_);(refine pW 3 (some 19) (dnA 14 15) ?_);(refine pW 7 (some 23) (dnA 14 143) ?_);(refine pW 8 (some 24) (dnA 14 399) ?_);(refine tW 4 (some 20) (dnA 14 415) ?_);(refine tW 6 (some 22) (dnA 14 479) ?_);(refine oW 5 (some 21) (dnA 14 511) (fun K hK => ?_));(refine gW Tryz.func275 #[.agg #[.int .i64 a0_0, .slice A0_1 l0_1.length c0_1, .slice A0_2 l0_2.length c0_2], .int .i64 0] ?_);(with_reducible refine (interp_rise.calls a0_0 _ _ l0_1 _ _ l0_2 0 t126 _ ?side1 ?side2 ?side3 ?side4 A9.out).mono ?_)
 (case side1 => exact cA (Kd.C_below HR0_1.out HB.out))
 (case side2 => exact HC0_1.out)
 (case side3 => exact cA (Kd.C_below HR0_2.out HB.out))
 (case side4 => exact HC0_2.out)
 (rintro e w22 ⟨rfl, hb⟩);(refine ⟨_, rfl, ?_⟩);(replace HO125 := rB HO125 hb);(replace BK122 := kB BK122 hb);(replace HB := gB HB hb)
 (try clear hb)
 (try clear hb2)
 (try clear hk)
 (try clear hi)
 (refine hK.out _ _ (ch3 BK122.out) (fun hHeld => ?_));(clear hK K);(refine nW ?_);(refine oW 9 (some 25) (dnA 14 1023) (fun K hK => ?_));(refine gW Tryz.func275 #[.agg #[.int .i64 a0_0, .slice A0_1 l0_1.length c0_1, .slice A0_2 l0_2.length c0_2], .int .i64 (wrap64 ((l0_1.length : Int) - 2))] ?_);(with_reducible refine (interp_rise.calls a0_0 _ _ l0_1 _ _ l0_2 (wrap64 ((l0_1.length : Int) - 2)) t127 _ ?side1 ?side2 ?side3 ?side4 A10.out).mono ?_)
 (case side1 => exact cA (Kd.C_below HR0_1.out HB.out))
 (case side2 => exact HC0_1.out)
 (case side3 => exact cA (Kd.C_below HR0_2.out HB.out))
 (case side4 => exact HC0_2.out)
 (rintro e w23 ⟨rfl, hb⟩);(refine ⟨_, rfl, ?_⟩);(replace HO125 := rB HO125 hb);(replace BK122 := kB BK122 hb);(replace HB := gB HB hb)
 (try clear hb)
 (try clear hb2)
 (try clear hk)
 (try clear hi)
 (have p12 : 0 ≤ (0 : Int) := (by omega));(have q12 : (0 : Int) < ((y123.length : Int) : Int) := of_decide_eq_true asA);(have qi12 : (0 < y123.length) = True := eq_true (by omega));(obtain ⟨go12, co12, eo12, gb12, gl12, cl12, HG12⟩ := Kd.R_form HO125.out (by omega))
 (first | cases eo12 | (injection eo12 with ea_ en_ ec_; (first | subst ea_ | (injection ea_ with ea_; subst ea_)); subst ec_; clear en_))
 (have GB12 := aM gb12);(have GG12 := aM HG12);(clear gb12 gl12 HG12);(obtain ⟨hx12_0, hf12_0⟩ := Kd.R_celln (0 : Nat) HO125.out (0 : Int) p12 q12)
 (try rw [show ((0 : Int)).toNat = 0 from rfl] at hx12_0)
 (try simp only [Nat.reduceMul, Nat.zero_mul, Nat.zero_add, Nat.reduceAdd] at hx12_0)
 (try rw [show ((0 : Int)).toNat = 0 from rfl] at hf12_0)
 (try simp only [Nat.reduceMul, Nat.zero_mul, Nat.zero_add, Nat.reduceAdd] at hf12_0)
 (replace p12 := eq_true p12);(replace q12 := eq_true q12);(have HP24 := Kd.R_putn HO125.out (0 : Int) t126);(rw [← Ny128.out] at HP24);(have HQ24 := aM HP24);(clear HP24);(have p16 : 0 ≤ ((ji13) : Int) := of_decide_eq_true asA);(have q16 : ((ji13) : Int) < ((y123.length : Int) : Int) := of_decide_eq_true asA);(obtain ⟨hx16_0, hf16_0⟩ := Kd.R_celln (0 : Nat) HQ24.out ((ji13) : Int) p16 q16)
 (try rw [show ((0 : Int)).toNat = 0 from rfl] at hx16_0)
 (try rw [show ((0 : Int)).toNat = 0 from rfl] at hf16_0)
 (replace p16 := eq_true p16);(replace q16 := eq_true q16);(have HP25 := Kd.R_putn HQ24.out ((ji13) : Int) t127);(rw [← Ny129.out] at HP25);(have HQ25 := aM HP25);(clear HP25);(refine hK.out _ _ (ch3 BK122.out) (fun hHeld => ?_));(clear hK K);(refine nW ?_);(refine pW 10 (some 26) (dnA 14 2047) ?_);(refine lW 11 none (dnA 14 4095) (fun K hK => ?_));(refine skip_ (w1 := ?_) (by rfl) rfl ?_ ?_);(rotate_left)
 ·go_simp
  rfl
 (refine hK.out _ _ ?_);(clear hK K);(refine pW 12 (some 27) (dnA 14 8191) ?_);(refine lW 13 none (dnA 14 16383) (fun K hK => ?_));(refine skip_ (w1 := ?_) (by rfl) rfl ?_ ?_);(rotate_left)
 ·go_simp
  rfl
 (refine hK.out _ _ ?_);(clear hK K);(refine done_ (done_of HT_.out (by kernel_rfl)) ?_);(try go_wp2)
 go_loopg [30] k (fun kq v30 w' => ∃ (x4_1 : List Nat) (x30_1 : Int), v30 = .int .i64 x30_1 ∧ Aside0 (interp_slopes.l0 kq x4_1 (wrap64 ((l0_1.length : Int) - 2)) x30_1 a0_0 l0_1 l0_2 = some r) ∧ Aside0 (kq ≤ k) ∧ Aside0 (Kd.R Kd.flt 30 w' w.heap.size (fun _ => True) (.slice (some ⟨go12, 0, none⟩) y123.length co12) x4_1) ∧ Aside0 (w'.heap[gb122]? = some (.cells #[.int .i64 a0_0, (.slice A0_1 l0_1.length c0_1), (.slice A0_2 l0_2.length c0_2)] 119 (0, 0))) ∧ Aside0 (Below w.heap.size w w'))
 case atStart => exact ⟨(y129), (0), sA, H', ⟨Nat.le_refl _⟩, ⟨rA HQ25.out⟩, ⟨by (with_reducible repeat (first | refine blk_drewN ?_ _ | refine blk_drew ?_ | refine blk_alloc ?_ _)); refine blk_far ?_ (by have h_ := Kd.R_ne HO125.out BK122.out (by decide); intro e_; exact h_ (by rw [e_]; rfl)) _; (with_reducible repeat (first | refine blk_drewN ?_ _ | refine blk_drew ?_ | refine blk_alloc ?_ _)); refine blk_far ?_ (by have h_ := Kd.R_ne HO125.out BK122.out (by decide); intro e_; exact h_ (by rw [e_]; rfl)) _; (with_reducible repeat (first | refine blk_drewN ?_ _ | refine blk_drew ?_ | refine blk_alloc ?_ _)); exact BK122.out⟩, ⟨by repeat (first | (with_reducible first | exact HB.out | apply below_alloc | apply pw_below_drewN | apply below_drew1 | refine below_set ?_ GB12.out | refine below_set ?_ GB12.out | refine below_set ?_ GE122.out) | exact HB.out)⟩⟩
 case round =>
  (clear H');(try clear c1);(try clear p1);(try clear q1);(try clear hx1);(try clear qi1);(try clear hf1);(try clear c2);(try clear c2b0);(try clear c2b1);(try clear p2);(try clear c3);(try clear c3b0);(try clear c3b1);(try clear c4);(try clear c4b0);(try clear c4b1);(try clear p6);(try clear c11);(try clear c11b0);(try clear c11b1);(try clear p12);(try clear q12);(try clear hx12);(try clear qi12);(try clear hf12);(try clear c14);(try clear c14b0);(try clear c15);(try clear c15b0);(try clear p16);(try clear q16);(try clear hx16);(try clear hf16);(try clear c24);(try clear hcz18_0);(try clear hcz18_1);(try clear hcz18_2);(try clear hcz6_0);(try clear hcz6_1);(try clear hcz6_2);(try clear hfz18_0);(try clear hfz18_1);(try clear hfz18_2);(try clear hfz6_0);(try clear hfz6_1);(try clear hfz6_2);(try clear hx12_0);(try clear hx16_0);(try clear p12);(try clear p16);(try clear q12);(try clear q16);(obtain ⟨x4_1, x30_1, rfl, HA, HK1, HO_4, BK122, HB⟩ := hrel);(have hl4_1 := (Kd.R_reads' HO_4.out).1);(rw [hl4_1] at HO_4)
  (try simp only [hl4_1])
  (try simp only [hl4_1] at BK122)
  cases gk with
  | zero => exact absurd HA.out (by simp [interp_slopes.l0])
  | succ k1 =>
   (have H := HA.out);(clear HA);(simp only [interp_slopes.l0] at H)
   by_cases c26 : x30_1 < (wrap64 ((l0_1.length : Int) - 2))
   rotate_left
   ·rw [if_neg c26] at H
    (have c26b0 : decide (x30_1 < (wrap64 ((l0_1.length : Int) - 2))) = false := decide_eq_false c26);(clear c26);(obtain rfl := Option.some.inj H);(go_wp2);(go_ret);(exact ⟨_, by first | rfl | (simp [errW_none, errW_some] <;> rfl) | (simp only [← hji13]; first | rfl | (simp [errW_none, errW_some] <;> rfl)) | (simp [*, errW_none, errW_some] <;> rfl), rA HO_4.out, bG HB.out⟩)
   (rw [if_pos c26] at H);(have c26b0 : decide (x30_1 < (wrap64 ((l0_1.length : Int) - 2))) = true := decide_eq_true c26);(clear c26);(revert H);(refine bE ?_);(rintro t130 A27 H);(revert H);(refine bE ?_);(rintro t131 A28 H)
   by_cases c29 : (FloatKind.f64.format.order t130 (0 : Nat) == some .gt) = true
   rotate_left
   ·rw [if_neg c29] at H
    have c29b0 : (FloatKind.f64.format.order t130 (0 : Nat) == some .gt) = false := by simpa using c29
    (try (have c29b1 : decide (FloatKind.f64.format.order t130 (0 : Nat) = some .gt) = false := by simpa using c29))
    (try (have c29b2 : (FloatKind.f64.format.order t130 (0 : Nat) == some .gt) = false := by simpa using c29))
    (try (have c29b3 : ¬ (FloatKind.f64.format.order t130 (0 : Nat) = some .gt) := by simpa using c29))
    clear c29
    by_cases c65 : (FloatKind.f64.format.order t130 (0 : Nat) == some .lt) = true
    rotate_left
    ·rw [if_neg c65] at H
     have c65b0 : (FloatKind.f64.format.order t130 (0 : Nat) == some .lt) = false := by simpa using c65
     (try (have c65b1 : decide (FloatKind.f64.format.order t130 (0 : Nat) = some .lt) = false := by simpa using c65))
     (try (have c65b2 : (FloatKind.f64.format.order t130 (0 : Nat) == some .lt) = false := by simpa using c65))
     (try (have c65b3 : ¬ (FloatKind.f64.format.order t130 (0 : Nat) = some .lt) := by simpa using c65))
     (clear c65);(have H' := aM H);(clear H);(try go_wp2);(replace HO_4 := aM (Kd.R_drew HO_4.out));(replace BK122 := aM (blk_drew BK122.out));(replace HB := aM (below_drew1 HB.out));(refine start_ (n := 9) (S := fun w' => w'.cell? ⟨gb122, 0, none⟩ = some (.int .i64 a0_0) ∧ w'.cell? ⟨gb122, 1, none⟩ = some (.slice A0_1 l0_1.length c0_1) ∧ w'.cell? ⟨gb122, 2, none⟩ = some (.slice A0_2 l0_2.length c0_2)) (ds := []) #[false, false, false, false, false, false, false, false, false] (by kernel_rfl) rfl rfl (ch3 BK122.out) (fun hHeld => ?_); refine with_tabW interp_slopes.tab9 interp_slopes.bits9 (fun HT_ HW_ => ?_));(generalize wr.drew = w83 at HO_4 BK122 HB hHeld ⊢);(refine pW 1 (some 34) #[false, true, false, false, false, false, false, false, false] ?_);(refine pW 4 (some 37) #[false, true, false, false, true, false, false, false, false] ?_);(refine pW 5 (some 38) #[false, true, false, false, true, true, false, false, false] ?_);(refine tW 0 (some 33) #[true, true, false, false, true, true, false, false, false] ?_);(refine tW 3 (some 36) #[true, true, false, true, true, true, false, false, false] ?_);(refine oW 2 (some 35) #[true, true, true, true, true, true, false, false, false] (fun K hK => ?_));(refine gW Tryz.func275 #[.agg #[.int .i64 a0_0, .slice A0_1 l0_1.length c0_1, .slice A0_2 l0_2.length c0_2], .int .i64 x30_1] ?_);(with_reducible refine (interp_rise.calls a0_0 _ _ l0_1 _ _ l0_2 x30_1 t130 _ ?side1 ?side2 ?side3 ?side4 A27.out).mono ?_)
     (case side1 => exact cA (Kd.C_below HR0_1.out HB.out))
     (case side2 => exact HC0_1.out)
     (case side3 => exact cA (Kd.C_below HR0_2.out HB.out))
     (case side4 => exact HC0_2.out)
     (rintro e w84 ⟨rfl, hb⟩);(refine ⟨_, rfl, ?_⟩);(replace HO_4 := rB HO_4 hb);(replace BK122 := kB BK122 hb);(replace HB := gB HB hb)
     (try clear hb)
     (try clear hb2)
     (try clear hk)
     (try clear hi)
     (refine hK.out _ _ (ch3 BK122.out) (fun hHeld => ?_));(clear hK K);(refine nW ?_);(refine oW 6 (some 39) #[true, true, true, true, true, true, true, false, false] (fun K hK => ?_));(refine gW Tryz.func275 #[.agg #[.int .i64 a0_0, .slice A0_1 l0_1.length c0_1, .slice A0_2 l0_2.length c0_2], .int .i64 (wrap64 (x30_1 + 1))] ?_);(with_reducible refine (interp_rise.calls a0_0 _ _ l0_1 _ _ l0_2 (wrap64 (x30_1 + 1)) t131 _ ?side1 ?side2 ?side3 ?side4 A28.out).mono ?_)
     (case side1 => exact cA (Kd.C_below HR0_1.out HB.out))
     (case side2 => exact HC0_1.out)
     (case side3 => exact cA (Kd.C_below HR0_2.out HB.out))
     (case side4 => exact HC0_2.out)
     (rintro e w85 ⟨rfl, hb⟩);(refine ⟨_, rfl, ?_⟩);(replace HO_4 := rB HO_4 hb);(replace BK122 := kB BK122 hb);(replace HB := gB HB hb)
     (try clear hb)
     (try clear hb2)
     (try clear hk)
     (try clear hi)
     (refine hK.out _ _ (ch3 BK122.out) (fun hHeld => ?_));(clear hK K);(refine nW ?_);(refine pW 7 (some 6) #[true, true, true, true, true, true, true, true, false] ?_);(refine pW 8 (some 7) #[true, true, true, true, true, true, true, true, true] ?_);(refine done_ (done_of HT_.out (by kernel_rfl)) ?_);(try go_wp2)
     (try simp only [← hl4_1])
     go_roundg k1
     case measure => have := HK1.out; omega
     case rel => exact ⟨(x4_1), (wrap64 (x30_1 + 1)), sA, H', ⟨by have := HK1.out; omega⟩, ⟨by (try simp only [hl4_1]); (with_reducible repeat (first | apply Kd.R_alloc | apply Kd.R_drewN | apply Kd.R_drew)); exact HO_4.out⟩, ⟨by (try simp only [hl4_1]); (with_reducible repeat (first | refine blk_drewN ?_ _ | refine blk_drew ?_ | refine blk_alloc ?_ _)); exact BK122.out⟩, ⟨bG HB.out⟩⟩
    (rw [if_pos c65] at H);(have c65b0 : (FloatKind.f64.format.order t130 (0 : Nat) == some .lt) = true := c65)
    (try (have c65b1 : decide (FloatKind.f64.format.order t130 (0 : Nat) = some .lt) = true := by simpa using c65))
    (try (have c65b2 : (FloatKind.f64.format.order t130 (0 : Nat) == some .lt) = true := by simpa using c65))
    clear c65
    by_cases c66 : (FloatKind.f64.format.order t131 (0 : Nat) == some .lt) = true
    rotate_left
    ·rw [if_neg c66] at H
     have c66b0 : (FloatKind.f64.format.order t131 (0 : Nat) == some .lt) = false := by simpa using c66
     (try (have c66b1 : decide (FloatKind.f64.format.order t131 (0 : Nat) = some .lt) = false := by simpa using c66))
     (try (have c66b2 : (FloatKind.f64.format.order t131 (0 : Nat) == some .lt) = false := by simpa using c66))
     (try (have c66b3 : ¬ (FloatKind.f64.format.order t131 (0 : Nat) = some .lt) := by simpa using c66))
     (clear c66);(have H' := aM H);(clear H);(try go_wp2);(replace HO_4 := aM (Kd.R_drew HO_4.out));(replace BK122 := aM (blk_drew BK122.out));(replace HB := aM (below_drew1 HB.out));(refine start_ (n := 9) (S := fun w' => w'.cell? ⟨gb122, 0, none⟩ = some (.int .i64 a0_0) ∧ w'.cell? ⟨gb122, 1, none⟩ = some (.slice A0_1 l0_1.length c0_1) ∧ w'.cell? ⟨gb122, 2, none⟩ = some (.slice A0_2 l0_2.length c0_2)) (ds := []) #[false, false, false, false, false, false, false, false, false] (by kernel_rfl) rfl rfl (ch3 BK122.out) (fun hHeld => ?_); refine with_tabW interp_slopes.tab9 interp_slopes.bits9 (fun HT_ HW_ => ?_));(generalize wr.drew = w80 at HO_4 BK122 HB hHeld ⊢);(refine pW 1 (some 34) #[false, true, false, false, false, false, false, false, false] ?_);(refine pW 4 (some 37) #[false, true, false, false, true, false, false, false, false] ?_);(refine pW 5 (some 38) #[false, true, false, false, true, true, false, false, false] ?_);(refine tW 0 (some 33) #[true, true, false, false, true, true, false, false, false] ?_);(refine tW 3 (some 36) #[true, true, false, true, true, true, false, false, false] ?_);(refine oW 2 (some 35) #[true, true, true, true, true, true, false, false, false] (fun K hK => ?_));(refine gW Tryz.func275 #[.agg #[.int .i64 a0_0, .slice A0_1 l0_1.length c0_1, .slice A0_2 l0_2.length c0_2], .int .i64 x30_1] ?_);(with_reducible refine (interp_rise.calls a0_0 _ _ l0_1 _ _ l0_2 x30_1 t130 _ ?side1 ?side2 ?side3 ?side4 A27.out).mono ?_)
     (case side1 => exact cA (Kd.C_below HR0_1.out HB.out))
     (case side2 => exact HC0_1.out)
     (case side3 => exact cA (Kd.C_below HR0_2.out HB.out))
     (case side4 => exact HC0_2.out)
     (rintro e w81 ⟨rfl, hb⟩);(refine ⟨_, rfl, ?_⟩);(replace HO_4 := rB HO_4 hb);(replace BK122 := kB BK122 hb);(replace HB := gB HB hb)
     (try clear hb)
     (try clear hb2)
     (try clear hk)
     (try clear hi)
     (refine hK.out _ _ (ch3 BK122.out) (fun hHeld => ?_));(clear hK K);(refine nW ?_);(refine oW 6 (some 39) #[true, true, true, true, true, true, true, false, false] (fun K hK => ?_));(refine gW Tryz.func275 #[.agg #[.int .i64 a0_0, .slice A0_1 l0_1.length c0_1, .slice A0_2 l0_2.length c0_2], .int .i64 (wrap64 (x30_1 + 1))] ?_);(with_reducible refine (interp_rise.calls a0_0 _ _ l0_1 _ _ l0_2 (wrap64 (x30_1 + 1)) t131 _ ?side1 ?side2 ?side3 ?side4 A28.out).mono ?_)
     (case side1 => exact cA (Kd.C_below HR0_1.out HB.out))
     (case side2 => exact HC0_1.out)
     (case side3 => exact cA (Kd.C_below HR0_2.out HB.out))
     (case side4 => exact HC0_2.out)
     (rintro e w82 ⟨rfl, hb⟩);(refine ⟨_, rfl, ?_⟩);(replace HO_4 := rB HO_4 hb);(replace BK122 := kB BK122 hb);(replace HB := gB HB hb)
     (try clear hb)
     (try clear hb2)
     (try clear hk)
     (try clear hi)
     (refine hK.out _ _ (ch3 BK122.out) (fun hHeld => ?_));(clear hK K);(refine nW ?_);(refine pW 7 (some 6) #[true, true, true, true, true, true, true, true, false] ?_);(refine pW 8 (some 7) #[true, true, true, true, true, true, true, true, true] ?_);(refine done_ (done_of HT_.out (by kernel_rfl)) ?_);(try go_wp2)
     (try simp only [← hl4_1])
     go_roundg k1
     case measure => have := HK1.out; omega
     case rel => exact ⟨(x4_1), (wrap64 (x30_1 + 1)), sA, H', ⟨by have := HK1.out; omega⟩, ⟨by (try simp only [hl4_1]); (with_reducible repeat (first | apply Kd.R_alloc | apply Kd.R_drewN | apply Kd.R_drew)); exact HO_4.out⟩, ⟨by (try simp only [hl4_1]); (with_reducible repeat (first | refine blk_drewN ?_ _ | refine blk_drew ?_ | refine blk_alloc ?_ _)); exact BK122.out⟩, ⟨bG HB.out⟩⟩
    (rw [if_pos c66] at H);(have c66b0 : (FloatKind.f64.format.order t131 (0 : Nat) == some .lt) = true := c66)
    (try (have c66b1 : decide (FloatKind.f64.format.order t131 (0 : Nat) = some .lt) = true := by simpa using c66))
    (try (have c66b2 : (FloatKind.f64.format.order t131 (0 : Nat) == some .lt) = true := by simpa using c66))
    (clear c66);(revert H);(refine ifP fun c67 H => ?_);(have c67b0 := eq_true c67);(have c67b1 : decide (fdivK (4607182418800017408 : Nat) t130 = true) = true := decide_eq_true c67);(clear c67);(revert H);(refine ifP fun c68 H => ?_);(have c68b0 := eq_true c68);(have c68b1 : decide (fdivK (4607182418800017408 : Nat) t131 = true) = true := decide_eq_true c68);(clear c68);(revert H);(refine ifP fun c69 H => ?_);(have c69b0 := eq_true c69);(have c69b1 : decide (faddK (fdivV (4607182418800017408 : Nat) t130) (fdivV (4607182418800017408 : Nat) t131) = true) = true := decide_eq_true c69);(clear c69);(revert H);(refine ifP fun c70 H => ?_);(have c70b0 := eq_true c70);(have c70b1 : decide (fdivK (4611686018427387904 : Nat) (faddV (fdivV (4607182418800017408 : Nat) t130) (fdivV (4607182418800017408 : Nat) t131)) = true) = true := decide_eq_true c70);(clear c70);(generalize hji71 : (wrap64 (x30_1 + 1)) = ji71 at H)
    (try rw [hji71] at A27)
    (try rw [hji71] at A28)
    (have hji71w : (IntKind.i64.wrap (x30_1 + 1)) = ji71 := (i64_w _).trans hji71);(revert H);(refine ifP fun c72 H => ?_);(have c72b0 := decide_eq_true c72);(clear c72);(revert H);(refine ifP fun c73 H => ?_);(have c73b0 := decide_eq_true c73);(clear c73);(generalize hy134 : (x4_1.set ((ji71) : Int).toNat (fdivV (4611686018427387904 : Nat) (faddV (fdivV (4607182418800017408 : Nat) t130) (fdivV (4607182418800017408 : Nat) t131)))) = y134 at H);(replace hy134 := hy134.symm)
    (try (revert H; (with_reducible refine sE y134 ?_); intro H))
    (have Ny134 := aM hy134);(clear hy134);(have H' := aM H);(clear H);(try go_wp2);(replace HO_4 := aM (Kd.R_drew HO_4.out));(replace BK122 := aM (blk_drew BK122.out));(replace HB := aM (below_drew1 HB.out));(refine start_ (n := 9) (S := fun w' => w'.cell? ⟨gb122, 0, none⟩ = some (.int .i64 a0_0) ∧ w'.cell? ⟨gb122, 1, none⟩ = some (.slice A0_1 l0_1.length c0_1) ∧ w'.cell? ⟨gb122, 2, none⟩ = some (.slice A0_2 l0_2.length c0_2)) (ds := []) #[false, false, false, false, false, false, false, false, false] (by kernel_rfl) rfl rfl (ch3 BK122.out) (fun hHeld => ?_); refine with_tabW interp_slopes.tab9 interp_slopes.bits9 (fun HT_ HW_ => ?_));(generalize wr.drew = w75 at HO_4 BK122 HB hHeld ⊢);(refine pW 1 (some 34) #[false, true, false, false, false, false, false, false, false] ?_);(refine pW 4 (some 37) #[false, true, false, false, true, false, false, false, false] ?_);(refine pW 5 (some 38) #[false, true, false, false, true, true, false, false, false] ?_);(refine tW 0 (some 33) #[true, true, false, false, true, true, false, false, false] ?_);(refine tW 3 (some 36) #[true, true, false, true, true, true, false, false, false] ?_);(refine oW 2 (some 35) #[true, true, true, true, true, true, false, false, false] (fun K hK => ?_));(refine gW Tryz.func275 #[.agg #[.int .i64 a0_0, .slice A0_1 l0_1.length c0_1, .slice A0_2 l0_2.length c0_2], .int .i64 x30_1] ?_);(with_reducible refine (interp_rise.calls a0_0 _ _ l0_1 _ _ l0_2 x30_1 t130 _ ?side1 ?side2 ?side3 ?side4 A27.out).mono ?_)
    (case side1 => exact cA (Kd.C_below HR0_1.out HB.out))
    (case side2 => exact HC0_1.out)
    (case side3 => exact cA (Kd.C_below HR0_2.out HB.out))
    (case side4 => exact HC0_2.out)
    (rintro e w76 ⟨rfl, hb⟩);(refine ⟨_, rfl, ?_⟩);(replace HO_4 := rB HO_4 hb);(replace BK122 := kB BK122 hb);(replace HB := gB HB hb)
    (try clear hb)
    (try clear hb2)
    (try clear hk)
    (try clear hi)
    (refine hK.out _ _ (ch3 BK122.out) (fun hHeld => ?_));(clear hK K);(refine nW ?_);(refine oW 6 (some 39) #[true, true, true, true, true, true, true, false, false] (fun K hK => ?_));(refine goes_ Tryz.func275 (by kernel_rfl) rfl #[.agg #[.int .i64 a0_0, .slice A0_1 l0_1.length c0_1, .slice A0_2 l0_2.length c0_2], .int .i64 ji71] (by rfl) rfl rfl (by (try simp only [List.map_toArray, List.map_cons, List.map_nil]); first | done | (simp only [hji71]; rfl) | rfl | (simp only [List.length_drop, List.length_take]; rfl)) ?_);(with_reducible refine (interp_rise.calls a0_0 _ _ l0_1 _ _ l0_2 ji71 t131 _ ?side1 ?side2 ?side3 ?side4 A28.out).mono ?_)
    (case side1 => exact cA (Kd.C_below HR0_1.out HB.out))
    (case side2 => exact HC0_1.out)
    (case side3 => exact cA (Kd.C_below HR0_2.out HB.out))
    (case side4 => exact HC0_2.out)
    (rintro e w77 ⟨rfl, hb⟩);(refine ⟨_, rfl, ?_⟩);(replace HO_4 := rB HO_4 hb);(replace BK122 := kB BK122 hb);(replace HB := gB HB hb)
    (try clear hb)
    (try clear hb2)
    (try clear hk)
    (try clear hi)
    (refine hK.out _ _ (ch3 BK122.out) (fun hHeld => ?_));(clear hK K);(refine nW ?_);(refine pW 7 (some 6) #[true, true, true, true, true, true, true, true, false] ?_);(refine pW 8 (some 7) #[true, true, true, true, true, true, true, true, true] ?_);(refine done_ (done_of HT_.out (by kernel_rfl)) ?_);(have p74 : 0 ≤ ((ji71) : Int) := of_decide_eq_true asA);(have q74 : ((ji71) : Int) < ((x4_1.length : Int) : Int) := of_decide_eq_true asA);(obtain ⟨hx74_0, hf74_0⟩ := Kd.R_celln (0 : Nat) HO_4.out ((ji71) : Int) p74 q74)
    (try rw [show ((0 : Int)).toNat = 0 from rfl] at hx74_0)
    (try rw [show ((0 : Int)).toNat = 0 from rfl] at hf74_0)
    (replace p74 := eq_true p74);(replace q74 := eq_true q74);(obtain ⟨hy78_, hz78_⟩ := Kd.R_celln (0 : Nat) HO_4.out ((ji71) : Int) (of_decide_eq_true asA) (of_decide_eq_true asA));(have HP78 := Kd.R_putg HO_4.out ((ji71) : Int) (fdivV (4611686018427387904 : Nat) (faddV (fdivV (4607182418800017408 : Nat) t130) (fdivV (4607182418800017408 : Nat) t131))));(try go_wp2_with (first | ((with_reducible refine gate_store (t := 30) (p := 63) rfl ?_); refine store_event (t := 30) (p := 63) (v := ?vo_w79) (w1 := (w77.setCell ⟨go12, ((ji71) : Int).toNat, none⟩ (.float .f64 (fdivV (4611686018427387904 : Nat) (faddV (fdivV (4607182418800017408 : Nat) t130) (fdivV (4607182418800017408 : Nat) t131)))))) ?hg ?ho ?hn ?hr ?_; (case ho => rfl); (case hg => rfl); (case hn => rfl); (case hr => first | (go_simp; done) | (go_simp; rfl)); intro w79 hw; have hg : w77.grownBy w79 (some go12) := (by rw [hw]; exact HP78.2); have hp_ : Kd.R Kd.flt 30 w79 w.heap.size (fun _ => True) (.slice (some ⟨go12, 0, none⟩) x4_1.length co12) y134 := (by rw [hw, Ny134.out]; exact HP78.1); clear HP78; replace BK122 := kN BK122 hg (Kd.R_ne HO_4.out BK122.out (by decide)); replace HO_4 := aM hp_; replace HB := aM (by rw [hw]; exact below_set (HB.out) GB12.out : Below w.heap.size w w79); clear hg hw hp_)))
    (try simp only [← hl4_1])
    go_roundg k1
    case measure => have := HK1.out; omega
    case rel => exact ⟨(y134), (ji71), (by first | rfl | (simp; done) | (simp only [← hji71] <;> (first | rfl | simp)) | (simp [*]; done)), H', ⟨by have := HK1.out; omega⟩, ⟨by (try simp only [hl4_1]); (with_reducible repeat (first | apply Kd.R_alloc | apply Kd.R_drewN | apply Kd.R_drew)); exact HO_4.out⟩, ⟨by (try simp only [hl4_1]); (with_reducible repeat (first | refine blk_drewN ?_ _ | refine blk_drew ?_ | refine blk_alloc ?_ _)); exact BK122.out⟩, ⟨bG HB.out⟩⟩
   (rw [if_pos c29] at H);(have c29b0 : (FloatKind.f64.format.order t130 (0 : Nat) == some .gt) = true := c29)
   (try (have c29b1 : decide (FloatKind.f64.format.order t130 (0 : Nat) = some .gt) = true := by simpa using c29))
   (try (have c29b2 : (FloatKind.f64.format.order t130 (0 : Nat) == some .gt) = true := by simpa using c29))
   clear c29
   by_cases c30 : (FloatKind.f64.format.order t131 (0 : Nat) == some .gt) = true
   ·rw [if_pos c30] at H
    have c30b0 : (FloatKind.f64.format.order t131 (0 : Nat) == some .gt) = true := c30
    (try (have c30b1 : decide (FloatKind.f64.format.order t131 (0 : Nat) = some .gt) = true := by simpa using c30))
    (try (have c30b2 : (FloatKind.f64.format.order t131 (0 : Nat) == some .gt) = true := by simpa using c30))
    (clear c30);(revert H);(refine ifP fun c31 H => ?_);(have c31b0 := eq_true c31);(have c31b1 : decide (fdivK (4607182418800017408 : Nat) t130 = true) = true := decide_eq_true c31);(clear c31);(revert H);(refine ifP fun c32 H => ?_);(have c32b0 := eq_true c32);(have c32b1 : decide (fdivK (4607182418800017408 : Nat) t131 = true) = true := decide_eq_true c32);(clear c32);(revert H);(refine ifP fun c33 H => ?_);(have c33b0 := eq_true c33);(have c33b1 : decide (faddK (fdivV (4607182418800017408 : Nat) t130) (fdivV (4607182418800017408 : Nat) t131) = true) = true := decide_eq_true c33);(clear c33);(revert H);(refine ifP fun c34 H => ?_);(have c34b0 := eq_true c34);(have c34b1 : decide (fdivK (4611686018427387904 : Nat) (faddV (fdivV (4607182418800017408 : Nat) t130) (fdivV (4607182418800017408 : Nat) t131)) = true) = true := decide_eq_true c34);(clear c34);(generalize hji35 : (wrap64 (x30_1 + 1)) = ji35 at H)
    (try rw [hji35] at A27)
    (try rw [hji35] at A28)
    (have hji35w : (IntKind.i64.wrap (x30_1 + 1)) = ji35 := (i64_w _).trans hji35);(revert H);(refine ifP fun c36 H => ?_);(have c36b0 := decide_eq_true c36);(clear c36);(revert H);(refine ifP fun c37 H => ?_);(have c37b0 := decide_eq_true c37);(clear c37);(generalize hy132 : (x4_1.set ((ji35) : Int).toNat (fdivV (4611686018427387904 : Nat) (faddV (fdivV (4607182418800017408 : Nat) t130) (fdivV (4607182418800017408 : Nat) t131)))) = y132 at H);(replace hy132 := hy132.symm)
    (try (revert H; (with_reducible refine sE y132 ?_); intro H))
    (have Ny132 := aM hy132);(clear hy132);(have H' := aM H);(clear H);(try go_wp2);(replace HO_4 := aM (Kd.R_drew HO_4.out));(replace BK122 := aM (blk_drew BK122.out));(replace HB := aM (below_drew1 HB.out));(refine start_ (n := 9) (S := fun w' => w'.cell? ⟨gb122, 0, none⟩ = some (.int .i64 a0_0) ∧ w'.cell? ⟨gb122, 1, none⟩ = some (.slice A0_1 l0_1.length c0_1) ∧ w'.cell? ⟨gb122, 2, none⟩ = some (.slice A0_2 l0_2.length c0_2)) (ds := []) #[false, false, false, false, false, false, false, false, false] (by kernel_rfl) rfl rfl (ch3 BK122.out) (fun hHeld => ?_); refine with_tabW interp_slopes.tab9 interp_slopes.bits9 (fun HT_ HW_ => ?_));(generalize wr.drew = w39 at HO_4 BK122 HB hHeld ⊢);(refine pW 1 (some 34) #[false, true, false, false, false, false, false, false, false] ?_);(refine pW 4 (some 37) #[false, true, false, false, true, false, false, false, false] ?_);(refine pW 5 (some 38) #[false, true, false, false, true, true, false, false, false] ?_);(refine tW 0 (some 33) #[true, true, false, false, true, true, false, false, false] ?_);(refine tW 3 (some 36) #[true, true, false, true, true, true, false, false, false] ?_);(refine oW 2 (some 35) #[true, true, true, true, true, true, false, false, false] (fun K hK => ?_));(refine gW Tryz.func275 #[.agg #[.int .i64 a0_0, .slice A0_1 l0_1.length c0_1, .slice A0_2 l0_2.length c0_2], .int .i64 x30_1] ?_);(with_reducible refine (interp_rise.calls a0_0 _ _ l0_1 _ _ l0_2 x30_1 t130 _ ?side1 ?side2 ?side3 ?side4 A27.out).mono ?_)
    (case side1 => exact cA (Kd.C_below HR0_1.out HB.out))
    (case side2 => exact HC0_1.out)
    (case side3 => exact cA (Kd.C_below HR0_2.out HB.out))
    (case side4 => exact HC0_2.out)
    (rintro e w40 ⟨rfl, hb⟩);(refine ⟨_, rfl, ?_⟩);(replace HO_4 := rB HO_4 hb);(replace BK122 := kB BK122 hb);(replace HB := gB HB hb)
    (try clear hb)
    (try clear hb2)
    (try clear hk)
    (try clear hi)
    (refine hK.out _ _ (ch3 BK122.out) (fun hHeld => ?_));(clear hK K);(refine nW ?_);(refine oW 6 (some 39) #[true, true, true, true, true, true, true, false, false] (fun K hK => ?_));(refine goes_ Tryz.func275 (by kernel_rfl) rfl #[.agg #[.int .i64 a0_0, .slice A0_1 l0_1.length c0_1, .slice A0_2 l0_2.length c0_2], .int .i64 ji35] (by rfl) rfl rfl (by (try simp only [List.map_toArray, List.map_cons, List.map_nil]); first | done | (simp only [hji35]; rfl) | rfl | (simp only [List.length_drop, List.length_take]; rfl)) ?_);(with_reducible refine (interp_rise.calls a0_0 _ _ l0_1 _ _ l0_2 ji35 t131 _ ?side1 ?side2 ?side3 ?side4 A28.out).mono ?_)
    (case side1 => exact cA (Kd.C_below HR0_1.out HB.out))
    (case side2 => exact HC0_1.out)
    (case side3 => exact cA (Kd.C_below HR0_2.out HB.out))
    (case side4 => exact HC0_2.out)
    (rintro e w41 ⟨rfl, hb⟩);(refine ⟨_, rfl, ?_⟩);(replace HO_4 := rB HO_4 hb);(replace BK122 := kB BK122 hb);(replace HB := gB HB hb)
    (try clear hb)
    (try clear hb2)
    (try clear hk)
    (try clear hi)
    (refine hK.out _ _ (ch3 BK122.out) (fun hHeld => ?_));(clear hK K);(refine nW ?_);(refine pW 7 (some 6) #[true, true, true, true, true, true, true, true, false] ?_);(refine pW 8 (some 7) #[true, true, true, true, true, true, true, true, true] ?_);(refine done_ (done_of HT_.out (by kernel_rfl)) ?_);(have p38 : 0 ≤ ((ji35) : Int) := of_decide_eq_true asA);(have q38 : ((ji35) : Int) < ((x4_1.length : Int) : Int) := of_decide_eq_true asA);(obtain ⟨hx38_0, hf38_0⟩ := Kd.R_celln (0 : Nat) HO_4.out ((ji35) : Int) p38 q38)
    (try rw [show ((0 : Int)).toNat = 0 from rfl] at hx38_0)
    (try rw [show ((0 : Int)).toNat = 0 from rfl] at hf38_0)
    (replace p38 := eq_true p38);(replace q38 := eq_true q38);(obtain ⟨hy42_, hz42_⟩ := Kd.R_celln (0 : Nat) HO_4.out ((ji35) : Int) (of_decide_eq_true asA) (of_decide_eq_true asA));(have HP42 := Kd.R_putg HO_4.out ((ji35) : Int) (fdivV (4611686018427387904 : Nat) (faddV (fdivV (4607182418800017408 : Nat) t130) (fdivV (4607182418800017408 : Nat) t131))));(try go_wp2_with (first | ((with_reducible refine gate_store (t := 30) (p := 63) rfl ?_); refine store_event (t := 30) (p := 63) (v := ?vo_w43) (w1 := (w41.setCell ⟨go12, ((ji35) : Int).toNat, none⟩ (.float .f64 (fdivV (4611686018427387904 : Nat) (faddV (fdivV (4607182418800017408 : Nat) t130) (fdivV (4607182418800017408 : Nat) t131)))))) ?hg ?ho ?hn ?hr ?_; (case ho => rfl); (case hg => rfl); (case hn => rfl); (case hr => first | (go_simp; done) | (go_simp; rfl)); intro w43 hw; have hg : w41.grownBy w43 (some go12) := (by rw [hw]; exact HP42.2); have hp_ : Kd.R Kd.flt 30 w43 w.heap.size (fun _ => True) (.slice (some ⟨go12, 0, none⟩) x4_1.length co12) y132 := (by rw [hw, Ny132.out]; exact HP42.1); clear HP42; replace BK122 := kN BK122 hg (Kd.R_ne HO_4.out BK122.out (by decide)); replace HO_4 := aM hp_; replace HB := aM (by rw [hw]; exact below_set (HB.out) GB12.out : Below w.heap.size w w43); clear hg hw hp_)))
    (try simp only [← hl4_1])
    go_roundg k1
    case measure => have := HK1.out; omega
    case rel => exact ⟨(y132), (ji35), (by first | rfl | (simp; done) | (simp only [← hji35] <;> (first | rfl | simp)) | (simp [*]; done)), H', ⟨by have := HK1.out; omega⟩, ⟨by (try simp only [hl4_1]); (with_reducible repeat (first | apply Kd.R_alloc | apply Kd.R_drewN | apply Kd.R_drew)); exact HO_4.out⟩, ⟨by (try simp only [hl4_1]); (with_reducible repeat (first | refine blk_drewN ?_ _ | refine blk_drew ?_ | refine blk_alloc ?_ _)); exact BK122.out⟩, ⟨bG HB.out⟩⟩
   (rw [if_neg c30] at H);(have c30b0 : (FloatKind.f64.format.order t131 (0 : Nat) == some .gt) = false := by simpa using c30)
   (try (have c30b1 : decide (FloatKind.f64.format.order t131 (0 : Nat) = some .gt) = false := by simpa using c30))
   (try (have c30b2 : (FloatKind.f64.format.order t131 (0 : Nat) == some .gt) = false := by simpa using c30))
   (try (have c30b3 : ¬ (FloatKind.f64.format.order t131 (0 : Nat) = some .gt) := by simpa using c30))
   clear c30
   by_cases c44 : (FloatKind.f64.format.order t130 (0 : Nat) == some .lt) = true
   rotate_left
   ·rw [if_neg c44] at H
    have c44b0 : (FloatKind.f64.format.order t130 (0 : Nat) == some .lt) = false := by simpa using c44
    (try (have c44b1 : decide (FloatKind.f64.format.order t130 (0 : Nat) = some .lt) = false := by simpa using c44))
    (try (have c44b2 : (FloatKind.f64.format.order t130 (0 : Nat) == some .lt) = false := by simpa using c44))
    (try (have c44b3 : ¬ (FloatKind.f64.format.order t130 (0 : Nat) = some .lt) := by simpa using c44))
    (clear c44);(have H' := aM H);(clear H);(try go_wp2);(replace HO_4 := aM (Kd.R_drew HO_4.out));(replace BK122 := aM (blk_drew BK122.out));(replace HB := aM (below_drew1 HB.out));(refine start_ (n := 9) (S := fun w' => w'.cell? ⟨gb122, 0, none⟩ = some (.int .i64 a0_0) ∧ w'.cell? ⟨gb122, 1, none⟩ = some (.slice A0_1 l0_1.length c0_1) ∧ w'.cell? ⟨gb122, 2, none⟩ = some (.slice A0_2 l0_2.length c0_2)) (ds := []) #[false, false, false, false, false, false, false, false, false] (by kernel_rfl) rfl rfl (ch3 BK122.out) (fun hHeld => ?_); refine with_tabW interp_slopes.tab9 interp_slopes.bits9 (fun HT_ HW_ => ?_));(generalize wr.drew = w62 at HO_4 BK122 HB hHeld ⊢);(refine pW 1 (some 34) #[false, true, false, false, false, false, false, false, false] ?_);(refine pW 4 (some 37) #[false, true, false, false, true, false, false, false, false] ?_);(refine pW 5 (some 38) #[false, true, false, false, true, true, false, false, false] ?_);(refine tW 0 (some 33) #[true, true, false, false, true, true, false, false, false] ?_);(refine tW 3 (some 36) #[true, true, false, true, true, true, false, false, false] ?_);(refine oW 2 (some 35) #[true, true, true, true, true, true, false, false, false] (fun K hK => ?_));(refine gW Tryz.func275 #[.agg #[.int .i64 a0_0, .slice A0_1 l0_1.length c0_1, .slice A0_2 l0_2.length c0_2], .int .i64 x30_1] ?_);(with_reducible refine (interp_rise.calls a0_0 _ _ l0_1 _ _ l0_2 x30_1 t130 _ ?side1 ?side2 ?side3 ?side4 A27.out).mono ?_)
    (case side1 => exact cA (Kd.C_below HR0_1.out HB.out))
    (case side2 => exact HC0_1.out)
    (case side3 => exact cA (Kd.C_below HR0_2.out HB.out))
    (case side4 => exact HC0_2.out)
    (rintro e w63 ⟨rfl, hb⟩);(refine ⟨_, rfl, ?_⟩);(replace HO_4 := rB HO_4 hb);(replace BK122 := kB BK122 hb);(replace HB := gB HB hb)
    (try clear hb)
    (try clear hb2)
    (try clear hk)
    (try clear hi)
    (refine hK.out _ _ (ch3 BK122.out) (fun hHeld => ?_));(clear hK K);(refine nW ?_);(refine oW 6 (some 39) #[true, true, true, true, true, true, true, false, false] (fun K hK => ?_));(refine gW Tryz.func275 #[.agg #[.int .i64 a0_0, .slice A0_1 l0_1.length c0_1, .slice A0_2 l0_2.length c0_2], .int .i64 (wrap64 (x30_1 + 1))] ?_);(with_reducible refine (interp_rise.calls a0_0 _ _ l0_1 _ _ l0_2 (wrap64 (x30_1 + 1)) t131 _ ?side1 ?side2 ?side3 ?side4 A28.out).mono ?_)
    (case side1 => exact cA (Kd.C_below HR0_1.out HB.out))
    (case side2 => exact HC0_1.out)
    (case side3 => exact cA (Kd.C_below HR0_2.out HB.out))
    (case side4 => exact HC0_2.out)
    (rintro e w64 ⟨rfl, hb⟩);(refine ⟨_, rfl, ?_⟩);(replace HO_4 := rB HO_4 hb);(replace BK122 := kB BK122 hb);(replace HB := gB HB hb)
    (try clear hb)
    (try clear hb2)
    (try clear hk)
    (try clear hi)
    (refine hK.out _ _ (ch3 BK122.out) (fun hHeld => ?_));(clear hK K);(refine nW ?_);(refine pW 7 (some 6) #[true, true, true, true, true, true, true, true, false] ?_);(refine pW 8 (some 7) #[true, true, true, true, true, true, true, true, true] ?_);(refine done_ (done_of HT_.out (by kernel_rfl)) ?_);(try go_wp2)
    (try simp only [← hl4_1])
    go_roundg k1
    case measure => have := HK1.out; omega
    case rel => exact ⟨(x4_1), (wrap64 (x30_1 + 1)), sA, H', ⟨by have := HK1.out; omega⟩, ⟨by (try simp only [hl4_1]); (with_reducible repeat (first | apply Kd.R_alloc | apply Kd.R_drewN | apply Kd.R_drew)); exact HO_4.out⟩, ⟨by (try simp only [hl4_1]); (with_reducible repeat (first | refine blk_drewN ?_ _ | refine blk_drew ?_ | refine blk_alloc ?_ _)); exact BK122.out⟩, ⟨bG HB.out⟩⟩
   (rw [if_pos c44] at H);(have c44b0 : (FloatKind.f64.format.order t130 (0 : Nat) == some .lt) = true := c44)
   (try (have c44b1 : decide (FloatKind.f64.format.order t130 (0 : Nat) = some .lt) = true := by simpa using c44))
   (try (have c44b2 : (FloatKind.f64.format.order t130 (0 : Nat) == some .lt) = true := by simpa using c44))
   clear c44
   by_cases c45 : (FloatKind.f64.format.order t131 (0 : Nat) == some .lt) = true
   rotate_left
   ·rw [if_neg c45] at H
    have c45b0 : (FloatKind.f64.format.order t131 (0 : Nat) == some .lt) = false := by simpa using c45
    (try (have c45b1 : decide (FloatKind.f64.format.order t131 (0 : Nat) = some .lt) = false := by simpa using c45))
    (try (have c45b2 : (FloatKind.f64.format.order t131 (0 : Nat) == some .lt) = false := by simpa using c45))
    (try (have c45b3 : ¬ (FloatKind.f64.format.order t131 (0 : Nat) = some .lt) := by simpa using c45))
    (clear c45);(have H' := aM H);(clear H);(try go_wp2);(replace HO_4 := aM (Kd.R_drew HO_4.out));(replace BK122 := aM (blk_drew BK122.out));(replace HB := aM (below_drew1 HB.out));(refine start_ (n := 9) (S := fun w' => w'.cell? ⟨gb122, 0, none⟩ = some (.int .i64 a0_0) ∧ w'.cell? ⟨gb122, 1, none⟩ = some (.slice A0_1 l0_1.length c0_1) ∧ w'.cell? ⟨gb122, 2, none⟩ = some (.slice A0_2 l0_2.length c0_2)) (ds := []) #[false, false, false, false, false, false, false, false, false] (by kernel_rfl) rfl rfl (ch3 BK122.out) (fun hHeld => ?_); refine with_tabW interp_slopes.tab9 interp_slopes.bits9 (fun HT_ HW_ => ?_));(generalize wr.drew = w59 at HO_4 BK122 HB hHeld ⊢);(refine pW 1 (some 34) #[false, true, false, false, false, false, false, false, false] ?_);(refine pW 4 (some 37) #[false, true, false, false, true, false, false, false, false] ?_);(refine pW 5 (some 38) #[false, true, false, false, true, true, false, false, false] ?_);(refine tW 0 (some 33) #[true, true, false, false, true, true, false, false, false] ?_);(refine tW 3 (some 36) #[true, true, false, true, true, true, false, false, false] ?_);(refine oW 2 (some 35) #[true, true, true, true, true, true, false, false, false] (fun K hK => ?_));(refine gW Tryz.func275 #[.agg #[.int .i64 a0_0, .slice A0_1 l0_1.length c0_1, .slice A0_2 l0_2.length c0_2], .int .i64 x30_1] ?_);(with_reducible refine (interp_rise.calls a0_0 _ _ l0_1 _ _ l0_2 x30_1 t130 _ ?side1 ?side2 ?side3 ?side4 A27.out).mono ?_)
    (case side1 => exact cA (Kd.C_below HR0_1.out HB.out))
    (case side2 => exact HC0_1.out)
    (case side3 => exact cA (Kd.C_below HR0_2.out HB.out))
    (case side4 => exact HC0_2.out)
    (rintro e w60 ⟨rfl, hb⟩);(refine ⟨_, rfl, ?_⟩);(replace HO_4 := rB HO_4 hb);(replace BK122 := kB BK122 hb);(replace HB := gB HB hb)
    (try clear hb)
    (try clear hb2)
    (try clear hk)
    (try clear hi)
    (refine hK.out _ _ (ch3 BK122.out) (fun hHeld => ?_));(clear hK K);(refine nW ?_);(refine oW 6 (some 39) #[true, true, true, true, true, true, true, false, false] (fun K hK => ?_));(refine gW Tryz.func275 #[.agg #[.int .i64 a0_0, .slice A0_1 l0_1.length c0_1, .slice A0_2 l0_2.length c0_2], .int .i64 (wrap64 (x30_1 + 1))] ?_);(with_reducible refine (interp_rise.calls a0_0 _ _ l0_1 _ _ l0_2 (wrap64 (x30_1 + 1)) t131 _ ?side1 ?side2 ?side3 ?side4 A28.out).mono ?_)
    (case side1 => exact cA (Kd.C_below HR0_1.out HB.out))
    (case side2 => exact HC0_1.out)
    (case side3 => exact cA (Kd.C_below HR0_2.out HB.out))
    (case side4 => exact HC0_2.out)
    (rintro e w61 ⟨rfl, hb⟩);(refine ⟨_, rfl, ?_⟩);(replace HO_4 := rB HO_4 hb);(replace BK122 := kB BK122 hb);(replace HB := gB HB hb)
    (try clear hb)
    (try clear hb2)
    (try clear hk)
    (try clear hi)
    (refine hK.out _ _ (ch3 BK122.out) (fun hHeld => ?_));(clear hK K);(refine nW ?_);(refine pW 7 (some 6) #[true, true, true, true, true, true, true, true, false] ?_);(refine pW 8 (some 7) #[true, true, true, true, true, true, true, true, true] ?_);(refine done_ (done_of HT_.out (by kernel_rfl)) ?_);(try go_wp2)
    (try simp only [← hl4_1])
    go_roundg k1
    case measure => have := HK1.out; omega
    case rel => exact ⟨(x4_1), (wrap64 (x30_1 + 1)), sA, H', ⟨by have := HK1.out; omega⟩, ⟨by (try simp only [hl4_1]); (with_reducible repeat (first | apply Kd.R_alloc | apply Kd.R_drewN | apply Kd.R_drew)); exact HO_4.out⟩, ⟨by (try simp only [hl4_1]); (with_reducible repeat (first | refine blk_drewN ?_ _ | refine blk_drew ?_ | refine blk_alloc ?_ _)); exact BK122.out⟩, ⟨bG HB.out⟩⟩
   (rw [if_pos c45] at H);(have c45b0 : (FloatKind.f64.format.order t131 (0 : Nat) == some .lt) = true := c45)
   (try (have c45b1 : decide (FloatKind.f64.format.order t131 (0 : Nat) = some .lt) = true := by simpa using c45))
   (try (have c45b2 : (FloatKind.f64.format.order t131 (0 : Nat) == some .lt) = true := by simpa using c45))
   (clear c45);(revert H);(refine ifP fun c46 H => ?_);(have c46b0 := eq_true c46);(have c46b1 : decide (fdivK (4607182418800017408 : Nat) t130 = true) = true := decide_eq_true c46);(clear c46);(revert H);(refine ifP fun c47 H => ?_);(have c47b0 := eq_true c47);(have c47b1 : decide (fdivK (4607182418800017408 : Nat) t131 = true) = true := decide_eq_true c47);(clear c47);(revert H);(refine ifP fun c48 H => ?_);(have c48b0 := eq_true c48);(have c48b1 : decide (faddK (fdivV (4607182418800017408 : Nat) t130) (fdivV (4607182418800017408 : Nat) t131) = true) = true := decide_eq_true c48);(clear c48);(revert H);(refine ifP fun c49 H => ?_);(have c49b0 := eq_true c49);(have c49b1 : decide (fdivK (4611686018427387904 : Nat) (faddV (fdivV (4607182418800017408 : Nat) t130) (fdivV (4607182418800017408 : Nat) t131)) = true) = true := decide_eq_true c49);(clear c49);(generalize hji50 : (wrap64 (x30_1 + 1)) = ji50 at H)
   (try rw [hji50] at A27)
   (try rw [hji50] at A28)
   (have hji50w : (IntKind.i64.wrap (x30_1 + 1)) = ji50 := (i64_w _).trans hji50);(revert H);(refine ifP fun c51 H => ?_);(have c51b0 := decide_eq_true c51);(clear c51);(revert H);(refine ifP fun c52 H => ?_);(have c52b0 := decide_eq_true c52);(clear c52);(generalize hy133 : (x4_1.set ((ji50) : Int).toNat (fdivV (4611686018427387904 : Nat) (faddV (fdivV (4607182418800017408 : Nat) t130) (fdivV (4607182418800017408 : Nat) t131)))) = y133 at H);(replace hy133 := hy133.symm)
   (try (revert H; (with_reducible refine sE y133 ?_); intro H))
   (have Ny133 := aM hy133);(clear hy133);(have H' := aM H);(clear H);(try go_wp2);(replace HO_4 := aM (Kd.R_drew HO_4.out));(replace BK122 := aM (blk_drew BK122.out));(replace HB := aM (below_drew1 HB.out));(refine start_ (n := 9) (S := fun w' => w'.cell? ⟨gb122, 0, none⟩ = some (.int .i64 a0_0) ∧ w'.cell? ⟨gb122, 1, none⟩ = some (.slice A0_1 l0_1.length c0_1) ∧ w'.cell? ⟨gb122, 2, none⟩ = some (.slice A0_2 l0_2.length c0_2)) (ds := []) #[false, false, false, false, false, false, false, false, false] (by kernel_rfl) rfl rfl (ch3 BK122.out) (fun hHeld => ?_); refine with_tabW interp_slopes.tab9 interp_slopes.bits9 (fun HT_ HW_ => ?_));(generalize wr.drew = w54 at HO_4 BK122 HB hHeld ⊢);(refine pW 1 (some 34) #[false, true, false, false, false, false, false, false, false] ?_);(refine pW 4 (some 37) #[false, true, false, false, true, false, false, false, false] ?_);(refine pW 5 (some 38) #[false, true, false, false, true, true, false, false, false] ?_);(refine tW 0 (some 33) #[true, true, false, false, true, true, false, false, false] ?_);(refine tW 3 (some 36) #[true, true, false, true, true, true, false, false, false] ?_);(refine oW 2 (some 35) #[true, true, true, true, true, true, false, false, false] (fun K hK => ?_));(refine gW Tryz.func275 #[.agg #[.int .i64 a0_0, .slice A0_1 l0_1.length c0_1, .slice A0_2 l0_2.length c0_2], .int .i64 x30_1] ?_);(with_reducible refine (interp_rise.calls a0_0 _ _ l0_1 _ _ l0_2 x30_1 t130 _ ?side1 ?side2 ?side3 ?side4 A27.out).mono ?_)
   (case side1 => exact cA (Kd.C_below HR0_1.out HB.out))
   (case side2 => exact HC0_1.out)
   (case side3 => exact cA (Kd.C_below HR0_2.out HB.out))
   (case side4 => exact HC0_2.out)
   (rintro e w55 ⟨rfl, hb⟩);(refine ⟨_, rfl, ?_⟩);(replace HO_4 := rB HO_4 hb);(replace BK122 := kB BK122 hb);(replace HB := gB HB hb)
   (try clear hb)
   (try clear hb2)
   (try clear hk)
   (try clear hi)
   (refine hK.out _ _ (ch3 BK122.out) (fun hHeld => ?_));(clear hK K);(refine nW ?_);(refine oW 6 (some 39) #[true, true, true, true, true, true, true, false, false] (fun K hK => ?_));(refine goes_ Tryz.func275 (by kernel_rfl) rfl #[.agg #[.int .i64 a0_0, .slice A0_1 l0_1.length c0_1, .slice A0_2 l0_2.length c0_2], .int .i64 ji50] (by rfl) rfl rfl (by (try simp only [List.map_toArray, List.map_cons, List.map_nil]); first | done | (simp only [hji50]; rfl) | rfl | (simp only [List.length_drop, List.length_take]; rfl)) ?_);(with_reducible refine (interp_rise.calls a0_0 _ _ l0_1 _ _ l0_2 ji50 t131 _ ?side1 ?side2 ?side3 ?side4 A28.out).mono ?_)
   (case side1 => exact cA (Kd.C_below HR0_1.out HB.out))
   (case side2 => exact HC0_1.out)
   (case side3 => exact cA (Kd.C_below HR0_2.out HB.out))
   (case side4 => exact HC0_2.out)
   (rintro e w56 ⟨rfl, hb⟩);(refine ⟨_, rfl, ?_⟩);(replace HO_4 := rB HO_4 hb);(replace BK122 := kB BK122 hb);(replace HB := gB HB hb)
   (try clear hb)
   (try clear hb2)
   (try clear hk)
   (try clear hi)
   (refine hK.out _ _ (ch3 BK122.out) (fun hHeld => ?_));(clear hK K);(refine nW ?_);(refine pW 7 (some 6) #[true, true, true, true, true, true, true, true, false] ?_);(refine pW 8 (some 7) #[true, true, true, true, true, true, true, true, true] ?_);(refine done_ (done_of HT_.out (by kernel_rfl)) ?_);(have p53 : 0 ≤ ((ji50) : Int) := of_decide_eq_true asA);(have q53 : ((ji50) : Int) < ((x4_1.length : Int) : Int) := of_decide_eq_true asA);(obtain ⟨hx53_0, hf53_0⟩ := Kd.R_celln (0 : Nat) HO_4.out ((ji50) : Int) p53 q53)
   (try rw [show ((0 : Int)).toNat = 0 from rfl] at hx53_0)
   (try rw [show ((0 : Int)).toNat = 0 from rfl] at hf53_0)
   (replace p53 := eq_true p53);(replace q53 := eq_true q53);(obtain ⟨hy57_, hz57_⟩ := Kd.R_celln (0 : Nat) HO_4.out ((ji50) : Int) (of_decide_eq_true asA) (of_decide_eq_true asA));(have HP57 := Kd.R_putg HO_4.out ((ji50) : Int) (fdivV (4611686018427387904 : Nat) (faddV (fdivV (4607182418800017408 : Nat) t130) (fdivV (4607182418800017408 : Nat) t131))));(try go_wp2_with (first | ((with_reducible refine gate_store (t := 30) (p := 63) rfl ?_); refine store_event (t := 30) (p := 63) (v := ?vo_w58) (w1 := (w56.setCell ⟨go12, ((ji50) : Int).toNat, none⟩ (.float .f64 (fdivV (4611686018427387904 : Nat) (faddV (fdivV (4607182418800017408 : Nat) t130) (fdivV (4607182418800017408 : Nat) t131)))))) ?hg ?ho ?hn ?hr ?_; (case ho => rfl); (case hg => rfl); (case hn => rfl); (case hr => first | (go_simp; done) | (go_simp; rfl)); intro w58 hw; have hg : w56.grownBy w58 (some go12) := (by rw [hw]; exact HP57.2); have hp_ : Kd.R Kd.flt 30 w58 w.heap.size (fun _ => True) (.slice (some ⟨go12, 0, none⟩) x4_1.length co12) y133 := (by rw [hw, Ny133.out]; exact HP57.1); clear HP57; replace BK122 := kN BK122 hg (Kd.R_ne HO_4.out BK122.out (by decide)); replace HO_4 := aM hp_; replace HB := aM (by rw [hw]; exact below_set (HB.out) GB12.out : Below w.heap.size w w58); clear hg hw hp_)))
   (try simp only [← hl4_1])
   go_roundg k1
   case measure => have := HK1.out; omega
   case rel => exact ⟨(y133), (ji50), (by first | rfl | (simp; done) | (simp only [← hji50] <;> (first | rfl | simp)) | (simp [*]; done)), H', ⟨by have := HK1.out; omega⟩, ⟨by (try simp only [hl4_1]); (with_reducible repeat (first | apply Kd.R_alloc | apply Kd.R_drewN | apply Kd.R_drew)); exact HO_4.out⟩, ⟨by (try simp only [hl4_1]); (with_reducible repeat (first | refine blk_drewN ?_ _ | refine blk_drew ?_ | refine blk_alloc ?_ _)); exact BK122.out⟩, ⟨bG HB.out⟩⟩

end Go.Proofs.YtmdoljecjliehaaGreat.FP
