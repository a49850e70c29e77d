/- Written by the session's fprint.py out of the translation. -/
import Derived.Test.YtmdoljecjliehaaGreatFPx5
namespace Go.Proofs.YtmdoljecjliehaaGreat.FP
open Go.RowKit Go.Proofs.YtmdoljecjliehaaGreatW.PrintWords Go.Proofs.YtmdoljecjliehaaGreatW.PrintLast Go.Proofs.YtmdoljecjliehaaGreatW.PrintMore
attribute [local go_sem] max2_int min2_int max_two min_two max_three min_three max_four min_four   -- for this text's walks alone
open Go.Proofs.YtmdoljecjliehaaGreat.FX
attribute [local go_sem] run_store_float run_neg_float run_fmul run_fadd run_fsub run_fdiv run_ftoi isSome_setCell 
set_option linter.unusedVariables false
set_option linter.unusedSimpArgs false

mutual
def fn_Ln.j0 : Nat → Nat → Bool → Option (Nat)
 | 0, _, _ => none
 | k + 1, x0, x14 => if x14 = true then ((math_NaN.f).bind fun t183 => (some t183)) else (if (FloatKind.f64.format.order x0 (0 : Nat) == some .eq) = true then ((math_Inf.f (-1)).bind fun t184 => (some t184)) else ((math_IsInf.f x0 1).bind fun t185 => (if t185 = true then (some x0) else ((ieee_Split.f x0).bind fun bt186 => (fn_Ln.l0 k bt186.1 bt186.2.1)))))
def fn_Ln.l0 : Nat → Int → Int → Option (Nat)
 | 0, _, _ => none
 | k + 1, x3, x4 => if x3 < 4503599627370496 then (fn_Ln.l0 k (wrap64 (x3 * 2)) (wrap64 (x4 - 1))) else ((ieee_Join.f x3 (-52)).bind fun t189 => (if (FloatKind.f64.format.order t189 (4609047870845172685 : Nat) == some .gt) = true then (if fdivK t189 (4611686018427387904 : Nat) = true then (fn_Ln.j2 k (fdivV t189 (4611686018427387904 : Nat)) (wrap64 ((wrap64 (x4 + 52)) + 1))) else (none)) else (fn_Ln.j2 k t189 (wrap64 (x4 + 52)))))
def fn_Ln.j2 : Nat → Nat → Int → Option (Nat)
 | 0, _, _ => none
 | k + 1, x6, x7 => if fsubK x6 (4607182418800017408 : Nat) = true then (if faddK x6 (4607182418800017408 : Nat) = true then (if fdivK (fsubV x6 (4607182418800017408 : Nat)) (faddV x6 (4607182418800017408 : Nat)) = true then (if fmulK (fdivV (fsubV x6 (4607182418800017408 : Nat)) (faddV x6 (4607182418800017408 : Nat))) (fdivV (fsubV x6 (4607182418800017408 : Nat)) (faddV x6 (4607182418800017408 : Nat))) = true then (fn_Ln.l1 k x7 (fdivV (fsubV x6 (4607182418800017408 : Nat)) (faddV x6 (4607182418800017408 : Nat))) (fmulV (fdivV (fsubV x6 (4607182418800017408 : Nat)) (faddV x6 (4607182418800017408 : Nat))) (fdivV (fsubV x6 (4607182418800017408 : Nat)) (faddV x6 (4607182418800017408 : Nat)))) ([] : List Nat) 0) else (none)) else (none)) else (none)) else (none)
def fn_Ln.l1 : Nat → Int → Nat → Nat → List Nat → Int → Option (Nat)
 | 0, _, _, _, _, _ => none
 | k + 1, x7, x8, x9, x10, x61 => if x61 < 11 then (if fdivK (4607182418800017408 : Nat) (floatOfInt .f64 (wrap64 ((wrap64 (2 * x61)) + 1))) = true then (if x10.length < 17592186044416 then (fn_Ln.l1 k x7 x8 x9 (x10 ++ [fdivV (4607182418800017408 : Nat) (floatOfInt .f64 (wrap64 ((wrap64 (2 * x61)) + 1)))]) (wrap64 (x61 + 1))) else (none)) else (none)) else (if fmulK (4611686018427387904 : Nat) x8 = true then ((fn_Horner.f k x10 x9).bind fun t193 => (if fmulK (fmulV (4611686018427387904 : Nat) x8) t193 = true then (if fmulK (floatOfInt .f64 x7) (4604418534311723008 : Nat) = true then (if fmulK (floatOfInt .f64 x7) (4461442080421002358 : Nat) = true then (if faddK (fmulV (fmulV (4611686018427387904 : Nat) x8) t193) (fmulV (floatOfInt .f64 x7) (4461442080421002358 : Nat)) = true then (if faddK (fmulV (floatOfInt .f64 x7) (4604418534311723008 : Nat)) (faddV (fmulV (fmulV (4611686018427387904 : Nat) x8) t193) (fmulV (floatOfInt .f64 x7) (4461442080421002358 : Nat))) = true then (some (faddV (fmulV (floatOfInt .f64 x7) (4604418534311723008 : Nat)) (faddV (fmulV (fmulV (4611686018427387904 : Nat) x8) t193) (fmulV (floatOfInt .f64 x7) (4461442080421002358 : Nat))))) else (none)) else (none)) else (none)) else (none)) else (none))) else (none))
end
def fn_Ln.f (k : Nat) (a0 : Nat) : Option (Nat) := if (FloatKind.f64.format.order a0 a0 != some .eq) = true then (fn_Ln.j0 k a0 true) else (fn_Ln.j0 k a0 (FloatKind.f64.format.order a0 (0 : Nat) == some .lt))
theorem fn_Ln.mono_l : ∀ k, (∀ y0 y1, LeO (fn_Ln.j0 k y0 y1) (fn_Ln.j0 (k + 1) y0 y1)) ∧ (∀ y0 y1, LeO (fn_Ln.l0 k y0 y1) (fn_Ln.l0 (k + 1) y0 y1)) ∧ (∀ y0 y1, LeO (fn_Ln.j2 k y0 y1) (fn_Ln.j2 (k + 1) y0 y1)) ∧ (∀ y0 y1 y2 y3 y4, LeO (fn_Ln.l1 k y0 y1 y2 y3 y4) (fn_Ln.l1 (k + 1) y0 y1 y2 y3 y4))
 | 0 => ⟨fun _ _ r h => by simp [fn_Ln.j0] at h, fun _ _ r h => by simp [fn_Ln.l0] at h, fun _ _ r h => by simp [fn_Ln.j2] at h, fun _ _ _ _ _ r h => by simp [fn_Ln.l1] at h⟩
 | k + 1 => by
  (obtain ⟨ih0, ih1, ih2, ih3⟩ := fn_Ln.mono_l k);(refine ⟨?_, ?_, ?_, ?_⟩)
  ·intro y0 y1
   unfold fn_Ln.j0
   repeat' first
   | (with_reducible exact ih0 _ _)
   | (with_reducible exact ih1 _ _)
   | (with_reducible exact ih2 _ _)
   | (with_reducible exact ih3 _ _ _ _ _)
   | (with_reducible exact fn_Horner.mono _ _ _)
   | (with_reducible exact LeO.refl _)
   | (with_reducible exact LeO.none _)
   | (with_reducible refine LeO.ite ?_ ?_)
   | (with_reducible refine LeO.bind ?_ (fun _ => ?_))
   | exact ih0 _ _
   | exact ih1 _ _
   | exact ih2 _ _
   | exact ih3 _ _ _ _ _
   | exact fn_Horner.mono _ _ _
   | exact LeO.none _
   | refine LeO.ite ?_ ?_
   | refine LeO.bind ?_ (fun _ => ?_)
  ·intro y0 y1
   unfold fn_Ln.l0
   repeat' first
   | (with_reducible exact ih0 _ _)
   | (with_reducible exact ih1 _ _)
   | (with_reducible exact ih2 _ _)
   | (with_reducible exact ih3 _ _ _ _ _)
   | (with_reducible exact fn_Horner.mono _ _ _)
   | (with_reducible exact LeO.refl _)
   | (with_reducible exact LeO.none _)
   | (with_reducible refine LeO.ite ?_ ?_)
   | (with_reducible refine LeO.bind ?_ (fun _ => ?_))
   | exact ih0 _ _
   | exact ih1 _ _
   | exact ih2 _ _
   | exact ih3 _ _ _ _ _
   | exact fn_Horner.mono _ _ _
   | exact LeO.none _
   | refine LeO.ite ?_ ?_
   | refine LeO.bind ?_ (fun _ => ?_)
  ·intro y0 y1
   unfold fn_Ln.j2
   repeat' first
   | (with_reducible exact ih0 _ _)
   | (with_reducible exact ih1 _ _)
   | (with_reducible exact ih2 _ _)
   | (with_reducible exact ih3 _ _ _ _ _)
   | (with_reducible exact fn_Horner.mono _ _ _)
   | (with_reducible exact LeO.refl _)
   | (with_reducible exact LeO.none _)
   | (with_reducible refine LeO.ite ?_ ?_)
   | (with_reducible refine LeO.bind ?_ (fun _ => ?_))
   | exact ih0 _ _
   | exact ih1 _ _
   | exact ih2 _ _
   | exact ih3 _ _ _ _ _
   | exact fn_Horner.mono _ _ _
   | exact LeO.none _
   | refine LeO.ite ?_ ?_
   | refine LeO.bind ?_ (fun _ => ?_)
  ·intro y0 y1 y2 y3 y4
   unfold fn_Ln.l1
   repeat' first
   | (with_reducible exact ih0 _ _)
   | (with_reducible exact ih1 _ _)
   | (with_reducible exact ih2 _ _)
   | (with_reducible exact ih3 _ _ _ _ _)
   | (with_reducible exact fn_Horner.mono _ _ _)
   | (with_reducible exact LeO.refl _)
   | (with_reducible exact LeO.none _)
   | (with_reducible refine LeO.ite ?_ ?_)
   | (with_reducible refine LeO.bind ?_ (fun _ => ?_))
   | exact ih0 _ _
   | exact ih1 _ _
   | exact ih2 _ _
   | exact ih3 _ _ _ _ _
   | exact fn_Horner.mono _ _ _
   | exact LeO.none _
   | refine LeO.ite ?_ ?_
   | refine LeO.bind ?_ (fun _ => ?_)
theorem fn_Ln.mono : ∀ a0 k, LeO (fn_Ln.f k a0) (fn_Ln.f (k + 1) a0) := by
 (intro a0 k);(obtain ⟨ih0, ih1, ih2, ih3⟩ := fn_Ln.mono_l k);(unfold fn_Ln.f)
 repeat' first
  | (with_reducible exact ih0 _ _)
  | (with_reducible exact ih1 _ _)
  | (with_reducible exact ih2 _ _)
  | (with_reducible exact ih3 _ _ _ _ _)
  | (with_reducible exact fn_Horner.mono _ _ _)
  | (with_reducible exact LeO.refl _)
  | (with_reducible exact LeO.none _)
  | (with_reducible refine LeO.ite ?_ ?_)
  | (with_reducible refine LeO.bind ?_ (fun _ => ?_))
  | exact ih0 _ _
  | exact ih1 _ _
  | exact ih2 _ _
  | exact ih3 _ _ _ _ _
  | exact fn_Horner.mono _ _ _
  | exact LeO.none _
  | refine LeO.ite ?_ ?_
  | refine LeO.bind ?_ (fun _ => ?_)
set_option maxHeartbeats 8000000 in
set_option maxRecDepth 100000 in
theorem fn_Ln.calls (k : Nat) (a0 : Nat) (r : Nat) (w : World) (h : fn_Ln.f k a0 = some r) :
  Calls Tryz.prog 194 #[.float .f64 a0] w fun e w' => e = .returned (.float .f64 r) ∧ Below w.heap.size w w' := by
 (have HB := aM (Below.refl w.heap.size w));(have H : (if (FloatKind.f64.format.order a0 a0 != some .eq) = true then (fn_Ln.j0 k a0 true) else (fn_Ln.j0 k a0 (FloatKind.f64.format.order a0 (0 : Nat) == some .lt))) = some r := h);(clear h);(have HC2 := aM H);(clear H);(go_enter Tryz.func194, Tryz.ntmps194)
 go_upto_region 1 with (fail)
 go_cut [14] (fun v14 wc => ∃ (kq : Nat) (x14_1 : Bool), v14 = .bool x14_1 ∧ Aside0 (fn_Ln.j0 kq a0 x14_1 = some r) ∧ Aside0 (kq ≤ k) ∧ Aside0 (Below w.heap.size w wc))
 case first =>
  (have H := HC2.out);(clear HC2)
  by_cases c3 : (FloatKind.f64.format.order a0 a0 != some .eq) = true
  rotate_left
  ·rw [if_neg c3] at H
   have c3b0 : (FloatKind.f64.format.order a0 a0 != some .eq) = false := by simpa using c3
   (try (have c3b1 : decide (FloatKind.f64.format.order a0 a0 = some .eq) = true := by simpa using c3))
   (try (have c3b2 : (FloatKind.f64.format.order a0 a0 == some .eq) = true := by simpa using c3))
   clear c3
   (first | rw [c3b0] | (simp only [i64_w, i32_w]; rw [c3b0]) | skip)
   (have H' := aM H);(clear H);(go_wp2);(go_meet)
   case rel => exact ⟨_, ((FloatKind.f64.format.order a0 (0 : Nat) == some .lt)), sA, H', ⟨by first | omega | exact Nat.le_refl _⟩, ⟨bA HB.out⟩⟩
  (rw [if_pos c3] at H);(have c3b0 : (FloatKind.f64.format.order a0 a0 != some .eq) = true := c3)
  (try (have c3b1 : decide (FloatKind.f64.format.order a0 a0 = some .eq) = false := by simpa using c3))
  (try (have c3b2 : (FloatKind.f64.format.order a0 a0 == some .eq) = false := by simpa using c3))
  (try (have c3b3 : ¬ (FloatKind.f64.format.order a0 a0 = some .eq) := by simpa using c3))
  clear c3
  (first | rw [c3b0] | (simp only [i64_w, i32_w]; rw [c3b0]) | skip)
  (have H' := aM H);(clear H);(go_wp2);(go_meet)
  case rel => exact ⟨_, (true), sA, H', ⟨by first | omega | exact Nat.le_refl _⟩, ⟨bA HB.out⟩⟩
 case rest =>
  (clear HC2);(try clear c1);(try clear p2);(try clear c3);(try clear c3b0);(try clear c3b1);(try clear c3b2);(obtain ⟨kq, x14_1, rfl, HA, HJ1, HB⟩ := hcut)
  cases kq with
  | zero => exact absurd HA.out (by simp [fn_Ln.j0])
  | succ kj1 =>
   (have H := HA.out);(clear HA);(simp only [fn_Ln.j0] at H)
   by_cases c4 : x14_1 = true
   ·subst c4
    (have H1 : ((math_NaN.f).bind fun t183 => (some t183)) = some r := by rw [if_pos rfl] at H; exact H);(clear H);(have H := H1);(clear H1);(revert H);(refine bE ?_);(rintro t183 A5 H);(obtain rfl := Option.some.inj H)
    go_wp2_with (first | ((with_reducible refine gate_callee (f := 167) rfl ?_); refine goL (N := some 22) Tryz.func167 #[] ?_; (with_reducible refine (math_NaN.calls  t183 _ A5.out).mono ?_); rintro e w' ⟨rfl, ⟨nd, rfl⟩⟩; refine ⟨_, rfl, ?_⟩))
    (go_ret);(exact ⟨eA, bA HB.out⟩)
   (replace c4 := Bool.eq_false_iff.mpr c4);(subst c4);(have H1 : (if (FloatKind.f64.format.order a0 (0 : Nat) == some .eq) = true then ((math_Inf.f (-1)).bind fun t184 => (some t184)) else ((math_IsInf.f a0 1).bind fun t185 => (if t185 = true then (some a0) else ((ieee_Split.f a0).bind fun bt186 => (fn_Ln.l0 kj1 bt186.1 bt186.2.1))))) = some r := by rw [if_neg (show ¬ (false = true) by decide)] at H; exact H);(clear H);(have H := H1);(clear H1)
   by_cases c6 : (FloatKind.f64.format.order a0 (0 : Nat) == some .eq) = true
   ·rw [if_pos c6] at H
    have c6b0 : (FloatKind.f64.format.order a0 (0 : Nat) == some .eq) = true := c6
    (try (have c6b1 : decide (FloatKind.f64.format.order a0 (0 : Nat) = some .eq) = true := by simpa using c6))
    (try (have c6b2 : (FloatKind.f64.format.order a0 (0 : Nat) == some .eq) = true := by simpa using c6))
    (clear c6);(revert H);(refine bE ?_);(rintro t184 A7 H);(obtain rfl := Option.some.inj H)
    go_wp2_with (first | ((with_reducible refine gate_callee (f := 168) rfl ?_); refine goL (N := some 26) Tryz.func168 #[.int .i64 (-1)] ?_; (with_reducible refine (math_Inf.calls (-1) t184 _ A7.out).mono ?_); rintro e w' ⟨rfl, ⟨nd, rfl⟩⟩; refine ⟨_, rfl, ?_⟩))
    (go_ret);(exact ⟨eA, bA HB.out⟩)
   (rw [if_neg c6] at H);(have c6b0 : (FloatKind.f64.format.order a0 (0 : Nat) == some .eq) = false := by simpa using c6)
   (try (have c6b1 : decide (FloatKind.f64.format.order a0 (0 : Nat) = some .eq) = false := by simpa using c6))
   (try (have c6b2 : (FloatKind.f64.format.order a0 (0 : Nat) == some .eq) = false := by simpa using c6))
   (try (have c6b3 : ¬ (FloatKind.f64.format.order a0 (0 : Nat) = some .eq) := by simpa using c6))
   (clear c6);(revert H);(refine bE ?_);(rintro t185 A8 H)
   by_cases c9 : t185 = true
   ·subst c9
    (have H1 : (some a0) = some r := by rw [if_pos rfl] at H; exact H);(clear H);(have H := H1);(clear H1);(obtain rfl := Option.some.inj H)
    go_wp2_with (first | ((with_reducible refine gate_callee (f := 243) rfl ?_); refine goL (N := some 29) Tryz.func243 #[.float .f64 a0, .int .i64 1] ?_; (with_reducible refine (math_IsInf.calls a0 1 true _ A8.out).mono ?_); rintro e w' ⟨rfl, ⟨nd, rfl⟩⟩; refine ⟨_, rfl, ?_⟩))
    (go_ret);(exact ⟨eA, bA HB.out⟩)
   (replace c9 := Bool.eq_false_iff.mpr c9);(subst c9);(have H1 : ((ieee_Split.f a0).bind fun bt186 => (fn_Ln.l0 kj1 bt186.1 bt186.2.1)) = some r := by rw [if_neg (show ¬ (false = true) by decide)] at H; exact H);(clear H);(have H := H1);(clear H1);(revert H);(refine bE ?_);(rintro ⟨t186, t187, t188⟩ A10 H)
   (try dsimp only at H)
   (have H' := aM H);(clear H)
   go_wp2_with (first | ((with_reducible refine gate_callee (f := 243) rfl ?_); refine goL (N := some 29) Tryz.func243 #[.float .f64 a0, .int .i64 1] ?_; (with_reducible refine (math_IsInf.calls a0 1 false _ A8.out).mono ?_); rintro e w' ⟨rfl, ⟨nd, rfl⟩⟩; refine ⟨_, rfl, ?_⟩) | ((with_reducible refine gate_callee (f := 153) rfl ?_); refine goL (N := some 33) Tryz.func153 #[.float .f64 a0] ?_; (with_reducible refine (ieee_Split.calls a0 t186 t187 t188 _ A10.out).mono ?_); rintro e w' ⟨rfl, ⟨nd, rfl⟩⟩; refine ⟨_, rfl, ?_⟩))
   go_loopg [3, 4] kj1 (fun kq v3 v4 w' => ∃ (x3_2 : Int) (x4_2 : Int), v3 = .int .i64 x3_2 ∧ v4 = .int .i64 x4_2 ∧ Aside0 (fn_Ln.l0 kq x3_2 x4_2 = some r) ∧ Aside0 (kq ≤ kj1) ∧ Aside0 (Below w.heap.size w w'))
   case atStart => exact ⟨(t186), (t187), sA, sA, H', ⟨Nat.le_refl _⟩, ⟨bA HB.out⟩⟩
   case round =>
    (clear H');(try clear c1);(try clear c2);(try clear p2);(try clear c3);(try clear c3b0);(try clear c3b1);(try clear c3b2);(try clear c4);(try clear c6);(try clear c6b0);(try clear c6b1);(try clear c6b2);(try clear c9);(try clear p2);(obtain ⟨x3_2, x4_2, rfl, rfl, HA, HK2, HB⟩ := hrel)
    cases gk with
    | zero => exact absurd HA.out (by simp [fn_Ln.l0])
    | succ k2 =>
     (have H := HA.out);(clear HA);(simp only [fn_Ln.l0] at H)
     by_cases c11 : x3_2 < 4503599627370496
     ·rw [if_pos c11] at H
      (have c11b0 : decide (x3_2 < 4503599627370496) = true := decide_eq_true c11);(clear c11);(have H' := aM H);(clear H);(go_wp2)
      go_roundg k2
      case measure => have := HJ1.out; have := HK2.out; omega
      case rel => exact ⟨(wrap64 (x3_2 * 2)), (wrap64 (x4_2 - 1)), sA, sA, H', ⟨by have := HJ1.out; have := HK2.out; omega⟩, ⟨bA HB.out⟩⟩
     (rw [if_neg c11] at H);(have c11b0 : decide (x3_2 < 4503599627370496) = false := decide_eq_false c11);(clear c11);(revert H);(refine bE ?_);(rintro t189 A12 H);(have HC13 := aM H);(clear H)
     go_upto_if 48 with (first | ((with_reducible refine gate_callee (f := 244) rfl ?_); refine goL (N := some 44) Tryz.func244 #[.int .i64 x3_2, .int .i64 (-52)] ?_; (with_reducible refine (ieee_Join.calls x3_2 (-52) t189 _ A12.out).mono ?_); rintro e w' ⟨rfl, ⟨nd, rfl⟩⟩; refine ⟨_, rfl, ?_⟩))
     (try simp only [Act.put, List.setIfInBounds_toArray, List.set_cons_zero, List.set_cons_succ])
     go_cut [6, 7] (fun v6 v7 wc => ∃ (kq : Nat) (x6_12 : Nat) (x7_12 : Int), v6 = .float .f64 x6_12 ∧ v7 = .int .i64 x7_12 ∧ Aside0 (fn_Ln.j2 kq x6_12 x7_12 = some r) ∧ Aside0 (kq ≤ k2) ∧ Aside0 (Below w.heap.size w wc))
     case first =>
      (have H := HC13.out);(clear HC13)
      by_cases c14 : (FloatKind.f64.format.order t189 (4609047870845172685 : Nat) == some .gt) = true
      rotate_left
      ·rw [if_neg c14] at H
       have c14b0 : (FloatKind.f64.format.order t189 (4609047870845172685 : Nat) == some .gt) = false := by simpa using c14
       (try (have c14b1 : decide (FloatKind.f64.format.order t189 (4609047870845172685 : Nat) = some .gt) = false := by simpa using c14))
       (try (have c14b2 : (FloatKind.f64.format.order t189 (4609047870845172685 : Nat) == some .gt) = false := by simpa using c14))
       (try (have c14b3 : ¬ (FloatKind.f64.format.order t189 (4609047870845172685 : Nat) = some .gt) := by simpa using c14))
       clear c14
       (first | rw [c14b0] | (simp only [i64_w, i32_w]; rw [c14b0]) | skip)
       (have H' := aM H);(clear H);(go_wp2);(go_meet)
       case rel => exact ⟨_, (t189), (wrap64 (x4_2 + 52)), sA, sA, H', ⟨by have := HJ1.out; have := HK2.out; first | omega | exact Nat.le_refl _⟩, ⟨bA HB.out⟩⟩
      (rw [if_pos c14] at H);(have c14b0 : (FloatKind.f64.format.order t189 (4609047870845172685 : Nat) == some .gt) = true := c14)
      (try (have c14b1 : decide (FloatKind.f64.format.order t189 (4609047870845172685 : Nat) = some .gt) = true := by simpa using c14))
      (try (have c14b2 : (FloatKind.f64.format.order t189 (4609047870845172685 : Nat) == some .gt) = true := by simpa using c14))
      clear c14
      (first | rw [c14b0] | (simp only [i64_w, i32_w]; rw [c14b0]) | skip)
      (revert H);(refine ifP fun c15 H => ?_);(have c15b0 := eq_true c15);(have c15b1 : decide (fdivK t189 (4611686018427387904 : Nat) = true) = true := decide_eq_true c15);(clear c15);(have H' := aM H);(clear H);(go_wp2);(go_meet)
      case rel => exact ⟨_, (fdivV t189 (4611686018427387904 : Nat)), (wrap64 ((wrap64 (x4_2 + 52)) + 1)), sA, sA, H', ⟨by have := HJ1.out; have := HK2.out; first | omega | exact Nat.le_refl _⟩, ⟨bA HB.out⟩⟩
     case rest =>
      (clear HC13);(try clear c1);(try clear c2);(try clear p2);(try clear c3);(try clear c3b0);(try clear c3b1);(try clear c3b2);(try clear c4);(try clear c6);(try clear c6b0);(try clear c6b1);(try clear c6b2);(try clear p6);(try clear c9);(try clear c11);(try clear c11b0);(try clear c14);(try clear c14b0);(try clear c14b1);(try clear c14b2);(try clear c15);(try clear c15b0);(try clear c15b1);(try clear p2);(obtain ⟨kq, x6_12, x7_12, rfl, rfl, HA, HJ12, HB⟩ := hcut)
      cases kq with
      | zero => exact absurd HA.out (by simp [fn_Ln.j2])
      | succ kj12 =>
       (have H := HA.out);(clear HA);(simp only [fn_Ln.j2] at H);(revert H);(refine ifP fun c16 H => ?_);(have c16b0 := eq_true c16);(have c16b1 : decide (fsubK x6_12 (4607182418800017408 : Nat) = true) = true := decide_eq_true c16);(clear c16);(revert H);(refine ifP fun c17 H => ?_);(have c17b0 := eq_true c17);(have c17b1 : decide (faddK x6_12 (4607182418800017408 : Nat) = true) = true := decide_eq_true c17);(clear c17);(revert H);(refine ifP fun c18 H => ?_);(have c18b0 := eq_true c18);(have c18b1 : decide (fdivK (fsubV x6_12 (4607182418800017408 : Nat)) (faddV x6_12 (4607182418800017408 : Nat)) = true) = true := decide_eq_true c18);(clear c18);(revert H);(refine ifP fun c19 H => ?_);(have c19b0 := eq_true c19);(have c19b1 : decide (fmulK (fdivV (fsubV x6_12 (4607182418800017408 : Nat)) (faddV x6_12 (4607182418800017408 : Nat))) (fdivV (fsubV x6_12 (4607182418800017408 : Nat)) (faddV x6_12 (4607182418800017408 : Nat))) = true) = true := decide_eq_true c19);(clear c19);(have H' := aM H);(clear H);(go_wp2)
       go_loopg [10, 61] kj12 (fun kq v10 v61 w' => ∃ (x10_4 : List Nat) (x61_4 : Int), v61 = .int .i64 x61_4 ∧ Aside0 (fn_Ln.l1 kq x7_12 (fdivV (fsubV x6_12 (4607182418800017408 : Nat)) (faddV x6_12 (4607182418800017408 : Nat))) (fmulV (fdivV (fsubV x6_12 (4607182418800017408 : Nat)) (faddV x6_12 (4607182418800017408 : Nat))) (fdivV (fsubV x6_12 (4607182418800017408 : Nat)) (faddV x6_12 (4607182418800017408 : Nat)))) x10_4 x61_4 = some r) ∧ Aside0 (kq ≤ kj12) ∧ Aside0 (Kd.R Kd.flt 30 w' w.heap.size (fun _ => True) v10 x10_4) ∧ Aside0 (Below w.heap.size w w'))
       case atStart => exact ⟨(([] : List Nat)), (0), sA, H', ⟨Nat.le_refl _⟩, ⟨by first | exact Kd.R_nil _ _ _ _ _ | exact Kd.N_nil _ _ _ _ _ | exact Kd.V_nil _ _ _ _ _ | exact Kd.Q_nil _ _ _ _ _ | exact Kd.S_nil _ _ _ _ _⟩, ⟨bA HB.out⟩⟩
       case round =>
        (clear H');(try clear c1);(try clear c2);(try clear p2);(try clear c3);(try clear c3b0);(try clear c3b1);(try clear c3b2);(try clear c4);(try clear c6);(try clear c6b0);(try clear c6b1);(try clear c6b2);(try clear p6);(try clear c9);(try clear c11);(try clear c11b0);(try clear c14);(try clear c14b0);(try clear c14b1);(try clear c14b2);(try clear c15);(try clear c15b0);(try clear c15b1);(try clear c16);(try clear c16b0);(try clear c16b1);(try clear c17);(try clear c17b0);(try clear c17b1);(try clear c18);(try clear c18b0);(try clear c18b1);(try clear c19);(try clear c19b0);(try clear c19b1);(try clear p2);(try clear p6);(obtain ⟨x10_4, x61_4, rfl, HA, HK4, HO_10, HB⟩ := hrel)
        cases gk with
        | zero => exact absurd HA.out (by simp [fn_Ln.l1])
        | succ k4 =>
         (have H := HA.out);(clear HA);(simp only [fn_Ln.l1] at H)
         by_cases c20 : x61_4 < 11
         ·rw [if_pos c20] at H
          (have c20b0 : decide (x61_4 < 11) = true := decide_eq_true c20);(clear c20);(revert H);(refine ifP fun c21 H => ?_);(have c21b0 := eq_true c21);(have c21b1 : decide (fdivK (4607182418800017408 : Nat) (floatOfInt .f64 (wrap64 ((wrap64 (2 * x61_4)) + 1))) = true) = true := decide_eq_true c21);(revert H);(refine ifP fun c22 H => ?_);(have LMc22 := aM c22);(clear c22);(generalize hy190 : (x10_4 ++ [fdivV (4607182418800017408 : Nat) (floatOfInt .f64 (wrap64 ((wrap64 (2 * x61_4)) + 1)))]) = y190 at H);(replace hy190 := hy190.symm)
          (try (revert H; (with_reducible refine sE y190 ?_); intro H))
          (have Ny190 := aM hy190);(clear hy190);(have H' := aM H);(clear H)
          go_wp2_with (first | ((with_reducible refine gate_builtin (b := .append) (xs := #[.tmp 64, .tmp 70]) rfl ?_); at_builtin; refine Kd.R_append Kd.flt (w0 := w) w.heap.size rfl (.tmp 64) (.tmp 70) 23 30 (.float .f64 0) 8 rfl Tryz.underlying23 info30 rfl (by decide) (by omega) u10 x10_4 (fdivV (4607182418800017408 : Nat) (floatOfInt .f64 (wrap64 ((wrap64 (2 * x61_4)) + 1)))) [.float .f64 (fdivV (4607182418800017408 : Nat) (floatOfInt .f64 (wrap64 ((wrap64 (2 * x61_4)) + 1))))] (fun _ => True) (fun _ => False) rfl rfl ?aP (fun _ hk => hk.elim) ?aF ?aO ?aB ?aS ?aL ?_; (case aP => exact rfl); (case aB => exact (bA HB.out)); (case aF => exact (fun _ _ => trivial)); (case aO => exact (rA HO_10.out)); (case aS => exact (below_size (bA HB.out))); (case aL => have := LMc22.out; omega); intro v191 w23 ho hb hg hat; rw [← Ny190.out] at ho; replace HB := aM hb; have HO192 := aM ho; clear HO_10; clear ho hb hg hat))
          go_roundg k4
          case measure => have := HJ1.out; have := HK2.out; have := HJ12.out; have := HK4.out; omega
          case rel => exact ⟨(y190), (wrap64 (x61_4 + 1)), sA, H', ⟨by have := HJ1.out; have := HK2.out; have := HJ12.out; have := HK4.out; omega⟩, ⟨rA HO192.out⟩, ⟨bA HB.out⟩⟩
         (rw [if_neg c20] at H);(have c20b0 : decide (x61_4 < 11) = false := decide_eq_false c20);(clear c20);(revert H);(refine ifP fun c24 H => ?_);(have c24b0 := eq_true c24);(have c24b1 : decide (fmulK (4611686018427387904 : Nat) (fdivV (fsubV x6_12 (4607182418800017408 : Nat)) (faddV x6_12 (4607182418800017408 : Nat))) = true) = true := decide_eq_true c24);(clear c24);(revert H);(refine bE ?_);(rintro t193 A25 H);(revert H);(refine ifP fun c26 H => ?_);(have c26b0 := eq_true c26);(have c26b1 : decide (fmulK (fmulV (4611686018427387904 : Nat) (fdivV (fsubV x6_12 (4607182418800017408 : Nat)) (faddV x6_12 (4607182418800017408 : Nat)))) t193 = true) = true := decide_eq_true c26);(clear c26);(revert H);(refine ifP fun c27 H => ?_);(have c27b0 := eq_true c27);(have c27b1 : decide (fmulK (floatOfInt .f64 x7_12) (4604418534311723008 : Nat) = true) = true := decide_eq_true c27);(clear c27);(revert H);(refine ifP fun c28 H => ?_);(have c28b0 := eq_true c28);(have c28b1 : decide (fmulK (floatOfInt .f64 x7_12) (4461442080421002358 : Nat) = true) = true := decide_eq_true c28);(clear c28);(revert H);(refine ifP fun c29 H => ?_);(have c29b0 := eq_true c29);(have c29b1 : decide (faddK (fmulV (fmulV (4611686018427387904 : Nat) (fdivV (fsubV x6_12 (4607182418800017408 : Nat)) (faddV x6_12 (4607182418800017408 : Nat)))) t193) (fmulV (floatOfInt .f64 x7_12) (4461442080421002358 : Nat)) = true) = true := decide_eq_true c29);(clear c29);(revert H);(refine ifP fun c30 H => ?_);(have c30b0 := eq_true c30);(have c30b1 : decide (faddK (fmulV (floatOfInt .f64 x7_12) (4604418534311723008 : Nat)) (faddV (fmulV (fmulV (4611686018427387904 : Nat) (fdivV (fsubV x6_12 (4607182418800017408 : Nat)) (faddV x6_12 (4607182418800017408 : Nat)))) t193) (fmulV (floatOfInt .f64 x7_12) (4461442080421002358 : Nat))) = true) = true := decide_eq_true c30);(clear c30);(obtain rfl := Option.some.inj H);(obtain ⟨Ao31, co31, eo31⟩ := Kd.R_slice HO_10.out);(subst eo31)
         go_wp2_with (first | ((with_reducible refine gate_callee (f := 230) rfl ?_); refine goL (N := some 77) Tryz.func230 #[.slice Ao31 x10_4.length co31, .float .f64 (fmulV (fdivV (fsubV x6_12 (4607182418800017408 : Nat)) (faddV x6_12 (4607182418800017408 : Nat))) (fdivV (fsubV x6_12 (4607182418800017408 : Nat)) (faddV x6_12 (4607182418800017408 : Nat))))] ?_; (with_reducible refine (fn_Horner.calls k4 _ _ x10_4 (fmulV (fdivV (fsubV x6_12 (4607182418800017408 : Nat)) (faddV x6_12 (4607182418800017408 : Nat))) (fdivV (fsubV x6_12 (4607182418800017408 : Nat)) (faddV x6_12 (4607182418800017408 : Nat)))) t193 _ ?side1 ?side2 A25.out).mono ?_); (case side1 => exact cA ((Kd.R_reads' HO_10.out).2.2)); (case side2 => exact (Kd.R_reads' HO_10.out).2.1); rintro e w' ⟨rfl, ⟨nd, rfl⟩⟩; refine ⟨_, rfl, ?_⟩))
         (go_ret);(exact ⟨eA, bA HB.out⟩)

end Go.Proofs.YtmdoljecjliehaaGreat.FP
