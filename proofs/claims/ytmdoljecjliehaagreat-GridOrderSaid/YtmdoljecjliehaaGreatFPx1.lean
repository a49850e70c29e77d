/- Written by the session's fprint.py out of the translation. -/
import Derived.Test.YtmdoljecjliehaaGreatFPx0
namespace Go.Proofs.YtmdoljecjliehaaGreat.FP
open Go.RowKit Go.Proofs.YtmdoljecjliehaaGreatW.PrintWords Go.Proofs.YtmdoljecjliehaaGreatW.PrintLast Go.Proofs.YtmdoljecjliehaaGreatW.PrintMore
attribute [local go_sem] max2_int min2_int max_two min_two max_three min_three max_four min_four   -- for this text's walks alone
open Go.Proofs.YtmdoljecjliehaaGreat.FX
attribute [local go_sem] run_store_float run_neg_float run_fmul run_fadd run_fsub run_fdiv run_ftoi isSome_setCell 
set_option linter.unusedVariables false
set_option linter.unusedSimpArgs false

mutual
def curve_Check.j0 : Nat → Bool → Int → Int → List Int → List Nat → Option (Int)
 | 0, _, _, _, _, _ => none
 | k + 1, x14, x102000, x102001, x102002, x102003 => if x14 = true then (some 51) else (if x102001 < 1 then (curve_Check.j1 k true x102000 x102001 x102002 x102003) else (curve_Check.j1 k (decide (x102001 > 4)) x102000 x102001 x102002 x102003))
def curve_Check.j1 : Nat → Bool → Int → Int → List Int → List Nat → Option (Int)
 | 0, _, _, _, _, _ => none
 | k + 1, x22, x102000, x102001, x102002, x102003 => if x22 = true then (some 90) else (if (x102002.length : Int) < 1 then (curve_Check.j2 k true x102000 x102001 x102002 x102003) else (if (x102002.length : Int) > 255 then (curve_Check.j2 k true x102000 x102001 x102002 x102003) else (curve_Check.j2 k ((x102002.length : Int) != (x102003.length : Int)) x102000 x102001 x102002 x102003)))
def curve_Check.j2 : Nat → Bool → Int → Int → List Int → List Nat → Option (Int)
 | 0, _, _, _, _, _ => none
 | k + 1, x41, x102000, x102001, x102002, x102003 => if x41 = true then (some 100) else (curve_Check.l0 k x102000 x102002 (x102002.length : Int) 0 x102000 x102001 x102002 x102003)
def curve_Check.l0 : Nat → Int → List Int → Int → Int → Int → Int → List Int → List Nat → Option (Int)
 | 0, _, _, _, _, _, _, _, _ => none
 | k + 1, x3, x45, x46, x47, x102000, x102001, x102002, x102003 => if x47 < x46 then (if 0 ≤ x47 then (if x47 < (x45.length : Int) then (if x47 < (x102003.length : Int) then (if (rd x45 x47) ≤ x3 then (some 100) else (if (rd x45 x47) > 109572 then (some 100) else ((ieee_Class.f (rdOf (0 : Nat) x102003 x47)).bind fun t104 => (if t104 ≥ 4 then (some 100) else (if ((FloatKind.f64.format.order (rdOf (0 : Nat) x102003 x47) (0 : Nat) == some .gt) = true) then (curve_Check.l0 k (rd x45 x47) x45 x46 (wrap64 (x47 + 1)) x102000 x102001 x102002 x102003) else (some 100)))))) else (none)) else (none)) else (none)) else (some 0)
end
def curve_Check.f (k : Nat) (a0_0 : Int) (a0_1 : Int) (l0_2 : List Int) (l0_3 : List Nat) : Option (Int) := if a0_0 < 0 then (curve_Check.j0 k true a0_0 a0_1 l0_2 l0_3) else (curve_Check.j0 k (decide (a0_0 > 109572)) a0_0 a0_1 l0_2 l0_3)
theorem curve_Check.mono_l : ∀ k, (∀ y0 y1 y2 y3 y4, LeO (curve_Check.j0 k y0 y1 y2 y3 y4) (curve_Check.j0 (k + 1) y0 y1 y2 y3 y4)) ∧ (∀ y0 y1 y2 y3 y4, LeO (curve_Check.j1 k y0 y1 y2 y3 y4) (curve_Check.j1 (k + 1) y0 y1 y2 y3 y4)) ∧ (∀ y0 y1 y2 y3 y4, LeO (curve_Check.j2 k y0 y1 y2 y3 y4) (curve_Check.j2 (k + 1) y0 y1 y2 y3 y4)) ∧ (∀ y0 y1 y2 y3 y4 y5 y6 y7, LeO (curve_Check.l0 k y0 y1 y2 y3 y4 y5 y6 y7) (curve_Check.l0 (k + 1) y0 y1 y2 y3 y4 y5 y6 y7))
 | 0 => ⟨fun _ _ _ _ _ r h => by simp [curve_Check.j0] at h, fun _ _ _ _ _ r h => by simp [curve_Check.j1] at h, fun _ _ _ _ _ r h => by simp [curve_Check.j2] at h, fun _ _ _ _ _ _ _ _ r h => by simp [curve_Check.l0] at h⟩
 | k + 1 => by
  (obtain ⟨ih0, ih1, ih2, ih3⟩ := curve_Check.mono_l k);(refine ⟨?_, ?_, ?_, ?_⟩)
  ·intro y0 y1 y2 y3 y4
   unfold curve_Check.j0
   repeat' first
   | (with_reducible exact ih0 _ _ _ _ _)
   | (with_reducible exact ih1 _ _ _ _ _)
   | (with_reducible exact ih2 _ _ _ _ _)
   | (with_reducible exact ih3 _ _ _ _ _ _ _ _)
   | (with_reducible exact LeO.refl _)
   | (with_reducible exact LeO.none _)
   | (with_reducible refine LeO.ite ?_ ?_)
   | (with_reducible refine LeO.bind ?_ (fun _ => ?_))
   | exact ih0 _ _ _ _ _
   | exact ih1 _ _ _ _ _
   | exact ih2 _ _ _ _ _
   | exact ih3 _ _ _ _ _ _ _ _
   | exact LeO.none _
   | refine LeO.ite ?_ ?_
   | refine LeO.bind ?_ (fun _ => ?_)
  ·intro y0 y1 y2 y3 y4
   unfold curve_Check.j1
   repeat' first
   | (with_reducible exact ih0 _ _ _ _ _)
   | (with_reducible exact ih1 _ _ _ _ _)
   | (with_reducible exact ih2 _ _ _ _ _)
   | (with_reducible exact ih3 _ _ _ _ _ _ _ _)
   | (with_reducible exact LeO.refl _)
   | (with_reducible exact LeO.none _)
   | (with_reducible refine LeO.ite ?_ ?_)
   | (with_reducible refine LeO.bind ?_ (fun _ => ?_))
   | exact ih0 _ _ _ _ _
   | exact ih1 _ _ _ _ _
   | exact ih2 _ _ _ _ _
   | exact ih3 _ _ _ _ _ _ _ _
   | exact LeO.none _
   | refine LeO.ite ?_ ?_
   | refine LeO.bind ?_ (fun _ => ?_)
  ·intro y0 y1 y2 y3 y4
   unfold curve_Check.j2
   repeat' first
   | (with_reducible exact ih0 _ _ _ _ _)
   | (with_reducible exact ih1 _ _ _ _ _)
   | (with_reducible exact ih2 _ _ _ _ _)
   | (with_reducible exact ih3 _ _ _ _ _ _ _ _)
   | (with_reducible exact LeO.refl _)
   | (with_reducible exact LeO.none _)
   | (with_reducible refine LeO.ite ?_ ?_)
   | (with_reducible refine LeO.bind ?_ (fun _ => ?_))
   | exact ih0 _ _ _ _ _
   | exact ih1 _ _ _ _ _
   | exact ih2 _ _ _ _ _
   | exact ih3 _ _ _ _ _ _ _ _
   | exact LeO.none _
   | refine LeO.ite ?_ ?_
   | refine LeO.bind ?_ (fun _ => ?_)
  ·intro y0 y1 y2 y3 y4 y5 y6 y7
   unfold curve_Check.l0
   repeat' first
   | (with_reducible exact ih0 _ _ _ _ _)
   | (with_reducible exact ih1 _ _ _ _ _)
   | (with_reducible exact ih2 _ _ _ _ _)
   | (with_reducible exact ih3 _ _ _ _ _ _ _ _)
   | (with_reducible exact LeO.refl _)
   | (with_reducible exact LeO.none _)
   | (with_reducible refine LeO.ite ?_ ?_)
   | (with_reducible refine LeO.bind ?_ (fun _ => ?_))
   | exact ih0 _ _ _ _ _
   | exact ih1 _ _ _ _ _
   | exact ih2 _ _ _ _ _
   | exact ih3 _ _ _ _ _ _ _ _
   | exact LeO.none _
   | refine LeO.ite ?_ ?_
   | refine LeO.bind ?_ (fun _ => ?_)
theorem curve_Check.mono : ∀ a0 a1 a2 a3 k, LeO (curve_Check.f k a0 a1 a2 a3) (curve_Check.f (k + 1) a0 a1 a2 a3) := by
 (intro a0 a1 a2 a3 k);(obtain ⟨ih0, ih1, ih2, ih3⟩ := curve_Check.mono_l k);(unfold curve_Check.f)
 repeat' first
  | (with_reducible exact ih0 _ _ _ _ _)
  | (with_reducible exact ih1 _ _ _ _ _)
  | (with_reducible exact ih2 _ _ _ _ _)
  | (with_reducible exact ih3 _ _ _ _ _ _ _ _)
  | (with_reducible exact LeO.refl _)
  | (with_reducible exact LeO.none _)
  | (with_reducible refine LeO.ite ?_ ?_)
  | (with_reducible refine LeO.bind ?_ (fun _ => ?_))
  | exact ih0 _ _ _ _ _
  | exact ih1 _ _ _ _ _
  | exact ih2 _ _ _ _ _
  | exact ih3 _ _ _ _ _ _ _ _
  | exact LeO.none _
  | refine LeO.ite ?_ ?_
  | refine LeO.bind ?_ (fun _ => ?_)
set_option maxHeartbeats 8000000 in
set_option maxRecDepth 100000 in
theorem curve_Check.calls (k : Nat) (a0_0 : Int) (a0_1 : Int) (A0_2 : Option Addr) (c0_2 : Nat) (l0_2 : List Int) (A0_3 : Option Addr) (c0_3 : Nat) (l0_3 : List Nat) (r : Int) (w : World) (hr0_2 : Kd.C (Kd.int .i64) w A0_2 l0_2.length l0_2) (hc0_2 : l0_2.length ≤ c0_2) (hr0_3 : Kd.C Kd.flt w A0_3 l0_3.length l0_3) (hc0_3 : l0_3.length ≤ c0_3) (h : curve_Check.f k a0_0 a0_1 l0_2 l0_3 = some r) :
  Calls Tryz.prog 24 #[.agg #[.int .i64 a0_0, .int .i64 a0_1, .slice A0_2 l0_2.length c0_2, .slice A0_3 l0_3.length c0_3]] w fun e w' => e = .returned (.int .i64 r) ∧ Below w.heap.size w w' := by
 (have hu25 := Tryz.underlying25);(have HR0_2 := aM hr0_2);(have HC0_2 := aM hc0_2);(clear hr0_2 hc0_2);(have HR0_3 := aM hr0_3);(have HC0_3 := aM hc0_3);(clear hr0_3 hc0_3);(have HB := aM (Below.refl w.heap.size w));(have H : (if a0_0 < 0 then (curve_Check.j0 k true a0_0 a0_1 l0_2 l0_3) else (curve_Check.j0 k (decide (a0_0 > 109572)) a0_0 a0_1 l0_2 l0_3)) = some r := h);(clear h);(have HC2 := aM H);(clear H);(go_enter Tryz.func24, Tryz.ntmps24)
 go_upto_region 1 with (first | ((with_reducible refine gD 1 rfl ?_); (try (refine gate_guard (by rfl) ?_; dsimp only)); refine boxW (N := 1) #[.int .i64 a0_0, .int .i64 a0_1, .slice A0_2 l0_2.length c0_2, .slice A0_3 l0_3.length c0_3] 25 HB ?_; clear HB; intro gb101 w3 BK101 HB GW101; have GE101 := GW101))
 (try simp only [Act.put, List.setIfInBounds_toArray, List.set_cons_zero, List.set_cons_succ])
 go_cut [14] (fun v14 wc => ∃ (kq : Nat) (x14_1 : Bool), v14 = .bool x14_1 ∧ Aside0 (curve_Check.j0 kq x14_1 a0_0 a0_1 l0_2 l0_3 = some r) ∧ Aside0 (kq ≤ k) ∧ Aside0 (wc.heap[gb101]? = some (.cells #[.int .i64 a0_0, .int .i64 a0_1, (.slice A0_2 l0_2.length c0_2), (.slice A0_3 l0_3.length c0_3)] 25 (0, 0))) ∧ Aside0 (Below w.heap.size w wc))
 case first =>
  (have H := HC2.out);(clear HC2)
  by_cases c4 : a0_0 < 0
  ·rw [if_pos c4] at H
   (have c4b0 : decide (a0_0 < 0) = true := decide_eq_true c4);(clear c4)
   (first | rw [c4b0] | (simp only [i64_w, i32_w]; rw [c4b0]) | skip)
   (have H' := aM H);(clear H);(obtain ⟨hcz5_0, hcz5_1, hcz5_2, hcz5_3, hfz5_0, hfz5_1, hfz5_2, hfz5_3⟩ := cz4 BK101.out);(go_wp2);(go_meet)
   case rel => exact ⟨_, (true), sA, H', ⟨by first | omega | exact Nat.le_refl _⟩, ⟨kA BK101.out⟩, ⟨bG HB.out⟩⟩
  (rw [if_neg c4] at H);(have c4b0 : decide (a0_0 < 0) = false := decide_eq_false c4);(clear c4)
  (first | rw [c4b0] | (simp only [i64_w, i32_w]; rw [c4b0]) | skip)
  (have H' := aM H);(clear H);(obtain ⟨hcz6_0, hcz6_1, hcz6_2, hcz6_3, hfz6_0, hfz6_1, hfz6_2, hfz6_3⟩ := cz4 BK101.out);(go_wp2);(go_meet)
  case rel => exact ⟨_, (decide (a0_0 > 109572)), sA, H', ⟨by first | omega | exact Nat.le_refl _⟩, ⟨kA BK101.out⟩, ⟨bG HB.out⟩⟩
 case rest =>
  (clear HC2);(try clear c2);(try clear p2);(try clear c4);(try clear c4b0);(try clear hcz5_0);(try clear hcz5_1);(try clear hcz5_2);(try clear hcz5_3);(try clear hcz6_0);(try clear hcz6_1);(try clear hcz6_2);(try clear hcz6_3);(try clear hfz5_0);(try clear hfz5_1);(try clear hfz5_2);(try clear hfz5_3);(try clear hfz6_0);(try clear hfz6_1);(try clear hfz6_2);(try clear hfz6_3);(obtain ⟨kq, x14_1, rfl, HA, HJ1, BK101, HB⟩ := hcut)
  cases kq with
  | zero => exact absurd HA.out (by simp [curve_Check.j0])
  | succ kj1 =>
   (have H := HA.out);(clear HA);(simp only [curve_Check.j0] at H)
   by_cases c7 : x14_1 = true
   ·subst c7
    (have H1 : (some 51) = some r := by rw [if_pos rfl] at H; exact H);(clear H);(have H := H1);(clear H1);(obtain rfl := Option.some.inj H);(go_wp2);(go_ret);(exact ⟨eA, bG HB.out⟩)
   (replace c7 := Bool.eq_false_iff.mpr c7);(subst c7);(have H1 : (if a0_1 < 1 then (curve_Check.j1 kj1 true a0_0 a0_1 l0_2 l0_3) else (curve_Check.j1 kj1 (decide (a0_1 > 4)) a0_0 a0_1 l0_2 l0_3)) = some r := by rw [if_neg (show ¬ (false = true) by decide)] at H; exact H);(clear H);(have H := H1);(clear H1);(have HC8 := aM H);(clear H)
   go_upto_region 3 with (fail)
   go_cut [22] (fun v22 wc => ∃ (kq : Nat) (x22_7 : Bool), v22 = .bool x22_7 ∧ Aside0 (curve_Check.j1 kq x22_7 a0_0 a0_1 l0_2 l0_3 = some r) ∧ Aside0 (kq ≤ kj1) ∧ Aside0 (wc.heap[gb101]? = some (.cells #[.int .i64 a0_0, .int .i64 a0_1, (.slice A0_2 l0_2.length c0_2), (.slice A0_3 l0_3.length c0_3)] 25 (0, 0))) ∧ Aside0 (Below w.heap.size w wc))
   case first =>
    (have H := HC8.out);(clear HC8)
    by_cases c9 : a0_1 < 1
    ·rw [if_pos c9] at H
     (have c9b0 : decide (a0_1 < 1) = true := decide_eq_true c9);(clear c9)
     (first | rw [c9b0] | (simp only [i64_w, i32_w]; rw [c9b0]) | skip)
     (have H' := aM H);(clear H);(obtain ⟨hcz10_0, hcz10_1, hcz10_2, hcz10_3, hfz10_0, hfz10_1, hfz10_2, hfz10_3⟩ := cz4 BK101.out);(go_wp2);(go_meet)
     case rel => exact ⟨_, (true), sA, H', ⟨by have := HJ1.out; first | omega | exact Nat.le_refl _⟩, ⟨kA BK101.out⟩, ⟨bG HB.out⟩⟩
    (rw [if_neg c9] at H);(have c9b0 : decide (a0_1 < 1) = false := decide_eq_false c9);(clear c9)
    (first | rw [c9b0] | (simp only [i64_w, i32_w]; rw [c9b0]) | skip)
    (have H' := aM H);(clear H);(obtain ⟨hcz11_0, hcz11_1, hcz11_2, hcz11_3, hfz11_0, hfz11_1, hfz11_2, hfz11_3⟩ := cz4 BK101.out);(go_wp2);(go_meet)
    case rel => exact ⟨_, (decide (a0_1 > 4)), sA, H', ⟨by have := HJ1.out; first | omega | exact Nat.le_refl _⟩, ⟨kA BK101.out⟩, ⟨bG HB.out⟩⟩
   case rest =>
    (clear HC8);(try clear c2);(try clear p2);(try clear c4);(try clear c4b0);(try clear c7);(try clear c9);(try clear c9b0);(try clear hcz10_0);(try clear hcz10_1);(try clear hcz10_2);(try clear hcz10_3);(try clear hcz11_0);(try clear hcz11_1);(try clear hcz11_2);(try clear hcz11_3);(try clear hcz5_0);(try clear hcz5_1);(try clear hcz5_2);(try clear hcz5_3);(try clear hcz6_0);(try clear hcz6_1);(try clear hcz6_2);(try clear hcz6_3);(try clear hfz10_0);(try clear hfz10_1);(try clear hfz10_2);(try clear hfz10_3);(try clear hfz11_0);(try clear hfz11_1);(try clear hfz11_2);(try clear hfz11_3);(try clear hfz5_0);(try clear hfz5_1);(try clear hfz5_2);(try clear hfz5_3);(try clear hfz6_0);(try clear hfz6_1);(try clear hfz6_2);(try clear hfz6_3);(try clear p2);(obtain ⟨kq, x22_7, rfl, HA, HJ7, BK101, HB⟩ := hcut)
    cases kq with
    | zero => exact absurd HA.out (by simp [curve_Check.j1])
    | succ kj7 =>
     (have H := HA.out);(clear HA);(simp only [curve_Check.j1] at H)
     by_cases c12 : x22_7 = true
     ·subst c12
      (have H1 : (some 90) = some r := by rw [if_pos rfl] at H; exact H);(clear H);(have H := H1);(clear H1);(obtain rfl := Option.some.inj H);(go_wp2);(go_ret);(exact ⟨eA, bG HB.out⟩)
     (replace c12 := Bool.eq_false_iff.mpr c12);(subst c12);(have H1 : (if (l0_2.length : Int) < 1 then (curve_Check.j2 kj7 true a0_0 a0_1 l0_2 l0_3) else (if (l0_2.length : Int) > 255 then (curve_Check.j2 kj7 true a0_0 a0_1 l0_2 l0_3) else (curve_Check.j2 kj7 ((l0_2.length : Int) != (l0_3.length : Int)) a0_0 a0_1 l0_2 l0_3))) = some r := by rw [if_neg (show ¬ (false = true) by decide)] at H; exact H);(clear H);(have H := H1);(clear H1);(have HC13 := aM H);(clear H)
     go_upto_region 5 with (fail)
     go_cut [41] (fun v41 wc => ∃ (kq : Nat) (x41_12 : Bool), v41 = .bool x41_12 ∧ Aside0 (curve_Check.j2 kq x41_12 a0_0 a0_1 l0_2 l0_3 = some r) ∧ Aside0 (kq ≤ kj7) ∧ Aside0 (wc.heap[gb101]? = some (.cells #[.int .i64 a0_0, .int .i64 a0_1, (.slice A0_2 l0_2.length c0_2), (.slice A0_3 l0_3.length c0_3)] 25 (0, 0))) ∧ Aside0 (Below w.heap.size w wc))
     case first =>
      (have H := HC13.out);(clear HC13)
      by_cases c14 : (l0_2.length : Int) < 1
      ·rw [if_pos c14] at H
       (have c14b0 : decide ((l0_2.length : Int) < 1) = true := decide_eq_true c14);(have c14b1 : decide (l0_2.length < 1) = true := decide_eq_true (by omega));(clear c14)
       (first | rw [c14b0] | (simp only [i64_w, i32_w]; rw [c14b0]) | skip)
       (have H' := aM H);(clear H);(obtain ⟨hcz15_0, hcz15_1, hcz15_2, hcz15_3, hfz15_0, hfz15_1, hfz15_2, hfz15_3⟩ := cz4 BK101.out);(go_wp2);(go_meet)
       case rel => exact ⟨_, (true), sA, H', ⟨by have := HJ1.out; have := HJ7.out; first | omega | exact Nat.le_refl _⟩, ⟨kA BK101.out⟩, ⟨bG HB.out⟩⟩
      (rw [if_neg c14] at H);(have c14b0 : decide ((l0_2.length : Int) < 1) = false := decide_eq_false c14);(have c14b1 : decide (l0_2.length < 1) = false := decide_eq_false (by omega));(clear c14)
      (first | rw [c14b0] | (simp only [i64_w, i32_w]; rw [c14b0]) | skip)
      by_cases c16 : (l0_2.length : Int) > 255
      ·rw [if_pos c16] at H
       (have c16b0 : decide (255 < (l0_2.length : Int)) = true := decide_eq_true c16);(have c16b1 : decide (255 < l0_2.length) = true := decide_eq_true (by omega));(clear c16);(have H' := aM H);(clear H);(obtain ⟨hcz17_0, hcz17_1, hcz17_2, hcz17_3, hfz17_0, hfz17_1, hfz17_2, hfz17_3⟩ := cz4 BK101.out);(go_wp2);(go_meet)
       case rel => exact ⟨_, (true), sA, H', ⟨by have := HJ1.out; have := HJ7.out; first | omega | exact Nat.le_refl _⟩, ⟨kA BK101.out⟩, ⟨bG HB.out⟩⟩
      (rw [if_neg c16] at H);(have c16b0 : decide (255 < (l0_2.length : Int)) = false := decide_eq_false c16);(have c16b1 : decide (255 < l0_2.length) = false := decide_eq_false (by omega));(clear c16);(have H' := aM H);(clear H);(obtain ⟨hcz18_0, hcz18_1, hcz18_2, hcz18_3, hfz18_0, hfz18_1, hfz18_2, hfz18_3⟩ := cz4 BK101.out);(go_wp2);(go_meet)
      case rel => exact ⟨_, (((l0_2.length : Int) != (l0_3.length : Int))), sA, H', ⟨by have := HJ1.out; have := HJ7.out; first | omega | exact Nat.le_refl _⟩, ⟨kA BK101.out⟩, ⟨bG HB.out⟩⟩
     case rest =>
      (clear HC13);(try clear c1);(try clear c2);(try clear p2);(try clear c4);(try clear c4b0);(try clear c7);(try clear c9);(try clear c9b0);(try clear c12);(try clear c14);(try clear c14b0);(try clear c14b1);(try clear c16);(try clear c16b0);(try clear c16b1);(try clear hcz10_0);(try clear hcz10_1);(try clear hcz10_2);(try clear hcz10_3);(try clear hcz11_0);(try clear hcz11_1);(try clear hcz11_2);(try clear hcz11_3);(try clear hcz15_0);(try clear hcz15_1);(try clear hcz15_2);(try clear hcz15_3);(try clear hcz17_0);(try clear hcz17_1);(try clear hcz17_2);(try clear hcz17_3);(try clear hcz18_0);(try clear hcz18_1);(try clear hcz18_2);(try clear hcz18_3);(try clear hcz5_0);(try clear hcz5_1);(try clear hcz5_2);(try clear hcz5_3);(try clear hcz6_0);(try clear hcz6_1);(try clear hcz6_2);(try clear hcz6_3);(try clear hfz10_0);(try clear hfz10_1);(try clear hfz10_2);(try clear hfz10_3);(try clear hfz11_0);(try clear hfz11_1);(try clear hfz11_2);(try clear hfz11_3);(try clear hfz15_0);(try clear hfz15_1);(try clear hfz15_2);(try clear hfz15_3);(try clear hfz17_0);(try clear hfz17_1);(try clear hfz17_2);(try clear hfz17_3);(try clear hfz18_0);(try clear hfz18_1);(try clear hfz18_2);(try clear hfz18_3);(try clear hfz5_0);(try clear hfz5_1);(try clear hfz5_2);(try clear hfz5_3);(try clear hfz6_0);(try clear hfz6_1);(try clear hfz6_2);(try clear hfz6_3);(try clear p2);(obtain ⟨kq, x41_12, rfl, HA, HJ12, BK101, HB⟩ := hcut)
      cases kq with
      | zero => exact absurd HA.out (by simp [curve_Check.j2])
      | succ kj12 =>
       (have H := HA.out);(clear HA);(simp only [curve_Check.j2] at H)
       by_cases c19 : x41_12 = true
       ·subst c19
        (have H1 : (some 100) = some r := by rw [if_pos rfl] at H; exact H);(clear H);(have H := H1);(clear H1);(obtain rfl := Option.some.inj H);(go_wp2);(go_ret);(exact ⟨eA, bG HB.out⟩)
       (replace c19 := Bool.eq_false_iff.mpr c19);(subst c19);(have H1 : (curve_Check.l0 kj12 a0_0 l0_2 (l0_2.length : Int) 0 a0_0 a0_1 l0_2 l0_3) = some r := by rw [if_neg (show ¬ (false = true) by decide)] at H; exact H);(clear H);(have H := H1);(clear H1);(have H' := aM H);(clear H);(obtain ⟨hcz20_0, hcz20_1, hcz20_2, hcz20_3, hfz20_0, hfz20_1, hfz20_2, hfz20_3⟩ := cz4 BK101.out);(go_wp2)
       go_loopg [3, 47] kj12 (fun kq v3 v47 w' => ∃ (x3_4 : Int) (x47_4 : Int), v3 = .int .i64 x3_4 ∧ v47 = .int .i64 x47_4 ∧ Aside0 (curve_Check.l0 kq x3_4 l0_2 (l0_2.length : Int) x47_4 a0_0 a0_1 l0_2 l0_3 = some r) ∧ Aside0 (kq ≤ kj12) ∧ Aside0 (w'.heap[gb101]? = some (.cells #[.int .i64 a0_0, .int .i64 a0_1, (.slice A0_2 l0_2.length c0_2), (.slice A0_3 l0_3.length c0_3)] 25 (0, 0))) ∧ Aside0 (Below w.heap.size w w'))
       case atStart => exact ⟨(a0_0), (0), sA, sA, H', ⟨Nat.le_refl _⟩, ⟨kA BK101.out⟩, ⟨bG HB.out⟩⟩
       case round =>
        (clear H');(try clear c1);(try clear c2);(try clear p2);(try clear c4);(try clear c4b0);(try clear c7);(try clear c9);(try clear c9b0);(try clear c12);(try clear c14);(try clear c14b0);(try clear c14b1);(try clear c16);(try clear c16b0);(try clear c16b1);(try clear c19);(try clear hcz10_0);(try clear hcz10_1);(try clear hcz10_2);(try clear hcz10_3);(try clear hcz11_0);(try clear hcz11_1);(try clear hcz11_2);(try clear hcz11_3);(try clear hcz15_0);(try clear hcz15_1);(try clear hcz15_2);(try clear hcz15_3);(try clear hcz17_0);(try clear hcz17_1);(try clear hcz17_2);(try clear hcz17_3);(try clear hcz18_0);(try clear hcz18_1);(try clear hcz18_2);(try clear hcz18_3);(try clear hcz20_0);(try clear hcz20_1);(try clear hcz20_2);(try clear hcz20_3);(try clear hcz5_0);(try clear hcz5_1);(try clear hcz5_2);(try clear hcz5_3);(try clear hcz6_0);(try clear hcz6_1);(try clear hcz6_2);(try clear hcz6_3);(try clear hfz10_0);(try clear hfz10_1);(try clear hfz10_2);(try clear hfz10_3);(try clear hfz11_0);(try clear hfz11_1);(try clear hfz11_2);(try clear hfz11_3);(try clear hfz15_0);(try clear hfz15_1);(try clear hfz15_2);(try clear hfz15_3);(try clear hfz17_0);(try clear hfz17_1);(try clear hfz17_2);(try clear hfz17_3);(try clear hfz18_0);(try clear hfz18_1);(try clear hfz18_2);(try clear hfz18_3);(try clear hfz20_0);(try clear hfz20_1);(try clear hfz20_2);(try clear hfz20_3);(try clear hfz5_0);(try clear hfz5_1);(try clear hfz5_2);(try clear hfz5_3);(try clear hfz6_0);(try clear hfz6_1);(try clear hfz6_2);(try clear hfz6_3);(try clear p2);(obtain ⟨x3_4, x47_4, rfl, rfl, HA, HK4, BK101, HB⟩ := hrel)
        cases gk with
        | zero => exact absurd HA.out (by simp [curve_Check.l0])
        | succ k4 =>
         (have H := HA.out);(clear HA);(simp only [curve_Check.l0] at H)
         by_cases c21 : x47_4 < (l0_2.length : Int)
         rotate_left
         ·rw [if_neg c21] at H
          (have c21b0 : decide (x47_4 < (l0_2.length : Int)) = false := decide_eq_false c21);(clear c21);(obtain rfl := Option.some.inj H);(go_wp2);(go_ret);(exact ⟨eA, bG HB.out⟩)
         (rw [if_pos c21] at H);(have c21b0 : decide (x47_4 < (l0_2.length : Int)) = true := decide_eq_true c21);(clear c21);(revert H);(refine ifP fun c22 H => ?_);(have c22b0 := decide_eq_true c22);(clear c22);(revert H);(refine ifP fun c23 H => ?_);(have c23b0 := decide_eq_true c23);(clear c23);(revert H);(refine ifP fun c24 H => ?_);(have c24b0 := decide_eq_true c24);(clear c24)
         by_cases c25 : (rd l0_2 x47_4) ≤ x3_4
         ·rw [if_pos c25] at H
          (have c25b0 : decide ((rd l0_2 x47_4) ≤ x3_4) = true := decide_eq_true c25);(clear c25);(obtain rfl := Option.some.inj H);(have p102 : 0 ≤ (x47_4 : Int) := of_decide_eq_true asA);(have q102 : x47_4 < (l0_2.length : Int) := of_decide_eq_true asA);(obtain ⟨ad102, e102, hx102_0⟩ := Kd.at_int HR0_2.out x47_4 p102 q102);(cases e102);(replace hx102_0 := (HB.out.cell (World.block_lt_of_cell? w _ hx102_0)).trans hx102_0);(replace p102 := eq_true p102);(replace q102 := eq_true q102);(obtain ⟨hcz26_0, hcz26_1, hcz26_2, hcz26_3, hfz26_0, hfz26_1, hfz26_2, hfz26_3⟩ := cz4 BK101.out);(have p103 : 0 ≤ (x47_4 : Int) := of_decide_eq_true asA);(have q103 : x47_4 < (l0_3.length : Int) := of_decide_eq_true asA);(obtain ⟨ad103, e103, hx103_0⟩ := Kd.at_flt HR0_3.out x47_4 p103 q103);(cases e103);(replace hx103_0 := (HB.out.cell (World.block_lt_of_cell? w _ hx103_0)).trans hx103_0);(replace p103 := eq_true p103);(replace q103 := eq_true q103);(go_wp2);(go_ret);(exact ⟨eA, bG HB.out⟩)
         (rw [if_neg c25] at H);(have c25b0 : decide ((rd l0_2 x47_4) ≤ x3_4) = false := decide_eq_false c25);(clear c25)
         by_cases c27 : (rd l0_2 x47_4) > 109572
         ·rw [if_pos c27] at H
          (have c27b0 : decide (109572 < (rd l0_2 x47_4)) = true := decide_eq_true c27);(clear c27);(obtain rfl := Option.some.inj H);(have p102 : 0 ≤ (x47_4 : Int) := of_decide_eq_true asA);(have q102 : x47_4 < (l0_2.length : Int) := of_decide_eq_true asA);(obtain ⟨ad102, e102, hx102_0⟩ := Kd.at_int HR0_2.out x47_4 p102 q102);(cases e102);(replace hx102_0 := (HB.out.cell (World.block_lt_of_cell? w _ hx102_0)).trans hx102_0);(replace p102 := eq_true p102);(replace q102 := eq_true q102);(obtain ⟨hcz28_0, hcz28_1, hcz28_2, hcz28_3, hfz28_0, hfz28_1, hfz28_2, hfz28_3⟩ := cz4 BK101.out);(have p103 : 0 ≤ (x47_4 : Int) := of_decide_eq_true asA);(have q103 : x47_4 < (l0_3.length : Int) := of_decide_eq_true asA);(obtain ⟨ad103, e103, hx103_0⟩ := Kd.at_flt HR0_3.out x47_4 p103 q103);(cases e103);(replace hx103_0 := (HB.out.cell (World.block_lt_of_cell? w _ hx103_0)).trans hx103_0);(replace p103 := eq_true p103);(replace q103 := eq_true q103);(go_wp2);(go_ret);(exact ⟨eA, bG HB.out⟩)
         (rw [if_neg c27] at H);(have c27b0 : decide (109572 < (rd l0_2 x47_4)) = false := decide_eq_false c27);(clear c27);(revert H);(refine bE ?_);(rintro t104 A29 H)
         by_cases c30 : t104 ≥ 4
         ·rw [if_pos c30] at H
          (have c30b0 : decide (4 ≤ t104) = true := decide_eq_true c30);(clear c30);(obtain rfl := Option.some.inj H);(have p102 : 0 ≤ (x47_4 : Int) := of_decide_eq_true asA);(have q102 : x47_4 < (l0_2.length : Int) := of_decide_eq_true asA);(obtain ⟨ad102, e102, hx102_0⟩ := Kd.at_int HR0_2.out x47_4 p102 q102);(cases e102);(replace hx102_0 := (HB.out.cell (World.block_lt_of_cell? w _ hx102_0)).trans hx102_0);(replace p102 := eq_true p102);(replace q102 := eq_true q102);(obtain ⟨hcz31_0, hcz31_1, hcz31_2, hcz31_3, hfz31_0, hfz31_1, hfz31_2, hfz31_3⟩ := cz4 BK101.out);(have p103 : 0 ≤ (x47_4 : Int) := of_decide_eq_true asA);(have q103 : x47_4 < (l0_3.length : Int) := of_decide_eq_true asA);(obtain ⟨ad103, e103, hx103_0⟩ := Kd.at_flt HR0_3.out x47_4 p103 q103);(cases e103);(replace hx103_0 := (HB.out.cell (World.block_lt_of_cell? w _ hx103_0)).trans hx103_0);(replace p103 := eq_true p103);(replace q103 := eq_true q103)
          go_wp2_with (first | (go_at_call 78; (with_reducible refine (ieee_Class.calls (rdOf (0 : Nat) l0_3 x47_4) t104 _ A29.out).mono ?_); rintro e w' ⟨rfl, ⟨nd, rfl⟩⟩))
          (go_ret);(exact ⟨eA, bG HB.out⟩)
         (rw [if_neg c30] at H);(have c30b0 : decide (4 ≤ t104) = false := decide_eq_false c30);(clear c30)
         by_cases c32 : ((FloatKind.f64.format.order (rdOf (0 : Nat) l0_3 x47_4) (0 : Nat) == some .gt) = true)
         rotate_left
         ·rw [if_neg c32] at H
          have c32b0 : (FloatKind.f64.format.order (rdOf (0 : Nat) l0_3 x47_4) (0 : Nat) == some .gt) = false := by simpa using c32
          (try (have c32b1 : decide (FloatKind.f64.format.order (rdOf (0 : Nat) l0_3 x47_4) (0 : Nat) = some .gt) = false := by simpa using c32))
          (try (have c32b2 : (FloatKind.f64.format.order (rdOf (0 : Nat) l0_3 x47_4) (0 : Nat) == some .gt) = false := by simpa using c32))
          (try (have c32b3 : ¬ (FloatKind.f64.format.order (rdOf (0 : Nat) l0_3 x47_4) (0 : Nat) = some .gt) := by simpa using c32))
          (clear c32);(obtain rfl := Option.some.inj H);(have p102 : 0 ≤ (x47_4 : Int) := of_decide_eq_true asA);(have q102 : x47_4 < (l0_2.length : Int) := of_decide_eq_true asA);(obtain ⟨ad102, e102, hx102_0⟩ := Kd.at_int HR0_2.out x47_4 p102 q102);(cases e102);(replace hx102_0 := (HB.out.cell (World.block_lt_of_cell? w _ hx102_0)).trans hx102_0);(replace p102 := eq_true p102);(replace q102 := eq_true q102);(obtain ⟨hcz34_0, hcz34_1, hcz34_2, hcz34_3, hfz34_0, hfz34_1, hfz34_2, hfz34_3⟩ := cz4 BK101.out);(have p103 : 0 ≤ (x47_4 : Int) := of_decide_eq_true asA);(have q103 : x47_4 < (l0_3.length : Int) := of_decide_eq_true asA);(obtain ⟨ad103, e103, hx103_0⟩ := Kd.at_flt HR0_3.out x47_4 p103 q103);(cases e103);(replace hx103_0 := (HB.out.cell (World.block_lt_of_cell? w _ hx103_0)).trans hx103_0);(replace p103 := eq_true p103);(replace q103 := eq_true q103)
          go_wp2_with (first | (go_at_call 78; (with_reducible refine (ieee_Class.calls (rdOf (0 : Nat) l0_3 x47_4) t104 _ A29.out).mono ?_); rintro e w' ⟨rfl, ⟨nd, rfl⟩⟩))
          (go_ret);(exact ⟨eA, bG HB.out⟩)
         (rw [if_pos c32] at H);(have c32b0 : (FloatKind.f64.format.order (rdOf (0 : Nat) l0_3 x47_4) (0 : Nat) == some .gt) = true := c32)
         (try (have c32b1 : decide (FloatKind.f64.format.order (rdOf (0 : Nat) l0_3 x47_4) (0 : Nat) = some .gt) = true := by simpa using c32))
         (try (have c32b2 : (FloatKind.f64.format.order (rdOf (0 : Nat) l0_3 x47_4) (0 : Nat) == some .gt) = true := by simpa using c32))
         (clear c32);(have H' := aM H);(clear H);(have p102 : 0 ≤ (x47_4 : Int) := of_decide_eq_true asA);(have q102 : x47_4 < (l0_2.length : Int) := of_decide_eq_true asA);(obtain ⟨ad102, e102, hx102_0⟩ := Kd.at_int HR0_2.out x47_4 p102 q102);(cases e102);(replace hx102_0 := (HB.out.cell (World.block_lt_of_cell? w _ hx102_0)).trans hx102_0);(replace p102 := eq_true p102);(replace q102 := eq_true q102);(obtain ⟨hcz33_0, hcz33_1, hcz33_2, hcz33_3, hfz33_0, hfz33_1, hfz33_2, hfz33_3⟩ := cz4 BK101.out);(have p103 : 0 ≤ (x47_4 : Int) := of_decide_eq_true asA);(have q103 : x47_4 < (l0_3.length : Int) := of_decide_eq_true asA);(obtain ⟨ad103, e103, hx103_0⟩ := Kd.at_flt HR0_3.out x47_4 p103 q103);(cases e103);(replace hx103_0 := (HB.out.cell (World.block_lt_of_cell? w _ hx103_0)).trans hx103_0);(replace p103 := eq_true p103);(replace q103 := eq_true q103)
         go_wp2_with (first | (go_at_call 78; (with_reducible refine (ieee_Class.calls (rdOf (0 : Nat) l0_3 x47_4) t104 _ A29.out).mono ?_); rintro e w' ⟨rfl, ⟨nd, rfl⟩⟩))
         go_roundg k4
         case measure => have := HJ1.out; have := HJ7.out; have := HJ12.out; have := HK4.out; omega
         case rel => exact ⟨(rd l0_2 x47_4), (wrap64 (x47_4 + 1)), sA, sA, H', ⟨by have := HJ1.out; have := HJ7.out; have := HJ12.out; have := HK4.out; omega⟩, ⟨kA BK101.out⟩, ⟨bG HB.out⟩⟩

end Go.Proofs.YtmdoljecjliehaaGreat.FP
