/- Written by the session's fprint.py out of the translation. -/
import Derived.Test.YtmdoljecjliehaaGreatFPx0
namespace Go.Proofs.YtmdoljecjliehaaGreat.FP
open Go.RowKit Go.Proofs.YtmdoljecjliehaaGreatW.PrintWords Go.Proofs.YtmdoljecjliehaaGreatW.PrintLast Go.Proofs.YtmdoljecjliehaaGreatW.PrintMore
attribute [local go_sem] max2_int min2_int max_two min_two max_three min_three max_four min_four   -- for this text's walks alone
open Go.Proofs.YtmdoljecjliehaaGreat.FX
attribute [local go_sem] run_store_float run_neg_float run_fmul run_fadd run_fsub run_fdiv run_ftoi isSome_setCell 
set_option linter.unusedVariables false
set_option linter.unusedSimpArgs false

mutual
def interp_Check.j0 : Nat → Bool → Int → List Int → List Nat → Option (Int)
 | 0, _, _, _, _ => none
 | k + 1, x14, x106000, x106001, x106002 => if x14 = true then (some 90) else (if (x106001.length : Int) < 1 then (interp_Check.j1 k true x106000 x106001 x106002) else (if (x106001.length : Int) > 256 then (interp_Check.j1 k true x106000 x106001 x106002) else (interp_Check.j1 k ((x106001.length : Int) != (x106002.length : Int)) x106000 x106001 x106002)))
def interp_Check.j1 : Nat → Bool → Int → List Int → List Nat → Option (Int)
 | 0, _, _, _, _ => none
 | k + 1, x33, x106000, x106001, x106002 => if x33 = true then (some 100) else (interp_Check.l0 k (-1) x106001 (x106001.length : Int) 0 x106000 x106001 x106002)
def interp_Check.l0 : Nat → Int → List Int → Int → Int → Int → List Int → List Nat → Option (Int)
 | 0, _, _, _, _, _, _, _ => none
 | k + 1, x3, x35, x36, x37, x106000, x106001, x106002 => if x37 < x36 then (if 0 ≤ x37 then (if x37 < (x35.length : Int) then (if x37 < (x106002.length : Int) then (if (rd x35 x37) ≤ x3 then (some 100) else (if (rd x35 x37) > 109572 then (some 100) else ((ieee_Class.f (rdOf (0 : Nat) x106002 x37)).bind fun t108 => (if t108 ≥ 4 then (some 100) else (if x106000 = 4 then (if ((FloatKind.f64.format.order (rdOf (0 : Nat) x106002 x37) (0 : Nat) == some .gt) = true) then (interp_Check.l0 k (rd x35 x37) x35 x36 (wrap64 (x37 + 1)) x106000 x106001 x106002) else (some 100)) else (interp_Check.l0 k (rd x35 x37) x35 x36 (wrap64 (x37 + 1)) x106000 x106001 x106002)))))) else (none)) else (none)) else (none)) else (some 0)
end
def interp_Check.f (k : Nat) (a0_0 : Int) (l0_1 : List Int) (l0_2 : List Nat) : Option (Int) := if a0_0 < 1 then (interp_Check.j0 k true a0_0 l0_1 l0_2) else (interp_Check.j0 k (decide (a0_0 > 4)) a0_0 l0_1 l0_2)
theorem interp_Check.mono_l : ∀ k, (∀ y0 y1 y2 y3, LeO (interp_Check.j0 k y0 y1 y2 y3) (interp_Check.j0 (k + 1) y0 y1 y2 y3)) ∧ (∀ y0 y1 y2 y3, LeO (interp_Check.j1 k y0 y1 y2 y3) (interp_Check.j1 (k + 1) y0 y1 y2 y3)) ∧ (∀ y0 y1 y2 y3 y4 y5 y6, LeO (interp_Check.l0 k y0 y1 y2 y3 y4 y5 y6) (interp_Check.l0 (k + 1) y0 y1 y2 y3 y4 y5 y6))
 | 0 => ⟨fun _ _ _ _ r h => by simp [interp_Check.j0] at h, fun _ _ _ _ r h => by simp [interp_Check.j1] at h, fun _ _ _ _ _ _ _ r h => by simp [interp_Check.l0] at h⟩
 | k + 1 => by
  (obtain ⟨ih0, ih1, ih2⟩ := interp_Check.mono_l k);(refine ⟨?_, ?_, ?_⟩)
  ·intro y0 y1 y2 y3
   unfold interp_Check.j0
   repeat' first
   | (with_reducible exact ih0 _ _ _ _)
   | (with_reducible exact ih1 _ _ _ _)
   | (with_reducible exact ih2 _ _ _ _ _ _ _)
   | (with_reducible exact LeO.refl _)
   | (with_reducible exact LeO.none _)
   | (with_reducible refine LeO.ite ?_ ?_)
   | (with_reducible refine LeO.bind ?_ (fun _ => ?_))
   | exact ih0 _ _ _ _
   | exact ih1 _ _ _ _
   | exact ih2 _ _ _ _ _ _ _
   | exact LeO.none _
   | refine LeO.ite ?_ ?_
   | refine LeO.bind ?_ (fun _ => ?_)
  ·intro y0 y1 y2 y3
   unfold interp_Check.j1
   repeat' first
   | (with_reducible exact ih0 _ _ _ _)
   | (with_reducible exact ih1 _ _ _ _)
   | (with_reducible exact ih2 _ _ _ _ _ _ _)
   | (with_reducible exact LeO.refl _)
   | (with_reducible exact LeO.none _)
   | (with_reducible refine LeO.ite ?_ ?_)
   | (with_reducible refine LeO.bind ?_ (fun _ => ?_))
   | exact ih0 _ _ _ _
   | exact ih1 _ _ _ _
   | exact ih2 _ _ _ _ _ _ _
   | exact LeO.none _
   | refine LeO.ite ?_ ?_
   | refine LeO.bind ?_ (fun _ => ?_)
  ·intro y0 y1 y2 y3 y4 y5 y6
   unfold interp_Check.l0
   repeat' first
   | (with_reducible exact ih0 _ _ _ _)
   | (with_reducible exact ih1 _ _ _ _)
   | (with_reducible exact ih2 _ _ _ _ _ _ _)
   | (with_reducible exact LeO.refl _)
   | (with_reducible exact LeO.none _)
   | (with_reducible refine LeO.ite ?_ ?_)
   | (with_reducible refine LeO.bind ?_ (fun _ => ?_))
   | exact ih0 _ _ _ _
   | exact ih1 _ _ _ _
   | exact ih2 _ _ _ _ _ _ _
   | exact LeO.none _
   | refine LeO.ite ?_ ?_
   | refine LeO.bind ?_ (fun _ => ?_)
theorem interp_Check.mono : ∀ a0 a1 a2 k, LeO (interp_Check.f k a0 a1 a2) (interp_Check.f (k + 1) a0 a1 a2) := by
 (intro a0 a1 a2 k);(obtain ⟨ih0, ih1, ih2⟩ := interp_Check.mono_l k);(unfold interp_Check.f)
 repeat' first
  | (with_reducible exact ih0 _ _ _ _)
  | (with_reducible exact ih1 _ _ _ _)
  | (with_reducible exact ih2 _ _ _ _ _ _ _)
  | (with_reducible exact LeO.refl _)
  | (with_reducible exact LeO.none _)
  | (with_reducible refine LeO.ite ?_ ?_)
  | (with_reducible refine LeO.bind ?_ (fun _ => ?_))
  | exact ih0 _ _ _ _
  | exact ih1 _ _ _ _
  | exact ih2 _ _ _ _ _ _ _
  | exact LeO.none _
  | refine LeO.ite ?_ ?_
  | refine LeO.bind ?_ (fun _ => ?_)
set_option maxHeartbeats 8000000 in
set_option maxRecDepth 100000 in
theorem interp_Check.calls (k : Nat) (a0_0 : Int) (A0_1 : Option Addr) (c0_1 : Nat) (l0_1 : List Int) (A0_2 : Option Addr) (c0_2 : Nat) (l0_2 : List Nat) (r : Int) (w : World) (hr0_1 : Kd.C (Kd.int .i64) w A0_1 l0_1.length l0_1) (hc0_1 : l0_1.length ≤ c0_1) (hr0_2 : Kd.C Kd.flt w A0_2 l0_2.length l0_2) (hc0_2 : l0_2.length ≤ c0_2) (h : interp_Check.f k a0_0 l0_1 l0_2 = some r) :
  Calls Tryz.prog 190 #[.agg #[.int .i64 a0_0, .slice A0_1 l0_1.length c0_1, .slice A0_2 l0_2.length c0_2]] w fun e w' => e = .returned (.int .i64 r) ∧ Below w.heap.size w w' := by
 (have hu119 := Tryz.underlying119);(have HR0_1 := aM hr0_1);(have HC0_1 := aM hc0_1);(clear hr0_1 hc0_1);(have HR0_2 := aM hr0_2);(have HC0_2 := aM hc0_2);(clear hr0_2 hc0_2);(have HB := aM (Below.refl w.heap.size w));(have H : (if a0_0 < 1 then (interp_Check.j0 k true a0_0 l0_1 l0_2) else (interp_Check.j0 k (decide (a0_0 > 4)) a0_0 l0_1 l0_2)) = some r := h);(clear h);(have HC2 := aM H);(clear H);(go_enter Tryz.func190, Tryz.ntmps190)
 go_upto_region 1 with (first | ((with_reducible refine gD 1 rfl ?_); (try (refine gate_guard (by rfl) ?_; dsimp only)); refine boxW (N := 1) #[.int .i64 a0_0, .slice A0_1 l0_1.length c0_1, .slice A0_2 l0_2.length c0_2] 119 HB ?_; clear HB; intro gb105 w3 BK105 HB GW105; have GE105 := GW105))
 (try simp only [Act.put, List.setIfInBounds_toArray, List.set_cons_zero, List.set_cons_succ])
 go_cut [14] (fun v14 wc => ∃ (kq : Nat) (x14_1 : Bool), v14 = .bool x14_1 ∧ Aside0 (interp_Check.j0 kq x14_1 a0_0 l0_1 l0_2 = some r) ∧ Aside0 (kq ≤ k) ∧ Aside0 (wc.heap[gb105]? = some (.cells #[.int .i64 a0_0, (.slice A0_1 l0_1.length c0_1), (.slice A0_2 l0_2.length c0_2)] 119 (0, 0))) ∧ Aside0 (Below w.heap.size w wc))
 case first =>
  (have H := HC2.out);(clear HC2)
  by_cases c4 : a0_0 < 1
  ·rw [if_pos c4] at H
   (have c4b0 : decide (a0_0 < 1) = true := decide_eq_true c4);(clear c4)
   (first | rw [c4b0] | (simp only [i64_w, i32_w]; rw [c4b0]) | skip)
   (have H' := aM H);(clear H);(obtain ⟨hcz5_0, hcz5_1, hcz5_2, hfz5_0, hfz5_1, hfz5_2⟩ := cz3 BK105.out);(go_wp2);(go_meet)
   case rel => exact ⟨_, (true), sA, H', ⟨by first | omega | exact Nat.le_refl _⟩, ⟨kA BK105.out⟩, ⟨bG HB.out⟩⟩
  (rw [if_neg c4] at H);(have c4b0 : decide (a0_0 < 1) = false := decide_eq_false c4);(clear c4)
  (first | rw [c4b0] | (simp only [i64_w, i32_w]; rw [c4b0]) | skip)
  (have H' := aM H);(clear H);(obtain ⟨hcz6_0, hcz6_1, hcz6_2, hfz6_0, hfz6_1, hfz6_2⟩ := cz3 BK105.out);(go_wp2);(go_meet)
  case rel => exact ⟨_, (decide (a0_0 > 4)), sA, H', ⟨by first | omega | exact Nat.le_refl _⟩, ⟨kA BK105.out⟩, ⟨bG HB.out⟩⟩
 case rest =>
  (clear HC2);(try clear c1);(try clear p2);(try clear c4);(try clear c4b0);(try clear hcz5_0);(try clear hcz5_1);(try clear hcz5_2);(try clear hcz6_0);(try clear hcz6_1);(try clear hcz6_2);(try clear hfz5_0);(try clear hfz5_1);(try clear hfz5_2);(try clear hfz6_0);(try clear hfz6_1);(try clear hfz6_2);(obtain ⟨kq, x14_1, rfl, HA, HJ1, BK105, HB⟩ := hcut)
  cases kq with
  | zero => exact absurd HA.out (by simp [interp_Check.j0])
  | succ kj1 =>
   (have H := HA.out);(clear HA);(simp only [interp_Check.j0] at H)
   by_cases c7 : x14_1 = true
   ·subst c7
    (have H1 : (some 90) = some r := by rw [if_pos rfl] at H; exact H);(clear H);(have H := H1);(clear H1);(obtain rfl := Option.some.inj H);(go_wp2);(go_ret);(exact ⟨eA, bG HB.out⟩)
   (replace c7 := Bool.eq_false_iff.mpr c7);(subst c7);(have H1 : (if (l0_1.length : Int) < 1 then (interp_Check.j1 kj1 true a0_0 l0_1 l0_2) else (if (l0_1.length : Int) > 256 then (interp_Check.j1 kj1 true a0_0 l0_1 l0_2) else (interp_Check.j1 kj1 ((l0_1.length : Int) != (l0_2.length : Int)) a0_0 l0_1 l0_2))) = some r := by rw [if_neg (show ¬ (false = true) by decide)] at H; exact H);(clear H);(have H := H1);(clear H1);(have HC8 := aM H);(clear H)
   go_upto_region 3 with (fail)
   go_cut [33] (fun v33 wc => ∃ (kq : Nat) (x33_7 : Bool), v33 = .bool x33_7 ∧ Aside0 (interp_Check.j1 kq x33_7 a0_0 l0_1 l0_2 = some r) ∧ Aside0 (kq ≤ kj1) ∧ Aside0 (wc.heap[gb105]? = some (.cells #[.int .i64 a0_0, (.slice A0_1 l0_1.length c0_1), (.slice A0_2 l0_2.length c0_2)] 119 (0, 0))) ∧ Aside0 (Below w.heap.size w wc))
   case first =>
    (have H := HC8.out);(clear HC8)
    by_cases c9 : (l0_1.length : Int) < 1
    ·rw [if_pos c9] at H
     (have c9b0 : decide ((l0_1.length : Int) < 1) = true := decide_eq_true c9);(have c9b1 : decide (l0_1.length < 1) = true := decide_eq_true (by omega));(clear c9)
     (first | rw [c9b0] | (simp only [i64_w, i32_w]; rw [c9b0]) | skip)
     (have H' := aM H);(clear H);(obtain ⟨hcz10_0, hcz10_1, hcz10_2, hfz10_0, hfz10_1, hfz10_2⟩ := cz3 BK105.out);(go_wp2);(go_meet)
     case rel => exact ⟨_, (true), sA, H', ⟨by have := HJ1.out; first | omega | exact Nat.le_refl _⟩, ⟨kA BK105.out⟩, ⟨bG HB.out⟩⟩
    (rw [if_neg c9] at H);(have c9b0 : decide ((l0_1.length : Int) < 1) = false := decide_eq_false c9);(have c9b1 : decide (l0_1.length < 1) = false := decide_eq_false (by omega));(clear c9)
    (first | rw [c9b0] | (simp only [i64_w, i32_w]; rw [c9b0]) | skip)
    by_cases c11 : (l0_1.length : Int) > 256
    ·rw [if_pos c11] at H
     (have c11b0 : decide (256 < (l0_1.length : Int)) = true := decide_eq_true c11);(have c11b1 : decide (256 < l0_1.length) = true := decide_eq_true (by omega));(clear c11);(have H' := aM H);(clear H);(obtain ⟨hcz12_0, hcz12_1, hcz12_2, hfz12_0, hfz12_1, hfz12_2⟩ := cz3 BK105.out);(go_wp2);(go_meet)
     case rel => exact ⟨_, (true), sA, H', ⟨by have := HJ1.out; first | omega | exact Nat.le_refl _⟩, ⟨kA BK105.out⟩, ⟨bG HB.out⟩⟩
    (rw [if_neg c11] at H);(have c11b0 : decide (256 < (l0_1.length : Int)) = false := decide_eq_false c11);(have c11b1 : decide (256 < l0_1.length) = false := decide_eq_false (by omega));(clear c11);(have H' := aM H);(clear H);(obtain ⟨hcz13_0, hcz13_1, hcz13_2, hfz13_0, hfz13_1, hfz13_2⟩ := cz3 BK105.out);(go_wp2);(go_meet)
    case rel => exact ⟨_, (((l0_1.length : Int) != (l0_2.length : Int))), sA, H', ⟨by have := HJ1.out; first | omega | exact Nat.le_refl _⟩, ⟨kA BK105.out⟩, ⟨bG HB.out⟩⟩
   case rest =>
    (clear HC8);(try clear c1);(try clear p2);(try clear c4);(try clear c4b0);(try clear c7);(try clear c9);(try clear c9b0);(try clear c9b1);(try clear c11);(try clear c11b0);(try clear c11b1);(try clear hcz10_0);(try clear hcz10_1);(try clear hcz10_2);(try clear hcz12_0);(try clear hcz12_1);(try clear hcz12_2);(try clear hcz13_0);(try clear hcz13_1);(try clear hcz13_2);(try clear hcz5_0);(try clear hcz5_1);(try clear hcz5_2);(try clear hcz6_0);(try clear hcz6_1);(try clear hcz6_2);(try clear hfz10_0);(try clear hfz10_1);(try clear hfz10_2);(try clear hfz12_0);(try clear hfz12_1);(try clear hfz12_2);(try clear hfz13_0);(try clear hfz13_1);(try clear hfz13_2);(try clear hfz5_0);(try clear hfz5_1);(try clear hfz5_2);(try clear hfz6_0);(try clear hfz6_1);(try clear hfz6_2);(try clear p2);(obtain ⟨kq, x33_7, rfl, HA, HJ7, BK105, HB⟩ := hcut)
    cases kq with
    | zero => exact absurd HA.out (by simp [interp_Check.j1])
    | succ kj7 =>
     (have H := HA.out);(clear HA);(simp only [interp_Check.j1] at H)
     by_cases c14 : x33_7 = true
     ·subst c14
      (have H1 : (some 100) = some r := by rw [if_pos rfl] at H; exact H);(clear H);(have H := H1);(clear H1);(obtain rfl := Option.some.inj H);(go_wp2);(go_ret);(exact ⟨eA, bG HB.out⟩)
     (replace c14 := Bool.eq_false_iff.mpr c14);(subst c14);(have H1 : (interp_Check.l0 kj7 (-1) l0_1 (l0_1.length : Int) 0 a0_0 l0_1 l0_2) = some r := by rw [if_neg (show ¬ (false = true) by decide)] at H; exact H);(clear H);(have H := H1);(clear H1);(have H' := aM H);(clear H);(obtain ⟨hcz15_0, hcz15_1, hcz15_2, hfz15_0, hfz15_1, hfz15_2⟩ := cz3 BK105.out);(go_wp2)
     go_loopg [3, 37] kj7 (fun kq v3 v37 w' => ∃ (x3_3 : Int) (x37_3 : Int), v3 = .int .i64 x3_3 ∧ v37 = .int .i64 x37_3 ∧ Aside0 (interp_Check.l0 kq x3_3 l0_1 (l0_1.length : Int) x37_3 a0_0 l0_1 l0_2 = some r) ∧ Aside0 (kq ≤ kj7) ∧ Aside0 (w'.heap[gb105]? = some (.cells #[.int .i64 a0_0, (.slice A0_1 l0_1.length c0_1), (.slice A0_2 l0_2.length c0_2)] 119 (0, 0))) ∧ Aside0 (Below w.heap.size w w'))
     case atStart => exact ⟨((-1)), (0), sA, sA, H', ⟨Nat.le_refl _⟩, ⟨kA BK105.out⟩, ⟨bG HB.out⟩⟩
     case round =>
      (clear H');(try clear c1);(try clear p2);(try clear c4);(try clear c4b0);(try clear c7);(try clear c9);(try clear c9b0);(try clear c9b1);(try clear c11);(try clear c11b0);(try clear c11b1);(try clear c14);(try clear hcz10_0);(try clear hcz10_1);(try clear hcz10_2);(try clear hcz12_0);(try clear hcz12_1);(try clear hcz12_2);(try clear hcz13_0);(try clear hcz13_1);(try clear hcz13_2);(try clear hcz15_0);(try clear hcz15_1);(try clear hcz15_2);(try clear hcz5_0);(try clear hcz5_1);(try clear hcz5_2);(try clear hcz6_0);(try clear hcz6_1);(try clear hcz6_2);(try clear hfz10_0);(try clear hfz10_1);(try clear hfz10_2);(try clear hfz12_0);(try clear hfz12_1);(try clear hfz12_2);(try clear hfz13_0);(try clear hfz13_1);(try clear hfz13_2);(try clear hfz15_0);(try clear hfz15_1);(try clear hfz15_2);(try clear hfz5_0);(try clear hfz5_1);(try clear hfz5_2);(try clear hfz6_0);(try clear hfz6_1);(try clear hfz6_2);(try clear p2);(obtain ⟨x3_3, x37_3, rfl, rfl, HA, HK3, BK105, HB⟩ := hrel)
      cases gk with
      | zero => exact absurd HA.out (by simp [interp_Check.l0])
      | succ k3 =>
       (have H := HA.out);(clear HA);(simp only [interp_Check.l0] at H)
       by_cases c16 : x37_3 < (l0_1.length : Int)
       rotate_left
       ·rw [if_neg c16] at H
        (have c16b0 : decide (x37_3 < (l0_1.length : Int)) = false := decide_eq_false c16);(clear c16);(obtain rfl := Option.some.inj H);(go_wp2);(go_ret);(exact ⟨eA, bG HB.out⟩)
       (rw [if_pos c16] at H);(have c16b0 : decide (x37_3 < (l0_1.length : Int)) = true := decide_eq_true c16);(clear c16);(revert H);(refine ifP fun c17 H => ?_);(have c17b0 := decide_eq_true c17);(clear c17);(revert H);(refine ifP fun c18 H => ?_);(have c18b0 := decide_eq_true c18);(clear c18);(revert H);(refine ifP fun c19 H => ?_);(have c19b0 := decide_eq_true c19);(clear c19)
       by_cases c20 : (rd l0_1 x37_3) ≤ x3_3
       ·rw [if_pos c20] at H
        (have c20b0 : decide ((rd l0_1 x37_3) ≤ x3_3) = true := decide_eq_true c20);(clear c20);(obtain rfl := Option.some.inj H);(have p106 : 0 ≤ (x37_3 : Int) := of_decide_eq_true asA);(have q106 : x37_3 < (l0_1.length : Int) := of_decide_eq_true asA);(obtain ⟨ad106, e106, hx106_0⟩ := Kd.at_int HR0_1.out x37_3 p106 q106);(cases e106);(replace hx106_0 := (HB.out.cell (World.block_lt_of_cell? w _ hx106_0)).trans hx106_0);(replace p106 := eq_true p106);(replace q106 := eq_true q106);(obtain ⟨hcz21_0, hcz21_1, hcz21_2, hfz21_0, hfz21_1, hfz21_2⟩ := cz3 BK105.out);(have p107 : 0 ≤ (x37_3 : Int) := of_decide_eq_true asA);(have q107 : x37_3 < (l0_2.length : Int) := of_decide_eq_true asA);(obtain ⟨ad107, e107, hx107_0⟩ := Kd.at_flt HR0_2.out x37_3 p107 q107);(cases e107);(replace hx107_0 := (HB.out.cell (World.block_lt_of_cell? w _ hx107_0)).trans hx107_0);(replace p107 := eq_true p107);(replace q107 := eq_true q107);(go_wp2);(go_ret);(exact ⟨eA, bG HB.out⟩)
       (rw [if_neg c20] at H);(have c20b0 : decide ((rd l0_1 x37_3) ≤ x3_3) = false := decide_eq_false c20);(clear c20)
       by_cases c22 : (rd l0_1 x37_3) > 109572
       ·rw [if_pos c22] at H
        (have c22b0 : decide (109572 < (rd l0_1 x37_3)) = true := decide_eq_true c22);(clear c22);(obtain rfl := Option.some.inj H);(have p106 : 0 ≤ (x37_3 : Int) := of_decide_eq_true asA);(have q106 : x37_3 < (l0_1.length : Int) := of_decide_eq_true asA);(obtain ⟨ad106, e106, hx106_0⟩ := Kd.at_int HR0_1.out x37_3 p106 q106);(cases e106);(replace hx106_0 := (HB.out.cell (World.block_lt_of_cell? w _ hx106_0)).trans hx106_0);(replace p106 := eq_true p106);(replace q106 := eq_true q106);(obtain ⟨hcz23_0, hcz23_1, hcz23_2, hfz23_0, hfz23_1, hfz23_2⟩ := cz3 BK105.out);(have p107 : 0 ≤ (x37_3 : Int) := of_decide_eq_true asA);(have q107 : x37_3 < (l0_2.length : Int) := of_decide_eq_true asA);(obtain ⟨ad107, e107, hx107_0⟩ := Kd.at_flt HR0_2.out x37_3 p107 q107);(cases e107);(replace hx107_0 := (HB.out.cell (World.block_lt_of_cell? w _ hx107_0)).trans hx107_0);(replace p107 := eq_true p107);(replace q107 := eq_true q107);(go_wp2);(go_ret);(exact ⟨eA, bG HB.out⟩)
       (rw [if_neg c22] at H);(have c22b0 : decide (109572 < (rd l0_1 x37_3)) = false := decide_eq_false c22);(clear c22);(revert H);(refine bE ?_);(rintro t108 A24 H)
       by_cases c25 : t108 ≥ 4
       ·rw [if_pos c25] at H
        (have c25b0 : decide (4 ≤ t108) = true := decide_eq_true c25);(clear c25);(obtain rfl := Option.some.inj H);(have p106 : 0 ≤ (x37_3 : Int) := of_decide_eq_true asA);(have q106 : x37_3 < (l0_1.length : Int) := of_decide_eq_true asA);(obtain ⟨ad106, e106, hx106_0⟩ := Kd.at_int HR0_1.out x37_3 p106 q106);(cases e106);(replace hx106_0 := (HB.out.cell (World.block_lt_of_cell? w _ hx106_0)).trans hx106_0);(replace p106 := eq_true p106);(replace q106 := eq_true q106);(obtain ⟨hcz26_0, hcz26_1, hcz26_2, hfz26_0, hfz26_1, hfz26_2⟩ := cz3 BK105.out);(have p107 : 0 ≤ (x37_3 : Int) := of_decide_eq_true asA);(have q107 : x37_3 < (l0_2.length : Int) := of_decide_eq_true asA);(obtain ⟨ad107, e107, hx107_0⟩ := Kd.at_flt HR0_2.out x37_3 p107 q107);(cases e107);(replace hx107_0 := (HB.out.cell (World.block_lt_of_cell? w _ hx107_0)).trans hx107_0);(replace p107 := eq_true p107);(replace q107 := eq_true q107)
        go_wp2_with (first | (go_at_call 78; (with_reducible refine (ieee_Class.calls (rdOf (0 : Nat) l0_2 x37_3) t108 _ A24.out).mono ?_); rintro e w' ⟨rfl, ⟨nd, rfl⟩⟩))
        (go_ret);(exact ⟨eA, bG HB.out⟩)
       (rw [if_neg c25] at H);(have c25b0 : decide (4 ≤ t108) = false := decide_eq_false c25);(clear c25)
       by_cases c27 : a0_0 = 4
       rotate_left
       ·rw [if_neg c27] at H
        (have c27b0 : (a0_0 == 4) = false := beq_eq_false_iff_ne.mpr c27);(have c27b1 : (a0_0 != 4) = true := bne_iff_ne.mpr c27);(have H' := aM H);(clear H);(have p106 : 0 ≤ (x37_3 : Int) := of_decide_eq_true asA);(have q106 : x37_3 < (l0_1.length : Int) := of_decide_eq_true asA);(obtain ⟨ad106, e106, hx106_0⟩ := Kd.at_int HR0_1.out x37_3 p106 q106);(cases e106);(replace hx106_0 := (HB.out.cell (World.block_lt_of_cell? w _ hx106_0)).trans hx106_0);(replace p106 := eq_true p106);(replace q106 := eq_true q106);(obtain ⟨hcz31_0, hcz31_1, hcz31_2, hfz31_0, hfz31_1, hfz31_2⟩ := cz3 BK105.out);(have p107 : 0 ≤ (x37_3 : Int) := of_decide_eq_true asA);(have q107 : x37_3 < (l0_2.length : Int) := of_decide_eq_true asA);(obtain ⟨ad107, e107, hx107_0⟩ := Kd.at_flt HR0_2.out x37_3 p107 q107);(cases e107);(replace hx107_0 := (HB.out.cell (World.block_lt_of_cell? w _ hx107_0)).trans hx107_0);(replace p107 := eq_true p107);(replace q107 := eq_true q107)
        go_wp2_with (first | (go_at_call 78; (with_reducible refine (ieee_Class.calls (rdOf (0 : Nat) l0_2 x37_3) t108 _ A24.out).mono ?_); rintro e w' ⟨rfl, ⟨nd, rfl⟩⟩))
        go_roundg k3
        case measure => have := HJ1.out; have := HJ7.out; have := HK3.out; omega
        case rel => exact ⟨(rd l0_1 x37_3), (wrap64 (x37_3 + 1)), sA, sA, H', ⟨by have := HJ1.out; have := HJ7.out; have := HK3.out; omega⟩, ⟨kA BK105.out⟩, ⟨bG HB.out⟩⟩
       (rw [if_pos c27] at H);(have c27b0 : (a0_0 == 4) = true := beq_iff_eq.mpr c27);(have c27b1 : (a0_0 != 4) = false := bne_eq_false_iff_eq.mpr c27);(clear c27)
       by_cases c28 : ((FloatKind.f64.format.order (rdOf (0 : Nat) l0_2 x37_3) (0 : Nat) == some .gt) = true)
       rotate_left
       ·rw [if_neg c28] at H
        have c28b0 : (FloatKind.f64.format.order (rdOf (0 : Nat) l0_2 x37_3) (0 : Nat) == some .gt) = false := by simpa using c28
        (try (have c28b1 : decide (FloatKind.f64.format.order (rdOf (0 : Nat) l0_2 x37_3) (0 : Nat) = some .gt) = false := by simpa using c28))
        (try (have c28b2 : (FloatKind.f64.format.order (rdOf (0 : Nat) l0_2 x37_3) (0 : Nat) == some .gt) = false := by simpa using c28))
        (try (have c28b3 : ¬ (FloatKind.f64.format.order (rdOf (0 : Nat) l0_2 x37_3) (0 : Nat) = some .gt) := by simpa using c28))
        (clear c28);(obtain rfl := Option.some.inj H);(have p106 : 0 ≤ (x37_3 : Int) := of_decide_eq_true asA);(have q106 : x37_3 < (l0_1.length : Int) := of_decide_eq_true asA);(obtain ⟨ad106, e106, hx106_0⟩ := Kd.at_int HR0_1.out x37_3 p106 q106);(cases e106);(replace hx106_0 := (HB.out.cell (World.block_lt_of_cell? w _ hx106_0)).trans hx106_0);(replace p106 := eq_true p106);(replace q106 := eq_true q106);(obtain ⟨hcz30_0, hcz30_1, hcz30_2, hfz30_0, hfz30_1, hfz30_2⟩ := cz3 BK105.out);(have p107 : 0 ≤ (x37_3 : Int) := of_decide_eq_true asA);(have q107 : x37_3 < (l0_2.length : Int) := of_decide_eq_true asA);(obtain ⟨ad107, e107, hx107_0⟩ := Kd.at_flt HR0_2.out x37_3 p107 q107);(cases e107);(replace hx107_0 := (HB.out.cell (World.block_lt_of_cell? w _ hx107_0)).trans hx107_0);(replace p107 := eq_true p107);(replace q107 := eq_true q107)
        go_wp2_with (first | (go_at_call 78; (with_reducible refine (ieee_Class.calls (rdOf (0 : Nat) l0_2 x37_3) t108 _ A24.out).mono ?_); rintro e w' ⟨rfl, ⟨nd, rfl⟩⟩))
        (go_ret);(exact ⟨eA, bG HB.out⟩)
       (rw [if_pos c28] at H);(have c28b0 : (FloatKind.f64.format.order (rdOf (0 : Nat) l0_2 x37_3) (0 : Nat) == some .gt) = true := c28)
       (try (have c28b1 : decide (FloatKind.f64.format.order (rdOf (0 : Nat) l0_2 x37_3) (0 : Nat) = some .gt) = true := by simpa using c28))
       (try (have c28b2 : (FloatKind.f64.format.order (rdOf (0 : Nat) l0_2 x37_3) (0 : Nat) == some .gt) = true := by simpa using c28))
       (clear c28);(have H' := aM H);(clear H);(have p106 : 0 ≤ (x37_3 : Int) := of_decide_eq_true asA);(have q106 : x37_3 < (l0_1.length : Int) := of_decide_eq_true asA);(obtain ⟨ad106, e106, hx106_0⟩ := Kd.at_int HR0_1.out x37_3 p106 q106);(cases e106);(replace hx106_0 := (HB.out.cell (World.block_lt_of_cell? w _ hx106_0)).trans hx106_0);(replace p106 := eq_true p106);(replace q106 := eq_true q106);(obtain ⟨hcz29_0, hcz29_1, hcz29_2, hfz29_0, hfz29_1, hfz29_2⟩ := cz3 BK105.out);(have p107 : 0 ≤ (x37_3 : Int) := of_decide_eq_true asA);(have q107 : x37_3 < (l0_2.length : Int) := of_decide_eq_true asA);(obtain ⟨ad107, e107, hx107_0⟩ := Kd.at_flt HR0_2.out x37_3 p107 q107);(cases e107);(replace hx107_0 := (HB.out.cell (World.block_lt_of_cell? w _ hx107_0)).trans hx107_0);(replace p107 := eq_true p107);(replace q107 := eq_true q107)
       go_wp2_with (first | (go_at_call 78; (with_reducible refine (ieee_Class.calls (rdOf (0 : Nat) l0_2 x37_3) t108 _ A24.out).mono ?_); rintro e w' ⟨rfl, ⟨nd, rfl⟩⟩))
       go_roundg k3
       case measure => have := HJ1.out; have := HJ7.out; have := HK3.out; omega
       case rel => exact ⟨(rd l0_1 x37_3), (wrap64 (x37_3 + 1)), sA, sA, H', ⟨by have := HJ1.out; have := HJ7.out; have := HK3.out; omega⟩, ⟨kA BK105.out⟩, ⟨bG HB.out⟩⟩

def interp_find.f (a0_0 : Int) (l0_1 : List Int) (l0_2 : List Nat) (a1 : Int) : Option (Int × Int) := if 0 < (l0_1.length : Int) then (if a1 < (rd l0_1 0) then (some (0, 51)) else (if 0 ≤ (wrap64 ((l0_1.length : Int) - 1)) then (if (wrap64 ((l0_1.length : Int) - 1)) < (l0_1.length : Int) then (if a1 > (rd l0_1 (wrap64 ((l0_1.length : Int) - 1))) then (some (0, 51)) else ((sort_SearchInts.f l0_1 (wrap64 (a1 + 1))).bind fun t112 => (some (wrap64 (t112 - 1), 0)))) else (none)) else (none))) else (none)
set_option maxHeartbeats 8000000 in
set_option maxRecDepth 100000 in
theorem interp_find.calls (a0_0 : Int) (A0_1 : Option Addr) (c0_1 : Nat) (l0_1 : List Int) (A0_2 : Option Addr) (c0_2 : Nat) (l0_2 : List Nat) (a1 : Int) (r1 : Int) (r2 : Int) (w : World) (hr0_1 : Kd.C (Kd.int .i64) w A0_1 l0_1.length l0_1) (hc0_1 : l0_1.length ≤ c0_1) (hr0_2 : Kd.C Kd.flt w A0_2 l0_2.length l0_2) (hc0_2 : l0_2.length ≤ c0_2) (h : interp_find.f a0_0 l0_1 l0_2 a1 = some (r1, r2)) :
  Calls Tryz.prog 191 #[.agg #[.int .i64 a0_0, .slice A0_1 l0_1.length c0_1, .slice A0_2 l0_2.length c0_2], .int .i64 a1] w fun e w' => e = .returned (.tuple #[.int .i64 r1, .int .i64 r2]) ∧ Below w.heap.size w w' := by
 (have hu119 := Tryz.underlying119);(have HR0_1 := aM hr0_1);(have HC0_1 := aM hc0_1);(clear hr0_1 hc0_1);(have HR0_2 := aM hr0_2);(have HC0_2 := aM hc0_2);(clear hr0_2 hc0_2);(have HB := aM (Below.refl w.heap.size w));(have H : (if 0 < (l0_1.length : Int) then (if a1 < (rd l0_1 0) then (some (0, 51)) else (if 0 ≤ (wrap64 ((l0_1.length : Int) - 1)) then (if (wrap64 ((l0_1.length : Int) - 1)) < (l0_1.length : Int) then (if a1 > (rd l0_1 (wrap64 ((l0_1.length : Int) - 1))) then (some (0, 51)) else ((sort_SearchInts.f l0_1 (wrap64 (a1 + 1))).bind fun t112 => (some (wrap64 (t112 - 1), 0)))) else (none)) else (none))) else (none)) = some (r1, r2) := h);(clear h);(revert H);(refine ifP fun c3 H => ?_);(have c3b0 := decide_eq_true c3);(have c3b1 : decide (0 < l0_1.length) = true := decide_eq_true (by omega));(clear c3)
 by_cases c4 : a1 < (rd l0_1 0)
 ·rw [if_pos c4] at H
  (have c4b0 : decide (a1 < (rd l0_1 0)) = true := decide_eq_true c4);(clear c4);(simp only [Option.some.injEq, Prod.mk.injEq] at H);(obtain ⟨rfl, rfl⟩ := H);(go_enter Tryz.func191, Tryz.ntmps191)
  go_wp2_with (first | ((with_reducible refine gD 2 rfl ?_); (try (refine gate_guard (by rfl) ?_; dsimp only)); refine boxW (N := 2) #[.int .i64 a0_0, .slice A0_1 l0_1.length c0_1, .slice A0_2 l0_2.length c0_2] 119 HB ?_; clear HB; intro gb109 w5 BK109 HB GW109; have GE109 := GW109; obtain ⟨hcz6_0, hcz6_1, hcz6_2, hfz6_0, hfz6_1, hfz6_2⟩ := cz3 BK109.out; have p110 : 0 ≤ (0 : Int) := (by omega); have q110 : 0 < (l0_1.length : Int) := of_decide_eq_true asA; obtain ⟨ad110, e110, hx110_0⟩ := Kd.at_int HR0_1.out 0 p110 q110; cases e110; have qi110 : (0 < l0_1.length) = True := eq_true (by omega); (try rw [show ((0 : Int)).toNat = 0 from rfl] at hx110_0); (try rw [Addr.add_zero'] at hx110_0); replace hx110_0 := (HB.out.cell (World.block_lt_of_cell? w _ hx110_0)).trans hx110_0; replace p110 := eq_true p110; replace q110 := eq_true q110))
  (go_ret2);(exact ⟨eA, bG HB.out⟩)
 (rw [if_neg c4] at H);(have c4b0 : decide (a1 < (rd l0_1 0)) = false := decide_eq_false c4);(clear c4);(generalize hji7 : (wrap64 ((l0_1.length : Int) - 1)) = ji7 at H);(have hji7w : (IntKind.i64.wrap ((l0_1.length : Int) - 1)) = ji7 := (i64_w _).trans hji7);(revert H);(refine ifP fun c8 H => ?_);(have c8b0 := decide_eq_true c8);(clear c8);(revert H);(refine ifP fun c9 H => ?_);(have c9b0 := decide_eq_true c9);(clear c9)
 by_cases c10 : a1 > (rd l0_1 (ji7))
 ·rw [if_pos c10] at H
  (have c10b0 : decide ((rd l0_1 (ji7)) < a1) = true := decide_eq_true c10);(clear c10);(simp only [Option.some.injEq, Prod.mk.injEq] at H);(obtain ⟨rfl, rfl⟩ := H);(go_enter Tryz.func191, Tryz.ntmps191)
  go_wp2_with (first | ((with_reducible refine gD 2 rfl ?_); (try (refine gate_guard (by rfl) ?_; dsimp only)); refine boxW (N := 2) #[.int .i64 a0_0, .slice A0_1 l0_1.length c0_1, .slice A0_2 l0_2.length c0_2] 119 HB ?_; clear HB; intro gb109 w11 BK109 HB GW109; have GE109 := GW109; obtain ⟨hcz12_0, hcz12_1, hcz12_2, hfz12_0, hfz12_1, hfz12_2⟩ := cz3 BK109.out; have p110 : 0 ≤ (0 : Int) := (by omega); have q110 : 0 < (l0_1.length : Int) := of_decide_eq_true asA; obtain ⟨ad110, e110, hx110_0⟩ := Kd.at_int HR0_1.out 0 p110 q110; cases e110; have qi110 : (0 < l0_1.length) = True := eq_true (by omega); (try rw [show ((0 : Int)).toNat = 0 from rfl] at hx110_0); (try rw [Addr.add_zero'] at hx110_0); replace hx110_0 := (HB.out.cell (World.block_lt_of_cell? w _ hx110_0)).trans hx110_0; replace p110 := eq_true p110; replace q110 := eq_true q110; have p111 : 0 ≤ ((ji7) : Int) := of_decide_eq_true asA; have q111 : (ji7) < (l0_1.length : Int) := of_decide_eq_true asA; obtain ⟨ad111, e111, hx111_0⟩ := Kd.at_int HR0_1.out (ji7) p111 q111; obtain rfl : ad110 = ad111 := (by injection e111); replace hx111_0 := (HB.out.cell (World.block_lt_of_cell? w _ hx111_0)).trans hx111_0; replace p111 := eq_true p111; replace q111 := eq_true q111))
  (go_ret2);(exact ⟨by first | rfl | (simp [errW_none, errW_some] <;> rfl) | (simp only [← hji7]; first | rfl | (simp [errW_none, errW_some] <;> rfl)) | (simp [*, errW_none, errW_some] <;> rfl), bG HB.out⟩)
 (rw [if_neg c10] at H);(have c10b0 : decide ((rd l0_1 (ji7)) < a1) = false := decide_eq_false c10);(clear c10);(revert H);(refine bE ?_);(rintro t112 A13 H);(simp only [Option.some.injEq, Prod.mk.injEq] at H);(obtain ⟨rfl, rfl⟩ := H);(go_enter Tryz.func191, Tryz.ntmps191)
 go_wp2_with (first | ((with_reducible refine gD 2 rfl ?_); (try (refine gate_guard (by rfl) ?_; dsimp only)); refine boxW (N := 2) #[.int .i64 a0_0, .slice A0_1 l0_1.length c0_1, .slice A0_2 l0_2.length c0_2] 119 HB ?_; clear HB; intro gb109 w14 BK109 HB GW109; have GE109 := GW109; obtain ⟨hcz15_0, hcz15_1, hcz15_2, hfz15_0, hfz15_1, hfz15_2⟩ := cz3 BK109.out; have p110 : 0 ≤ (0 : Int) := (by omega); have q110 : 0 < (l0_1.length : Int) := of_decide_eq_true asA; obtain ⟨ad110, e110, hx110_0⟩ := Kd.at_int HR0_1.out 0 p110 q110; cases e110; have qi110 : (0 < l0_1.length) = True := eq_true (by omega); (try rw [show ((0 : Int)).toNat = 0 from rfl] at hx110_0); (try rw [Addr.add_zero'] at hx110_0); replace hx110_0 := (HB.out.cell (World.block_lt_of_cell? w _ hx110_0)).trans hx110_0; replace p110 := eq_true p110; replace q110 := eq_true q110; have p111 : 0 ≤ ((ji7) : Int) := of_decide_eq_true asA; have q111 : (ji7) < (l0_1.length : Int) := of_decide_eq_true asA; obtain ⟨ad111, e111, hx111_0⟩ := Kd.at_int HR0_1.out (ji7) p111 q111; obtain rfl : ad110 = ad111 := (by injection e111); replace hx111_0 := (HB.out.cell (World.block_lt_of_cell? w _ hx111_0)).trans hx111_0; replace p111 := eq_true p111; replace q111 := eq_true q111) | ((with_reducible refine gate_callee (f := 241) rfl ?_); refine goL (N := some 28) Tryz.func241 #[.slice (some ad110) l0_1.length c0_1, .int .i64 (wrap64 (a1 + 1))] ?_; (with_reducible refine (sort_SearchInts.calls _ _ l0_1 (wrap64 (a1 + 1)) t112 _ ?side1 ?side2 A13.out).mono ?_); (case side1 => exact cA (Kd.C_below HR0_1.out HB.out)); (case side2 => exact HC0_1.out); rintro e w16 ⟨rfl, hb⟩; refine ⟨_, rfl, ?_⟩; replace BK109 := kB BK109 hb; replace HB := gB HB hb; (try clear hb); (try clear hb2); (try clear hk); (try clear hi)))
 (go_ret2);(exact ⟨by first | rfl | (simp [errW_none, errW_some] <;> rfl) | (simp only [← hji7]; first | rfl | (simp [errW_none, errW_some] <;> rfl)) | (simp [*, errW_none, errW_some] <;> rfl), bG HB.out⟩)

def interp_Find.f (k : Nat) (a0_0 : Int) (l0_1 : List Int) (l0_2 : List Nat) (a1 : Int) : Option (Int × Int) := (interp_Check.f k a0_0 l0_1 l0_2).bind fun t114 => (if t114 = 0 then ((interp_find.f a0_0 l0_1 l0_2 a1).bind fun bt115 => (some (bt115.1, bt115.2))) else (some (0, t114)))
set_option maxHeartbeats 8000000 in
set_option maxRecDepth 100000 in
theorem interp_Find.calls (k : Nat) (a0_0 : Int) (A0_1 : Option Addr) (c0_1 : Nat) (l0_1 : List Int) (A0_2 : Option Addr) (c0_2 : Nat) (l0_2 : List Nat) (a1 : Int) (r1 : Int) (r2 : Int) (w : World) (hr0_1 : Kd.C (Kd.int .i64) w A0_1 l0_1.length l0_1) (hc0_1 : l0_1.length ≤ c0_1) (hr0_2 : Kd.C Kd.flt w A0_2 l0_2.length l0_2) (hc0_2 : l0_2.length ≤ c0_2) (h : interp_Find.f k a0_0 l0_1 l0_2 a1 = some (r1, r2)) :
  Calls Tryz.prog 126 #[.agg #[.int .i64 a0_0, .slice A0_1 l0_1.length c0_1, .slice A0_2 l0_2.length c0_2], .int .i64 a1] w fun e w' => e = .returned (.tuple #[.int .i64 r1, .int .i64 r2]) ∧ Below w.heap.size w w' := by
 (have hu119 := Tryz.underlying119);(have HR0_1 := aM hr0_1);(have HC0_1 := aM hc0_1);(clear hr0_1 hc0_1);(have HR0_2 := aM hr0_2);(have HC0_2 := aM hc0_2);(clear hr0_2 hc0_2);(have HB := aM (Below.refl w.heap.size w));(have H : ((interp_Check.f k a0_0 l0_1 l0_2).bind fun t114 => (if t114 = 0 then ((interp_find.f a0_0 l0_1 l0_2 a1).bind fun bt115 => (some (bt115.1, bt115.2))) else (some (0, t114)))) = some (r1, r2) := h);(clear h);(revert H);(refine bE ?_);(rintro t114 A3 H)
 by_cases c4 : t114 = 0
 rotate_left
 ·rw [if_neg c4] at H
  (have c4b0 : (t114 == 0) = false := beq_eq_false_iff_ne.mpr c4);(have c4b1 : (t114 != 0) = true := bne_iff_ne.mpr c4);(simp only [Option.some.injEq, Prod.mk.injEq] at H);(obtain ⟨rfl, rfl⟩ := H);(go_enter Tryz.func126, Tryz.ntmps126)
  go_wp2_with (first | ((with_reducible refine gD 2 rfl ?_); refine boxW (N := 2) #[.int .i64 a0_0, .slice A0_1 l0_1.length c0_1, .slice A0_2 l0_2.length c0_2] 119 HB ?_; clear HB; intro gb113 w11 BK113 HB GW113; have GE113 := GW113; obtain ⟨hcz12_0, hcz12_1, hcz12_2, hfz12_0, hfz12_1, hfz12_2⟩ := cz3 BK113.out) | ((with_reducible refine gate_callee (f := 190) rfl ?_); refine goL (N := some 8) Tryz.func190 #[.agg #[.int .i64 a0_0, .slice A0_1 l0_1.length c0_1, .slice A0_2 l0_2.length c0_2]] ?_; (with_reducible refine (interp_Check.calls k a0_0 _ _ l0_1 _ _ l0_2 t114 _ ?side1 ?side2 ?side3 ?side4 A3.out).mono ?_); (case side1 => exact cA (Kd.C_below HR0_1.out HB.out)); (case side2 => exact HC0_1.out); (case side3 => exact cA (Kd.C_below HR0_2.out HB.out)); (case side4 => exact HC0_2.out); rintro e w13 ⟨rfl, hb⟩; refine ⟨_, rfl, ?_⟩; replace BK113 := kB BK113 hb; replace HB := gB HB hb; (try clear hb); (try clear hb2); (try clear hk); (try clear hi)))
  (go_ret2);(exact ⟨eA, bG HB.out⟩)
 (rw [if_pos c4] at H);(have c4b0 : (t114 == 0) = true := beq_iff_eq.mpr c4);(have c4b1 : (t114 != 0) = false := bne_eq_false_iff_eq.mpr c4);(clear c4);(revert H);(refine bE ?_);(rintro ⟨t115, t116⟩ A5 H)
 (try dsimp only at H)
 (simp only [Option.some.injEq, Prod.mk.injEq] at H);(obtain ⟨rfl, rfl⟩ := H);(go_enter Tryz.func126, Tryz.ntmps126)
 go_wp2_with (first | ((with_reducible refine gD 2 rfl ?_); refine boxW (N := 2) #[.int .i64 a0_0, .slice A0_1 l0_1.length c0_1, .slice A0_2 l0_2.length c0_2] 119 HB ?_; clear HB; intro gb113 w6 BK113 HB GW113; have GE113 := GW113; obtain ⟨hcz7_0, hcz7_1, hcz7_2, hfz7_0, hfz7_1, hfz7_2⟩ := cz3 BK113.out) | ((with_reducible refine gate_callee (f := 190) rfl ?_); refine goL (N := some 8) Tryz.func190 #[.agg #[.int .i64 a0_0, .slice A0_1 l0_1.length c0_1, .slice A0_2 l0_2.length c0_2]] ?_; (with_reducible refine (interp_Check.calls k a0_0 _ _ l0_1 _ _ l0_2 t114 _ ?side1 ?side2 ?side3 ?side4 A3.out).mono ?_); (case side1 => exact cA (Kd.C_below HR0_1.out HB.out)); (case side2 => exact HC0_1.out); (case side3 => exact cA (Kd.C_below HR0_2.out HB.out)); (case side4 => exact HC0_2.out); rintro e w8 ⟨rfl, hb⟩; refine ⟨_, rfl, ?_⟩; replace BK113 := kB BK113 hb; replace HB := gB HB hb; (try clear hb); (try clear hb2); (try clear hk); (try clear hi); obtain ⟨hcz9_0, hcz9_1, hcz9_2, hfz9_0, hfz9_1, hfz9_2⟩ := cz3 BK113.out) | ((with_reducible refine gate_callee (f := 191) rfl ?_); refine goL (N := some 14) Tryz.func191 #[.agg #[.int .i64 a0_0, .slice A0_1 l0_1.length c0_1, .slice A0_2 l0_2.length c0_2], .int .i64 a1] ?_; (with_reducible refine (interp_find.calls a0_0 _ _ l0_1 _ _ l0_2 a1 t115 t116 _ ?side1 ?side2 ?side3 ?side4 A5.out).mono ?_); (case side1 => exact cA (Kd.C_below HR0_1.out HB.out)); (case side2 => exact HC0_1.out); (case side3 => exact cA (Kd.C_below HR0_2.out HB.out)); (case side4 => exact HC0_2.out); rintro e w10 ⟨rfl, hb⟩; refine ⟨_, rfl, ?_⟩; replace BK113 := kB BK113 hb; replace HB := gB HB hb; (try clear hb); (try clear hb2); (try clear hk); (try clear hi)))
 (go_ret2);(exact ⟨eA, bG HB.out⟩)

end Go.Proofs.YtmdoljecjliehaaGreat.FP
