/- Written by the session's fprint.py out of the translation. -/
import Derived.Test.YtmdoljecjliehaaGreatFXax0
namespace Go.Proofs.YtmdoljecjliehaaGreat.FXa
noncomputable section
open Go.RowKit Go.Proofs.YtmdoljecjliehaaGreatW.PrintWords Go.Proofs.YtmdoljecjliehaaGreatW.PrintLast Go.Proofs.YtmdoljecjliehaaGreatW.PrintMore
attribute [local go_sem] max2_int min2_int max_two min_two max_three min_three max_four min_four   -- for this text's walks alone
open Go.Proofs.YtmdoljecjliehaaGreat.FX Go.Proofs.YtmdoljecjliehaaGreat.FP Go.Proofs.YtmdoljecjliehaaGreat.FQ
attribute [local go_sem] run_store_float run_neg_float run_fmul run_fadd run_fsub run_fdiv run_ftoi isSome_setCell 
set_option linter.unusedVariables false
set_option linter.unusedSimpArgs false

def curve_Falls.l0 : Nat → Nat → List Nat → Int → Int → Option (Bool × Int)
 | 0, _, _, _, _ => none
 | k + 1, x5, x14, x15, x16 => if x16 < x15 then (if 0 ≤ x16 then (if x16 < (x14.length : Int) then (if (FloatKind.f64.format.order (rdOf (0 : Nat) x14 x16) x5 == some .gt) = true then (some (false, 0)) else (curve_Falls.l0 k (rdOf (0 : Nat) x14 x16) x14 x15 (wrap64 (x16 + 1)))) else (none)) else (none)) else (some (true, 0))
def curve_Falls.f (k : Nat) (a0_0 : Int) (a0_1 : Int) (l0_2 : List Int) (l0_3 : List Nat) : Option (Bool × Int) := (curve_Check.f k a0_0 a0_1 l0_2 l0_3).bind fun t102 => (if t102 = 0 then (curve_Falls.l0 k (4607182418800017408 : Nat) l0_3 (l0_3.length : Int) 0) else (some (false, t102)))
set_option maxHeartbeats 8000000 in
set_option maxRecDepth 100000 in
theorem curve_Falls.calls (k : Nat) (a0_0 : Int) (a0_1 : Int) (A0_2 : Option Addr) (c0_2 : Nat) (l0_2 : List Int) (A0_3 : Option Addr) (c0_3 : Nat) (l0_3 : List Nat) (r1 : Bool) (r2 : Int) (w : World) (hr0_2 : Kd.C (Kd.int .i64) w A0_2 l0_2.length l0_2) (hc0_2 : l0_2.length ≤ c0_2) (hr0_3 : Kd.C Kd.flt w A0_3 l0_3.length l0_3) (hc0_3 : l0_3.length ≤ c0_3) (h : curve_Falls.f k a0_0 a0_1 l0_2 l0_3 = some (r1, r2)) :
  Calls Tryz.prog 15 #[.agg #[.int .i64 a0_0, .int .i64 a0_1, .slice A0_2 l0_2.length c0_2, .slice A0_3 l0_3.length c0_3]] w fun e w' => e = .returned (.tuple #[.bool r1, .int .i64 r2]) ∧ Below w.heap.size w w' := by
 (have hu25 := Tryz.underlying25);(have HR0_2 := aM hr0_2);(have HC0_2 := aM hc0_2);(clear hr0_2 hc0_2);(have HR0_3 := aM hr0_3);(have HC0_3 := aM hc0_3);(clear hr0_3 hc0_3);(have HB := aM (Below.refl w.heap.size w));(have H : ((curve_Check.f k a0_0 a0_1 l0_2 l0_3).bind fun t102 => (if t102 = 0 then (curve_Falls.l0 k (4607182418800017408 : Nat) l0_3 (l0_3.length : Int) 0) else (some (false, t102)))) = some (r1, r2) := h);(clear h);(revert H);(refine bE ?_);(rintro t102 A2 H)
 by_cases c3 : t102 = 0
 rotate_left
 ·rw [if_neg c3] at H
  (have c3b0 : (t102 == 0) = false := beq_eq_false_iff_ne.mpr c3);(have c3b1 : (t102 != 0) = true := bne_iff_ne.mpr c3);(simp only [Option.some.injEq, Prod.mk.injEq] at H);(obtain ⟨rfl, rfl⟩ := H);(go_enter Tryz.func15, Tryz.ntmps15)
  go_wp2_with (first | ((with_reducible refine gD 1 rfl ?_); refine boxW (N := 1) #[.int .i64 a0_0, .int .i64 a0_1, .slice A0_2 l0_2.length c0_2, .slice A0_3 l0_3.length c0_3] 25 HB ?_; clear HB; intro gb101 w12 BK101 HB GW101; have GE101 := GW101; obtain ⟨hcz13_0, hcz13_1, hcz13_2, hcz13_3, hfz13_0, hfz13_1, hfz13_2, hfz13_3⟩ := cz4 BK101.out) | ((with_reducible refine gate_callee (f := 24) rfl ?_); refine goL (N := some 9) Tryz.func24 #[.agg #[.int .i64 a0_0, .int .i64 a0_1, .slice A0_2 l0_2.length c0_2, .slice A0_3 l0_3.length c0_3]] ?_; (with_reducible refine (curve_Check.calls k a0_0 a0_1 _ _ l0_2 _ _ l0_3 t102 _ ?side1 ?side2 ?side3 ?side4 A2.out).mono ?_); (case side1 => exact cA (Kd.C_below HR0_2.out HB.out)); (case side2 => exact HC0_2.out); (case side3 => exact cA (Kd.C_below HR0_3.out HB.out)); (case side4 => exact HC0_3.out); rintro e w14 ⟨rfl, hb⟩; refine ⟨_, rfl, ?_⟩; replace BK101 := kB BK101 hb; replace HB := gB HB hb; (try clear hb); (try clear hb2); (try clear hk); (try clear hi)))
  (go_ret2);(exact ⟨eA, bG HB.out⟩)
 (rw [if_pos c3] at H);(have c3b0 : (t102 == 0) = true := beq_iff_eq.mpr c3);(have c3b1 : (t102 != 0) = false := bne_eq_false_iff_eq.mpr c3);(clear c3);(have H' := aM H);(clear H);(go_enter Tryz.func15, Tryz.ntmps15)
 go_wp2_with (first | ((with_reducible refine gD 1 rfl ?_); refine boxW (N := 1) #[.int .i64 a0_0, .int .i64 a0_1, .slice A0_2 l0_2.length c0_2, .slice A0_3 l0_3.length c0_3] 25 HB ?_; clear HB; intro gb101 w4 BK101 HB GW101; have GE101 := GW101; obtain ⟨hcz5_0, hcz5_1, hcz5_2, hcz5_3, hfz5_0, hfz5_1, hfz5_2, hfz5_3⟩ := cz4 BK101.out) | ((with_reducible refine gate_callee (f := 24) rfl ?_); refine goL (N := some 9) Tryz.func24 #[.agg #[.int .i64 a0_0, .int .i64 a0_1, .slice A0_2 l0_2.length c0_2, .slice A0_3 l0_3.length c0_3]] ?_; (with_reducible refine (curve_Check.calls k a0_0 a0_1 _ _ l0_2 _ _ l0_3 t102 _ ?side1 ?side2 ?side3 ?side4 A2.out).mono ?_); (case side1 => exact cA (Kd.C_below HR0_2.out HB.out)); (case side2 => exact HC0_2.out); (case side3 => exact cA (Kd.C_below HR0_3.out HB.out)); (case side4 => exact HC0_3.out); rintro e w6 ⟨rfl, hb⟩; refine ⟨_, rfl, ?_⟩; replace BK101 := kB BK101 hb; replace HB := gB HB hb; (try clear hb); (try clear hb2); (try clear hk); (try clear hi); obtain ⟨hcz7_0, hcz7_1, hcz7_2, hcz7_3, hfz7_0, hfz7_1, hfz7_2, hfz7_3⟩ := cz4 BK101.out))
 go_loopg [5, 16] k (fun kq v5 v16 w' => ∃ (x5_1 : Nat) (x16_1 : Int), v5 = .float .f64 x5_1 ∧ v16 = .int .i64 x16_1 ∧ Aside0 (curve_Falls.l0 kq x5_1 l0_3 (l0_3.length : Int) x16_1 = some (r1, r2)) ∧ Aside0 (kq ≤ k) ∧ Aside0 (w'.heap[gb101]? = some (.cells #[.int .i64 a0_0, .int .i64 a0_1, (.slice A0_2 l0_2.length c0_2), (.slice A0_3 l0_3.length c0_3)] 25 (0, 0))) ∧ Aside0 (Below w.heap.size w w'))
 case atStart => exact ⟨((4607182418800017408 : Nat)), (0), sA, sA, H', ⟨Nat.le_refl _⟩, ⟨kA BK101.out⟩, ⟨bG HB.out⟩⟩
 case round =>
  (clear H');(try clear c1);(try clear c2);(try clear p2);(try clear c3);(try clear c3b0);(try clear c3b1);(try clear hcz5_0);(try clear hcz5_1);(try clear hcz5_2);(try clear hcz5_3);(try clear hcz7_0);(try clear hcz7_1);(try clear hcz7_2);(try clear hcz7_3);(try clear hfz5_0);(try clear hfz5_1);(try clear hfz5_2);(try clear hfz5_3);(try clear hfz7_0);(try clear hfz7_1);(try clear hfz7_2);(try clear hfz7_3);(obtain ⟨x5_1, x16_1, rfl, rfl, HA, HK1, BK101, HB⟩ := hrel)
  cases gk with
  | zero => exact absurd HA.out (by simp [curve_Falls.l0])
  | succ k1 =>
   (have H := HA.out);(clear HA);(simp only [curve_Falls.l0] at H)
   by_cases c8 : x16_1 < (l0_3.length : Int)
   rotate_left
   ·rw [if_neg c8] at H
    (have c8b0 : decide (x16_1 < (l0_3.length : Int)) = false := decide_eq_false c8);(clear c8);(simp only [Option.some.injEq, Prod.mk.injEq] at H);(obtain ⟨rfl, rfl⟩ := H);(go_wp2);(go_ret2);(exact ⟨eA, bG HB.out⟩)
   (rw [if_pos c8] at H);(have c8b0 : decide (x16_1 < (l0_3.length : Int)) = true := decide_eq_true c8);(clear c8);(revert H);(refine ifP fun c9 H => ?_);(have c9b0 := decide_eq_true c9);(clear c9);(revert H);(refine ifP fun c10 H => ?_);(have c10b0 := decide_eq_true c10);(clear c10)
   by_cases c11 : (FloatKind.f64.format.order (rdOf (0 : Nat) l0_3 x16_1) x5_1 == some .gt) = true
   ·rw [if_pos c11] at H
    have c11b0 : (FloatKind.f64.format.order (rdOf (0 : Nat) l0_3 x16_1) x5_1 == some .gt) = true := c11
    (try (have c11b1 : decide (FloatKind.f64.format.order (rdOf (0 : Nat) l0_3 x16_1) x5_1 = some .gt) = true := by simpa using c11))
    (try (have c11b2 : (FloatKind.f64.format.order (rdOf (0 : Nat) l0_3 x16_1) x5_1 == some .gt) = true := by simpa using c11))
    (clear c11);(simp only [Option.some.injEq, Prod.mk.injEq] at H);(obtain ⟨rfl, rfl⟩ := H);(have p103 : 0 ≤ (x16_1 : Int) := of_decide_eq_true asA);(have q103 : x16_1 < (l0_3.length : Int) := of_decide_eq_true asA);(obtain ⟨ad103, e103, hx103_0⟩ := Kd.at_flt HR0_3.out x16_1 p103 q103);(cases e103);(replace hx103_0 := (HB.out.cell (World.block_lt_of_cell? w _ hx103_0)).trans hx103_0);(replace p103 := eq_true p103);(replace q103 := eq_true q103);(go_wp2);(go_ret2);(exact ⟨eA, bG HB.out⟩)
   (rw [if_neg c11] at H);(have c11b0 : (FloatKind.f64.format.order (rdOf (0 : Nat) l0_3 x16_1) x5_1 == some .gt) = false := by simpa using c11)
   (try (have c11b1 : decide (FloatKind.f64.format.order (rdOf (0 : Nat) l0_3 x16_1) x5_1 = some .gt) = false := by simpa using c11))
   (try (have c11b2 : (FloatKind.f64.format.order (rdOf (0 : Nat) l0_3 x16_1) x5_1 == some .gt) = false := by simpa using c11))
   (try (have c11b3 : ¬ (FloatKind.f64.format.order (rdOf (0 : Nat) l0_3 x16_1) x5_1 = some .gt) := by simpa using c11))
   (clear c11);(have H' := aM H);(clear H);(have p103 : 0 ≤ (x16_1 : Int) := of_decide_eq_true asA);(have q103 : x16_1 < (l0_3.length : Int) := of_decide_eq_true asA);(obtain ⟨ad103, e103, hx103_0⟩ := Kd.at_flt HR0_3.out x16_1 p103 q103);(cases e103);(replace hx103_0 := (HB.out.cell (World.block_lt_of_cell? w _ hx103_0)).trans hx103_0);(replace p103 := eq_true p103);(replace q103 := eq_true q103);(go_wp2)
   go_roundg k1
   case measure => have := HK1.out; omega
   case rel => exact ⟨(rdOf (0 : Nat) l0_3 x16_1), (wrap64 (x16_1 + 1)), sA, sA, H', ⟨by have := HK1.out; omega⟩, ⟨kA BK101.out⟩, ⟨bG HB.out⟩⟩

def curve_Last.f (k : Nat) (a0_0 : Int) (a0_1 : Int) (l0_2 : List Int) (l0_3 : List Nat) : Option (Int × Int) := (curve_Check.f k a0_0 a0_1 l0_2 l0_3).bind fun t105 => (if t105 = 0 then (if 0 ≤ (wrap64 ((l0_2.length : Int) - 1)) then (if (wrap64 ((l0_2.length : Int) - 1)) < (l0_2.length : Int) then (some (rd l0_2 (wrap64 ((l0_2.length : Int) - 1)), 0)) else (none)) else (none)) else (some (0, t105)))
set_option maxHeartbeats 8000000 in
set_option maxRecDepth 100000 in
theorem curve_Last.calls (k : Nat) (a0_0 : Int) (a0_1 : Int) (A0_2 : Option Addr) (c0_2 : Nat) (l0_2 : List Int) (A0_3 : Option Addr) (c0_3 : Nat) (l0_3 : List Nat) (r1 : Int) (r2 : Int) (w : World) (hr0_2 : Kd.C (Kd.int .i64) w A0_2 l0_2.length l0_2) (hc0_2 : l0_2.length ≤ c0_2) (hr0_3 : Kd.C Kd.flt w A0_3 l0_3.length l0_3) (hc0_3 : l0_3.length ≤ c0_3) (h : curve_Last.f k a0_0 a0_1 l0_2 l0_3 = some (r1, r2)) :
  Calls Tryz.prog 27 #[.agg #[.int .i64 a0_0, .int .i64 a0_1, .slice A0_2 l0_2.length c0_2, .slice A0_3 l0_3.length c0_3]] w fun e w' => e = .returned (.tuple #[.int .i64 r1, .int .i64 r2]) ∧ Below w.heap.size w w' := by
 (have hu25 := Tryz.underlying25);(have HR0_2 := aM hr0_2);(have HC0_2 := aM hc0_2);(clear hr0_2 hc0_2);(have HR0_3 := aM hr0_3);(have HC0_3 := aM hc0_3);(clear hr0_3 hc0_3);(have HB := aM (Below.refl w.heap.size w));(have H : ((curve_Check.f k a0_0 a0_1 l0_2 l0_3).bind fun t105 => (if t105 = 0 then (if 0 ≤ (wrap64 ((l0_2.length : Int) - 1)) then (if (wrap64 ((l0_2.length : Int) - 1)) < (l0_2.length : Int) then (some (rd l0_2 (wrap64 ((l0_2.length : Int) - 1)), 0)) else (none)) else (none)) else (some (0, t105)))) = some (r1, r2) := h);(clear h);(revert H);(refine bE ?_);(rintro t105 A2 H)
 by_cases c3 : t105 = 0
 rotate_left
 ·rw [if_neg c3] at H
  (have c3b0 : (t105 == 0) = false := beq_eq_false_iff_ne.mpr c3);(have c3b1 : (t105 != 0) = true := bne_iff_ne.mpr c3);(simp only [Option.some.injEq, Prod.mk.injEq] at H);(obtain ⟨rfl, rfl⟩ := H);(go_enter Tryz.func27, Tryz.ntmps27)
  go_wp2_with (first | ((with_reducible refine gD 1 rfl ?_); refine boxW (N := 1) #[.int .i64 a0_0, .int .i64 a0_1, .slice A0_2 l0_2.length c0_2, .slice A0_3 l0_3.length c0_3] 25 HB ?_; clear HB; intro gb104 w11 BK104 HB GW104; have GE104 := GW104; obtain ⟨hcz12_0, hcz12_1, hcz12_2, hcz12_3, hfz12_0, hfz12_1, hfz12_2, hfz12_3⟩ := cz4 BK104.out) | ((with_reducible refine gate_callee (f := 24) rfl ?_); refine goL (N := some 6) Tryz.func24 #[.agg #[.int .i64 a0_0, .int .i64 a0_1, .slice A0_2 l0_2.length c0_2, .slice A0_3 l0_3.length c0_3]] ?_; (with_reducible refine (curve_Check.calls k a0_0 a0_1 _ _ l0_2 _ _ l0_3 t105 _ ?side1 ?side2 ?side3 ?side4 A2.out).mono ?_); (case side1 => exact cA (Kd.C_below HR0_2.out HB.out)); (case side2 => exact HC0_2.out); (case side3 => exact cA (Kd.C_below HR0_3.out HB.out)); (case side4 => exact HC0_3.out); rintro e w13 ⟨rfl, hb⟩; refine ⟨_, rfl, ?_⟩; replace BK104 := kB BK104 hb; replace HB := gB HB hb; (try clear hb); (try clear hb2); (try clear hk); (try clear hi)))
  (go_ret2);(exact ⟨eA, bG HB.out⟩)
 (rw [if_pos c3] at H);(have c3b0 : (t105 == 0) = true := beq_iff_eq.mpr c3);(have c3b1 : (t105 != 0) = false := bne_eq_false_iff_eq.mpr c3);(clear c3);(generalize hji4 : (wrap64 ((l0_2.length : Int) - 1)) = ji4 at H)
 (try rw [hji4] at A2)
 (have hji4w : (IntKind.i64.wrap ((l0_2.length : Int) - 1)) = ji4 := (i64_w _).trans hji4);(revert H);(refine ifP fun c5 H => ?_);(have c5b0 := decide_eq_true c5);(clear c5);(revert H);(refine ifP fun c6 H => ?_);(have c6b0 := decide_eq_true c6);(clear c6);(simp only [Option.some.injEq, Prod.mk.injEq] at H);(obtain ⟨rfl, rfl⟩ := H);(go_enter Tryz.func27, Tryz.ntmps27)
 go_wp2_with (first | ((with_reducible refine gD 1 rfl ?_); refine boxW (N := 1) #[.int .i64 a0_0, .int .i64 a0_1, .slice A0_2 l0_2.length c0_2, .slice A0_3 l0_3.length c0_3] 25 HB ?_; clear HB; intro gb104 w7 BK104 HB GW104; have GE104 := GW104; obtain ⟨hcz8_0, hcz8_1, hcz8_2, hcz8_3, hfz8_0, hfz8_1, hfz8_2, hfz8_3⟩ := cz4 BK104.out) | ((with_reducible refine gate_callee (f := 24) rfl ?_); refine goL (N := some 6) Tryz.func24 #[.agg #[.int .i64 a0_0, .int .i64 a0_1, .slice A0_2 l0_2.length c0_2, .slice A0_3 l0_3.length c0_3]] ?_; (with_reducible refine (curve_Check.calls k a0_0 a0_1 _ _ l0_2 _ _ l0_3 t105 _ ?side1 ?side2 ?side3 ?side4 A2.out).mono ?_); (case side1 => exact cA (Kd.C_below HR0_2.out HB.out)); (case side2 => exact HC0_2.out); (case side3 => exact cA (Kd.C_below HR0_3.out HB.out)); (case side4 => exact HC0_3.out); rintro e w9 ⟨rfl, hb⟩; refine ⟨_, rfl, ?_⟩; replace BK104 := kB BK104 hb; replace HB := gB HB hb; (try clear hb); (try clear hb2); (try clear hk); (try clear hi); obtain ⟨hcz10_0, hcz10_1, hcz10_2, hcz10_3, hfz10_0, hfz10_1, hfz10_2, hfz10_3⟩ := cz4 BK104.out; have p106 : 0 ≤ ((ji4) : Int) := of_decide_eq_true asA; have q106 : (ji4) < (l0_2.length : Int) := of_decide_eq_true asA; obtain ⟨ad106, e106, hx106_0⟩ := Kd.at_int HR0_2.out (ji4) p106 q106; cases e106; replace hx106_0 := (HB.out.cell (World.block_lt_of_cell? w _ hx106_0)).trans hx106_0; replace p106 := eq_true p106; replace q106 := eq_true q106))
 (go_ret2);(exact ⟨by first | rfl | (simp [errW_none, errW_some] <;> rfl) | (simp only [← hji4]; first | rfl | (simp [errW_none, errW_some] <;> rfl)) | (simp [*, errW_none, errW_some] <;> rfl), bG HB.out⟩)

def count_is.f (a0 : Int) : Option (Bool) := if a0 ≥ 0 then (some (decide (a0 ≤ 109572))) else (some false)
set_option maxHeartbeats 8000000 in
set_option maxRecDepth 100000 in
theorem count_is.calls (a0 : Int) (r : Bool) (w : World) (h : count_is.f a0 = some r) :
  Calls Tryz.prog 201 #[.int .i64 a0] w fun e w' => e = .returned (.bool r) ∧ Drawn0 w w' := by
 (have H : (if a0 ≥ 0 then (some (decide (a0 ≤ 109572))) else (some false)) = some r := h);(clear h)
 by_cases c2 : a0 ≥ 0
 ·rw [if_pos c2] at H
  (have c2b0 : decide (0 ≤ a0) = true := decide_eq_true c2);(clear c2);(obtain rfl := Option.some.inj H);(go_enter Tryz.func201, Tryz.ntmps201);(go_wp2);(go_ret);(exact ⟨sA, dA⟩)
 ·rw [if_neg c2] at H
  (have c2b0 : decide (0 ≤ a0) = false := decide_eq_false c2);(clear c2);(obtain rfl := Option.some.inj H);(go_enter Tryz.func201, Tryz.ntmps201);(go_wp2);(go_ret);(exact ⟨sA, dA⟩)

mutual
def count_Fraction.j0 : Nat → Int → Int → Int → Int → Int → Bool → Option (Int × Int × Int)
 | 0, _, _, _, _, _, _ => none
 | k + 1, x0, x2, x3, x8, x10, x19 => if x19 = true then (some (0, 0, 70)) else (if x0 = 6 then (none) else ((count_is.f x2).bind fun t108 => (if t108 = true then ((count_is.f x3).bind fun t109 => (count_Fraction.j1 k x0 x2 x3 x8 x10 (!t109))) else (count_Fraction.j1 k x0 x2 x3 x8 x10 true))))
def count_Fraction.j1 : Nat → Int → Int → Int → Int → Int → Bool → Option (Int × Int × Int)
 | 0, _, _, _, _, _, _ => none
 | k + 1, x0, x2, x3, x8, x10, x37 => if x37 = true then (some (0, 0, 51)) else (if x3 < x2 then (none) else (if x0 = 2 then (some (wrap64 (x3 - x2), 365, x10)) else (if x0 = 1 then (some (wrap64 (x3 - x2), 360, x10)) else (if x0 = 3 then (none) else (if x0 = 5 then (none) else (if x0 = 4 then (none) else (if x0 = 6 then (none) else (some (x8, 360, x10)))))))))
def count_Fraction.f : Nat → Int → Int → List (S275) → Int → Int → Option (Int × Int × Int)
 | 0, _, _, _, _, _ => none
 | k + 1, a0, a1_0, l1_1, a2, a3 => if a0 < 1 then (count_Fraction.j0 k a0 a2 a3 0 0 true) else (count_Fraction.j0 k a0 a2 a3 0 0 (decide (a0 > 6)))
end
set_option maxHeartbeats 8000000 in
set_option maxRecDepth 100000 in
theorem count_Fraction.calls (k : Nat) : ∀ (a0 : Int) (a1_0 : Int) (A1_1 : Option Addr) (c1_1 : Nat) (l1_1 : List (S275)) (a2 : Int) (a3 : Int) (r1 : Int) (r2 : Int) (r3 : Int) (w : World) (hr1_1 : Kd.C k275 w A1_1 l1_1.length l1_1) (hc1_1 : l1_1.length ≤ c1_1) (h : count_Fraction.f k a0 a1_0 l1_1 a2 a3 = some (r1, r2, r3)),
  Calls Tryz.prog 142 #[.int .i64 a0, .agg #[.int .i64 a1_0, .slice A1_1 l1_1.length c1_1], .int .i64 a2, .int .i64 a3] w fun e w' => e = .returned (.tuple #[.int .i64 r1, .int .i64 r2, .int .i64 r3]) ∧ Below w.heap.size w w' := by
 induction k using Nat.strongRecOn with
 | _ k ih =>
 intro a0 a1_0 A1_1 c1_1 l1_1 a2 a3 r1 r2 r3 w hr1_1 hc1_1 h
 cases k with
 | zero => exact absurd h (by simp [count_Fraction.f])
 | succ k =>
 (simp only [count_Fraction.f] at h);(have hu60 := Tryz.underlying60);(have HR1_1 := aM hr1_1);(have HC1_1 := aM hc1_1);(clear hr1_1 hc1_1);(have HB := aM (Below.refl w.heap.size w));(have H : (if a0 < 1 then (count_Fraction.j0 k a0 a2 a3 0 0 true) else (count_Fraction.j0 k a0 a2 a3 0 0 (decide (a0 > 6)))) = some (r1, r2, r3) := h);(clear h);(have HC5 := aM H);(clear H);(go_enter Tryz.func142, Tryz.ntmps142)
 go_upto_region 1 with (first | ((with_reducible refine gD 5 rfl ?_); refine boxW (N := 5) #[.int .i64 a1_0, .slice A1_1 l1_1.length c1_1] 60 HB ?_; clear HB; intro gb107 w6 BK107 HB GW107; have GE107 := GW107))
 (try simp only [Act.put, List.setIfInBounds_toArray, List.set_cons_zero, List.set_cons_succ])
 go_cut [19] (fun v19 wc => ∃ (kq : Nat) (x19_4 : Bool), v19 = .bool x19_4 ∧ Aside0 (count_Fraction.j0 kq a0 a2 a3 0 0 x19_4 = some (r1, r2, r3)) ∧ Aside0 (kq ≤ k) ∧ Aside0 (wc.heap[gb107]? = some (.cells #[.int .i64 a1_0, (.slice A1_1 l1_1.length c1_1)] 60 (0, 0))) ∧ Aside0 (Below w.heap.size w wc))
 case first =>
  (have H := HC5.out);(clear HC5)
  by_cases c7 : a0 < 1
  ·rw [if_pos c7] at H
   (have c7b0 : decide (a0 < 1) = true := decide_eq_true c7);(clear c7)
   (first | rw [c7b0] | (simp only [i64_w, i32_w]; rw [c7b0]) | skip)
   (have H' := aM H);(clear H);(go_wp2);(go_meet)
   case rel => exact ⟨_, (true), sA, H', ⟨by first | omega | exact Nat.le_refl _⟩, ⟨kA BK107.out⟩, ⟨bG HB.out⟩⟩
  (rw [if_neg c7] at H);(have c7b0 : decide (a0 < 1) = false := decide_eq_false c7);(clear c7)
  (first | rw [c7b0] | (simp only [i64_w, i32_w]; rw [c7b0]) | skip)
  (have H' := aM H);(clear H);(go_wp2);(go_meet)
  case rel => exact ⟨_, (decide (a0 > 6)), sA, H', ⟨by first | omega | exact Nat.le_refl _⟩, ⟨kA BK107.out⟩, ⟨bG HB.out⟩⟩
 case rest =>
  (clear HC5);(try clear c1);(try clear p2);(try clear c7);(try clear c7b0);(obtain ⟨kq, x19_4, rfl, HA, HJ4, BK107, HB⟩ := hcut)
  cases kq with
  | zero => exact absurd HA.out (by simp [count_Fraction.j0])
  | succ kj4 =>
   (have H := HA.out);(clear HA);(simp only [count_Fraction.j0] at H)
   by_cases c8 : x19_4 = true
   ·subst c8
    (have H1 : (some (0, 0, 70)) = some (r1, r2, r3) := by rw [if_pos rfl] at H; exact H);(clear H);(have H := H1);(clear H1);(simp only [Option.some.injEq, Prod.mk.injEq] at H);(obtain ⟨rfl, rfl, rfl⟩ := H);(go_wp2);(go_ret3);(exact ⟨eA, bG HB.out⟩)
   (replace c8 := Bool.eq_false_iff.mpr c8);(subst c8);(have H1 : (if a0 = 6 then (none) else ((count_is.f a2).bind fun t108 => (if t108 = true then ((count_is.f a3).bind fun t109 => (count_Fraction.j1 kj4 a0 a2 a3 0 0 (!t109))) else (count_Fraction.j1 kj4 a0 a2 a3 0 0 true)))) = some (r1, r2, r3) := by rw [if_neg (show ¬ (false = true) by decide)] at H; exact H);(clear H);(have H := H1);(clear H1)
   by_cases c9 : a0 = 6
   ·rw [if_pos c9] at H
    exact absurd H (by simp)
   ·rw [if_neg c9] at H
    (have c9b0 : (a0 == 6) = false := beq_eq_false_iff_ne.mpr c9);(have c9b1 : (a0 != 6) = true := bne_iff_ne.mpr c9);(have HC10 := aM H);(clear H)
    go_upto_region 7 with (fail)
    go_cut [37] (fun v37 wc => ∃ (kq : Nat) (x37_9 : Bool), v37 = .bool x37_9 ∧ Aside0 (count_Fraction.j1 kq a0 a2 a3 0 0 x37_9 = some (r1, r2, r3)) ∧ Aside0 (kq ≤ kj4) ∧ Aside0 (wc.heap[gb107]? = some (.cells #[.int .i64 a1_0, (.slice A1_1 l1_1.length c1_1)] 60 (0, 0))) ∧ Aside0 (Below w.heap.size w wc))
    case first =>
     (have H := HC10.out);(clear HC10);(revert H);(refine bE ?_);(rintro t108 A11 H)
     by_cases c12 : t108 = true
     rotate_left
     ·replace c12 := Bool.eq_false_iff.mpr c12
      (subst c12);(have H1 : (count_Fraction.j1 kj4 a0 a2 a3 0 0 true) = some (r1, r2, r3) := by rw [if_neg (show ¬ (false = true) by decide)] at H; exact H);(clear H);(have H := H1);(clear H1);(have H' := aM H);(clear H)
      go_wp2_with (first | ((with_reducible refine gate_callee (f := 201) rfl ?_); refine goL (N := some 31) Tryz.func201 #[.int .i64 a2] ?_; (with_reducible refine (count_is.calls a2 false _ A11.out).mono ?_); rintro e w' ⟨rfl, ⟨nd, rfl⟩⟩; refine ⟨_, rfl, ?_⟩))
      go_meet
      case rel => exact ⟨_, (true), sA, H', ⟨by have := HJ4.out; first | omega | exact Nat.le_refl _⟩, ⟨kA BK107.out⟩, ⟨bG HB.out⟩⟩
     (subst c12);(have H1 : ((count_is.f a3).bind fun t109 => (count_Fraction.j1 kj4 a0 a2 a3 0 0 (!t109))) = some (r1, r2, r3) := by rw [if_pos rfl] at H; exact H);(clear H);(have H := H1);(clear H1);(revert H);(refine bE ?_);(rintro t109 A13 H);(have H' := aM H);(clear H)
     go_wp2_with (first | ((with_reducible refine gate_callee (f := 201) rfl ?_); refine goL (N := some 31) Tryz.func201 #[.int .i64 a2] ?_; (with_reducible refine (count_is.calls a2 true _ A11.out).mono ?_); rintro e w' ⟨rfl, ⟨nd, rfl⟩⟩; refine ⟨_, rfl, ?_⟩) | (go_at_call 201; (with_reducible refine (count_is.calls a3 t109 _ A13.out).mono ?_); rintro e w' ⟨rfl, ⟨nd, rfl⟩⟩))
     go_meet
     case rel => exact ⟨_, (!t109), sA, H', ⟨by have := HJ4.out; first | omega | exact Nat.le_refl _⟩, ⟨kA BK107.out⟩, ⟨bG HB.out⟩⟩
    case rest =>
     (clear HC10);(try clear c1);(try clear c2);(try clear p2);(try clear c7);(try clear c7b0);(try clear c8);(try clear c9);(try clear c9b0);(try clear c9b1);(try clear c12);(try clear p2);(obtain ⟨kq, x37_9, rfl, HA, HJ9, BK107, HB⟩ := hcut)
     cases kq with
     | zero => exact absurd HA.out (by simp [count_Fraction.j1])
     | succ kj9 =>
      (have H := HA.out);(clear HA);(simp only [count_Fraction.j1] at H)
      by_cases c14 : x37_9 = true
      ·subst c14
       (have H1 : (some (0, 0, 51)) = some (r1, r2, r3) := by rw [if_pos rfl] at H; exact H);(clear H);(have H := H1);(clear H1);(simp only [Option.some.injEq, Prod.mk.injEq] at H);(obtain ⟨rfl, rfl, rfl⟩ := H);(go_wp2);(go_ret3);(exact ⟨eA, bG HB.out⟩)
      (replace c14 := Bool.eq_false_iff.mpr c14);(subst c14);(have H1 : (if a3 < a2 then (none) else (if a0 = 2 then (some (wrap64 (a3 - a2), 365, 0)) else (if a0 = 1 then (some (wrap64 (a3 - a2), 360, 0)) else (if a0 = 3 then (none) else (if a0 = 5 then (none) else (if a0 = 4 then (none) else (if a0 = 6 then (none) else (some (0, 360, 0))))))))) = some (r1, r2, r3) := by rw [if_neg (show ¬ (false = true) by decide)] at H; exact H);(clear H);(have H := H1);(clear H1)
      by_cases c15 : a3 < a2
      ·rw [if_pos c15] at H
       exact absurd H (by simp)
      ·rw [if_neg c15] at H
       (have c15b0 : decide (a3 < a2) = false := decide_eq_false c15);(clear c15)
       by_cases c16 : a0 = 2
       ·rw [if_pos c16] at H
        (have c16b0 : (a0 == 2) = true := beq_iff_eq.mpr c16);(have c16b1 : (a0 != 2) = false := bne_eq_false_iff_eq.mpr c16);(clear c16);(simp only [Option.some.injEq, Prod.mk.injEq] at H);(obtain ⟨rfl, rfl, rfl⟩ := H);(go_wp2);(go_ret3);(exact ⟨eA, bG HB.out⟩)
       (rw [if_neg c16] at H);(have c16b0 : (a0 == 2) = false := beq_eq_false_iff_ne.mpr c16);(have c16b1 : (a0 != 2) = true := bne_iff_ne.mpr c16)
       by_cases c17 : a0 = 1
       ·rw [if_pos c17] at H
        (have c17b0 : (a0 == 1) = true := beq_iff_eq.mpr c17);(have c17b1 : (a0 != 1) = false := bne_eq_false_iff_eq.mpr c17);(clear c17);(simp only [Option.some.injEq, Prod.mk.injEq] at H);(obtain ⟨rfl, rfl, rfl⟩ := H);(go_wp2);(go_ret3);(exact ⟨eA, bG HB.out⟩)
       (rw [if_neg c17] at H);(have c17b0 : (a0 == 1) = false := beq_eq_false_iff_ne.mpr c17);(have c17b1 : (a0 != 1) = true := bne_iff_ne.mpr c17)
       by_cases c18 : a0 = 3
       ·rw [if_pos c18] at H
        exact absurd H (by simp)
       ·rw [if_neg c18] at H
        (have c18b0 : (a0 == 3) = false := beq_eq_false_iff_ne.mpr c18);(have c18b1 : (a0 != 3) = true := bne_iff_ne.mpr c18)
        by_cases c19 : a0 = 5
        ·rw [if_pos c19] at H
         exact absurd H (by simp)
        ·rw [if_neg c19] at H
         (have c19b0 : (a0 == 5) = false := beq_eq_false_iff_ne.mpr c19);(have c19b1 : (a0 != 5) = true := bne_iff_ne.mpr c19)
         by_cases c20 : a0 = 4
         ·rw [if_pos c20] at H
          exact absurd H (by simp)
         ·rw [if_neg c20] at H
          (have c20b0 : (a0 == 4) = false := beq_eq_false_iff_ne.mpr c20);(have c20b1 : (a0 != 4) = true := bne_iff_ne.mpr c20)
          by_cases c21 : a0 = 6
          ·rw [if_pos c21] at H
           exact absurd H (by simp)
          ·rw [if_neg c21] at H
           (have c21b0 : (a0 == 6) = false := beq_eq_false_iff_ne.mpr c21);(have c21b1 : (a0 != 6) = true := bne_iff_ne.mpr c21);(simp only [Option.some.injEq, Prod.mk.injEq] at H);(obtain ⟨rfl, rfl, rfl⟩ := H);(go_wp2);(go_ret3);(exact ⟨eA, bG HB.out⟩)

def count_Year.f (k : Nat) (a0 : Int) (a1_0 : Int) (l1_1 : List (S275)) (a2 : Int) (a3 : Int) : Option (Nat × Int) := (count_Fraction.f k a0 a1_0 l1_1 a2 a3).bind fun bt111 => (if bt111.2.2 = 0 then (if fdivK (floatOfInt .f64 bt111.1) (floatOfInt .f64 bt111.2.1) = true then (some (fdivV (floatOfInt .f64 bt111.1) (floatOfInt .f64 bt111.2.1), 0)) else (none)) else (some ((0 : Nat), bt111.2.2)))
set_option maxHeartbeats 8000000 in
set_option maxRecDepth 100000 in
theorem count_Year.calls (k : Nat) (a0 : Int) (a1_0 : Int) (A1_1 : Option Addr) (c1_1 : Nat) (l1_1 : List (S275)) (a2 : Int) (a3 : Int) (r1 : Nat) (r2 : Int) (w : World) (hr1_1 : Kd.C k275 w A1_1 l1_1.length l1_1) (hc1_1 : l1_1.length ≤ c1_1) (h : count_Year.f k a0 a1_0 l1_1 a2 a3 = some (r1, r2)) :
  Calls Tryz.prog 81 #[.int .i64 a0, .agg #[.int .i64 a1_0, .slice A1_1 l1_1.length c1_1], .int .i64 a2, .int .i64 a3] w fun e w' => e = .returned (.tuple #[.float .f64 r1, .int .i64 r2]) ∧ Below w.heap.size w w' := by
 (have hu60 := Tryz.underlying60);(have HR1_1 := aM hr1_1);(have HC1_1 := aM hc1_1);(clear hr1_1 hc1_1);(have HB := aM (Below.refl w.heap.size w));(have H : ((count_Fraction.f k a0 a1_0 l1_1 a2 a3).bind fun bt111 => (if bt111.2.2 = 0 then (if fdivK (floatOfInt .f64 bt111.1) (floatOfInt .f64 bt111.2.1) = true then (some (fdivV (floatOfInt .f64 bt111.1) (floatOfInt .f64 bt111.2.1), 0)) else (none)) else (some ((0 : Nat), bt111.2.2)))) = some (r1, r2) := h);(clear h);(revert H);(refine bE ?_);(rintro ⟨t111, t112, t113⟩ A5 H)
 (try dsimp only at H)
 by_cases c6 : t113 = 0
 rotate_left
 ·rw [if_neg c6] at H
  (have c6b0 : (t113 == 0) = false := beq_eq_false_iff_ne.mpr c6);(have c6b1 : (t113 != 0) = true := bne_iff_ne.mpr c6);(simp only [Option.some.injEq, Prod.mk.injEq] at H);(obtain ⟨rfl, rfl⟩ := H);(go_enter Tryz.func81, Tryz.ntmps81)
  go_wp2_with (first | ((with_reducible refine gD 5 rfl ?_); refine boxW (N := 5) #[.int .i64 a1_0, .slice A1_1 l1_1.length c1_1] 60 HB ?_; clear HB; intro gb110 w11 BK110 HB GW110; have GE110 := GW110; obtain ⟨hcz12_0, hcz12_1, hfz12_0, hfz12_1⟩ := cz2 BK110.out) | ((with_reducible refine gate_callee (f := 142) rfl ?_); refine goL (N := some 18) Tryz.func142 #[.int .i64 a0, .agg #[.int .i64 a1_0, .slice A1_1 l1_1.length c1_1], .int .i64 a2, .int .i64 a3] ?_; (with_reducible refine (count_Fraction.calls k a0 a1_0 _ _ l1_1 a2 a3 t111 t112 t113 _ ?side1 ?side2 A5.out).mono ?_); (case side1 => exact cA (Kd.C_below HR1_1.out HB.out)); (case side2 => exact HC1_1.out); rintro e w13 ⟨rfl, hb⟩; refine ⟨_, rfl, ?_⟩; replace BK110 := kB BK110 hb; replace HB := gB HB hb; (try clear hb); (try clear hb2); (try clear hk); (try clear hi)))
  (go_ret2);(exact ⟨eA, bG HB.out⟩)
 (rw [if_pos c6] at H);(have c6b0 : (t113 == 0) = true := beq_iff_eq.mpr c6);(have c6b1 : (t113 != 0) = false := bne_eq_false_iff_eq.mpr c6);(clear c6);(revert H);(refine ifP fun c7 H => ?_);(have c7b0 := eq_true c7);(have c7b1 : decide (fdivK (floatOfInt .f64 t111) (floatOfInt .f64 t112) = true) = true := decide_eq_true c7);(clear c7);(simp only [Option.some.injEq, Prod.mk.injEq] at H);(obtain ⟨rfl, rfl⟩ := H);(go_enter Tryz.func81, Tryz.ntmps81)
 go_wp2_with (first | ((with_reducible refine gD 5 rfl ?_); refine boxW (N := 5) #[.int .i64 a1_0, .slice A1_1 l1_1.length c1_1] 60 HB ?_; clear HB; intro gb110 w8 BK110 HB GW110; have GE110 := GW110; obtain ⟨hcz9_0, hcz9_1, hfz9_0, hfz9_1⟩ := cz2 BK110.out) | ((with_reducible refine gate_callee (f := 142) rfl ?_); refine goL (N := some 18) Tryz.func142 #[.int .i64 a0, .agg #[.int .i64 a1_0, .slice A1_1 l1_1.length c1_1], .int .i64 a2, .int .i64 a3] ?_; (with_reducible refine (count_Fraction.calls k a0 a1_0 _ _ l1_1 a2 a3 t111 t112 t113 _ ?side1 ?side2 A5.out).mono ?_); (case side1 => exact cA (Kd.C_below HR1_1.out HB.out)); (case side2 => exact HC1_1.out); rintro e w10 ⟨rfl, hb⟩; refine ⟨_, rfl, ?_⟩; replace BK110 := kB BK110 hb; replace HB := gB HB hb; (try clear hb); (try clear hb2); (try clear hk); (try clear hi)))
 (go_ret2);(exact ⟨eA, bG HB.out⟩)

def rate_number.f (a0 : Nat) : Option (Bool) := (ieee_Class.f a0).bind fun t114 => (some (decide (t114 < 4)))
set_option maxHeartbeats 8000000 in
set_option maxRecDepth 100000 in
theorem rate_number.calls (a0 : Nat) (r : Bool) (w : World) (h : rate_number.f a0 = some r) :
  Calls Tryz.prog 144 #[.float .f64 a0] w fun e w' => e = .returned (.bool r) ∧ Drawn0 w w' := by
 (have H : ((ieee_Class.f a0).bind fun t114 => (some (decide (t114 < 4)))) = some r := h);(clear h);(revert H);(refine bE ?_);(rintro t114 A2 H);(obtain rfl := Option.some.inj H);(go_enter Tryz.func144, Tryz.ntmps144)
 go_wp2_with (first | ((with_reducible refine gate_callee (f := 78) rfl ?_); refine goL (N := some 4) Tryz.func78 #[.float .f64 a0] ?_; (with_reducible refine (ieee_Class.calls a0 t114 _ A2.out).mono ?_); rintro e w' ⟨rfl, ⟨nd, rfl⟩⟩; refine ⟨_, rfl, ?_⟩))
 (go_ret);(exact ⟨sA, dA⟩)

def rate_above.f (a0 : Nat) : Option (Bool) := (rate_number.f a0).bind fun t115 => (if t115 = true then (some (FloatKind.f64.format.order a0 (0 : Nat) == some .gt)) else (some false))
set_option maxHeartbeats 8000000 in
set_option maxRecDepth 100000 in
theorem rate_above.calls (a0 : Nat) (r : Bool) (w : World) (h : rate_above.f a0 = some r) :
  Calls Tryz.prog 143 #[.float .f64 a0] w fun e w' => e = .returned (.bool r) ∧ Drawn0 w w' := by
 (have H : ((rate_number.f a0).bind fun t115 => (if t115 = true then (some (FloatKind.f64.format.order a0 (0 : Nat) == some .gt)) else (some false))) = some r := h);(clear h);(revert H);(refine bE ?_);(rintro t115 A2 H)
 by_cases c3 : t115 = true
 ·subst c3
  (have H1 : (some (FloatKind.f64.format.order a0 (0 : Nat) == some .gt)) = some r := by rw [if_pos rfl] at H; exact H);(clear H);(have H := H1);(clear H1);(obtain rfl := Option.some.inj H);(go_enter Tryz.func143, Tryz.ntmps143)
  go_wp2_with (first | ((with_reducible refine gate_callee (f := 144) rfl ?_); refine goL (N := some 4) Tryz.func144 #[.float .f64 a0] ?_; (with_reducible refine (rate_number.calls a0 true _ A2.out).mono ?_); rintro e w' ⟨rfl, ⟨nd, rfl⟩⟩; refine ⟨_, rfl, ?_⟩))
  (go_ret);(exact ⟨sA, dA⟩)
 (replace c3 := Bool.eq_false_iff.mpr c3);(subst c3);(have H1 : (some false) = some r := by rw [if_neg (show ¬ (false = true) by decide)] at H; exact H);(clear H);(have H := H1);(clear H1);(obtain rfl := Option.some.inj H);(go_enter Tryz.func143, Tryz.ntmps143)
 go_wp2_with (first | ((with_reducible refine gate_callee (f := 144) rfl ?_); refine goL (N := some 4) Tryz.func144 #[.float .f64 a0] ?_; (with_reducible refine (rate_number.calls a0 false _ A2.out).mono ?_); rintro e w' ⟨rfl, ⟨nd, rfl⟩⟩; refine ⟨_, rfl, ?_⟩))
 (go_ret);(exact ⟨sA, dA⟩)

def rate_Forward.f (a0 : Nat) (a1 : Nat) (a2 : Nat) : Option (Nat × Int) := (rate_above.f a0).bind fun t116 => (if t116 = true then ((rate_above.f a1).bind fun t117 => (if t117 = true then ((rate_above.f a2).bind fun t118 => (if t118 = true then (if fdivK a0 a1 = true then (if fsubK (fdivV a0 a1) (4607182418800017408 : Nat) = true then (if fdivK (fsubV (fdivV a0 a1) (4607182418800017408 : Nat)) a2 = true then ((rate_number.f (fdivV (fsubV (fdivV a0 a1) (4607182418800017408 : Nat)) a2)).bind fun t119 => (if t119 = true then (some (fdivV (fsubV (fdivV a0 a1) (4607182418800017408 : Nat)) a2, 0)) else (none))) else (none)) else (none)) else (none)) else (none))) else (none))) else (none))
set_option maxHeartbeats 8000000 in
set_option maxRecDepth 100000 in
theorem rate_Forward.calls (a0 : Nat) (a1 : Nat) (a2 : Nat) (r1 : Nat) (r2 : Int) (w : World) (h : rate_Forward.f a0 a1 a2 = some (r1, r2)) :
  Calls Tryz.prog 82 #[.float .f64 a0, .float .f64 a1, .float .f64 a2] w fun e w' => e = .returned (.tuple #[.float .f64 r1, .int .i64 r2]) ∧ Drawn0 w w' := by
 (have H : ((rate_above.f a0).bind fun t116 => (if t116 = true then ((rate_above.f a1).bind fun t117 => (if t117 = true then ((rate_above.f a2).bind fun t118 => (if t118 = true then (if fdivK a0 a1 = true then (if fsubK (fdivV a0 a1) (4607182418800017408 : Nat) = true then (if fdivK (fsubV (fdivV a0 a1) (4607182418800017408 : Nat)) a2 = true then ((rate_number.f (fdivV (fsubV (fdivV a0 a1) (4607182418800017408 : Nat)) a2)).bind fun t119 => (if t119 = true then (some (fdivV (fsubV (fdivV a0 a1) (4607182418800017408 : Nat)) a2, 0)) else (none))) else (none)) else (none)) else (none)) else (none))) else (none))) else (none))) = some (r1, r2) := h);(clear h);(revert H);(refine bE ?_);(rintro t116 A4 H)
 by_cases c5 : t116 = true
 rotate_left
 ·replace c5 := Bool.eq_false_iff.mpr c5
  (subst c5);(have H1 : (none) = some (r1, r2) := by rw [if_neg (show ¬ (false = true) by decide)] at H; exact H);(clear H);(have H := H1);(clear H1);(exact absurd H (by simp))
 (subst c5);(have H1 : ((rate_above.f a1).bind fun t117 => (if t117 = true then ((rate_above.f a2).bind fun t118 => (if t118 = true then (if fdivK a0 a1 = true then (if fsubK (fdivV a0 a1) (4607182418800017408 : Nat) = true then (if fdivK (fsubV (fdivV a0 a1) (4607182418800017408 : Nat)) a2 = true then ((rate_number.f (fdivV (fsubV (fdivV a0 a1) (4607182418800017408 : Nat)) a2)).bind fun t119 => (if t119 = true then (some (fdivV (fsubV (fdivV a0 a1) (4607182418800017408 : Nat)) a2, 0)) else (none))) else (none)) else (none)) else (none)) else (none))) else (none))) = some (r1, r2) := by rw [if_pos rfl] at H; exact H);(clear H);(have H := H1);(clear H1);(revert H);(refine bE ?_);(rintro t117 A6 H)
 by_cases c7 : t117 = true
 rotate_left
 ·replace c7 := Bool.eq_false_iff.mpr c7
  (subst c7);(have H1 : (none) = some (r1, r2) := by rw [if_neg (show ¬ (false = true) by decide)] at H; exact H);(clear H);(have H := H1);(clear H1);(exact absurd H (by simp))
 (subst c7);(have H1 : ((rate_above.f a2).bind fun t118 => (if t118 = true then (if fdivK a0 a1 = true then (if fsubK (fdivV a0 a1) (4607182418800017408 : Nat) = true then (if fdivK (fsubV (fdivV a0 a1) (4607182418800017408 : Nat)) a2 = true then ((rate_number.f (fdivV (fsubV (fdivV a0 a1) (4607182418800017408 : Nat)) a2)).bind fun t119 => (if t119 = true then (some (fdivV (fsubV (fdivV a0 a1) (4607182418800017408 : Nat)) a2, 0)) else (none))) else (none)) else (none)) else (none)) else (none))) = some (r1, r2) := by rw [if_pos rfl] at H; exact H);(clear H);(have H := H1);(clear H1);(revert H);(refine bE ?_);(rintro t118 A8 H)
 by_cases c9 : t118 = true
 rotate_left
 ·replace c9 := Bool.eq_false_iff.mpr c9
  (subst c9);(have H1 : (none) = some (r1, r2) := by rw [if_neg (show ¬ (false = true) by decide)] at H; exact H);(clear H);(have H := H1);(clear H1);(exact absurd H (by simp))
 (subst c9);(have H1 : (if fdivK a0 a1 = true then (if fsubK (fdivV a0 a1) (4607182418800017408 : Nat) = true then (if fdivK (fsubV (fdivV a0 a1) (4607182418800017408 : Nat)) a2 = true then ((rate_number.f (fdivV (fsubV (fdivV a0 a1) (4607182418800017408 : Nat)) a2)).bind fun t119 => (if t119 = true then (some (fdivV (fsubV (fdivV a0 a1) (4607182418800017408 : Nat)) a2, 0)) else (none))) else (none)) else (none)) else (none)) = some (r1, r2) := by rw [if_pos rfl] at H; exact H);(clear H);(have H := H1);(clear H1);(revert H);(refine ifP fun c10 H => ?_);(have c10b0 := eq_true c10);(have c10b1 : decide (fdivK a0 a1 = true) = true := decide_eq_true c10);(clear c10);(revert H);(refine ifP fun c11 H => ?_);(have c11b0 := eq_true c11);(have c11b1 : decide (fsubK (fdivV a0 a1) (4607182418800017408 : Nat) = true) = true := decide_eq_true c11);(clear c11);(revert H);(refine ifP fun c12 H => ?_);(have c12b0 := eq_true c12);(have c12b1 : decide (fdivK (fsubV (fdivV a0 a1) (4607182418800017408 : Nat)) a2 = true) = true := decide_eq_true c12);(clear c12);(revert H);(refine bE ?_);(rintro t119 A13 H)
 by_cases c14 : t119 = true
 rotate_left
 ·replace c14 := Bool.eq_false_iff.mpr c14
  (subst c14);(have H1 : (none) = some (r1, r2) := by rw [if_neg (show ¬ (false = true) by decide)] at H; exact H);(clear H);(have H := H1);(clear H1);(exact absurd H (by simp))
 (subst c14);(have H1 : (some (fdivV (fsubV (fdivV a0 a1) (4607182418800017408 : Nat)) a2, 0)) = some (r1, r2) := by rw [if_pos rfl] at H; exact H);(clear H);(have H := H1);(clear H1);(simp only [Option.some.injEq, Prod.mk.injEq] at H);(obtain ⟨rfl, rfl⟩ := H);(go_enter Tryz.func82, Tryz.ntmps82)
 go_wp2_with (first | ((with_reducible refine gate_callee (f := 143) rfl ?_); refine goL (N := some 10) Tryz.func143 #[.float .f64 a0] ?_; (with_reducible refine (rate_above.calls a0 true _ A4.out).mono ?_); rintro e w' ⟨rfl, ⟨nd, rfl⟩⟩; refine ⟨_, rfl, ?_⟩) | (go_at_call 143; (with_reducible refine (rate_above.calls a1 true _ A6.out).mono ?_); rintro e w' ⟨rfl, ⟨nd, rfl⟩⟩) | (go_at_call 143; (with_reducible refine (rate_above.calls a2 true _ A8.out).mono ?_); rintro e w' ⟨rfl, ⟨nd, rfl⟩⟩) | ((with_reducible refine gate_callee (f := 144) rfl ?_); refine goL (N := some 29) Tryz.func144 #[.float .f64 (fdivV (fsubV (fdivV a0 a1) (4607182418800017408 : Nat)) a2)] ?_; (with_reducible refine (rate_number.calls (fdivV (fsubV (fdivV a0 a1) (4607182418800017408 : Nat)) a2) true _ A13.out).mono ?_); rintro e w' ⟨rfl, ⟨nd, rfl⟩⟩; refine ⟨_, rfl, ?_⟩))
 (go_ret2);(exact ⟨sA, dA⟩)

def curve_Forward.f (k : Nat) (a0_0 : Int) (a0_1 : Int) (l0_2 : List Int) (l0_3 : List Nat) (a1 : Int) (a2_0 : Int) (l2_1 : List (S275)) (a3 : Int) (a4 : Int) : Option (Nat × Int) := (curve_Factor.f k a0_0 a0_1 l0_2 l0_3 a3).bind fun bt122 => (if bt122.2 = 0 then ((curve_Factor.f k a0_0 a0_1 l0_2 l0_3 a4).bind fun bt124 => (if bt124.2 = 0 then ((count_Year.f k a1 a2_0 l2_1 a3 a4).bind fun bt126 => (if bt126.2 = 0 then ((rate_Forward.f bt122.1 bt124.1 bt126.1).bind fun bt128 => (some (bt128.1, bt128.2))) else (some ((0 : Nat), bt126.2)))) else (some ((0 : Nat), bt124.2)))) else (some ((0 : Nat), bt122.2)))
set_option maxHeartbeats 8000000 in
set_option maxRecDepth 100000 in
theorem curve_Forward.calls (k : Nat) (a0_0 : Int) (a0_1 : Int) (A0_2 : Option Addr) (c0_2 : Nat) (l0_2 : List Int) (A0_3 : Option Addr) (c0_3 : Nat) (l0_3 : List Nat) (a1 : Int) (a2_0 : Int) (A2_1 : Option Addr) (c2_1 : Nat) (l2_1 : List (S275)) (a3 : Int) (a4 : Int) (r1 : Nat) (r2 : Int) (w : World) (hr0_2 : Kd.C (Kd.int .i64) w A0_2 l0_2.length l0_2) (hc0_2 : l0_2.length ≤ c0_2) (hr0_3 : Kd.C Kd.flt w A0_3 l0_3.length l0_3) (hc0_3 : l0_3.length ≤ c0_3) (hr2_1 : Kd.C k275 w A2_1 l2_1.length l2_1) (hc2_1 : l2_1.length ≤ c2_1) (h : curve_Forward.f k a0_0 a0_1 l0_2 l0_3 a1 a2_0 l2_1 a3 a4 = some (r1, r2)) :
  Calls Tryz.prog 29 #[.agg #[.int .i64 a0_0, .int .i64 a0_1, .slice A0_2 l0_2.length c0_2, .slice A0_3 l0_3.length c0_3], .int .i64 a1, .agg #[.int .i64 a2_0, .slice A2_1 l2_1.length c2_1], .int .i64 a3, .int .i64 a4] w fun e w' => e = .returned (.tuple #[.float .f64 r1, .int .i64 r2]) ∧ Below w.heap.size w w' := by
 (have hu25 := Tryz.underlying25);(have hu60 := Tryz.underlying60);(have HR0_2 := aM hr0_2);(have HC0_2 := aM hc0_2);(clear hr0_2 hc0_2);(have HR0_3 := aM hr0_3);(have HC0_3 := aM hc0_3);(clear hr0_3 hc0_3);(have HR2_1 := aM hr2_1);(have HC2_1 := aM hc2_1);(clear hr2_1 hc2_1);(have HB := aM (Below.refl w.heap.size w));(have H : ((curve_Factor.f k a0_0 a0_1 l0_2 l0_3 a3).bind fun bt122 => (if bt122.2 = 0 then ((curve_Factor.f k a0_0 a0_1 l0_2 l0_3 a4).bind fun bt124 => (if bt124.2 = 0 then ((count_Year.f k a1 a2_0 l2_1 a3 a4).bind fun bt126 => (if bt126.2 = 0 then ((rate_Forward.f bt122.1 bt124.1 bt126.1).bind fun bt128 => (some (bt128.1, bt128.2))) else (some ((0 : Nat), bt126.2)))) else (some ((0 : Nat), bt124.2)))) else (some ((0 : Nat), bt122.2)))) = some (r1, r2) := h);(clear h);(revert H);(refine bE ?_);(rintro ⟨t122, t123⟩ A6 H)
 (try dsimp only at H)
 by_cases c7 : t123 = 0
 rotate_left
 ·rw [if_neg c7] at H
  (have c7b0 : (t123 == 0) = false := beq_eq_false_iff_ne.mpr c7);(have c7b1 : (t123 != 0) = true := bne_iff_ne.mpr c7);(simp only [Option.some.injEq, Prod.mk.injEq] at H);(obtain ⟨rfl, rfl⟩ := H);(go_enter Tryz.func29, Tryz.ntmps29)
  go_wp2_with (first | ((with_reducible refine gD 5 rfl ?_); refine boxW (N := 5) #[.int .i64 a0_0, .int .i64 a0_1, .slice A0_2 l0_2.length c0_2, .slice A0_3 l0_3.length c0_3] 25 HB ?_; clear HB; intro gb120 w38 BK120 HB GW120; have GE120 := GW120) | ((with_reducible refine gD 7 rfl ?_); refine box_event ?hg (N := 7) ?hd (cs := #[.int .i64 a2_0, .slice A2_1 l2_1.length c2_1]) (t := 60) ?hr ?_; (case hd => rfl); (case hg => rfl); (case hr => first | (go_simp; done) | (go_simp; rfl)); intro gb121 hg w39 hbox hb; have BK121 := aM hbox; have GW121 := aM (by rw [hg]; exact (below_size (bG HB.out)) : w.heap.size ≤ gb121); have GE121 := aM (by rw [hg]; exact (below_size (bG HB.out)) : w.heap.size ≤ gb121); replace HB := gB HB hb; have NB120_121 := aM (by rw [hg]; exact Nat.ne_of_lt (blk_lt (g := gb120) (o := .cells #[.int .i64 a0_0, .int .i64 a0_1, .slice A0_2 l0_2.length c0_2, .slice A0_3 l0_3.length c0_3] 25 (0, 0)) (kA BK120.out)) : gb120 ≠ gb121); have NB121_120 := aM (by rw [hg]; exact Nat.ne_of_gt (blk_lt (g := gb120) (o := .cells #[.int .i64 a0_0, .int .i64 a0_1, .slice A0_2 l0_2.length c0_2, .slice A0_3 l0_3.length c0_3] 25 (0, 0)) (kA BK120.out)) : gb121 ≠ gb120); replace BK120 := kB BK120 hb; clear hb hbox hg; have hnb40 := NB120_121.out; have hnc40 := NB121_120.out; obtain ⟨hcz41_0, hcz41_1, hcz41_2, hcz41_3, hfz41_0, hfz41_1, hfz41_2, hfz41_3⟩ := cz4 BK120.out) | ((with_reducible refine gate_callee (f := 17) rfl ?_); refine goL (N := some 19) Tryz.func17 #[.agg #[.int .i64 a0_0, .int .i64 a0_1, .slice A0_2 l0_2.length c0_2, .slice A0_3 l0_3.length c0_3], .int .i64 a3] ?_; (with_reducible refine (curve_Factor.calls k a0_0 a0_1 _ _ l0_2 _ _ l0_3 a3 t122 t123 _ ?side1 ?side2 ?side3 ?side4 A6.out).mono ?_); (case side1 => exact cA (Kd.C_below HR0_2.out HB.out)); (case side2 => exact HC0_2.out); (case side3 => exact cA (Kd.C_below HR0_3.out HB.out)); (case side4 => exact HC0_3.out); rintro e w42 ⟨rfl, hb⟩; refine ⟨_, rfl, ?_⟩; replace BK120 := kB BK120 hb; replace BK121 := kB BK121 hb; replace HB := gB HB hb; (try clear hb); (try clear hb2); (try clear hk); (try clear hi)))
  (go_ret2);(exact ⟨eA, bG HB.out⟩)
 (rw [if_pos c7] at H);(have c7b0 : (t123 == 0) = true := beq_iff_eq.mpr c7);(have c7b1 : (t123 != 0) = false := bne_eq_false_iff_eq.mpr c7);(clear c7);(revert H);(refine bE ?_);(rintro ⟨t124, t125⟩ A8 H)
 (try dsimp only at H)
 by_cases c9 : t125 = 0
 rotate_left
 ·rw [if_neg c9] at H
  (have c9b0 : (t125 == 0) = false := beq_eq_false_iff_ne.mpr c9);(have c9b1 : (t125 != 0) = true := bne_iff_ne.mpr c9);(simp only [Option.some.injEq, Prod.mk.injEq] at H);(obtain ⟨rfl, rfl⟩ := H);(go_enter Tryz.func29, Tryz.ntmps29)
  go_wp2_with (first | ((with_reducible refine gD 5 rfl ?_); refine boxW (N := 5) #[.int .i64 a0_0, .int .i64 a0_1, .slice A0_2 l0_2.length c0_2, .slice A0_3 l0_3.length c0_3] 25 HB ?_; clear HB; intro gb120 w31 BK120 HB GW120; have GE120 := GW120) | ((with_reducible refine gD 7 rfl ?_); refine box_event ?hg (N := 7) ?hd (cs := #[.int .i64 a2_0, .slice A2_1 l2_1.length c2_1]) (t := 60) ?hr ?_; (case hd => rfl); (case hg => rfl); (case hr => first | (go_simp; done) | (go_simp; rfl)); intro gb121 hg w32 hbox hb; have BK121 := aM hbox; have GW121 := aM (by rw [hg]; exact (below_size (bG HB.out)) : w.heap.size ≤ gb121); have GE121 := aM (by rw [hg]; exact (below_size (bG HB.out)) : w.heap.size ≤ gb121); replace HB := gB HB hb; have NB120_121 := aM (by rw [hg]; exact Nat.ne_of_lt (blk_lt (g := gb120) (o := .cells #[.int .i64 a0_0, .int .i64 a0_1, .slice A0_2 l0_2.length c0_2, .slice A0_3 l0_3.length c0_3] 25 (0, 0)) (kA BK120.out)) : gb120 ≠ gb121); have NB121_120 := aM (by rw [hg]; exact Nat.ne_of_gt (blk_lt (g := gb120) (o := .cells #[.int .i64 a0_0, .int .i64 a0_1, .slice A0_2 l0_2.length c0_2, .slice A0_3 l0_3.length c0_3] 25 (0, 0)) (kA BK120.out)) : gb121 ≠ gb120); replace BK120 := kB BK120 hb; clear hb hbox hg; have hnb33 := NB120_121.out; have hnc33 := NB121_120.out; obtain ⟨hcz34_0, hcz34_1, hcz34_2, hcz34_3, hfz34_0, hfz34_1, hfz34_2, hfz34_3⟩ := cz4 BK120.out) | ((with_reducible refine gate_callee (f := 17) rfl ?_); refine goL (N := some 19) Tryz.func17 #[.agg #[.int .i64 a0_0, .int .i64 a0_1, .slice A0_2 l0_2.length c0_2, .slice A0_3 l0_3.length c0_3], .int .i64 a3] ?_; (with_reducible refine (curve_Factor.calls k a0_0 a0_1 _ _ l0_2 _ _ l0_3 a3 t122 t123 _ ?side1 ?side2 ?side3 ?side4 A6.out).mono ?_); (case side1 => exact cA (Kd.C_below HR0_2.out HB.out)); (case side2 => exact HC0_2.out); (case side3 => exact cA (Kd.C_below HR0_3.out HB.out)); (case side4 => exact HC0_3.out); rintro e w35 ⟨rfl, hb⟩; refine ⟨_, rfl, ?_⟩; replace BK120 := kB BK120 hb; replace BK121 := kB BK121 hb; replace HB := gB HB hb; (try clear hb); (try clear hb2); (try clear hk); (try clear hi); obtain ⟨hcz36_0, hcz36_1, hcz36_2, hcz36_3, hfz36_0, hfz36_1, hfz36_2, hfz36_3⟩ := cz4 BK120.out) | ((with_reducible refine gate_callee (f := 17) rfl ?_); refine goL (N := some 28) Tryz.func17 #[.agg #[.int .i64 a0_0, .int .i64 a0_1, .slice A0_2 l0_2.length c0_2, .slice A0_3 l0_3.length c0_3], .int .i64 a4] ?_; (with_reducible refine (curve_Factor.calls k a0_0 a0_1 _ _ l0_2 _ _ l0_3 a4 t124 t125 _ ?side1 ?side2 ?side3 ?side4 A8.out).mono ?_); (case side1 => exact cA (Kd.C_below HR0_2.out HB.out)); (case side2 => exact HC0_2.out); (case side3 => exact cA (Kd.C_below HR0_3.out HB.out)); (case side4 => exact HC0_3.out); rintro e w37 ⟨rfl, hb⟩; refine ⟨_, rfl, ?_⟩; replace BK120 := kB BK120 hb; replace BK121 := kB BK121 hb; replace HB := gB HB hb; (try clear hb); (try clear hb2); (try clear hk); (try clear hi)))
  (go_ret2);(exact ⟨eA, bG HB.out⟩)
 (rw [if_pos c9] at H);(have c9b0 : (t125 == 0) = true := beq_iff_eq.mpr c9);(have c9b1 : (t125 != 0) = false := bne_eq_false_iff_eq.mpr c9);(clear c9);(revert H);(refine bE ?_);(rintro ⟨t126, t127⟩ A10 H)
 (try dsimp only at H)
 by_cases c11 : t127 = 0
 rotate_left
 ·rw [if_neg c11] at H
  (have c11b0 : (t127 == 0) = false := beq_eq_false_iff_ne.mpr c11);(have c11b1 : (t127 != 0) = true := bne_iff_ne.mpr c11);(simp only [Option.some.injEq, Prod.mk.injEq] at H);(obtain ⟨rfl, rfl⟩ := H);(go_enter Tryz.func29, Tryz.ntmps29)
  go_wp2_with (first | ((with_reducible refine gD 5 rfl ?_); refine boxW (N := 5) #[.int .i64 a0_0, .int .i64 a0_1, .slice A0_2 l0_2.length c0_2, .slice A0_3 l0_3.length c0_3] 25 HB ?_; clear HB; intro gb120 w22 BK120 HB GW120; have GE120 := GW120) | ((with_reducible refine gD 7 rfl ?_); refine box_event ?hg (N := 7) ?hd (cs := #[.int .i64 a2_0, .slice A2_1 l2_1.length c2_1]) (t := 60) ?hr ?_; (case hd => rfl); (case hg => rfl); (case hr => first | (go_simp; done) | (go_simp; rfl)); intro gb121 hg w23 hbox hb; have BK121 := aM hbox; have GW121 := aM (by rw [hg]; exact (below_size (bG HB.out)) : w.heap.size ≤ gb121); have GE121 := aM (by rw [hg]; exact (below_size (bG HB.out)) : w.heap.size ≤ gb121); replace HB := gB HB hb; have NB120_121 := aM (by rw [hg]; exact Nat.ne_of_lt (blk_lt (g := gb120) (o := .cells #[.int .i64 a0_0, .int .i64 a0_1, .slice A0_2 l0_2.length c0_2, .slice A0_3 l0_3.length c0_3] 25 (0, 0)) (kA BK120.out)) : gb120 ≠ gb121); have NB121_120 := aM (by rw [hg]; exact Nat.ne_of_gt (blk_lt (g := gb120) (o := .cells #[.int .i64 a0_0, .int .i64 a0_1, .slice A0_2 l0_2.length c0_2, .slice A0_3 l0_3.length c0_3] 25 (0, 0)) (kA BK120.out)) : gb121 ≠ gb120); replace BK120 := kB BK120 hb; clear hb hbox hg; have hnb24 := NB120_121.out; have hnc24 := NB121_120.out; obtain ⟨hcz25_0, hcz25_1, hcz25_2, hcz25_3, hfz25_0, hfz25_1, hfz25_2, hfz25_3⟩ := cz4 BK120.out) | ((with_reducible refine gate_callee (f := 17) rfl ?_); refine goL (N := some 19) Tryz.func17 #[.agg #[.int .i64 a0_0, .int .i64 a0_1, .slice A0_2 l0_2.length c0_2, .slice A0_3 l0_3.length c0_3], .int .i64 a3] ?_; (with_reducible refine (curve_Factor.calls k a0_0 a0_1 _ _ l0_2 _ _ l0_3 a3 t122 t123 _ ?side1 ?side2 ?side3 ?side4 A6.out).mono ?_); (case side1 => exact cA (Kd.C_below HR0_2.out HB.out)); (case side2 => exact HC0_2.out); (case side3 => exact cA (Kd.C_below HR0_3.out HB.out)); (case side4 => exact HC0_3.out); rintro e w26 ⟨rfl, hb⟩; refine ⟨_, rfl, ?_⟩; replace BK120 := kB BK120 hb; replace BK121 := kB BK121 hb; replace HB := gB HB hb; (try clear hb); (try clear hb2); (try clear hk); (try clear hi); obtain ⟨hcz27_0, hcz27_1, hcz27_2, hcz27_3, hfz27_0, hfz27_1, hfz27_2, hfz27_3⟩ := cz4 BK120.out) | ((with_reducible refine gate_callee (f := 17) rfl ?_); refine goL (N := some 28) Tryz.func17 #[.agg #[.int .i64 a0_0, .int .i64 a0_1, .slice A0_2 l0_2.length c0_2, .slice A0_3 l0_3.length c0_3], .int .i64 a4] ?_; (with_reducible refine (curve_Factor.calls k a0_0 a0_1 _ _ l0_2 _ _ l0_3 a4 t124 t125 _ ?side1 ?side2 ?side3 ?side4 A8.out).mono ?_); (case side1 => exact cA (Kd.C_below HR0_2.out HB.out)); (case side2 => exact HC0_2.out); (case side3 => exact cA (Kd.C_below HR0_3.out HB.out)); (case side4 => exact HC0_3.out); rintro e w28 ⟨rfl, hb⟩; refine ⟨_, rfl, ?_⟩; replace BK120 := kB BK120 hb; replace BK121 := kB BK121 hb; replace HB := gB HB hb; (try clear hb); (try clear hb2); (try clear hk); (try clear hi); obtain ⟨hcz29_0, hcz29_1, hfz29_0, hfz29_1⟩ := cz2 BK121.out) | ((with_reducible refine gate_callee (f := 81) rfl ?_); refine goL (N := some 39) Tryz.func81 #[.int .i64 a1, .agg #[.int .i64 a2_0, .slice A2_1 l2_1.length c2_1], .int .i64 a3, .int .i64 a4] ?_; (with_reducible refine (count_Year.calls k a1 a2_0 _ _ l2_1 a3 a4 t126 t127 _ ?side1 ?side2 A10.out).mono ?_); (case side1 => exact cA (Kd.C_below HR2_1.out HB.out)); (case side2 => exact HC2_1.out); rintro e w30 ⟨rfl, hb⟩; refine ⟨_, rfl, ?_⟩; replace BK120 := kB BK120 hb; replace BK121 := kB BK121 hb; replace HB := gB HB hb; (try clear hb); (try clear hb2); (try clear hk); (try clear hi)))
  (go_ret2);(exact ⟨eA, bG HB.out⟩)
 (rw [if_pos c11] at H);(have c11b0 : (t127 == 0) = true := beq_iff_eq.mpr c11);(have c11b1 : (t127 != 0) = false := bne_eq_false_iff_eq.mpr c11);(clear c11);(revert H);(refine bE ?_);(rintro ⟨t128, t129⟩ A12 H)
 (try dsimp only at H)
 (simp only [Option.some.injEq, Prod.mk.injEq] at H);(obtain ⟨rfl, rfl⟩ := H);(go_enter Tryz.func29, Tryz.ntmps29)
 go_wp2_with (first | ((with_reducible refine gD 5 rfl ?_); refine boxW (N := 5) #[.int .i64 a0_0, .int .i64 a0_1, .slice A0_2 l0_2.length c0_2, .slice A0_3 l0_3.length c0_3] 25 HB ?_; clear HB; intro gb120 w13 BK120 HB GW120; have GE120 := GW120) | ((with_reducible refine gD 7 rfl ?_); refine box_event ?hg (N := 7) ?hd (cs := #[.int .i64 a2_0, .slice A2_1 l2_1.length c2_1]) (t := 60) ?hr ?_; (case hd => rfl); (case hg => rfl); (case hr => first | (go_simp; done) | (go_simp; rfl)); intro gb121 hg w14 hbox hb; have BK121 := aM hbox; have GW121 := aM (by rw [hg]; exact (below_size (bG HB.out)) : w.heap.size ≤ gb121); have GE121 := aM (by rw [hg]; exact (below_size (bG HB.out)) : w.heap.size ≤ gb121); replace HB := gB HB hb; have NB120_121 := aM (by rw [hg]; exact Nat.ne_of_lt (blk_lt (g := gb120) (o := .cells #[.int .i64 a0_0, .int .i64 a0_1, .slice A0_2 l0_2.length c0_2, .slice A0_3 l0_3.length c0_3] 25 (0, 0)) (kA BK120.out)) : gb120 ≠ gb121); have NB121_120 := aM (by rw [hg]; exact Nat.ne_of_gt (blk_lt (g := gb120) (o := .cells #[.int .i64 a0_0, .int .i64 a0_1, .slice A0_2 l0_2.length c0_2, .slice A0_3 l0_3.length c0_3] 25 (0, 0)) (kA BK120.out)) : gb121 ≠ gb120); replace BK120 := kB BK120 hb; clear hb hbox hg; have hnb15 := NB120_121.out; have hnc15 := NB121_120.out; obtain ⟨hcz16_0, hcz16_1, hcz16_2, hcz16_3, hfz16_0, hfz16_1, hfz16_2, hfz16_3⟩ := cz4 BK120.out) | ((with_reducible refine gate_callee (f := 17) rfl ?_); refine goL (N := some 19) Tryz.func17 #[.agg #[.int .i64 a0_0, .int .i64 a0_1, .slice A0_2 l0_2.length c0_2, .slice A0_3 l0_3.length c0_3], .int .i64 a3] ?_; (with_reducible refine (curve_Factor.calls k a0_0 a0_1 _ _ l0_2 _ _ l0_3 a3 t122 t123 _ ?side1 ?side2 ?side3 ?side4 A6.out).mono ?_); (case side1 => exact cA (Kd.C_below HR0_2.out HB.out)); (case side2 => exact HC0_2.out); (case side3 => exact cA (Kd.C_below HR0_3.out HB.out)); (case side4 => exact HC0_3.out); rintro e w17 ⟨rfl, hb⟩; refine ⟨_, rfl, ?_⟩; replace BK120 := kB BK120 hb; replace BK121 := kB BK121 hb; replace HB := gB HB hb; (try clear hb); (try clear hb2); (try clear hk); (try clear hi); obtain ⟨hcz18_0, hcz18_1, hcz18_2, hcz18_3, hfz18_0, hfz18_1, hfz18_2, hfz18_3⟩ := cz4 BK120.out) | ((with_reducible refine gate_callee (f := 17) rfl ?_); refine goL (N := some 28) Tryz.func17 #[.agg #[.int .i64 a0_0, .int .i64 a0_1, .slice A0_2 l0_2.length c0_2, .slice A0_3 l0_3.length c0_3], .int .i64 a4] ?_; (with_reducible refine (curve_Factor.calls k a0_0 a0_1 _ _ l0_2 _ _ l0_3 a4 t124 t125 _ ?side1 ?side2 ?side3 ?side4 A8.out).mono ?_); (case side1 => exact cA (Kd.C_below HR0_2.out HB.out)); (case side2 => exact HC0_2.out); (case side3 => exact cA (Kd.C_below HR0_3.out HB.out)); (case side4 => exact HC0_3.out); rintro e w19 ⟨rfl, hb⟩; refine ⟨_, rfl, ?_⟩; replace BK120 := kB BK120 hb; replace BK121 := kB BK121 hb; replace HB := gB HB hb; (try clear hb); (try clear hb2); (try clear hk); (try clear hi); obtain ⟨hcz20_0, hcz20_1, hfz20_0, hfz20_1⟩ := cz2 BK121.out) | ((with_reducible refine gate_callee (f := 81) rfl ?_); refine goL (N := some 39) Tryz.func81 #[.int .i64 a1, .agg #[.int .i64 a2_0, .slice A2_1 l2_1.length c2_1], .int .i64 a3, .int .i64 a4] ?_; (with_reducible refine (count_Year.calls k a1 a2_0 _ _ l2_1 a3 a4 t126 t127 _ ?side1 ?side2 A10.out).mono ?_); (case side1 => exact cA (Kd.C_below HR2_1.out HB.out)); (case side2 => exact HC2_1.out); rintro e w21 ⟨rfl, hb⟩; refine ⟨_, rfl, ?_⟩; replace BK120 := kB BK120 hb; replace BK121 := kB BK121 hb; replace HB := gB HB hb; (try clear hb); (try clear hb2); (try clear hk); (try clear hi)) | ((with_reducible refine gate_callee (f := 82) rfl ?_); refine goL (N := some 48) Tryz.func82 #[.float .f64 t122, .float .f64 t124, .float .f64 t126] ?_; (with_reducible refine (rate_Forward.calls t122 t124 t126 t128 t129 _ A12.out).mono ?_); rintro e w' ⟨rfl, ⟨nd, rfl⟩⟩; refine ⟨_, rfl, ?_⟩))
 (go_ret2);(exact ⟨eA, bG HB.out⟩)

end
end Go.Proofs.YtmdoljecjliehaaGreat.FXa
