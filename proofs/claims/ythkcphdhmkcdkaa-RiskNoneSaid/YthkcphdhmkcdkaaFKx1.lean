/- Written by the session's fprint.py out of the translation. -/
import Derived.Test.YthkcphdhmkcdkaaFKx0
namespace Go.Proofs.Ythkcphdhmkcdkaa.FK
noncomputable section
open Go.RowKit Go.Proofs.YthkcphdhmkcdkaaW.PrintWords Go.Proofs.YthkcphdhmkcdkaaW.PrintLast Go.Proofs.YthkcphdhmkcdkaaW.PrintMore
attribute [local go_sem] max2_int min2_int max_two min_two max_three min_three max_four min_four   -- for this text's walks alone
open Go.Proofs.Ythkcphdhmkcdkaa.FX Go.Proofs.Ythkcphdhmkcdkaa.FB Go.Proofs.Ythkcphdhmkcdkaa.FP Go.Proofs.Ythkcphdhmkcdkaa.FQ
attribute [local go_sem] run_store_float run_neg_float run_fmul run_fadd run_fsub run_fdiv run_ftoi isSome_setCell 
set_option linter.unusedVariables false
set_option linter.unusedSimpArgs false

def risk_number.f (a0 : Nat) : Option (Bool) := (ieee_Class.f a0).bind fun t101 => (some (decide (t101 < 4)))
set_option maxHeartbeats 8000000 in
set_option maxRecDepth 100000 in
theorem risk_number.calls (a0 : Nat) (r : Bool) (w : World) (h : risk_number.f a0 = some r) :
  Calls Try.prog 57 #[.float .f64 a0] w fun e w' => e = .returned (.bool r) ∧ Drawn0 w w' := by
 (have H : ((ieee_Class.f a0).bind fun t101 => (some (decide (t101 < 4)))) = some r := h);(clear h);(revert H);(refine bE ?_);(rintro t101 A2 H);(obtain rfl := Option.some.inj H);(go_enter Try.func57, Try.ntmps57)
 go_wp2_with (first | ((with_reducible refine gate_callee (f := 60) rfl ?_); refine goL (N := some 4) Try.func60 #[.float .f64 a0] ?_; (with_reducible refine (ieee_Class.calls a0 t101 _ A2.out).mono ?_); rintro e w' ⟨rfl, ⟨nd, rfl⟩⟩; refine ⟨_, rfl, ?_⟩))
 (go_ret);(exact ⟨sA, dA⟩)

def risk_told.f (a0 : Nat) : Option (Nat × Int) := (risk_number.f a0).bind fun t102 => (if t102 = true then (some (a0, 0)) else (some ((0 : Nat), 91)))
set_option maxHeartbeats 8000000 in
set_option maxRecDepth 100000 in
theorem risk_told.calls (a0 : Nat) (r1 : Nat) (r2 : Int) (w : World) (h : risk_told.f a0 = some (r1, r2)) :
  Calls Try.prog 55 #[.float .f64 a0] w fun e w' => e = .returned (.tuple #[.float .f64 r1, .int .i64 r2]) ∧ Drawn0 w w' := by
 (have H : ((risk_number.f a0).bind fun t102 => (if t102 = true then (some (a0, 0)) else (some ((0 : Nat), 91)))) = some (r1, r2) := h);(clear h);(revert H);(refine bE ?_);(rintro t102 A2 H)
 by_cases c3 : t102 = true
 ·subst c3
  (have H1 : (some (a0, 0)) = some (r1, r2) := by rw [if_pos rfl] at H; exact H);(clear H);(have H := H1);(clear H1);(simp only [Option.some.injEq, Prod.mk.injEq] at H);(obtain ⟨rfl, rfl⟩ := H);(go_enter Try.func55, Try.ntmps55)
  go_wp2_with (first | ((with_reducible refine gate_callee (f := 57) rfl ?_); refine goL (N := some 5) Try.func57 #[.float .f64 a0] ?_; (with_reducible refine (risk_number.calls a0 true _ A2.out).mono ?_); rintro e w' ⟨rfl, ⟨nd, rfl⟩⟩; refine ⟨_, rfl, ?_⟩))
  (go_ret2);(exact ⟨sA, dA⟩)
 (replace c3 := Bool.eq_false_iff.mpr c3);(subst c3);(have H1 : (some ((0 : Nat), 91)) = some (r1, r2) := by rw [if_neg (show ¬ (false = true) by decide)] at H; exact H);(clear H);(have H := H1);(clear H1);(simp only [Option.some.injEq, Prod.mk.injEq] at H);(obtain ⟨rfl, rfl⟩ := H);(go_enter Try.func55, Try.ntmps55)
 go_wp2_with (first | ((with_reducible refine gate_callee (f := 57) rfl ?_); refine goL (N := some 5) Try.func57 #[.float .f64 a0] ?_; (with_reducible refine (risk_number.calls a0 false _ A2.out).mono ?_); rintro e w' ⟨rfl, ⟨nd, rfl⟩⟩; refine ⟨_, rfl, ?_⟩))
 (go_ret2);(exact ⟨sA, dA⟩)

def risk_begin.f (l0 : List (S51)) (a1 : Int) (a2_0 : Int) (a2_1 : Int) (l2_2 : List Int) (l2_3 : List Nat) (a3 : Nat) : Option (Nat × Int) := (price_Present.f l0 a1 a2_0 a2_1 l2_2 l2_3).bind fun bt104 => (if bt104.2 = 0 then ((risk_number.f a3).bind fun t106 => (if t106 = true then (some (bt104.1, 0)) else (some ((0 : Nat), 91)))) else (some ((0 : Nat), bt104.2)))
set_option maxHeartbeats 8000000 in
set_option maxRecDepth 100000 in
theorem risk_begin.calls (A0 : Option Addr) (c0 : Nat) (l0 : List (S51)) (a1 : Int) (a2_0 : Int) (a2_1 : Int) (A2_2 : Option Addr) (c2_2 : Nat) (l2_2 : List Int) (A2_3 : Option Addr) (c2_3 : Nat) (l2_3 : List Nat) (a3 : Nat) (r1 : Nat) (r2 : Int) (w : World) (hr0 : Kd.C k51 w A0 l0.length l0) (hc0 : l0.length ≤ c0) (hr2_2 : Kd.C (Kd.int .i64) w A2_2 l2_2.length l2_2) (hc2_2 : l2_2.length ≤ c2_2) (hr2_3 : Kd.C Kd.flt w A2_3 l2_3.length l2_3) (hc2_3 : l2_3.length ≤ c2_3) (h : risk_begin.f l0 a1 a2_0 a2_1 l2_2 l2_3 a3 = some (r1, r2)) :
  Calls Try.prog 52 #[.slice A0 l0.length c0, .int .i64 a1, .agg #[.int .i64 a2_0, .int .i64 a2_1, .slice A2_2 l2_2.length c2_2, .slice A2_3 l2_3.length c2_3], .float .f64 a3] w fun e w' => e = .returned (.tuple #[.float .f64 r1, .int .i64 r2]) ∧ Below w.heap.size w w' := by
 (have hu26 := Try.underlying26);(have HR0 := aM hr0);(have HC0 := aM hc0);(clear hr0 hc0);(have HR2_2 := aM hr2_2);(have HC2_2 := aM hc2_2);(clear hr2_2 hc2_2);(have HR2_3 := aM hr2_3);(have HC2_3 := aM hc2_3);(clear hr2_3 hc2_3);(have HB := aM (Below.refl w.heap.size w));(have H : ((price_Present.f l0 a1 a2_0 a2_1 l2_2 l2_3).bind fun bt104 => (if bt104.2 = 0 then ((risk_number.f a3).bind fun t106 => (if t106 = true then (some (bt104.1, 0)) else (some ((0 : Nat), 91)))) else (some ((0 : Nat), bt104.2)))) = some (r1, r2) := h);(clear h);(revert H);(refine bE ?_);(rintro ⟨t104, t105⟩ A5 H)
 (try dsimp only at H)
 by_cases c6 : t105 = 0
 rotate_left
 ·rw [if_neg c6] at H
  (have c6b0 : (t105 == 0) = false := beq_eq_false_iff_ne.mpr c6);(have c6b1 : (t105 != 0) = true := bne_iff_ne.mpr c6);(simp only [Option.some.injEq, Prod.mk.injEq] at H);(obtain ⟨rfl, rfl⟩ := H);(go_enter Try.func52, Try.ntmps52)
  go_wp2_with (first | ((with_reducible refine gD 6 rfl ?_); refine boxW (N := 6) #[.int .i64 a2_0, .int .i64 a2_1, .slice A2_2 l2_2.length c2_2, .slice A2_3 l2_3.length c2_3] 26 HB ?_; clear HB; intro gb103 w15 BK103 HB GW103; have GE103 := GW103; obtain ⟨hcz16_0, hcz16_1, hcz16_2, hcz16_3, hfz16_0, hfz16_1, hfz16_2, hfz16_3⟩ := cz4 BK103.out) | ((with_reducible refine gate_callee (f := 21) rfl ?_); refine goL (N := some 16) Try.func21 #[.slice A0 l0.length c0, .int .i64 a1, .agg #[.int .i64 a2_0, .int .i64 a2_1, .slice A2_2 l2_2.length c2_2, .slice A2_3 l2_3.length c2_3]] ?_; (with_reducible refine (price_Present.calls _ _ l0 a1 a2_0 a2_1 _ _ l2_2 _ _ l2_3 t104 t105 _ ?side1 ?side2 ?side3 ?side4 ?side5 ?side6 A5.out).mono ?_); (case side1 => exact cA (Kd.C_below HR0.out HB.out)); (case side2 => exact HC0.out); (case side3 => exact cA (Kd.C_below HR2_2.out HB.out)); (case side4 => exact HC2_2.out); (case side5 => exact cA (Kd.C_below HR2_3.out HB.out)); (case side6 => exact HC2_3.out); rintro e w17 ⟨rfl, hb⟩; refine ⟨_, rfl, ?_⟩; replace BK103 := kB BK103 hb; replace HB := gB HB hb; (try clear hb); (try clear hb2); (try clear hk); (try clear hi)))
  (go_ret2);(exact ⟨eA, bG HB.out⟩)
 (rw [if_pos c6] at H);(have c6b0 : (t105 == 0) = true := beq_iff_eq.mpr c6);(have c6b1 : (t105 != 0) = false := bne_eq_false_iff_eq.mpr c6);(clear c6);(revert H);(refine bE ?_);(rintro t106 A7 H)
 by_cases c8 : t106 = true
 ·subst c8
  (have H1 : (some (t104, 0)) = some (r1, r2) := by rw [if_pos rfl] at H; exact H);(clear H);(have H := H1);(clear H1);(simp only [Option.some.injEq, Prod.mk.injEq] at H);(obtain ⟨rfl, rfl⟩ := H);(go_enter Try.func52, Try.ntmps52)
  go_wp2_with (first | ((with_reducible refine gD 6 rfl ?_); refine boxW (N := 6) #[.int .i64 a2_0, .int .i64 a2_1, .slice A2_2 l2_2.length c2_2, .slice A2_3 l2_3.length c2_3] 26 HB ?_; clear HB; intro gb103 w9 BK103 HB GW103; have GE103 := GW103; obtain ⟨hcz10_0, hcz10_1, hcz10_2, hcz10_3, hfz10_0, hfz10_1, hfz10_2, hfz10_3⟩ := cz4 BK103.out) | ((with_reducible refine gate_callee (f := 21) rfl ?_); refine goL (N := some 16) Try.func21 #[.slice A0 l0.length c0, .int .i64 a1, .agg #[.int .i64 a2_0, .int .i64 a2_1, .slice A2_2 l2_2.length c2_2, .slice A2_3 l2_3.length c2_3]] ?_; (with_reducible refine (price_Present.calls _ _ l0 a1 a2_0 a2_1 _ _ l2_2 _ _ l2_3 t104 t105 _ ?side1 ?side2 ?side3 ?side4 ?side5 ?side6 A5.out).mono ?_); (case side1 => exact cA (Kd.C_below HR0.out HB.out)); (case side2 => exact HC0.out); (case side3 => exact cA (Kd.C_below HR2_2.out HB.out)); (case side4 => exact HC2_2.out); (case side5 => exact cA (Kd.C_below HR2_3.out HB.out)); (case side6 => exact HC2_3.out); rintro e w11 ⟨rfl, hb⟩; refine ⟨_, rfl, ?_⟩; replace BK103 := kB BK103 hb; replace HB := gB HB hb; (try clear hb); (try clear hb2); (try clear hk); (try clear hi)) | ((with_reducible refine gate_callee (f := 57) rfl ?_); refine goL (N := some 23) Try.func57 #[.float .f64 a3] ?_; (with_reducible refine (risk_number.calls a3 true _ A7.out).mono ?_); rintro e w' ⟨rfl, ⟨nd, rfl⟩⟩; refine ⟨_, rfl, ?_⟩))
  (go_ret2);(exact ⟨eA, bG HB.out⟩)
 (replace c8 := Bool.eq_false_iff.mpr c8);(subst c8);(have H1 : (some ((0 : Nat), 91)) = some (r1, r2) := by rw [if_neg (show ¬ (false = true) by decide)] at H; exact H);(clear H);(have H := H1);(clear H1);(simp only [Option.some.injEq, Prod.mk.injEq] at H);(obtain ⟨rfl, rfl⟩ := H);(go_enter Try.func52, Try.ntmps52)
 go_wp2_with (first | ((with_reducible refine gD 6 rfl ?_); refine boxW (N := 6) #[.int .i64 a2_0, .int .i64 a2_1, .slice A2_2 l2_2.length c2_2, .slice A2_3 l2_3.length c2_3] 26 HB ?_; clear HB; intro gb103 w12 BK103 HB GW103; have GE103 := GW103; obtain ⟨hcz13_0, hcz13_1, hcz13_2, hcz13_3, hfz13_0, hfz13_1, hfz13_2, hfz13_3⟩ := cz4 BK103.out) | ((with_reducible refine gate_callee (f := 21) rfl ?_); refine goL (N := some 16) Try.func21 #[.slice A0 l0.length c0, .int .i64 a1, .agg #[.int .i64 a2_0, .int .i64 a2_1, .slice A2_2 l2_2.length c2_2, .slice A2_3 l2_3.length c2_3]] ?_; (with_reducible refine (price_Present.calls _ _ l0 a1 a2_0 a2_1 _ _ l2_2 _ _ l2_3 t104 t105 _ ?side1 ?side2 ?side3 ?side4 ?side5 ?side6 A5.out).mono ?_); (case side1 => exact cA (Kd.C_below HR0.out HB.out)); (case side2 => exact HC0.out); (case side3 => exact cA (Kd.C_below HR2_2.out HB.out)); (case side4 => exact HC2_2.out); (case side5 => exact cA (Kd.C_below HR2_3.out HB.out)); (case side6 => exact HC2_3.out); rintro e w14 ⟨rfl, hb⟩; refine ⟨_, rfl, ?_⟩; replace BK103 := kB BK103 hb; replace HB := gB HB hb; (try clear hb); (try clear hb2); (try clear hk); (try clear hi)) | ((with_reducible refine gate_callee (f := 57) rfl ?_); refine goL (N := some 23) Try.func57 #[.float .f64 a3] ?_; (with_reducible refine (risk_number.calls a3 false _ A7.out).mono ?_); rintro e w' ⟨rfl, ⟨nd, rfl⟩⟩; refine ⟨_, rfl, ?_⟩))
 (go_ret2);(exact ⟨eA, bG HB.out⟩)

def tenorlaw16_small.f (l0 : List (S51)) (a1_0 : Int) (a1_1 : Int) (l1_2 : List Int) (l1_3 : List Nat) : Option (Bool) := if (l0.length : Int) ≤ 20 then (if (l1_2.length : Int) ≤ 8 then (some (decide ((l1_3.length : Int) ≤ 8))) else (some false)) else (some false)
set_option maxHeartbeats 8000000 in
set_option maxRecDepth 100000 in
theorem tenorlaw16_small.calls (A0 : Option Addr) (c0 : Nat) (l0 : List (S51)) (a1_0 : Int) (a1_1 : Int) (A1_2 : Option Addr) (c1_2 : Nat) (l1_2 : List Int) (A1_3 : Option Addr) (c1_3 : Nat) (l1_3 : List Nat) (r : Bool) (w : World) (hr0 : Kd.C k51 w A0 l0.length l0) (hc0 : l0.length ≤ c0) (hr1_2 : Kd.C (Kd.int .i64) w A1_2 l1_2.length l1_2) (hc1_2 : l1_2.length ≤ c1_2) (hr1_3 : Kd.C Kd.flt w A1_3 l1_3.length l1_3) (hc1_3 : l1_3.length ≤ c1_3) (h : tenorlaw16_small.f l0 a1_0 a1_1 l1_2 l1_3 = some r) :
  Calls Try.prog 29 #[.slice A0 l0.length c0, .agg #[.int .i64 a1_0, .int .i64 a1_1, .slice A1_2 l1_2.length c1_2, .slice A1_3 l1_3.length c1_3]] w fun e w' => e = .returned (.bool r) ∧ Below w.heap.size w w' := by
 (have hu26 := Try.underlying26);(have HR0 := aM hr0);(have HC0 := aM hc0);(clear hr0 hc0);(have HR1_2 := aM hr1_2);(have HC1_2 := aM hc1_2);(clear hr1_2 hc1_2);(have HR1_3 := aM hr1_3);(have HC1_3 := aM hc1_3);(clear hr1_3 hc1_3);(have HB := aM (Below.refl w.heap.size w));(have H : (if (l0.length : Int) ≤ 20 then (if (l1_2.length : Int) ≤ 8 then (some (decide ((l1_3.length : Int) ≤ 8))) else (some false)) else (some false)) = some r := h);(clear h)
 by_cases c3 : (l0.length : Int) ≤ 20
 rotate_left
 ·rw [if_neg c3] at H
  (have c3b0 : decide ((l0.length : Int) ≤ 20) = false := decide_eq_false c3);(have c3b1 : decide (l0.length ≤ 20) = false := decide_eq_false (by omega));(clear c3);(obtain rfl := Option.some.inj H);(go_enter Try.func29, Try.ntmps29)
  go_wp2_with (first | ((with_reducible refine gD 3 rfl ?_); (try (refine gate_guard (by rfl) ?_; dsimp only)); refine boxW (N := 3) #[.int .i64 a1_0, .int .i64 a1_1, .slice A1_2 l1_2.length c1_2, .slice A1_3 l1_3.length c1_3] 26 HB ?_; clear HB; intro gb107 w9 BK107 HB GW107; have GE107 := GW107))
  (go_ret);(exact ⟨eA, bG HB.out⟩)
 (rw [if_pos c3] at H);(have c3b0 : decide ((l0.length : Int) ≤ 20) = true := decide_eq_true c3);(have c3b1 : decide (l0.length ≤ 20) = true := decide_eq_true (by omega));(clear c3)
 by_cases c4 : (l1_2.length : Int) ≤ 8
 ·rw [if_pos c4] at H
  (have c4b0 : decide ((l1_2.length : Int) ≤ 8) = true := decide_eq_true c4);(have c4b1 : decide (l1_2.length ≤ 8) = true := decide_eq_true (by omega));(clear c4);(obtain rfl := Option.some.inj H);(go_enter Try.func29, Try.ntmps29)
  go_wp2_with (first | ((with_reducible refine gD 3 rfl ?_); (try (refine gate_guard (by rfl) ?_; dsimp only)); refine boxW (N := 3) #[.int .i64 a1_0, .int .i64 a1_1, .slice A1_2 l1_2.length c1_2, .slice A1_3 l1_3.length c1_3] 26 HB ?_; clear HB; intro gb107 w5 BK107 HB GW107; have GE107 := GW107; obtain ⟨hcz6_0, hcz6_1, hcz6_2, hcz6_3, hfz6_0, hfz6_1, hfz6_2, hfz6_3⟩ := cz4 BK107.out))
  (go_ret);(exact ⟨eA, bG HB.out⟩)
 (rw [if_neg c4] at H);(have c4b0 : decide ((l1_2.length : Int) ≤ 8) = false := decide_eq_false c4);(have c4b1 : decide (l1_2.length ≤ 8) = false := decide_eq_false (by omega));(clear c4);(obtain rfl := Option.some.inj H);(go_enter Try.func29, Try.ntmps29)
 go_wp2_with (first | ((with_reducible refine gD 3 rfl ?_); (try (refine gate_guard (by rfl) ?_; dsimp only)); refine boxW (N := 3) #[.int .i64 a1_0, .int .i64 a1_1, .slice A1_2 l1_2.length c1_2, .slice A1_3 l1_3.length c1_3] 26 HB ?_; clear HB; intro gb107 w7 BK107 HB GW107; have GE107 := GW107; obtain ⟨hcz8_0, hcz8_1, hcz8_2, hcz8_3, hfz8_0, hfz8_1, hfz8_2, hfz8_3⟩ := cz4 BK107.out))
 (go_ret);(exact ⟨eA, bG HB.out⟩)

def tenorlaw16_noughts.l0 : Nat → List Nat → Int → Option (Bool)
 | 0, _, _ => none
 | k + 1, x0, x3 => if x3 < (x0.length : Int) then (if 0 ≤ x3 then ((api_Bits.f (rdOf (0 : Nat) x0 x3)).bind fun t109 => (if t109 = 0 then (tenorlaw16_noughts.l0 k x0 (wrap64 (x3 + 1))) else (some false))) else (none)) else (some true)
def tenorlaw16_noughts.f (k : Nat) (l0 : List Nat) : Option (Bool) := tenorlaw16_noughts.l0 k l0 0
set_option maxHeartbeats 8000000 in
set_option maxRecDepth 100000 in
theorem tenorlaw16_noughts.calls (k : Nat) (A0 : Option Addr) (c0 : Nat) (l0 : List Nat) (r : Bool) (w : World) (hr0 : Kd.C Kd.flt w A0 l0.length l0) (hc0 : l0.length ≤ c0) (h : tenorlaw16_noughts.f k l0 = some r) :
  Calls Try.prog 36 #[.slice A0 l0.length c0] w fun e w' => e = .returned (.bool r) ∧ Drawn0 w w' := by
 (have HR0 := aM hr0);(have HC0 := aM hc0);(clear hr0 hc0);(have H : (tenorlaw16_noughts.l0 k l0 0) = some r := h);(clear h);(have H' := aM H);(clear H);(go_enter Try.func36, Try.ntmps36);(go_wp2)
 go_loopg [3] k (fun kq v3 w' => ∃ (x3_1 : Int), v3 = .int .i64 x3_1 ∧ Aside0 (tenorlaw16_noughts.l0 kq l0 x3_1 = some r) ∧ Aside0 (kq ≤ k) ∧ Drawn0 w w')
 case atStart => exact ⟨(0), sA, H', ⟨Nat.le_refl _⟩, by repeat (first | exact Drawn0.refl _ | apply Drawn0.step)⟩
 case round =>
  (clear H');(obtain ⟨x3_1, rfl, HA, HK1, ⟨m1, rfl⟩⟩ := hrel)
  cases gk with
  | zero => exact absurd HA.out (by simp [tenorlaw16_noughts.l0])
  | succ k1 =>
   (have H := HA.out);(clear HA);(simp only [tenorlaw16_noughts.l0] at H)
   by_cases c2 : x3_1 < (l0.length : Int)
   rotate_left
   ·rw [if_neg c2] at H
    (have c2b0 : decide (x3_1 < (l0.length : Int)) = false := decide_eq_false c2);(clear c2);(obtain rfl := Option.some.inj H);(go_wp2);(go_ret);(exact ⟨sA, dA⟩)
   (rw [if_pos c2] at H);(have c2b0 : decide (x3_1 < (l0.length : Int)) = true := decide_eq_true c2);(clear c2);(revert H);(refine ifP fun c3 H => ?_);(have c3b0 := decide_eq_true c3);(clear c3);(revert H);(refine bE ?_);(rintro t109 A4 H)
   by_cases c5 : t109 = 0
   rotate_left
   ·rw [if_neg c5] at H
    (have c5b0 : (t109 == 0) = false := beq_eq_false_iff_ne.mpr c5);(have c5b1 : (t109 != 0) = true := bne_iff_ne.mpr c5);(obtain rfl := Option.some.inj H);(have p108 : 0 ≤ (x3_1 : Int) := of_decide_eq_true asA);(have q108 : x3_1 < (l0.length : Int) := of_decide_eq_true asA);(obtain ⟨ad108, e108, hx108_0⟩ := Kd.at_flt HR0.out x3_1 p108 q108);(cases e108);(replace p108 := eq_true p108);(replace q108 := eq_true q108)
    go_wp2_with (first | ((with_reducible refine gate_callee (f := 14) rfl ?_); refine goL (N := some 14) Try.func14 #[.float .f64 (rdOf (0 : Nat) l0 x3_1)] ?_; (with_reducible refine (api_Bits.calls (rdOf (0 : Nat) l0 x3_1) t109 _ A4.out).mono ?_); rintro e w' ⟨rfl, ⟨nd, rfl⟩⟩; refine ⟨_, rfl, ?_⟩))
    (go_ret);(exact ⟨sA, dA⟩)
   (rw [if_pos c5] at H);(have c5b0 : (t109 == 0) = true := beq_iff_eq.mpr c5);(have c5b1 : (t109 != 0) = false := bne_eq_false_iff_eq.mpr c5);(clear c5);(have H' := aM H);(clear H);(have p108 : 0 ≤ (x3_1 : Int) := of_decide_eq_true asA);(have q108 : x3_1 < (l0.length : Int) := of_decide_eq_true asA);(obtain ⟨ad108, e108, hx108_0⟩ := Kd.at_flt HR0.out x3_1 p108 q108);(cases e108);(replace p108 := eq_true p108);(replace q108 := eq_true q108)
   go_wp2_with (first | ((with_reducible refine gate_callee (f := 14) rfl ?_); refine goL (N := some 14) Try.func14 #[.float .f64 (rdOf (0 : Nat) l0 x3_1)] ?_; (with_reducible refine (api_Bits.calls (rdOf (0 : Nat) l0 x3_1) t109 _ A4.out).mono ?_); rintro e w' ⟨rfl, ⟨nd, rfl⟩⟩; refine ⟨_, rfl, ?_⟩))
   go_roundg k1
   case measure => have := HK1.out; omega
   case rel => exact ⟨(wrap64 (x3_1 + 1)), sA, H', ⟨by have := HK1.out; omega⟩, by repeat (first | exact Drawn0.refl _ | apply Drawn0.step)⟩

end
end Go.Proofs.Ythkcphdhmkcdkaa.FK
