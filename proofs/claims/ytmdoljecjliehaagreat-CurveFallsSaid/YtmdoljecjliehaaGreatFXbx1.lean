/- Written by the session's fprint.py out of the translation. -/
import Derived.Test.YtmdoljecjliehaaGreatFXbx0
namespace Go.Proofs.YtmdoljecjliehaaGreat.FXb
noncomputable section
open Go.RowKit Go.Proofs.YtmdoljecjliehaaGreatW.PrintWords Go.Proofs.YtmdoljecjliehaaGreatW.PrintLast Go.Proofs.YtmdoljecjliehaaGreatW.PrintMore
attribute [local go_sem] max2_int min2_int max_two min_two max_three min_three max_four min_four   -- for this text's walks alone
open Go.Proofs.YtmdoljecjliehaaGreat.FX Go.Proofs.YtmdoljecjliehaaGreat.FP Go.Proofs.YtmdoljecjliehaaGreat.FQ Go.Proofs.YtmdoljecjliehaaGreat.FXa
attribute [local go_sem] run_store_float run_neg_float run_fmul run_fadd run_fsub run_fdiv run_ftoi isSome_setCell 
set_option linter.unusedVariables false
set_option linter.unusedSimpArgs false

mutual
def tenorlaw11_CurveFalls.j0 : Nat → Int → Int → Bool → Bool → Int → Int → List Int → List Nat → Option (Bool)
 | 0, _, _, _, _, _, _, _, _ => none
 | k + 1, x1, x2, x7, x39, x102000, x102001, x102002, x102003 => if x39 = true then ((law11_awakeX.f).bind fun t104 => (some t104)) else ((curve_Factor.f k x102000 x102001 x102002 x102003 x102000).bind fun bt105 => (if bt105.2 = 0 then ((api_Bits.f bt105.1).bind fun t107 => ((api_Bits.f (4607182418800017408 : Nat)).bind fun t108 => (tenorlaw11_CurveFalls.j1 k x1 x2 x7 (t107 != t108) x102000 x102001 x102002 x102003))) else (tenorlaw11_CurveFalls.j1 k x1 x2 x7 true x102000 x102001 x102002 x102003)))
def tenorlaw11_CurveFalls.j1 : Nat → Int → Int → Bool → Bool → Int → Int → List Int → List Nat → Option (Bool)
 | 0, _, _, _, _, _, _, _, _ => none
 | k + 1, x1, x2, x7, x55, x102000, x102001, x102002, x102003 => if x55 = true then (some false) else (tenorlaw11_CurveFalls.l0 k x1 x2 x7 0 x102000 x102001 x102002 x102003)
def tenorlaw11_CurveFalls.l0 : Nat → Int → Int → Bool → Int → Int → Int → List Int → List Nat → Option (Bool)
 | 0, _, _, _, _, _, _, _, _ => none
 | k + 1, x1, x2, x7, x11, x102000, x102001, x102002, x102003 => if x11 < (x102002.length : Int) then (if 0 ≤ x11 then ((curve_Factor.f k x102000 x102001 x102002 x102003 (rd x102002 x11)).bind fun bt110 => (if bt110.2 = 0 then ((api_Bits.f bt110.1).bind fun t112 => (if x11 < (x102003.length : Int) then ((api_Bits.f (rdOf (0 : Nat) x102003 x11)).bind fun t114 => (if t112 = t114 then (tenorlaw11_CurveFalls.l0 k x1 x2 x7 (wrap64 (x11 + 1)) x102000 x102001 x102002 x102003) else (some false))) else (none))) else (some false))) else (none)) else ((curve_Factor.f k x102000 x102001 x102002 x102003 x1).bind fun bt115 => ((curve_Factor.f k x102000 x102001 x102002 x102003 x2).bind fun bt117 => (if bt115.2 = 0 then (if bt117.2 = 0 then (tenorlaw11_CurveFalls.j3 k x7 bt115.1 bt117.1 (decide (x1 > x2)) x102000 x102001 x102002 x102003) else (tenorlaw11_CurveFalls.j3 k x7 bt115.1 bt117.1 true x102000 x102001 x102002 x102003)) else (tenorlaw11_CurveFalls.j3 k x7 bt115.1 bt117.1 true x102000 x102001 x102002 x102003))))
def tenorlaw11_CurveFalls.j3 : Nat → Bool → Nat → Nat → Bool → Int → Int → List Int → List Nat → Option (Bool)
 | 0, _, _, _, _, _, _, _, _ => none
 | k + 1, x7, x14, x16, x108, x102000, x102001, x102002, x102003 => if x108 = true then ((law11_awakeX.f).bind fun t119 => (some t119)) else (if ((FloatKind.f64.format.order x14 (0 : Nat) == some .gt) = true) then (if ((FloatKind.f64.format.order x16 (0 : Nat) == some .gt) = true) then (if x7 = true then (if (FloatKind.f64.format.order x14 (4607182418800017408 : Nat) == some .gt) = true then (some false) else (if (FloatKind.f64.format.order x16 (4607182418800017408 : Nat) == some .gt) = true then (some false) else (if x102001 = 4 then ((law11_awakeX.f).bind fun t120 => (some t120)) else (if (FloatKind.f64.format.order x14 x16 == some .gt || FloatKind.f64.format.order x14 x16 == some .eq) = true then ((law11_awakeX.f).bind fun t121 => (some t121)) else (some false))))) else ((law11_awakeX.f).bind fun t122 => (some t122))) else (some false)) else (some false))
end
def tenorlaw11_CurveFalls.f (k : Nat) (a0_0 : Int) (a0_1 : Int) (l0_2 : List Int) (l0_3 : List Nat) (a1 : Int) (a2 : Int) : Option (Bool) := (curve_Falls.f k a0_0 a0_1 l0_2 l0_3).bind fun bt102 => (if bt102.2 = 0 then (if (l0_2.length : Int) > 255 then (tenorlaw11_CurveFalls.j0 k a1 a2 bt102.1 true a0_0 a0_1 l0_2 l0_3) else (tenorlaw11_CurveFalls.j0 k a1 a2 bt102.1 ((l0_2.length : Int) != (l0_3.length : Int)) a0_0 a0_1 l0_2 l0_3)) else (tenorlaw11_CurveFalls.j0 k a1 a2 bt102.1 true a0_0 a0_1 l0_2 l0_3))
def tenorlaw11_CurveFalls.T10 : Bool × List (List Nat × List Nat) := (true, [([], []), ([], []), ([1], [1]), ([], []), ([2, 3], [2, 3]), ([4], [4]), ([0, 5], [0, 5]), ([6], [6]), ([7], [7]), ([7], [7]), ([8, 6, 0, 1, 2, 3, 4, 5, 6, 7, 8], [8]), ([9, 10, 0, 1, 2, 3, 4, 5, 6, 7, 8, 9, 10], [9])])
def tenorlaw11_CurveFalls.B10 : List Nat := [0, 0, 2, 0, 14, 30, 63, 127, 255, 255, 511, 2047]
theorem tenorlaw11_CurveFalls.tab10 : rtab .any (opsOf Tryz.f3 10) = tenorlaw11_CurveFalls.T10 := by kernel_rfl
theorem tenorlaw11_CurveFalls.bits10 : waitsOk tenorlaw11_CurveFalls.T10.2 tenorlaw11_CurveFalls.B10 = true := by kernel_rfl
def tenorlaw11_CurveFalls.T11 : Bool × List (List Nat × List Nat) := (true, [([], []), ([0], [0]), ([1], [1]), ([2], [2]), ([3, 2, 2], [2, 3]), ([2], [2]), ([5, 2], [2, 5]), ([2], [2]), ([6, 7, 2], [2, 6, 7]), ([8, 2], [2, 8]), ([9, 4, 2], [2, 9]), ([4, 10, 2], [2, 4, 10]), ([2, 11], [2, 11])])
def tenorlaw11_CurveFalls.B11 : List Nat := [0, 1, 3, 7, 15, 7, 39, 7, 231, 487, 1023, 2047, 4095]
theorem tenorlaw11_CurveFalls.tab11 : rtab .any (opsOf Tryz.f3 11) = tenorlaw11_CurveFalls.T11 := by kernel_rfl
theorem tenorlaw11_CurveFalls.bits11 : waitsOk tenorlaw11_CurveFalls.T11.2 tenorlaw11_CurveFalls.B11 = true := by kernel_rfl
set_option maxHeartbeats 8000000 in
set_option maxRecDepth 100000 in
theorem tenorlaw11_CurveFalls.calls (k : Nat) (a0_0 : Int) (a0_1 : Int) (A0_2 : Option Addr) (c0_2 : Nat) (l0_2 : List Int) (A0_3 : Option Addr) (c0_3 : Nat) (l0_3 : List Nat) (a1 : Int) (a2 : Int) (r : Bool) (w : World) (hr0_2 : Kd.C (Kd.int .i64) w A0_2 l0_2.length l0_2) (hc0_2 : l0_2.length ≤ c0_2) (hr0_3 : Kd.C Kd.flt w A0_3 l0_3.length l0_3) (hc0_3 : l0_3.length ≤ c0_3) (h : tenorlaw11_CurveFalls.f k a0_0 a0_1 l0_2 l0_3 a1 a2 = some r) :
  Calls Tryz.prog 3 #[.agg #[.int .i64 a0_0, .int .i64 a0_1, .slice A0_2 l0_2.length c0_2, .slice A0_3 l0_3.length c0_3], .int .i64 a1, .int .i64 a2] w fun e w' => e = .returned (.bool r) ∧ Below w.heap.size w w' := by
 (have hu25 := Tryz.underlying25);(have HR0_2 := aM hr0_2);(have HC0_2 := aM hc0_2);(clear hr0_2 hc0_2);(have HR0_3 := aM hr0_3);(have HC0_3 := aM hc0_3);(clear hr0_3 hc0_3);(have HB := aM (Below.refl w.heap.size w));(have H : ((curve_Falls.f k a0_0 a0_1 l0_2 l0_3).bind fun bt102 => (if bt102.2 = 0 then (if (l0_2.length : Int) > 255 then (tenorlaw11_CurveFalls.j0 k a1 a2 bt102.1 true a0_0 a0_1 l0_2 l0_3) else (tenorlaw11_CurveFalls.j0 k a1 a2 bt102.1 ((l0_2.length : Int) != (l0_3.length : Int)) a0_0 a0_1 l0_2 l0_3)) else (tenorlaw11_CurveFalls.j0 k a1 a2 bt102.1 true a0_0 a0_1 l0_2 l0_3))) = some r := h);(clear h);(revert H);(refine bE ?_);(rintro ⟨t102, t103⟩ A4 H)
 (try dsimp only at H)
 (have HC5 := aM H);(clear H);(go_enter Tryz.func3, Tryz.ntmps3)
 go_upto_region 2 with (first | ((with_reducible refine gD 3 rfl ?_); (try (refine gate_guard (by rfl) ?_; dsimp only)); refine boxW (N := 3) #[.int .i64 a0_0, .int .i64 a0_1, .slice A0_2 l0_2.length c0_2, .slice A0_3 l0_3.length c0_3] 25 HB ?_; clear HB; intro gb101 w6 BK101 HB GW101; have GE101 := GW101; obtain ⟨hcz7_0, hcz7_1, hcz7_2, hcz7_3, hfz7_0, hfz7_1, hfz7_2, hfz7_3⟩ := cz4 BK101.out) | ((with_reducible refine gate_callee (f := 15) rfl ?_); refine goL (N := some 20) Tryz.func15 #[.agg #[.int .i64 a0_0, .int .i64 a0_1, .slice A0_2 l0_2.length c0_2, .slice A0_3 l0_3.length c0_3]] ?_; (with_reducible refine (curve_Falls.calls k a0_0 a0_1 _ _ l0_2 _ _ l0_3 t102 t103 _ ?side1 ?side2 ?side3 ?side4 A4.out).mono ?_); (case side1 => exact cA (Kd.C_below HR0_2.out HB.out)); (case side2 => exact HC0_2.out); (case side3 => exact cA (Kd.C_below HR0_3.out HB.out)); (case side4 => exact HC0_3.out); rintro e w8 ⟨rfl, hb⟩; refine ⟨_, rfl, ?_⟩; replace BK101 := kB BK101 hb; replace HB := gB HB hb; (try clear hb); (try clear hb2); (try clear hk); (try clear hi)))
 (try simp only [Act.put, List.setIfInBounds_toArray, List.set_cons_zero, List.set_cons_succ])
 go_cut [39] (fun v39 wc => ∃ (kq : Nat) (x39_4 : Bool), v39 = .bool x39_4 ∧ Aside0 (tenorlaw11_CurveFalls.j0 kq a1 a2 t102 x39_4 a0_0 a0_1 l0_2 l0_3 = some r) ∧ Aside0 (kq ≤ k) ∧ Aside0 (wc.heap[gb101]? = some (.cells #[.int .i64 a0_0, .int .i64 a0_1, (.slice A0_2 l0_2.length c0_2), (.slice A0_3 l0_3.length c0_3)] 25 (0, 0))) ∧ Aside0 (Below w.heap.size w wc))
 case first =>
  (have H := HC5.out);(clear HC5)
  by_cases c9 : t103 = 0
  rotate_left
  ·rw [if_neg c9] at H
   (have c9b0 : (t103 == 0) = false := beq_eq_false_iff_ne.mpr c9);(have c9b1 : (t103 != 0) = true := bne_iff_ne.mpr c9)
   (first | rw [c9b0] | (simp only [i64_w, i32_w]; rw [c9b0]) | skip)
   (have H' := aM H);(clear H);(go_wp2);(go_meet)
   case rel => exact ⟨_, (true), sA, H', ⟨by first | omega | exact Nat.le_refl _⟩, ⟨kA BK101.out⟩, ⟨bG HB.out⟩⟩
  (rw [if_pos c9] at H);(have c9b0 : (t103 == 0) = true := beq_iff_eq.mpr c9);(have c9b1 : (t103 != 0) = false := bne_eq_false_iff_eq.mpr c9);(clear c9)
  (first | rw [c9b0] | (simp only [i64_w, i32_w]; rw [c9b0]) | skip)
  by_cases c10 : (l0_2.length : Int) > 255
  ·rw [if_pos c10] at H
   (have c10b0 : decide (255 < (l0_2.length : Int)) = true := decide_eq_true c10);(have c10b1 : decide (255 < l0_2.length) = true := decide_eq_true (by omega));(clear c10);(have H' := aM H);(clear H);(obtain ⟨hcz11_0, hcz11_1, hcz11_2, hcz11_3, hfz11_0, hfz11_1, hfz11_2, hfz11_3⟩ := cz4 BK101.out);(go_wp2);(go_meet)
   case rel => exact ⟨_, (true), sA, H', ⟨by first | omega | exact Nat.le_refl _⟩, ⟨kA BK101.out⟩, ⟨bG HB.out⟩⟩
  (rw [if_neg c10] at H);(have c10b0 : decide (255 < (l0_2.length : Int)) = false := decide_eq_false c10);(have c10b1 : decide (255 < l0_2.length) = false := decide_eq_false (by omega));(clear c10);(have H' := aM H);(clear H);(obtain ⟨hcz12_0, hcz12_1, hcz12_2, hcz12_3, hfz12_0, hfz12_1, hfz12_2, hfz12_3⟩ := cz4 BK101.out);(go_wp2);(go_meet)
  case rel => exact ⟨_, (((l0_2.length : Int) != (l0_3.length : Int))), sA, H', ⟨by first | omega | exact Nat.le_refl _⟩, ⟨kA BK101.out⟩, ⟨bG HB.out⟩⟩
 case rest =>
  (clear HC5);(try clear c1);(try clear p2);(try clear c3);(try clear c9);(try clear c9b0);(try clear c9b1);(try clear c10);(try clear c10b0);(try clear c10b1);(try clear hcz11_0);(try clear hcz11_1);(try clear hcz11_2);(try clear hcz11_3);(try clear hcz12_0);(try clear hcz12_1);(try clear hcz12_2);(try clear hcz12_3);(try clear hcz7_0);(try clear hcz7_1);(try clear hcz7_2);(try clear hcz7_3);(try clear hfz11_0);(try clear hfz11_1);(try clear hfz11_2);(try clear hfz11_3);(try clear hfz12_0);(try clear hfz12_1);(try clear hfz12_2);(try clear hfz12_3);(try clear hfz7_0);(try clear hfz7_1);(try clear hfz7_2);(try clear hfz7_3);(obtain ⟨kq, x39_4, rfl, HA, HJ4, BK101, HB⟩ := hcut)
  cases kq with
  | zero => exact absurd HA.out (by simp [tenorlaw11_CurveFalls.j0])
  | succ kj4 =>
   (have H := HA.out);(clear HA);(simp only [tenorlaw11_CurveFalls.j0] at H)
   by_cases c13 : x39_4 = true
   ·subst c13
    (have H1 : ((law11_awakeX.f).bind fun t104 => (some t104)) = some r := by rw [if_pos rfl] at H; exact H);(clear H);(have H := H1);(clear H1);(revert H);(refine bE ?_);(rintro t104 A14 H);(obtain rfl := Option.some.inj H)
    go_wp2_with (first | ((with_reducible refine gate_callee (f := 16) rfl ?_); refine goL (N := some 40) Tryz.func16 #[] ?_; (with_reducible refine (law11_awakeX.calls  t104 _ A14.out).mono ?_); rintro e w15 ⟨rfl, hb⟩; refine ⟨_, rfl, ?_⟩; replace BK101 := kB BK101 hb; replace HB := gB HB hb; (try clear hb); (try clear hb2); (try clear hk); (try clear hi)))
    (go_ret);(exact ⟨eA, bG HB.out⟩)
   (replace c13 := Bool.eq_false_iff.mpr c13);(subst c13);(have H1 : ((curve_Factor.f kj4 a0_0 a0_1 l0_2 l0_3 a0_0).bind fun bt105 => (if bt105.2 = 0 then ((api_Bits.f bt105.1).bind fun t107 => ((api_Bits.f (4607182418800017408 : Nat)).bind fun t108 => (tenorlaw11_CurveFalls.j1 kj4 a1 a2 t102 (t107 != t108) a0_0 a0_1 l0_2 l0_3))) else (tenorlaw11_CurveFalls.j1 kj4 a1 a2 t102 true a0_0 a0_1 l0_2 l0_3))) = some r := by rw [if_neg (show ¬ (false = true) by decide)] at H; exact H);(clear H);(have H := H1);(clear H1);(revert H);(refine bE ?_);(rintro ⟨t105, t106⟩ A16 H)
   (try dsimp only at H)
   (have HC17 := aM H);(clear H);(obtain ⟨hcz18_0, hcz18_1, hcz18_2, hcz18_3, hfz18_0, hfz18_1, hfz18_2, hfz18_3⟩ := cz4 BK101.out)
   go_upto_region 5 with (first | ((with_reducible refine gate_callee (f := 17) rfl ?_); refine goL (N := some 45) Tryz.func17 #[.agg #[.int .i64 a0_0, .int .i64 a0_1, .slice A0_2 l0_2.length c0_2, .slice A0_3 l0_3.length c0_3], .int .i64 a0_0] ?_; (with_reducible refine (curve_Factor.calls kj4 a0_0 a0_1 _ _ l0_2 _ _ l0_3 a0_0 t105 t106 _ ?side1 ?side2 ?side3 ?side4 A16.out).mono ?_); (case side1 => exact cA (Kd.C_below HR0_2.out HB.out)); (case side2 => exact HC0_2.out); (case side3 => exact cA (Kd.C_below HR0_3.out HB.out)); (case side4 => exact HC0_3.out); rintro e w19 ⟨rfl, hb⟩; refine ⟨_, rfl, ?_⟩; replace BK101 := kB BK101 hb; replace HB := gB HB hb; (try clear hb); (try clear hb2); (try clear hk); (try clear hi)))
   (try simp only [Act.put, List.setIfInBounds_toArray, List.set_cons_zero, List.set_cons_succ])
   go_cut [55] (fun v55 wc => ∃ (kq : Nat) (x55_16 : Bool), v55 = .bool x55_16 ∧ Aside0 (tenorlaw11_CurveFalls.j1 kq a1 a2 t102 x55_16 a0_0 a0_1 l0_2 l0_3 = some r) ∧ Aside0 (kq ≤ kj4) ∧ Aside0 (wc.heap[gb101]? = some (.cells #[.int .i64 a0_0, .int .i64 a0_1, (.slice A0_2 l0_2.length c0_2), (.slice A0_3 l0_3.length c0_3)] 25 (0, 0))) ∧ Aside0 (Below w.heap.size w wc))
   case first =>
    (have H := HC17.out);(clear HC17)
    by_cases c20 : t106 = 0
    rotate_left
    ·rw [if_neg c20] at H
     (have c20b0 : (t106 == 0) = false := beq_eq_false_iff_ne.mpr c20);(have c20b1 : (t106 != 0) = true := bne_iff_ne.mpr c20)
     (first | rw [c20b0] | (simp only [i64_w, i32_w]; rw [c20b0]) | skip)
     (have H' := aM H);(clear H);(go_wp2);(go_meet)
     case rel => exact ⟨_, (true), sA, H', ⟨by have := HJ4.out; first | omega | exact Nat.le_refl _⟩, ⟨kA BK101.out⟩, ⟨bG HB.out⟩⟩
    (rw [if_pos c20] at H);(have c20b0 : (t106 == 0) = true := beq_iff_eq.mpr c20);(have c20b1 : (t106 != 0) = false := bne_eq_false_iff_eq.mpr c20);(clear c20)
    (first | rw [c20b0] | (simp only [i64_w, i32_w]; rw [c20b0]) | skip)
    (revert H);(refine bE ?_);(rintro t107 A21 H);(revert H);(refine bE ?_);(rintro t108 A22 H);(have H' := aM H);(clear H)
    go_wp2_with (first | (go_at_call 18; (with_reducible refine (api_Bits.calls t105 t107 _ A21.out).mono ?_); rintro e w' ⟨rfl, ⟨nd, rfl⟩⟩) | (go_at_call 18; (with_reducible refine (api_Bits.calls (4607182418800017408 : Nat) t108 _ A22.out).mono ?_); rintro e w' ⟨rfl, ⟨nd, rfl⟩⟩))
    go_meet
    case rel => exact ⟨_, ((t107 != t108)), sA, H', ⟨by have := HJ4.out; first | omega | exact Nat.le_refl _⟩, ⟨kA BK101.out⟩, ⟨bG HB.out⟩⟩
   case rest =>
    (clear HC17);(try clear c1);(try clear c2);(try clear p2);(try clear c3);(try clear c9);(try clear c9b0);(try clear c9b1);(try clear c10);(try clear c10b0);(try clear c10b1);(try clear c13);(try clear c15);(try clear c16);(try clear c17);(try clear c20);(try clear c20b0);(try clear c20b1);(try clear hcz11_0);(try clear hcz11_1);(try clear hcz11_2);(try clear hcz11_3);(try clear hcz12_0);(try clear hcz12_1);(try clear hcz12_2);(try clear hcz12_3);(try clear hcz18_0);(try clear hcz18_1);(try clear hcz18_2);(try clear hcz18_3);(try clear hcz7_0);(try clear hcz7_1);(try clear hcz7_2);(try clear hcz7_3);(try clear hfz11_0);(try clear hfz11_1);(try clear hfz11_2);(try clear hfz11_3);(try clear hfz12_0);(try clear hfz12_1);(try clear hfz12_2);(try clear hfz12_3);(try clear hfz18_0);(try clear hfz18_1);(try clear hfz18_2);(try clear hfz18_3);(try clear hfz7_0);(try clear hfz7_1);(try clear hfz7_2);(try clear hfz7_3);(try clear p2);(obtain ⟨kq, x55_16, rfl, HA, HJ16, BK101, HB⟩ := hcut)
    cases kq with
    | zero => exact absurd HA.out (by simp [tenorlaw11_CurveFalls.j1])
    | succ kj16 =>
     (have H := HA.out);(clear HA);(simp only [tenorlaw11_CurveFalls.j1] at H)
     by_cases c23 : x55_16 = true
     ·subst c23
      (have H1 : (some false) = some r := by rw [if_pos rfl] at H; exact H);(clear H);(have H := H1);(clear H1);(obtain rfl := Option.some.inj H);(go_wp2);(go_ret);(exact ⟨eA, bG HB.out⟩)
     (replace c23 := Bool.eq_false_iff.mpr c23);(subst c23);(have H1 : (tenorlaw11_CurveFalls.l0 kj16 a1 a2 t102 0 a0_0 a0_1 l0_2 l0_3) = some r := by rw [if_neg (show ¬ (false = true) by decide)] at H; exact H);(clear H);(have H := H1);(clear H1);(have H' := aM H);(clear H);(go_wp2)
     go_loopg [11] kj16 (fun kq v11 w' => ∃ (x11_3 : Int), v11 = .int .i64 x11_3 ∧ Aside0 (tenorlaw11_CurveFalls.l0 kq a1 a2 t102 x11_3 a0_0 a0_1 l0_2 l0_3 = some r) ∧ Aside0 (kq ≤ kj16) ∧ Aside0 (w'.heap[gb101]? = some (.cells #[.int .i64 a0_0, .int .i64 a0_1, (.slice A0_2 l0_2.length c0_2), (.slice A0_3 l0_3.length c0_3)] 25 (0, 0))) ∧ Aside0 (Below w.heap.size w w'))
     case atStart => exact ⟨(0), sA, H', ⟨Nat.le_refl _⟩, ⟨kA BK101.out⟩, ⟨bG HB.out⟩⟩
     case round =>
      (clear H');(try clear c1);(try clear c2);(try clear p2);(try clear c3);(try clear c9);(try clear c9b0);(try clear c9b1);(try clear c10);(try clear c10b0);(try clear c10b1);(try clear c13);(try clear c15);(try clear c16);(try clear c17);(try clear c20);(try clear c20b0);(try clear c20b1);(try clear c23);(try clear hcz11_0);(try clear hcz11_1);(try clear hcz11_2);(try clear hcz11_3);(try clear hcz12_0);(try clear hcz12_1);(try clear hcz12_2);(try clear hcz12_3);(try clear hcz18_0);(try clear hcz18_1);(try clear hcz18_2);(try clear hcz18_3);(try clear hcz7_0);(try clear hcz7_1);(try clear hcz7_2);(try clear hcz7_3);(try clear hfz11_0);(try clear hfz11_1);(try clear hfz11_2);(try clear hfz11_3);(try clear hfz12_0);(try clear hfz12_1);(try clear hfz12_2);(try clear hfz12_3);(try clear hfz18_0);(try clear hfz18_1);(try clear hfz18_2);(try clear hfz18_3);(try clear hfz7_0);(try clear hfz7_1);(try clear hfz7_2);(try clear hfz7_3);(try clear p2);(obtain ⟨x11_3, rfl, HA, HK3, BK101, HB⟩ := hrel)
      cases gk with
      | zero => exact absurd HA.out (by simp [tenorlaw11_CurveFalls.l0])
      | succ k3 =>
       (have H := HA.out);(clear HA);(simp only [tenorlaw11_CurveFalls.l0] at H)
       by_cases c24 : x11_3 < (l0_2.length : Int)
       rotate_left
       ·rw [if_neg c24] at H
        (have c24b0 : decide (x11_3 < (l0_2.length : Int)) = false := decide_eq_false c24);(clear c24);(revert H);(refine bE ?_);(rintro ⟨t115, t116⟩ A44 H)
        (try dsimp only at H)
        (revert H);(refine bE ?_);(rintro ⟨t117, t118⟩ A45 H)
        (try dsimp only at H)
        (have HC46 := aM H);(clear H);(obtain ⟨hcz47_0, hcz47_1, hcz47_2, hcz47_3, hfz47_0, hfz47_1, hfz47_2, hfz47_3⟩ := cz4 BK101.out)
        go_upto_region 15 with (first | ((with_reducible refine gate_callee (f := 17) rfl ?_); refine goL (N := some 89) Tryz.func17 #[.agg #[.int .i64 a0_0, .int .i64 a0_1, .slice A0_2 l0_2.length c0_2, .slice A0_3 l0_3.length c0_3], .int .i64 a1] ?_; (with_reducible refine (curve_Factor.calls k3 a0_0 a0_1 _ _ l0_2 _ _ l0_3 a1 t115 t116 _ ?side1 ?side2 ?side3 ?side4 A44.out).mono ?_); (case side1 => exact cA (Kd.C_below HR0_2.out HB.out)); (case side2 => exact HC0_2.out); (case side3 => exact cA (Kd.C_below HR0_3.out HB.out)); (case side4 => exact HC0_3.out); rintro e w48 ⟨rfl, hb⟩; refine ⟨_, rfl, ?_⟩; replace BK101 := kB BK101 hb; replace HB := gB HB hb; (try clear hb); (try clear hb2); (try clear hk); (try clear hi); obtain ⟨hcz49_0, hcz49_1, hcz49_2, hcz49_3, hfz49_0, hfz49_1, hfz49_2, hfz49_3⟩ := cz4 BK101.out) | ((with_reducible refine gate_callee (f := 17) rfl ?_); refine goL (N := some 95) Tryz.func17 #[.agg #[.int .i64 a0_0, .int .i64 a0_1, .slice A0_2 l0_2.length c0_2, .slice A0_3 l0_3.length c0_3], .int .i64 a2] ?_; (with_reducible refine (curve_Factor.calls k3 a0_0 a0_1 _ _ l0_2 _ _ l0_3 a2 t117 t118 _ ?side1 ?side2 ?side3 ?side4 A45.out).mono ?_); (case side1 => exact cA (Kd.C_below HR0_2.out HB.out)); (case side2 => exact HC0_2.out); (case side3 => exact cA (Kd.C_below HR0_3.out HB.out)); (case side4 => exact HC0_3.out); rintro e w50 ⟨rfl, hb⟩; refine ⟨_, rfl, ?_⟩; replace BK101 := kB BK101 hb; replace HB := gB HB hb; (try clear hb); (try clear hb2); (try clear hk); (try clear hi)))
        (try simp only [Act.put, List.setIfInBounds_toArray, List.set_cons_zero, List.set_cons_succ])
        go_cut [108] (fun v108 wc => ∃ (kq : Nat) (x108_45 : Bool), v108 = .bool x108_45 ∧ Aside0 (tenorlaw11_CurveFalls.j3 kq t102 t115 t117 x108_45 a0_0 a0_1 l0_2 l0_3 = some r) ∧ Aside0 (kq ≤ k3) ∧ Aside0 (wc.heap[gb101]? = some (.cells #[.int .i64 a0_0, .int .i64 a0_1, (.slice A0_2 l0_2.length c0_2), (.slice A0_3 l0_3.length c0_3)] 25 (0, 0))) ∧ Aside0 (Below w.heap.size w wc))
        case first =>
         (have H := HC46.out);(clear HC46)
         by_cases c51 : t116 = 0
         rotate_left
         ·rw [if_neg c51] at H
          (have c51b0 : (t116 == 0) = false := beq_eq_false_iff_ne.mpr c51);(have c51b1 : (t116 != 0) = true := bne_iff_ne.mpr c51)
          (first | rw [c51b0] | (simp only [i64_w, i32_w]; rw [c51b0]) | skip)
          (have H' := aM H);(clear H);(go_wp2);(go_meet)
          case rel => exact ⟨_, (true), sA, H', ⟨by have := HJ4.out; have := HJ16.out; have := HK3.out; first | omega | exact Nat.le_refl _⟩, ⟨kA BK101.out⟩, ⟨bG HB.out⟩⟩
         (rw [if_pos c51] at H);(have c51b0 : (t116 == 0) = true := beq_iff_eq.mpr c51);(have c51b1 : (t116 != 0) = false := bne_eq_false_iff_eq.mpr c51);(clear c51)
         (first | rw [c51b0] | (simp only [i64_w, i32_w]; rw [c51b0]) | skip)
         by_cases c52 : t118 = 0
         rotate_left
         ·rw [if_neg c52] at H
          (have c52b0 : (t118 == 0) = false := beq_eq_false_iff_ne.mpr c52);(have c52b1 : (t118 != 0) = true := bne_iff_ne.mpr c52);(have H' := aM H);(clear H);(go_wp2);(go_meet)
          case rel => exact ⟨_, (true), sA, H', ⟨by have := HJ4.out; have := HJ16.out; have := HK3.out; first | omega | exact Nat.le_refl _⟩, ⟨kA BK101.out⟩, ⟨bG HB.out⟩⟩
         (rw [if_pos c52] at H);(have c52b0 : (t118 == 0) = true := beq_iff_eq.mpr c52);(have c52b1 : (t118 != 0) = false := bne_eq_false_iff_eq.mpr c52);(clear c52);(have H' := aM H);(clear H);(go_wp2);(go_meet)
         case rel => exact ⟨_, (decide (a1 > a2)), sA, H', ⟨by have := HJ4.out; have := HJ16.out; have := HK3.out; first | omega | exact Nat.le_refl _⟩, ⟨kA BK101.out⟩, ⟨bG HB.out⟩⟩
        case rest =>
         (clear HC46);(try clear c1);(try clear p1);(try clear q1);(try clear hx1);(try clear c2);(try clear p2);(try clear c3);(try clear c5);(try clear p6);(try clear p10);(try clear q10);(try clear hx10);(try clear p11);(try clear q11);(try clear hx11);(try clear c17);(try clear c18);(try clear c24);(try clear c24b0);(try clear c25);(try clear c27);(try clear c27b0);(try clear c27b1);(try clear c29);(try clear c31);(try clear c31b0);(try clear c31b1);(try clear c51);(try clear c51b0);(try clear c51b1);(try clear c52);(try clear c52b0);(try clear c52b1);(try clear hcz36_0);(try clear hcz36_1);(try clear hcz36_2);(try clear hcz36_3);(try clear hcz40_0);(try clear hcz40_1);(try clear hcz40_2);(try clear hcz40_3);(try clear hcz47_0);(try clear hcz47_1);(try clear hcz47_2);(try clear hcz47_3);(try clear hcz49_0);(try clear hcz49_1);(try clear hcz49_2);(try clear hcz49_3);(try clear hfz36_0);(try clear hfz36_1);(try clear hfz36_2);(try clear hfz36_3);(try clear hfz40_0);(try clear hfz40_1);(try clear hfz40_2);(try clear hfz40_3);(try clear hfz47_0);(try clear hfz47_1);(try clear hfz47_2);(try clear hfz47_3);(try clear hfz49_0);(try clear hfz49_1);(try clear hfz49_2);(try clear hfz49_3);(try clear hx109_0);(try clear hx113_0);(try clear p109);(try clear p113);(try clear q109);(try clear q113);(obtain ⟨kq, x108_45, rfl, HA, HJ45, BK101, HB⟩ := hcut)
         cases kq with
         | zero => exact absurd HA.out (by simp [tenorlaw11_CurveFalls.j3])
         | succ kj45 =>
          (have H := HA.out);(clear HA);(simp only [tenorlaw11_CurveFalls.j3] at H)
          by_cases c53 : x108_45 = true
          ·subst c53
           (have H1 : ((law11_awakeX.f).bind fun t119 => (some t119)) = some r := by rw [if_pos rfl] at H; exact H);(clear H);(have H := H1);(clear H1);(revert H);(refine bE ?_);(rintro t119 A54 H);(obtain rfl := Option.some.inj H)
           go_wp2_with (first | ((with_reducible refine gate_callee (f := 16) rfl ?_); refine goL (N := some 109) Tryz.func16 #[] ?_; (with_reducible refine (law11_awakeX.calls  t119 _ A54.out).mono ?_); rintro e w55 ⟨rfl, hb⟩; refine ⟨_, rfl, ?_⟩; replace BK101 := kB BK101 hb; replace HB := gB HB hb; (try clear hb); (try clear hb2); (try clear hk); (try clear hi)))
           (go_ret);(exact ⟨eA, bG HB.out⟩)
          (replace c53 := Bool.eq_false_iff.mpr c53);(subst c53);(have H1 : (if ((FloatKind.f64.format.order t115 (0 : Nat) == some .gt) = true) then (if ((FloatKind.f64.format.order t117 (0 : Nat) == some .gt) = true) then (if t102 = true then (if (FloatKind.f64.format.order t115 (4607182418800017408 : Nat) == some .gt) = true then (some false) else (if (FloatKind.f64.format.order t117 (4607182418800017408 : Nat) == some .gt) = true then (some false) else (if a0_1 = 4 then ((law11_awakeX.f).bind fun t120 => (some t120)) else (if (FloatKind.f64.format.order t115 t117 == some .gt || FloatKind.f64.format.order t115 t117 == some .eq) = true then ((law11_awakeX.f).bind fun t121 => (some t121)) else (some false))))) else ((law11_awakeX.f).bind fun t122 => (some t122))) else (some false)) else (some false)) = some r := by rw [if_neg (show ¬ (false = true) by decide)] at H; exact H);(clear H);(have H := H1);(clear H1)
          by_cases c56 : ((FloatKind.f64.format.order t115 (0 : Nat) == some .gt) = true)
          rotate_left
          ·rw [if_neg c56] at H
           have c56b0 : (FloatKind.f64.format.order t115 (0 : Nat) == some .gt) = false := by simpa using c56
           (try (have c56b1 : decide (FloatKind.f64.format.order t115 (0 : Nat) = some .gt) = false := by simpa using c56))
           (try (have c56b2 : (FloatKind.f64.format.order t115 (0 : Nat) == some .gt) = false := by simpa using c56))
           (try (have c56b3 : ¬ (FloatKind.f64.format.order t115 (0 : Nat) = some .gt) := by simpa using c56))
           (clear c56);(obtain rfl := Option.some.inj H);(go_wp2);(go_ret);(exact ⟨eA, bG HB.out⟩)
          (rw [if_pos c56] at H);(have c56b0 : (FloatKind.f64.format.order t115 (0 : Nat) == some .gt) = true := c56)
          (try (have c56b1 : decide (FloatKind.f64.format.order t115 (0 : Nat) = some .gt) = true := by simpa using c56))
          (try (have c56b2 : (FloatKind.f64.format.order t115 (0 : Nat) == some .gt) = true := by simpa using c56))
          clear c56
          by_cases c57 : ((FloatKind.f64.format.order t117 (0 : Nat) == some .gt) = true)
          rotate_left
          ·rw [if_neg c57] at H
           have c57b0 : (FloatKind.f64.format.order t117 (0 : Nat) == some .gt) = false := by simpa using c57
           (try (have c57b1 : decide (FloatKind.f64.format.order t117 (0 : Nat) = some .gt) = false := by simpa using c57))
           (try (have c57b2 : (FloatKind.f64.format.order t117 (0 : Nat) == some .gt) = false := by simpa using c57))
           (try (have c57b3 : ¬ (FloatKind.f64.format.order t117 (0 : Nat) = some .gt) := by simpa using c57))
           (clear c57);(obtain rfl := Option.some.inj H);(go_wp2);(go_ret);(exact ⟨eA, bG HB.out⟩)
          (rw [if_pos c57] at H);(have c57b0 : (FloatKind.f64.format.order t117 (0 : Nat) == some .gt) = true := c57)
          (try (have c57b1 : decide (FloatKind.f64.format.order t117 (0 : Nat) = some .gt) = true := by simpa using c57))
          (try (have c57b2 : (FloatKind.f64.format.order t117 (0 : Nat) == some .gt) = true := by simpa using c57))
          clear c57
          by_cases c58 : t102 = true
          rotate_left
          ·replace c58 := Bool.eq_false_iff.mpr c58
           (subst c58);(have H1 : ((law11_awakeX.f).bind fun t122 => (some t122)) = some r := by rw [if_neg (show ¬ (false = true) by decide)] at H; exact H);(clear H);(have H := H1);(clear H1);(revert H);(refine bE ?_);(rintro t122 A70 H);(obtain rfl := Option.some.inj H)
           go_wp2_with (first | (go_at_call 16; (with_reducible refine (law11_awakeX.calls  t122 _ A70.out).mono ?_); rintro e w71 ⟨rfl, hb⟩; replace BK101 := kB BK101 hb; replace HB := gB HB hb; (try clear hb); (try clear hb2); (try clear hk); (try clear hi)))
           (go_ret);(exact ⟨eA, bG HB.out⟩)
          (subst c58);(have H1 : (if (FloatKind.f64.format.order t115 (4607182418800017408 : Nat) == some .gt) = true then (some false) else (if (FloatKind.f64.format.order t117 (4607182418800017408 : Nat) == some .gt) = true then (some false) else (if a0_1 = 4 then ((law11_awakeX.f).bind fun t120 => (some t120)) else (if (FloatKind.f64.format.order t115 t117 == some .gt || FloatKind.f64.format.order t115 t117 == some .eq) = true then ((law11_awakeX.f).bind fun t121 => (some t121)) else (some false))))) = some r := by rw [if_pos rfl] at H; exact H);(clear H);(have H := H1);(clear H1)
          by_cases c59 : (FloatKind.f64.format.order t115 (4607182418800017408 : Nat) == some .gt) = true
          ·rw [if_pos c59] at H
           have c59b0 : (FloatKind.f64.format.order t115 (4607182418800017408 : Nat) == some .gt) = true := c59
           (try (have c59b1 : decide (FloatKind.f64.format.order t115 (4607182418800017408 : Nat) = some .gt) = true := by simpa using c59))
           (try (have c59b2 : (FloatKind.f64.format.order t115 (4607182418800017408 : Nat) == some .gt) = true := by simpa using c59))
           (clear c59);(obtain rfl := Option.some.inj H);(go_wp2);(go_ret);(exact ⟨eA, bG HB.out⟩)
          (rw [if_neg c59] at H);(have c59b0 : (FloatKind.f64.format.order t115 (4607182418800017408 : Nat) == some .gt) = false := by simpa using c59)
          (try (have c59b1 : decide (FloatKind.f64.format.order t115 (4607182418800017408 : Nat) = some .gt) = false := by simpa using c59))
          (try (have c59b2 : (FloatKind.f64.format.order t115 (4607182418800017408 : Nat) == some .gt) = false := by simpa using c59))
          (try (have c59b3 : ¬ (FloatKind.f64.format.order t115 (4607182418800017408 : Nat) = some .gt) := by simpa using c59))
          clear c59
          by_cases c60 : (FloatKind.f64.format.order t117 (4607182418800017408 : Nat) == some .gt) = true
          ·rw [if_pos c60] at H
           have c60b0 : (FloatKind.f64.format.order t117 (4607182418800017408 : Nat) == some .gt) = true := c60
           (try (have c60b1 : decide (FloatKind.f64.format.order t117 (4607182418800017408 : Nat) = some .gt) = true := by simpa using c60))
           (try (have c60b2 : (FloatKind.f64.format.order t117 (4607182418800017408 : Nat) == some .gt) = true := by simpa using c60))
           (clear c60);(obtain rfl := Option.some.inj H);(go_wp2);(go_ret);(exact ⟨eA, bG HB.out⟩)
          (rw [if_neg c60] at H);(have c60b0 : (FloatKind.f64.format.order t117 (4607182418800017408 : Nat) == some .gt) = false := by simpa using c60)
          (try (have c60b1 : decide (FloatKind.f64.format.order t117 (4607182418800017408 : Nat) = some .gt) = false := by simpa using c60))
          (try (have c60b2 : (FloatKind.f64.format.order t117 (4607182418800017408 : Nat) == some .gt) = false := by simpa using c60))
          (try (have c60b3 : ¬ (FloatKind.f64.format.order t117 (4607182418800017408 : Nat) = some .gt) := by simpa using c60))
          clear c60
          by_cases c61 : a0_1 = 4
          ·rw [if_pos c61] at H
           (have c61b0 : (a0_1 == 4) = true := beq_iff_eq.mpr c61);(have c61b1 : (a0_1 != 4) = false := bne_eq_false_iff_eq.mpr c61);(clear c61);(revert H);(refine bE ?_);(rintro t120 A62 H);(obtain rfl := Option.some.inj H);(obtain ⟨hcz63_0, hcz63_1, hcz63_2, hcz63_3, hfz63_0, hfz63_1, hfz63_2, hfz63_3⟩ := cz4 BK101.out)
           go_wp2_with (first | (go_at_call 16; (with_reducible refine (law11_awakeX.calls  t120 _ A62.out).mono ?_); rintro e w64 ⟨rfl, hb⟩; replace BK101 := kB BK101 hb; replace HB := gB HB hb; (try clear hb); (try clear hb2); (try clear hk); (try clear hi)))
           (go_ret);(exact ⟨eA, bG HB.out⟩)
          (rw [if_neg c61] at H);(have c61b0 : (a0_1 == 4) = false := beq_eq_false_iff_ne.mpr c61);(have c61b1 : (a0_1 != 4) = true := bne_iff_ne.mpr c61)
          by_cases c65 : (FloatKind.f64.format.order t115 t117 == some .gt || FloatKind.f64.format.order t115 t117 == some .eq) = true
          rotate_left
          ·rw [if_neg c65] at H
           have c65b0 : (FloatKind.f64.format.order t115 t117 == some .gt || FloatKind.f64.format.order t115 t117 == some .eq) = false := by simpa using c65
           (try (have c65b1 : decide (FloatKind.f64.format.order t115 t117 = some .gt || FloatKind.f64.format.order t115 t117 == some .eq) = false := by simpa using c65))
           (try (have c65b2 : (FloatKind.f64.format.order t115 t117 == some .gt || FloatKind.f64.format.order t115 t117 == some .eq) = false := by simpa using c65))
           (try (have c65b3 : ¬ (FloatKind.f64.format.order t115 t117 = some .gt || FloatKind.f64.format.order t115 t117 == some .eq) := by simpa using c65))
           (clear c65);(obtain rfl := Option.some.inj H);(obtain ⟨hcz69_0, hcz69_1, hcz69_2, hcz69_3, hfz69_0, hfz69_1, hfz69_2, hfz69_3⟩ := cz4 BK101.out);(go_wp2);(go_ret);(exact ⟨eA, bG HB.out⟩)
          (rw [if_pos c65] at H);(have c65b0 : (FloatKind.f64.format.order t115 t117 == some .gt || FloatKind.f64.format.order t115 t117 == some .eq) = true := c65)
          (try (have c65b1 : decide (FloatKind.f64.format.order t115 t117 = some .gt || FloatKind.f64.format.order t115 t117 == some .eq) = true := by simpa using c65))
          (try (have c65b2 : (FloatKind.f64.format.order t115 t117 == some .gt || FloatKind.f64.format.order t115 t117 == some .eq) = true := by simpa using c65))
          (clear c65);(revert H);(refine bE ?_);(rintro t121 A66 H);(obtain rfl := Option.some.inj H);(obtain ⟨hcz67_0, hcz67_1, hcz67_2, hcz67_3, hfz67_0, hfz67_1, hfz67_2, hfz67_3⟩ := cz4 BK101.out)
          go_wp2_with (first | (go_at_call 16; (with_reducible refine (law11_awakeX.calls  t121 _ A66.out).mono ?_); rintro e w68 ⟨rfl, hb⟩; replace BK101 := kB BK101 hb; replace HB := gB HB hb; (try clear hb); (try clear hb2); (try clear hk); (try clear hi)))
          (go_ret);(exact ⟨eA, bG HB.out⟩)
       (rw [if_pos c24] at H);(have c24b0 : decide (x11_3 < (l0_2.length : Int)) = true := decide_eq_true c24);(clear c24);(revert H);(refine ifP fun c25 H => ?_);(have c25b0 := decide_eq_true c25);(clear c25);(revert H);(refine bE ?_);(rintro ⟨t110, t111⟩ A26 H)
       (try dsimp only at H)
       by_cases c27 : t111 = 0
       rotate_left
       ·rw [if_neg c27] at H
        (have c27b0 : (t111 == 0) = false := beq_eq_false_iff_ne.mpr c27);(have c27b1 : (t111 != 0) = true := bne_iff_ne.mpr c27);(obtain rfl := Option.some.inj H);(obtain ⟨hcz40_0, hcz40_1, hcz40_2, hcz40_3, hfz40_0, hfz40_1, hfz40_2, hfz40_3⟩ := cz4 BK101.out);(try go_wp2);(replace BK101 := aM (blk_drew BK101.out));(replace HB := aM (below_drew1 HB.out));(have p109 : 0 ≤ (x11_3 : Int) := of_decide_eq_true asA);(have q109 : x11_3 < (l0_2.length : Int) := of_decide_eq_true asA);(obtain ⟨ad109, e109, hx109_0⟩ := Kd.at_int HR0_2.out x11_3 p109 q109);(have hw109_0 := hx109_0);(cases e109);(replace hx109_0 := (HB.out.cell (World.block_lt_of_cell? w _ hx109_0)).trans hx109_0);(replace p109 := eq_true p109);(replace q109 := eq_true q109);(refine start_ (n := 12) (S := fun w' => w'.cell? ⟨gb101, 0, none⟩ = some (.int .i64 a0_0) ∧ w'.cell? ⟨gb101, 1, none⟩ = some (.int .i64 a0_1) ∧ w'.cell? ⟨gb101, 2, none⟩ = some (.slice (some ad109) l0_2.length c0_2) ∧ w'.cell? ⟨gb101, 3, none⟩ = some (.slice A0_3 l0_3.length c0_3) ∧ w'.cell? (ad109.add (x11_3).toNat) = some (.int .i64 (rd l0_2 x11_3))) (ds := []) (dnA 12 0) (by kernel_rfl) rfl rfl ⟨(blk_cell BK101.out 0).trans rfl, (blk_cell BK101.out 1).trans rfl, (blk_cell BK101.out 2).trans rfl, (blk_cell BK101.out 3).trans rfl, ((HB.out.cell (World.block_lt_of_cell? w _ hw109_0)).trans hw109_0)⟩ (fun hHeld => ?_); refine with_tabW tenorlaw11_CurveFalls.tab10 tenorlaw11_CurveFalls.bits10 (fun HT_ HW_ => ?_));(generalize wr.drew = w41 at BK101 HB hx109_0 hHeld ⊢);(refine pW 1 (some 65) (dnA 12 2) ?_);(refine pW 3 (some 67) (dnA 12 10) ?_);(refine tW 0 (some 64) (dnA 12 11) ?_);(refine tW 2 (some 66) (dnA 12 15) ?_);(refine pW 4 (some 68) (dnA 12 31) ?_);(refine tW 5 (some 69) (dnA 12 63) ?_);(refine oW 6 (some 70) (dnA 12 127) (fun K hK => ?_));(refine gW Tryz.func17 #[.agg #[.int .i64 a0_0, .int .i64 a0_1, .slice (some ad109) l0_2.length c0_2, .slice A0_3 l0_3.length c0_3], .int .i64 (rd l0_2 x11_3)] ?_);(with_reducible refine (curve_Factor.calls k3 a0_0 a0_1 _ _ l0_2 _ _ l0_3 (rd l0_2 x11_3) t110 t111 _ ?side1 ?side2 ?side3 ?side4 A26.out).mono ?_)
        (case side1 => exact cA (Kd.C_below HR0_2.out HB.out))
        (case side2 => exact HC0_2.out)
        (case side3 => exact cA (Kd.C_below HR0_3.out HB.out))
        (case side4 => exact HC0_3.out)
        (rintro e w42 ⟨rfl, hb⟩);(refine ⟨_, rfl, ?_⟩);(replace BK101 := kB BK101 hb);(replace HB := gB HB hb)
        (try clear hb)
        (try clear hb2)
        (try clear hk)
        (try clear hi)
        (refine hK.out _ _ ⟨(blk_cell BK101.out 0).trans rfl, (blk_cell BK101.out 1).trans rfl, (blk_cell BK101.out 2).trans rfl, (blk_cell BK101.out 3).trans rfl, ((HB.out.cell (World.block_lt_of_cell? w _ hw109_0)).trans hw109_0)⟩ (fun hHeld => ?_));(clear hK K);(refine nW ?_);(refine pW 7 (some 63) (dnA 12 255) ?_);(refine pW 8 (some 71) (dnA 12 511) ?_);(refine pW 9 (some 72) (dnA 12 1023) ?_);(refine pW 10 (some 12) (dnA 12 2047) ?_);(refine pW 11 (some 13) (dnA 12 4095) ?_);(refine done_ (done_of HT_.out (by kernel_rfl)) ?_);(try go_wp2);(replace BK101 := aM (blk_drew BK101.out));(replace HB := aM (below_drew1 HB.out));(refine start_ (n := 13) (S := fun w' => True) (ds := []) (dnA 13 0) (by kernel_rfl) rfl rfl trivial (fun hHeld => ?_); refine with_tabW tenorlaw11_CurveFalls.tab11 tenorlaw11_CurveFalls.bits11 (fun HT_ HW_ => ?_));(generalize w42.drew = w43 at BK101 HB hHeld ⊢);(refine pW 0 (some 73) (dnA 13 1) ?_);(refine pW 1 (some 74) (dnA 13 3) ?_);(refine pW 2 (some 75) (dnA 13 7) ?_);(refine pure_ (i := 3) (N := some 76) (v := undef) (a' := ?_) (dnA 13 15) rfl rfl (any_of HT_.out (by kernel_rfl)) (fun _ _ _ h => h) (Or.inr ⟨by rfl, rfl⟩) ?_ ?_);(rotate_left)
        ·simp only [Act.put, List.setIfInBounds_toArray, List.set_cons_zero, List.set_cons_succ, i64_w, i32_w]
         rfl
        (refine pure_ (i := 4) (N := some 77) (v := undef) (a' := ?_) (dnA 13 31) rfl rfl (any_of HT_.out (by kernel_rfl)) (fun _ _ _ h => h) (Or.inr ⟨by rfl, rfl⟩) ?_ ?_);(rotate_left)
        ·simp only [Act.put, List.setIfInBounds_toArray, List.set_cons_zero, List.set_cons_succ, i64_w, i32_w]
         rfl
        (refine pure_ (i := 5) (N := some 78) (v := undef) (a' := ?_) (dnA 13 63) rfl rfl (any_of HT_.out (by kernel_rfl)) (fun _ _ _ h => h) (Or.inr ⟨by rfl, rfl⟩) ?_ ?_);(rotate_left)
        ·simp only [Act.put, List.setIfInBounds_toArray, List.set_cons_zero, List.set_cons_succ, i64_w, i32_w]
         rfl
        (refine pure_ (i := 6) (N := some 79) (v := undef) (a' := ?_) (dnA 13 127) rfl rfl (any_of HT_.out (by kernel_rfl)) (fun _ _ _ h => h) (Or.inr ⟨by rfl, rfl⟩) ?_ ?_);(rotate_left)
        ·simp only [Act.put, List.setIfInBounds_toArray, List.set_cons_zero, List.set_cons_succ, i64_w, i32_w]
         rfl
        (refine pure_ (i := 7) (N := some 80) (v := undef) (a' := ?_) (dnA 13 255) rfl rfl (any_of HT_.out (by kernel_rfl)) (fun _ _ _ h => h) (Or.inr ⟨by rfl, rfl⟩) ?_ ?_);(rotate_left)
        ·simp only [Act.put, List.setIfInBounds_toArray, List.set_cons_zero, List.set_cons_succ, i64_w, i32_w]
         rfl
        (refine pure_ (i := 8) (N := some 81) (v := undef) (a' := ?_) (dnA 13 511) rfl rfl (any_of HT_.out (by kernel_rfl)) (fun _ _ _ h => h) (Or.inr ⟨by rfl, rfl⟩) ?_ ?_);(rotate_left)
        ·simp only [Act.put, List.setIfInBounds_toArray, List.set_cons_zero, List.set_cons_succ, i64_w, i32_w]
         rfl
        (refine pure_ (i := 9) (N := some 82) (v := undef) (a' := ?_) (dnA 13 1023) rfl rfl (any_of HT_.out (by kernel_rfl)) (fun _ _ _ h => h) (Or.inr ⟨by rfl, rfl⟩) ?_ ?_);(rotate_left)
        ·simp only [Act.put, List.setIfInBounds_toArray, List.set_cons_zero, List.set_cons_succ, i64_w, i32_w]
         rfl
        (refine pure_ (i := 10) (N := some 83) (v := undef) (a' := ?_) (dnA 13 2047) rfl rfl (any_of HT_.out (by kernel_rfl)) (fun _ _ _ h => h) (Or.inr ⟨by rfl, rfl⟩) ?_ ?_);(rotate_left)
        ·simp only [Act.put, List.setIfInBounds_toArray, List.set_cons_zero, List.set_cons_succ, i64_w, i32_w]
         rfl
        (refine pure_ (i := 11) (N := some 84) (v := undef) (a' := ?_) (dnA 13 4095) rfl rfl (any_of HT_.out (by kernel_rfl)) (fun _ _ _ h => h) (Or.inr ⟨by rfl, rfl⟩) ?_ ?_);(rotate_left)
        ·simp only [Act.put, List.setIfInBounds_toArray, List.set_cons_zero, List.set_cons_succ, i64_w, i32_w]
         rfl
        (refine pW 12 (some 85) (dnA 13 8191) ?_);(refine done_ (done_of HT_.out (by kernel_rfl)) ?_);(try go_wp2);(go_ret);(exact ⟨eA, bG HB.out⟩)
       (rw [if_pos c27] at H);(have c27b0 : (t111 == 0) = true := beq_iff_eq.mpr c27);(have c27b1 : (t111 != 0) = false := bne_eq_false_iff_eq.mpr c27);(clear c27);(revert H);(refine bE ?_);(rintro t112 A28 H);(revert H);(refine ifP fun c29 H => ?_);(have c29b0 := decide_eq_true c29);(clear c29);(revert H);(refine bE ?_);(rintro t114 A30 H)
       by_cases c31 : t112 = t114
       rotate_left
       ·rw [if_neg c31] at H
        (have c31b0 : (t112 == t114) = false := beq_eq_false_iff_ne.mpr c31);(have c31b1 : (t112 != t114) = true := bne_iff_ne.mpr c31);(obtain rfl := Option.some.inj H);(obtain ⟨hcz36_0, hcz36_1, hcz36_2, hcz36_3, hfz36_0, hfz36_1, hfz36_2, hfz36_3⟩ := cz4 BK101.out);(try go_wp2);(replace BK101 := aM (blk_drew BK101.out));(replace HB := aM (below_drew1 HB.out));(have p109 : 0 ≤ (x11_3 : Int) := of_decide_eq_true asA);(have q109 : x11_3 < (l0_2.length : Int) := of_decide_eq_true asA);(obtain ⟨ad109, e109, hx109_0⟩ := Kd.at_int HR0_2.out x11_3 p109 q109);(have hw109_0 := hx109_0);(cases e109);(replace hx109_0 := (HB.out.cell (World.block_lt_of_cell? w _ hx109_0)).trans hx109_0);(replace p109 := eq_true p109);(replace q109 := eq_true q109);(refine start_ (n := 12) (S := fun w' => w'.cell? ⟨gb101, 0, none⟩ = some (.int .i64 a0_0) ∧ w'.cell? ⟨gb101, 1, none⟩ = some (.int .i64 a0_1) ∧ w'.cell? ⟨gb101, 2, none⟩ = some (.slice (some ad109) l0_2.length c0_2) ∧ w'.cell? ⟨gb101, 3, none⟩ = some (.slice A0_3 l0_3.length c0_3) ∧ w'.cell? (ad109.add (x11_3).toNat) = some (.int .i64 (rd l0_2 x11_3))) (ds := []) (dnA 12 0) (by kernel_rfl) rfl rfl ⟨(blk_cell BK101.out 0).trans rfl, (blk_cell BK101.out 1).trans rfl, (blk_cell BK101.out 2).trans rfl, (blk_cell BK101.out 3).trans rfl, ((HB.out.cell (World.block_lt_of_cell? w _ hw109_0)).trans hw109_0)⟩ (fun hHeld => ?_); refine with_tabW tenorlaw11_CurveFalls.tab10 tenorlaw11_CurveFalls.bits10 (fun HT_ HW_ => ?_));(generalize wr.drew = w37 at BK101 HB hx109_0 hHeld ⊢);(refine pW 1 (some 65) (dnA 12 2) ?_);(refine pW 3 (some 67) (dnA 12 10) ?_);(refine tW 0 (some 64) (dnA 12 11) ?_);(refine tW 2 (some 66) (dnA 12 15) ?_);(refine pW 4 (some 68) (dnA 12 31) ?_);(refine tW 5 (some 69) (dnA 12 63) ?_);(refine oW 6 (some 70) (dnA 12 127) (fun K hK => ?_));(refine gW Tryz.func17 #[.agg #[.int .i64 a0_0, .int .i64 a0_1, .slice (some ad109) l0_2.length c0_2, .slice A0_3 l0_3.length c0_3], .int .i64 (rd l0_2 x11_3)] ?_);(with_reducible refine (curve_Factor.calls k3 a0_0 a0_1 _ _ l0_2 _ _ l0_3 (rd l0_2 x11_3) t110 t111 _ ?side1 ?side2 ?side3 ?side4 A26.out).mono ?_)
        (case side1 => exact cA (Kd.C_below HR0_2.out HB.out))
        (case side2 => exact HC0_2.out)
        (case side3 => exact cA (Kd.C_below HR0_3.out HB.out))
        (case side4 => exact HC0_3.out)
        (rintro e w38 ⟨rfl, hb⟩);(refine ⟨_, rfl, ?_⟩);(replace BK101 := kB BK101 hb);(replace HB := gB HB hb)
        (try clear hb)
        (try clear hb2)
        (try clear hk)
        (try clear hi)
        (refine hK.out _ _ ⟨(blk_cell BK101.out 0).trans rfl, (blk_cell BK101.out 1).trans rfl, (blk_cell BK101.out 2).trans rfl, (blk_cell BK101.out 3).trans rfl, ((HB.out.cell (World.block_lt_of_cell? w _ hw109_0)).trans hw109_0)⟩ (fun hHeld => ?_));(clear hK K);(refine nW ?_);(refine pW 7 (some 63) (dnA 12 255) ?_);(refine pW 8 (some 71) (dnA 12 511) ?_);(refine pW 9 (some 72) (dnA 12 1023) ?_);(refine pW 10 (some 12) (dnA 12 2047) ?_);(refine pW 11 (some 13) (dnA 12 4095) ?_);(refine done_ (done_of HT_.out (by kernel_rfl)) ?_);(try go_wp2);(replace BK101 := aM (blk_drew BK101.out));(replace HB := aM (below_drew1 HB.out));(have p113 : 0 ≤ (x11_3 : Int) := of_decide_eq_true asA);(have q113 : x11_3 < (l0_3.length : Int) := of_decide_eq_true asA);(obtain ⟨ad113, e113, hx113_0⟩ := Kd.at_flt HR0_3.out x11_3 p113 q113);(have hw113_0 := hx113_0);(cases e113);(replace hx113_0 := (HB.out.cell (World.block_lt_of_cell? w _ hx113_0)).trans hx113_0);(replace p113 := eq_true p113);(replace q113 := eq_true q113);(refine start_ (n := 13) (S := fun w' => w'.cell? ⟨gb101, 0, none⟩ = some (.int .i64 a0_0) ∧ w'.cell? ⟨gb101, 1, none⟩ = some (.int .i64 a0_1) ∧ w'.cell? ⟨gb101, 2, none⟩ = some (.slice (some ad109) l0_2.length c0_2) ∧ w'.cell? ⟨gb101, 3, none⟩ = some (.slice (some ad113) l0_3.length c0_3) ∧ w'.cell? (ad113.add (x11_3).toNat) = some (.float .f64 (rdOf (0 : Nat) l0_3 x11_3))) (ds := []) (dnA 13 0) (by kernel_rfl) rfl rfl ⟨(blk_cell BK101.out 0).trans rfl, (blk_cell BK101.out 1).trans rfl, (blk_cell BK101.out 2).trans rfl, (blk_cell BK101.out 3).trans rfl, ((HB.out.cell (World.block_lt_of_cell? w _ hw113_0)).trans hw113_0)⟩ (fun hHeld => ?_); refine with_tabW tenorlaw11_CurveFalls.tab11 tenorlaw11_CurveFalls.bits11 (fun HT_ HW_ => ?_));(generalize w38.drew = w39 at BK101 HB hx113_0 hHeld ⊢);(refine pW 0 (some 73) (dnA 13 1) ?_);(refine pW 1 (some 74) (dnA 13 3) ?_);(refine pW 2 (some 75) (dnA 13 7) ?_);(refine pW 3 (some 76) (dnA 13 15) ?_);(refine pW 5 (some 78) (dnA 13 47) ?_);(refine pW 7 (some 80) (dnA 13 175) ?_);(refine tW 6 (some 79) (dnA 13 239) ?_);(refine pW 8 (some 81) (dnA 13 495) ?_);(refine tW 9 (some 82) (dnA 13 1007) ?_);(refine oW 4 (some 77) (dnA 13 1023) (fun K hK => ?_));(refine gW Tryz.func18 #[.float .f64 t110] ?_);(with_reducible refine (api_Bits.calls t110 t112 _ A28.out).mono ?_);(rintro e w' ⟨rfl, ⟨nd, rfl⟩⟩);(refine ⟨_, rfl, ?_⟩);(refine hK.out _ _ ⟨(blk_cell BK101.out 0).trans rfl, (blk_cell BK101.out 1).trans rfl, (blk_cell BK101.out 2).trans rfl, (blk_cell BK101.out 3).trans rfl, ((HB.out.cell (World.block_lt_of_cell? w _ hw113_0)).trans hw113_0)⟩ (fun hHeld => ?_));(clear hK K);(refine nW ?_);(refine oW 10 (some 83) (dnA 13 2047) (fun K hK => ?_));(refine gW Tryz.func18 #[.float .f64 (rdOf (0 : Nat) l0_3 x11_3)] ?_);(with_reducible refine (api_Bits.calls (rdOf (0 : Nat) l0_3 x11_3) t114 _ A30.out).mono ?_);(rintro e w' ⟨rfl, ⟨nd, rfl⟩⟩);(refine ⟨_, rfl, ?_⟩);(refine hK.out _ _ ⟨(blk_cell BK101.out 0).trans rfl, (blk_cell BK101.out 1).trans rfl, (blk_cell BK101.out 2).trans rfl, (blk_cell BK101.out 3).trans rfl, ((HB.out.cell (World.block_lt_of_cell? w _ hw113_0)).trans hw113_0)⟩ (fun hHeld => ?_));(clear hK K);(refine nW ?_);(refine pW 11 (some 84) (dnA 13 4095) ?_);(refine pW 12 (some 85) (dnA 13 8191) ?_);(refine done_ (done_of HT_.out (by kernel_rfl)) ?_);(try go_wp2);(go_ret);(exact ⟨eA, bG HB.out⟩)
       (rw [if_pos c31] at H);(have c31b0 : (t112 == t114) = true := beq_iff_eq.mpr c31);(have c31b1 : (t112 != t114) = false := bne_eq_false_iff_eq.mpr c31);(clear c31);(have H' := aM H);(clear H);(obtain ⟨hcz32_0, hcz32_1, hcz32_2, hcz32_3, hfz32_0, hfz32_1, hfz32_2, hfz32_3⟩ := cz4 BK101.out);(try go_wp2);(replace BK101 := aM (blk_drew BK101.out));(replace HB := aM (below_drew1 HB.out));(have p109 : 0 ≤ (x11_3 : Int) := of_decide_eq_true asA);(have q109 : x11_3 < (l0_2.length : Int) := of_decide_eq_true asA);(obtain ⟨ad109, e109, hx109_0⟩ := Kd.at_int HR0_2.out x11_3 p109 q109);(have hw109_0 := hx109_0);(cases e109);(replace hx109_0 := (HB.out.cell (World.block_lt_of_cell? w _ hx109_0)).trans hx109_0);(replace p109 := eq_true p109);(replace q109 := eq_true q109);(refine start_ (n := 12) (S := fun w' => w'.cell? ⟨gb101, 0, none⟩ = some (.int .i64 a0_0) ∧ w'.cell? ⟨gb101, 1, none⟩ = some (.int .i64 a0_1) ∧ w'.cell? ⟨gb101, 2, none⟩ = some (.slice (some ad109) l0_2.length c0_2) ∧ w'.cell? ⟨gb101, 3, none⟩ = some (.slice A0_3 l0_3.length c0_3) ∧ w'.cell? (ad109.add (x11_3).toNat) = some (.int .i64 (rd l0_2 x11_3))) (ds := []) (dnA 12 0) (by kernel_rfl) rfl rfl ⟨(blk_cell BK101.out 0).trans rfl, (blk_cell BK101.out 1).trans rfl, (blk_cell BK101.out 2).trans rfl, (blk_cell BK101.out 3).trans rfl, ((HB.out.cell (World.block_lt_of_cell? w _ hw109_0)).trans hw109_0)⟩ (fun hHeld => ?_); refine with_tabW tenorlaw11_CurveFalls.tab10 tenorlaw11_CurveFalls.bits10 (fun HT_ HW_ => ?_));(generalize wr.drew = w33 at BK101 HB hx109_0 hHeld ⊢);(refine pW 1 (some 65) (dnA 12 2) ?_);(refine pW 3 (some 67) (dnA 12 10) ?_);(refine tW 0 (some 64) (dnA 12 11) ?_);(refine tW 2 (some 66) (dnA 12 15) ?_);(refine pW 4 (some 68) (dnA 12 31) ?_);(refine tW 5 (some 69) (dnA 12 63) ?_);(refine oW 6 (some 70) (dnA 12 127) (fun K hK => ?_));(refine gW Tryz.func17 #[.agg #[.int .i64 a0_0, .int .i64 a0_1, .slice (some ad109) l0_2.length c0_2, .slice A0_3 l0_3.length c0_3], .int .i64 (rd l0_2 x11_3)] ?_);(with_reducible refine (curve_Factor.calls k3 a0_0 a0_1 _ _ l0_2 _ _ l0_3 (rd l0_2 x11_3) t110 t111 _ ?side1 ?side2 ?side3 ?side4 A26.out).mono ?_)
       (case side1 => exact cA (Kd.C_below HR0_2.out HB.out))
       (case side2 => exact HC0_2.out)
       (case side3 => exact cA (Kd.C_below HR0_3.out HB.out))
       (case side4 => exact HC0_3.out)
       (rintro e w34 ⟨rfl, hb⟩);(refine ⟨_, rfl, ?_⟩);(replace BK101 := kB BK101 hb);(replace HB := gB HB hb)
       (try clear hb)
       (try clear hb2)
       (try clear hk)
       (try clear hi)
       (refine hK.out _ _ ⟨(blk_cell BK101.out 0).trans rfl, (blk_cell BK101.out 1).trans rfl, (blk_cell BK101.out 2).trans rfl, (blk_cell BK101.out 3).trans rfl, ((HB.out.cell (World.block_lt_of_cell? w _ hw109_0)).trans hw109_0)⟩ (fun hHeld => ?_));(clear hK K);(refine nW ?_);(refine pW 7 (some 63) (dnA 12 255) ?_);(refine pW 8 (some 71) (dnA 12 511) ?_);(refine pW 9 (some 72) (dnA 12 1023) ?_);(refine pW 10 (some 12) (dnA 12 2047) ?_);(refine pW 11 (some 13) (dnA 12 4095) ?_);(refine done_ (done_of HT_.out (by kernel_rfl)) ?_);(try go_wp2);(replace BK101 := aM (blk_drew BK101.out));(replace HB := aM (below_drew1 HB.out));(have p113 : 0 ≤ (x11_3 : Int) := of_decide_eq_true asA);(have q113 : x11_3 < (l0_3.length : Int) := of_decide_eq_true asA);(obtain ⟨ad113, e113, hx113_0⟩ := Kd.at_flt HR0_3.out x11_3 p113 q113);(have hw113_0 := hx113_0);(cases e113);(replace hx113_0 := (HB.out.cell (World.block_lt_of_cell? w _ hx113_0)).trans hx113_0);(replace p113 := eq_true p113);(replace q113 := eq_true q113);(refine start_ (n := 13) (S := fun w' => w'.cell? ⟨gb101, 0, none⟩ = some (.int .i64 a0_0) ∧ w'.cell? ⟨gb101, 1, none⟩ = some (.int .i64 a0_1) ∧ w'.cell? ⟨gb101, 2, none⟩ = some (.slice (some ad109) l0_2.length c0_2) ∧ w'.cell? ⟨gb101, 3, none⟩ = some (.slice (some ad113) l0_3.length c0_3) ∧ w'.cell? (ad113.add (x11_3).toNat) = some (.float .f64 (rdOf (0 : Nat) l0_3 x11_3))) (ds := []) (dnA 13 0) (by kernel_rfl) rfl rfl ⟨(blk_cell BK101.out 0).trans rfl, (blk_cell BK101.out 1).trans rfl, (blk_cell BK101.out 2).trans rfl, (blk_cell BK101.out 3).trans rfl, ((HB.out.cell (World.block_lt_of_cell? w _ hw113_0)).trans hw113_0)⟩ (fun hHeld => ?_); refine with_tabW tenorlaw11_CurveFalls.tab11 tenorlaw11_CurveFalls.bits11 (fun HT_ HW_ => ?_));(generalize w34.drew = w35 at BK101 HB hx113_0 hHeld ⊢);(refine pW 0 (some 73) (dnA 13 1) ?_);(refine pW 1 (some 74) (dnA 13 3) ?_);(refine pW 2 (some 75) (dnA 13 7) ?_);(refine pW 3 (some 76) (dnA 13 15) ?_);(refine pW 5 (some 78) (dnA 13 47) ?_);(refine pW 7 (some 80) (dnA 13 175) ?_);(refine tW 6 (some 79) (dnA 13 239) ?_);(refine pW 8 (some 81) (dnA 13 495) ?_);(refine tW 9 (some 82) (dnA 13 1007) ?_);(refine oW 4 (some 77) (dnA 13 1023) (fun K hK => ?_));(refine gW Tryz.func18 #[.float .f64 t110] ?_);(with_reducible refine (api_Bits.calls t110 t112 _ A28.out).mono ?_);(rintro e w' ⟨rfl, ⟨nd, rfl⟩⟩);(refine ⟨_, rfl, ?_⟩);(refine hK.out _ _ ⟨(blk_cell BK101.out 0).trans rfl, (blk_cell BK101.out 1).trans rfl, (blk_cell BK101.out 2).trans rfl, (blk_cell BK101.out 3).trans rfl, ((HB.out.cell (World.block_lt_of_cell? w _ hw113_0)).trans hw113_0)⟩ (fun hHeld => ?_));(clear hK K);(refine nW ?_);(refine oW 10 (some 83) (dnA 13 2047) (fun K hK => ?_));(refine gW Tryz.func18 #[.float .f64 (rdOf (0 : Nat) l0_3 x11_3)] ?_);(with_reducible refine (api_Bits.calls (rdOf (0 : Nat) l0_3 x11_3) t114 _ A30.out).mono ?_);(rintro e w' ⟨rfl, ⟨nd, rfl⟩⟩);(refine ⟨_, rfl, ?_⟩);(refine hK.out _ _ ⟨(blk_cell BK101.out 0).trans rfl, (blk_cell BK101.out 1).trans rfl, (blk_cell BK101.out 2).trans rfl, (blk_cell BK101.out 3).trans rfl, ((HB.out.cell (World.block_lt_of_cell? w _ hw113_0)).trans hw113_0)⟩ (fun hHeld => ?_));(clear hK K);(refine nW ?_);(refine pW 11 (some 84) (dnA 13 4095) ?_);(refine pW 12 (some 85) (dnA 13 8191) ?_);(refine done_ (done_of HT_.out (by kernel_rfl)) ?_);(try go_wp2)
       go_roundg k3
       case measure => have := HJ4.out; have := HJ16.out; have := HK3.out; omega
       case rel => exact ⟨(wrap64 (x11_3 + 1)), sA, H', ⟨by have := HJ4.out; have := HJ16.out; have := HK3.out; omega⟩, ⟨kA BK101.out⟩, ⟨bG HB.out⟩⟩

end
end Go.Proofs.YtmdoljecjliehaaGreat.FXb
