/- Written by the session's fprint.py out of the translation. -/
import Derived.Test.YtmdoljecjliehaaGreatFXcx1
namespace Go.Proofs.YtmdoljecjliehaaGreat.FXc
noncomputable section
open Go.RowKit Go.Proofs.YtmdoljecjliehaaGreatW.PrintWords Go.Proofs.YtmdoljecjliehaaGreatW.PrintLast Go.Proofs.YtmdoljecjliehaaGreatW.PrintMore
attribute [local go_sem] max2_int min2_int max_two min_two max_three min_three max_four min_four   -- for this text's walks alone
open Go.Proofs.YtmdoljecjliehaaGreat.FX Go.Proofs.YtmdoljecjliehaaGreat.FP Go.Proofs.YtmdoljecjliehaaGreat.FQ Go.Proofs.YtmdoljecjliehaaGreat.FXa
attribute [local go_sem] run_store_float run_neg_float run_fmul run_fadd run_fsub run_fdiv run_ftoi isSome_setCell 
set_option linter.unusedVariables false
set_option linter.unusedSimpArgs false

mutual
def tenorref11_Check.j0 : Nat → Bool → Int → Int → List Int → List Int → Option (Int)
 | 0, _, _, _, _, _ => none
 | k + 1, x12, x107000, x107001, x107002, x107003 => if x12 = true then (some 51) else (if x107001 < 1 then (tenorref11_Check.j1 k true x107000 x107001 x107002 x107003) else (tenorref11_Check.j1 k (decide (x107001 > 4)) x107000 x107001 x107002 x107003))
def tenorref11_Check.j1 : Nat → Bool → Int → Int → List Int → List Int → Option (Int)
 | 0, _, _, _, _, _ => none
 | k + 1, x20, x107000, x107001, x107002, x107003 => if x20 = true then (some 90) else (if (x107002.length : Int) < 1 then (tenorref11_Check.j2 k true x107000 x107001 x107002 x107003) else (if (x107002.length : Int) > 255 then (tenorref11_Check.j2 k true x107000 x107001 x107002 x107003) else (tenorref11_Check.j2 k ((x107002.length : Int) != (x107003.length : Int)) x107000 x107001 x107002 x107003)))
def tenorref11_Check.j2 : Nat → Bool → Int → Int → List Int → List Int → Option (Int)
 | 0, _, _, _, _, _ => none
 | k + 1, x39, x107000, x107001, x107002, x107003 => if x39 = true then (some 100) else (tenorref11_Check.l0 k x107000 0 x107000 x107001 x107002 x107003)
def tenorref11_Check.l0 : Nat → Int → Int → Int → Int → List Int → List Int → Option (Int)
 | 0, _, _, _, _, _, _ => none
 | k + 1, x3, x4, x107000, x107001, x107002, x107003 => if x4 < (x107002.length : Int) then (if 0 ≤ x4 then (if (rd x107002 x4) ≤ x3 then (some 100) else (if (rd x107002 x4) > 109572 then (some 100) else (if x4 < (x107003.length : Int) then ((tenorref1_Number.f (rd x107003 x4)).bind fun t110 => (if t110 = true then ((tenorref1_Lt.f 0 (rd x107003 x4)).bind fun t112 => (if t112 = true then (tenorref11_Check.l0 k (rd x107002 x4) (wrap64 (x4 + 1)) x107000 x107001 x107002 x107003) else (some 100))) else (some 100))) else (none)))) else (none)) else (some 0)
end
def tenorref11_Check.f (k : Nat) (a0_0 : Int) (a0_1 : Int) (l0_2 : List Int) (l0_3 : List Int) : Option (Int) := if a0_0 < 0 then (tenorref11_Check.j0 k true a0_0 a0_1 l0_2 l0_3) else (tenorref11_Check.j0 k (decide (a0_0 > 109572)) a0_0 a0_1 l0_2 l0_3)
set_option maxHeartbeats 8000000 in
set_option maxRecDepth 100000 in
theorem tenorref11_Check.calls (k : Nat) (a0_0 : Int) (a0_1 : Int) (A0_2 : Option Addr) (c0_2 : Nat) (l0_2 : List Int) (A0_3 : Option Addr) (c0_3 : Nat) (l0_3 : List Int) (r : Int) (w : World) (hr0_2 : Kd.C (Kd.int .i64) w A0_2 l0_2.length l0_2) (hc0_2 : l0_2.length ≤ c0_2) (hr0_3 : Kd.C (Kd.int .u64) w A0_3 l0_3.length l0_3) (hc0_3 : l0_3.length ≤ c0_3) (h : tenorref11_Check.f k a0_0 a0_1 l0_2 l0_3 = some r) :
  Calls Tryz.prog 25 #[.agg #[.int .i64 a0_0, .int .i64 a0_1, .slice A0_2 l0_2.length c0_2, .slice A0_3 l0_3.length c0_3]] w fun e w' => e = .returned (.int .i64 r) ∧ Below w.heap.size w w' := by
 (have hu51 := Tryz.underlying51);(have HR0_2 := aM hr0_2);(have HC0_2 := aM hc0_2);(clear hr0_2 hc0_2);(have HR0_3 := aM hr0_3);(have HC0_3 := aM hc0_3);(clear hr0_3 hc0_3);(have HB := aM (Below.refl w.heap.size w));(have H : (if a0_0 < 0 then (tenorref11_Check.j0 k true a0_0 a0_1 l0_2 l0_3) else (tenorref11_Check.j0 k (decide (a0_0 > 109572)) a0_0 a0_1 l0_2 l0_3)) = some r := h);(clear h);(have HC2 := aM H);(clear H);(go_enter Tryz.func25, Tryz.ntmps25)
 go_upto_region 1 with (first | ((with_reducible refine gD 1 rfl ?_); (try (refine gate_guard (by rfl) ?_; dsimp only)); refine boxW (N := 1) #[.int .i64 a0_0, .int .i64 a0_1, .slice A0_2 l0_2.length c0_2, .slice A0_3 l0_3.length c0_3] 51 HB ?_; clear HB; intro gb106 w3 BK106 HB GW106; have GE106 := GW106))
 (try simp only [Act.put, List.setIfInBounds_toArray, List.set_cons_zero, List.set_cons_succ])
 go_cut [12] (fun v12 wc => ∃ (kq : Nat) (x12_1 : Bool), v12 = .bool x12_1 ∧ Aside0 (tenorref11_Check.j0 kq x12_1 a0_0 a0_1 l0_2 l0_3 = some r) ∧ Aside0 (kq ≤ k) ∧ Aside0 (wc.heap[gb106]? = some (.cells #[.int .i64 a0_0, .int .i64 a0_1, (.slice A0_2 l0_2.length c0_2), (.slice A0_3 l0_3.length c0_3)] 51 (0, 0))) ∧ Aside0 (Below w.heap.size w wc))
 case first =>
  (have H := HC2.out);(clear HC2)
  by_cases c4 : a0_0 < 0
  ·rw [if_pos c4] at H
   (have c4b0 : decide (a0_0 < 0) = true := decide_eq_true c4);(clear c4)
   (first | rw [c4b0] | (simp only [i64_w, i32_w]; rw [c4b0]) | skip)
   (have H' := aM H);(clear H);(obtain ⟨hcz5_0, hcz5_1, hcz5_2, hcz5_3, hfz5_0, hfz5_1, hfz5_2, hfz5_3⟩ := cz4 BK106.out);(go_wp2);(go_meet)
   case rel => exact ⟨_, (true), (by first | (with_reducible rfl) | (simp; done) | (simp [*]; done) | rfl), H', ⟨by first | omega | exact Nat.le_refl _⟩, ⟨kA BK106.out⟩, ⟨bG HB.out⟩⟩
  (rw [if_neg c4] at H);(have c4b0 : decide (a0_0 < 0) = false := decide_eq_false c4);(clear c4)
  (first | rw [c4b0] | (simp only [i64_w, i32_w]; rw [c4b0]) | skip)
  (have H' := aM H);(clear H);(obtain ⟨hcz6_0, hcz6_1, hcz6_2, hcz6_3, hfz6_0, hfz6_1, hfz6_2, hfz6_3⟩ := cz4 BK106.out);(go_wp2);(go_meet)
  case rel => exact ⟨_, (decide (a0_0 > 109572)), (by first | (with_reducible rfl) | (simp; done) | (simp [*]; done) | rfl), H', ⟨by first | omega | exact Nat.le_refl _⟩, ⟨kA BK106.out⟩, ⟨bG HB.out⟩⟩
 case rest =>
  (clear HC2);(try clear c2);(try clear p2);(try clear c4);(try clear c4b0);(try clear hcz5_0);(try clear hcz5_1);(try clear hcz5_2);(try clear hcz5_3);(try clear hcz6_0);(try clear hcz6_1);(try clear hcz6_2);(try clear hcz6_3);(try clear hfz5_0);(try clear hfz5_1);(try clear hfz5_2);(try clear hfz5_3);(try clear hfz6_0);(try clear hfz6_1);(try clear hfz6_2);(try clear hfz6_3);(obtain ⟨kq, x12_1, rfl, HA, HJ1, BK106, HB⟩ := hcut)
  cases kq with
  | zero => exact absurd HA.out (by simp [tenorref11_Check.j0])
  | succ kj1 =>
   (have H := HA.out);(clear HA);(simp only [tenorref11_Check.j0] at H)
   by_cases c7 : x12_1 = true
   ·subst c7
    (have H1 : (some 51) = some r := by rw [if_pos rfl] at H; exact H);(clear H);(have H := H1);(clear H1);(obtain rfl := Option.some.inj H);(go_wp2);(go_ret);(exact ⟨eA, bG HB.out⟩)
   (replace c7 := Bool.eq_false_iff.mpr c7);(subst c7);(have H1 : (if a0_1 < 1 then (tenorref11_Check.j1 kj1 true a0_0 a0_1 l0_2 l0_3) else (tenorref11_Check.j1 kj1 (decide (a0_1 > 4)) a0_0 a0_1 l0_2 l0_3)) = some r := by rw [if_neg (show ¬ (false = true) by decide)] at H; exact H);(clear H);(have H := H1);(clear H1);(have HC8 := aM H);(clear H)
   go_upto_region 3 with (fail)
   go_cut [20] (fun v20 wc => ∃ (kq : Nat) (x20_7 : Bool), v20 = .bool x20_7 ∧ Aside0 (tenorref11_Check.j1 kq x20_7 a0_0 a0_1 l0_2 l0_3 = some r) ∧ Aside0 (kq ≤ kj1) ∧ Aside0 (wc.heap[gb106]? = some (.cells #[.int .i64 a0_0, .int .i64 a0_1, (.slice A0_2 l0_2.length c0_2), (.slice A0_3 l0_3.length c0_3)] 51 (0, 0))) ∧ Aside0 (Below w.heap.size w wc))
   case first =>
    (have H := HC8.out);(clear HC8)
    by_cases c9 : a0_1 < 1
    ·rw [if_pos c9] at H
     (have c9b0 : decide (a0_1 < 1) = true := decide_eq_true c9);(clear c9)
     (first | rw [c9b0] | (simp only [i64_w, i32_w]; rw [c9b0]) | skip)
     (have H' := aM H);(clear H);(obtain ⟨hcz10_0, hcz10_1, hcz10_2, hcz10_3, hfz10_0, hfz10_1, hfz10_2, hfz10_3⟩ := cz4 BK106.out);(go_wp2);(go_meet)
     case rel => exact ⟨_, (true), (by first | (with_reducible rfl) | (simp; done) | (simp [*]; done) | rfl), H', ⟨by have := HJ1.out; first | omega | exact Nat.le_refl _⟩, ⟨kA BK106.out⟩, ⟨bG HB.out⟩⟩
    (rw [if_neg c9] at H);(have c9b0 : decide (a0_1 < 1) = false := decide_eq_false c9);(clear c9)
    (first | rw [c9b0] | (simp only [i64_w, i32_w]; rw [c9b0]) | skip)
    (have H' := aM H);(clear H);(obtain ⟨hcz11_0, hcz11_1, hcz11_2, hcz11_3, hfz11_0, hfz11_1, hfz11_2, hfz11_3⟩ := cz4 BK106.out);(go_wp2);(go_meet)
    case rel => exact ⟨_, (decide (a0_1 > 4)), (by first | (with_reducible rfl) | (simp; done) | (simp [*]; done) | rfl), H', ⟨by have := HJ1.out; first | omega | exact Nat.le_refl _⟩, ⟨kA BK106.out⟩, ⟨bG HB.out⟩⟩
   case rest =>
    (clear HC8);(try clear c2);(try clear p2);(try clear c4);(try clear c4b0);(try clear c7);(try clear c9);(try clear c9b0);(try clear hcz10_0);(try clear hcz10_1);(try clear hcz10_2);(try clear hcz10_3);(try clear hcz11_0);(try clear hcz11_1);(try clear hcz11_2);(try clear hcz11_3);(try clear hcz5_0);(try clear hcz5_1);(try clear hcz5_2);(try clear hcz5_3);(try clear hcz6_0);(try clear hcz6_1);(try clear hcz6_2);(try clear hcz6_3);(try clear hfz10_0);(try clear hfz10_1);(try clear hfz10_2);(try clear hfz10_3);(try clear hfz11_0);(try clear hfz11_1);(try clear hfz11_2);(try clear hfz11_3);(try clear hfz5_0);(try clear hfz5_1);(try clear hfz5_2);(try clear hfz5_3);(try clear hfz6_0);(try clear hfz6_1);(try clear hfz6_2);(try clear hfz6_3);(try clear p2);(obtain ⟨kq, x20_7, rfl, HA, HJ7, BK106, HB⟩ := hcut)
    cases kq with
    | zero => exact absurd HA.out (by simp [tenorref11_Check.j1])
    | succ kj7 =>
     (have H := HA.out);(clear HA);(simp only [tenorref11_Check.j1] at H)
     by_cases c12 : x20_7 = true
     ·subst c12
      (have H1 : (some 90) = some r := by rw [if_pos rfl] at H; exact H);(clear H);(have H := H1);(clear H1);(obtain rfl := Option.some.inj H);(go_wp2);(go_ret);(exact ⟨eA, bG HB.out⟩)
     (replace c12 := Bool.eq_false_iff.mpr c12);(subst c12);(have H1 : (if (l0_2.length : Int) < 1 then (tenorref11_Check.j2 kj7 true a0_0 a0_1 l0_2 l0_3) else (if (l0_2.length : Int) > 255 then (tenorref11_Check.j2 kj7 true a0_0 a0_1 l0_2 l0_3) else (tenorref11_Check.j2 kj7 ((l0_2.length : Int) != (l0_3.length : Int)) a0_0 a0_1 l0_2 l0_3))) = some r := by rw [if_neg (show ¬ (false = true) by decide)] at H; exact H);(clear H);(have H := H1);(clear H1);(have HC13 := aM H);(clear H)
     go_upto_region 5 with (fail)
     go_cut [39] (fun v39 wc => ∃ (kq : Nat) (x39_12 : Bool), v39 = .bool x39_12 ∧ Aside0 (tenorref11_Check.j2 kq x39_12 a0_0 a0_1 l0_2 l0_3 = some r) ∧ Aside0 (kq ≤ kj7) ∧ Aside0 (wc.heap[gb106]? = some (.cells #[.int .i64 a0_0, .int .i64 a0_1, (.slice A0_2 l0_2.length c0_2), (.slice A0_3 l0_3.length c0_3)] 51 (0, 0))) ∧ Aside0 (Below w.heap.size w wc))
     case first =>
      (have H := HC13.out);(clear HC13)
      by_cases c14 : (l0_2.length : Int) < 1
      ·rw [if_pos c14] at H
       (have c14b0 : decide ((l0_2.length : Int) < 1) = true := decide_eq_true c14);(have c14b1 : decide (l0_2.length < 1) = true := decide_eq_true (by omega));(clear c14)
       (first | rw [c14b0] | (simp only [i64_w, i32_w]; rw [c14b0]) | skip)
       (have H' := aM H);(clear H);(obtain ⟨hcz15_0, hcz15_1, hcz15_2, hcz15_3, hfz15_0, hfz15_1, hfz15_2, hfz15_3⟩ := cz4 BK106.out);(go_wp2);(go_meet)
       case rel => exact ⟨_, (true), (by first | (with_reducible rfl) | (simp; done) | (simp [*]; done) | rfl), H', ⟨by have := HJ1.out; have := HJ7.out; first | omega | exact Nat.le_refl _⟩, ⟨kA BK106.out⟩, ⟨bG HB.out⟩⟩
      (rw [if_neg c14] at H);(have c14b0 : decide ((l0_2.length : Int) < 1) = false := decide_eq_false c14);(have c14b1 : decide (l0_2.length < 1) = false := decide_eq_false (by omega));(clear c14)
      (first | rw [c14b0] | (simp only [i64_w, i32_w]; rw [c14b0]) | skip)
      by_cases c16 : (l0_2.length : Int) > 255
      ·rw [if_pos c16] at H
       (have c16b0 : decide (255 < (l0_2.length : Int)) = true := decide_eq_true c16);(have c16b1 : decide (255 < l0_2.length) = true := decide_eq_true (by omega));(clear c16);(have H' := aM H);(clear H);(obtain ⟨hcz17_0, hcz17_1, hcz17_2, hcz17_3, hfz17_0, hfz17_1, hfz17_2, hfz17_3⟩ := cz4 BK106.out);(go_wp2);(go_meet)
       case rel => exact ⟨_, (true), (by first | (with_reducible rfl) | (simp; done) | (simp [*]; done) | rfl), H', ⟨by have := HJ1.out; have := HJ7.out; first | omega | exact Nat.le_refl _⟩, ⟨kA BK106.out⟩, ⟨bG HB.out⟩⟩
      (rw [if_neg c16] at H);(have c16b0 : decide (255 < (l0_2.length : Int)) = false := decide_eq_false c16);(have c16b1 : decide (255 < l0_2.length) = false := decide_eq_false (by omega));(clear c16);(have H' := aM H);(clear H);(obtain ⟨hcz18_0, hcz18_1, hcz18_2, hcz18_3, hfz18_0, hfz18_1, hfz18_2, hfz18_3⟩ := cz4 BK106.out);(go_wp2);(go_meet)
      case rel => exact ⟨_, (((l0_2.length : Int) != (l0_3.length : Int))), (by first | (with_reducible rfl) | (simp; done) | (simp [*]; done) | rfl), H', ⟨by have := HJ1.out; have := HJ7.out; first | omega | exact Nat.le_refl _⟩, ⟨kA BK106.out⟩, ⟨bG HB.out⟩⟩
     case rest =>
      (clear HC13);(try clear c1);(try clear c2);(try clear p2);(try clear c4);(try clear c4b0);(try clear c7);(try clear c9);(try clear c9b0);(try clear c12);(try clear c14);(try clear c14b0);(try clear c14b1);(try clear c16);(try clear c16b0);(try clear c16b1);(try clear hcz10_0);(try clear hcz10_1);(try clear hcz10_2);(try clear hcz10_3);(try clear hcz11_0);(try clear hcz11_1);(try clear hcz11_2);(try clear hcz11_3);(try clear hcz15_0);(try clear hcz15_1);(try clear hcz15_2);(try clear hcz15_3);(try clear hcz17_0);(try clear hcz17_1);(try clear hcz17_2);(try clear hcz17_3);(try clear hcz18_0);(try clear hcz18_1);(try clear hcz18_2);(try clear hcz18_3);(try clear hcz5_0);(try clear hcz5_1);(try clear hcz5_2);(try clear hcz5_3);(try clear hcz6_0);(try clear hcz6_1);(try clear hcz6_2);(try clear hcz6_3);(try clear hfz10_0);(try clear hfz10_1);(try clear hfz10_2);(try clear hfz10_3);(try clear hfz11_0);(try clear hfz11_1);(try clear hfz11_2);(try clear hfz11_3);(try clear hfz15_0);(try clear hfz15_1);(try clear hfz15_2);(try clear hfz15_3);(try clear hfz17_0);(try clear hfz17_1);(try clear hfz17_2);(try clear hfz17_3);(try clear hfz18_0);(try clear hfz18_1);(try clear hfz18_2);(try clear hfz18_3);(try clear hfz5_0);(try clear hfz5_1);(try clear hfz5_2);(try clear hfz5_3);(try clear hfz6_0);(try clear hfz6_1);(try clear hfz6_2);(try clear hfz6_3);(try clear p2);(obtain ⟨kq, x39_12, rfl, HA, HJ12, BK106, HB⟩ := hcut)
      cases kq with
      | zero => exact absurd HA.out (by simp [tenorref11_Check.j2])
      | succ kj12 =>
       (have H := HA.out);(clear HA);(simp only [tenorref11_Check.j2] at H)
       by_cases c19 : x39_12 = true
       ·subst c19
        (have H1 : (some 100) = some r := by rw [if_pos rfl] at H; exact H);(clear H);(have H := H1);(clear H1);(obtain rfl := Option.some.inj H);(go_wp2);(go_ret);(exact ⟨eA, bG HB.out⟩)
       (replace c19 := Bool.eq_false_iff.mpr c19);(subst c19);(have H1 : (tenorref11_Check.l0 kj12 a0_0 0 a0_0 a0_1 l0_2 l0_3) = some r := by rw [if_neg (show ¬ (false = true) by decide)] at H; exact H);(clear H);(have H := H1);(clear H1);(have H' := aM H);(clear H);(obtain ⟨hcz20_0, hcz20_1, hcz20_2, hcz20_3, hfz20_0, hfz20_1, hfz20_2, hfz20_3⟩ := cz4 BK106.out);(go_wp2)
       go_loopg [3, 4] kj12 (fun kq v3 v4 w' => ∃ (x3_4 : Int) (x4_4 : Int), v3 = .int .i64 x3_4 ∧ v4 = .int .i64 x4_4 ∧ Aside0 (tenorref11_Check.l0 kq x3_4 x4_4 a0_0 a0_1 l0_2 l0_3 = some r) ∧ Aside0 (kq ≤ kj12) ∧ Aside0 (w'.heap[gb106]? = some (.cells #[.int .i64 a0_0, .int .i64 a0_1, (.slice A0_2 l0_2.length c0_2), (.slice A0_3 l0_3.length c0_3)] 51 (0, 0))) ∧ Aside0 (Below w.heap.size w w'))
       case atStart => exact ⟨(a0_0), (0), (by first | (with_reducible rfl) | (simp; done) | (simp [*]; done) | rfl), (by first | (with_reducible rfl) | (simp; done) | (simp [*]; done) | rfl), H', ⟨Nat.le_refl _⟩, ⟨kA BK106.out⟩, ⟨bG HB.out⟩⟩
       case round =>
        (clear H');(try clear c1);(try clear c2);(try clear p2);(try clear c4);(try clear c4b0);(try clear c7);(try clear c9);(try clear c9b0);(try clear c12);(try clear c14);(try clear c14b0);(try clear c14b1);(try clear c16);(try clear c16b0);(try clear c16b1);(try clear c19);(try clear hcz10_0);(try clear hcz10_1);(try clear hcz10_2);(try clear hcz10_3);(try clear hcz11_0);(try clear hcz11_1);(try clear hcz11_2);(try clear hcz11_3);(try clear hcz15_0);(try clear hcz15_1);(try clear hcz15_2);(try clear hcz15_3);(try clear hcz17_0);(try clear hcz17_1);(try clear hcz17_2);(try clear hcz17_3);(try clear hcz18_0);(try clear hcz18_1);(try clear hcz18_2);(try clear hcz18_3);(try clear hcz20_0);(try clear hcz20_1);(try clear hcz20_2);(try clear hcz20_3);(try clear hcz5_0);(try clear hcz5_1);(try clear hcz5_2);(try clear hcz5_3);(try clear hcz6_0);(try clear hcz6_1);(try clear hcz6_2);(try clear hcz6_3);(try clear hfz10_0);(try clear hfz10_1);(try clear hfz10_2);(try clear hfz10_3);(try clear hfz11_0);(try clear hfz11_1);(try clear hfz11_2);(try clear hfz11_3);(try clear hfz15_0);(try clear hfz15_1);(try clear hfz15_2);(try clear hfz15_3);(try clear hfz17_0);(try clear hfz17_1);(try clear hfz17_2);(try clear hfz17_3);(try clear hfz18_0);(try clear hfz18_1);(try clear hfz18_2);(try clear hfz18_3);(try clear hfz20_0);(try clear hfz20_1);(try clear hfz20_2);(try clear hfz20_3);(try clear hfz5_0);(try clear hfz5_1);(try clear hfz5_2);(try clear hfz5_3);(try clear hfz6_0);(try clear hfz6_1);(try clear hfz6_2);(try clear hfz6_3);(try clear p2);(obtain ⟨x3_4, x4_4, rfl, rfl, HA, HK4, BK106, HB⟩ := hrel)
        cases gk with
        | zero => exact absurd HA.out (by simp [tenorref11_Check.l0])
        | succ k4 =>
         (have H := HA.out);(clear HA);(simp only [tenorref11_Check.l0] at H)
         by_cases c21 : x4_4 < (l0_2.length : Int)
         rotate_left
         ·rw [if_neg c21] at H
          (have c21b0 : decide (x4_4 < (l0_2.length : Int)) = false := decide_eq_false c21);(clear c21);(obtain rfl := Option.some.inj H);(obtain ⟨hcz35_0, hcz35_1, hcz35_2, hcz35_3, hfz35_0, hfz35_1, hfz35_2, hfz35_3⟩ := cz4 BK106.out);(go_wp2);(go_ret);(exact ⟨eA, bG HB.out⟩)
         (rw [if_pos c21] at H);(have c21b0 : decide (x4_4 < (l0_2.length : Int)) = true := decide_eq_true c21);(clear c21);(revert H);(refine ifP fun c22 H => ?_);(have c22b0 := decide_eq_true c22);(clear c22)
         by_cases c23 : (rd l0_2 x4_4) ≤ x3_4
         ·rw [if_pos c23] at H
          (have c23b0 : decide ((rd l0_2 x4_4) ≤ x3_4) = true := decide_eq_true c23);(clear c23);(obtain rfl := Option.some.inj H);(obtain ⟨hcz24_0, hcz24_1, hcz24_2, hcz24_3, hfz24_0, hfz24_1, hfz24_2, hfz24_3⟩ := cz4 BK106.out);(have p107 : 0 ≤ (x4_4 : Int) := of_decide_eq_true asA);(have q107 : x4_4 < (l0_2.length : Int) := of_decide_eq_true asA);(obtain ⟨ad107, e107, hx107_0⟩ := Kd.at_int HR0_2.out x4_4 p107 q107);(cases e107);(replace hx107_0 := (HB.out.cell (World.block_lt_of_cell? w _ hx107_0)).trans hx107_0);(replace p107 := eq_true p107);(replace q107 := eq_true q107);(go_wp2);(go_ret);(exact ⟨eA, bG HB.out⟩)
         (rw [if_neg c23] at H);(have c23b0 : decide ((rd l0_2 x4_4) ≤ x3_4) = false := decide_eq_false c23);(clear c23)
         by_cases c25 : (rd l0_2 x4_4) > 109572
         ·rw [if_pos c25] at H
          (have c25b0 : decide (109572 < (rd l0_2 x4_4)) = true := decide_eq_true c25);(clear c25);(obtain rfl := Option.some.inj H);(obtain ⟨hcz26_0, hcz26_1, hcz26_2, hcz26_3, hfz26_0, hfz26_1, hfz26_2, hfz26_3⟩ := cz4 BK106.out);(have p107 : 0 ≤ (x4_4 : Int) := of_decide_eq_true asA);(have q107 : x4_4 < (l0_2.length : Int) := of_decide_eq_true asA);(obtain ⟨ad107, e107, hx107_0⟩ := Kd.at_int HR0_2.out x4_4 p107 q107);(cases e107);(replace hx107_0 := (HB.out.cell (World.block_lt_of_cell? w _ hx107_0)).trans hx107_0);(replace p107 := eq_true p107);(replace q107 := eq_true q107);(have p108 : 0 ≤ (x4_4 : Int) := of_decide_eq_true asA);(have q108 : x4_4 < (l0_2.length : Int) := of_decide_eq_true asA);(obtain ⟨ad108, e108, hx108_0⟩ := Kd.at_int HR0_2.out x4_4 p108 q108);(obtain rfl : ad107 = ad108 := (by injection e108));(replace hx108_0 := (HB.out.cell (World.block_lt_of_cell? w _ hx108_0)).trans hx108_0);(replace p108 := eq_true p108);(replace q108 := eq_true q108);(go_wp2);(go_ret);(exact ⟨eA, bG HB.out⟩)
         (rw [if_neg c25] at H);(have c25b0 : decide (109572 < (rd l0_2 x4_4)) = false := decide_eq_false c25);(clear c25);(revert H);(refine ifP fun c27 H => ?_);(have c27b0 := decide_eq_true c27);(clear c27);(revert H);(refine bE ?_);(rintro t110 A28 H)
         by_cases c29 : t110 = true
         rotate_left
         ·replace c29 := Bool.eq_false_iff.mpr c29
          (subst c29);(have H1 : (some 100) = some r := by rw [if_neg (show ¬ (false = true) by decide)] at H; exact H);(clear H);(have H := H1);(clear H1);(obtain rfl := Option.some.inj H);(obtain ⟨hcz34_0, hcz34_1, hcz34_2, hcz34_3, hfz34_0, hfz34_1, hfz34_2, hfz34_3⟩ := cz4 BK106.out);(have p107 : 0 ≤ (x4_4 : Int) := of_decide_eq_true asA);(have q107 : x4_4 < (l0_2.length : Int) := of_decide_eq_true asA);(obtain ⟨ad107, e107, hx107_0⟩ := Kd.at_int HR0_2.out x4_4 p107 q107);(cases e107);(replace hx107_0 := (HB.out.cell (World.block_lt_of_cell? w _ hx107_0)).trans hx107_0);(replace p107 := eq_true p107);(replace q107 := eq_true q107);(have p108 : 0 ≤ (x4_4 : Int) := of_decide_eq_true asA);(have q108 : x4_4 < (l0_2.length : Int) := of_decide_eq_true asA);(obtain ⟨ad108, e108, hx108_0⟩ := Kd.at_int HR0_2.out x4_4 p108 q108);(obtain rfl : ad107 = ad108 := (by injection e108));(replace hx108_0 := (HB.out.cell (World.block_lt_of_cell? w _ hx108_0)).trans hx108_0);(replace p108 := eq_true p108);(replace q108 := eq_true q108);(have p109 : 0 ≤ (x4_4 : Int) := of_decide_eq_true asA);(have q109 : x4_4 < (l0_3.length : Int) := of_decide_eq_true asA);(obtain ⟨ad109, e109, hx109_0⟩ := Kd.at_int HR0_3.out x4_4 p109 q109);(cases e109);(replace hx109_0 := (HB.out.cell (World.block_lt_of_cell? w _ hx109_0)).trans hx109_0);(replace p109 := eq_true p109);(replace q109 := eq_true q109)
          go_wp2_with (first | (go_at_call 79; (with_reducible refine (tenorref1_Number.calls (rd l0_3 x4_4) false _ A28.out).mono ?_); rintro e w' ⟨rfl, ⟨nd, rfl⟩⟩))
          (go_ret);(exact ⟨eA, bG HB.out⟩)
         (subst c29);(have H1 : ((tenorref1_Lt.f 0 (rd l0_3 x4_4)).bind fun t112 => (if t112 = true then (tenorref11_Check.l0 k4 (rd l0_2 x4_4) (wrap64 (x4_4 + 1)) a0_0 a0_1 l0_2 l0_3) else (some 100))) = some r := by rw [if_pos rfl] at H; exact H);(clear H);(have H := H1);(clear H1);(revert H);(refine bE ?_);(rintro t112 A30 H)
         by_cases c31 : t112 = true
         rotate_left
         ·replace c31 := Bool.eq_false_iff.mpr c31
          (subst c31);(have H1 : (some 100) = some r := by rw [if_neg (show ¬ (false = true) by decide)] at H; exact H);(clear H);(have H := H1);(clear H1);(obtain rfl := Option.some.inj H);(obtain ⟨hcz33_0, hcz33_1, hcz33_2, hcz33_3, hfz33_0, hfz33_1, hfz33_2, hfz33_3⟩ := cz4 BK106.out);(have p107 : 0 ≤ (x4_4 : Int) := of_decide_eq_true asA);(have q107 : x4_4 < (l0_2.length : Int) := of_decide_eq_true asA);(obtain ⟨ad107, e107, hx107_0⟩ := Kd.at_int HR0_2.out x4_4 p107 q107);(cases e107);(replace hx107_0 := (HB.out.cell (World.block_lt_of_cell? w _ hx107_0)).trans hx107_0);(replace p107 := eq_true p107);(replace q107 := eq_true q107);(have p108 : 0 ≤ (x4_4 : Int) := of_decide_eq_true asA);(have q108 : x4_4 < (l0_2.length : Int) := of_decide_eq_true asA);(obtain ⟨ad108, e108, hx108_0⟩ := Kd.at_int HR0_2.out x4_4 p108 q108);(obtain rfl : ad107 = ad108 := (by injection e108));(replace hx108_0 := (HB.out.cell (World.block_lt_of_cell? w _ hx108_0)).trans hx108_0);(replace p108 := eq_true p108);(replace q108 := eq_true q108);(have p109 : 0 ≤ (x4_4 : Int) := of_decide_eq_true asA);(have q109 : x4_4 < (l0_3.length : Int) := of_decide_eq_true asA);(obtain ⟨ad109, e109, hx109_0⟩ := Kd.at_int HR0_3.out x4_4 p109 q109);(cases e109);(replace hx109_0 := (HB.out.cell (World.block_lt_of_cell? w _ hx109_0)).trans hx109_0);(replace p109 := eq_true p109);(replace q109 := eq_true q109)
          go_wp2_with (first | (go_at_call 79; (with_reducible refine (tenorref1_Number.calls (rd l0_3 x4_4) true _ A28.out).mono ?_); rintro e w' ⟨rfl, ⟨nd, rfl⟩⟩; have p111 : 0 ≤ (x4_4 : Int) := of_decide_eq_true asA; have q111 : x4_4 < (l0_3.length : Int) := of_decide_eq_true asA; obtain ⟨ad111, e111, hx111_0⟩ := Kd.at_int HR0_3.out x4_4 p111 q111; obtain rfl : ad109 = ad111 := (by injection e111); replace hx111_0 := (HB.out.cell (World.block_lt_of_cell? w _ hx111_0)).trans hx111_0; replace p111 := eq_true p111; replace q111 := eq_true q111) | (go_at_call 80; (with_reducible refine (tenorref1_Lt.calls 0 (rd l0_3 x4_4) false _ A30.out).mono ?_); rintro e w' ⟨rfl, ⟨nd, rfl⟩⟩))
          (go_ret);(exact ⟨eA, bG HB.out⟩)
         (subst c31);(have H1 : (tenorref11_Check.l0 k4 (rd l0_2 x4_4) (wrap64 (x4_4 + 1)) a0_0 a0_1 l0_2 l0_3) = some r := by rw [if_pos rfl] at H; exact H);(clear H);(have H := H1);(clear H1);(have H' := aM H);(clear H);(obtain ⟨hcz32_0, hcz32_1, hcz32_2, hcz32_3, hfz32_0, hfz32_1, hfz32_2, hfz32_3⟩ := cz4 BK106.out);(have p107 : 0 ≤ (x4_4 : Int) := of_decide_eq_true asA);(have q107 : x4_4 < (l0_2.length : Int) := of_decide_eq_true asA);(obtain ⟨ad107, e107, hx107_0⟩ := Kd.at_int HR0_2.out x4_4 p107 q107);(cases e107);(replace hx107_0 := (HB.out.cell (World.block_lt_of_cell? w _ hx107_0)).trans hx107_0);(replace p107 := eq_true p107);(replace q107 := eq_true q107);(have p108 : 0 ≤ (x4_4 : Int) := of_decide_eq_true asA);(have q108 : x4_4 < (l0_2.length : Int) := of_decide_eq_true asA);(obtain ⟨ad108, e108, hx108_0⟩ := Kd.at_int HR0_2.out x4_4 p108 q108);(obtain rfl : ad107 = ad108 := (by injection e108));(replace hx108_0 := (HB.out.cell (World.block_lt_of_cell? w _ hx108_0)).trans hx108_0);(replace p108 := eq_true p108);(replace q108 := eq_true q108);(have p109 : 0 ≤ (x4_4 : Int) := of_decide_eq_true asA);(have q109 : x4_4 < (l0_3.length : Int) := of_decide_eq_true asA);(obtain ⟨ad109, e109, hx109_0⟩ := Kd.at_int HR0_3.out x4_4 p109 q109);(cases e109);(replace hx109_0 := (HB.out.cell (World.block_lt_of_cell? w _ hx109_0)).trans hx109_0);(replace p109 := eq_true p109);(replace q109 := eq_true q109)
         go_wp2_with (first | (go_at_call 79; (with_reducible refine (tenorref1_Number.calls (rd l0_3 x4_4) true _ A28.out).mono ?_); rintro e w' ⟨rfl, ⟨nd, rfl⟩⟩; have p111 : 0 ≤ (x4_4 : Int) := of_decide_eq_true asA; have q111 : x4_4 < (l0_3.length : Int) := of_decide_eq_true asA; obtain ⟨ad111, e111, hx111_0⟩ := Kd.at_int HR0_3.out x4_4 p111 q111; obtain rfl : ad109 = ad111 := (by injection e111); replace hx111_0 := (HB.out.cell (World.block_lt_of_cell? w _ hx111_0)).trans hx111_0; replace p111 := eq_true p111; replace q111 := eq_true q111) | (go_at_call 80; (with_reducible refine (tenorref1_Lt.calls 0 (rd l0_3 x4_4) true _ A30.out).mono ?_); rintro e w' ⟨rfl, ⟨nd, rfl⟩⟩; have p113 : 0 ≤ (x4_4 : Int) := of_decide_eq_true asA; have q113 : x4_4 < (l0_2.length : Int) := of_decide_eq_true asA; obtain ⟨ad113, e113, hx113_0⟩ := Kd.at_int HR0_2.out x4_4 p113 q113; obtain rfl : ad107 = ad113 := (by injection e113); replace hx113_0 := (HB.out.cell (World.block_lt_of_cell? w _ hx113_0)).trans hx113_0; replace p113 := eq_true p113; replace q113 := eq_true q113))
         go_roundg k4
         case measure => have := HJ1.out; have := HJ7.out; have := HJ12.out; have := HK4.out; omega
         case rel => exact ⟨(rd l0_2 x4_4), (wrap64 (x4_4 + 1)), (by first | (with_reducible rfl) | (simp; done) | (simp [*]; done) | rfl), (by first | (with_reducible rfl) | (simp; done) | (simp [*]; done) | rfl), H', ⟨by have := HJ1.out; have := HJ7.out; have := HJ12.out; have := HK4.out; omega⟩, ⟨kA BK106.out⟩, ⟨bG HB.out⟩⟩

end
end Go.Proofs.YtmdoljecjliehaaGreat.FXc
