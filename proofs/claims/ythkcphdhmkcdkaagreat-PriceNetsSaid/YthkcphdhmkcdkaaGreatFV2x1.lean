/- Written by the session's fprint.py out of the translation. -/
import Derived.Test.YthkcphdhmkcdkaaGreatFw
import Derived.Test.YthkcphdhmkcdkaaGreatFV2x0
namespace Go.Proofs.YthkcphdhmkcdkaaGreat.FV2
noncomputable section
open Go.RowKit Go.Proofs.YthkcphdhmkcdkaaGreatW.PrintWords Go.Proofs.YthkcphdhmkcdkaaGreatW.PrintLast Go.Proofs.YthkcphdhmkcdkaaGreatW.PrintMore
attribute [local go_sem] max2_int min2_int max_two min_two max_three min_three max_four min_four   -- for this text's walks alone
open Go.Proofs.YthkcphdhmkcdkaaGreat.FX Go.Proofs.YthkcphdhmkcdkaaGreat.FB Go.Proofs.YthkcphdhmkcdkaaGreat.FP Go.Proofs.YthkcphdhmkcdkaaGreat.FQ
attribute [local go_sem] run_store_float run_neg_float run_fmul run_fadd run_fsub run_fdiv run_ftoi isSome_setCell 
set_option linter.unusedVariables false
set_option linter.unusedSimpArgs false

/-! ### tenorlaw15_small: function 7 -/
def tenorlaw15_small.f (l0 : List (S31)) (a1_0 : Int) (a1_1 : Int) (l1_2 : List Int) (l1_3 : List Nat) : Option (Bool) := if (l0.length : Int) ≤ 60 then (if (l1_2.length : Int) ≤ 12 then (some (decide ((l1_3.length : Int) ≤ 12))) else (some false)) else (some false)
set_option maxHeartbeats 8000000 in
set_option maxRecDepth 100000 in
theorem tenorlaw15_small.calls (A0 : Option Addr) (c0 : Nat) (l0 : List (S31)) (a1_0 : Int) (a1_1 : Int) (A1_2 : Option Addr) (c1_2 : Nat) (l1_2 : List Int) (A1_3 : Option Addr) (c1_3 : Nat) (l1_3 : List Nat) (r : Bool) (w : World) (hr0 : Kd.C k31 w A0 l0.length l0) (hc0 : l0.length ≤ c0) (hr1_2 : Kd.C (Kd.int .i64) w A1_2 l1_2.length l1_2) (hc1_2 : l1_2.length ≤ c1_2) (hr1_3 : Kd.C Kd.flt w A1_3 l1_3.length l1_3) (hc1_3 : l1_3.length ≤ c1_3) (h : tenorlaw15_small.f l0 a1_0 a1_1 l1_2 l1_3 = some r) :
    Calls Tryz.prog 7 #[.slice A0 l0.length c0, .agg #[.int .i64 a1_0, .int .i64 a1_1, .slice A1_2 l1_2.length c1_2, .slice A1_3 l1_3.length c1_3]] w fun e w' => e = .returned (.bool r) ∧ Below w.heap.size w w' := by
  have hu26 := Tryz.underlying26
  have HR0 := aM hr0
  have HC0 := aM hc0
  clear hr0 hc0
  have HR1_2 := aM hr1_2
  have HC1_2 := aM hc1_2
  clear hr1_2 hc1_2
  have HR1_3 := aM hr1_3
  have HC1_3 := aM hc1_3
  clear hr1_3 hc1_3
  have HB := aM (Below.refl w.heap.size w)
  have H : (if (l0.length : Int) ≤ 60 then (if (l1_2.length : Int) ≤ 12 then (some (decide ((l1_3.length : Int) ≤ 12))) else (some false)) else (some false)) = some r := h
  clear h
  by_cases c3 : (l0.length : Int) ≤ 60
  rotate_left
  · rw [if_neg c3] at H
    have c3b0 : decide ((l0.length : Int) ≤ 60) = false := decide_eq_false c3
    have c3b1 : decide (l0.length ≤ 60) = false := decide_eq_false (by omega)
    clear c3
    obtain rfl := Option.some.inj H
    go_enter Tryz.func7, Tryz.ntmps7
    go_wp2_with (first | ((with_reducible refine gD 3 rfl ?_); (try (refine gate_guard (by rfl) ?_; dsimp only)); refine boxW (N := 3) #[.int .i64 a1_0, .int .i64 a1_1, .slice A1_2 l1_2.length c1_2, .slice A1_3 l1_3.length c1_3] 26 HB ?_; clear HB; intro gb101 w9 BK101 HB GW101; have GE101 := GW101))
    go_ret
    exact ⟨eA, bG HB.out⟩
  rw [if_pos c3] at H
  have c3b0 : decide ((l0.length : Int) ≤ 60) = true := decide_eq_true c3
  have c3b1 : decide (l0.length ≤ 60) = true := decide_eq_true (by omega)
  clear c3
  by_cases c4 : (l1_2.length : Int) ≤ 12
  · rw [if_pos c4] at H
    have c4b0 : decide ((l1_2.length : Int) ≤ 12) = true := decide_eq_true c4
    have c4b1 : decide (l1_2.length ≤ 12) = true := decide_eq_true (by omega)
    clear c4
    obtain rfl := Option.some.inj H
    go_enter Tryz.func7, Tryz.ntmps7
    go_wp2_with (first | ((with_reducible refine gD 3 rfl ?_); (try (refine gate_guard (by rfl) ?_; dsimp only)); refine boxW (N := 3) #[.int .i64 a1_0, .int .i64 a1_1, .slice A1_2 l1_2.length c1_2, .slice A1_3 l1_3.length c1_3] 26 HB ?_; clear HB; intro gb101 w5 BK101 HB GW101; have GE101 := GW101; obtain ⟨hcz6_0, hcz6_1, hcz6_2, hcz6_3, hfz6_0, hfz6_1, hfz6_2, hfz6_3⟩ := cz4 BK101.out))
    go_ret
    exact ⟨eA, bG HB.out⟩
  rw [if_neg c4] at H
  have c4b0 : decide ((l1_2.length : Int) ≤ 12) = false := decide_eq_false c4
  have c4b1 : decide (l1_2.length ≤ 12) = false := decide_eq_false (by omega)
  clear c4
  obtain rfl := Option.some.inj H
  go_enter Tryz.func7, Tryz.ntmps7
  go_wp2_with (first | ((with_reducible refine gD 3 rfl ?_); (try (refine gate_guard (by rfl) ?_; dsimp only)); refine boxW (N := 3) #[.int .i64 a1_0, .int .i64 a1_1, .slice A1_2 l1_2.length c1_2, .slice A1_3 l1_3.length c1_3] 26 HB ?_; clear HB; intro gb101 w7 BK101 HB GW101; have GE101 := GW101; obtain ⟨hcz8_0, hcz8_1, hcz8_2, hcz8_3, hfz8_0, hfz8_1, hfz8_2, hfz8_3⟩ := cz4 BK101.out))
  go_ret
  exact ⟨eA, bG HB.out⟩

/-! ### tenorlaw15_PriceNets: function 3 -/
mutual
def tenorlaw15_PriceNets.l0 : Nat → List (S31) → Int → Int → Int → Int → List Int → List Nat → Option (Bool)
  | 0, _, _, _, _, _, _, _ => none
  | k + 1, x0, x1, x7, x103000, x103001, x103002, x103003 => if x7 < (x0.length : Int) then (tenorlaw15_PriceNets.l1 k x0 x1 x7 0 x103000 x103001 x103002 x103003) else ((flow_Net.f k x0).bind fun bt110 => ((price_Present.f x0 x1 x103000 x103001 x103002 x103003).bind fun bt114 => (if bt110.2 = 0 then (tenorlaw15_PriceNets.j2 k x1 bt110.1 bt114.1 (bt114.2 != 0) x103000 x103001 x103002 x103003) else (tenorlaw15_PriceNets.j2 k x1 bt110.1 bt114.1 true x103000 x103001 x103002 x103003))))
def tenorlaw15_PriceNets.l1 : Nat → List (S31) → Int → Int → Int → Int → Int → List Int → List Nat → Option (Bool)
  | 0, _, _, _, _, _, _, _, _ => none
  | k + 1, x0, x1, x7, x8, x103000, x103001, x103002, x103003 => if x8 < x7 then (if 0 ≤ x7 then (if x7 < (x0.length : Int) then (if 0 ≤ x8 then (if x8 < (x0.length : Int) then (if ((rd_T31 x0 x7).f0) = ((rd_T31 x0 x8).f0) then (if ((rd_T31 x0 x7).f2) = ((rd_T31 x0 x8).f2) then ((law15_awakeX.f).bind fun t109 => (some t109)) else (tenorlaw15_PriceNets.l1 k x0 x1 x7 (wrap64 (x8 + 1)) x103000 x103001 x103002 x103003)) else (tenorlaw15_PriceNets.l1 k x0 x1 x7 (wrap64 (x8 + 1)) x103000 x103001 x103002 x103003)) else (none)) else (none)) else (none)) else (none)) else (tenorlaw15_PriceNets.l0 k x0 x1 (wrap64 (x7 + 1)) x103000 x103001 x103002 x103003)
def tenorlaw15_PriceNets.j2 : Nat → Int → List (S31) → Nat → Bool → Int → Int → List Int → List Nat → Option (Bool)
  | 0, _, _, _, _, _, _, _, _ => none
  | k + 1, x1, x9, x11, x73, x103000, x103001, x103002, x103003 => if x73 = true then ((law15_awakeX.f).bind fun t116 => (some t116)) else ((price_Present.f x9 x1 x103000 x103001 x103002 x103003).bind fun bt117 => (if bt117.2 = 0 then ((api_Bits.f x11).bind fun t119 => ((api_Bits.f bt117.1).bind fun t120 => (if t119 = t120 then ((law15_awakeX.f).bind fun t121 => (some t121)) else (some false)))) else (some false)))
end
def tenorlaw15_PriceNets.f (k : Nat) (l0 : List (S31)) (a1 : Int) (a2_0 : Int) (a2_1 : Int) (l2_2 : List Int) (l2_3 : List Nat) : Option (Bool) := (tenorlaw15_small.f l0 a2_0 a2_1 l2_2 l2_3).bind fun t103 => (if t103 = true then (tenorlaw15_PriceNets.l0 k l0 a1 0 a2_0 a2_1 l2_2 l2_3) else ((law15_awakeX.f).bind fun t104 => (some t104)))
set_option maxHeartbeats 8000000 in
set_option maxRecDepth 100000 in
theorem tenorlaw15_PriceNets.calls (k : Nat) (A0 : Option Addr) (c0 : Nat) (l0 : List (S31)) (a1 : Int) (a2_0 : Int) (a2_1 : Int) (A2_2 : Option Addr) (c2_2 : Nat) (l2_2 : List Int) (A2_3 : Option Addr) (c2_3 : Nat) (l2_3 : List Nat) (r : Bool) (w : World) (hr0 : Kd.C k31 w A0 l0.length l0) (hc0 : l0.length ≤ c0) (hr2_2 : Kd.C (Kd.int .i64) w A2_2 l2_2.length l2_2) (hc2_2 : l2_2.length ≤ c2_2) (hr2_3 : Kd.C Kd.flt w A2_3 l2_3.length l2_3) (hc2_3 : l2_3.length ≤ c2_3) (h : tenorlaw15_PriceNets.f k l0 a1 a2_0 a2_1 l2_2 l2_3 = some r) :
    Calls Tryz.prog 3 #[.slice A0 l0.length c0, .int .i64 a1, .agg #[.int .i64 a2_0, .int .i64 a2_1, .slice A2_2 l2_2.length c2_2, .slice A2_3 l2_3.length c2_3]] w fun e w' => e = .returned (.bool r) ∧ Below w.heap.size w w' := by
  have hu26 := Tryz.underlying26
  have HR0 := aM hr0
  have HC0 := aM hc0
  clear hr0 hc0
  have HR2_2 := aM hr2_2
  have HC2_2 := aM hc2_2
  clear hr2_2 hc2_2
  have HR2_3 := aM hr2_3
  have HC2_3 := aM hc2_3
  clear hr2_3 hc2_3
  have HB := aM (Below.refl w.heap.size w)
  have H : ((tenorlaw15_small.f l0 a2_0 a2_1 l2_2 l2_3).bind fun t103 => (if t103 = true then (tenorlaw15_PriceNets.l0 k l0 a1 0 a2_0 a2_1 l2_2 l2_3) else ((law15_awakeX.f).bind fun t104 => (some t104)))) = some r := h
  clear h
  revert H
  refine bE ?_
  rintro t103 A4 H
  by_cases c5 : t103 = true
  rotate_left
  · replace c5 := Bool.eq_false_iff.mpr c5
    subst c5
    have H1 : ((law15_awakeX.f).bind fun t104 => (some t104)) = some r := by rw [if_neg (show ¬ (false = true) by decide)] at H; exact H
    clear H
    have H := H1
    clear H1
    revert H
    refine bE ?_
    rintro t104 A45 H
    obtain rfl := Option.some.inj H
    go_enter Tryz.func3, Tryz.ntmps3
    go_wp2_with (first | ((with_reducible refine gD 5 rfl ?_); refine boxW (N := 5) #[.int .i64 a2_0, .int .i64 a2_1, .slice A2_2 l2_2.length c2_2, .slice A2_3 l2_3.length c2_3] 26 HB ?_; clear HB; intro gb102 w46 BK102 HB GW102; have GE102 := GW102; obtain ⟨hcz47_0, hcz47_1, hcz47_2, hcz47_3, hfz47_0, hfz47_1, hfz47_2, hfz47_3⟩ := cz4 BK102.out) | (go_at_call 7; (with_reducible refine (tenorlaw15_small.calls _ _ l0 a2_0 a2_1 _ _ l2_2 _ _ l2_3 false _ ?side1 ?side2 ?side3 ?side4 ?side5 ?side6 A4.out).mono ?_); (case side1 => exact cA (Kd.C_below HR0.out HB.out)); (case side2 => exact HC0.out); (case side3 => exact cA (Kd.C_below HR2_2.out HB.out)); (case side4 => exact HC2_2.out); (case side5 => exact cA (Kd.C_below HR2_3.out HB.out)); (case side6 => exact HC2_3.out); rintro e w48 ⟨rfl, hb⟩; replace BK102 := kB BK102 hb; replace HB := gB HB hb; (try clear hb); (try clear hb2); (try clear hk); (try clear hi)) | (go_at_call 8; (with_reducible refine (law15_awakeX.calls  t104 _ A45.out).mono ?_); rintro e w49 ⟨rfl, hb⟩; replace BK102 := kB BK102 hb; replace HB := gB HB hb; (try clear hb); (try clear hb2); (try clear hk); (try clear hi)))
    repeat (go_quiet (first | ((with_reducible refine gD 5 rfl ?_); refine boxW (N := 5) #[.int .i64 a2_0, .int .i64 a2_1, .slice A2_2 l2_2.length c2_2, .slice A2_3 l2_3.length c2_3] 26 HB ?_; clear HB; intro gb102 w46 BK102 HB GW102; have GE102 := GW102; obtain ⟨hcz47_0, hcz47_1, hcz47_2, hcz47_3, hfz47_0, hfz47_1, hfz47_2, hfz47_3⟩ := cz4 BK102.out) | (go_at_call 7; (with_reducible refine (tenorlaw15_small.calls _ _ l0 a2_0 a2_1 _ _ l2_2 _ _ l2_3 false _ ?side1 ?side2 ?side3 ?side4 ?side5 ?side6 A4.out).mono ?_); (case side1 => exact cA (Kd.C_below HR0.out HB.out)); (case side2 => exact HC0.out); (case side3 => exact cA (Kd.C_below HR2_2.out HB.out)); (case side4 => exact HC2_2.out); (case side5 => exact cA (Kd.C_below HR2_3.out HB.out)); (case side6 => exact HC2_3.out); rintro e w48 ⟨rfl, hb⟩; replace BK102 := kB BK102 hb; replace HB := gB HB hb; (try clear hb); (try clear hb2); (try clear hk); (try clear hi)) | (go_at_call 8; (with_reducible refine (law15_awakeX.calls  t104 _ A45.out).mono ?_); rintro e w49 ⟨rfl, hb⟩; replace BK102 := kB BK102 hb; replace HB := gB HB hb; (try clear hb); (try clear hb2); (try clear hk); (try clear hi))); try go_wp2_with (first | ((with_reducible refine gD 5 rfl ?_); refine boxW (N := 5) #[.int .i64 a2_0, .int .i64 a2_1, .slice A2_2 l2_2.length c2_2, .slice A2_3 l2_3.length c2_3] 26 HB ?_; clear HB; intro gb102 w46 BK102 HB GW102; have GE102 := GW102; obtain ⟨hcz47_0, hcz47_1, hcz47_2, hcz47_3, hfz47_0, hfz47_1, hfz47_2, hfz47_3⟩ := cz4 BK102.out) | (go_at_call 7; (with_reducible refine (tenorlaw15_small.calls _ _ l0 a2_0 a2_1 _ _ l2_2 _ _ l2_3 false _ ?side1 ?side2 ?side3 ?side4 ?side5 ?side6 A4.out).mono ?_); (case side1 => exact cA (Kd.C_below HR0.out HB.out)); (case side2 => exact HC0.out); (case side3 => exact cA (Kd.C_below HR2_2.out HB.out)); (case side4 => exact HC2_2.out); (case side5 => exact cA (Kd.C_below HR2_3.out HB.out)); (case side6 => exact HC2_3.out); rintro e w48 ⟨rfl, hb⟩; replace BK102 := kB BK102 hb; replace HB := gB HB hb; (try clear hb); (try clear hb2); (try clear hk); (try clear hi)) | (go_at_call 8; (with_reducible refine (law15_awakeX.calls  t104 _ A45.out).mono ?_); rintro e w49 ⟨rfl, hb⟩; replace BK102 := kB BK102 hb; replace HB := gB HB hb; (try clear hb); (try clear hb2); (try clear hk); (try clear hi))))
    go_ret
    exact ⟨eA, bG HB.out⟩
  subst c5
  have H1 : (tenorlaw15_PriceNets.l0 k l0 a1 0 a2_0 a2_1 l2_2 l2_3) = some r := by rw [if_pos rfl] at H; exact H
  clear H
  have H := H1
  clear H1
  have H' := aM H
  clear H
  go_enter Tryz.func3, Tryz.ntmps3
  go_wp2_with (first | ((with_reducible refine gD 5 rfl ?_); refine boxW (N := 5) #[.int .i64 a2_0, .int .i64 a2_1, .slice A2_2 l2_2.length c2_2, .slice A2_3 l2_3.length c2_3] 26 HB ?_; clear HB; intro gb102 w6 BK102 HB GW102; have GE102 := GW102; obtain ⟨hcz7_0, hcz7_1, hcz7_2, hcz7_3, hfz7_0, hfz7_1, hfz7_2, hfz7_3⟩ := cz4 BK102.out) | (go_at_call 7; (with_reducible refine (tenorlaw15_small.calls _ _ l0 a2_0 a2_1 _ _ l2_2 _ _ l2_3 true _ ?side1 ?side2 ?side3 ?side4 ?side5 ?side6 A4.out).mono ?_); (case side1 => exact cA (Kd.C_below HR0.out HB.out)); (case side2 => exact HC0.out); (case side3 => exact cA (Kd.C_below HR2_2.out HB.out)); (case side4 => exact HC2_2.out); (case side5 => exact cA (Kd.C_below HR2_3.out HB.out)); (case side6 => exact HC2_3.out); rintro e w8 ⟨rfl, hb⟩; replace BK102 := kB BK102 hb; replace HB := gB HB hb; (try clear hb); (try clear hb2); (try clear hk); (try clear hi)))
  repeat (go_quiet (first | ((with_reducible refine gD 5 rfl ?_); refine boxW (N := 5) #[.int .i64 a2_0, .int .i64 a2_1, .slice A2_2 l2_2.length c2_2, .slice A2_3 l2_3.length c2_3] 26 HB ?_; clear HB; intro gb102 w6 BK102 HB GW102; have GE102 := GW102; obtain ⟨hcz7_0, hcz7_1, hcz7_2, hcz7_3, hfz7_0, hfz7_1, hfz7_2, hfz7_3⟩ := cz4 BK102.out) | (go_at_call 7; (with_reducible refine (tenorlaw15_small.calls _ _ l0 a2_0 a2_1 _ _ l2_2 _ _ l2_3 true _ ?side1 ?side2 ?side3 ?side4 ?side5 ?side6 A4.out).mono ?_); (case side1 => exact cA (Kd.C_below HR0.out HB.out)); (case side2 => exact HC0.out); (case side3 => exact cA (Kd.C_below HR2_2.out HB.out)); (case side4 => exact HC2_2.out); (case side5 => exact cA (Kd.C_below HR2_3.out HB.out)); (case side6 => exact HC2_3.out); rintro e w8 ⟨rfl, hb⟩; replace BK102 := kB BK102 hb; replace HB := gB HB hb; (try clear hb); (try clear hb2); (try clear hk); (try clear hi))); try go_wp2_with (first | ((with_reducible refine gD 5 rfl ?_); refine boxW (N := 5) #[.int .i64 a2_0, .int .i64 a2_1, .slice A2_2 l2_2.length c2_2, .slice A2_3 l2_3.length c2_3] 26 HB ?_; clear HB; intro gb102 w6 BK102 HB GW102; have GE102 := GW102; obtain ⟨hcz7_0, hcz7_1, hcz7_2, hcz7_3, hfz7_0, hfz7_1, hfz7_2, hfz7_3⟩ := cz4 BK102.out) | (go_at_call 7; (with_reducible refine (tenorlaw15_small.calls _ _ l0 a2_0 a2_1 _ _ l2_2 _ _ l2_3 true _ ?side1 ?side2 ?side3 ?side4 ?side5 ?side6 A4.out).mono ?_); (case side1 => exact cA (Kd.C_below HR0.out HB.out)); (case side2 => exact HC0.out); (case side3 => exact cA (Kd.C_below HR2_2.out HB.out)); (case side4 => exact HC2_2.out); (case side5 => exact cA (Kd.C_below HR2_3.out HB.out)); (case side6 => exact HC2_3.out); rintro e w8 ⟨rfl, hb⟩; replace BK102 := kB BK102 hb; replace HB := gB HB hb; (try clear hb); (try clear hb2); (try clear hk); (try clear hi))))
  go_loopg [7] k (fun kq v7 w' => ∃ (x7_1 : Int), v7 = .int .i64 x7_1 ∧ Aside0 (tenorlaw15_PriceNets.l0 kq l0 a1 x7_1 a2_0 a2_1 l2_2 l2_3 = some r) ∧ Aside0 (kq ≤ k) ∧ Aside0 (w'.heap[gb102]? = some (.cells #[.int .i64 a2_0, .int .i64 a2_1, (.slice A2_2 l2_2.length c2_2), (.slice A2_3 l2_3.length c2_3)] 26 (0, 0))) ∧ Aside0 (Below w.heap.size w w'))
  case atStart => exact ⟨(0), sA, H', ⟨Nat.le_refl _⟩, ⟨kA BK102.out⟩, ⟨bG HB.out⟩⟩
  case round =>
    clear H'
    try clear c2
    try clear p2
    try clear c3
    try clear c5
    try clear hcz7_0
    try clear hcz7_1
    try clear hcz7_2
    try clear hcz7_3
    try clear hfz7_0
    try clear hfz7_1
    try clear hfz7_2
    try clear hfz7_3
    obtain ⟨x7_1, rfl, HA, HK1, BK102, HB⟩ := hrel
    cases gk with
    | zero => exact absurd HA.out (by simp [tenorlaw15_PriceNets.l0])
    | succ k1 =>
      have H := HA.out
      clear HA
      simp only [tenorlaw15_PriceNets.l0] at H
      by_cases c9 : x7_1 < (l0.length : Int)
      · rw [if_pos c9] at H
        have c9b0 : decide (x7_1 < (l0.length : Int)) = true := decide_eq_true c9
        clear c9
        have H' := aM H
        clear H
        go_wp2
        repeat (go_quiet (fail); try go_wp2)
        go_loopg [8] k1 (fun kq v8 w' => ∃ (x8_2 : Int), v8 = .int .i64 x8_2 ∧ Aside0 (tenorlaw15_PriceNets.l1 kq l0 a1 x7_1 x8_2 a2_0 a2_1 l2_2 l2_3 = some r) ∧ Aside0 (kq ≤ k1) ∧ Aside0 (w'.heap[gb102]? = some (.cells #[.int .i64 a2_0, .int .i64 a2_1, (.slice A2_2 l2_2.length c2_2), (.slice A2_3 l2_3.length c2_3)] 26 (0, 0))) ∧ Aside0 (Below w.heap.size w w'))
        case atStart => exact ⟨(0), sA, H', ⟨Nat.le_refl _⟩, ⟨kA BK102.out⟩, ⟨bG HB.out⟩⟩
        case round =>
          clear H'
          try clear c2
          try clear p2
          try clear c3
          try clear c5
          try clear c9
          try clear c9b0
          try clear hcz7_0
          try clear hcz7_1
          try clear hcz7_2
          try clear hcz7_3
          try clear hfz7_0
          try clear hfz7_1
          try clear hfz7_2
          try clear hfz7_3
          try clear p2
          obtain ⟨x8_2, rfl, HA, HK2, BK102, HB⟩ := hrel
          cases gk with
          | zero => exact absurd HA.out (by simp [tenorlaw15_PriceNets.l1])
          | succ k2 =>
            have H := HA.out
            clear HA
            simp only [tenorlaw15_PriceNets.l1] at H
            by_cases c10 : x8_2 < x7_1
            rotate_left
            · rw [if_neg c10] at H
              have c10b0 : decide (x8_2 < x7_1) = false := decide_eq_false c10
              clear c10
              have H' := aM H
              clear H
              go_wp2
              repeat (go_quiet (fail); try go_wp2)
              go_roundg k2
              case measure => have := HK1.out; have := HK2.out; omega
              case rel => exact ⟨(wrap64 (x7_1 + 1)), sA, H', ⟨by have := HK1.out; have := HK2.out; omega⟩, ⟨kA BK102.out⟩, ⟨bG HB.out⟩⟩
            rw [if_pos c10] at H
            have c10b0 : decide (x8_2 < x7_1) = true := decide_eq_true c10
            clear c10
            revert H
            refine ifP fun c11 H => ?_
            have c11b0 := decide_eq_true c11
            clear c11
            revert H
            refine ifP fun c12 H => ?_
            have c12b0 := decide_eq_true c12
            clear c12
            revert H
            refine ifP fun c13 H => ?_
            have c13b0 := decide_eq_true c13
            clear c13
            revert H
            refine ifP fun c14 H => ?_
            have c14b0 := decide_eq_true c14
            clear c14
            by_cases c15 : ((rd_T31 l0 x7_1).f0) = ((rd_T31 l0 x8_2).f0)
            rotate_left
            · rw [if_neg c15] at H
              have c15b0 : (((rd_T31 l0 x7_1).f0) == ((rd_T31 l0 x8_2).f0)) = false := beq_eq_false_iff_ne.mpr c15
              have c15b1 : (((rd_T31 l0 x7_1).f0) != ((rd_T31 l0 x8_2).f0)) = true := bne_iff_ne.mpr c15
              have H' := aM H
              clear H
              have p105 : 0 ≤ (x7_1 : Int) := of_decide_eq_true asA
              have q105 : x7_1 < (l0.length : Int) := of_decide_eq_true asA
              obtain ⟨ad105, e105, hx105_0, hx105_1, hx105_2⟩ := at_T31 HR0.out x7_1 p105 q105
              cases e105
              replace hx105_0 := (HB.out.cell (World.block_lt_of_cell? w _ hx105_0)).trans hx105_0
              replace hx105_1 := (HB.out.cell (World.block_lt_of_cell? w _ hx105_1)).trans hx105_1
              replace hx105_2 := (HB.out.cell (World.block_lt_of_cell? w _ hx105_2)).trans hx105_2
              replace p105 := eq_true p105
              replace q105 := eq_true q105
              have p106 : 0 ≤ (x8_2 : Int) := of_decide_eq_true asA
              have q106 : x8_2 < (l0.length : Int) := of_decide_eq_true asA
              obtain ⟨ad106, e106, hx106_0, hx106_1, hx106_2⟩ := at_T31 HR0.out x8_2 p106 q106
              obtain rfl : ad105 = ad106 := (by injection e106)
              replace hx106_0 := (HB.out.cell (World.block_lt_of_cell? w _ hx106_0)).trans hx106_0
              replace hx106_1 := (HB.out.cell (World.block_lt_of_cell? w _ hx106_1)).trans hx106_1
              replace hx106_2 := (HB.out.cell (World.block_lt_of_cell? w _ hx106_2)).trans hx106_2
              replace p106 := eq_true p106
              replace q106 := eq_true q106
              go_wp2
              repeat (go_quiet (fail); try go_wp2)
              go_roundg k2
              case measure => have := HK1.out; have := HK2.out; omega
              case rel => exact ⟨(wrap64 (x8_2 + 1)), sA, H', ⟨by have := HK1.out; have := HK2.out; omega⟩, ⟨kA BK102.out⟩, ⟨bG HB.out⟩⟩
            rw [if_pos c15] at H
            have c15b0 : (((rd_T31 l0 x7_1).f0) == ((rd_T31 l0 x8_2).f0)) = true := beq_iff_eq.mpr c15
            have c15b1 : (((rd_T31 l0 x7_1).f0) != ((rd_T31 l0 x8_2).f0)) = false := bne_eq_false_iff_eq.mpr c15
            clear c15
            by_cases c16 : ((rd_T31 l0 x7_1).f2) = ((rd_T31 l0 x8_2).f2)
            rotate_left
            · rw [if_neg c16] at H
              have c16b0 : (((rd_T31 l0 x7_1).f2) == ((rd_T31 l0 x8_2).f2)) = false := beq_eq_false_iff_ne.mpr c16
              have c16b1 : (((rd_T31 l0 x7_1).f2) != ((rd_T31 l0 x8_2).f2)) = true := bne_iff_ne.mpr c16
              have H' := aM H
              clear H
              have p105 : 0 ≤ (x7_1 : Int) := of_decide_eq_true asA
              have q105 : x7_1 < (l0.length : Int) := of_decide_eq_true asA
              obtain ⟨ad105, e105, hx105_0, hx105_1, hx105_2⟩ := at_T31 HR0.out x7_1 p105 q105
              cases e105
              replace hx105_0 := (HB.out.cell (World.block_lt_of_cell? w _ hx105_0)).trans hx105_0
              replace hx105_1 := (HB.out.cell (World.block_lt_of_cell? w _ hx105_1)).trans hx105_1
              replace hx105_2 := (HB.out.cell (World.block_lt_of_cell? w _ hx105_2)).trans hx105_2
              replace p105 := eq_true p105
              replace q105 := eq_true q105
              have p106 : 0 ≤ (x8_2 : Int) := of_decide_eq_true asA
              have q106 : x8_2 < (l0.length : Int) := of_decide_eq_true asA
              obtain ⟨ad106, e106, hx106_0, hx106_1, hx106_2⟩ := at_T31 HR0.out x8_2 p106 q106
              obtain rfl : ad105 = ad106 := (by injection e106)
              replace hx106_0 := (HB.out.cell (World.block_lt_of_cell? w _ hx106_0)).trans hx106_0
              replace hx106_1 := (HB.out.cell (World.block_lt_of_cell? w _ hx106_1)).trans hx106_1
              replace hx106_2 := (HB.out.cell (World.block_lt_of_cell? w _ hx106_2)).trans hx106_2
              replace p106 := eq_true p106
              replace q106 := eq_true q106
              have p107 : 0 ≤ (x7_1 : Int) := of_decide_eq_true asA
              have q107 : x7_1 < (l0.length : Int) := of_decide_eq_true asA
              obtain ⟨ad107, e107, hx107_0, hx107_1, hx107_2⟩ := at_T31 HR0.out x7_1 p107 q107
              obtain rfl : ad105 = ad107 := (by injection e107)
              replace hx107_0 := (HB.out.cell (World.block_lt_of_cell? w _ hx107_0)).trans hx107_0
              replace hx107_1 := (HB.out.cell (World.block_lt_of_cell? w _ hx107_1)).trans hx107_1
              replace hx107_2 := (HB.out.cell (World.block_lt_of_cell? w _ hx107_2)).trans hx107_2
              replace p107 := eq_true p107
              replace q107 := eq_true q107
              have p108 : 0 ≤ (x8_2 : Int) := of_decide_eq_true asA
              have q108 : x8_2 < (l0.length : Int) := of_decide_eq_true asA
              obtain ⟨ad108, e108, hx108_0, hx108_1, hx108_2⟩ := at_T31 HR0.out x8_2 p108 q108
              obtain rfl : ad105 = ad108 := (by injection e108)
              replace hx108_0 := (HB.out.cell (World.block_lt_of_cell? w _ hx108_0)).trans hx108_0
              replace hx108_1 := (HB.out.cell (World.block_lt_of_cell? w _ hx108_1)).trans hx108_1
              replace hx108_2 := (HB.out.cell (World.block_lt_of_cell? w _ hx108_2)).trans hx108_2
              replace p108 := eq_true p108
              replace q108 := eq_true q108
              go_wp2
              repeat (go_quiet (fail); try go_wp2)
              go_roundg k2
              case measure => have := HK1.out; have := HK2.out; omega
              case rel => exact ⟨(wrap64 (x8_2 + 1)), sA, H', ⟨by have := HK1.out; have := HK2.out; omega⟩, ⟨kA BK102.out⟩, ⟨bG HB.out⟩⟩
            rw [if_pos c16] at H
            have c16b0 : (((rd_T31 l0 x7_1).f2) == ((rd_T31 l0 x8_2).f2)) = true := beq_iff_eq.mpr c16
            have c16b1 : (((rd_T31 l0 x7_1).f2) != ((rd_T31 l0 x8_2).f2)) = false := bne_eq_false_iff_eq.mpr c16
            clear c16
            revert H
            refine bE ?_
            rintro t109 A17 H
            obtain rfl := Option.some.inj H
            have p105 : 0 ≤ (x7_1 : Int) := of_decide_eq_true asA
            have q105 : x7_1 < (l0.length : Int) := of_decide_eq_true asA
            obtain ⟨ad105, e105, hx105_0, hx105_1, hx105_2⟩ := at_T31 HR0.out x7_1 p105 q105
            cases e105
            replace hx105_0 := (HB.out.cell (World.block_lt_of_cell? w _ hx105_0)).trans hx105_0
            replace hx105_1 := (HB.out.cell (World.block_lt_of_cell? w _ hx105_1)).trans hx105_1
            replace hx105_2 := (HB.out.cell (World.block_lt_of_cell? w _ hx105_2)).trans hx105_2
            replace p105 := eq_true p105
            replace q105 := eq_true q105
            have p106 : 0 ≤ (x8_2 : Int) := of_decide_eq_true asA
            have q106 : x8_2 < (l0.length : Int) := of_decide_eq_true asA
            obtain ⟨ad106, e106, hx106_0, hx106_1, hx106_2⟩ := at_T31 HR0.out x8_2 p106 q106
            obtain rfl : ad105 = ad106 := (by injection e106)
            replace hx106_0 := (HB.out.cell (World.block_lt_of_cell? w _ hx106_0)).trans hx106_0
            replace hx106_1 := (HB.out.cell (World.block_lt_of_cell? w _ hx106_1)).trans hx106_1
            replace hx106_2 := (HB.out.cell (World.block_lt_of_cell? w _ hx106_2)).trans hx106_2
            replace p106 := eq_true p106
            replace q106 := eq_true q106
            have p107 : 0 ≤ (x7_1 : Int) := of_decide_eq_true asA
            have q107 : x7_1 < (l0.length : Int) := of_decide_eq_true asA
            obtain ⟨ad107, e107, hx107_0, hx107_1, hx107_2⟩ := at_T31 HR0.out x7_1 p107 q107
            obtain rfl : ad105 = ad107 := (by injection e107)
            replace hx107_0 := (HB.out.cell (World.block_lt_of_cell? w _ hx107_0)).trans hx107_0
            replace hx107_1 := (HB.out.cell (World.block_lt_of_cell? w _ hx107_1)).trans hx107_1
            replace hx107_2 := (HB.out.cell (World.block_lt_of_cell? w _ hx107_2)).trans hx107_2
            replace p107 := eq_true p107
            replace q107 := eq_true q107
            have p108 : 0 ≤ (x8_2 : Int) := of_decide_eq_true asA
            have q108 : x8_2 < (l0.length : Int) := of_decide_eq_true asA
            obtain ⟨ad108, e108, hx108_0, hx108_1, hx108_2⟩ := at_T31 HR0.out x8_2 p108 q108
            obtain rfl : ad105 = ad108 := (by injection e108)
            replace hx108_0 := (HB.out.cell (World.block_lt_of_cell? w _ hx108_0)).trans hx108_0
            replace hx108_1 := (HB.out.cell (World.block_lt_of_cell? w _ hx108_1)).trans hx108_1
            replace hx108_2 := (HB.out.cell (World.block_lt_of_cell? w _ hx108_2)).trans hx108_2
            replace p108 := eq_true p108
            replace q108 := eq_true q108
            go_wp2_with (first | (go_at_call 8; (with_reducible refine (law15_awakeX.calls  t109 _ A17.out).mono ?_); rintro e w18 ⟨rfl, hb⟩; replace BK102 := kB BK102 hb; replace HB := gB HB hb; (try clear hb); (try clear hb2); (try clear hk); (try clear hi)))
            repeat (go_quiet (first | (go_at_call 8; (with_reducible refine (law15_awakeX.calls  t109 _ A17.out).mono ?_); rintro e w18 ⟨rfl, hb⟩; replace BK102 := kB BK102 hb; replace HB := gB HB hb; (try clear hb); (try clear hb2); (try clear hk); (try clear hi))); try go_wp2_with (first | (go_at_call 8; (with_reducible refine (law15_awakeX.calls  t109 _ A17.out).mono ?_); rintro e w18 ⟨rfl, hb⟩; replace BK102 := kB BK102 hb; replace HB := gB HB hb; (try clear hb); (try clear hb2); (try clear hk); (try clear hi))))
            go_ret
            exact ⟨eA, bG HB.out⟩
      rw [if_neg c9] at H
      have c9b0 : decide (x7_1 < (l0.length : Int)) = false := decide_eq_false c9
      clear c9
      revert H
      refine bE ?_
      rintro ⟨t110, t111⟩ A19 H
      (try dsimp only at H)
      revert H
      refine bE ?_
      rintro ⟨t114, t115⟩ A20 H
      (try dsimp only at H)
      have HC21 := aM H
      clear H
      go_upto_region 13 with (first | (go_at_call 9; (with_reducible refine (flow_Net.calls k1 _ _ l0 t110 t111 _ ?side1 ?side2 A19.out).mono ?_); (case side1 => exact cA (Kd.C_below HR0.out HB.out)); (case side2 => exact HC0.out); rintro e w22 ⟨v112, rfl, ho0, hb⟩; have HO113 := aM (Kd.R_lower ho0 (below_size (bG HB.out))); replace BK102 := kB BK102 hb; replace HB := gB HB hb; (try clear hb); (try clear hb2); (try clear hk); (try clear hi); (try clear ho0); obtain ⟨hcz23_0, hcz23_1, hcz23_2, hcz23_3, hfz23_0, hfz23_1, hfz23_2, hfz23_3⟩ := cz4 BK102.out) | (go_at_call 10; (with_reducible refine (price_Present.calls _ _ l0 a1 a2_0 a2_1 _ _ l2_2 _ _ l2_3 t114 t115 _ ?side1 ?side2 ?side3 ?side4 ?side5 ?side6 A20.out).mono ?_); (case side1 => exact cA (Kd.C_below HR0.out HB.out)); (case side2 => exact HC0.out); (case side3 => exact cA (Kd.C_below HR2_2.out HB.out)); (case side4 => exact HC2_2.out); (case side5 => exact cA (Kd.C_below HR2_3.out HB.out)); (case side6 => exact HC2_3.out); rintro e w24 ⟨rfl, hb⟩; replace HO113 := rB HO113 hb; replace BK102 := kB BK102 hb; replace HB := gB HB hb; (try clear hb); (try clear hb2); (try clear hk); (try clear hi)))
      repeat (go_quiet (first | (go_at_call 9; (with_reducible refine (flow_Net.calls k1 _ _ l0 t110 t111 _ ?side1 ?side2 A19.out).mono ?_); (case side1 => exact cA (Kd.C_below HR0.out HB.out)); (case side2 => exact HC0.out); rintro e w22 ⟨v112, rfl, ho0, hb⟩; have HO113 := aM (Kd.R_lower ho0 (below_size (bG HB.out))); replace BK102 := kB BK102 hb; replace HB := gB HB hb; (try clear hb); (try clear hb2); (try clear hk); (try clear hi); (try clear ho0); obtain ⟨hcz23_0, hcz23_1, hcz23_2, hcz23_3, hfz23_0, hfz23_1, hfz23_2, hfz23_3⟩ := cz4 BK102.out) | (go_at_call 10; (with_reducible refine (price_Present.calls _ _ l0 a1 a2_0 a2_1 _ _ l2_2 _ _ l2_3 t114 t115 _ ?side1 ?side2 ?side3 ?side4 ?side5 ?side6 A20.out).mono ?_); (case side1 => exact cA (Kd.C_below HR0.out HB.out)); (case side2 => exact HC0.out); (case side3 => exact cA (Kd.C_below HR2_2.out HB.out)); (case side4 => exact HC2_2.out); (case side5 => exact cA (Kd.C_below HR2_3.out HB.out)); (case side6 => exact HC2_3.out); rintro e w24 ⟨rfl, hb⟩; replace HO113 := rB HO113 hb; replace BK102 := kB BK102 hb; replace HB := gB HB hb; (try clear hb); (try clear hb2); (try clear hk); (try clear hi))); go_upto_region 13 with (first | (go_at_call 9; (with_reducible refine (flow_Net.calls k1 _ _ l0 t110 t111 _ ?side1 ?side2 A19.out).mono ?_); (case side1 => exact cA (Kd.C_below HR0.out HB.out)); (case side2 => exact HC0.out); rintro e w22 ⟨v112, rfl, ho0, hb⟩; have HO113 := aM (Kd.R_lower ho0 (below_size (bG HB.out))); replace BK102 := kB BK102 hb; replace HB := gB HB hb; (try clear hb); (try clear hb2); (try clear hk); (try clear hi); (try clear ho0); obtain ⟨hcz23_0, hcz23_1, hcz23_2, hcz23_3, hfz23_0, hfz23_1, hfz23_2, hfz23_3⟩ := cz4 BK102.out) | (go_at_call 10; (with_reducible refine (price_Present.calls _ _ l0 a1 a2_0 a2_1 _ _ l2_2 _ _ l2_3 t114 t115 _ ?side1 ?side2 ?side3 ?side4 ?side5 ?side6 A20.out).mono ?_); (case side1 => exact cA (Kd.C_below HR0.out HB.out)); (case side2 => exact HC0.out); (case side3 => exact cA (Kd.C_below HR2_2.out HB.out)); (case side4 => exact HC2_2.out); (case side5 => exact cA (Kd.C_below HR2_3.out HB.out)); (case side6 => exact HC2_3.out); rintro e w24 ⟨rfl, hb⟩; replace HO113 := rB HO113 hb; replace BK102 := kB BK102 hb; replace HB := gB HB hb; (try clear hb); (try clear hb2); (try clear hk); (try clear hi))))
      (try simp only [Act.put, List.setIfInBounds_toArray, List.set_cons_zero, List.set_cons_succ])
      go_cut [73] (fun v73 wc => ∃ (kq : Nat) (x73_20 : Bool), v73 = .bool x73_20 ∧ Aside0 (tenorlaw15_PriceNets.j2 kq a1 t110 t114 x73_20 a2_0 a2_1 l2_2 l2_3 = some r) ∧ Aside0 (kq ≤ k1) ∧ Aside0 (Kd.R k31 31 wc w.heap.size (fun _ => True) v112 t110) ∧ Aside0 (wc.heap[gb102]? = some (.cells #[.int .i64 a2_0, .int .i64 a2_1, (.slice A2_2 l2_2.length c2_2), (.slice A2_3 l2_3.length c2_3)] 26 (0, 0))) ∧ Aside0 (Below w.heap.size w wc))
      case first =>
        have H := HC21.out
        clear HC21
        by_cases c25 : t111 = 0
        rotate_left
        · rw [if_neg c25] at H
          have c25b0 : (t111 == 0) = false := beq_eq_false_iff_ne.mpr c25
          have c25b1 : (t111 != 0) = true := bne_iff_ne.mpr c25
          (first | rw [c25b0] | (simp only [i64_w, i32_w]; rw [c25b0]) | skip)
          have H' := aM H
          clear H
          go_wp2
          repeat (go_quiet (fail); try go_wp2)
          go_meet
          case rel => exact ⟨_, (true), sA, H', ⟨by have := HK1.out; first | omega | exact Nat.le_refl _⟩, ⟨rA HO113.out⟩, ⟨kA BK102.out⟩, ⟨bG HB.out⟩⟩
        rw [if_pos c25] at H
        have c25b0 : (t111 == 0) = true := beq_iff_eq.mpr c25
        have c25b1 : (t111 != 0) = false := bne_eq_false_iff_eq.mpr c25
        clear c25
        (first | rw [c25b0] | (simp only [i64_w, i32_w]; rw [c25b0]) | skip)
        have H' := aM H
        clear H
        go_wp2
        repeat (go_quiet (fail); try go_wp2)
        go_meet
        case rel => exact ⟨_, ((t115 != 0)), sA, H', ⟨by have := HK1.out; first | omega | exact Nat.le_refl _⟩, ⟨rA HO113.out⟩, ⟨kA BK102.out⟩, ⟨bG HB.out⟩⟩
      case rest =>
        clear HC21
        try clear c1
        try clear p1
        try clear q1
        try clear hx1
        try clear c2
        try clear p2
        try clear c3
        try clear c5
        try clear p6
        try clear c9
        try clear c9b0
        try clear c10
        try clear c10b0
        try clear p10
        try clear q10
        try clear hx10
        try clear c11
        try clear c11b0
        try clear c12
        try clear c12b0
        try clear c13
        try clear c13b0
        try clear c14
        try clear c14b0
        try clear c15
        try clear c15b0
        try clear c15b1
        try clear c16
        try clear c16b0
        try clear c16b1
        try clear c25
        try clear c25b0
        try clear c25b1
        try clear hcz23_0
        try clear hcz23_1
        try clear hcz23_2
        try clear hcz23_3
        try clear hcz7_0
        try clear hcz7_1
        try clear hcz7_2
        try clear hcz7_3
        try clear hfz23_0
        try clear hfz23_1
        try clear hfz23_2
        try clear hfz23_3
        try clear hfz7_0
        try clear hfz7_1
        try clear hfz7_2
        try clear hfz7_3
        try clear hx105_0
        try clear hx105_1
        try clear hx105_2
        try clear hx106_0
        try clear hx106_1
        try clear hx106_2
        try clear hx107_0
        try clear hx107_1
        try clear hx107_2
        try clear hx108_0
        try clear hx108_1
        try clear hx108_2
        try clear p105
        try clear p106
        try clear p107
        try clear p108
        try clear p2
        try clear q105
        try clear q106
        try clear q107
        try clear q108
        obtain ⟨kq, x73_20, rfl, HA, HJ20, HO_9, BK102, HB⟩ := hcut
        cases kq with
        | zero => exact absurd HA.out (by simp [tenorlaw15_PriceNets.j2])
        | succ kj20 =>
          have H := HA.out
          clear HA
          simp only [tenorlaw15_PriceNets.j2] at H
          by_cases c26 : x73_20 = true
          · subst c26
            have H1 : ((law15_awakeX.f).bind fun t116 => (some t116)) = some r := by rw [if_pos rfl] at H; exact H
            clear H
            have H := H1
            clear H1
            revert H
            refine bE ?_
            rintro t116 A27 H
            obtain rfl := Option.some.inj H
            go_wp2_with (first | (go_at_call 8; (with_reducible refine (law15_awakeX.calls  t116 _ A27.out).mono ?_); rintro e w28 ⟨rfl, hb⟩; replace HO_9 := rB HO_9 hb; replace BK102 := kB BK102 hb; replace HB := gB HB hb; (try clear hb); (try clear hb2); (try clear hk); (try clear hi)))
            repeat (go_quiet (first | (go_at_call 8; (with_reducible refine (law15_awakeX.calls  t116 _ A27.out).mono ?_); rintro e w28 ⟨rfl, hb⟩; replace HO_9 := rB HO_9 hb; replace BK102 := kB BK102 hb; replace HB := gB HB hb; (try clear hb); (try clear hb2); (try clear hk); (try clear hi))); try go_wp2_with (first | (go_at_call 8; (with_reducible refine (law15_awakeX.calls  t116 _ A27.out).mono ?_); rintro e w28 ⟨rfl, hb⟩; replace HO_9 := rB HO_9 hb; replace BK102 := kB BK102 hb; replace HB := gB HB hb; (try clear hb); (try clear hb2); (try clear hk); (try clear hi))))
            go_ret
            exact ⟨eA, bG HB.out⟩
          replace c26 := Bool.eq_false_iff.mpr c26
          subst c26
          have H1 : ((price_Present.f t110 a1 a2_0 a2_1 l2_2 l2_3).bind fun bt117 => (if bt117.2 = 0 then ((api_Bits.f t114).bind fun t119 => ((api_Bits.f bt117.1).bind fun t120 => (if t119 = t120 then ((law15_awakeX.f).bind fun t121 => (some t121)) else (some false)))) else (some false))) = some r := by rw [if_neg (show ¬ (false = true) by decide)] at H; exact H
          clear H
          have H := H1
          clear H1
          revert H
          refine bE ?_
          rintro ⟨t117, t118⟩ A29 H
          (try dsimp only at H)
          by_cases c30 : t118 = 0
          rotate_left
          · rw [if_neg c30] at H
            have c30b0 : (t118 == 0) = false := beq_eq_false_iff_ne.mpr c30
            have c30b1 : (t118 != 0) = true := bne_iff_ne.mpr c30
            obtain rfl := Option.some.inj H
            obtain ⟨hcz42_0, hcz42_1, hcz42_2, hcz42_3, hfz42_0, hfz42_1, hfz42_2, hfz42_3⟩ := cz4 BK102.out
            obtain ⟨Ao43, co43, eo43⟩ := Kd.R_slice HO_9.out
            subst eo43
            go_wp2_with (first | (go_at_call 10; (with_reducible refine (price_Present.calls _ _ t110 a1 a2_0 a2_1 _ _ l2_2 _ _ l2_3 t117 t118 _ ?side1 ?side2 ?side3 ?side4 ?side5 ?side6 A29.out).mono ?_); (case side1 => exact cA ((Kd.R_reads' HO_9.out).2.2)); (case side2 => exact (Kd.R_reads' HO_9.out).2.1); (case side3 => exact cA (Kd.C_below HR2_2.out HB.out)); (case side4 => exact HC2_2.out); (case side5 => exact cA (Kd.C_below HR2_3.out HB.out)); (case side6 => exact HC2_3.out); rintro e w44 ⟨rfl, hb⟩; replace HO_9 := rB HO_9 hb; replace BK102 := kB BK102 hb; replace HB := gB HB hb; (try clear hb); (try clear hb2); (try clear hk); (try clear hi)))
            repeat (go_quiet (first | (go_at_call 10; (with_reducible refine (price_Present.calls _ _ t110 a1 a2_0 a2_1 _ _ l2_2 _ _ l2_3 t117 t118 _ ?side1 ?side2 ?side3 ?side4 ?side5 ?side6 A29.out).mono ?_); (case side1 => exact cA ((Kd.R_reads' HO_9.out).2.2)); (case side2 => exact (Kd.R_reads' HO_9.out).2.1); (case side3 => exact cA (Kd.C_below HR2_2.out HB.out)); (case side4 => exact HC2_2.out); (case side5 => exact cA (Kd.C_below HR2_3.out HB.out)); (case side6 => exact HC2_3.out); rintro e w44 ⟨rfl, hb⟩; replace HO_9 := rB HO_9 hb; replace BK102 := kB BK102 hb; replace HB := gB HB hb; (try clear hb); (try clear hb2); (try clear hk); (try clear hi))); try go_wp2_with (first | (go_at_call 10; (with_reducible refine (price_Present.calls _ _ t110 a1 a2_0 a2_1 _ _ l2_2 _ _ l2_3 t117 t118 _ ?side1 ?side2 ?side3 ?side4 ?side5 ?side6 A29.out).mono ?_); (case side1 => exact cA ((Kd.R_reads' HO_9.out).2.2)); (case side2 => exact (Kd.R_reads' HO_9.out).2.1); (case side3 => exact cA (Kd.C_below HR2_2.out HB.out)); (case side4 => exact HC2_2.out); (case side5 => exact cA (Kd.C_below HR2_3.out HB.out)); (case side6 => exact HC2_3.out); rintro e w44 ⟨rfl, hb⟩; replace HO_9 := rB HO_9 hb; replace BK102 := kB BK102 hb; replace HB := gB HB hb; (try clear hb); (try clear hb2); (try clear hk); (try clear hi))))
            go_ret
            exact ⟨eA, bG HB.out⟩
          rw [if_pos c30] at H
          have c30b0 : (t118 == 0) = true := beq_iff_eq.mpr c30
          have c30b1 : (t118 != 0) = false := bne_eq_false_iff_eq.mpr c30
          clear c30
          revert H
          refine bE ?_
          rintro t119 A31 H
          revert H
          refine bE ?_
          rintro t120 A32 H
          by_cases c33 : t119 = t120
          rotate_left
          · rw [if_neg c33] at H
            have c33b0 : (t119 == t120) = false := beq_eq_false_iff_ne.mpr c33
            have c33b1 : (t119 != t120) = true := bne_iff_ne.mpr c33
            obtain rfl := Option.some.inj H
            obtain ⟨hcz39_0, hcz39_1, hcz39_2, hcz39_3, hfz39_0, hfz39_1, hfz39_2, hfz39_3⟩ := cz4 BK102.out
            obtain ⟨Ao40, co40, eo40⟩ := Kd.R_slice HO_9.out
            subst eo40
            go_wp2_with (first | (go_at_call 10; (with_reducible refine (price_Present.calls _ _ t110 a1 a2_0 a2_1 _ _ l2_2 _ _ l2_3 t117 t118 _ ?side1 ?side2 ?side3 ?side4 ?side5 ?side6 A29.out).mono ?_); (case side1 => exact cA ((Kd.R_reads' HO_9.out).2.2)); (case side2 => exact (Kd.R_reads' HO_9.out).2.1); (case side3 => exact cA (Kd.C_below HR2_2.out HB.out)); (case side4 => exact HC2_2.out); (case side5 => exact cA (Kd.C_below HR2_3.out HB.out)); (case side6 => exact HC2_3.out); rintro e w41 ⟨rfl, hb⟩; replace HO_9 := rB HO_9 hb; replace BK102 := kB BK102 hb; replace HB := gB HB hb; (try clear hb); (try clear hb2); (try clear hk); (try clear hi)) | (go_at_call 11; (with_reducible refine (api_Bits.calls t114 t119 _ A31.out).mono ?_); rintro e w' ⟨rfl, ⟨nd, rfl⟩⟩; (try exact ddA)) | (go_at_call 11; (with_reducible refine (api_Bits.calls t117 t120 _ A32.out).mono ?_); rintro e w' ⟨rfl, ⟨nd, rfl⟩⟩; (try exact ddA)))
            repeat (go_quiet (first | (go_at_call 10; (with_reducible refine (price_Present.calls _ _ t110 a1 a2_0 a2_1 _ _ l2_2 _ _ l2_3 t117 t118 _ ?side1 ?side2 ?side3 ?side4 ?side5 ?side6 A29.out).mono ?_); (case side1 => exact cA ((Kd.R_reads' HO_9.out).2.2)); (case side2 => exact (Kd.R_reads' HO_9.out).2.1); (case side3 => exact cA (Kd.C_below HR2_2.out HB.out)); (case side4 => exact HC2_2.out); (case side5 => exact cA (Kd.C_below HR2_3.out HB.out)); (case side6 => exact HC2_3.out); rintro e w41 ⟨rfl, hb⟩; replace HO_9 := rB HO_9 hb; replace BK102 := kB BK102 hb; replace HB := gB HB hb; (try clear hb); (try clear hb2); (try clear hk); (try clear hi)) | (go_at_call 11; (with_reducible refine (api_Bits.calls t114 t119 _ A31.out).mono ?_); rintro e w' ⟨rfl, ⟨nd, rfl⟩⟩; (try exact ddA)) | (go_at_call 11; (with_reducible refine (api_Bits.calls t117 t120 _ A32.out).mono ?_); rintro e w' ⟨rfl, ⟨nd, rfl⟩⟩; (try exact ddA))); try go_wp2_with (first | (go_at_call 10; (with_reducible refine (price_Present.calls _ _ t110 a1 a2_0 a2_1 _ _ l2_2 _ _ l2_3 t117 t118 _ ?side1 ?side2 ?side3 ?side4 ?side5 ?side6 A29.out).mono ?_); (case side1 => exact cA ((Kd.R_reads' HO_9.out).2.2)); (case side2 => exact (Kd.R_reads' HO_9.out).2.1); (case side3 => exact cA (Kd.C_below HR2_2.out HB.out)); (case side4 => exact HC2_2.out); (case side5 => exact cA (Kd.C_below HR2_3.out HB.out)); (case side6 => exact HC2_3.out); rintro e w41 ⟨rfl, hb⟩; replace HO_9 := rB HO_9 hb; replace BK102 := kB BK102 hb; replace HB := gB HB hb; (try clear hb); (try clear hb2); (try clear hk); (try clear hi)) | (go_at_call 11; (with_reducible refine (api_Bits.calls t114 t119 _ A31.out).mono ?_); rintro e w' ⟨rfl, ⟨nd, rfl⟩⟩; (try exact ddA)) | (go_at_call 11; (with_reducible refine (api_Bits.calls t117 t120 _ A32.out).mono ?_); rintro e w' ⟨rfl, ⟨nd, rfl⟩⟩; (try exact ddA))))
            go_ret
            exact ⟨eA, bG HB.out⟩
          rw [if_pos c33] at H
          have c33b0 : (t119 == t120) = true := beq_iff_eq.mpr c33
          have c33b1 : (t119 != t120) = false := bne_eq_false_iff_eq.mpr c33
          clear c33
          revert H
          refine bE ?_
          rintro t121 A34 H
          obtain rfl := Option.some.inj H
          obtain ⟨hcz35_0, hcz35_1, hcz35_2, hcz35_3, hfz35_0, hfz35_1, hfz35_2, hfz35_3⟩ := cz4 BK102.out
          obtain ⟨Ao36, co36, eo36⟩ := Kd.R_slice HO_9.out
          subst eo36
          go_wp2_with (first | (go_at_call 10; (with_reducible refine (price_Present.calls _ _ t110 a1 a2_0 a2_1 _ _ l2_2 _ _ l2_3 t117 t118 _ ?side1 ?side2 ?side3 ?side4 ?side5 ?side6 A29.out).mono ?_); (case side1 => exact cA ((Kd.R_reads' HO_9.out).2.2)); (case side2 => exact (Kd.R_reads' HO_9.out).2.1); (case side3 => exact cA (Kd.C_below HR2_2.out HB.out)); (case side4 => exact HC2_2.out); (case side5 => exact cA (Kd.C_below HR2_3.out HB.out)); (case side6 => exact HC2_3.out); rintro e w37 ⟨rfl, hb⟩; replace HO_9 := rB HO_9 hb; replace BK102 := kB BK102 hb; replace HB := gB HB hb; (try clear hb); (try clear hb2); (try clear hk); (try clear hi)) | (go_at_call 11; (with_reducible refine (api_Bits.calls t114 t119 _ A31.out).mono ?_); rintro e w' ⟨rfl, ⟨nd, rfl⟩⟩; (try exact ddA)) | (go_at_call 11; (with_reducible refine (api_Bits.calls t117 t120 _ A32.out).mono ?_); rintro e w' ⟨rfl, ⟨nd, rfl⟩⟩; (try exact ddA)) | (go_at_call 8; (with_reducible refine (law15_awakeX.calls  t121 _ A34.out).mono ?_); rintro e w38 ⟨rfl, hb⟩; replace HO_9 := rB HO_9 hb; replace BK102 := kB BK102 hb; replace HB := gB HB hb; (try clear hb); (try clear hb2); (try clear hk); (try clear hi)))
          repeat (go_quiet (first | (go_at_call 10; (with_reducible refine (price_Present.calls _ _ t110 a1 a2_0 a2_1 _ _ l2_2 _ _ l2_3 t117 t118 _ ?side1 ?side2 ?side3 ?side4 ?side5 ?side6 A29.out).mono ?_); (case side1 => exact cA ((Kd.R_reads' HO_9.out).2.2)); (case side2 => exact (Kd.R_reads' HO_9.out).2.1); (case side3 => exact cA (Kd.C_below HR2_2.out HB.out)); (case side4 => exact HC2_2.out); (case side5 => exact cA (Kd.C_below HR2_3.out HB.out)); (case side6 => exact HC2_3.out); rintro e w37 ⟨rfl, hb⟩; replace HO_9 := rB HO_9 hb; replace BK102 := kB BK102 hb; replace HB := gB HB hb; (try clear hb); (try clear hb2); (try clear hk); (try clear hi)) | (go_at_call 11; (with_reducible refine (api_Bits.calls t114 t119 _ A31.out).mono ?_); rintro e w' ⟨rfl, ⟨nd, rfl⟩⟩; (try exact ddA)) | (go_at_call 11; (with_reducible refine (api_Bits.calls t117 t120 _ A32.out).mono ?_); rintro e w' ⟨rfl, ⟨nd, rfl⟩⟩; (try exact ddA)) | (go_at_call 8; (with_reducible refine (law15_awakeX.calls  t121 _ A34.out).mono ?_); rintro e w38 ⟨rfl, hb⟩; replace HO_9 := rB HO_9 hb; replace BK102 := kB BK102 hb; replace HB := gB HB hb; (try clear hb); (try clear hb2); (try clear hk); (try clear hi))); try go_wp2_with (first | (go_at_call 10; (with_reducible refine (price_Present.calls _ _ t110 a1 a2_0 a2_1 _ _ l2_2 _ _ l2_3 t117 t118 _ ?side1 ?side2 ?side3 ?side4 ?side5 ?side6 A29.out).mono ?_); (case side1 => exact cA ((Kd.R_reads' HO_9.out).2.2)); (case side2 => exact (Kd.R_reads' HO_9.out).2.1); (case side3 => exact cA (Kd.C_below HR2_2.out HB.out)); (case side4 => exact HC2_2.out); (case side5 => exact cA (Kd.C_below HR2_3.out HB.out)); (case side6 => exact HC2_3.out); rintro e w37 ⟨rfl, hb⟩; replace HO_9 := rB HO_9 hb; replace BK102 := kB BK102 hb; replace HB := gB HB hb; (try clear hb); (try clear hb2); (try clear hk); (try clear hi)) | (go_at_call 11; (with_reducible refine (api_Bits.calls t114 t119 _ A31.out).mono ?_); rintro e w' ⟨rfl, ⟨nd, rfl⟩⟩; (try exact ddA)) | (go_at_call 11; (with_reducible refine (api_Bits.calls t117 t120 _ A32.out).mono ?_); rintro e w' ⟨rfl, ⟨nd, rfl⟩⟩; (try exact ddA)) | (go_at_call 8; (with_reducible refine (law15_awakeX.calls  t121 _ A34.out).mono ?_); rintro e w38 ⟨rfl, hb⟩; replace HO_9 := rB HO_9 hb; replace BK102 := kB BK102 hb; replace HB := gB HB hb; (try clear hb); (try clear hb2); (try clear hk); (try clear hi))))
          go_ret
          exact ⟨eA, bG HB.out⟩

end
end Go.Proofs.YthkcphdhmkcdkaaGreat.FV2
