/- Texts packed into one: FQx0 FQx1. No condition. -/
import Derived.Test.YtmdoljecjliehaaGreatAi
import Derived.Test.YtmdoljecjliehaaGreatFPx1
import Derived.Test.YtmdoljecjliehaaGreatFPx8
section
/- Written by the session's fprint.py out of the translation. -/
namespace Go.Proofs.YtmdoljecjliehaaGreat.FQ
open Go.RowKit Go.Proofs.YtmdoljecjliehaaGreatW.PrintWords Go.Proofs.YtmdoljecjliehaaGreatW.PrintLast Go.Proofs.YtmdoljecjliehaaGreatW.PrintMore
attribute [local go_sem] max2_int min2_int max_two min_two max_three min_three max_four min_four   -- for this text's walks alone
open Go.Proofs.YtmdoljecjliehaaGreat.FX Go.Proofs.YtmdoljecjliehaaGreat.FP
attribute [local go_sem] run_store_float run_neg_float run_fmul run_fadd run_fsub run_fdiv run_ftoi isSome_setCell 
set_option linter.unusedVariables false
set_option linter.unusedSimpArgs false



def errW : Option Int → Value
 | none => .nilIface
 | some c => .iface 0 (.int .i64 c)
theorem errW_none : errW none = .nilIface := rfl
theorem errW_some (c : Int) : errW (some c) = .iface 0 (.int .i64 c) := rfl

-- the values' own types

end Go.Proofs.YtmdoljecjliehaaGreat.FQ
end

section
/- Written by the session's fprint.py out of the translation. -/
namespace Go.Proofs.YtmdoljecjliehaaGreat.FQ
open Go.RowKit Go.Proofs.YtmdoljecjliehaaGreatW.PrintWords Go.Proofs.YtmdoljecjliehaaGreatW.PrintLast Go.Proofs.YtmdoljecjliehaaGreatW.PrintMore
attribute [local go_sem] max2_int min2_int max_two min_two max_three min_three max_four min_four   -- for this text's walks alone
open Go.Proofs.YtmdoljecjliehaaGreat.FX Go.Proofs.YtmdoljecjliehaaGreat.FP
attribute [local go_sem] run_store_float run_neg_float run_fmul run_fadd run_fsub run_fdiv run_ftoi isSome_setCell 
set_option linter.unusedVariables false
set_option linter.unusedSimpArgs false

def curve_Factor.f (k : Nat) (a0_0 : Int) (a0_1 : Int) (l0_2 : List Int) (l0_3 : List Nat) (a1 : Int) : Option (Nat × Int) := (curve_Check.f k a0_0 a0_1 l0_2 l0_3).bind fun t102 => (if t102 = 0 then ((curve_table.f a0_0 a0_1 l0_2 l0_3).bind fun bt103 => ((interp_At.f k bt103.1 bt103.2.1 bt103.2.2 a1).bind fun bt110 => (some (bt110.1, bt110.2)))) else (some ((0 : Nat), t102)))
set_option maxHeartbeats 8000000 in
set_option maxRecDepth 100000 in
theorem curve_Factor.calls (k : Nat) (a0_0 : Int) (a0_1 : Int) (A0_2 : Option Addr) (c0_2 : Nat) (l0_2 : List Int) (A0_3 : Option Addr) (c0_3 : Nat) (l0_3 : List Nat) (a1 : Int) (r1 : Nat) (r2 : Int) (w : World) (hr0_2 : Kd.C (Kd.int .i64) w A0_2 l0_2.length l0_2) (hc0_2 : l0_2.length ≤ c0_2) (hr0_3 : Kd.C Kd.flt w A0_3 l0_3.length l0_3) (hc0_3 : l0_3.length ≤ c0_3) (h : curve_Factor.f k a0_0 a0_1 l0_2 l0_3 a1 = some (r1, r2)) :
  Calls Tryz.prog 17 #[.agg #[.int .i64 a0_0, .int .i64 a0_1, .slice A0_2 l0_2.length c0_2, .slice A0_3 l0_3.length c0_3], .int .i64 a1] w fun e w' => e = .returned (.tuple #[.float .f64 r1, .int .i64 r2]) ∧ Below w.heap.size w w' := by
 (have hu25 := Tryz.underlying25);(have HR0_2 := aM hr0_2);(have HC0_2 := aM hc0_2);(clear hr0_2 hc0_2);(have HR0_3 := aM hr0_3);(have HC0_3 := aM hc0_3);(clear hr0_3 hc0_3);(have HB := aM (Below.refl w.heap.size w));(have H : ((curve_Check.f k a0_0 a0_1 l0_2 l0_3).bind fun t102 => (if t102 = 0 then ((curve_table.f a0_0 a0_1 l0_2 l0_3).bind fun bt103 => ((interp_At.f k bt103.1 bt103.2.1 bt103.2.2 a1).bind fun bt110 => (some (bt110.1, bt110.2)))) else (some ((0 : Nat), t102)))) = some (r1, r2) := h);(clear h);(revert H);(refine bE ?_);(rintro t102 A3 H)
 by_cases c4 : t102 = 0
 rotate_left
 ·rw [if_neg c4] at H
  (have c4b0 : (t102 == 0) = false := beq_eq_false_iff_ne.mpr c4);(have c4b1 : (t102 != 0) = true := bne_iff_ne.mpr c4);(simp only [Option.some.injEq, Prod.mk.injEq] at H);(obtain ⟨rfl, rfl⟩ := H);(go_enter Tryz.func17, Tryz.ntmps17)
  go_wp2_with (first | ((with_reducible refine gD 2 rfl ?_); refine boxW (N := 2) #[.int .i64 a0_0, .int .i64 a0_1, .slice A0_2 l0_2.length c0_2, .slice A0_3 l0_3.length c0_3] 25 HB ?_; clear HB; intro gb101 w15 BK101 HB GW101; have GE101 := GW101; obtain ⟨hcz16_0, hcz16_1, hcz16_2, hcz16_3, hfz16_0, hfz16_1, hfz16_2, hfz16_3⟩ := cz4 BK101.out) | ((with_reducible refine gate_callee (f := 24) rfl ?_); refine goL (N := some 8) Tryz.func24 #[.agg #[.int .i64 a0_0, .int .i64 a0_1, .slice A0_2 l0_2.length c0_2, .slice A0_3 l0_3.length c0_3]] ?_; (with_reducible refine (curve_Check.calls k a0_0 a0_1 _ _ l0_2 _ _ l0_3 t102 _ ?side1 ?side2 ?side3 ?side4 A3.out).mono ?_); (case side1 => exact cA (Kd.C_below HR0_2.out HB.out)); (case side2 => exact HC0_2.out); (case side3 => exact cA (Kd.C_below HR0_3.out HB.out)); (case side4 => exact HC0_3.out); rintro e w17 ⟨rfl, hb⟩; refine ⟨_, rfl, ?_⟩; replace BK101 := kB BK101 hb; replace HB := gB HB hb; (try clear hb); (try clear hb2); (try clear hk); (try clear hi)))
  (go_ret2);(exact ⟨eA, bG HB.out⟩)
 (rw [if_pos c4] at H);(have c4b0 : (t102 == 0) = true := beq_iff_eq.mpr c4);(have c4b1 : (t102 != 0) = false := bne_eq_false_iff_eq.mpr c4);(clear c4);(revert H);(refine bE ?_);(rintro ⟨t103, t104, t107⟩ A5 H)
 (try dsimp only at H)
 (revert H);(refine bE ?_);(rintro ⟨t110, t111⟩ A6 H)
 (try dsimp only at H)
 (simp only [Option.some.injEq, Prod.mk.injEq] at H);(obtain ⟨rfl, rfl⟩ := H);(go_enter Tryz.func17, Tryz.ntmps17)
 go_wp2_with (first | ((with_reducible refine gD 2 rfl ?_); refine boxW (N := 2) #[.int .i64 a0_0, .int .i64 a0_1, .slice A0_2 l0_2.length c0_2, .slice A0_3 l0_3.length c0_3] 25 HB ?_; clear HB; intro gb101 w7 BK101 HB GW101; have GE101 := GW101; obtain ⟨hcz8_0, hcz8_1, hcz8_2, hcz8_3, hfz8_0, hfz8_1, hfz8_2, hfz8_3⟩ := cz4 BK101.out) | ((with_reducible refine gate_callee (f := 24) rfl ?_); refine goL (N := some 8) Tryz.func24 #[.agg #[.int .i64 a0_0, .int .i64 a0_1, .slice A0_2 l0_2.length c0_2, .slice A0_3 l0_3.length c0_3]] ?_; (with_reducible refine (curve_Check.calls k a0_0 a0_1 _ _ l0_2 _ _ l0_3 t102 _ ?side1 ?side2 ?side3 ?side4 A3.out).mono ?_); (case side1 => exact cA (Kd.C_below HR0_2.out HB.out)); (case side2 => exact HC0_2.out); (case side3 => exact cA (Kd.C_below HR0_3.out HB.out)); (case side4 => exact HC0_3.out); rintro e w9 ⟨rfl, hb⟩; refine ⟨_, rfl, ?_⟩; replace BK101 := kB BK101 hb; replace HB := gB HB hb; (try clear hb); (try clear hb2); (try clear hk); (try clear hi); obtain ⟨hcz10_0, hcz10_1, hcz10_2, hcz10_3, hfz10_0, hfz10_1, hfz10_2, hfz10_3⟩ := cz4 BK101.out) | ((with_reducible refine gate_callee (f := 69) rfl ?_); refine goL (N := some 13) Tryz.func69 #[.agg #[.int .i64 a0_0, .int .i64 a0_1, .slice A0_2 l0_2.length c0_2, .slice A0_3 l0_3.length c0_3]] ?_; (with_reducible refine (curve_table.calls a0_0 a0_1 _ _ l0_2 _ _ l0_3 t103 t104 t107 _ ?side1 ?side2 ?side3 ?side4 A5.out).mono ?_); (case side1 => exact cA (Kd.C_below HR0_2.out HB.out)); (case side2 => exact HC0_2.out); (case side3 => exact cA (Kd.C_below HR0_3.out HB.out)); (case side4 => exact HC0_3.out); rintro e w11 ⟨v105, v108, rfl, ho0, ho1, hb⟩; refine ⟨_, rfl, ?_⟩; have HO106 := aM (Kd.R_lower ho0 (below_size (bG HB.out))); have HO109 := aM (Kd.R_lower ho1 (below_size (bG HB.out))); replace BK101 := kB BK101 hb; replace HB := gB HB hb; (try clear hb); (try clear hb2); (try clear hk); (try clear hi); (try clear ho0); (try clear ho1); obtain ⟨Ao12, co12, eo12⟩ := Kd.R_slice HO106.out; subst eo12; obtain ⟨Ao13, co13, eo13⟩ := Kd.R_slice HO109.out; subst eo13) | ((with_reducible refine gate_callee (f := 68) rfl ?_); refine goL (N := some 15) Tryz.func68 #[.agg #[.int .i64 t103, .slice Ao12 t104.length co12, .slice Ao13 t107.length co13], .int .i64 a1] ?_; (with_reducible refine (interp_At.calls k t103 _ _ t104 _ _ t107 a1 t110 t111 _ ?side1 ?side2 ?side3 ?side4 A6.out).mono ?_); (case side1 => exact cA ((Kd.R_reads' HO106.out).2.2)); (case side2 => exact (Kd.R_reads' HO106.out).2.1); (case side3 => exact cA ((Kd.R_reads' HO109.out).2.2)); (case side4 => exact (Kd.R_reads' HO109.out).2.1); rintro e w14 ⟨rfl, hb⟩; refine ⟨_, rfl, ?_⟩; replace HO106 := rB HO106 hb; replace HO109 := rB HO109 hb; replace BK101 := kB BK101 hb; replace HB := gB HB hb; (try clear hb); (try clear hb2); (try clear hk); (try clear hi)))
 (go_ret2);(exact ⟨eA, bG HB.out⟩)

end Go.Proofs.YtmdoljecjliehaaGreat.FQ
end
