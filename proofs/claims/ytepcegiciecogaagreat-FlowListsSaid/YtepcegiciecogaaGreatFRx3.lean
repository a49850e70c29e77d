/- Written by the session's fprint.py out of the translation. -/
import Derived.Test.YtepcegiciecogaaGreatFRx0
import Derived.Test.YtepcegiciecogaaGreatFRx1
import Derived.Test.YtepcegiciecogaaGreatFRx2
namespace Go.Proofs.YtepcegiciecogaaGreat.FR
open Go.RowKit Go.Proofs.YtepcegiciecogaaGreatW.PrintWords Go.Proofs.YtepcegiciecogaaGreatW.PrintLast Go.Proofs.YtepcegiciecogaaGreatW.PrintMore
attribute [local go_sem] max2_int min2_int max_two min_two max_three min_three max_four min_four   -- for this text's walks alone
open Go.Proofs.YtepcegiciecogaaGreat.FX
attribute [local go_sem] run_store_float run_neg_float run_fmul isSome_setCell 
set_option linter.unusedVariables false
set_option linter.unusedSimpArgs false

/-! ### tenorref1_rounded: function 144 -/
def tenorref1_rounded.f (k : Nat) (l0 : List Int) (a1 : Int) (a2 : Bool) (a3 : Int) (a4 : Int) : Option (Int) := (tenorref1_Len.f k l0).bind fun t148 => (if (mx (wrap64 ((wrap64 (t148 - a3)) + a1)) a4) ≤ a1 then ((tenorref1_ShiftUp.f k l0 (wrap64 (a1 - (mx (wrap64 ((wrap64 (t148 - a3)) + a1)) a4)))).bind fun t149 => (if 0 ≤ (wrap64 (a3 - 1)) then ((tenorref1_digit.f t149 0).bind fun t152 => ((tenorref1_digit.f t149 1).bind fun t153 => (some (IntKind.u64.wrap ((IntKind.u64.wrap ((shl .u64 (IntKind.u64.wrap (wrap64 ((mx (wrap64 ((wrap64 (t148 - a3)) + a1)) a4) - a4))) (wrap64 (a3 - 1))) + t152)) + (IntKind.u64.wrap (t153 * 4294967296))))))) else (none))) else ((tenorref1_ShiftDown.f k l0 (wrap64 ((mx (wrap64 ((wrap64 (t148 - a3)) + a1)) a4) - a1))).bind fun bt154 => ((tenorref1_ShiftDown.f k l0 (wrap64 ((wrap64 ((mx (wrap64 ((wrap64 (t148 - a3)) + a1)) a4) - a1)) - 1))).bind fun bt158 => ((tenorref1_digit.f bt154.1 0).bind fun t162 => ((tenorref1_digit.f bt154.1 1).bind fun t163 => ((tenorref1_digit.f bt158.1 0).bind fun t164 => (if (Int.tmod t164 2) = 1 then (if bt158.2 = true then (if 0 ≤ (wrap64 (a3 - 1)) then (some (IntKind.u64.wrap ((shl .u64 (IntKind.u64.wrap (wrap64 ((mx (wrap64 ((wrap64 (t148 - a3)) + a1)) a4) - a4))) (wrap64 (a3 - 1))) + (IntKind.u64.wrap ((IntKind.u64.wrap (t162 + (IntKind.u64.wrap (t163 * 4294967296)))) + 1))))) else (none)) else (if a2 = true then (if 0 ≤ (wrap64 (a3 - 1)) then (some (IntKind.u64.wrap ((shl .u64 (IntKind.u64.wrap (wrap64 ((mx (wrap64 ((wrap64 (t148 - a3)) + a1)) a4) - a4))) (wrap64 (a3 - 1))) + (IntKind.u64.wrap ((IntKind.u64.wrap (t162 + (IntKind.u64.wrap (t163 * 4294967296)))) + 1))))) else (none)) else (if (Int.tmod (IntKind.u64.wrap (t162 + (IntKind.u64.wrap (t163 * 4294967296)))) 2) = 1 then (if 0 ≤ (wrap64 (a3 - 1)) then (some (IntKind.u64.wrap ((shl .u64 (IntKind.u64.wrap (wrap64 ((mx (wrap64 ((wrap64 (t148 - a3)) + a1)) a4) - a4))) (wrap64 (a3 - 1))) + (IntKind.u64.wrap ((IntKind.u64.wrap (t162 + (IntKind.u64.wrap (t163 * 4294967296)))) + 1))))) else (none)) else (if 0 ≤ (wrap64 (a3 - 1)) then (some (IntKind.u64.wrap ((shl .u64 (IntKind.u64.wrap (wrap64 ((mx (wrap64 ((wrap64 (t148 - a3)) + a1)) a4) - a4))) (wrap64 (a3 - 1))) + (IntKind.u64.wrap (t162 + (IntKind.u64.wrap (t163 * 4294967296))))))) else (none))))) else (if 0 ≤ (wrap64 (a3 - 1)) then (some (IntKind.u64.wrap ((shl .u64 (IntKind.u64.wrap (wrap64 ((mx (wrap64 ((wrap64 (t148 - a3)) + a1)) a4) - a4))) (wrap64 (a3 - 1))) + (IntKind.u64.wrap (t162 + (IntKind.u64.wrap (t163 * 4294967296))))))) else (none)))))))))
set_option maxHeartbeats 8000000 in
set_option maxRecDepth 100000 in
theorem tenorref1_rounded.calls (k : Nat) (A0 : Option Addr) (c0 : Nat) (l0 : List Int) (a1 : Int) (a2 : Bool) (a3 : Int) (a4 : Int) (r : Int) (w : World) (hr0 : Kd.C (Kd.int .u64) w A0 l0.length l0) (hc0 : l0.length ≤ c0) (h : tenorref1_rounded.f k l0 a1 a2 a3 a4 = some r) :
    Calls Tryz.prog 144 #[.slice A0 l0.length c0, .int .i64 a1, .bool a2, .int .i64 a3, .int .i64 a4] w fun e w' => e = .returned (.int .u64 r) ∧ Below w.heap.size w w' := by
  have HR0 := Aside0.mk hr0
  have HC0 := Aside0.mk hc0
  clear hr0 hc0
  have HB := Aside0.mk (Below.refl w.heap.size w)
  have H : ((tenorref1_Len.f k l0).bind fun t148 => (if (mx (wrap64 ((wrap64 (t148 - a3)) + a1)) a4) ≤ a1 then ((tenorref1_ShiftUp.f k l0 (wrap64 (a1 - (mx (wrap64 ((wrap64 (t148 - a3)) + a1)) a4)))).bind fun t149 => (if 0 ≤ (wrap64 (a3 - 1)) then ((tenorref1_digit.f t149 0).bind fun t152 => ((tenorref1_digit.f t149 1).bind fun t153 => (some (IntKind.u64.wrap ((IntKind.u64.wrap ((shl .u64 (IntKind.u64.wrap (wrap64 ((mx (wrap64 ((wrap64 (t148 - a3)) + a1)) a4) - a4))) (wrap64 (a3 - 1))) + t152)) + (IntKind.u64.wrap (t153 * 4294967296))))))) else (none))) else ((tenorref1_ShiftDown.f k l0 (wrap64 ((mx (wrap64 ((wrap64 (t148 - a3)) + a1)) a4) - a1))).bind fun bt154 => ((tenorref1_ShiftDown.f k l0 (wrap64 ((wrap64 ((mx (wrap64 ((wrap64 (t148 - a3)) + a1)) a4) - a1)) - 1))).bind fun bt158 => ((tenorref1_digit.f bt154.1 0).bind fun t162 => ((tenorref1_digit.f bt154.1 1).bind fun t163 => ((tenorref1_digit.f bt158.1 0).bind fun t164 => (if (Int.tmod t164 2) = 1 then (if bt158.2 = true then (if 0 ≤ (wrap64 (a3 - 1)) then (some (IntKind.u64.wrap ((shl .u64 (IntKind.u64.wrap (wrap64 ((mx (wrap64 ((wrap64 (t148 - a3)) + a1)) a4) - a4))) (wrap64 (a3 - 1))) + (IntKind.u64.wrap ((IntKind.u64.wrap (t162 + (IntKind.u64.wrap (t163 * 4294967296)))) + 1))))) else (none)) else (if a2 = true then (if 0 ≤ (wrap64 (a3 - 1)) then (some (IntKind.u64.wrap ((shl .u64 (IntKind.u64.wrap (wrap64 ((mx (wrap64 ((wrap64 (t148 - a3)) + a1)) a4) - a4))) (wrap64 (a3 - 1))) + (IntKind.u64.wrap ((IntKind.u64.wrap (t162 + (IntKind.u64.wrap (t163 * 4294967296)))) + 1))))) else (none)) else (if (Int.tmod (IntKind.u64.wrap (t162 + (IntKind.u64.wrap (t163 * 4294967296)))) 2) = 1 then (if 0 ≤ (wrap64 (a3 - 1)) then (some (IntKind.u64.wrap ((shl .u64 (IntKind.u64.wrap (wrap64 ((mx (wrap64 ((wrap64 (t148 - a3)) + a1)) a4) - a4))) (wrap64 (a3 - 1))) + (IntKind.u64.wrap ((IntKind.u64.wrap (t162 + (IntKind.u64.wrap (t163 * 4294967296)))) + 1))))) else (none)) else (if 0 ≤ (wrap64 (a3 - 1)) then (some (IntKind.u64.wrap ((shl .u64 (IntKind.u64.wrap (wrap64 ((mx (wrap64 ((wrap64 (t148 - a3)) + a1)) a4) - a4))) (wrap64 (a3 - 1))) + (IntKind.u64.wrap (t162 + (IntKind.u64.wrap (t163 * 4294967296))))))) else (none))))) else (if 0 ≤ (wrap64 (a3 - 1)) then (some (IntKind.u64.wrap ((shl .u64 (IntKind.u64.wrap (wrap64 ((mx (wrap64 ((wrap64 (t148 - a3)) + a1)) a4) - a4))) (wrap64 (a3 - 1))) + (IntKind.u64.wrap (t162 + (IntKind.u64.wrap (t163 * 4294967296))))))) else (none)))))))))) = some r := h
  clear h
  replace H := Option.bind_eq_some_iff.mp H
  obtain ⟨t148, A60, H⟩ := H
  have A6 := Aside0.mk A60
  clear A60
  obtain ⟨ji7, hji7⟩ : ∃ j_ : Int, (mx (wrap64 ((wrap64 (t148 - a3)) + a1)) a4) = j_ := ⟨_, rfl⟩
  replace H : (if (ji7) ≤ a1 then ((tenorref1_ShiftUp.f k l0 (wrap64 (a1 - (ji7)))).bind fun t149 => (if 0 ≤ (wrap64 (a3 - 1)) then ((tenorref1_digit.f t149 0).bind fun t152 => ((tenorref1_digit.f t149 1).bind fun t153 => (some (IntKind.u64.wrap ((IntKind.u64.wrap ((shl .u64 (IntKind.u64.wrap (wrap64 ((ji7) - a4))) (wrap64 (a3 - 1))) + t152)) + (IntKind.u64.wrap (t153 * 4294967296))))))) else (none))) else ((tenorref1_ShiftDown.f k l0 (wrap64 ((ji7) - a1))).bind fun bt154 => ((tenorref1_ShiftDown.f k l0 (wrap64 ((wrap64 ((ji7) - a1)) - 1))).bind fun bt158 => ((tenorref1_digit.f bt154.1 0).bind fun t162 => ((tenorref1_digit.f bt154.1 1).bind fun t163 => ((tenorref1_digit.f bt158.1 0).bind fun t164 => (if (Int.tmod t164 2) = 1 then (if bt158.2 = true then (if 0 ≤ (wrap64 (a3 - 1)) then (some (IntKind.u64.wrap ((shl .u64 (IntKind.u64.wrap (wrap64 ((ji7) - a4))) (wrap64 (a3 - 1))) + (IntKind.u64.wrap ((IntKind.u64.wrap (t162 + (IntKind.u64.wrap (t163 * 4294967296)))) + 1))))) else (none)) else (if a2 = true then (if 0 ≤ (wrap64 (a3 - 1)) then (some (IntKind.u64.wrap ((shl .u64 (IntKind.u64.wrap (wrap64 ((ji7) - a4))) (wrap64 (a3 - 1))) + (IntKind.u64.wrap ((IntKind.u64.wrap (t162 + (IntKind.u64.wrap (t163 * 4294967296)))) + 1))))) else (none)) else (if (Int.tmod (IntKind.u64.wrap (t162 + (IntKind.u64.wrap (t163 * 4294967296)))) 2) = 1 then (if 0 ≤ (wrap64 (a3 - 1)) then (some (IntKind.u64.wrap ((shl .u64 (IntKind.u64.wrap (wrap64 ((ji7) - a4))) (wrap64 (a3 - 1))) + (IntKind.u64.wrap ((IntKind.u64.wrap (t162 + (IntKind.u64.wrap (t163 * 4294967296)))) + 1))))) else (none)) else (if 0 ≤ (wrap64 (a3 - 1)) then (some (IntKind.u64.wrap ((shl .u64 (IntKind.u64.wrap (wrap64 ((ji7) - a4))) (wrap64 (a3 - 1))) + (IntKind.u64.wrap (t162 + (IntKind.u64.wrap (t163 * 4294967296))))))) else (none))))) else (if 0 ≤ (wrap64 (a3 - 1)) then (some (IntKind.u64.wrap ((shl .u64 (IntKind.u64.wrap (wrap64 ((ji7) - a4))) (wrap64 (a3 - 1))) + (IntKind.u64.wrap (t162 + (IntKind.u64.wrap (t163 * 4294967296))))))) else (none))))))))) = some r := by first | (rw [hji7] at H; exact H) | (simp only [hji7] at H ⊢; exact H)
  (try rw [hji7] at A6)
  have hji7_ : (if (wrap64 ((wrap64 (t148 - a3)) + a1)) < a4 then a4 else (wrap64 ((wrap64 (t148 - a3)) + a1))) = ji7 := hji7
  by_cases c8 : (ji7) ≤ a1
  · rw [if_pos c8] at H
    have c8b0 : decide ((ji7) ≤ a1) = true := decide_eq_true c8
    clear c8
    replace H := Option.bind_eq_some_iff.mp H
    obtain ⟨t149, A90, H⟩ := H
    have A9 := Aside0.mk A90
    clear A90
    obtain ⟨ji10, hji10⟩ : ∃ j_ : Int, (wrap64 (a3 - 1)) = j_ := ⟨_, rfl⟩
    replace H : (if 0 ≤ (ji10) then ((tenorref1_digit.f t149 0).bind fun t152 => ((tenorref1_digit.f t149 1).bind fun t153 => (some (IntKind.u64.wrap ((IntKind.u64.wrap ((shl .u64 (IntKind.u64.wrap (wrap64 ((ji7) - a4))) (ji10)) + t152)) + (IntKind.u64.wrap (t153 * 4294967296))))))) else (none)) = some r := by first | (rw [hji10] at H; exact H) | (simp only [hji10] at H ⊢; exact H)
    (try rw [hji10] at A6)
    (try rw [hji10] at A9)
    have hji10w : (IntKind.i64.wrap (a3 - 1)) = ji10 := (i64_w _).trans hji10
    by_cases c11 : 0 ≤ (ji10)
    rotate_left
    · rw [if_neg c11] at H
      exact absurd H (by simp)
    rw [if_pos c11] at H
    have c11b0 := eq_true c11
    have c11b1 : decide (0 ≤ (ji10)) = true := decide_eq_true c11
    clear c11
    obtain ⟨ji12, hji12⟩ : ∃ j_ : Int, (shl .u64 (IntKind.u64.wrap (wrap64 ((ji7) - a4))) (ji10)) = j_ := ⟨_, rfl⟩
    replace H : ((tenorref1_digit.f t149 0).bind fun t152 => ((tenorref1_digit.f t149 1).bind fun t153 => (some (IntKind.u64.wrap ((IntKind.u64.wrap ((ji12) + t152)) + (IntKind.u64.wrap (t153 * 4294967296))))))) = some r := by first | (rw [hji12] at H; exact H) | (simp only [hji12] at H ⊢; exact H)
    (try rw [hji12] at A6)
    (try rw [hji12] at A9)
    have hji12_ : (IntKind.u64.wrap ((IntKind.u64.wrap (wrap64 ((ji7) - a4))) * 2 ^ min (ji10).toNat 64)) = ji12 := hji12
    have hji12z : (ji10) ≤ 64 → (IntKind.u64.wrap ((IntKind.u64.wrap (wrap64 ((ji7) - a4))) * 2 ^ (ji10).toNat)) = ji12 := shl_small hji12
    replace H := Option.bind_eq_some_iff.mp H
    obtain ⟨t152, A130, H⟩ := H
    have A13 := Aside0.mk A130
    clear A130
    replace H := Option.bind_eq_some_iff.mp H
    obtain ⟨t153, A140, H⟩ := H
    have A14 := Aside0.mk A140
    clear A140
    obtain rfl := Option.some.inj H
    go_enter Tryz.func144, Tryz.ntmps144
    go_wp2_with (first | (go_at_call 132; (with_reducible refine (tenorref1_Len.calls k _ _ l0 t148 _ ?side1 ?side2 A6.out).mono ?_); (case side1 => exact cA HR0.out); (case side2 => exact HC0.out); rintro e w' ⟨rfl, ⟨nd, rfl⟩⟩; (try exact ddA)) | (go_at_call 134; (with_reducible refine (tenorref1_ShiftUp.calls k _ _ l0 (wrap64 (a1 - (ji7))) t149 _ ?side1 ?side2 A9.out).mono ?_); (case side1 => exact cA HR0.out); (case side2 => exact HC0.out); rintro e w15 ⟨v150, rfl, ho0, hb⟩; have n0_ := Aside0.mk (Kd.R_lower ho0 (below_size (bA HB.out))); have n1_ := Aside0.mk (below_step (bA HB.out) hb); clear HB; have HO151 := n0_; have HB := n1_; clear n0_ n1_; (try clear hb); (try clear hb2); (try clear hk); (try clear hi); (try clear ho0); obtain ⟨Ao16, co16, eo16⟩ := Kd.R_slice HO151.out; subst eo16) | (go_at_call 140; (with_reducible refine (tenorref1_digit.calls _ _ t149 0 t152 _ ?side1 ?side2 A13.out).mono ?_); (case side1 => exact cA ((Kd.R_reads' HO151.out).2.2)); (case side2 => exact (Kd.R_reads' HO151.out).2.1); rintro e w' ⟨rfl, ⟨nd, rfl⟩⟩; (try exact ddA)) | (go_at_call 140; (with_reducible refine (tenorref1_digit.calls _ _ t149 1 t153 _ ?side1 ?side2 A14.out).mono ?_); (case side1 => exact cA ((Kd.R_reads' HO151.out).2.2)); (case side2 => exact (Kd.R_reads' HO151.out).2.1); rintro e w' ⟨rfl, ⟨nd, rfl⟩⟩; (try exact ddA)))
    repeat (go_quiet (first | (go_at_call 132; (with_reducible refine (tenorref1_Len.calls k _ _ l0 t148 _ ?side1 ?side2 A6.out).mono ?_); (case side1 => exact cA HR0.out); (case side2 => exact HC0.out); rintro e w' ⟨rfl, ⟨nd, rfl⟩⟩; (try exact ddA)) | (go_at_call 134; (with_reducible refine (tenorref1_ShiftUp.calls k _ _ l0 (wrap64 (a1 - (ji7))) t149 _ ?side1 ?side2 A9.out).mono ?_); (case side1 => exact cA HR0.out); (case side2 => exact HC0.out); rintro e w15 ⟨v150, rfl, ho0, hb⟩; have n0_ := Aside0.mk (Kd.R_lower ho0 (below_size (bA HB.out))); have n1_ := Aside0.mk (below_step (bA HB.out) hb); clear HB; have HO151 := n0_; have HB := n1_; clear n0_ n1_; (try clear hb); (try clear hb2); (try clear hk); (try clear hi); (try clear ho0); obtain ⟨Ao16, co16, eo16⟩ := Kd.R_slice HO151.out; subst eo16) | (go_at_call 140; (with_reducible refine (tenorref1_digit.calls _ _ t149 0 t152 _ ?side1 ?side2 A13.out).mono ?_); (case side1 => exact cA ((Kd.R_reads' HO151.out).2.2)); (case side2 => exact (Kd.R_reads' HO151.out).2.1); rintro e w' ⟨rfl, ⟨nd, rfl⟩⟩; (try exact ddA)) | (go_at_call 140; (with_reducible refine (tenorref1_digit.calls _ _ t149 1 t153 _ ?side1 ?side2 A14.out).mono ?_); (case side1 => exact cA ((Kd.R_reads' HO151.out).2.2)); (case side2 => exact (Kd.R_reads' HO151.out).2.1); rintro e w' ⟨rfl, ⟨nd, rfl⟩⟩; (try exact ddA))); try go_wp2_with (first | (go_at_call 132; (with_reducible refine (tenorref1_Len.calls k _ _ l0 t148 _ ?side1 ?side2 A6.out).mono ?_); (case side1 => exact cA HR0.out); (case side2 => exact HC0.out); rintro e w' ⟨rfl, ⟨nd, rfl⟩⟩; (try exact ddA)) | (go_at_call 134; (with_reducible refine (tenorref1_ShiftUp.calls k _ _ l0 (wrap64 (a1 - (ji7))) t149 _ ?side1 ?side2 A9.out).mono ?_); (case side1 => exact cA HR0.out); (case side2 => exact HC0.out); rintro e w15 ⟨v150, rfl, ho0, hb⟩; have n0_ := Aside0.mk (Kd.R_lower ho0 (below_size (bA HB.out))); have n1_ := Aside0.mk (below_step (bA HB.out) hb); clear HB; have HO151 := n0_; have HB := n1_; clear n0_ n1_; (try clear hb); (try clear hb2); (try clear hk); (try clear hi); (try clear ho0); obtain ⟨Ao16, co16, eo16⟩ := Kd.R_slice HO151.out; subst eo16) | (go_at_call 140; (with_reducible refine (tenorref1_digit.calls _ _ t149 0 t152 _ ?side1 ?side2 A13.out).mono ?_); (case side1 => exact cA ((Kd.R_reads' HO151.out).2.2)); (case side2 => exact (Kd.R_reads' HO151.out).2.1); rintro e w' ⟨rfl, ⟨nd, rfl⟩⟩; (try exact ddA)) | (go_at_call 140; (with_reducible refine (tenorref1_digit.calls _ _ t149 1 t153 _ ?side1 ?side2 A14.out).mono ?_); (case side1 => exact cA ((Kd.R_reads' HO151.out).2.2)); (case side2 => exact (Kd.R_reads' HO151.out).2.1); rintro e w' ⟨rfl, ⟨nd, rfl⟩⟩; (try exact ddA))))
    go_ret
    exact ⟨by first | rfl | (simp [errW_none, errW_some] <;> rfl) | (simp only [← hji7, ← hji10, ← hji12]; first | rfl | (simp [errW_none, errW_some] <;> rfl)) | (simp [*, errW_none, errW_some] <;> rfl), bA HB.out⟩
  rw [if_neg c8] at H
  have c8b0 : decide ((ji7) ≤ a1) = false := decide_eq_false c8
  clear c8
  replace H := Option.bind_eq_some_iff.mp H
  obtain ⟨⟨t154, t155⟩, A170, H⟩ := H
  have A17 := Aside0.mk A170
  clear A170
  replace H := Option.bind_eq_some_iff.mp H
  obtain ⟨⟨t158, t159⟩, A180, H⟩ := H
  have A18 := Aside0.mk A180
  clear A180
  replace H := Option.bind_eq_some_iff.mp H
  obtain ⟨t162, A190, H⟩ := H
  have A19 := Aside0.mk A190
  clear A190
  replace H := Option.bind_eq_some_iff.mp H
  obtain ⟨t163, A200, H⟩ := H
  have A20 := Aside0.mk A200
  clear A200
  replace H := Option.bind_eq_some_iff.mp H
  obtain ⟨t164, A210, H⟩ := H
  have A21 := Aside0.mk A210
  clear A210
  by_cases c22 : (Int.tmod t164 2) = 1
  rotate_left
  · rw [if_neg c22] at H
    have c22b0 : ((Int.tmod t164 2) == 1) = false := beq_eq_false_iff_ne.mpr c22
    have c22b1 : ((Int.tmod t164 2) != 1) = true := bne_iff_ne.mpr c22
    obtain ⟨ji54, hji54⟩ : ∃ j_ : Int, (wrap64 (a3 - 1)) = j_ := ⟨_, rfl⟩
    replace H : (if 0 ≤ (ji54) then (some (IntKind.u64.wrap ((shl .u64 (IntKind.u64.wrap (wrap64 ((ji7) - a4))) (ji54)) + (IntKind.u64.wrap (t162 + (IntKind.u64.wrap (t163 * 4294967296))))))) else (none)) = some r := by first | (rw [hji54] at H; exact H) | (simp only [hji54] at H ⊢; exact H)
    (try rw [hji54] at A6)
    (try rw [hji54] at A17)
    (try rw [hji54] at A18)
    (try rw [hji54] at A19)
    (try rw [hji54] at A20)
    (try rw [hji54] at A21)
    have hji54w : (IntKind.i64.wrap (a3 - 1)) = ji54 := (i64_w _).trans hji54
    by_cases c55 : 0 ≤ (ji54)
    rotate_left
    · rw [if_neg c55] at H
      exact absurd H (by simp)
    rw [if_pos c55] at H
    have c55b0 := eq_true c55
    have c55b1 : decide (0 ≤ (ji54)) = true := decide_eq_true c55
    clear c55
    obtain ⟨ji56, hji56⟩ : ∃ j_ : Int, (shl .u64 (IntKind.u64.wrap (wrap64 ((ji7) - a4))) (ji54)) = j_ := ⟨_, rfl⟩
    replace H : (some (IntKind.u64.wrap ((ji56) + (IntKind.u64.wrap (t162 + (IntKind.u64.wrap (t163 * 4294967296))))))) = some r := by first | (rw [hji56] at H; exact H) | (simp only [hji56] at H ⊢; exact H)
    (try rw [hji56] at A6)
    (try rw [hji56] at A17)
    (try rw [hji56] at A18)
    (try rw [hji56] at A19)
    (try rw [hji56] at A20)
    (try rw [hji56] at A21)
    have hji56_ : (IntKind.u64.wrap ((IntKind.u64.wrap (wrap64 ((ji7) - a4))) * 2 ^ min (ji54).toNat 64)) = ji56 := hji56
    have hji56z : (ji54) ≤ 64 → (IntKind.u64.wrap ((IntKind.u64.wrap (wrap64 ((ji7) - a4))) * 2 ^ (ji54).toNat)) = ji56 := shl_small hji56
    obtain rfl := Option.some.inj H
    go_enter Tryz.func144, Tryz.ntmps144
    go_wp2_with (first | (go_at_call 132; (with_reducible refine (tenorref1_Len.calls k _ _ l0 t148 _ ?side1 ?side2 A6.out).mono ?_); (case side1 => exact cA HR0.out); (case side2 => exact HC0.out); rintro e w' ⟨rfl, ⟨nd, rfl⟩⟩; (try exact ddA)) | (go_at_call 156; (with_reducible refine (tenorref1_ShiftDown.calls k _ _ l0 (wrap64 ((ji7) - a1)) t154 t155 _ ?side1 ?side2 A17.out).mono ?_); (case side1 => exact cA HR0.out); (case side2 => exact HC0.out); rintro e w57 ⟨v156, rfl, ho0, hb⟩; have n0_ := Aside0.mk (Kd.R_lower ho0 (below_size (bA HB.out))); have n1_ := Aside0.mk (below_step (bA HB.out) hb); clear HB; have HO157 := n0_; have HB := n1_; clear n0_ n1_; (try clear hb); (try clear hb2); (try clear hk); (try clear hi); (try clear ho0)) | (go_at_call 156; (with_reducible refine (tenorref1_ShiftDown.calls k _ _ l0 (wrap64 ((wrap64 ((ji7) - a1)) - 1)) t158 t159 _ ?side1 ?side2 A18.out).mono ?_); (case side1 => exact cA (Kd.C_below HR0.out HB.out)); (case side2 => exact HC0.out); rintro e w58 ⟨v160, rfl, ho0, hb⟩; have n0_ := Aside0.mk (Kd.R_elder' (rA HO157.out) (Kd.R_base ho0) hb); have n1_ := Aside0.mk (Kd.R_lower (Kd.R_new' ho0 (Kd.R_lt (rA HO157.out))) (below_size (bA HB.out))); have n2_ := Aside0.mk (below_step (bA HB.out) hb); clear HO157; clear HB; have HO157 := n0_; have HO161 := n1_; have HB := n2_; clear n0_ n1_ n2_; (try clear hb); (try clear hb2); (try clear hk); (try clear hi); (try clear ho0); obtain ⟨Ao59, co59, eo59⟩ := Kd.R_slice HO157.out; subst eo59) | (go_at_call 140; (with_reducible refine (tenorref1_digit.calls _ _ t154 0 t162 _ ?side1 ?side2 A19.out).mono ?_); (case side1 => exact cA ((Kd.R_reads' HO157.out).2.2)); (case side2 => exact (Kd.R_reads' HO157.out).2.1); rintro e w' ⟨rfl, ⟨nd, rfl⟩⟩; (try exact ddA)) | (go_at_call 140; (with_reducible refine (tenorref1_digit.calls _ _ t154 1 t163 _ ?side1 ?side2 A20.out).mono ?_); (case side1 => exact cA ((Kd.R_reads' HO157.out).2.2)); (case side2 => exact (Kd.R_reads' HO157.out).2.1); rintro e w' ⟨rfl, ⟨nd, rfl⟩⟩; (try exact ddA); obtain ⟨Ao60, co60, eo60⟩ := Kd.R_slice HO161.out; subst eo60) | (go_at_call 140; (with_reducible refine (tenorref1_digit.calls _ _ t158 0 t164 _ ?side1 ?side2 A21.out).mono ?_); (case side1 => exact cA ((Kd.R_reads' HO161.out).2.2)); (case side2 => exact (Kd.R_reads' HO161.out).2.1); rintro e w' ⟨rfl, ⟨nd, rfl⟩⟩; (try exact ddA)))
    go_ret
    exact ⟨by first | rfl | (simp [errW_none, errW_some] <;> rfl) | (simp only [← hji7, ← hji54, ← hji56]; first | rfl | (simp [errW_none, errW_some] <;> rfl)) | (simp [*, errW_none, errW_some] <;> rfl), bA HB.out⟩
  rw [if_pos c22] at H
  have c22b0 : ((Int.tmod t164 2) == 1) = true := beq_iff_eq.mpr c22
  have c22b1 : ((Int.tmod t164 2) != 1) = false := bne_eq_false_iff_eq.mpr c22
  clear c22
  by_cases c23 : t159 = true
  · subst c23
    have H1 : (if 0 ≤ (wrap64 (a3 - 1)) then (some (IntKind.u64.wrap ((shl .u64 (IntKind.u64.wrap (wrap64 ((ji7) - a4))) (wrap64 (a3 - 1))) + (IntKind.u64.wrap ((IntKind.u64.wrap (t162 + (IntKind.u64.wrap (t163 * 4294967296)))) + 1))))) else (none)) = some r := by rw [if_pos rfl] at H; exact H
    clear H
    have H := H1
    clear H1
    obtain ⟨ji24, hji24⟩ : ∃ j_ : Int, (wrap64 (a3 - 1)) = j_ := ⟨_, rfl⟩
    replace H : (if 0 ≤ (ji24) then (some (IntKind.u64.wrap ((shl .u64 (IntKind.u64.wrap (wrap64 ((ji7) - a4))) (ji24)) + (IntKind.u64.wrap ((IntKind.u64.wrap (t162 + (IntKind.u64.wrap (t163 * 4294967296)))) + 1))))) else (none)) = some r := by first | (rw [hji24] at H; exact H) | (simp only [hji24] at H ⊢; exact H)
    (try rw [hji24] at A6)
    (try rw [hji24] at A17)
    (try rw [hji24] at A18)
    (try rw [hji24] at A19)
    (try rw [hji24] at A20)
    (try rw [hji24] at A21)
    have hji24w : (IntKind.i64.wrap (a3 - 1)) = ji24 := (i64_w _).trans hji24
    by_cases c25 : 0 ≤ (ji24)
    rotate_left
    · rw [if_neg c25] at H
      exact absurd H (by simp)
    rw [if_pos c25] at H
    have c25b0 := eq_true c25
    have c25b1 : decide (0 ≤ (ji24)) = true := decide_eq_true c25
    clear c25
    obtain ⟨ji26, hji26⟩ : ∃ j_ : Int, (shl .u64 (IntKind.u64.wrap (wrap64 ((ji7) - a4))) (ji24)) = j_ := ⟨_, rfl⟩
    replace H : (some (IntKind.u64.wrap ((ji26) + (IntKind.u64.wrap ((IntKind.u64.wrap (t162 + (IntKind.u64.wrap (t163 * 4294967296)))) + 1))))) = some r := by first | (rw [hji26] at H; exact H) | (simp only [hji26] at H ⊢; exact H)
    (try rw [hji26] at A6)
    (try rw [hji26] at A17)
    (try rw [hji26] at A18)
    (try rw [hji26] at A19)
    (try rw [hji26] at A20)
    (try rw [hji26] at A21)
    have hji26_ : (IntKind.u64.wrap ((IntKind.u64.wrap (wrap64 ((ji7) - a4))) * 2 ^ min (ji24).toNat 64)) = ji26 := hji26
    have hji26z : (ji24) ≤ 64 → (IntKind.u64.wrap ((IntKind.u64.wrap (wrap64 ((ji7) - a4))) * 2 ^ (ji24).toNat)) = ji26 := shl_small hji26
    obtain rfl := Option.some.inj H
    go_enter Tryz.func144, Tryz.ntmps144
    go_wp2_with (first | (go_at_call 132; (with_reducible refine (tenorref1_Len.calls k _ _ l0 t148 _ ?side1 ?side2 A6.out).mono ?_); (case side1 => exact cA HR0.out); (case side2 => exact HC0.out); rintro e w' ⟨rfl, ⟨nd, rfl⟩⟩; (try exact ddA)) | (go_at_call 156; (with_reducible refine (tenorref1_ShiftDown.calls k _ _ l0 (wrap64 ((ji7) - a1)) t154 t155 _ ?side1 ?side2 A17.out).mono ?_); (case side1 => exact cA HR0.out); (case side2 => exact HC0.out); rintro e w27 ⟨v156, rfl, ho0, hb⟩; have n0_ := Aside0.mk (Kd.R_lower ho0 (below_size (bA HB.out))); have n1_ := Aside0.mk (below_step (bA HB.out) hb); clear HB; have HO157 := n0_; have HB := n1_; clear n0_ n1_; (try clear hb); (try clear hb2); (try clear hk); (try clear hi); (try clear ho0)) | (go_at_call 156; (with_reducible refine (tenorref1_ShiftDown.calls k _ _ l0 (wrap64 ((wrap64 ((ji7) - a1)) - 1)) t158 true _ ?side1 ?side2 A18.out).mono ?_); (case side1 => exact cA (Kd.C_below HR0.out HB.out)); (case side2 => exact HC0.out); rintro e w28 ⟨v160, rfl, ho0, hb⟩; have n0_ := Aside0.mk (Kd.R_elder' (rA HO157.out) (Kd.R_base ho0) hb); have n1_ := Aside0.mk (Kd.R_lower (Kd.R_new' ho0 (Kd.R_lt (rA HO157.out))) (below_size (bA HB.out))); have n2_ := Aside0.mk (below_step (bA HB.out) hb); clear HO157; clear HB; have HO157 := n0_; have HO161 := n1_; have HB := n2_; clear n0_ n1_ n2_; (try clear hb); (try clear hb2); (try clear hk); (try clear hi); (try clear ho0); obtain ⟨Ao29, co29, eo29⟩ := Kd.R_slice HO157.out; subst eo29) | (go_at_call 140; (with_reducible refine (tenorref1_digit.calls _ _ t154 0 t162 _ ?side1 ?side2 A19.out).mono ?_); (case side1 => exact cA ((Kd.R_reads' HO157.out).2.2)); (case side2 => exact (Kd.R_reads' HO157.out).2.1); rintro e w' ⟨rfl, ⟨nd, rfl⟩⟩; (try exact ddA)) | (go_at_call 140; (with_reducible refine (tenorref1_digit.calls _ _ t154 1 t163 _ ?side1 ?side2 A20.out).mono ?_); (case side1 => exact cA ((Kd.R_reads' HO157.out).2.2)); (case side2 => exact (Kd.R_reads' HO157.out).2.1); rintro e w' ⟨rfl, ⟨nd, rfl⟩⟩; (try exact ddA); obtain ⟨Ao30, co30, eo30⟩ := Kd.R_slice HO161.out; subst eo30) | (go_at_call 140; (with_reducible refine (tenorref1_digit.calls _ _ t158 0 t164 _ ?side1 ?side2 A21.out).mono ?_); (case side1 => exact cA ((Kd.R_reads' HO161.out).2.2)); (case side2 => exact (Kd.R_reads' HO161.out).2.1); rintro e w' ⟨rfl, ⟨nd, rfl⟩⟩; (try exact ddA)))
    go_ret
    exact ⟨by first | rfl | (simp [errW_none, errW_some] <;> rfl) | (simp only [← hji7, ← hji24, ← hji26]; first | rfl | (simp [errW_none, errW_some] <;> rfl)) | (simp [*, errW_none, errW_some] <;> rfl), bA HB.out⟩
  replace c23 := Bool.eq_false_iff.mpr c23
  subst c23
  have H1 : (if a2 = true then (if 0 ≤ (wrap64 (a3 - 1)) then (some (IntKind.u64.wrap ((shl .u64 (IntKind.u64.wrap (wrap64 ((ji7) - a4))) (wrap64 (a3 - 1))) + (IntKind.u64.wrap ((IntKind.u64.wrap (t162 + (IntKind.u64.wrap (t163 * 4294967296)))) + 1))))) else (none)) else (if (Int.tmod (IntKind.u64.wrap (t162 + (IntKind.u64.wrap (t163 * 4294967296)))) 2) = 1 then (if 0 ≤ (wrap64 (a3 - 1)) then (some (IntKind.u64.wrap ((shl .u64 (IntKind.u64.wrap (wrap64 ((ji7) - a4))) (wrap64 (a3 - 1))) + (IntKind.u64.wrap ((IntKind.u64.wrap (t162 + (IntKind.u64.wrap (t163 * 4294967296)))) + 1))))) else (none)) else (if 0 ≤ (wrap64 (a3 - 1)) then (some (IntKind.u64.wrap ((shl .u64 (IntKind.u64.wrap (wrap64 ((ji7) - a4))) (wrap64 (a3 - 1))) + (IntKind.u64.wrap (t162 + (IntKind.u64.wrap (t163 * 4294967296))))))) else (none)))) = some r := by rw [if_neg (show ¬ (false = true) by decide)] at H; exact H
  clear H
  have H := H1
  clear H1
  by_cases c31 : a2 = true
  · subst c31
    have H1 : (if 0 ≤ (wrap64 (a3 - 1)) then (some (IntKind.u64.wrap ((shl .u64 (IntKind.u64.wrap (wrap64 ((ji7) - a4))) (wrap64 (a3 - 1))) + (IntKind.u64.wrap ((IntKind.u64.wrap (t162 + (IntKind.u64.wrap (t163 * 4294967296)))) + 1))))) else (none)) = some r := by rw [if_pos rfl] at H; exact H
    clear H
    have H := H1
    clear H1
    obtain ⟨ji32, hji32⟩ : ∃ j_ : Int, (wrap64 (a3 - 1)) = j_ := ⟨_, rfl⟩
    replace H : (if 0 ≤ (ji32) then (some (IntKind.u64.wrap ((shl .u64 (IntKind.u64.wrap (wrap64 ((ji7) - a4))) (ji32)) + (IntKind.u64.wrap ((IntKind.u64.wrap (t162 + (IntKind.u64.wrap (t163 * 4294967296)))) + 1))))) else (none)) = some r := by first | (rw [hji32] at H; exact H) | (simp only [hji32] at H ⊢; exact H)
    (try rw [hji32] at A6)
    (try rw [hji32] at A17)
    (try rw [hji32] at A18)
    (try rw [hji32] at A19)
    (try rw [hji32] at A20)
    (try rw [hji32] at A21)
    have hji32w : (IntKind.i64.wrap (a3 - 1)) = ji32 := (i64_w _).trans hji32
    by_cases c33 : 0 ≤ (ji32)
    rotate_left
    · rw [if_neg c33] at H
      exact absurd H (by simp)
    rw [if_pos c33] at H
    have c33b0 := eq_true c33
    have c33b1 : decide (0 ≤ (ji32)) = true := decide_eq_true c33
    clear c33
    obtain ⟨ji34, hji34⟩ : ∃ j_ : Int, (shl .u64 (IntKind.u64.wrap (wrap64 ((ji7) - a4))) (ji32)) = j_ := ⟨_, rfl⟩
    replace H : (some (IntKind.u64.wrap ((ji34) + (IntKind.u64.wrap ((IntKind.u64.wrap (t162 + (IntKind.u64.wrap (t163 * 4294967296)))) + 1))))) = some r := by first | (rw [hji34] at H; exact H) | (simp only [hji34] at H ⊢; exact H)
    (try rw [hji34] at A6)
    (try rw [hji34] at A17)
    (try rw [hji34] at A18)
    (try rw [hji34] at A19)
    (try rw [hji34] at A20)
    (try rw [hji34] at A21)
    have hji34_ : (IntKind.u64.wrap ((IntKind.u64.wrap (wrap64 ((ji7) - a4))) * 2 ^ min (ji32).toNat 64)) = ji34 := hji34
    have hji34z : (ji32) ≤ 64 → (IntKind.u64.wrap ((IntKind.u64.wrap (wrap64 ((ji7) - a4))) * 2 ^ (ji32).toNat)) = ji34 := shl_small hji34
    obtain rfl := Option.some.inj H
    go_enter Tryz.func144, Tryz.ntmps144
    go_wp2_with (first | (go_at_call 132; (with_reducible refine (tenorref1_Len.calls k _ _ l0 t148 _ ?side1 ?side2 A6.out).mono ?_); (case side1 => exact cA HR0.out); (case side2 => exact HC0.out); rintro e w' ⟨rfl, ⟨nd, rfl⟩⟩; (try exact ddA)) | (go_at_call 156; (with_reducible refine (tenorref1_ShiftDown.calls k _ _ l0 (wrap64 ((ji7) - a1)) t154 t155 _ ?side1 ?side2 A17.out).mono ?_); (case side1 => exact cA HR0.out); (case side2 => exact HC0.out); rintro e w35 ⟨v156, rfl, ho0, hb⟩; have n0_ := Aside0.mk (Kd.R_lower ho0 (below_size (bA HB.out))); have n1_ := Aside0.mk (below_step (bA HB.out) hb); clear HB; have HO157 := n0_; have HB := n1_; clear n0_ n1_; (try clear hb); (try clear hb2); (try clear hk); (try clear hi); (try clear ho0)) | (go_at_call 156; (with_reducible refine (tenorref1_ShiftDown.calls k _ _ l0 (wrap64 ((wrap64 ((ji7) - a1)) - 1)) t158 false _ ?side1 ?side2 A18.out).mono ?_); (case side1 => exact cA (Kd.C_below HR0.out HB.out)); (case side2 => exact HC0.out); rintro e w36 ⟨v160, rfl, ho0, hb⟩; have n0_ := Aside0.mk (Kd.R_elder' (rA HO157.out) (Kd.R_base ho0) hb); have n1_ := Aside0.mk (Kd.R_lower (Kd.R_new' ho0 (Kd.R_lt (rA HO157.out))) (below_size (bA HB.out))); have n2_ := Aside0.mk (below_step (bA HB.out) hb); clear HO157; clear HB; have HO157 := n0_; have HO161 := n1_; have HB := n2_; clear n0_ n1_ n2_; (try clear hb); (try clear hb2); (try clear hk); (try clear hi); (try clear ho0); obtain ⟨Ao37, co37, eo37⟩ := Kd.R_slice HO157.out; subst eo37) | (go_at_call 140; (with_reducible refine (tenorref1_digit.calls _ _ t154 0 t162 _ ?side1 ?side2 A19.out).mono ?_); (case side1 => exact cA ((Kd.R_reads' HO157.out).2.2)); (case side2 => exact (Kd.R_reads' HO157.out).2.1); rintro e w' ⟨rfl, ⟨nd, rfl⟩⟩; (try exact ddA)) | (go_at_call 140; (with_reducible refine (tenorref1_digit.calls _ _ t154 1 t163 _ ?side1 ?side2 A20.out).mono ?_); (case side1 => exact cA ((Kd.R_reads' HO157.out).2.2)); (case side2 => exact (Kd.R_reads' HO157.out).2.1); rintro e w' ⟨rfl, ⟨nd, rfl⟩⟩; (try exact ddA); obtain ⟨Ao38, co38, eo38⟩ := Kd.R_slice HO161.out; subst eo38) | (go_at_call 140; (with_reducible refine (tenorref1_digit.calls _ _ t158 0 t164 _ ?side1 ?side2 A21.out).mono ?_); (case side1 => exact cA ((Kd.R_reads' HO161.out).2.2)); (case side2 => exact (Kd.R_reads' HO161.out).2.1); rintro e w' ⟨rfl, ⟨nd, rfl⟩⟩; (try exact ddA)))
    go_ret
    exact ⟨by first | rfl | (simp [errW_none, errW_some] <;> rfl) | (simp only [← hji7, ← hji32, ← hji34]; first | rfl | (simp [errW_none, errW_some] <;> rfl)) | (simp [*, errW_none, errW_some] <;> rfl), bA HB.out⟩
  replace c31 := Bool.eq_false_iff.mpr c31
  subst c31
  have H1 : (if (Int.tmod (IntKind.u64.wrap (t162 + (IntKind.u64.wrap (t163 * 4294967296)))) 2) = 1 then (if 0 ≤ (wrap64 (a3 - 1)) then (some (IntKind.u64.wrap ((shl .u64 (IntKind.u64.wrap (wrap64 ((ji7) - a4))) (wrap64 (a3 - 1))) + (IntKind.u64.wrap ((IntKind.u64.wrap (t162 + (IntKind.u64.wrap (t163 * 4294967296)))) + 1))))) else (none)) else (if 0 ≤ (wrap64 (a3 - 1)) then (some (IntKind.u64.wrap ((shl .u64 (IntKind.u64.wrap (wrap64 ((ji7) - a4))) (wrap64 (a3 - 1))) + (IntKind.u64.wrap (t162 + (IntKind.u64.wrap (t163 * 4294967296))))))) else (none))) = some r := by rw [if_neg (show ¬ (false = true) by decide)] at H; exact H
  clear H
  have H := H1
  clear H1
  by_cases c39 : (Int.tmod (IntKind.u64.wrap (t162 + (IntKind.u64.wrap (t163 * 4294967296)))) 2) = 1
  rotate_left
  · rw [if_neg c39] at H
    have c39b0 : ((Int.tmod (IntKind.u64.wrap (t162 + (IntKind.u64.wrap (t163 * 4294967296)))) 2) == 1) = false := beq_eq_false_iff_ne.mpr c39
    have c39b1 : ((Int.tmod (IntKind.u64.wrap (t162 + (IntKind.u64.wrap (t163 * 4294967296)))) 2) != 1) = true := bne_iff_ne.mpr c39
    obtain ⟨ji47, hji47⟩ : ∃ j_ : Int, (wrap64 (a3 - 1)) = j_ := ⟨_, rfl⟩
    replace H : (if 0 ≤ (ji47) then (some (IntKind.u64.wrap ((shl .u64 (IntKind.u64.wrap (wrap64 ((ji7) - a4))) (ji47)) + (IntKind.u64.wrap (t162 + (IntKind.u64.wrap (t163 * 4294967296))))))) else (none)) = some r := by first | (rw [hji47] at H; exact H) | (simp only [hji47] at H ⊢; exact H)
    (try rw [hji47] at A6)
    (try rw [hji47] at A17)
    (try rw [hji47] at A18)
    (try rw [hji47] at A19)
    (try rw [hji47] at A20)
    (try rw [hji47] at A21)
    have hji47w : (IntKind.i64.wrap (a3 - 1)) = ji47 := (i64_w _).trans hji47
    by_cases c48 : 0 ≤ (ji47)
    rotate_left
    · rw [if_neg c48] at H
      exact absurd H (by simp)
    rw [if_pos c48] at H
    have c48b0 := eq_true c48
    have c48b1 : decide (0 ≤ (ji47)) = true := decide_eq_true c48
    clear c48
    obtain ⟨ji49, hji49⟩ : ∃ j_ : Int, (shl .u64 (IntKind.u64.wrap (wrap64 ((ji7) - a4))) (ji47)) = j_ := ⟨_, rfl⟩
    replace H : (some (IntKind.u64.wrap ((ji49) + (IntKind.u64.wrap (t162 + (IntKind.u64.wrap (t163 * 4294967296))))))) = some r := by first | (rw [hji49] at H; exact H) | (simp only [hji49] at H ⊢; exact H)
    (try rw [hji49] at A6)
    (try rw [hji49] at A17)
    (try rw [hji49] at A18)
    (try rw [hji49] at A19)
    (try rw [hji49] at A20)
    (try rw [hji49] at A21)
    have hji49_ : (IntKind.u64.wrap ((IntKind.u64.wrap (wrap64 ((ji7) - a4))) * 2 ^ min (ji47).toNat 64)) = ji49 := hji49
    have hji49z : (ji47) ≤ 64 → (IntKind.u64.wrap ((IntKind.u64.wrap (wrap64 ((ji7) - a4))) * 2 ^ (ji47).toNat)) = ji49 := shl_small hji49
    obtain rfl := Option.some.inj H
    go_enter Tryz.func144, Tryz.ntmps144
    go_wp2_with (first | (go_at_call 132; (with_reducible refine (tenorref1_Len.calls k _ _ l0 t148 _ ?side1 ?side2 A6.out).mono ?_); (case side1 => exact cA HR0.out); (case side2 => exact HC0.out); rintro e w' ⟨rfl, ⟨nd, rfl⟩⟩; (try exact ddA)) | (go_at_call 156; (with_reducible refine (tenorref1_ShiftDown.calls k _ _ l0 (wrap64 ((ji7) - a1)) t154 t155 _ ?side1 ?side2 A17.out).mono ?_); (case side1 => exact cA HR0.out); (case side2 => exact HC0.out); rintro e w50 ⟨v156, rfl, ho0, hb⟩; have n0_ := Aside0.mk (Kd.R_lower ho0 (below_size (bA HB.out))); have n1_ := Aside0.mk (below_step (bA HB.out) hb); clear HB; have HO157 := n0_; have HB := n1_; clear n0_ n1_; (try clear hb); (try clear hb2); (try clear hk); (try clear hi); (try clear ho0)) | (go_at_call 156; (with_reducible refine (tenorref1_ShiftDown.calls k _ _ l0 (wrap64 ((wrap64 ((ji7) - a1)) - 1)) t158 false _ ?side1 ?side2 A18.out).mono ?_); (case side1 => exact cA (Kd.C_below HR0.out HB.out)); (case side2 => exact HC0.out); rintro e w51 ⟨v160, rfl, ho0, hb⟩; have n0_ := Aside0.mk (Kd.R_elder' (rA HO157.out) (Kd.R_base ho0) hb); have n1_ := Aside0.mk (Kd.R_lower (Kd.R_new' ho0 (Kd.R_lt (rA HO157.out))) (below_size (bA HB.out))); have n2_ := Aside0.mk (below_step (bA HB.out) hb); clear HO157; clear HB; have HO157 := n0_; have HO161 := n1_; have HB := n2_; clear n0_ n1_ n2_; (try clear hb); (try clear hb2); (try clear hk); (try clear hi); (try clear ho0); obtain ⟨Ao52, co52, eo52⟩ := Kd.R_slice HO157.out; subst eo52) | (go_at_call 140; (with_reducible refine (tenorref1_digit.calls _ _ t154 0 t162 _ ?side1 ?side2 A19.out).mono ?_); (case side1 => exact cA ((Kd.R_reads' HO157.out).2.2)); (case side2 => exact (Kd.R_reads' HO157.out).2.1); rintro e w' ⟨rfl, ⟨nd, rfl⟩⟩; (try exact ddA)) | (go_at_call 140; (with_reducible refine (tenorref1_digit.calls _ _ t154 1 t163 _ ?side1 ?side2 A20.out).mono ?_); (case side1 => exact cA ((Kd.R_reads' HO157.out).2.2)); (case side2 => exact (Kd.R_reads' HO157.out).2.1); rintro e w' ⟨rfl, ⟨nd, rfl⟩⟩; (try exact ddA); obtain ⟨Ao53, co53, eo53⟩ := Kd.R_slice HO161.out; subst eo53) | (go_at_call 140; (with_reducible refine (tenorref1_digit.calls _ _ t158 0 t164 _ ?side1 ?side2 A21.out).mono ?_); (case side1 => exact cA ((Kd.R_reads' HO161.out).2.2)); (case side2 => exact (Kd.R_reads' HO161.out).2.1); rintro e w' ⟨rfl, ⟨nd, rfl⟩⟩; (try exact ddA)))
    go_ret
    exact ⟨by first | rfl | (simp [errW_none, errW_some] <;> rfl) | (simp only [← hji7, ← hji47, ← hji49]; first | rfl | (simp [errW_none, errW_some] <;> rfl)) | (simp [*, errW_none, errW_some] <;> rfl), bA HB.out⟩
  rw [if_pos c39] at H
  have c39b0 : ((Int.tmod (IntKind.u64.wrap (t162 + (IntKind.u64.wrap (t163 * 4294967296)))) 2) == 1) = true := beq_iff_eq.mpr c39
  have c39b1 : ((Int.tmod (IntKind.u64.wrap (t162 + (IntKind.u64.wrap (t163 * 4294967296)))) 2) != 1) = false := bne_eq_false_iff_eq.mpr c39
  clear c39
  obtain ⟨ji40, hji40⟩ : ∃ j_ : Int, (wrap64 (a3 - 1)) = j_ := ⟨_, rfl⟩
  replace H : (if 0 ≤ (ji40) then (some (IntKind.u64.wrap ((shl .u64 (IntKind.u64.wrap (wrap64 ((ji7) - a4))) (ji40)) + (IntKind.u64.wrap ((IntKind.u64.wrap (t162 + (IntKind.u64.wrap (t163 * 4294967296)))) + 1))))) else (none)) = some r := by first | (rw [hji40] at H; exact H) | (simp only [hji40] at H ⊢; exact H)
  (try rw [hji40] at A6)
  (try rw [hji40] at A17)
  (try rw [hji40] at A18)
  (try rw [hji40] at A19)
  (try rw [hji40] at A20)
  (try rw [hji40] at A21)
  have hji40w : (IntKind.i64.wrap (a3 - 1)) = ji40 := (i64_w _).trans hji40
  by_cases c41 : 0 ≤ (ji40)
  rotate_left
  · rw [if_neg c41] at H
    exact absurd H (by simp)
  rw [if_pos c41] at H
  have c41b0 := eq_true c41
  have c41b1 : decide (0 ≤ (ji40)) = true := decide_eq_true c41
  clear c41
  obtain ⟨ji42, hji42⟩ : ∃ j_ : Int, (shl .u64 (IntKind.u64.wrap (wrap64 ((ji7) - a4))) (ji40)) = j_ := ⟨_, rfl⟩
  replace H : (some (IntKind.u64.wrap ((ji42) + (IntKind.u64.wrap ((IntKind.u64.wrap (t162 + (IntKind.u64.wrap (t163 * 4294967296)))) + 1))))) = some r := by first | (rw [hji42] at H; exact H) | (simp only [hji42] at H ⊢; exact H)
  (try rw [hji42] at A6)
  (try rw [hji42] at A17)
  (try rw [hji42] at A18)
  (try rw [hji42] at A19)
  (try rw [hji42] at A20)
  (try rw [hji42] at A21)
  have hji42_ : (IntKind.u64.wrap ((IntKind.u64.wrap (wrap64 ((ji7) - a4))) * 2 ^ min (ji40).toNat 64)) = ji42 := hji42
  have hji42z : (ji40) ≤ 64 → (IntKind.u64.wrap ((IntKind.u64.wrap (wrap64 ((ji7) - a4))) * 2 ^ (ji40).toNat)) = ji42 := shl_small hji42
  obtain rfl := Option.some.inj H
  go_enter Tryz.func144, Tryz.ntmps144
  go_wp2_with (first | (go_at_call 132; (with_reducible refine (tenorref1_Len.calls k _ _ l0 t148 _ ?side1 ?side2 A6.out).mono ?_); (case side1 => exact cA HR0.out); (case side2 => exact HC0.out); rintro e w' ⟨rfl, ⟨nd, rfl⟩⟩; (try exact ddA)) | (go_at_call 156; (with_reducible refine (tenorref1_ShiftDown.calls k _ _ l0 (wrap64 ((ji7) - a1)) t154 t155 _ ?side1 ?side2 A17.out).mono ?_); (case side1 => exact cA HR0.out); (case side2 => exact HC0.out); rintro e w43 ⟨v156, rfl, ho0, hb⟩; have n0_ := Aside0.mk (Kd.R_lower ho0 (below_size (bA HB.out))); have n1_ := Aside0.mk (below_step (bA HB.out) hb); clear HB; have HO157 := n0_; have HB := n1_; clear n0_ n1_; (try clear hb); (try clear hb2); (try clear hk); (try clear hi); (try clear ho0)) | (go_at_call 156; (with_reducible refine (tenorref1_ShiftDown.calls k _ _ l0 (wrap64 ((wrap64 ((ji7) - a1)) - 1)) t158 false _ ?side1 ?side2 A18.out).mono ?_); (case side1 => exact cA (Kd.C_below HR0.out HB.out)); (case side2 => exact HC0.out); rintro e w44 ⟨v160, rfl, ho0, hb⟩; have n0_ := Aside0.mk (Kd.R_elder' (rA HO157.out) (Kd.R_base ho0) hb); have n1_ := Aside0.mk (Kd.R_lower (Kd.R_new' ho0 (Kd.R_lt (rA HO157.out))) (below_size (bA HB.out))); have n2_ := Aside0.mk (below_step (bA HB.out) hb); clear HO157; clear HB; have HO157 := n0_; have HO161 := n1_; have HB := n2_; clear n0_ n1_ n2_; (try clear hb); (try clear hb2); (try clear hk); (try clear hi); (try clear ho0); obtain ⟨Ao45, co45, eo45⟩ := Kd.R_slice HO157.out; subst eo45) | (go_at_call 140; (with_reducible refine (tenorref1_digit.calls _ _ t154 0 t162 _ ?side1 ?side2 A19.out).mono ?_); (case side1 => exact cA ((Kd.R_reads' HO157.out).2.2)); (case side2 => exact (Kd.R_reads' HO157.out).2.1); rintro e w' ⟨rfl, ⟨nd, rfl⟩⟩; (try exact ddA)) | (go_at_call 140; (with_reducible refine (tenorref1_digit.calls _ _ t154 1 t163 _ ?side1 ?side2 A20.out).mono ?_); (case side1 => exact cA ((Kd.R_reads' HO157.out).2.2)); (case side2 => exact (Kd.R_reads' HO157.out).2.1); rintro e w' ⟨rfl, ⟨nd, rfl⟩⟩; (try exact ddA); obtain ⟨Ao46, co46, eo46⟩ := Kd.R_slice HO161.out; subst eo46) | (go_at_call 140; (with_reducible refine (tenorref1_digit.calls _ _ t158 0 t164 _ ?side1 ?side2 A21.out).mono ?_); (case side1 => exact cA ((Kd.R_reads' HO161.out).2.2)); (case side2 => exact (Kd.R_reads' HO161.out).2.1); rintro e w' ⟨rfl, ⟨nd, rfl⟩⟩; (try exact ddA)))
  go_ret
  exact ⟨by first | rfl | (simp [errW_none, errW_some] <;> rfl) | (simp only [← hji7, ← hji40, ← hji42]; first | rfl | (simp [errW_none, errW_some] <;> rfl)) | (simp [*, errW_none, errW_some] <;> rfl), bA HB.out⟩

/-! ### tenorref1_NearMore: function 119 -/
def tenorref1_NearMore.j0 : Nat → Bool → Bool → List Int → Int → Option (Int)
  | 0, _, _, _, _ => none
  | k + 1, x20, x166000, x166001, x166002 => if x20 = true then ((tenorref1_made.f x166000 9218868437227405312).bind fun t169 => (some t169)) else ((tenorref1_made.f x166000 0).bind fun t170 => (some t170))
def tenorref1_NearMore.f (k : Nat) (a0_0 : Bool) (l0_1 : List Int) (a0_2 : Int) (a1 : Bool) : Option (Int) := (tenorref1_Zero.f a0_0 l0_1 a0_2).bind fun t166 => (if t166 = true then (some 0) else ((tenorref1_far.f k a0_0 l0_1 a0_2).bind fun t167 => (if t167 = true then (if a0_2 > 0 then (tenorref1_NearMore.j0 k true a0_0 l0_1 a0_2) else ((tenorref1_Len.f k l0_1).bind fun t168 => (tenorref1_NearMore.j0 k (decide ((wrap64 (t168 + a0_2)) > 0)) a0_0 l0_1 a0_2))) else ((tenorref1_rounded.f k l0_1 a0_2 a1 53 (-1074)).bind fun t171 => ((tenorref1_made.f a0_0 t171).bind fun t172 => (some t172))))))
def tenorref1_NearMore.T4 : Bool × List (List Nat × List Nat) := (true, [([], []), ([0], [0]), ([1], [1]), ([2], [2]), ([3], [3]), ([4, 3], [3, 4]), ([5, 3, 3], [3, 5]), ([3], [3]), ([7, 3], [3, 7]), ([6, 8, 3], [3, 6, 8]), ([9, 3], [3, 9]), ([3, 10], [3, 10])])
def tenorref1_NearMore.B4 : List Nat := [0, 1, 3, 7, 15, 31, 63, 15, 143, 511, 1023, 2047]
theorem tenorref1_NearMore.tab4 : rtab .any (opsOf Tryz.f119 4) = tenorref1_NearMore.T4 := by kernel_rfl
theorem tenorref1_NearMore.bits4 : waitsOk tenorref1_NearMore.T4.2 tenorref1_NearMore.B4 = true := by kernel_rfl
def tenorref1_NearMore.T7 : Bool × List (List Nat × List Nat) := (true, [([], []), ([0], [0]), ([], []), ([2], [2]), ([], []), ([4], [4]), ([], []), ([3, 5, 6], [3, 5, 6]), ([1, 7, 7], [1, 7]), ([8, 8, 0, 1, 2, 3, 4, 5, 6, 7, 8], [8])])
def tenorref1_NearMore.B7 : List Nat := [0, 1, 0, 4, 0, 16, 0, 124, 255, 511]
theorem tenorref1_NearMore.tab7 : rtab .any (opsOf Tryz.f119 7) = tenorref1_NearMore.T7 := by kernel_rfl
theorem tenorref1_NearMore.bits7 : waitsOk tenorref1_NearMore.T7.2 tenorref1_NearMore.B7 = true := by kernel_rfl
set_option maxHeartbeats 8000000 in
set_option maxRecDepth 100000 in
theorem tenorref1_NearMore.calls (k : Nat) (a0_0 : Bool) (A0_1 : Option Addr) (c0_1 : Nat) (l0_1 : List Int) (a0_2 : Int) (a1 : Bool) (r : Int) (w : World) (hr0_1 : Kd.C (Kd.int .u64) w A0_1 l0_1.length l0_1) (hc0_1 : l0_1.length ≤ c0_1) (h : tenorref1_NearMore.f k a0_0 l0_1 a0_2 a1 = some r) :
    Calls Tryz.prog 119 #[.agg #[.bool a0_0, .slice A0_1 l0_1.length c0_1, .int .i64 a0_2], .bool a1] w fun e w' => e = .returned (.int .u64 r) ∧ Below w.heap.size w w' := by
  have hu82 := Tryz.underlying82
  have HR0_1 := Aside0.mk hr0_1
  have HC0_1 := Aside0.mk hc0_1
  clear hr0_1 hc0_1
  have HB := Aside0.mk (Below.refl w.heap.size w)
  have H : ((tenorref1_Zero.f a0_0 l0_1 a0_2).bind fun t166 => (if t166 = true then (some 0) else ((tenorref1_far.f k a0_0 l0_1 a0_2).bind fun t167 => (if t167 = true then (if a0_2 > 0 then (tenorref1_NearMore.j0 k true a0_0 l0_1 a0_2) else ((tenorref1_Len.f k l0_1).bind fun t168 => (tenorref1_NearMore.j0 k (decide ((wrap64 (t168 + a0_2)) > 0)) a0_0 l0_1 a0_2))) else ((tenorref1_rounded.f k l0_1 a0_2 a1 53 (-1074)).bind fun t171 => ((tenorref1_made.f a0_0 t171).bind fun t172 => (some t172))))))) = some r := h
  clear h
  replace H := Option.bind_eq_some_iff.mp H
  obtain ⟨t166, A30, H⟩ := H
  have A3 := Aside0.mk A30
  clear A30
  by_cases c4 : t166 = true
  · subst c4
    have H1 : (some 0) = some r := by rw [if_pos rfl] at H; exact H
    clear H
    have H := H1
    clear H1
    obtain rfl := Option.some.inj H
    go_enter Tryz.func119, Tryz.ntmps119
    go_wp2_with (first | ((with_reducible refine gate_dst (N := 2) rfl ?_); refine box_event ?hg (N := 2) ?hd (cs := #[.bool a0_0, .slice A0_1 l0_1.length c0_1, .int .i64 a0_2]) (t := 82) ?hr ?_; (case hd => rfl); (case hg => rfl); (case hr => first | (go_simp; done) | (go_simp; rfl)); intro gb165 hg w5 hbox hb; have n0_ := Aside0.mk (below_step (bA HB.out) hb); have n1_ := Aside0.mk (hbox); have n2_ := Aside0.mk ((by rw [hg]; exact (below_size (bA HB.out)) : w.heap.size ≤ gb165)); have n3_ := Aside0.mk ((by rw [hg]; exact (below_size (bA HB.out)) : w.heap.size ≤ gb165)); clear HB; have HB := n0_; have BK165 := n1_; have GW165 := n2_; have GE165 := n3_; clear n0_ n1_ n2_ n3_; clear hb hbox hg; have hcz6_0 : w5.cell? ⟨gb165, 0, none⟩ = some (.bool a0_0) := (blk_cell BK165.out 0).trans rfl; have hcz6_1 : w5.cell? ⟨gb165, 1, none⟩ = some (.slice A0_1 l0_1.length c0_1) := (blk_cell BK165.out 1).trans rfl; have hcz6_2 : w5.cell? ⟨gb165, 2, none⟩ = some (.int .i64 a0_2) := (blk_cell BK165.out 2).trans rfl; have hfz6_0 := blk_frozen BK165.out 0; have hfz6_1 := blk_frozen BK165.out 1; have hfz6_2 := blk_frozen BK165.out 2) | ((with_reducible refine gate_callee (f := 120) rfl ?_); refine goesL_ (some 6) rfl rfl Tryz.func120 (by kernel_rfl) rfl #[.agg #[.bool a0_0, .slice A0_1 l0_1.length c0_1, .int .i64 a0_2]] rfl mA ?_; (with_reducible refine (tenorref1_Zero.calls a0_0 _ _ l0_1 a0_2 true _ ?side1 ?side2 A3.out).mono ?_); (case side1 => exact cA (Kd.C_below HR0_1.out HB.out)); (case side2 => exact HC0_1.out); rintro e w7 ⟨rfl, hb⟩; refine ⟨_, rfl, ?_⟩; have n0_ := Aside0.mk (blk_below (g := gb165) (o := .cells #[.bool a0_0, .slice A0_1 l0_1.length c0_1, .int .i64 a0_2] 82 (0, 0)) (kA BK165.out) hb); have n1_ := Aside0.mk (below_step (bG HB.out) hb); clear BK165; clear HB; have BK165 := n0_; have HB := n1_; clear n0_ n1_; (try clear hb); (try clear hb2); (try clear hk); (try clear hi)))
    go_ret
    exact ⟨by first | rfl | (simp [errW_none, errW_some] <;> rfl) | (simp [*, errW_none, errW_some] <;> rfl), bG HB.out⟩
  replace c4 := Bool.eq_false_iff.mpr c4
  subst c4
  have H1 : ((tenorref1_far.f k a0_0 l0_1 a0_2).bind fun t167 => (if t167 = true then (if a0_2 > 0 then (tenorref1_NearMore.j0 k true a0_0 l0_1 a0_2) else ((tenorref1_Len.f k l0_1).bind fun t168 => (tenorref1_NearMore.j0 k (decide ((wrap64 (t168 + a0_2)) > 0)) a0_0 l0_1 a0_2))) else ((tenorref1_rounded.f k l0_1 a0_2 a1 53 (-1074)).bind fun t171 => ((tenorref1_made.f a0_0 t171).bind fun t172 => (some t172))))) = some r := by rw [if_neg (show ¬ (false = true) by decide)] at H; exact H
  clear H
  have H := H1
  clear H1
  replace H := Option.bind_eq_some_iff.mp H
  obtain ⟨t167, A80, H⟩ := H
  have A8 := Aside0.mk A80
  clear A80
  by_cases c9 : t167 = true
  rotate_left
  · replace c9 := Bool.eq_false_iff.mpr c9
    subst c9
    have H1 : ((tenorref1_rounded.f k l0_1 a0_2 a1 53 (-1074)).bind fun t171 => ((tenorref1_made.f a0_0 t171).bind fun t172 => (some t172))) = some r := by rw [if_neg (show ¬ (false = true) by decide)] at H; exact H
    clear H
    have H := H1
    clear H1
    replace H := Option.bind_eq_some_iff.mp H
    obtain ⟨t171, A270, H⟩ := H
    have A27 := Aside0.mk A270
    clear A270
    replace H := Option.bind_eq_some_iff.mp H
    obtain ⟨t172, A280, H⟩ := H
    have A28 := Aside0.mk A280
    clear A280
    obtain rfl := Option.some.inj H
    go_enter Tryz.func119, Tryz.ntmps119
    try go_wp2_with (first | ((with_reducible refine gate_dst (N := 2) rfl ?_); refine box_event ?hg (N := 2) ?hd (cs := #[.bool a0_0, .slice A0_1 l0_1.length c0_1, .int .i64 a0_2]) (t := 82) ?hr ?_; (case hd => rfl); (case hg => rfl); (case hr => first | (go_simp; done) | (go_simp; rfl)); intro gb165 hg w29 hbox hb; have n0_ := Aside0.mk (below_step (bA HB.out) hb); have n1_ := Aside0.mk (hbox); have n2_ := Aside0.mk ((by rw [hg]; exact (below_size (bA HB.out)) : w.heap.size ≤ gb165)); have n3_ := Aside0.mk ((by rw [hg]; exact (below_size (bA HB.out)) : w.heap.size ≤ gb165)); clear HB; have HB := n0_; have BK165 := n1_; have GW165 := n2_; have GE165 := n3_; clear n0_ n1_ n2_ n3_; clear hb hbox hg; have hcz30_0 : w29.cell? ⟨gb165, 0, none⟩ = some (.bool a0_0) := (blk_cell BK165.out 0).trans rfl; have hcz30_1 : w29.cell? ⟨gb165, 1, none⟩ = some (.slice A0_1 l0_1.length c0_1) := (blk_cell BK165.out 1).trans rfl; have hcz30_2 : w29.cell? ⟨gb165, 2, none⟩ = some (.int .i64 a0_2) := (blk_cell BK165.out 2).trans rfl; have hfz30_0 := blk_frozen BK165.out 0; have hfz30_1 := blk_frozen BK165.out 1; have hfz30_2 := blk_frozen BK165.out 2) | ((with_reducible refine gate_callee (f := 120) rfl ?_); refine goesL_ (some 6) rfl rfl Tryz.func120 (by kernel_rfl) rfl #[.agg #[.bool a0_0, .slice A0_1 l0_1.length c0_1, .int .i64 a0_2]] rfl mA ?_; (with_reducible refine (tenorref1_Zero.calls a0_0 _ _ l0_1 a0_2 false _ ?side1 ?side2 A3.out).mono ?_); (case side1 => exact cA (Kd.C_below HR0_1.out HB.out)); (case side2 => exact HC0_1.out); rintro e w31 ⟨rfl, hb⟩; refine ⟨_, rfl, ?_⟩; have n0_ := Aside0.mk (blk_below (g := gb165) (o := .cells #[.bool a0_0, .slice A0_1 l0_1.length c0_1, .int .i64 a0_2] 82 (0, 0)) (kA BK165.out) hb); have n1_ := Aside0.mk (below_step (bG HB.out) hb); clear BK165; clear HB; have BK165 := n0_; have HB := n1_; clear n0_ n1_; (try clear hb); (try clear hb2); (try clear hk); (try clear hi); have hcz32_0 : w31.cell? ⟨gb165, 0, none⟩ = some (.bool a0_0) := (blk_cell BK165.out 0).trans rfl; have hcz32_1 : w31.cell? ⟨gb165, 1, none⟩ = some (.slice A0_1 l0_1.length c0_1) := (blk_cell BK165.out 1).trans rfl; have hcz32_2 : w31.cell? ⟨gb165, 2, none⟩ = some (.int .i64 a0_2) := (blk_cell BK165.out 2).trans rfl; have hfz32_0 := blk_frozen BK165.out 0; have hfz32_1 := blk_frozen BK165.out 1; have hfz32_2 := blk_frozen BK165.out 2) | ((with_reducible refine gate_callee (f := 142) rfl ?_); refine goesL_ (some 8) rfl rfl Tryz.func142 (by kernel_rfl) rfl #[.agg #[.bool a0_0, .slice A0_1 l0_1.length c0_1, .int .i64 a0_2]] rfl mA ?_; (with_reducible refine (tenorref1_far.calls k a0_0 _ _ l0_1 a0_2 false _ ?side1 ?side2 A8.out).mono ?_); (case side1 => exact cA (Kd.C_below HR0_1.out HB.out)); (case side2 => exact HC0_1.out); rintro e w33 ⟨rfl, hb⟩; refine ⟨_, rfl, ?_⟩; have n0_ := Aside0.mk (blk_below (g := gb165) (o := .cells #[.bool a0_0, .slice A0_1 l0_1.length c0_1, .int .i64 a0_2] 82 (0, 0)) (kA BK165.out) hb); have n1_ := Aside0.mk (below_step (bG HB.out) hb); clear BK165; clear HB; have BK165 := n0_; have HB := n1_; clear n0_ n1_; (try clear hb); (try clear hb2); (try clear hk); (try clear hi)))
    have n0_ := Aside0.mk (blk_drew BK165.out)
    have n1_ := Aside0.mk (below_drew1 HB.out)
    clear BK165
    clear HB
    have BK165 := n0_
    have HB := n1_
    clear n0_ n1_
    refine start_ (n := 10) (S := fun w' => w'.cell? ⟨gb165, 0, none⟩ = some (.bool a0_0) ∧ w'.cell? ⟨gb165, 1, none⟩ = some (.slice A0_1 l0_1.length c0_1) ∧ w'.cell? ⟨gb165, 2, none⟩ = some (.int .i64 a0_2)) (ds := []) #[false, false, false, false, false, false, false, false, false, false] (by kernel_rfl) rfl rfl ⟨(blk_cell BK165.out 0).trans rfl, (blk_cell BK165.out 1).trans rfl, (blk_cell BK165.out 2).trans rfl⟩ (fun hHeld => ?_); refine with_tabW tenorref1_NearMore.tab7 tenorref1_NearMore.bits7 (fun HT_ HW_ => ?_)
    generalize w33.drew = w34 at BK165 HB hHeld ⊢
    refine pure_ (i := 0) (N := some 27) (v := ?_) (a' := ?_) #[true, false, false, false, false, false, false, false, false, false] rfl rfl (any_of HT_.out (by kernel_rfl)) (fun _ _ _ h => h) (Or.inl ⟨by rfl, ?_⟩) ?_ ?_
    rotate_left
    · intro w'
      go_simp
      with_reducible rfl
    rotate_left
    · simp only [Act.put, List.setIfInBounds_toArray, List.set_cons_zero, List.set_cons_succ, i64_w, i32_w]
      rfl
    refine pure_ (i := 2) (N := some 29) (v := ?_) (a' := ?_) #[true, false, true, false, false, false, false, false, false, false] rfl rfl (any_of HT_.out (by kernel_rfl)) (fun _ _ _ h => h) (Or.inl ⟨by rfl, ?_⟩) ?_ ?_
    rotate_left
    · intro w'
      go_simp
      with_reducible rfl
    rotate_left
    · simp only [Act.put, List.setIfInBounds_toArray, List.set_cons_zero, List.set_cons_succ, i64_w, i32_w]
      rfl
    refine pure_ (i := 4) (N := some 31) (v := ?_) (a' := ?_) #[true, false, true, false, true, false, false, false, false, false] rfl rfl (any_of HT_.out (by kernel_rfl)) (fun _ _ _ h => h) (Or.inl ⟨by rfl, ?_⟩) ?_ ?_
    rotate_left
    · intro w'
      go_simp
      with_reducible rfl
    rotate_left
    · simp only [Act.put, List.setIfInBounds_toArray, List.set_cons_zero, List.set_cons_succ, i64_w, i32_w]
      rfl
    refine pure_ (i := 6) (N := some 33) (v := ?_) (a' := ?_) #[true, false, true, false, true, false, true, false, false, false] rfl rfl (any_of HT_.out (by kernel_rfl)) (fun _ _ _ h => h) (Or.inl ⟨by rfl, ?_⟩) ?_ ?_
    rotate_left
    · intro w'
      go_simp
      with_reducible rfl
    rotate_left
    · simp only [Act.put, List.setIfInBounds_toArray, List.set_cons_zero, List.set_cons_succ, i64_w, i32_w]
      rfl
    refine take_ (i := 1) (N := some 28) (v := ?_) (a' := ?_) #[true, true, true, false, true, false, true, false, false, false] rfl rfl (take_ofW HT_.out HW_.out (by kernel_rfl)) (fun _ _ _ h => h) (Or.inl ⟨by rfl, ?_⟩) hHeld ?_ ?_
    rotate_left
    · rintro w' ⟨s0, s1, s2⟩
      go_simp
      with_reducible rfl
    rotate_left
    · simp only [Act.put, List.setIfInBounds_toArray, List.set_cons_zero, List.set_cons_succ, i64_w, i32_w]
      rfl
    refine take_ (i := 3) (N := some 30) (v := ?_) (a' := ?_) #[true, true, true, true, true, false, true, false, false, false] rfl rfl (take_ofW HT_.out HW_.out (by kernel_rfl)) (fun _ _ _ h => h) (Or.inl ⟨by rfl, ?_⟩) hHeld ?_ ?_
    rotate_left
    · rintro w' ⟨s0, s1, s2⟩
      go_simp
      with_reducible rfl
    rotate_left
    · simp only [Act.put, List.setIfInBounds_toArray, List.set_cons_zero, List.set_cons_succ, i64_w, i32_w]
      rfl
    refine take_ (i := 5) (N := some 32) (v := ?_) (a' := ?_) #[true, true, true, true, true, true, true, false, false, false] rfl rfl (take_ofW HT_.out HW_.out (by kernel_rfl)) (fun _ _ _ h => h) (Or.inl ⟨by rfl, ?_⟩) hHeld ?_ ?_
    rotate_left
    · rintro w' ⟨s0, s1, s2⟩
      go_simp
      with_reducible rfl
    rotate_left
    · simp only [Act.put, List.setIfInBounds_toArray, List.set_cons_zero, List.set_cons_succ, i64_w, i32_w]
      rfl
    refine one_ (i := 7) (N := some 34) #[true, true, true, true, true, true, true, true, false, false] rfl rfl (one_of HT_.out (by kernel_rfl)) (by decide) (fun K hK => ?_)
    refine goes_ Tryz.func144 (by kernel_rfl) rfl #[.slice A0_1 l0_1.length c0_1, .int .i64 a0_2, .bool a1, .int .i64 53, .int .i64 (-1074)] (by rfl) rfl rfl mA ?_
    with_reducible refine (tenorref1_rounded.calls k _ _ l0_1 a0_2 a1 53 (-1074) t171 _ ?side1 ?side2 A27.out).mono ?_
    (case side1 => exact cA (Kd.C_below HR0_1.out HB.out))
    (case side2 => exact HC0_1.out)
    rintro e w35 ⟨rfl, hb⟩
    refine ⟨_, rfl, ?_⟩
    have n0_ := Aside0.mk (blk_below (g := gb165) (o := .cells #[.bool a0_0, .slice A0_1 l0_1.length c0_1, .int .i64 a0_2] 82 (0, 0)) (kA BK165.out) hb)
    have n1_ := Aside0.mk (below_step (bG HB.out) hb)
    clear BK165
    clear HB
    have BK165 := n0_
    have HB := n1_
    clear n0_ n1_
    (try clear hb)
    (try clear hb2)
    (try clear hk)
    (try clear hi)
    refine hK.out _ _ ⟨(blk_cell BK165.out 0).trans rfl, (blk_cell BK165.out 1).trans rfl, (blk_cell BK165.out 2).trans rfl⟩ (fun hHeld => ?_)
    clear hK K
    refine norm_ (a' := ?_) ?_ ?_
    rotate_left
    · show Act.put _ (some 34) _ = _
      simp only [Act.put, List.setIfInBounds_toArray, List.set_cons_zero, List.set_cons_succ, i64_w, i32_w]
      rfl
    refine one_ (i := 8) (N := some 35) #[true, true, true, true, true, true, true, true, true, false] rfl rfl (one_of HT_.out (by kernel_rfl)) (by decide) (fun K hK => ?_)
    refine goes_ Tryz.func143 (by kernel_rfl) rfl #[.bool a0_0, .int .u64 t171] (by rfl) rfl rfl mA ?_
    with_reducible refine (tenorref1_made.calls a0_0 t171 t172 _ A28.out).mono ?_
    rintro e w36 ⟨rfl, hb⟩
    refine ⟨_, rfl, ?_⟩
    have n0_ := Aside0.mk (blk_below (g := gb165) (o := .cells #[.bool a0_0, .slice A0_1 l0_1.length c0_1, .int .i64 a0_2] 82 (0, 0)) (kA BK165.out) hb)
    have n1_ := Aside0.mk (below_step (bG HB.out) hb)
    clear BK165
    clear HB
    have BK165 := n0_
    have HB := n1_
    clear n0_ n1_
    (try clear hb)
    (try clear hb2)
    (try clear hk)
    (try clear hi)
    refine hK.out _ _ ⟨(blk_cell BK165.out 0).trans rfl, (blk_cell BK165.out 1).trans rfl, (blk_cell BK165.out 2).trans rfl⟩ (fun hHeld => ?_)
    clear hK K
    refine norm_ (a' := ?_) ?_ ?_
    rotate_left
    · show Act.put _ (some 35) _ = _
      simp only [Act.put, List.setIfInBounds_toArray, List.set_cons_zero, List.set_cons_succ, i64_w, i32_w]
      rfl
    refine pure_ (i := 9) (N := some 4) (v := ?_) (a' := ?_) #[true, true, true, true, true, true, true, true, true, true] rfl rfl (any_of HT_.out (by kernel_rfl)) (fun _ _ _ h => h) (Or.inl ⟨by rfl, ?_⟩) ?_ ?_
    rotate_left
    · intro w'
      go_simp
      with_reducible rfl
    rotate_left
    · simp only [Act.put, List.setIfInBounds_toArray, List.set_cons_zero, List.set_cons_succ, i64_w, i32_w]
      rfl
    refine done_ (done_of HT_.out (by kernel_rfl)) ?_
    try go_wp2
    go_ret
    exact ⟨by first | rfl | (simp [errW_none, errW_some] <;> rfl) | (simp [*, errW_none, errW_some] <;> rfl), bG HB.out⟩
  subst c9
  have H1 : (if a0_2 > 0 then (tenorref1_NearMore.j0 k true a0_0 l0_1 a0_2) else ((tenorref1_Len.f k l0_1).bind fun t168 => (tenorref1_NearMore.j0 k (decide ((wrap64 (t168 + a0_2)) > 0)) a0_0 l0_1 a0_2))) = some r := by rw [if_pos rfl] at H; exact H
  clear H
  have H := H1
  clear H1
  have HC10 := Aside0.mk H
  clear H
  go_enter Tryz.func119, Tryz.ntmps119
  go_upto_region 4 with (first | ((with_reducible refine gate_dst (N := 2) rfl ?_); refine box_event ?hg (N := 2) ?hd (cs := #[.bool a0_0, .slice A0_1 l0_1.length c0_1, .int .i64 a0_2]) (t := 82) ?hr ?_; (case hd => rfl); (case hg => rfl); (case hr => first | (go_simp; done) | (go_simp; rfl)); intro gb165 hg w11 hbox hb; have n0_ := Aside0.mk (below_step (bA HB.out) hb); have n1_ := Aside0.mk (hbox); have n2_ := Aside0.mk ((by rw [hg]; exact (below_size (bA HB.out)) : w.heap.size ≤ gb165)); have n3_ := Aside0.mk ((by rw [hg]; exact (below_size (bA HB.out)) : w.heap.size ≤ gb165)); clear HB; have HB := n0_; have BK165 := n1_; have GW165 := n2_; have GE165 := n3_; clear n0_ n1_ n2_ n3_; clear hb hbox hg; have hcz12_0 : w11.cell? ⟨gb165, 0, none⟩ = some (.bool a0_0) := (blk_cell BK165.out 0).trans rfl; have hcz12_1 : w11.cell? ⟨gb165, 1, none⟩ = some (.slice A0_1 l0_1.length c0_1) := (blk_cell BK165.out 1).trans rfl; have hcz12_2 : w11.cell? ⟨gb165, 2, none⟩ = some (.int .i64 a0_2) := (blk_cell BK165.out 2).trans rfl; have hfz12_0 := blk_frozen BK165.out 0; have hfz12_1 := blk_frozen BK165.out 1; have hfz12_2 := blk_frozen BK165.out 2) | ((with_reducible refine gate_callee (f := 120) rfl ?_); refine goesL_ (some 6) rfl rfl Tryz.func120 (by kernel_rfl) rfl #[.agg #[.bool a0_0, .slice A0_1 l0_1.length c0_1, .int .i64 a0_2]] rfl mA ?_; (with_reducible refine (tenorref1_Zero.calls a0_0 _ _ l0_1 a0_2 false _ ?side1 ?side2 A3.out).mono ?_); (case side1 => exact cA (Kd.C_below HR0_1.out HB.out)); (case side2 => exact HC0_1.out); rintro e w13 ⟨rfl, hb⟩; refine ⟨_, rfl, ?_⟩; have n0_ := Aside0.mk (blk_below (g := gb165) (o := .cells #[.bool a0_0, .slice A0_1 l0_1.length c0_1, .int .i64 a0_2] 82 (0, 0)) (kA BK165.out) hb); have n1_ := Aside0.mk (below_step (bG HB.out) hb); clear BK165; clear HB; have BK165 := n0_; have HB := n1_; clear n0_ n1_; (try clear hb); (try clear hb2); (try clear hk); (try clear hi); have hcz14_0 : w13.cell? ⟨gb165, 0, none⟩ = some (.bool a0_0) := (blk_cell BK165.out 0).trans rfl; have hcz14_1 : w13.cell? ⟨gb165, 1, none⟩ = some (.slice A0_1 l0_1.length c0_1) := (blk_cell BK165.out 1).trans rfl; have hcz14_2 : w13.cell? ⟨gb165, 2, none⟩ = some (.int .i64 a0_2) := (blk_cell BK165.out 2).trans rfl; have hfz14_0 := blk_frozen BK165.out 0; have hfz14_1 := blk_frozen BK165.out 1; have hfz14_2 := blk_frozen BK165.out 2) | ((with_reducible refine gate_callee (f := 142) rfl ?_); refine goesL_ (some 8) rfl rfl Tryz.func142 (by kernel_rfl) rfl #[.agg #[.bool a0_0, .slice A0_1 l0_1.length c0_1, .int .i64 a0_2]] rfl mA ?_; (with_reducible refine (tenorref1_far.calls k a0_0 _ _ l0_1 a0_2 true _ ?side1 ?side2 A8.out).mono ?_); (case side1 => exact cA (Kd.C_below HR0_1.out HB.out)); (case side2 => exact HC0_1.out); rintro e w15 ⟨rfl, hb⟩; refine ⟨_, rfl, ?_⟩; have n0_ := Aside0.mk (blk_below (g := gb165) (o := .cells #[.bool a0_0, .slice A0_1 l0_1.length c0_1, .int .i64 a0_2] 82 (0, 0)) (kA BK165.out) hb); have n1_ := Aside0.mk (below_step (bG HB.out) hb); clear BK165; clear HB; have BK165 := n0_; have HB := n1_; clear n0_ n1_; (try clear hb); (try clear hb2); (try clear hk); (try clear hi)))
  (try simp only [Act.put, List.setIfInBounds_toArray, List.set_cons_zero, List.set_cons_succ])
  go_cut [20] (fun v20 wc => ∃ (kq : Nat) (x20_9 : Bool), v20 = .bool x20_9 ∧ Aside0 (tenorref1_NearMore.j0 kq x20_9 a0_0 l0_1 a0_2 = some r) ∧ Aside0 (kq ≤ k) ∧ Aside0 (wc.heap[gb165]? = some (.cells #[.bool a0_0, (.slice A0_1 l0_1.length c0_1), .int .i64 a0_2] 82 (0, 0))) ∧ Aside0 (Below w.heap.size w wc))
  case first =>
    have H := HC10.out
    clear HC10
    by_cases c16 : a0_2 > 0
    · rw [if_pos c16] at H
      have c16b0 : decide (0 < a0_2) = true := decide_eq_true c16
      clear c16
      (first | rw [c16b0] | (simp only [i64_w, i32_w]; rw [c16b0]) | skip)
      have H' := Aside0.mk H
      clear H
      try go_wp2
      have n0_ := Aside0.mk (blk_drew BK165.out)
      have n1_ := Aside0.mk (below_drew1 HB.out)
      clear BK165
      clear HB
      have BK165 := n0_
      have HB := n1_
      clear n0_ n1_
      refine start_ (n := 12) (S := fun w' => w'.cell? ⟨gb165, 0, none⟩ = some (.bool a0_0) ∧ w'.cell? ⟨gb165, 1, none⟩ = some (.slice A0_1 l0_1.length c0_1) ∧ w'.cell? ⟨gb165, 2, none⟩ = some (.int .i64 a0_2)) (ds := []) (dnA 12 0) (by kernel_rfl) rfl rfl ⟨(blk_cell BK165.out 0).trans rfl, (blk_cell BK165.out 1).trans rfl, (blk_cell BK165.out 2).trans rfl⟩ (fun hHeld => ?_); refine with_tabW tenorref1_NearMore.tab4 tenorref1_NearMore.bits4 (fun HT_ HW_ => ?_)
      generalize w15.drew = w17 at BK165 HB hHeld ⊢
      refine pure_ (i := 0) (N := some 9) (v := ?_) (a' := ?_) (dnA 12 1) rfl rfl (any_of HT_.out (by kernel_rfl)) (fun _ _ _ h => h) (Or.inl ⟨by rfl, ?_⟩) ?_ ?_
      rotate_left
      · intro w'
        go_simp
        with_reducible rfl
      rotate_left
      · simp only [Act.put, List.setIfInBounds_toArray, List.set_cons_zero, List.set_cons_succ, i64_w, i32_w]
        rfl
      refine take_ (i := 1) (N := some 10) (v := ?_) (a' := ?_) (dnA 12 3) rfl rfl (take_ofW HT_.out HW_.out (by kernel_rfl)) (fun _ _ _ h => h) (Or.inl ⟨by rfl, ?_⟩) hHeld ?_ ?_
      rotate_left
      · rintro w' ⟨s0, s1, s2⟩
        go_simp
        with_reducible rfl
      rotate_left
      · simp only [Act.put, List.setIfInBounds_toArray, List.set_cons_zero, List.set_cons_succ, i64_w, i32_w]
        rfl
      refine pure_ (i := 2) (N := some 11) (v := ?_) (a' := ?_) (dnA 12 7) rfl rfl (any_of HT_.out (by kernel_rfl)) (fun _ _ _ h => h) (Or.inl ⟨by rfl, ?_⟩) ?_ ?_
      rotate_left
      · intro w'
        go_simp
        with_reducible rfl
      rotate_left
      · simp only [Act.put, List.setIfInBounds_toArray, List.set_cons_zero, List.set_cons_succ, i64_w, i32_w]
        rfl
      refine pure_ (i := 3) (N := some 12) (v := ?_) (a' := ?_) (dnA 12 15) rfl rfl (any_of HT_.out (by kernel_rfl)) (fun _ _ _ h => h) (Or.inl ⟨by rfl, ?_⟩) ?_ ?_
      rotate_left
      · intro w'
        go_simp
        with_reducible rfl
      rotate_left
      · simp only [Act.put, List.setIfInBounds_toArray, List.set_cons_zero, List.set_cons_succ, i64_w, i32_w]
        rfl
      refine pure_ (i := 4) (N := some 13) (v := undef) (a' := ?_) (dnA 12 31) rfl rfl (any_of HT_.out (by kernel_rfl)) (fun _ _ _ h => h) (Or.inr ⟨by rfl, rfl⟩) ?_ ?_
      rotate_left
      · simp only [Act.put, List.setIfInBounds_toArray, List.set_cons_zero, List.set_cons_succ, i64_w, i32_w]
        rfl
      refine pure_ (i := 5) (N := some 14) (v := undef) (a' := ?_) (dnA 12 63) rfl rfl (any_of HT_.out (by kernel_rfl)) (fun _ _ _ h => h) (Or.inr ⟨by rfl, rfl⟩) ?_ ?_
      rotate_left
      · simp only [Act.put, List.setIfInBounds_toArray, List.set_cons_zero, List.set_cons_succ, i64_w, i32_w]
        rfl
      refine pure_ (i := 6) (N := some 15) (v := undef) (a' := ?_) (dnA 12 127) rfl rfl (any_of HT_.out (by kernel_rfl)) (fun _ _ _ h => h) (Or.inr ⟨by rfl, rfl⟩) ?_ ?_
      rotate_left
      · simp only [Act.put, List.setIfInBounds_toArray, List.set_cons_zero, List.set_cons_succ, i64_w, i32_w]
        rfl
      refine pure_ (i := 7) (N := some 16) (v := undef) (a' := ?_) (dnA 12 255) rfl rfl (any_of HT_.out (by kernel_rfl)) (fun _ _ _ h => h) (Or.inr ⟨by rfl, rfl⟩) ?_ ?_
      rotate_left
      · simp only [Act.put, List.setIfInBounds_toArray, List.set_cons_zero, List.set_cons_succ, i64_w, i32_w]
        rfl
      refine pure_ (i := 8) (N := some 17) (v := undef) (a' := ?_) (dnA 12 511) rfl rfl (any_of HT_.out (by kernel_rfl)) (fun _ _ _ h => h) (Or.inr ⟨by rfl, rfl⟩) ?_ ?_
      rotate_left
      · simp only [Act.put, List.setIfInBounds_toArray, List.set_cons_zero, List.set_cons_succ, i64_w, i32_w]
        rfl
      refine pure_ (i := 9) (N := some 18) (v := undef) (a' := ?_) (dnA 12 1023) rfl rfl (any_of HT_.out (by kernel_rfl)) (fun _ _ _ h => h) (Or.inr ⟨by rfl, rfl⟩) ?_ ?_
      rotate_left
      · simp only [Act.put, List.setIfInBounds_toArray, List.set_cons_zero, List.set_cons_succ, i64_w, i32_w]
        rfl
      refine pure_ (i := 10) (N := some 19) (v := undef) (a' := ?_) (dnA 12 2047) rfl rfl (any_of HT_.out (by kernel_rfl)) (fun _ _ _ h => h) (Or.inr ⟨by rfl, rfl⟩) ?_ ?_
      rotate_left
      · simp only [Act.put, List.setIfInBounds_toArray, List.set_cons_zero, List.set_cons_succ, i64_w, i32_w]
        rfl
      refine pure_ (i := 11) (N := some 20) (v := ?_) (a' := ?_) (dnA 12 4095) rfl rfl (any_of HT_.out (by kernel_rfl)) (fun _ _ _ h => h) (Or.inl ⟨by rfl, ?_⟩) ?_ ?_
      rotate_left
      · intro w'
        go_simp
        with_reducible rfl
      rotate_left
      · simp only [Act.put, List.setIfInBounds_toArray, List.set_cons_zero, List.set_cons_succ, i64_w, i32_w]
        rfl
      refine done_ (done_of HT_.out (by kernel_rfl)) ?_
      try go_wp2
      go_meet
      case rel => exact ⟨_, (true), (by first | (with_reducible rfl) | (simp; done) | (simp [*]; done) | rfl), H', ⟨by first | omega | exact Nat.le_refl _⟩, ⟨kA BK165.out⟩, ⟨bG HB.out⟩⟩
    rw [if_neg c16] at H
    have c16b0 : decide (0 < a0_2) = false := decide_eq_false c16
    clear c16
    (first | rw [c16b0] | (simp only [i64_w, i32_w]; rw [c16b0]) | skip)
    replace H := Option.bind_eq_some_iff.mp H
    obtain ⟨t168, A180, H⟩ := H
    have A18 := Aside0.mk A180
    clear A180
    have H' := Aside0.mk H
    clear H
    try go_wp2
    have n0_ := Aside0.mk (blk_drew BK165.out)
    have n1_ := Aside0.mk (below_drew1 HB.out)
    clear BK165
    clear HB
    have BK165 := n0_
    have HB := n1_
    clear n0_ n1_
    refine start_ (n := 12) (S := fun w' => w'.cell? ⟨gb165, 0, none⟩ = some (.bool a0_0) ∧ w'.cell? ⟨gb165, 1, none⟩ = some (.slice A0_1 l0_1.length c0_1) ∧ w'.cell? ⟨gb165, 2, none⟩ = some (.int .i64 a0_2)) (ds := []) (dnA 12 0) (by kernel_rfl) rfl rfl ⟨(blk_cell BK165.out 0).trans rfl, (blk_cell BK165.out 1).trans rfl, (blk_cell BK165.out 2).trans rfl⟩ (fun hHeld => ?_); refine with_tabW tenorref1_NearMore.tab4 tenorref1_NearMore.bits4 (fun HT_ HW_ => ?_)
    generalize w15.drew = w19 at BK165 HB hHeld ⊢
    refine pure_ (i := 0) (N := some 9) (v := ?_) (a' := ?_) (dnA 12 1) rfl rfl (any_of HT_.out (by kernel_rfl)) (fun _ _ _ h => h) (Or.inl ⟨by rfl, ?_⟩) ?_ ?_
    rotate_left
    · intro w'
      go_simp
      with_reducible rfl
    rotate_left
    · simp only [Act.put, List.setIfInBounds_toArray, List.set_cons_zero, List.set_cons_succ, i64_w, i32_w]
      rfl
    refine take_ (i := 1) (N := some 10) (v := ?_) (a' := ?_) (dnA 12 3) rfl rfl (take_ofW HT_.out HW_.out (by kernel_rfl)) (fun _ _ _ h => h) (Or.inl ⟨by rfl, ?_⟩) hHeld ?_ ?_
    rotate_left
    · rintro w' ⟨s0, s1, s2⟩
      go_simp
      with_reducible rfl
    rotate_left
    · simp only [Act.put, List.setIfInBounds_toArray, List.set_cons_zero, List.set_cons_succ, i64_w, i32_w]
      rfl
    refine pure_ (i := 2) (N := some 11) (v := ?_) (a' := ?_) (dnA 12 7) rfl rfl (any_of HT_.out (by kernel_rfl)) (fun _ _ _ h => h) (Or.inl ⟨by rfl, ?_⟩) ?_ ?_
    rotate_left
    · intro w'
      go_simp
      with_reducible rfl
    rotate_left
    · simp only [Act.put, List.setIfInBounds_toArray, List.set_cons_zero, List.set_cons_succ, i64_w, i32_w]
      rfl
    refine pure_ (i := 3) (N := some 12) (v := ?_) (a' := ?_) (dnA 12 15) rfl rfl (any_of HT_.out (by kernel_rfl)) (fun _ _ _ h => h) (Or.inl ⟨by rfl, ?_⟩) ?_ ?_
    rotate_left
    · intro w'
      go_simp
      with_reducible rfl
    rotate_left
    · simp only [Act.put, List.setIfInBounds_toArray, List.set_cons_zero, List.set_cons_succ, i64_w, i32_w]
      rfl
    refine pure_ (i := 4) (N := some 13) (v := ?_) (a' := ?_) (dnA 12 31) rfl rfl (any_of HT_.out (by kernel_rfl)) (fun _ _ _ h => h) (Or.inl ⟨by rfl, ?_⟩) ?_ ?_
    rotate_left
    · intro w'
      go_simp
      with_reducible rfl
    rotate_left
    · simp only [Act.put, List.setIfInBounds_toArray, List.set_cons_zero, List.set_cons_succ, i64_w, i32_w]
      rfl
    refine pure_ (i := 7) (N := some 16) (v := ?_) (a' := ?_) (dnA 12 159) rfl rfl (any_of HT_.out (by kernel_rfl)) (fun _ _ _ h => h) (Or.inl ⟨by rfl, ?_⟩) ?_ ?_
    rotate_left
    · intro w'
      go_simp
      with_reducible rfl
    rotate_left
    · simp only [Act.put, List.setIfInBounds_toArray, List.set_cons_zero, List.set_cons_succ, i64_w, i32_w]
      rfl
    refine take_ (i := 5) (N := some 14) (v := ?_) (a' := ?_) (dnA 12 191) rfl rfl (take_ofW HT_.out HW_.out (by kernel_rfl)) (fun _ _ _ h => h) (Or.inl ⟨by rfl, ?_⟩) hHeld ?_ ?_
    rotate_left
    · rintro w' ⟨s0, s1, s2⟩
      go_simp
      with_reducible rfl
    rotate_left
    · simp only [Act.put, List.setIfInBounds_toArray, List.set_cons_zero, List.set_cons_succ, i64_w, i32_w]
      rfl
    refine take_ (i := 8) (N := some 17) (v := ?_) (a' := ?_) (dnA 12 447) rfl rfl (take_ofW HT_.out HW_.out (by kernel_rfl)) (fun _ _ _ h => h) (Or.inl ⟨by rfl, ?_⟩) hHeld ?_ ?_
    rotate_left
    · rintro w' ⟨s0, s1, s2⟩
      go_simp
      with_reducible rfl
    rotate_left
    · simp only [Act.put, List.setIfInBounds_toArray, List.set_cons_zero, List.set_cons_succ, i64_w, i32_w]
      rfl
    refine one_ (i := 6) (N := some 15) (dnA 12 511) rfl rfl (one_of HT_.out (by kernel_rfl)) (by decide) (fun K hK => ?_)
    refine goes_ Tryz.func132 (by kernel_rfl) rfl #[.slice A0_1 l0_1.length c0_1] (by rfl) rfl rfl mA ?_
    with_reducible refine (tenorref1_Len.calls k _ _ l0_1 t168 _ ?side1 ?side2 A18.out).mono ?_
    (case side1 => exact cA (Kd.C_below HR0_1.out HB.out))
    (case side2 => exact HC0_1.out)
    rintro e w' ⟨rfl, ⟨nd, rfl⟩⟩
    refine ⟨_, rfl, ?_⟩
    refine hK.out _ _ ⟨(blk_cell BK165.out 0).trans rfl, (blk_cell BK165.out 1).trans rfl, (blk_cell BK165.out 2).trans rfl⟩ (fun hHeld => ?_)
    clear hK K
    refine norm_ (a' := ?_) ?_ ?_
    rotate_left
    · show Act.put _ (some 15) _ = _
      simp only [Act.put, List.setIfInBounds_toArray, List.set_cons_zero, List.set_cons_succ, i64_w, i32_w]
      rfl
    refine pure_ (i := 9) (N := some 18) (v := ?_) (a' := ?_) (dnA 12 1023) rfl rfl (any_of HT_.out (by kernel_rfl)) (fun _ _ _ h => h) (Or.inl ⟨by rfl, ?_⟩) ?_ ?_
    rotate_left
    · intro w'
      go_simp
      with_reducible rfl
    rotate_left
    · simp only [Act.put, List.setIfInBounds_toArray, List.set_cons_zero, List.set_cons_succ, i64_w, i32_w]
      rfl
    refine pure_ (i := 10) (N := some 19) (v := ?_) (a' := ?_) (dnA 12 2047) rfl rfl (any_of HT_.out (by kernel_rfl)) (fun _ _ _ h => h) (Or.inl ⟨by rfl, ?_⟩) ?_ ?_
    rotate_left
    · intro w'
      go_simp
      with_reducible rfl
    rotate_left
    · simp only [Act.put, List.setIfInBounds_toArray, List.set_cons_zero, List.set_cons_succ, i64_w, i32_w]
      rfl
    refine pure_ (i := 11) (N := some 20) (v := ?_) (a' := ?_) (dnA 12 4095) rfl rfl (any_of HT_.out (by kernel_rfl)) (fun _ _ _ h => h) (Or.inl ⟨by rfl, ?_⟩) ?_ ?_
    rotate_left
    · intro w'
      go_simp
      with_reducible rfl
    rotate_left
    · simp only [Act.put, List.setIfInBounds_toArray, List.set_cons_zero, List.set_cons_succ, i64_w, i32_w]
      rfl
    refine done_ (done_of HT_.out (by kernel_rfl)) ?_
    try go_wp2
    go_meet
    case rel => exact ⟨_, (decide ((wrap64 (t168 + a0_2)) > 0)), (by first | (with_reducible rfl) | (simp; done) | (simp [*]; done) | rfl), H', ⟨by first | omega | exact Nat.le_refl _⟩, ⟨kA BK165.out⟩, ⟨bG HB.out⟩⟩
  case rest =>
    clear HC10
    try clear c1
    try clear p2
    try clear c4
    try clear p6
    try clear c9
    try clear c11
    try clear c12
    try clear c13
    try clear c14
    try clear c16
    try clear c16b0
    try clear hcz12_0
    try clear hcz12_1
    try clear hcz12_2
    try clear hcz14_0
    try clear hcz14_1
    try clear hcz14_2
    try clear hcz6_0
    try clear hcz6_1
    try clear hcz6_2
    try clear hfz12_0
    try clear hfz12_1
    try clear hfz12_2
    try clear hfz14_0
    try clear hfz14_1
    try clear hfz14_2
    try clear hfz6_0
    try clear hfz6_1
    try clear hfz6_2
    obtain ⟨kq, x20_9, rfl, HA, HJ9, BK165, HB⟩ := hcut
    cases kq with
    | zero => exact absurd HA.out (by simp [tenorref1_NearMore.j0])
    | succ kj9 =>
      have H := HA.out
      clear HA
      simp only [tenorref1_NearMore.j0] at H
      by_cases c20 : x20_9 = true
      · subst c20
        have H1 : ((tenorref1_made.f a0_0 9218868437227405312).bind fun t169 => (some t169)) = some r := by rw [if_pos rfl] at H; exact H
        clear H
        have H := H1
        clear H1
        replace H := Option.bind_eq_some_iff.mp H
        obtain ⟨t169, A210, H⟩ := H
        have A21 := Aside0.mk A210
        clear A210
        obtain rfl := Option.some.inj H
        have hcz22_0 : wc.cell? ⟨gb165, 0, none⟩ = some (.bool a0_0) := (blk_cell BK165.out 0).trans rfl
        have hcz22_1 : wc.cell? ⟨gb165, 1, none⟩ = some (.slice A0_1 l0_1.length c0_1) := (blk_cell BK165.out 1).trans rfl
        have hcz22_2 : wc.cell? ⟨gb165, 2, none⟩ = some (.int .i64 a0_2) := (blk_cell BK165.out 2).trans rfl
        have hfz22_0 := blk_frozen BK165.out 0
        have hfz22_1 := blk_frozen BK165.out 1
        have hfz22_2 := blk_frozen BK165.out 2
        go_wp2_with (first | ((with_reducible refine gate_callee (f := 143) rfl ?_); refine goesL_ (some 23) rfl rfl Tryz.func143 (by kernel_rfl) rfl #[.bool a0_0, .int .u64 9218868437227405312] rfl mA ?_; (with_reducible refine (tenorref1_made.calls a0_0 9218868437227405312 t169 _ A21.out).mono ?_); rintro e w23 ⟨rfl, hb⟩; refine ⟨_, rfl, ?_⟩; have n0_ := Aside0.mk (blk_below (g := gb165) (o := .cells #[.bool a0_0, .slice A0_1 l0_1.length c0_1, .int .i64 a0_2] 82 (0, 0)) (kA BK165.out) hb); have n1_ := Aside0.mk (below_step (bG HB.out) hb); clear BK165; clear HB; have BK165 := n0_; have HB := n1_; clear n0_ n1_; (try clear hb); (try clear hb2); (try clear hk); (try clear hi)))
        go_ret
        exact ⟨by first | rfl | (simp [errW_none, errW_some] <;> rfl) | (simp [*, errW_none, errW_some] <;> rfl), bG HB.out⟩
      replace c20 := Bool.eq_false_iff.mpr c20
      subst c20
      have H1 : ((tenorref1_made.f a0_0 0).bind fun t170 => (some t170)) = some r := by rw [if_neg (show ¬ (false = true) by decide)] at H; exact H
      clear H
      have H := H1
      clear H1
      replace H := Option.bind_eq_some_iff.mp H
      obtain ⟨t170, A240, H⟩ := H
      have A24 := Aside0.mk A240
      clear A240
      obtain rfl := Option.some.inj H
      have hcz25_0 : wc.cell? ⟨gb165, 0, none⟩ = some (.bool a0_0) := (blk_cell BK165.out 0).trans rfl
      have hcz25_1 : wc.cell? ⟨gb165, 1, none⟩ = some (.slice A0_1 l0_1.length c0_1) := (blk_cell BK165.out 1).trans rfl
      have hcz25_2 : wc.cell? ⟨gb165, 2, none⟩ = some (.int .i64 a0_2) := (blk_cell BK165.out 2).trans rfl
      have hfz25_0 := blk_frozen BK165.out 0
      have hfz25_1 := blk_frozen BK165.out 1
      have hfz25_2 := blk_frozen BK165.out 2
      go_wp2_with (first | ((with_reducible refine gate_callee (f := 143) rfl ?_); refine goesL_ (some 26) rfl rfl Tryz.func143 (by kernel_rfl) rfl #[.bool a0_0, .int .u64 0] rfl mA ?_; (with_reducible refine (tenorref1_made.calls a0_0 0 t170 _ A24.out).mono ?_); rintro e w26 ⟨rfl, hb⟩; refine ⟨_, rfl, ?_⟩; have n0_ := Aside0.mk (blk_below (g := gb165) (o := .cells #[.bool a0_0, .slice A0_1 l0_1.length c0_1, .int .i64 a0_2] 82 (0, 0)) (kA BK165.out) hb); have n1_ := Aside0.mk (below_step (bG HB.out) hb); clear BK165; clear HB; have BK165 := n0_; have HB := n1_; clear n0_ n1_; (try clear hb); (try clear hb2); (try clear hk); (try clear hi)))
      go_ret
      exact ⟨by first | rfl | (simp [errW_none, errW_some] <;> rfl) | (simp [*, errW_none, errW_some] <;> rfl), bG HB.out⟩

/-! ### tenorref1_Near: function 75 -/
def tenorref1_Near.f (k : Nat) (a0_0 : Bool) (l0_1 : List Int) (a0_2 : Int) : Option (Int) := (tenorref1_NearMore.f k a0_0 l0_1 a0_2 false).bind fun t174 => (some t174)
set_option maxHeartbeats 8000000 in
set_option maxRecDepth 100000 in
theorem tenorref1_Near.calls (k : Nat) (a0_0 : Bool) (A0_1 : Option Addr) (c0_1 : Nat) (l0_1 : List Int) (a0_2 : Int) (r : Int) (w : World) (hr0_1 : Kd.C (Kd.int .u64) w A0_1 l0_1.length l0_1) (hc0_1 : l0_1.length ≤ c0_1) (h : tenorref1_Near.f k a0_0 l0_1 a0_2 = some r) :
    Calls Tryz.prog 75 #[.agg #[.bool a0_0, .slice A0_1 l0_1.length c0_1, .int .i64 a0_2]] w fun e w' => e = .returned (.int .u64 r) ∧ Below w.heap.size w w' := by
  have hu82 := Tryz.underlying82
  have HR0_1 := Aside0.mk hr0_1
  have HC0_1 := Aside0.mk hc0_1
  clear hr0_1 hc0_1
  have HB := Aside0.mk (Below.refl w.heap.size w)
  have H : ((tenorref1_NearMore.f k a0_0 l0_1 a0_2 false).bind fun t174 => (some t174)) = some r := h
  clear h
  replace H := Option.bind_eq_some_iff.mp H
  obtain ⟨t174, A20, H⟩ := H
  have A2 := Aside0.mk A20
  clear A20
  obtain rfl := Option.some.inj H
  go_enter Tryz.func75, Tryz.ntmps75
  go_wp2_with (first | ((with_reducible refine gate_dst (N := 1) rfl ?_); refine box_event ?hg (N := 1) ?hd (cs := #[.bool a0_0, .slice A0_1 l0_1.length c0_1, .int .i64 a0_2]) (t := 82) ?hr ?_; (case hd => rfl); (case hg => rfl); (case hr => first | (go_simp; done) | (go_simp; rfl)); intro gb173 hg w3 hbox hb; have n0_ := Aside0.mk (below_step (bA HB.out) hb); have n1_ := Aside0.mk (hbox); have n2_ := Aside0.mk ((by rw [hg]; exact (below_size (bA HB.out)) : w.heap.size ≤ gb173)); have n3_ := Aside0.mk ((by rw [hg]; exact (below_size (bA HB.out)) : w.heap.size ≤ gb173)); clear HB; have HB := n0_; have BK173 := n1_; have GW173 := n2_; have GE173 := n3_; clear n0_ n1_ n2_ n3_; clear hb hbox hg; have hcz4_0 : w3.cell? ⟨gb173, 0, none⟩ = some (.bool a0_0) := (blk_cell BK173.out 0).trans rfl; have hcz4_1 : w3.cell? ⟨gb173, 1, none⟩ = some (.slice A0_1 l0_1.length c0_1) := (blk_cell BK173.out 1).trans rfl; have hcz4_2 : w3.cell? ⟨gb173, 2, none⟩ = some (.int .i64 a0_2) := (blk_cell BK173.out 2).trans rfl; have hfz4_0 := blk_frozen BK173.out 0; have hfz4_1 := blk_frozen BK173.out 1; have hfz4_2 := blk_frozen BK173.out 2) | ((with_reducible refine gate_callee (f := 119) rfl ?_); refine goesL_ (some 4) rfl rfl Tryz.func119 (by kernel_rfl) rfl #[.agg #[.bool a0_0, .slice A0_1 l0_1.length c0_1, .int .i64 a0_2], .bool false] rfl mA ?_; (with_reducible refine (tenorref1_NearMore.calls k a0_0 _ _ l0_1 a0_2 false t174 _ ?side1 ?side2 A2.out).mono ?_); (case side1 => exact cA (Kd.C_below HR0_1.out HB.out)); (case side2 => exact HC0_1.out); rintro e w5 ⟨rfl, hb⟩; refine ⟨_, rfl, ?_⟩; have n0_ := Aside0.mk (blk_below (g := gb173) (o := .cells #[.bool a0_0, .slice A0_1 l0_1.length c0_1, .int .i64 a0_2] 82 (0, 0)) (kA BK173.out) hb); have n1_ := Aside0.mk (below_step (bG HB.out) hb); clear BK173; clear HB; have BK173 := n0_; have HB := n1_; clear n0_ n1_; (try clear hb); (try clear hb2); (try clear hk); (try clear hi)))
  go_ret
  exact ⟨by first | rfl | (simp [errW_none, errW_some] <;> rfl) | (simp [*, errW_none, errW_some] <;> rfl), bG HB.out⟩

end Go.Proofs.YtepcegiciecogaaGreat.FR
