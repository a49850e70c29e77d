/- Written by the session's fprint.py out of the translation. -/
import Derived.Test.YtepcegiciecogaaGreatFNx0
import Derived.Test.YtepcegiciecogaaGreatFNx1
namespace Go.Proofs.YtepcegiciecogaaGreat.FN
open Go.RowKit Go.Proofs.YtepcegiciecogaaGreatW.PrintWords Go.Proofs.YtepcegiciecogaaGreatW.PrintLast Go.Proofs.YtepcegiciecogaaGreatW.PrintMore
attribute [local go_sem] max2_int min2_int max_two min_two max_three min_three max_four min_four   -- for this text's walks alone
open Go.Proofs.YtepcegiciecogaaGreat.FX Go.Proofs.YtepcegiciecogaaGreat.FB Go.Proofs.YtepcegiciecogaaGreat.FR Go.Proofs.YtepcegiciecogaaGreat.FT
attribute [local go_sem] run_store_float run_neg_float run_fmul isSome_setCell run_equalIn_float
set_option linter.unusedVariables false
set_option linter.unusedSimpArgs false

/-! ### tenorlaw14_FlowNets: function 3 -/
def tenorlaw14_FlowNets.f (k : Nat) (l0 : List (S46)) : Option (Bool) := (tenorlaw14_Few.f l0).bind fun t120 => (if t120 = true then ((flow_Net.f k l0).bind fun bt122 => ((tenorref14_Of.f k l0).bind fun t126 => ((tenorref14_Net.f k t126).bind fun bt129 => ((tenorref14_Same.f k bt122.1 bt129.1).bind fun t133 => (if t133 = true then (if bt122.2 = bt129.2 then ((law14_awake.f).bind fun t134 => (some t134)) else (none)) else (some false)))))) else ((law14_awake.f).bind fun t121 => (some t121)))
set_option maxHeartbeats 8000000 in
set_option maxRecDepth 100000 in
theorem tenorlaw14_FlowNets.calls (k : Nat) (A0 : Option Addr) (c0 : Nat) (l0 : List (S46)) (r : Bool) (w : World) (hr0 : Kd.C k46 w A0 l0.length l0) (hc0 : l0.length ≤ c0) (h : tenorlaw14_FlowNets.f k l0 = some r) :
    Calls Tryz.prog 3 #[.slice A0 l0.length c0] w fun e w' => e = .returned (.bool r) ∧ Below w.heap.size w w' := by
  have HR0 := Aside0.mk hr0
  have HC0 := Aside0.mk hc0
  clear hr0 hc0
  have HB := Aside0.mk (Below.refl w.heap.size w)
  have H : ((tenorlaw14_Few.f l0).bind fun t120 => (if t120 = true then ((flow_Net.f k l0).bind fun bt122 => ((tenorref14_Of.f k l0).bind fun t126 => ((tenorref14_Net.f k t126).bind fun bt129 => ((tenorref14_Same.f k bt122.1 bt129.1).bind fun t133 => (if t133 = true then (if bt122.2 = bt129.2 then ((law14_awake.f).bind fun t134 => (some t134)) else (none)) else (some false)))))) else ((law14_awake.f).bind fun t121 => (some t121)))) = some r := h
  clear h
  replace H := Option.bind_eq_some_iff.mp H
  obtain ⟨t120, A20, H⟩ := H
  have A2 := Aside0.mk A20
  clear A20
  by_cases c3 : t120 = true
  rotate_left
  · replace c3 := Bool.eq_false_iff.mpr c3
    subst c3
    have H1 : ((law14_awake.f).bind fun t121 => (some t121)) = some r := by rw [if_neg (show ¬ (false = true) by decide)] at H; exact H
    clear H
    have H := H1
    clear H1
    replace H := Option.bind_eq_some_iff.mp H
    obtain ⟨t121, A260, H⟩ := H
    have A26 := Aside0.mk A260
    clear A260
    obtain rfl := Option.some.inj H
    go_enter Tryz.func3, Tryz.ntmps3
    go_wp2_with (first | ((with_reducible refine gate_callee (f := 7) rfl ?_); refine goesL_ (some 8) rfl rfl Tryz.func7 (by kernel_rfl) rfl #[.slice A0 l0.length c0] rfl mA ?_; (with_reducible refine (tenorlaw14_Few.calls _ _ l0 false _ ?side1 ?side2 A2.out).mono ?_); (case side1 => exact cA HR0.out); (case side2 => exact HC0.out); rintro e w' ⟨rfl, ⟨nd, rfl⟩⟩; refine ⟨_, rfl, ?_⟩) | ((with_reducible refine gate_callee (f := 8) rfl ?_); refine goesL_ (some 10) rfl rfl Tryz.func8 (by kernel_rfl) rfl #[] rfl mA ?_; (with_reducible refine (law14_awake.calls  t121 _ A26.out).mono ?_); rintro e w27 ⟨rfl, hb⟩; refine ⟨_, rfl, ?_⟩; have n0_ := Aside0.mk (below_step (bA HB.out) hb); clear HB; have HB := n0_; clear n0_; (try clear hb); (try clear hb2); (try clear hk); (try clear hi)))
    go_ret
    exact ⟨by first | rfl | (simp [errW_none, errW_some] <;> rfl) | (simp [*, errW_none, errW_some] <;> rfl), bA HB.out⟩
  subst c3
  have H1 : ((flow_Net.f k l0).bind fun bt122 => ((tenorref14_Of.f k l0).bind fun t126 => ((tenorref14_Net.f k t126).bind fun bt129 => ((tenorref14_Same.f k bt122.1 bt129.1).bind fun t133 => (if t133 = true then (if bt122.2 = bt129.2 then ((law14_awake.f).bind fun t134 => (some t134)) else (none)) else (some false)))))) = some r := by rw [if_pos rfl] at H; exact H
  clear H
  have H := H1
  clear H1
  replace H := Option.bind_eq_some_iff.mp H
  obtain ⟨⟨t122, t123⟩, A40, H⟩ := H
  have A4 := Aside0.mk A40
  clear A40
  replace H := Option.bind_eq_some_iff.mp H
  obtain ⟨t126, A50, H⟩ := H
  have A5 := Aside0.mk A50
  clear A50
  replace H := Option.bind_eq_some_iff.mp H
  obtain ⟨⟨t129, t130⟩, A60, H⟩ := H
  have A6 := Aside0.mk A60
  clear A60
  replace H := Option.bind_eq_some_iff.mp H
  obtain ⟨t133, A70, H⟩ := H
  have A7 := Aside0.mk A70
  clear A70
  by_cases c8 : t133 = true
  rotate_left
  · replace c8 := Bool.eq_false_iff.mpr c8
    subst c8
    have H1 : (some false) = some r := by rw [if_neg (show ¬ (false = true) by decide)] at H; exact H
    clear H
    have H := H1
    clear H1
    obtain rfl := Option.some.inj H
    go_enter Tryz.func3, Tryz.ntmps3
    go_wp2_with (first | ((with_reducible refine gate_callee (f := 7) rfl ?_); refine goesL_ (some 8) rfl rfl Tryz.func7 (by kernel_rfl) rfl #[.slice A0 l0.length c0] rfl mA ?_; (with_reducible refine (tenorlaw14_Few.calls _ _ l0 true _ ?side1 ?side2 A2.out).mono ?_); (case side1 => exact cA HR0.out); (case side2 => exact HC0.out); rintro e w' ⟨rfl, ⟨nd, rfl⟩⟩; refine ⟨_, rfl, ?_⟩) | ((with_reducible refine gate_callee (f := 9) rfl ?_); refine goesL_ (some 13) rfl rfl Tryz.func9 (by kernel_rfl) rfl #[.slice A0 l0.length c0] rfl mA ?_; (with_reducible refine (flow_Net.calls k _ _ l0 t122 t123 _ ?side1 ?side2 A4.out).mono ?_); (case side1 => exact cA HR0.out); (case side2 => exact HC0.out); rintro e w19 ⟨v124, rfl, ho0, hb⟩; refine ⟨_, rfl, ?_⟩; have n0_ := Aside0.mk (Kd.R_lower ho0 (below_size (bA HB.out))); have n1_ := Aside0.mk (below_step (bA HB.out) hb); clear HB; have HO125 := n0_; have HB := n1_; clear n0_ n1_; (try clear hb); (try clear hb2); (try clear hk); (try clear hi); (try clear ho0)) | ((with_reducible refine gate_callee (f := 11) rfl ?_); refine goesL_ (some 18) rfl rfl Tryz.func11 (by kernel_rfl) rfl #[.slice A0 l0.length c0] rfl mA ?_; (with_reducible refine (tenorref14_Of.calls k _ _ l0 t126 _ ?side1 ?side2 A5.out).mono ?_); (case side1 => exact cA (Kd.C_below HR0.out HB.out)); (case side2 => exact HC0.out); rintro e w20 ⟨v127, rfl, ho0, hb⟩; refine ⟨_, rfl, ?_⟩; have n0_ := Aside0.mk (Kd.R_below (rA HO125.out) hb); have n1_ := Aside0.mk (Kd.R_lower ho0 (below_size (bA HB.out))); have n2_ := Aside0.mk (below_step (bA HB.out) hb); clear HO125; clear HB; have HO125 := n0_; have HO128 := n1_; have HB := n2_; clear n0_ n1_ n2_; (try clear hb); (try clear hb2); (try clear hk); (try clear hi); (try clear ho0); obtain ⟨Ao21, co21, eo21⟩ := Kd.R_slice HO128.out; subst eo21) | ((with_reducible refine gate_callee (f := 10) rfl ?_); refine goesL_ (some 19) rfl rfl Tryz.func10 (by kernel_rfl) rfl #[.slice Ao21 t126.length co21] rfl mA ?_; (with_reducible refine (tenorref14_Net.calls k _ _ t126 t129 t130 _ ?side1 ?side2 A6.out).mono ?_); (case side1 => exact cA ((Kd.R_reads' HO128.out).2.2)); (case side2 => exact (Kd.R_reads' HO128.out).2.1); rintro e w22 ⟨v131, rfl, ho0, hb⟩; refine ⟨_, rfl, ?_⟩; have n0_ := Aside0.mk (Kd.R_below (rA HO125.out) hb); have n1_ := Aside0.mk (Kd.R_elder' (rA HO128.out) (Kd.R_base ho0) hb); have n2_ := Aside0.mk (Kd.R_lower (Kd.R_new' ho0 (Kd.R_lt (rA HO128.out))) (below_size (bA HB.out))); have n3_ := Aside0.mk (below_step (bA HB.out) hb); clear HO125; clear HO128; clear HB; have HO125 := n0_; have HO128 := n1_; have HO132 := n2_; have HB := n3_; clear n0_ n1_ n2_ n3_; (try clear hb); (try clear hb2); (try clear hk); (try clear hi); (try clear ho0); obtain ⟨Ao23, co23, eo23⟩ := Kd.R_slice HO125.out; subst eo23; obtain ⟨Ao24, co24, eo24⟩ := Kd.R_slice HO132.out; subst eo24) | ((with_reducible refine gate_callee (f := 12) rfl ?_); refine goesL_ (some 24) rfl rfl Tryz.func12 (by kernel_rfl) rfl #[.slice Ao23 t122.length co23, .slice Ao24 t129.length co24] rfl mA ?_; (with_reducible refine (tenorref14_Same.calls k _ _ t122 _ _ t129 false _ ?side1 ?side2 ?side3 ?side4 A7.out).mono ?_); (case side1 => exact cA ((Kd.R_reads' HO125.out).2.2)); (case side2 => exact (Kd.R_reads' HO125.out).2.1); (case side3 => exact cA ((Kd.R_reads' HO132.out).2.2)); (case side4 => exact (Kd.R_reads' HO132.out).2.1); rintro e w25 ⟨rfl, hb⟩; refine ⟨_, rfl, ?_⟩; have n0_ := Aside0.mk (Kd.R_below (rA HO125.out) hb); have n1_ := Aside0.mk (Kd.R_below (rA HO128.out) hb); have n2_ := Aside0.mk (Kd.R_below (rA HO132.out) hb); have n3_ := Aside0.mk (below_step (bA HB.out) hb); clear HO125; clear HO128; clear HO132; clear HB; have HO125 := n0_; have HO128 := n1_; have HO132 := n2_; have HB := n3_; clear n0_ n1_ n2_ n3_; (try clear hb); (try clear hb2); (try clear hk); (try clear hi)))
    go_ret
    exact ⟨by first | rfl | (simp [errW_none, errW_some] <;> rfl) | (simp [*, errW_none, errW_some] <;> rfl), bA HB.out⟩
  subst c8
  have H1 : (if t123 = t130 then ((law14_awake.f).bind fun t134 => (some t134)) else (none)) = some r := by rw [if_pos rfl] at H; exact H
  clear H
  have H := H1
  clear H1
  by_cases c9 : t123 = t130
  rotate_left
  · rw [if_neg c9] at H
    exact absurd H (by simp)
  rw [if_pos c9] at H
  have c9b0 : (t123 == t130) = true := beq_iff_eq.mpr c9
  have c9b1 : (t123 != t130) = false := bne_eq_false_iff_eq.mpr c9
  clear c9
  replace H := Option.bind_eq_some_iff.mp H
  obtain ⟨t134, A100, H⟩ := H
  have A10 := Aside0.mk A100
  clear A100
  obtain rfl := Option.some.inj H
  go_enter Tryz.func3, Tryz.ntmps3
  go_wp2_with (first | ((with_reducible refine gate_callee (f := 7) rfl ?_); refine goesL_ (some 8) rfl rfl Tryz.func7 (by kernel_rfl) rfl #[.slice A0 l0.length c0] rfl mA ?_; (with_reducible refine (tenorlaw14_Few.calls _ _ l0 true _ ?side1 ?side2 A2.out).mono ?_); (case side1 => exact cA HR0.out); (case side2 => exact HC0.out); rintro e w' ⟨rfl, ⟨nd, rfl⟩⟩; refine ⟨_, rfl, ?_⟩) | ((with_reducible refine gate_callee (f := 9) rfl ?_); refine goesL_ (some 13) rfl rfl Tryz.func9 (by kernel_rfl) rfl #[.slice A0 l0.length c0] rfl mA ?_; (with_reducible refine (flow_Net.calls k _ _ l0 t122 t123 _ ?side1 ?side2 A4.out).mono ?_); (case side1 => exact cA HR0.out); (case side2 => exact HC0.out); rintro e w11 ⟨v124, rfl, ho0, hb⟩; refine ⟨_, rfl, ?_⟩; have n0_ := Aside0.mk (Kd.R_lower ho0 (below_size (bA HB.out))); have n1_ := Aside0.mk (below_step (bA HB.out) hb); clear HB; have HO125 := n0_; have HB := n1_; clear n0_ n1_; (try clear hb); (try clear hb2); (try clear hk); (try clear hi); (try clear ho0)) | ((with_reducible refine gate_callee (f := 11) rfl ?_); refine goesL_ (some 18) rfl rfl Tryz.func11 (by kernel_rfl) rfl #[.slice A0 l0.length c0] rfl mA ?_; (with_reducible refine (tenorref14_Of.calls k _ _ l0 t126 _ ?side1 ?side2 A5.out).mono ?_); (case side1 => exact cA (Kd.C_below HR0.out HB.out)); (case side2 => exact HC0.out); rintro e w12 ⟨v127, rfl, ho0, hb⟩; refine ⟨_, rfl, ?_⟩; have n0_ := Aside0.mk (Kd.R_below (rA HO125.out) hb); have n1_ := Aside0.mk (Kd.R_lower ho0 (below_size (bA HB.out))); have n2_ := Aside0.mk (below_step (bA HB.out) hb); clear HO125; clear HB; have HO125 := n0_; have HO128 := n1_; have HB := n2_; clear n0_ n1_ n2_; (try clear hb); (try clear hb2); (try clear hk); (try clear hi); (try clear ho0); obtain ⟨Ao13, co13, eo13⟩ := Kd.R_slice HO128.out; subst eo13) | ((with_reducible refine gate_callee (f := 10) rfl ?_); refine goesL_ (some 19) rfl rfl Tryz.func10 (by kernel_rfl) rfl #[.slice Ao13 t126.length co13] rfl mA ?_; (with_reducible refine (tenorref14_Net.calls k _ _ t126 t129 t130 _ ?side1 ?side2 A6.out).mono ?_); (case side1 => exact cA ((Kd.R_reads' HO128.out).2.2)); (case side2 => exact (Kd.R_reads' HO128.out).2.1); rintro e w14 ⟨v131, rfl, ho0, hb⟩; refine ⟨_, rfl, ?_⟩; have n0_ := Aside0.mk (Kd.R_below (rA HO125.out) hb); have n1_ := Aside0.mk (Kd.R_elder' (rA HO128.out) (Kd.R_base ho0) hb); have n2_ := Aside0.mk (Kd.R_lower (Kd.R_new' ho0 (Kd.R_lt (rA HO128.out))) (below_size (bA HB.out))); have n3_ := Aside0.mk (below_step (bA HB.out) hb); clear HO125; clear HO128; clear HB; have HO125 := n0_; have HO128 := n1_; have HO132 := n2_; have HB := n3_; clear n0_ n1_ n2_ n3_; (try clear hb); (try clear hb2); (try clear hk); (try clear hi); (try clear ho0); obtain ⟨Ao15, co15, eo15⟩ := Kd.R_slice HO125.out; subst eo15; obtain ⟨Ao16, co16, eo16⟩ := Kd.R_slice HO132.out; subst eo16) | ((with_reducible refine gate_callee (f := 12) rfl ?_); refine goesL_ (some 24) rfl rfl Tryz.func12 (by kernel_rfl) rfl #[.slice Ao15 t122.length co15, .slice Ao16 t129.length co16] rfl mA ?_; (with_reducible refine (tenorref14_Same.calls k _ _ t122 _ _ t129 true _ ?side1 ?side2 ?side3 ?side4 A7.out).mono ?_); (case side1 => exact cA ((Kd.R_reads' HO125.out).2.2)); (case side2 => exact (Kd.R_reads' HO125.out).2.1); (case side3 => exact cA ((Kd.R_reads' HO132.out).2.2)); (case side4 => exact (Kd.R_reads' HO132.out).2.1); rintro e w17 ⟨rfl, hb⟩; refine ⟨_, rfl, ?_⟩; have n0_ := Aside0.mk (Kd.R_below (rA HO125.out) hb); have n1_ := Aside0.mk (Kd.R_below (rA HO128.out) hb); have n2_ := Aside0.mk (Kd.R_below (rA HO132.out) hb); have n3_ := Aside0.mk (below_step (bA HB.out) hb); clear HO125; clear HO128; clear HO132; clear HB; have HO125 := n0_; have HO128 := n1_; have HO132 := n2_; have HB := n3_; clear n0_ n1_ n2_ n3_; (try clear hb); (try clear hb2); (try clear hk); (try clear hi)) | (go_at_call 8; (with_reducible refine (law14_awake.calls  t134 _ A10.out).mono ?_); rintro e w18 ⟨rfl, hb⟩; have n0_ := Aside0.mk (Kd.R_below (rA HO125.out) hb); have n1_ := Aside0.mk (Kd.R_below (rA HO128.out) hb); have n2_ := Aside0.mk (Kd.R_below (rA HO132.out) hb); have n3_ := Aside0.mk (below_step (bA HB.out) hb); clear HO125; clear HO128; clear HO132; clear HB; have HO125 := n0_; have HO128 := n1_; have HO132 := n2_; have HB := n3_; clear n0_ n1_ n2_ n3_; (try clear hb); (try clear hb2); (try clear hk); (try clear hi)))
  go_ret
  exact ⟨by first | rfl | (simp [errW_none, errW_some] <;> rfl) | (simp [*, errW_none, errW_some] <;> rfl), bA HB.out⟩

end Go.Proofs.YtepcegiciecogaaGreat.FN
