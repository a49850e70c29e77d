/- Written by the session's fprint.py out of the translation. -/
import Derived.Test.YtepcegiciecogaaGreatFRx0
import Derived.Test.YtepcegiciecogaaGreatFRx1
import Derived.Test.YtepcegiciecogaaGreatFRx3
import Derived.Test.YtepcegiciecogaaGreatFRx4
namespace Go.Proofs.YtepcegiciecogaaGreat.FR
open Go.RowKit Go.Proofs.YtepcegiciecogaaGreatW.PrintWords Go.Proofs.YtepcegiciecogaaGreatW.PrintLast Go.Proofs.YtepcegiciecogaaGreatW.PrintMore
attribute [local go_sem] max2_int min2_int max_two min_two max_three min_three max_four min_four   -- for this text's walks alone
open Go.Proofs.YtepcegiciecogaaGreat.FX
attribute [local go_sem] run_store_float run_neg_float run_fmul isSome_setCell 
set_option linter.unusedVariables false
set_option linter.unusedSimpArgs false

/-! ### tenorref1_Mul: function 44 -/
mutual
def tenorref1_Mul.j0 : Nat → Int → Int → Int → Bool → Option (Int)
  | 0, _, _, _, _ => none
  | k + 1, x0, x1, x5, x33 => if x33 = true then (some 9221120237041090561) else ((tenorref1_IsInf.f x0).bind fun t203 => (if t203 = true then (tenorref1_Mul.j1 k x0 x1 x5 true) else ((tenorref1_IsInf.f x1).bind fun t204 => (tenorref1_Mul.j1 k x0 x1 x5 t204))))
def tenorref1_Mul.j1 : Nat → Int → Int → Int → Bool → Option (Int)
  | 0, _, _, _, _ => none
  | k + 1, x0, x1, x5, x39 => if x39 = true then (some (IntKind.u64.wrap (x5 + 9218868437227405312))) else ((tenorref1_Of.f k x0).bind fun bt205 => ((tenorref1_Of.f k x1).bind fun bt210 => ((tenorref1_Times.f k bt205.1 bt205.2.1 bt205.2.2 bt210.1 bt210.2.1 bt210.2.2).bind fun bt215 => ((tenorref1_Near.f k bt215.1 bt215.2.1 bt215.2.2).bind fun t220 => ((tenorref1_Size.f t220).bind fun t221 => (some (IntKind.u64.wrap (x5 + t221))))))))
end
def tenorref1_Mul.f (k : Nat) (a0 : Int) (a1 : Int) : Option (Int) := (tenorref1_IsNaN.f a0).bind fun t195 => (if t195 = true then (tenorref1_Mul.j0 k a0 a1 (Go.bits .and .u64 (Go.bits .xor .u64 a0 a1) 9223372036854775808) true) else ((tenorref1_IsNaN.f a1).bind fun t196 => (if t196 = true then (tenorref1_Mul.j0 k a0 a1 (Go.bits .and .u64 (Go.bits .xor .u64 a0 a1) 9223372036854775808) true) else ((tenorref1_IsInf.f a0).bind fun t197 => (if t197 = true then ((tenorref1_Size.f a1).bind fun t198 => (if t198 = 0 then (tenorref1_Mul.j0 k a0 a1 (Go.bits .and .u64 (Go.bits .xor .u64 a0 a1) 9223372036854775808) true) else ((tenorref1_IsInf.f a1).bind fun t199 => (if t199 = true then ((tenorref1_Size.f a0).bind fun t200 => (tenorref1_Mul.j0 k a0 a1 (Go.bits .and .u64 (Go.bits .xor .u64 a0 a1) 9223372036854775808) (t200 == 0))) else (tenorref1_Mul.j0 k a0 a1 (Go.bits .and .u64 (Go.bits .xor .u64 a0 a1) 9223372036854775808) false))))) else ((tenorref1_IsInf.f a1).bind fun t201 => (if t201 = true then ((tenorref1_Size.f a0).bind fun t202 => (tenorref1_Mul.j0 k a0 a1 (Go.bits .and .u64 (Go.bits .xor .u64 a0 a1) 9223372036854775808) (t202 == 0))) else (tenorref1_Mul.j0 k a0 a1 (Go.bits .and .u64 (Go.bits .xor .u64 a0 a1) 9223372036854775808) false))))))))
set_option maxHeartbeats 8000000 in
set_option maxRecDepth 100000 in
theorem tenorref1_Mul.calls (k : Nat) (a0 : Int) (a1 : Int) (r : Int) (w : World) (h : tenorref1_Mul.f k a0 a1 = some r) :
    Calls Tryz.prog 44 #[.int .u64 a0, .int .u64 a1] w fun e w' => e = .returned (.int .u64 r) ∧ Below w.heap.size w w' := by
  have HB := Aside0.mk (Below.refl w.heap.size w)
  have H : ((tenorref1_IsNaN.f a0).bind fun t195 => (if t195 = true then (tenorref1_Mul.j0 k a0 a1 (Go.bits .and .u64 (Go.bits .xor .u64 a0 a1) 9223372036854775808) true) else ((tenorref1_IsNaN.f a1).bind fun t196 => (if t196 = true then (tenorref1_Mul.j0 k a0 a1 (Go.bits .and .u64 (Go.bits .xor .u64 a0 a1) 9223372036854775808) true) else ((tenorref1_IsInf.f a0).bind fun t197 => (if t197 = true then ((tenorref1_Size.f a1).bind fun t198 => (if t198 = 0 then (tenorref1_Mul.j0 k a0 a1 (Go.bits .and .u64 (Go.bits .xor .u64 a0 a1) 9223372036854775808) true) else ((tenorref1_IsInf.f a1).bind fun t199 => (if t199 = true then ((tenorref1_Size.f a0).bind fun t200 => (tenorref1_Mul.j0 k a0 a1 (Go.bits .and .u64 (Go.bits .xor .u64 a0 a1) 9223372036854775808) (t200 == 0))) else (tenorref1_Mul.j0 k a0 a1 (Go.bits .and .u64 (Go.bits .xor .u64 a0 a1) 9223372036854775808) false))))) else ((tenorref1_IsInf.f a1).bind fun t201 => (if t201 = true then ((tenorref1_Size.f a0).bind fun t202 => (tenorref1_Mul.j0 k a0 a1 (Go.bits .and .u64 (Go.bits .xor .u64 a0 a1) 9223372036854775808) (t202 == 0))) else (tenorref1_Mul.j0 k a0 a1 (Go.bits .and .u64 (Go.bits .xor .u64 a0 a1) 9223372036854775808) false))))))))) = some r := h
  clear h
  have HC3 := Aside0.mk H
  clear H
  go_enter Tryz.func44, Tryz.ntmps44
  go_upto_region 2 with (fail)
  go_cut [33] (fun v33 wc => ∃ (kq : Nat) (x33_2 : Bool), v33 = .bool x33_2 ∧ Aside0 (tenorref1_Mul.j0 kq a0 a1 (Go.bits .and .u64 (Go.bits .xor .u64 a0 a1) 9223372036854775808) x33_2 = some r) ∧ Aside0 (kq ≤ k) ∧ Aside0 (Below w.heap.size w wc))
  case first =>
    have H := HC3.out
    clear HC3
    replace H := Option.bind_eq_some_iff.mp H
    obtain ⟨t195, A40, H⟩ := H
    have A4 := Aside0.mk A40
    clear A40
    by_cases c5 : t195 = true
    · subst c5
      have H1 : (tenorref1_Mul.j0 k a0 a1 (Go.bits .and .u64 (Go.bits .xor .u64 a0 a1) 9223372036854775808) true) = some r := by rw [if_pos rfl] at H; exact H
      clear H
      have H := H1
      clear H1
      have H' := Aside0.mk H
      clear H
      go_wp2_with (first | ((with_reducible refine gate_callee (f := 68) rfl ?_); refine goesL_ (some 11) rfl rfl Tryz.func68 (by kernel_rfl) rfl #[.int .u64 a0] rfl mA ?_; (with_reducible refine (tenorref1_IsNaN.calls a0 true _ A4.out).mono ?_); rintro e w' ⟨rfl, ⟨nd, rfl⟩⟩; refine ⟨_, rfl, ?_⟩))
      go_meet
      case rel => exact ⟨_, (true), (by first | (with_reducible rfl) | (simp; done) | (simp [*]; done) | rfl), H', ⟨by first | omega | exact Nat.le_refl _⟩, ⟨bA HB.out⟩⟩
    replace c5 := Bool.eq_false_iff.mpr c5
    subst c5
    have H1 : ((tenorref1_IsNaN.f a1).bind fun t196 => (if t196 = true then (tenorref1_Mul.j0 k a0 a1 (Go.bits .and .u64 (Go.bits .xor .u64 a0 a1) 9223372036854775808) true) else ((tenorref1_IsInf.f a0).bind fun t197 => (if t197 = true then ((tenorref1_Size.f a1).bind fun t198 => (if t198 = 0 then (tenorref1_Mul.j0 k a0 a1 (Go.bits .and .u64 (Go.bits .xor .u64 a0 a1) 9223372036854775808) true) else ((tenorref1_IsInf.f a1).bind fun t199 => (if t199 = true then ((tenorref1_Size.f a0).bind fun t200 => (tenorref1_Mul.j0 k a0 a1 (Go.bits .and .u64 (Go.bits .xor .u64 a0 a1) 9223372036854775808) (t200 == 0))) else (tenorref1_Mul.j0 k a0 a1 (Go.bits .and .u64 (Go.bits .xor .u64 a0 a1) 9223372036854775808) false))))) else ((tenorref1_IsInf.f a1).bind fun t201 => (if t201 = true then ((tenorref1_Size.f a0).bind fun t202 => (tenorref1_Mul.j0 k a0 a1 (Go.bits .and .u64 (Go.bits .xor .u64 a0 a1) 9223372036854775808) (t202 == 0))) else (tenorref1_Mul.j0 k a0 a1 (Go.bits .and .u64 (Go.bits .xor .u64 a0 a1) 9223372036854775808) false))))))) = some r := by rw [if_neg (show ¬ (false = true) by decide)] at H; exact H
    clear H
    have H := H1
    clear H1
    replace H := Option.bind_eq_some_iff.mp H
    obtain ⟨t196, A60, H⟩ := H
    have A6 := Aside0.mk A60
    clear A60
    by_cases c7 : t196 = true
    · subst c7
      have H1 : (tenorref1_Mul.j0 k a0 a1 (Go.bits .and .u64 (Go.bits .xor .u64 a0 a1) 9223372036854775808) true) = some r := by rw [if_pos rfl] at H; exact H
      clear H
      have H := H1
      clear H1
      have H' := Aside0.mk H
      clear H
      go_wp2_with (first | ((with_reducible refine gate_callee (f := 68) rfl ?_); refine goesL_ (some 11) rfl rfl Tryz.func68 (by kernel_rfl) rfl #[.int .u64 a0] rfl mA ?_; (with_reducible refine (tenorref1_IsNaN.calls a0 false _ A4.out).mono ?_); rintro e w' ⟨rfl, ⟨nd, rfl⟩⟩; refine ⟨_, rfl, ?_⟩) | (go_at_call 68; (with_reducible refine (tenorref1_IsNaN.calls a1 true _ A6.out).mono ?_); rintro e w' ⟨rfl, ⟨nd, rfl⟩⟩))
      go_meet
      case rel => exact ⟨_, (true), (by first | (with_reducible rfl) | (simp; done) | (simp [*]; done) | rfl), H', ⟨by first | omega | exact Nat.le_refl _⟩, ⟨bA HB.out⟩⟩
    replace c7 := Bool.eq_false_iff.mpr c7
    subst c7
    have H1 : ((tenorref1_IsInf.f a0).bind fun t197 => (if t197 = true then ((tenorref1_Size.f a1).bind fun t198 => (if t198 = 0 then (tenorref1_Mul.j0 k a0 a1 (Go.bits .and .u64 (Go.bits .xor .u64 a0 a1) 9223372036854775808) true) else ((tenorref1_IsInf.f a1).bind fun t199 => (if t199 = true then ((tenorref1_Size.f a0).bind fun t200 => (tenorref1_Mul.j0 k a0 a1 (Go.bits .and .u64 (Go.bits .xor .u64 a0 a1) 9223372036854775808) (t200 == 0))) else (tenorref1_Mul.j0 k a0 a1 (Go.bits .and .u64 (Go.bits .xor .u64 a0 a1) 9223372036854775808) false))))) else ((tenorref1_IsInf.f a1).bind fun t201 => (if t201 = true then ((tenorref1_Size.f a0).bind fun t202 => (tenorref1_Mul.j0 k a0 a1 (Go.bits .and .u64 (Go.bits .xor .u64 a0 a1) 9223372036854775808) (t202 == 0))) else (tenorref1_Mul.j0 k a0 a1 (Go.bits .and .u64 (Go.bits .xor .u64 a0 a1) 9223372036854775808) false))))) = some r := by rw [if_neg (show ¬ (false = true) by decide)] at H; exact H
    clear H
    have H := H1
    clear H1
    replace H := Option.bind_eq_some_iff.mp H
    obtain ⟨t197, A80, H⟩ := H
    have A8 := Aside0.mk A80
    clear A80
    by_cases c9 : t197 = true
    rotate_left
    · replace c9 := Bool.eq_false_iff.mpr c9
      subst c9
      have H1 : ((tenorref1_IsInf.f a1).bind fun t201 => (if t201 = true then ((tenorref1_Size.f a0).bind fun t202 => (tenorref1_Mul.j0 k a0 a1 (Go.bits .and .u64 (Go.bits .xor .u64 a0 a1) 9223372036854775808) (t202 == 0))) else (tenorref1_Mul.j0 k a0 a1 (Go.bits .and .u64 (Go.bits .xor .u64 a0 a1) 9223372036854775808) false))) = some r := by rw [if_neg (show ¬ (false = true) by decide)] at H; exact H
      clear H
      have H := H1
      clear H1
      replace H := Option.bind_eq_some_iff.mp H
      obtain ⟨t201, A150, H⟩ := H
      have A15 := Aside0.mk A150
      clear A150
      by_cases c16 : t201 = true
      rotate_left
      · replace c16 := Bool.eq_false_iff.mpr c16
        subst c16
        have H1 : (tenorref1_Mul.j0 k a0 a1 (Go.bits .and .u64 (Go.bits .xor .u64 a0 a1) 9223372036854775808) false) = some r := by rw [if_neg (show ¬ (false = true) by decide)] at H; exact H
        clear H
        have H := H1
        clear H1
        have H' := Aside0.mk H
        clear H
        go_wp2_with (first | ((with_reducible refine gate_callee (f := 68) rfl ?_); refine goesL_ (some 11) rfl rfl Tryz.func68 (by kernel_rfl) rfl #[.int .u64 a0] rfl mA ?_; (with_reducible refine (tenorref1_IsNaN.calls a0 false _ A4.out).mono ?_); rintro e w' ⟨rfl, ⟨nd, rfl⟩⟩; refine ⟨_, rfl, ?_⟩) | (go_at_call 68; (with_reducible refine (tenorref1_IsNaN.calls a1 false _ A6.out).mono ?_); rintro e w' ⟨rfl, ⟨nd, rfl⟩⟩) | (go_at_call 69; (with_reducible refine (tenorref1_IsInf.calls a0 false _ A8.out).mono ?_); rintro e w' ⟨rfl, ⟨nd, rfl⟩⟩) | (go_at_call 69; (with_reducible refine (tenorref1_IsInf.calls a1 false _ A15.out).mono ?_); rintro e w' ⟨rfl, ⟨nd, rfl⟩⟩))
        go_meet
        case rel => exact ⟨_, (false), (by first | (with_reducible rfl) | (simp; done) | (simp [*]; done) | rfl), H', ⟨by first | omega | exact Nat.le_refl _⟩, ⟨bA HB.out⟩⟩
      subst c16
      have H1 : ((tenorref1_Size.f a0).bind fun t202 => (tenorref1_Mul.j0 k a0 a1 (Go.bits .and .u64 (Go.bits .xor .u64 a0 a1) 9223372036854775808) (t202 == 0))) = some r := by rw [if_pos rfl] at H; exact H
      clear H
      have H := H1
      clear H1
      replace H := Option.bind_eq_some_iff.mp H
      obtain ⟨t202, A170, H⟩ := H
      have A17 := Aside0.mk A170
      clear A170
      have H' := Aside0.mk H
      clear H
      go_wp2_with (first | ((with_reducible refine gate_callee (f := 68) rfl ?_); refine goesL_ (some 11) rfl rfl Tryz.func68 (by kernel_rfl) rfl #[.int .u64 a0] rfl mA ?_; (with_reducible refine (tenorref1_IsNaN.calls a0 false _ A4.out).mono ?_); rintro e w' ⟨rfl, ⟨nd, rfl⟩⟩; refine ⟨_, rfl, ?_⟩) | (go_at_call 68; (with_reducible refine (tenorref1_IsNaN.calls a1 false _ A6.out).mono ?_); rintro e w' ⟨rfl, ⟨nd, rfl⟩⟩) | (go_at_call 69; (with_reducible refine (tenorref1_IsInf.calls a0 false _ A8.out).mono ?_); rintro e w' ⟨rfl, ⟨nd, rfl⟩⟩) | (go_at_call 69; (with_reducible refine (tenorref1_IsInf.calls a1 true _ A15.out).mono ?_); rintro e w' ⟨rfl, ⟨nd, rfl⟩⟩) | (go_at_call 74; (with_reducible refine (tenorref1_Size.calls a0 t202 _ A17.out).mono ?_); rintro e w' ⟨rfl, ⟨nd, rfl⟩⟩))
      go_meet
      case rel => exact ⟨_, ((t202 == 0)), (by first | (with_reducible rfl) | (simp; done) | (simp [*]; done) | rfl), H', ⟨by first | omega | exact Nat.le_refl _⟩, ⟨bA HB.out⟩⟩
    subst c9
    have H1 : ((tenorref1_Size.f a1).bind fun t198 => (if t198 = 0 then (tenorref1_Mul.j0 k a0 a1 (Go.bits .and .u64 (Go.bits .xor .u64 a0 a1) 9223372036854775808) true) else ((tenorref1_IsInf.f a1).bind fun t199 => (if t199 = true then ((tenorref1_Size.f a0).bind fun t200 => (tenorref1_Mul.j0 k a0 a1 (Go.bits .and .u64 (Go.bits .xor .u64 a0 a1) 9223372036854775808) (t200 == 0))) else (tenorref1_Mul.j0 k a0 a1 (Go.bits .and .u64 (Go.bits .xor .u64 a0 a1) 9223372036854775808) false))))) = some r := by rw [if_pos rfl] at H; exact H
    clear H
    have H := H1
    clear H1
    replace H := Option.bind_eq_some_iff.mp H
    obtain ⟨t198, A100, H⟩ := H
    have A10 := Aside0.mk A100
    clear A100
    by_cases c11 : t198 = 0
    · rw [if_pos c11] at H
      have c11b0 : (t198 == 0) = true := beq_iff_eq.mpr c11
      have c11b1 : (t198 != 0) = false := bne_eq_false_iff_eq.mpr c11
      clear c11
      (first | rw [c11b0] | (simp only [i64_w, i32_w]; rw [c11b0]) | skip)
      have H' := Aside0.mk H
      clear H
      go_wp2_with (first | ((with_reducible refine gate_callee (f := 68) rfl ?_); refine goesL_ (some 11) rfl rfl Tryz.func68 (by kernel_rfl) rfl #[.int .u64 a0] rfl mA ?_; (with_reducible refine (tenorref1_IsNaN.calls a0 false _ A4.out).mono ?_); rintro e w' ⟨rfl, ⟨nd, rfl⟩⟩; refine ⟨_, rfl, ?_⟩) | (go_at_call 68; (with_reducible refine (tenorref1_IsNaN.calls a1 false _ A6.out).mono ?_); rintro e w' ⟨rfl, ⟨nd, rfl⟩⟩) | (go_at_call 69; (with_reducible refine (tenorref1_IsInf.calls a0 true _ A8.out).mono ?_); rintro e w' ⟨rfl, ⟨nd, rfl⟩⟩) | (go_at_call 74; (with_reducible refine (tenorref1_Size.calls a1 t198 _ A10.out).mono ?_); rintro e w' ⟨rfl, ⟨nd, rfl⟩⟩))
      go_meet
      case rel => exact ⟨_, (true), (by first | (with_reducible rfl) | (simp; done) | (simp [*]; done) | rfl), H', ⟨by first | omega | exact Nat.le_refl _⟩, ⟨bA HB.out⟩⟩
    rw [if_neg c11] at H
    have c11b0 : (t198 == 0) = false := beq_eq_false_iff_ne.mpr c11
    have c11b1 : (t198 != 0) = true := bne_iff_ne.mpr c11
    (first | rw [c11b0] | (simp only [i64_w, i32_w]; rw [c11b0]) | skip)
    replace H := Option.bind_eq_some_iff.mp H
    obtain ⟨t199, A120, H⟩ := H
    have A12 := Aside0.mk A120
    clear A120
    by_cases c13 : t199 = true
    rotate_left
    · replace c13 := Bool.eq_false_iff.mpr c13
      subst c13
      have H1 : (tenorref1_Mul.j0 k a0 a1 (Go.bits .and .u64 (Go.bits .xor .u64 a0 a1) 9223372036854775808) false) = some r := by rw [if_neg (show ¬ (false = true) by decide)] at H; exact H
      clear H
      have H := H1
      clear H1
      have H' := Aside0.mk H
      clear H
      go_wp2_with (first | ((with_reducible refine gate_callee (f := 68) rfl ?_); refine goesL_ (some 11) rfl rfl Tryz.func68 (by kernel_rfl) rfl #[.int .u64 a0] rfl mA ?_; (with_reducible refine (tenorref1_IsNaN.calls a0 false _ A4.out).mono ?_); rintro e w' ⟨rfl, ⟨nd, rfl⟩⟩; refine ⟨_, rfl, ?_⟩) | (go_at_call 68; (with_reducible refine (tenorref1_IsNaN.calls a1 false _ A6.out).mono ?_); rintro e w' ⟨rfl, ⟨nd, rfl⟩⟩) | (go_at_call 69; (with_reducible refine (tenorref1_IsInf.calls a0 true _ A8.out).mono ?_); rintro e w' ⟨rfl, ⟨nd, rfl⟩⟩) | (go_at_call 74; (with_reducible refine (tenorref1_Size.calls a1 t198 _ A10.out).mono ?_); rintro e w' ⟨rfl, ⟨nd, rfl⟩⟩) | (go_at_call 69; (with_reducible refine (tenorref1_IsInf.calls a1 false _ A12.out).mono ?_); rintro e w' ⟨rfl, ⟨nd, rfl⟩⟩))
      go_meet
      case rel => exact ⟨_, (false), (by first | (with_reducible rfl) | (simp; done) | (simp [*]; done) | rfl), H', ⟨by first | omega | exact Nat.le_refl _⟩, ⟨bA HB.out⟩⟩
    subst c13
    have H1 : ((tenorref1_Size.f a0).bind fun t200 => (tenorref1_Mul.j0 k a0 a1 (Go.bits .and .u64 (Go.bits .xor .u64 a0 a1) 9223372036854775808) (t200 == 0))) = some r := by rw [if_pos rfl] at H; exact H
    clear H
    have H := H1
    clear H1
    replace H := Option.bind_eq_some_iff.mp H
    obtain ⟨t200, A140, H⟩ := H
    have A14 := Aside0.mk A140
    clear A140
    have H' := Aside0.mk H
    clear H
    go_wp2_with (first | ((with_reducible refine gate_callee (f := 68) rfl ?_); refine goesL_ (some 11) rfl rfl Tryz.func68 (by kernel_rfl) rfl #[.int .u64 a0] rfl mA ?_; (with_reducible refine (tenorref1_IsNaN.calls a0 false _ A4.out).mono ?_); rintro e w' ⟨rfl, ⟨nd, rfl⟩⟩; refine ⟨_, rfl, ?_⟩) | (go_at_call 68; (with_reducible refine (tenorref1_IsNaN.calls a1 false _ A6.out).mono ?_); rintro e w' ⟨rfl, ⟨nd, rfl⟩⟩) | (go_at_call 69; (with_reducible refine (tenorref1_IsInf.calls a0 true _ A8.out).mono ?_); rintro e w' ⟨rfl, ⟨nd, rfl⟩⟩) | (go_at_call 74; (with_reducible refine (tenorref1_Size.calls a1 t198 _ A10.out).mono ?_); rintro e w' ⟨rfl, ⟨nd, rfl⟩⟩) | (go_at_call 69; (with_reducible refine (tenorref1_IsInf.calls a1 true _ A12.out).mono ?_); rintro e w' ⟨rfl, ⟨nd, rfl⟩⟩) | (go_at_call 74; (with_reducible refine (tenorref1_Size.calls a0 t200 _ A14.out).mono ?_); rintro e w' ⟨rfl, ⟨nd, rfl⟩⟩))
    go_meet
    case rel => exact ⟨_, ((t200 == 0)), (by first | (with_reducible rfl) | (simp; done) | (simp [*]; done) | rfl), H', ⟨by first | omega | exact Nat.le_refl _⟩, ⟨bA HB.out⟩⟩
  case rest =>
    clear HC3
    try clear c1
    try clear p2
    try clear c4
    try clear c5
    try clear c6
    try clear c7
    try clear c9
    try clear c11
    try clear c11b0
    try clear c11b1
    try clear c13
    try clear c16
    obtain ⟨kq, x33_2, rfl, HA, HJ2, HB⟩ := hcut
    cases kq with
    | zero => exact absurd HA.out (by simp [tenorref1_Mul.j0])
    | succ kj2 =>
      have H := HA.out
      clear HA
      simp only [tenorref1_Mul.j0] at H
      by_cases c18 : x33_2 = true
      · subst c18
        have H1 : (some 9221120237041090561) = some r := by rw [if_pos rfl] at H; exact H
        clear H
        have H := H1
        clear H1
        obtain rfl := Option.some.inj H
        go_wp2
        go_ret
        exact ⟨by first | rfl | (simp [errW_none, errW_some] <;> rfl) | (simp [*, errW_none, errW_some] <;> rfl), bA HB.out⟩
      replace c18 := Bool.eq_false_iff.mpr c18
      subst c18
      have H1 : ((tenorref1_IsInf.f a0).bind fun t203 => (if t203 = true then (tenorref1_Mul.j1 kj2 a0 a1 (Go.bits .and .u64 (Go.bits .xor .u64 a0 a1) 9223372036854775808) true) else ((tenorref1_IsInf.f a1).bind fun t204 => (tenorref1_Mul.j1 kj2 a0 a1 (Go.bits .and .u64 (Go.bits .xor .u64 a0 a1) 9223372036854775808) t204)))) = some r := by rw [if_neg (show ¬ (false = true) by decide)] at H; exact H
      clear H
      have H := H1
      clear H1
      have HC19 := Aside0.mk H
      clear H
      go_upto_region 4 with (fail)
      go_cut [39] (fun v39 wc => ∃ (kq : Nat) (x39_18 : Bool), v39 = .bool x39_18 ∧ Aside0 (tenorref1_Mul.j1 kq a0 a1 (Go.bits .and .u64 (Go.bits .xor .u64 a0 a1) 9223372036854775808) x39_18 = some r) ∧ Aside0 (kq ≤ kj2) ∧ Aside0 (Below w.heap.size w wc))
      case first =>
        have H := HC19.out
        clear HC19
        replace H := Option.bind_eq_some_iff.mp H
        obtain ⟨t203, A200, H⟩ := H
        have A20 := Aside0.mk A200
        clear A200
        by_cases c21 : t203 = true
        · subst c21
          have H1 : (tenorref1_Mul.j1 kj2 a0 a1 (Go.bits .and .u64 (Go.bits .xor .u64 a0 a1) 9223372036854775808) true) = some r := by rw [if_pos rfl] at H; exact H
          clear H
          have H := H1
          clear H1
          have H' := Aside0.mk H
          clear H
          go_wp2_with (first | ((with_reducible refine gate_callee (f := 69) rfl ?_); refine goesL_ (some 35) rfl rfl Tryz.func69 (by kernel_rfl) rfl #[.int .u64 a0] rfl mA ?_; (with_reducible refine (tenorref1_IsInf.calls a0 true _ A20.out).mono ?_); rintro e w' ⟨rfl, ⟨nd, rfl⟩⟩; refine ⟨_, rfl, ?_⟩))
          go_meet
          case rel => exact ⟨_, (true), (by first | (with_reducible rfl) | (simp; done) | (simp [*]; done) | rfl), H', ⟨by have := HJ2.out; first | omega | exact Nat.le_refl _⟩, ⟨bA HB.out⟩⟩
        replace c21 := Bool.eq_false_iff.mpr c21
        subst c21
        have H1 : ((tenorref1_IsInf.f a1).bind fun t204 => (tenorref1_Mul.j1 kj2 a0 a1 (Go.bits .and .u64 (Go.bits .xor .u64 a0 a1) 9223372036854775808) t204)) = some r := by rw [if_neg (show ¬ (false = true) by decide)] at H; exact H
        clear H
        have H := H1
        clear H1
        replace H := Option.bind_eq_some_iff.mp H
        obtain ⟨t204, A220, H⟩ := H
        have A22 := Aside0.mk A220
        clear A220
        have H' := Aside0.mk H
        clear H
        go_wp2_with (first | ((with_reducible refine gate_callee (f := 69) rfl ?_); refine goesL_ (some 35) rfl rfl Tryz.func69 (by kernel_rfl) rfl #[.int .u64 a0] rfl mA ?_; (with_reducible refine (tenorref1_IsInf.calls a0 false _ A20.out).mono ?_); rintro e w' ⟨rfl, ⟨nd, rfl⟩⟩; refine ⟨_, rfl, ?_⟩) | (go_at_call 69; (with_reducible refine (tenorref1_IsInf.calls a1 t204 _ A22.out).mono ?_); rintro e w' ⟨rfl, ⟨nd, rfl⟩⟩))
        go_meet
        case rel => exact ⟨_, (t204), (by first | (with_reducible rfl) | (simp; done) | (simp [*]; done) | rfl), H', ⟨by have := HJ2.out; first | omega | exact Nat.le_refl _⟩, ⟨bA HB.out⟩⟩
      case rest =>
        clear HC19
        try clear c1
        try clear c2
        try clear p2
        try clear c4
        try clear c5
        try clear c6
        try clear c7
        try clear c9
        try clear c11
        try clear c11b0
        try clear c11b1
        try clear c13
        try clear c16
        try clear c18
        try clear c21
        try clear p2
        obtain ⟨kq, x39_18, rfl, HA, HJ18, HB⟩ := hcut
        cases kq with
        | zero => exact absurd HA.out (by simp [tenorref1_Mul.j1])
        | succ kj18 =>
          have H := HA.out
          clear HA
          simp only [tenorref1_Mul.j1] at H
          by_cases c23 : x39_18 = true
          · subst c23
            have H1 : (some (IntKind.u64.wrap ((Go.bits .and .u64 (Go.bits .xor .u64 a0 a1) 9223372036854775808) + 9218868437227405312))) = some r := by rw [if_pos rfl] at H; exact H
            clear H
            have H := H1
            clear H1
            obtain rfl := Option.some.inj H
            go_wp2
            go_ret
            exact ⟨by first | rfl | (simp [errW_none, errW_some] <;> rfl) | (simp [*, errW_none, errW_some] <;> rfl), bA HB.out⟩
          replace c23 := Bool.eq_false_iff.mpr c23
          subst c23
          have H1 : ((tenorref1_Of.f kj18 a0).bind fun bt205 => ((tenorref1_Of.f kj18 a1).bind fun bt210 => ((tenorref1_Times.f kj18 bt205.1 bt205.2.1 bt205.2.2 bt210.1 bt210.2.1 bt210.2.2).bind fun bt215 => ((tenorref1_Near.f kj18 bt215.1 bt215.2.1 bt215.2.2).bind fun t220 => ((tenorref1_Size.f t220).bind fun t221 => (some (IntKind.u64.wrap ((Go.bits .and .u64 (Go.bits .xor .u64 a0 a1) 9223372036854775808) + t221)))))))) = some r := by rw [if_neg (show ¬ (false = true) by decide)] at H; exact H
          clear H
          have H := H1
          clear H1
          replace H := Option.bind_eq_some_iff.mp H
          obtain ⟨⟨t205, t206, t209⟩, A240, H⟩ := H
          have A24 := Aside0.mk A240
          clear A240
          replace H := Option.bind_eq_some_iff.mp H
          obtain ⟨⟨t210, t211, t214⟩, A250, H⟩ := H
          have A25 := Aside0.mk A250
          clear A250
          replace H := Option.bind_eq_some_iff.mp H
          obtain ⟨⟨t215, t216, t219⟩, A260, H⟩ := H
          have A26 := Aside0.mk A260
          clear A260
          replace H := Option.bind_eq_some_iff.mp H
          obtain ⟨t220, A270, H⟩ := H
          have A27 := Aside0.mk A270
          clear A270
          replace H := Option.bind_eq_some_iff.mp H
          obtain ⟨t221, A280, H⟩ := H
          have A28 := Aside0.mk A280
          clear A280
          obtain rfl := Option.some.inj H
          go_wp2_with (first | ((with_reducible refine gate_callee (f := 73) rfl ?_); refine goesL_ (some 44) rfl rfl Tryz.func73 (by kernel_rfl) rfl #[.int .u64 a0] rfl mA ?_; (with_reducible refine (tenorref1_Of.calls kj18 a0 t205 t206 t209 _ A24.out).mono ?_); rintro e w29 ⟨v207, rfl, ho0, hb⟩; refine ⟨_, rfl, ?_⟩; have n0_ := Aside0.mk (Kd.R_lower ho0 (below_size (bA HB.out))); have n1_ := Aside0.mk (below_step (bA HB.out) hb); clear HB; have HO208 := n0_; have HB := n1_; clear n0_ n1_; (try clear hb); (try clear hb2); (try clear hk); (try clear hi); (try clear ho0)) | ((with_reducible refine gate_callee (f := 73) rfl ?_); refine goesL_ (some 46) rfl rfl Tryz.func73 (by kernel_rfl) rfl #[.int .u64 a1] rfl mA ?_; (with_reducible refine (tenorref1_Of.calls kj18 a1 t210 t211 t214 _ A25.out).mono ?_); rintro e w30 ⟨v212, rfl, ho0, hb⟩; refine ⟨_, rfl, ?_⟩; have n0_ := Aside0.mk (Kd.R_elder' (rA HO208.out) (Kd.R_base ho0) hb); have n1_ := Aside0.mk (Kd.R_lower (Kd.R_new' ho0 (Kd.R_lt (rA HO208.out))) (below_size (bA HB.out))); have n2_ := Aside0.mk (below_step (bA HB.out) hb); clear HO208; clear HB; have HO208 := n0_; have HO213 := n1_; have HB := n2_; clear n0_ n1_ n2_; (try clear hb); (try clear hb2); (try clear hk); (try clear hi); (try clear ho0); obtain ⟨Ao31, co31, eo31⟩ := Kd.R_slice HO208.out; subst eo31; obtain ⟨Ao32, co32, eo32⟩ := Kd.R_slice HO213.out; subst eo32) | ((with_reducible refine gate_callee (f := 76) rfl ?_); refine goesL_ (some 47) rfl rfl Tryz.func76 (by kernel_rfl) rfl #[.agg #[.bool t205, .slice Ao31 t206.length co31, .int .i64 t209], .agg #[.bool t210, .slice Ao32 t211.length co32, .int .i64 t214]] rfl mA ?_; (with_reducible refine (tenorref1_Times.calls kj18 t205 _ _ t206 t209 t210 _ _ t211 t214 t215 t216 t219 _ ?side1 ?side2 ?side3 ?side4 A26.out).mono ?_); (case side1 => exact cA ((Kd.R_reads' HO208.out).2.2)); (case side2 => exact (Kd.R_reads' HO208.out).2.1); (case side3 => exact cA ((Kd.R_reads' HO213.out).2.2)); (case side4 => exact (Kd.R_reads' HO213.out).2.1); rintro e w33 ⟨v217, rfl, ho0, hb⟩; refine ⟨_, rfl, ?_⟩; have n0_ := Aside0.mk (Kd.R_elder' (rA HO208.out) (Kd.R_base ho0) hb); have n1_ := Aside0.mk (Kd.R_elder' (rA HO213.out) (Kd.R_base ho0) hb); have n2_ := Aside0.mk (Kd.R_lower (Kd.R_new' (Kd.R_new' ho0 (Kd.R_lt (rA HO208.out))) (Kd.R_lt (rA HO213.out))) (below_size (bA HB.out))); have n3_ := Aside0.mk (below_step (bA HB.out) hb); clear HO208; clear HO213; clear HB; have HO208 := n0_; have HO213 := n1_; have HO218 := n2_; have HB := n3_; clear n0_ n1_ n2_ n3_; (try clear hb); (try clear hb2); (try clear hk); (try clear hi); (try clear ho0); obtain ⟨Ao34, co34, eo34⟩ := Kd.R_slice HO218.out; subst eo34) | ((with_reducible refine gate_callee (f := 75) rfl ?_); refine goesL_ (some 48) rfl rfl Tryz.func75 (by kernel_rfl) rfl #[.agg #[.bool t215, .slice Ao34 t216.length co34, .int .i64 t219]] rfl mA ?_; (with_reducible refine (tenorref1_Near.calls kj18 t215 _ _ t216 t219 t220 _ ?side1 ?side2 A27.out).mono ?_); (case side1 => exact cA ((Kd.R_reads' HO218.out).2.2)); (case side2 => exact (Kd.R_reads' HO218.out).2.1); rintro e w35 ⟨rfl, hb⟩; refine ⟨_, rfl, ?_⟩; have n0_ := Aside0.mk (Kd.R_below (rA HO208.out) hb); have n1_ := Aside0.mk (Kd.R_below (rA HO213.out) hb); have n2_ := Aside0.mk (Kd.R_below (rA HO218.out) hb); have n3_ := Aside0.mk (below_step (bA HB.out) hb); clear HO208; clear HO213; clear HO218; clear HB; have HO208 := n0_; have HO213 := n1_; have HO218 := n2_; have HB := n3_; clear n0_ n1_ n2_ n3_; (try clear hb); (try clear hb2); (try clear hk); (try clear hi)) | ((with_reducible refine gate_callee (f := 74) rfl ?_); refine goesL_ (some 49) rfl rfl Tryz.func74 (by kernel_rfl) rfl #[.int .u64 t220] rfl mA ?_; (with_reducible refine (tenorref1_Size.calls t220 t221 _ A28.out).mono ?_); rintro e w' ⟨rfl, ⟨nd, rfl⟩⟩; refine ⟨_, rfl, ?_⟩))
          go_ret
          exact ⟨by first | rfl | (simp [errW_none, errW_some] <;> rfl) | (simp [*, errW_none, errW_some] <;> rfl), bA HB.out⟩

/-! ### tenorref1_both: function 113 -/
/-! ### tenorref1_low: function 114 -/
/-! ### tenorref1_AddDigits: function 115 -/
/-! ### tenorref1_CmpDigits: function 116 -/
end Go.Proofs.YtepcegiciecogaaGreat.FR
