/- IeeeSteps, at any two floats: the law answers true, and its input stays. No condition. -/
import Derived.Test.YtfmbhfnigneenaaRows
import Derived.WalkKit
import Derived.ProofKit
import Derived.OpenShut
import Derived.Laws.Cover2
import Derived.Test.YtfmbhfnigneenaaAw
import Derived.Test.YtfmbhfnigneenaaA3
import Derived.Lib.Hide
import Derived.WalkSpells
import Derived.WalkLawsBesides
import Derived.Deep.QuietTactic
import Derived.BigQuiet
namespace Go.Proofs.Ytfmbhfnigneenaa
open Go.ChangeShapes Go.WideShapes Go.ChangeAt Go.RowKit

theorem float_lt {b : Nat} (h : (Lit.float .f64 b).wf = true) : b < 18446744073709551616 := by simpa [Lit.wf] using h
theorem float32_lt {b : Nat} (h : (Lit.float .f32 b).wf = true) : b < 4294967296 := by simpa [Lit.wf] using h
theorem i64_bd {n : Int} (h : (Lit.int .i64 n).wf = true) : -9223372036854775808 ≤ n ∧ n < 9223372036854775808 := by
  simp [Lit.wf, IntKind.min, IntKind.max, IntKind.bits, IntKind.signed] at h; omega
theorem u64_bd {n : Int} (h : (Lit.int .u64 n).wf = true) : 0 ≤ n ∧ n < 18446744073709551616 := by
  simp [Lit.wf, IntKind.min, IntKind.max, IntKind.bits, IntKind.signed] at h; omega
set_option maxRecDepth 100000 in
set_option maxHeartbeats 400000 in
theorem is_zero  (w : World) :
    Calls Try.prog 17 #[.float .f64 0, .int .u64 0] w fun e w' => e = .returned (.bool true) ∧ w = w' := by
  have := is_any 0 0 (by decide) (by decide) w
  exact this

set_option maxRecDepth 100000 in
set_option maxHeartbeats 400000 in
theorem steps_walk (a b : Nat) (h : a < 18446744073709551616) (h' : b < 18446744073709551616) (w : World) :
    Calls Try.prog 8 #[.float .f64 a, .float .f64 b] w fun e w' => e = .returned (.bool true) ∧ Below w.heap.size w w' := by
  have HS1 := Lib.hid (Tn.step_lt 1 h)
  have HT1 := Lib.hid (Tn.rstep_lt 1 h)
  have HS2 := Lib.hid (Tn.step_lt (-1) h)
  have HT2 := Lib.hid (Tn.rstep_lt (-1) h)
  have HM := Lib.hid (Tn.att_lt (Tn.midr a b))
  have e1 := Tn.same_step a 1
  have e2 := Tn.same_step a (-1)
  have e3 := Tn.same_refl (Tn.att (Tn.midr a b))
  have H := Lib.hid h; clear h
  have H' := Lib.hid h'; clear h'
  cases hs : (Tn.ok a && Tn.ok b)
  · go_enter Try.func8, Try.ntmps8
    go_wp2_with (first | (go_at_call 14; refine (bits_any _ _).mono ?_; rintro e w' ⟨rfl, rfl⟩) | (go_at_call 19; refine (mid_any _ _ H.out H'.out _).mono ?_; rintro e w' ⟨rfl, rfl⟩) | (go_at_call 33; refine (rmid_any _ _ H.out H'.out _).mono ?_; rintro e w' ⟨rfl, rfl⟩) | (go_at_call 34; refine (gap_any _ _ H.out H'.out _).mono ?_; rintro e w' ⟨rfl, rfl⟩) | (go_at_call 35; refine (rgap_any _ _ H.out H'.out _).mono ?_; rintro e w' ⟨rfl, rfl⟩) | (go_at_call 36; refine (up_any _ H.out _).mono ?_; rintro e w' ⟨rfl, rfl⟩) | (go_at_call 37; refine (rup_any _ H.out _).mono ?_; rintro e w' ⟨rfl, rfl⟩) | (go_at_call 38; refine (down_any _ H.out _).mono ?_; rintro e w' ⟨rfl, rfl⟩) | (go_at_call 39; refine (rdown_any _ H.out _).mono ?_; rintro e w' ⟨rfl, rfl⟩) | (first | (go_at_call 17; refine (is_zero _).mono ?_; rintro e w' ⟨rfl, rfl⟩) | (go_at_call 17; refine (is_any _ _ (by first | exact HS1.out | exact HS2.out | exact HM.out | decide) (by first | exact HT1.out | exact HT2.out | exact HM.out | decide) _).mono ?_; rintro e w' ⟨rfl, rfl⟩)) | (go_at_call 18; refine (awake_any _).mono ?_; rintro e w' ⟨rfl, ⟨na, rfl⟩⟩))
    go_ret
    exact ⟨rfl, below_drewN (Below.refl _ _) _⟩
  · go_enter Try.func8, Try.ntmps8
    go_wp2_with (first | (go_at_call 14; refine (bits_any _ _).mono ?_; rintro e w' ⟨rfl, rfl⟩) | (go_at_call 19; refine (mid_any _ _ H.out H'.out _).mono ?_; rintro e w' ⟨rfl, rfl⟩) | (go_at_call 33; refine (rmid_any _ _ H.out H'.out _).mono ?_; rintro e w' ⟨rfl, rfl⟩) | (go_at_call 34; refine (gap_any _ _ H.out H'.out _).mono ?_; rintro e w' ⟨rfl, rfl⟩) | (go_at_call 35; refine (rgap_any _ _ H.out H'.out _).mono ?_; rintro e w' ⟨rfl, rfl⟩) | (go_at_call 36; refine (up_any _ H.out _).mono ?_; rintro e w' ⟨rfl, rfl⟩) | (go_at_call 37; refine (rup_any _ H.out _).mono ?_; rintro e w' ⟨rfl, rfl⟩) | (go_at_call 38; refine (down_any _ H.out _).mono ?_; rintro e w' ⟨rfl, rfl⟩) | (go_at_call 39; refine (rdown_any _ H.out _).mono ?_; rintro e w' ⟨rfl, rfl⟩) | (go_at_call 17; refine (is_any _ _ (by first | exact HS1.out | exact HS2.out | exact HM.out | decide) (by first | exact HT1.out | exact HT2.out | exact HM.out | decide) _).mono ?_; rintro e w' ⟨rfl, rfl⟩) | (go_at_call 18; refine (awake_any _).mono ?_; rintro e w' ⟨rfl, ⟨na, rfl⟩⟩))
    go_ret
    exact ⟨rfl, below_drewN (Below.refl _ _) _⟩

theorem ieeeSteps_own : ownKnob Try.prog.godebug = none := by kernel_rfl
theorem ieeeSteps_laidOut : laidOutB Try.prog = true := by kernel_rfl

set_option maxRecDepth 100000 in
theorem ieeeSteps_lifted (os : Os) (started : os.Started) (H : Type) (enc : TypeId × Value → H) :
    ReturnsInHanded {} Try.checked os 8 .any (Rows.ieeeStepsSpec.pre6 enc Try.prog Try.f8 Rows.ieeeStepsRow.domain false) (Rows.ieeeStepsSpec.post enc Try.prog Try.f8 false true false false) := by
  refine returnsInHanded_of_change (C := Try.checked) ieeeSteps_own started (by kernel_rfl) Try.func8
    (ChangeSpec.witness6 (enc := enc) (C := Try.checked) false ⟨#[], #[.float .f64 0, .float .f64 0], []⟩ 8 (by kernel_rfl) (by kernel_rfl) (by kernel_rfl) (by kernel_rfl)) ?_
  intro W base args ds gs before hval0 hW hcnd _
  have hval : ∀ (j : Nat) t v, Try.f8.params[j]? = some t → args[j]? = some v → Value.okWide Try.prog W .any base t v := hval0
  have hW' := hW
  obtain ⟨p, q, hA0, hV, rfl, hfz, hnd⟩ := hW
  have hA : DataW.TrodAll enc Try.prog W 0 (fun _ => true) true Try.f8.params.toList args.toList ds p := hA0
  rw [Try.params8] at hA hval
  obtain ⟨v0, vs0, d0, ds0, p0, q0, hargs, rfl, rfl, h0, r0⟩ := trodAll_cons hA
  obtain ⟨v1, vs1, d1, ds1, p1, q1, rfl, rfl, rfl, h1, r1⟩ := trodAll_cons r0
  obtain ⟨rfl, rfl, rfl⟩ := trodAll_nil r1
  obtain rfl : args = #[v0, v1] := by cases args; simp_all
  obtain ⟨rfl, rfl⟩ := trodVars_none hV
  obtain ⟨a0, rfl, rfl, rfl, w0⟩ := open_float Try.underlying22 (hval 0 22 v0 rfl rfl) h0
  obtain ⟨a1, rfl, rfl, rfl, w1⟩ := open_float Try.underlying22 (hval 1 22 v1 rfl rfl) h1
  clear hA0 hval0
  refine (steps_walk a0 a1 (float_lt w0) (float_lt w1) W).mono fun e W' ⟨he, bel⟩ => ?_
  subst he
  exact ⟨_, rfl, _, _, _, [], _, [], hW', trodAll_mk1 (shut_bool Try.underlying4 _), (trodAll_cons_mk (shut_float Try.underlying22 w0) (trodAll_cons_mk (shut_float Try.underlying22 w1) trodAll_mk0)), rfl, bel.frame _, fun h => by cases h⟩

theorem ieeeSteps_holds : Rows.IeeeStepsSaid :=
  OpenClaim.holds_of_wide 8 Try.f8 rfl rfl rfl rfl rfl rfl rfl ⟨rfl, rfl, rfl, rfl, rfl⟩ rfl rfl rfl rfl rfl (by kernel_rfl) Try.func8 (by kernel_rfl)
    (of_decide_eq_true (by kernel_rfl)) (by unfold Func.isWrapper; first | (rw [if_pos (by decide +kernel)]; kernel_rfl) | (rw [if_neg (by decide +kernel)]; exact ⟨rfl, rfl⟩))
    (fun os started H enc _ => ieeeSteps_lifted os started H enc)
#print axioms ieeeSteps_holds
end Go.Proofs.Ytfmbhfnigneenaa
