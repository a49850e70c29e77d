/- CurveChecks: the law answers true, and its input stays. No condition. -/
import Derived.ProofKit
import Derived.OpenShut
import Derived.Test.YtmdoljecjliehaaGreatCg
import Derived.Test.YtmdoljecjliehaaGreatOpc
namespace Go.Proofs.YtmdoljecjliehaaGreat
open Go.ChangeShapes Go.WideShapes Go.ChangeAt Go.RowKit Go.Proofs.YtmdoljecjliehaaGreatW.PrintWords
set_option linter.unusedVariables false

theorem float_lt {b : Nat} (h : (Lit.float .f64 b).wf = true) : b < 18446744073709551616 := by simpa [Lit.wf] using h
theorem float32_lt {b : Nat} (h : (Lit.float .f32 b).wf = true) : b < 4294967296 := by simpa [Lit.wf] using h
theorem i64_bd {n : Int} (h : (Lit.int .i64 n).wf = true) : -9223372036854775808 ≤ n ∧ n < 9223372036854775808 := by
 simp [Lit.wf, IntKind.min, IntKind.max, IntKind.bits, IntKind.signed] at h; omega
theorem u64_bd {n : Int} (h : (Lit.int .u64 n).wf = true) : 0 ≤ n ∧ n < 18446744073709551616 := by
 simp [Lit.wf, IntKind.min, IntKind.max, IntKind.bits, IntKind.signed] at h; omega
theorem curveChecks_walk (b0 kd0 : Int) (A0 : Option Addr) (c0 : Nat) (ds0 : List Int) (B0 : Option Addr) (q0 : Nat) (fs0 : List Nat) (a1 : Int) (w : World) (hr0 : Kd.C (Kd.int .i64) w A0 ds0.length ds0) (hc0 : ds0.length ≤ c0) (hs0 : Kd.C Kd.flt w B0 fs0.length fs0) (hq0 : fs0.length ≤ q0) (hw0 : ∀ y ∈ fs0, y < 18446744073709551616) (hw1 : -9223372036854775808 ≤ a1 ∧ a1 < 9223372036854775808) :
  Calls Tryz.prog 5 #[.agg #[.int .i64 b0, .int .i64 kd0, .slice A0 ds0.length c0, .slice B0 fs0.length q0], .int .i64 a1] w fun e w' => e = .returned (.bool true) ∧ Below w.heap.size w w' := by
 (obtain ⟨k, hk⟩ := FXc.law b0 kd0 ds0 fs0 a1 hw0);(exact FXc.tenorlaw11_CurveChecks.calls k b0 kd0 A0 c0 ds0 B0 q0 fs0 a1 true w hr0 hc0 hs0 hq0 hk)


theorem curveChecks_own : ownKnob Tryz.prog.godebug = none := by kernel_rfl
theorem curveChecks_laidOut : laidOutB Tryz.prog = true := by kernel_rfl

set_option maxRecDepth 100000 in
theorem curveChecks_lifted (os : Os) (started : os.Started) (H : Type) (enc : TypeId × Value → H) :
  ReturnsInHanded {} Tryz.checked os 5 .any (Rows.curveChecksSpec.pre6 enc Tryz.prog Tryz.f5 Rows.curveChecksRow.domain false) (Rows.curveChecksSpec.post enc Tryz.prog Tryz.f5 false true false false) := by
 refine returnsInHanded_of_change (C := Tryz.checked) curveChecks_own started (by kernel_rfl) Tryz.func5
  (ChangeSpec.witness6 (enc := enc) (C := Tryz.checked) false ⟨#[], #[.agg #[.int .i64 0, .int .i64 0, .slice none 0 0, .slice none 0 0], .int .i64 0], []⟩ 8 (by kernel_rfl) (by kernel_rfl) (by kernel_rfl) (by kernel_rfl)) ?_
 (intro W base args ds gs before hval0 hW hcnd _);(have hval : ∀ (j : Nat) t v, Tryz.f5.params[j]? = some t → args[j]? = some v → Value.okWide Tryz.prog W .any base t v := hval0);(have hW' := hW);(obtain ⟨p, q, hA0, hV, rfl, hfz, hnd⟩ := hW);(have hA : DataW.TrodAll enc Tryz.prog W 0 (fun _ => true) true Tryz.f5.params.toList args.toList ds p := hA0);(rw [Tryz.params5] at hA hval);(obtain ⟨v0, vs0, d0, ds0, p0, q0, hargs, rfl, rfl, h0, r0⟩ := trodAll_cons hA);(obtain ⟨v1, vs1, d1, ds1, p1, q1, rfl, rfl, rfl, h1, r1⟩ := trodAll_cons r0);(obtain ⟨rfl, rfl, rfl⟩ := trodAll_nil r1);(obtain rfl : args = #[v0, v1] := by cases args; simp_all);(obtain ⟨rfl, rfl⟩ := trodVars_none hV);(have k0 := h0);(have lt0 : ∀ x ∈ p0, x.block < W.heap.size := by obtain ⟨m, hm⟩ := k0; exact DataW.trod_lt m _ _ _ hm);(obtain ⟨b0, kd0, A0, cp0, ds0, B0, cq0, fs0, rfl, hC0, hc0, hD0, hd0, hok0, wb0, wk0, wd0⟩ := open_curve Tryz.underlying25 Tryz.underlying3 Tryz.underlying30 Tryz.underlying22 Tryz.underlying23 rfl rfl rfl rfl rfl rfl rfl rfl (by kernel_rfl) (by kernel_rfl) (by kernel_rfl) (by kernel_rfl) (by kernel_rfl) (hval 0 25 v0 rfl rfl) h0);(obtain ⟨a1, rfl, rfl, rfl, w1⟩ := open_int Tryz.underlying3 (hval 1 3 v1 rfl rfl) h1);(clear hA0 hval0);(refine (curveChecks_walk b0 kd0 A0 cp0 ds0 B0 cq0 fs0 a1 W hC0 hc0 hD0 hd0 hok0 (i64_bd w1)).mono fun e W' ⟨he, bel⟩ => ?_);(subst he);(exact ⟨_, rfl, _, _, _, [], _, [], hW', trodAll_mk1 (shut_bool Tryz.underlying4 _), (trodAll_cons_mk (Below.trod curveChecks_laidOut (by kernel_rfl) (of_decide_eq_true (by kernel_rfl)) k0 bel lt0) (trodAll_cons_mk (shut_int Tryz.underlying3 w1) trodAll_mk0)), rfl, bel.frame _, fun h => by cases h⟩)

theorem and_b {a b : Bool} (ha : a = true) (hb : b = true) : (a && b) = true := by rw [ha, hb]; rfl
set_option maxHeartbeats 16000000 in
set_option maxRecDepth 100000 in
theorem curveChecks_holds : Rows.CurveChecksSaid :=
 OpenClaim.holds_of_wide 5 Tryz.f5 rfl rfl rfl rfl rfl rfl rfl ⟨rfl, rfl, rfl, rfl, rfl⟩ rfl rfl rfl rfl rfl (by kernel_rfl) Tryz.func5 (by unfold joinedFacts; (repeat' with_reducible refine and_b ?_ ?_) <;> as_aux_lemma => kernel_rfl)
  (of_decide_eq_true (by kernel_rfl)) (by unfold Func.isWrapper; first | (rw [if_pos (by decide +kernel)]; kernel_rfl) | (rw [if_neg (by decide +kernel)]; exact ⟨rfl, rfl⟩))
  (fun os started H enc _ => curveChecks_lifted os started H enc)
#print axioms curveChecks_holds
end Go.Proofs.YtmdoljecjliehaaGreat
