/- RiskOne: the law answers true, and its input stays. No condition. -/
import Derived.ProofKit
import Derived.OpenShut
import Derived.Test.YthkcphdhmkcdkaaRt
import Derived.Test.YthkcphdhmkcdkaaOpc
namespace Go.Proofs.Ythkcphdhmkcdkaa
open Go.ChangeShapes Go.WideShapes Go.ChangeAt Go.RowKit Go.Proofs.YthkcphdhmkcdkaaW.PrintWords

theorem float_lt {b : Nat} (h : (Lit.float .f64 b).wf = true) : b < 18446744073709551616 := by simpa [Lit.wf] using h
theorem float32_lt {b : Nat} (h : (Lit.float .f32 b).wf = true) : b < 4294967296 := by simpa [Lit.wf] using h
theorem i64_bd {n : Int} (h : (Lit.int .i64 n).wf = true) : -9223372036854775808 ≤ n ∧ n < 9223372036854775808 := by
 simp [Lit.wf, IntKind.min, IntKind.max, IntKind.bits, IntKind.signed] at h; omega
theorem u64_bd {n : Int} (h : (Lit.int .u64 n).wf = true) : 0 ≤ n ∧ n < 18446744073709551616 := by
 simp [Lit.wf, IntKind.min, IntKind.max, IntKind.bits, IntKind.signed] at h; omega
theorem riskOne_walk (A0 : Option Addr) (c0 : Nat) (l0 : List FB.S51) (a1 : Int) (a2 : Int) (a3 : Int) (a4 : Int) (a5 : Nat) (a6 : Nat) (w : World) (hr0 : Kd.C FB.k51 w A0 l0.length l0) (hc0 : l0.length ≤ c0) (hw0 : ∀ f ∈ l0, f.f1 < 18446744073709551616) (hw1 : -9223372036854775808 ≤ a1 ∧ a1 < 9223372036854775808) (hw2 : -9223372036854775808 ≤ a2 ∧ a2 < 9223372036854775808) (hw3 : -9223372036854775808 ≤ a3 ∧ a3 < 9223372036854775808) (hw4 : -9223372036854775808 ≤ a4 ∧ a4 < 9223372036854775808) (hw5 : a5 < 18446744073709551616) (hw6 : a6 < 18446744073709551616) :
  Calls Try.prog 7 #[.slice A0 l0.length c0, .int .i64 a1, .int .i64 a2, .int .i64 a3, .int .i64 a4, .float .f64 a5, .float .f64 a6] w fun e w' => e = .returned (.bool true) ∧ Below w.heap.size w w' := by
 exact FJb.tenorlaw16_RiskOne.calls A0 c0 l0 a1 a2 a3 a4 a5 a6 true w hr0 hc0 (FJb.law l0 a1 a2 a3 a4 a5 a6 hw0 hw5 hw6)


theorem riskOne_own : ownKnob Try.prog.godebug = none := by kernel_rfl
theorem riskOne_laidOut : laidOutB Try.prog = true := by kernel_rfl

set_option maxRecDepth 100000 in
theorem riskOne_lifted (os : Os) (started : os.Started) (H : Type) (enc : TypeId × Value → H) :
  ReturnsInHanded {} Try.checked os 7 .any (Rows.riskOneSpec.pre6 enc Try.prog Try.f7 Rows.riskOneRow.domain false) (Rows.riskOneSpec.post enc Try.prog Try.f7 false true false false) := by
 refine returnsInHanded_of_change (C := Try.checked) riskOne_own started (by kernel_rfl) Try.func7
  (ChangeSpec.witness6 (enc := enc) (C := Try.checked) false ⟨#[], #[.slice none 0 0, .int .i64 0, .int .i64 0, .int .i64 0, .int .i64 0, .float .f64 0, .float .f64 0], []⟩ 8 (by kernel_rfl) (by kernel_rfl) (by kernel_rfl) (by kernel_rfl)) ?_
 (intro W base args ds gs before hval0 hW hcnd _);(have hval : ∀ (j : Nat) t v, Try.f7.params[j]? = some t → args[j]? = some v → Value.okWide Try.prog W .any base t v := hval0);(have hW' := hW);(obtain ⟨p, q, hA0, hV, rfl, hfz, hnd⟩ := hW);(have hA : DataW.TrodAll enc Try.prog W 0 (fun _ => true) true Try.f7.params.toList args.toList ds p := hA0);(rw [Try.params7] at hA hval);(obtain ⟨v0, vs0, d0, ds0, p0, q0, hargs, rfl, rfl, h0, r0⟩ := trodAll_cons hA);(obtain ⟨v1, vs1, d1, ds1, p1, q1, rfl, rfl, rfl, h1, r1⟩ := trodAll_cons r0);(obtain ⟨v2, vs2, d2, ds2, p2, q2, rfl, rfl, rfl, h2, r2⟩ := trodAll_cons r1);(obtain ⟨v3, vs3, d3, ds3, p3, q3, rfl, rfl, rfl, h3, r3⟩ := trodAll_cons r2);(obtain ⟨v4, vs4, d4, ds4, p4, q4, rfl, rfl, rfl, h4, r4⟩ := trodAll_cons r3);(obtain ⟨v5, vs5, d5, ds5, p5, q5, rfl, rfl, rfl, h5, r5⟩ := trodAll_cons r4);(obtain ⟨v6, vs6, d6, ds6, p6, q6, rfl, rfl, rfl, h6, r6⟩ := trodAll_cons r5);(obtain ⟨rfl, rfl, rfl⟩ := trodAll_nil r6);(obtain rfl : args = #[v0, v1, v2, v3, v4, v5, v6] := by cases args; simp_all);(obtain ⟨rfl, rfl⟩ := trodVars_none hV);(have k0 := h0);(have lt0 : ∀ x ∈ p0, x.block < W.heap.size := by obtain ⟨m, hm⟩ := k0; exact DataW.trod_lt m _ _ _ hm);(obtain ⟨A0, len0, cap0, rfl⟩ := Go.WideShapes.okWide_slice Try.underlying22 (hval 0 22 v0 rfl rfl))
 obtain ⟨xs0, hl0, hC0, hc0, hok0⟩ := open_C FB.k51 (fun x => x.f1 < 18446744073709551616) Try.underlying22 (by kernel_rfl) (fun n cs y hy => by
  obtain ⟨a, b, c, rfl, hb, _, _⟩ := trod_ifi Try.underlying51 Try.underlying3 Try.underlying35 rfl rfl rfl rfl rfl rfl (by kernel_rfl) (by kernel_rfl) (by kernel_rfl) hy
  exact ⟨⟨a, b, c⟩, FB.k51_mk W ⟨a, b, c⟩, hb⟩) h0
 (subst hl0);(obtain ⟨a1, rfl, rfl, rfl, w1⟩ := open_int Try.underlying3 (hval 1 3 v1 rfl rfl) h1);(obtain ⟨a2, rfl, rfl, rfl, w2⟩ := open_int Try.underlying3 (hval 2 3 v2 rfl rfl) h2);(obtain ⟨a3, rfl, rfl, rfl, w3⟩ := open_int Try.underlying3 (hval 3 3 v3 rfl rfl) h3);(obtain ⟨a4, rfl, rfl, rfl, w4⟩ := open_int Try.underlying3 (hval 4 3 v4 rfl rfl) h4);(obtain ⟨a5, rfl, rfl, rfl, w5⟩ := open_float Try.underlying35 (hval 5 35 v5 rfl rfl) h5);(obtain ⟨a6, rfl, rfl, rfl, w6⟩ := open_float Try.underlying35 (hval 6 35 v6 rfl rfl) h6);(clear hA0 hval0);(refine (riskOne_walk A0 cap0 xs0 a1 a2 a3 a4 a5 a6 W hC0 hc0 hok0 (i64_bd w1) (i64_bd w2) (i64_bd w3) (i64_bd w4) (float_lt w5) (float_lt w6)).mono fun e W' ⟨he, bel⟩ => ?_);(subst he);(exact ⟨_, rfl, _, _, _, [], _, [], hW', trodAll_mk1 (shut_bool Try.underlying4 _), (trodAll_cons_mk (Below.trod riskOne_laidOut (by kernel_rfl) (of_decide_eq_true (by kernel_rfl)) k0 bel lt0) (trodAll_cons_mk (shut_int Try.underlying3 w1) (trodAll_cons_mk (shut_int Try.underlying3 w2) (trodAll_cons_mk (shut_int Try.underlying3 w3) (trodAll_cons_mk (shut_int Try.underlying3 w4) (trodAll_cons_mk (shut_float Try.underlying35 w5) (trodAll_cons_mk (shut_float Try.underlying35 w6) trodAll_mk0))))))), rfl, bel.frame _, fun h => by cases h⟩)

theorem riskOne_holds : Rows.RiskOneSaid :=
 OpenClaim.holds_of_wide 7 Try.f7 rfl rfl rfl rfl rfl rfl rfl ⟨rfl, rfl, rfl, rfl, rfl⟩ rfl rfl rfl rfl rfl (by kernel_rfl) Try.func7 (by kernel_rfl)
  (of_decide_eq_true (by kernel_rfl)) (by unfold Func.isWrapper; first | (rw [if_pos (by decide +kernel)]; kernel_rfl) | (rw [if_neg (by decide +kernel)]; exact ⟨rfl, rfl⟩))
  (fun os started H enc _ => riskOne_lifted os started H enc)
#print axioms riskOne_holds
end Go.Proofs.Ythkcphdhmkcdkaa
