/- RiskNone: the law answers true, and its input stays. No condition. -/
import Derived.ProofKit
import Derived.OpenShut
import Derived.Test.YthkcphdhmkcdkaaRx
import Derived.Test.YthkcphdhmkcdkaaOpc
namespace Go.Proofs.Ythkcphdhmkcdkaa
open Go.ChangeShapes Go.WideShapes Go.ChangeAt Go.RowKit Go.Proofs.YthkcphdhmkcdkaaW.PrintWords
set_option linter.unusedVariables false

theorem float_lt {b : Nat} (h : (Lit.float .f64 b).wf = true) : b < 18446744073709551616 := by simpa [Lit.wf] using h
theorem float32_lt {b : Nat} (h : (Lit.float .f32 b).wf = true) : b < 4294967296 := by simpa [Lit.wf] using h
theorem i64_bd {n : Int} (h : (Lit.int .i64 n).wf = true) : -9223372036854775808 ≤ n ∧ n < 9223372036854775808 := by
 simp [Lit.wf, IntKind.min, IntKind.max, IntKind.bits, IntKind.signed] at h; omega
theorem u64_bd {n : Int} (h : (Lit.int .u64 n).wf = true) : 0 ≤ n ∧ n < 18446744073709551616 := by
 simp [Lit.wf, IntKind.min, IntKind.max, IntKind.bits, IntKind.signed] at h; omega
theorem riskNone_walk (A0 : Option Addr) (c0 : Nat) (l0 : List FB.S51) (a1 : Int) (b2 kd2 : Int) (A2 : Option Addr) (c2 : Nat) (ds2 : List Int) (B2 : Option Addr) (q2 : Nat) (fs2 : List Nat) (a3 : Int) (w : World) (hr0 : Kd.C FB.k51 w A0 l0.length l0) (hc0 : l0.length ≤ c0) (hw0 : ∀ f ∈ l0, f.f1 < 18446744073709551616) (hw1 : -9223372036854775808 ≤ a1 ∧ a1 < 9223372036854775808) (hr2 : Kd.C (Kd.int .i64) w A2 ds2.length ds2) (hc2 : ds2.length ≤ c2) (hs2 : Kd.C Kd.flt w B2 fs2.length fs2) (hq2 : fs2.length ≤ q2) (hw2 : ∀ y ∈ fs2, y < 18446744073709551616) (hw3 : -9223372036854775808 ≤ a3 ∧ a3 < 9223372036854775808) :
  Calls Try.prog 9 #[.slice A0 l0.length c0, .int .i64 a1, .agg #[.int .i64 b2, .int .i64 kd2, .slice A2 ds2.length c2, .slice B2 fs2.length q2], .int .i64 a3] w fun e w' => e = .returned (.bool true) ∧ Below w.heap.size w w' := by
 (obtain ⟨k, hk⟩ := FJn.law l0 a1 b2 kd2 ds2 fs2 a3 hw0 hw2);(exact FJn.tenorlaw16_RiskNone.calls k A0 c0 l0 a1 b2 kd2 A2 c2 ds2 B2 q2 fs2 a3 true w hr0 hc0 hr2 hc2 hs2 hq2 hk)


theorem riskNone_own : ownKnob Try.prog.godebug = none := by kernel_rfl
theorem riskNone_laidOut : laidOutB Try.prog = true := by kernel_rfl

set_option maxRecDepth 100000 in
theorem riskNone_lifted (os : Os) (started : os.Started) (H : Type) (enc : TypeId × Value → H) :
  ReturnsInHanded {} Try.checked os 9 .any (Rows.riskNoneSpec.pre6 enc Try.prog Try.f9 Rows.riskNoneRow.domain false) (Rows.riskNoneSpec.post enc Try.prog Try.f9 false true false false) := by
 refine returnsInHanded_of_change (C := Try.checked) riskNone_own started (by kernel_rfl) Try.func9
  (ChangeSpec.witness6 (enc := enc) (C := Try.checked) false ⟨#[], #[.slice none 0 0, .int .i64 0, .agg #[.int .i64 0, .int .i64 0, .slice none 0 0, .slice none 0 0], .int .i64 0], []⟩ 8 (by kernel_rfl) (by kernel_rfl) (by kernel_rfl) (by kernel_rfl)) ?_
 (intro W base args ds gs before hval0 hW hcnd _);(have hval : ∀ (j : Nat) t v, Try.f9.params[j]? = some t → args[j]? = some v → Value.okWide Try.prog W .any base t v := hval0);(have hW' := hW);(obtain ⟨p, q, hA0, hV, rfl, hfz, hnd⟩ := hW);(have hA : DataW.TrodAll enc Try.prog W 0 (fun _ => true) true Try.f9.params.toList args.toList ds p := hA0);(rw [Try.params9] at hA hval);(obtain ⟨v0, vs0, d0, ds0, p0, q0, hargs, rfl, rfl, h0, r0⟩ := trodAll_cons hA);(obtain ⟨v1, vs1, d1, ds1, p1, q1, rfl, rfl, rfl, h1, r1⟩ := trodAll_cons r0);(obtain ⟨v2, vs2, d2, ds2, p2, q2, rfl, rfl, rfl, h2, r2⟩ := trodAll_cons r1);(obtain ⟨v3, vs3, d3, ds3, p3, q3, rfl, rfl, rfl, h3, r3⟩ := trodAll_cons r2);(obtain ⟨rfl, rfl, rfl⟩ := trodAll_nil r3);(obtain rfl : args = #[v0, v1, v2, v3] := by cases args; simp_all);(obtain ⟨rfl, rfl⟩ := trodVars_none hV);(have k0 := h0);(have lt0 : ∀ x ∈ p0, x.block < W.heap.size := by obtain ⟨m, hm⟩ := k0; exact DataW.trod_lt m _ _ _ hm);(obtain ⟨A0, len0, cap0, rfl⟩ := Go.WideShapes.okWide_slice Try.underlying22 (hval 0 22 v0 rfl rfl))
 obtain ⟨xs0, hl0, hC0, hc0, hok0⟩ := open_C FB.k51 (fun x => x.f1 < 18446744073709551616) Try.underlying22 (by kernel_rfl) (fun n cs y hy => by
  obtain ⟨a, b, c, rfl, hb, _, _⟩ := trod_ifi Try.underlying51 Try.underlying3 Try.underlying35 rfl rfl rfl rfl rfl rfl (by kernel_rfl) (by kernel_rfl) (by kernel_rfl) hy
  exact ⟨⟨a, b, c⟩, FB.k51_mk W ⟨a, b, c⟩, hb⟩) h0
 (subst hl0);(obtain ⟨a1, rfl, rfl, rfl, w1⟩ := open_int Try.underlying3 (hval 1 3 v1 rfl rfl) h1);(have k2 := h2);(have lt2 : ∀ x ∈ p2, x.block < W.heap.size := by obtain ⟨m, hm⟩ := k2; exact DataW.trod_lt m _ _ _ hm);(obtain ⟨b2, kd2, A2, cp2, ds2, B2, cq2, fs2, rfl, hC2, hc2, hD2, hd2, hok2, wb2, wk2, wd2⟩ := open_curve Try.underlying26 Try.underlying3 Try.underlying35 Try.underlying23 Try.underlying24 rfl rfl rfl rfl rfl rfl rfl rfl (by kernel_rfl) (by kernel_rfl) (by kernel_rfl) (by kernel_rfl) (by kernel_rfl) (hval 2 26 v2 rfl rfl) h2);(obtain ⟨a3, rfl, rfl, rfl, w3⟩ := open_int Try.underlying3 (hval 3 3 v3 rfl rfl) h3);(clear hA0 hval0);(refine (riskNone_walk A0 cap0 xs0 a1 b2 kd2 A2 cp2 ds2 B2 cq2 fs2 a3 W hC0 hc0 hok0 (i64_bd w1) hC2 hc2 hD2 hd2 hok2 (i64_bd w3)).mono fun e W' ⟨he, bel⟩ => ?_);(subst he);(exact ⟨_, rfl, _, _, _, [], _, [], hW', trodAll_mk1 (shut_bool Try.underlying4 _), (trodAll_cons_mk (Below.trod riskNone_laidOut (by kernel_rfl) (of_decide_eq_true (by kernel_rfl)) k0 bel lt0) (trodAll_cons_mk (shut_int Try.underlying3 w1) (trodAll_cons_mk (Below.trod riskNone_laidOut (by kernel_rfl) (of_decide_eq_true (by kernel_rfl)) k2 bel lt2) (trodAll_cons_mk (shut_int Try.underlying3 w3) trodAll_mk0)))), rfl, bel.frame _, fun h => by cases h⟩)

theorem riskNone_holds : Rows.RiskNoneSaid :=
 OpenClaim.holds_of_wide 9 Try.f9 rfl rfl rfl rfl rfl rfl rfl ⟨rfl, rfl, rfl, rfl, rfl⟩ rfl rfl rfl rfl rfl (by kernel_rfl) Try.func9 (by kernel_rfl)
  (of_decide_eq_true (by kernel_rfl)) (by unfold Func.isWrapper; first | (rw [if_pos (by decide +kernel)]; kernel_rfl) | (rw [if_neg (by decide +kernel)]; exact ⟨rfl, rfl⟩))
  (fun os started H enc _ => riskNone_lifted os started H enc)
#print axioms riskNone_holds
end Go.Proofs.Ythkcphdhmkcdkaa
