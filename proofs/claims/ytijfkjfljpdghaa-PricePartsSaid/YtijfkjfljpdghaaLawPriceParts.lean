/- PriceParts: the law answers true, and its input stays. No condition. -/
import Derived.ProofKit
import Derived.OpenShut
import Derived.Test.YtijfkjfljpdghaaRp
import Derived.Test.YtijfkjfljpdghaaOpc
namespace Go.Proofs.Ytijfkjfljpdghaa
open Go.ChangeShapes Go.WideShapes Go.ChangeAt Go.RowKit Go.Proofs.YtijfkjfljpdghaaW.PrintWords
set_option linter.unusedVariables false

theorem float_lt {b : Nat} (h : (Lit.float .f64 b).wf = true) : b < 18446744073709551616 := by simpa [Lit.wf] using h
theorem float32_lt {b : Nat} (h : (Lit.float .f32 b).wf = true) : b < 4294967296 := by simpa [Lit.wf] using h
theorem i64_bd {n : Int} (h : (Lit.int .i64 n).wf = true) : -9223372036854775808 ≤ n ∧ n < 9223372036854775808 := by
 simp [Lit.wf, IntKind.min, IntKind.max, IntKind.bits, IntKind.signed] at h; omega
theorem u64_bd {n : Int} (h : (Lit.int .u64 n).wf = true) : 0 ≤ n ∧ n < 18446744073709551616 := by
 simp [Lit.wf, IntKind.min, IntKind.max, IntKind.bits, IntKind.signed] at h; omega
theorem priceParts_walk (A0 : Option Addr) (c0 : Nat) (l0 : List FB.S50) (A1 : Option Addr) (c1 : Nat) (l1 : List FB.S50) (A2 : Option Addr) (c2 : Nat) (l2 : List Int) (a3 : Int) (b4 kd4 : Int) (A4 : Option Addr) (c4 : Nat) (ds4 : List Int) (B4 : Option Addr) (q4 : Nat) (fs4 : List Nat) (w : World) (hr0 : Kd.C FB.k50 w A0 l0.length l0) (hc0 : l0.length ≤ c0) (hw0 : ∀ f ∈ l0, f.f1 < 18446744073709551616) (hr1 : Kd.C FB.k50 w A1 l1.length l1) (hc1 : l1.length ≤ c1) (hw1 : ∀ f ∈ l1, f.f1 < 18446744073709551616) (hr2 : Kd.C (Kd.int .i64) w A2 l2.length l2) (hc2 : l2.length ≤ c2) (hw2 : ∀ x ∈ l2, (Lit.int .i64 x).wf = true) (hw3 : -9223372036854775808 ≤ a3 ∧ a3 < 9223372036854775808) (hr4 : Kd.C (Kd.int .i64) w A4 ds4.length ds4) (hc4 : ds4.length ≤ c4) (hs4 : Kd.C Kd.flt w B4 fs4.length fs4) (hq4 : fs4.length ≤ q4) (hw4 : ∀ y ∈ fs4, y < 18446744073709551616) :
  Calls Try.prog 3 #[.slice A0 l0.length c0, .slice A1 l1.length c1, .slice A2 l2.length c2, .int .i64 a3, .agg #[.int .i64 b4, .int .i64 kd4, .slice A4 ds4.length c4, .slice B4 fs4.length q4]] w fun e w' => e = .returned (.bool true) ∧ Below w.heap.size w w' := by
 exact FB.priceParts_any A0 c0 l0 A1 c1 l1 A2 c2 l2 a3 b4 kd4 A4 c4 ds4 B4 q4 fs4 w hr0 hc0 hr1 hc1 hr2 hc2 hr4 hc4 hs4 hq4 hw0 hw1 hw4


theorem priceParts_own : ownKnob Try.prog.godebug = none := by kernel_rfl
theorem priceParts_laidOut : laidOutB Try.prog = true := by kernel_rfl

set_option maxRecDepth 100000 in
theorem priceParts_lifted (os : Os) (started : os.Started) (H : Type) (enc : TypeId × Value → H) :
  ReturnsInHanded {} Try.checked os 3 .any (Rows.pricePartsSpec.pre6 enc Try.prog Try.f3 Rows.pricePartsRow.domain false) (Rows.pricePartsSpec.post enc Try.prog Try.f3 false true false false) := by
 refine returnsInHanded_of_change (C := Try.checked) priceParts_own started (by kernel_rfl) Try.func3
  (ChangeSpec.witness6 (enc := enc) (C := Try.checked) false ⟨#[], #[.slice none 0 0, .slice none 0 0, .slice none 0 0, .int .i64 0, .agg #[.int .i64 0, .int .i64 0, .slice none 0 0, .slice none 0 0]], []⟩ 8 (by kernel_rfl) (by kernel_rfl) (by kernel_rfl) (by kernel_rfl)) ?_
 (intro W base args ds gs before hval0 hW hcnd _);(have hval : ∀ (j : Nat) t v, Try.f3.params[j]? = some t → args[j]? = some v → Value.okWide Try.prog W .any base t v := hval0);(have hW' := hW);(obtain ⟨p, q, hA0, hV, rfl, hfz, hnd⟩ := hW);(have hA : DataW.TrodAll enc Try.prog W 0 (fun _ => true) true Try.f3.params.toList args.toList ds p := hA0);(rw [Try.params3] at hA hval);(obtain ⟨v0, vs0, d0, ds0, p0, q0, hargs, rfl, rfl, h0, r0⟩ := trodAll_cons hA);(obtain ⟨v1, vs1, d1, ds1, p1, q1, rfl, rfl, rfl, h1, r1⟩ := trodAll_cons r0);(obtain ⟨v2, vs2, d2, ds2, p2, q2, rfl, rfl, rfl, h2, r2⟩ := trodAll_cons r1);(obtain ⟨v3, vs3, d3, ds3, p3, q3, rfl, rfl, rfl, h3, r3⟩ := trodAll_cons r2);(obtain ⟨v4, vs4, d4, ds4, p4, q4, rfl, rfl, rfl, h4, r4⟩ := trodAll_cons r3);(obtain ⟨rfl, rfl, rfl⟩ := trodAll_nil r4);(obtain rfl : args = #[v0, v1, v2, v3, v4] := by cases args; simp_all);(obtain ⟨rfl, rfl⟩ := trodVars_none hV);(have k0 := h0);(have lt0 : ∀ x ∈ p0, x.block < W.heap.size := by obtain ⟨m, hm⟩ := k0; exact DataW.trod_lt m _ _ _ hm);(obtain ⟨A0, len0, cap0, rfl⟩ := Go.WideShapes.okWide_slice Try.underlying22 (hval 0 22 v0 rfl rfl))
 obtain ⟨xs0, hl0, hC0, hc0, hok0⟩ := open_C FB.k50 (fun x => x.f1 < 18446744073709551616) Try.underlying22 (by kernel_rfl) (fun n cs y hy => by
  obtain ⟨a, b, c, rfl, hb, _, _⟩ := trod_ifi Try.underlying50 Try.underlying3 Try.underlying34 rfl rfl rfl rfl rfl rfl (by kernel_rfl) (by kernel_rfl) (by kernel_rfl) hy
  exact ⟨⟨a, b, c⟩, FB.k50_mk W ⟨a, b, c⟩, hb⟩) h0
 (subst hl0);(have k1 := h1);(have lt1 : ∀ x ∈ p1, x.block < W.heap.size := by obtain ⟨m, hm⟩ := k1; exact DataW.trod_lt m _ _ _ hm);(obtain ⟨A1, len1, cap1, rfl⟩ := Go.WideShapes.okWide_slice Try.underlying22 (hval 1 22 v1 rfl rfl))
 obtain ⟨xs1, hl1, hC1, hc1, hok1⟩ := open_C FB.k50 (fun x => x.f1 < 18446744073709551616) Try.underlying22 (by kernel_rfl) (fun n cs y hy => by
  obtain ⟨a, b, c, rfl, hb, _, _⟩ := trod_ifi Try.underlying50 Try.underlying3 Try.underlying34 rfl rfl rfl rfl rfl rfl (by kernel_rfl) (by kernel_rfl) (by kernel_rfl) hy
  exact ⟨⟨a, b, c⟩, FB.k50_mk W ⟨a, b, c⟩, hb⟩) h1
 (subst hl1);(have k2 := h2);(have lt2 : ∀ x ∈ p2, x.block < W.heap.size := by obtain ⟨m, hm⟩ := k2; exact DataW.trod_lt m _ _ _ hm);(obtain ⟨A2, len2, cap2, rfl⟩ := Go.WideShapes.okWide_slice Try.underlying23 (hval 2 23 v2 rfl rfl))
 obtain ⟨xs2, hl2, hC2, hc2, hok2⟩ := open_C (Kd.int .i64) (fun x => (Lit.int .i64 x).wf = true) Try.underlying23 (by kernel_rfl) (fun n cs y hy => by
  obtain ⟨a, rfl, _, wa⟩ := DataW.trod_int Try.underlying3 hy
  exact ⟨a, rfl, wa⟩) h2
 (subst hl2);(obtain ⟨a3, rfl, rfl, rfl, w3⟩ := open_int Try.underlying3 (hval 3 3 v3 rfl rfl) h3);(have k4 := h4);(have lt4 : ∀ x ∈ p4, x.block < W.heap.size := by obtain ⟨m, hm⟩ := k4; exact DataW.trod_lt m _ _ _ hm);(obtain ⟨b4, kd4, A4, cp4, ds4, B4, cq4, fs4, rfl, hC4, hc4, hD4, hd4, hok4, wb4, wk4, wd4⟩ := open_curve Try.underlying26 Try.underlying3 Try.underlying34 Try.underlying23 Try.underlying24 rfl rfl rfl rfl rfl rfl rfl rfl (by kernel_rfl) (by kernel_rfl) (by kernel_rfl) (by kernel_rfl) (by kernel_rfl) (hval 4 26 v4 rfl rfl) h4);(clear hA0 hval0);(refine (priceParts_walk A0 cap0 xs0 A1 cap1 xs1 A2 cap2 xs2 a3 b4 kd4 A4 cp4 ds4 B4 cq4 fs4 W hC0 hc0 hok0 hC1 hc1 hok1 hC2 hc2 hok2 (i64_bd w3) hC4 hc4 hD4 hd4 hok4).mono fun e W' ⟨he, bel⟩ => ?_);(subst he);(exact ⟨_, rfl, _, _, _, [], _, [], hW', trodAll_mk1 (shut_bool Try.underlying4 _), (trodAll_cons_mk (Below.trod priceParts_laidOut (by kernel_rfl) (of_decide_eq_true (by kernel_rfl)) k0 bel lt0) (trodAll_cons_mk (Below.trod priceParts_laidOut (by kernel_rfl) (of_decide_eq_true (by kernel_rfl)) k1 bel lt1) (trodAll_cons_mk (Below.trod priceParts_laidOut (by kernel_rfl) (of_decide_eq_true (by kernel_rfl)) k2 bel lt2) (trodAll_cons_mk (shut_int Try.underlying3 w3) (trodAll_cons_mk (Below.trod priceParts_laidOut (by kernel_rfl) (of_decide_eq_true (by kernel_rfl)) k4 bel lt4) trodAll_mk0))))), rfl, bel.frame _, fun h => by cases h⟩)

theorem and_b {a b : Bool} (ha : a = true) (hb : b = true) : (a && b) = true := by rw [ha, hb]; rfl
set_option maxHeartbeats 16000000 in
set_option maxRecDepth 100000 in
theorem priceParts_holds : Rows.PricePartsSaid :=
 OpenClaim.holds_of_wide 3 Try.f3 rfl rfl rfl rfl rfl rfl rfl ⟨rfl, rfl, rfl, rfl, rfl⟩ rfl rfl rfl rfl rfl (by kernel_rfl) Try.func3 (by unfold joinedFacts; (repeat' with_reducible refine and_b ?_ ?_) <;> as_aux_lemma => kernel_rfl)
  (of_decide_eq_true (by kernel_rfl)) (by unfold Func.isWrapper; first | (rw [if_pos (by decide +kernel)]; kernel_rfl) | (rw [if_neg (by decide +kernel)]; exact ⟨rfl, rfl⟩))
  (fun os started H enc _ => priceParts_lifted os started H enc)
#print axioms priceParts_holds
end Go.Proofs.Ytijfkjfljpdghaa
