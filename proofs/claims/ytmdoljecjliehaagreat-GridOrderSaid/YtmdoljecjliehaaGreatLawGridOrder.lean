/- GridOrder: the law answers true, and its input stays. No condition. -/
import Derived.ProofKit
import Derived.OpenShut
import Derived.Test.YtmdoljecjliehaaGreatGl
import Derived.Test.YtmdoljecjliehaaGreatOpc
namespace Go.Proofs.YtmdoljecjliehaaGreat
open Go.ChangeShapes Go.WideShapes Go.ChangeAt Go.RowKit Go.Proofs.YtmdoljecjliehaaGreatW.PrintWords
set_option linter.unusedVariables false

theorem trod_iif {H : Type} {enc : TypeId × Value → H} {P : Program} {w : World} {base : Nat} {spare : Nat → Bool} {held : Bool} {t ti tf : TypeId} {fuel : Nat} {cs : List Value} {x : DataW H × List MemPlace} {f0 f1 f2 : Field}
  (ht : P.underlying t = some (.struct #[f0, f1, f2])) (hi : P.underlying ti = some (.int .i64)) (hf : P.underlying tf = some (.float .f64)) (e0 : f0.type = ti) (e1 : f1.type = ti) (e2 : f2.type = tf) (o0 : f0.offset = 0) (o1 : f1.offset = 1) (o2 : f2.offset = 2) (ci : P.cellsOf ti = 1) (cf : P.cellsOf tf = 1) (ct : P.cellsOf t = 3)
  (h : DataW.trod enc P w base spare held fuel t cs = some x) : ∃ (a c : Int) (b : Nat), cs = [.int .i64 a, .int .i64 c, .float .f64 b] ∧ b < 18446744073709551616 ∧ (Lit.int .i64 a).wf = true ∧ (Lit.int .i64 c).wf = true := by
 (obtain ⟨y0, y1, y2, n, _, hl, h0, h1, h2⟩ := Go.Deep.trod_struct3 ht h);(rw [ct] at hl)
 match cs, hl with
 | [u, v, z], _ =>
  (rw [e0, o0, ci] at h0);(rw [e1, o1, ci] at h1);(rw [e2, o2, cf] at h2)
  simp at h0 h1 h2
  (obtain ⟨a, ha, _, wa⟩ := DataW.trod_int hi h0);(obtain ⟨c, hc, _, wc⟩ := DataW.trod_int hi h1);(obtain ⟨b, hb, _, wb⟩ := trod_float hf h2)
  simp at ha hb hc
  (subst ha hb hc);(exact ⟨a, c, b, rfl, by simpa [Lit.wf] using wb, wa, wc⟩)
theorem float_lt {b : Nat} (h : (Lit.float .f64 b).wf = true) : b < 18446744073709551616 := by simpa [Lit.wf] using h
theorem float32_lt {b : Nat} (h : (Lit.float .f32 b).wf = true) : b < 4294967296 := by simpa [Lit.wf] using h
theorem i64_bd {n : Int} (h : (Lit.int .i64 n).wf = true) : -9223372036854775808 ≤ n ∧ n < 9223372036854775808 := by
 simp [Lit.wf, IntKind.min, IntKind.max, IntKind.bits, IntKind.signed] at h; omega
theorem u64_bd {n : Int} (h : (Lit.int .u64 n).wf = true) : 0 ≤ n ∧ n < 18446744073709551616 := by
 simp [Lit.wf, IntKind.min, IntKind.max, IntKind.bits, IntKind.signed] at h; omega
theorem gridOrder_walk (A0 : Option Addr) (c0 : Nat) (l0 : List FB.S104) (a1 : Int) (b2 kd2 : Int) (A2 : Option Addr) (c2 : Nat) (ds2 : List Int) (B2 : Option Addr) (q2 : Nat) (fs2 : List Nat) (A3 : Option Addr) (c3 : Nat) (l3 : List FGc.S42) (w : World) (hr0 : Kd.C FB.k104 w A0 l0.length l0) (hc0 : l0.length ≤ c0) (hw0 : ∀ f ∈ l0, f.f1 < 18446744073709551616) (hw1 : -9223372036854775808 ≤ a1 ∧ a1 < 9223372036854775808) (hr2 : Kd.C (Kd.int .i64) w A2 ds2.length ds2) (hc2 : ds2.length ≤ c2) (hs2 : Kd.C Kd.flt w B2 fs2.length fs2) (hq2 : fs2.length ≤ q2) (hw2 : ∀ y ∈ fs2, y < 18446744073709551616) (hr3 : Kd.C FGc.k42 w A3 l3.length l3) (hc3 : l3.length ≤ c3) (hw3 : ∀ f ∈ l3, f.f2 < 18446744073709551616) :
  Calls Tryz.prog 4 #[.slice A0 l0.length c0, .int .i64 a1, .agg #[.int .i64 b2, .int .i64 kd2, .slice A2 ds2.length c2, .slice B2 fs2.length q2], .slice A3 l3.length c3] w fun e w' => e = .returned (.bool true) ∧ Below w.heap.size w w' := by
 (obtain ⟨k, hk⟩ := FGc.law l0 a1 b2 kd2 ds2 fs2 l3 hw0 hw2 hw3);(exact FGc.tenorlaw25_GridOrder.calls k A0 c0 l0 a1 b2 kd2 A2 c2 ds2 B2 q2 fs2 A3 c3 l3 true w hr0 hc0 hr2 hc2 hs2 hq2 hr3 hc3 hk)


theorem gridOrder_own : ownKnob Tryz.prog.godebug = none := by kernel_rfl
theorem gridOrder_laidOut : laidOutB Tryz.prog = true := by kernel_rfl

set_option maxRecDepth 100000 in
theorem gridOrder_lifted (os : Os) (started : os.Started) (H : Type) (enc : TypeId × Value → H) :
  ReturnsInHanded {} Tryz.checked os 4 .any (Rows.gridOrderSpec.pre6 enc Tryz.prog Tryz.f4 Rows.gridOrderRow.domain false) (Rows.gridOrderSpec.post enc Tryz.prog Tryz.f4 false true false false) := by
 refine returnsInHanded_of_change (C := Tryz.checked) gridOrder_own started (by kernel_rfl) Tryz.func4
  (ChangeSpec.witness6 (enc := enc) (C := Tryz.checked) false ⟨#[], #[.slice none 0 0, .int .i64 0, .agg #[.int .i64 0, .int .i64 0, .slice none 0 0, .slice none 0 0], .slice none 0 0], []⟩ 8 (by kernel_rfl) (by kernel_rfl) (by kernel_rfl) (by kernel_rfl)) ?_
 (intro W base args ds gs before hval0 hW hcnd _);(have hval : ∀ (j : Nat) t v, Tryz.f4.params[j]? = some t → args[j]? = some v → Value.okWide Tryz.prog W .any base t v := hval0);(have hW' := hW);(obtain ⟨p, q, hA0, hV, rfl, hfz, hnd⟩ := hW);(have hA : DataW.TrodAll enc Tryz.prog W 0 (fun _ => true) true Tryz.f4.params.toList args.toList ds p := hA0);(rw [Tryz.params4] at hA hval);(obtain ⟨v0, vs0, d0, ds0, p0, q0, hargs, rfl, rfl, h0, r0⟩ := trodAll_cons hA);(obtain ⟨v1, vs1, d1, ds1, p1, q1, rfl, rfl, rfl, h1, r1⟩ := trodAll_cons r0);(obtain ⟨v2, vs2, d2, ds2, p2, q2, rfl, rfl, rfl, h2, r2⟩ := trodAll_cons r1);(obtain ⟨v3, vs3, d3, ds3, p3, q3, rfl, rfl, rfl, h3, r3⟩ := trodAll_cons r2);(obtain ⟨rfl, rfl, rfl⟩ := trodAll_nil r3);(obtain rfl : args = #[v0, v1, v2, v3] := by cases args; simp_all);(obtain ⟨rfl, rfl⟩ := trodVars_none hV);(have k0 := h0);(have lt0 : ∀ x ∈ p0, x.block < W.heap.size := by obtain ⟨m, hm⟩ := k0; exact DataW.trod_lt m _ _ _ hm);(obtain ⟨A0, len0, cap0, rfl⟩ := Go.WideShapes.okWide_slice Tryz.underlying36 (hval 0 36 v0 rfl rfl))
 obtain ⟨xs0, hl0, hC0, hc0, hok0⟩ := open_C FB.k104 (fun x => x.f1 < 18446744073709551616) Tryz.underlying36 (by kernel_rfl) (fun n cs y hy => by
  obtain ⟨a, b, c, rfl, hb, _, _⟩ := trod_ifi Tryz.underlying104 Tryz.underlying3 Tryz.underlying30 rfl rfl rfl rfl rfl rfl (by kernel_rfl) (by kernel_rfl) (by kernel_rfl) hy
  exact ⟨⟨a, b, c⟩, FB.k104_mk W ⟨a, b, c⟩, hb⟩) h0
 (subst hl0);(obtain ⟨a1, rfl, rfl, rfl, w1⟩ := open_int Tryz.underlying3 (hval 1 3 v1 rfl rfl) h1);(have k2 := h2);(have lt2 : ∀ x ∈ p2, x.block < W.heap.size := by obtain ⟨m, hm⟩ := k2; exact DataW.trod_lt m _ _ _ hm);(obtain ⟨b2, kd2, A2, cp2, ds2, B2, cq2, fs2, rfl, hC2, hc2, hD2, hd2, hok2, wb2, wk2, wd2⟩ := open_curve Tryz.underlying25 Tryz.underlying3 Tryz.underlying30 Tryz.underlying22 Tryz.underlying23 rfl rfl rfl rfl rfl rfl rfl rfl (by kernel_rfl) (by kernel_rfl) (by kernel_rfl) (by kernel_rfl) (by kernel_rfl) (hval 2 25 v2 rfl rfl) h2);(have k3 := h3);(have lt3 : ∀ x ∈ p3, x.block < W.heap.size := by obtain ⟨m, hm⟩ := k3; exact DataW.trod_lt m _ _ _ hm);(obtain ⟨A3, len3, cap3, rfl⟩ := Go.WideShapes.okWide_slice Tryz.underlying37 (hval 3 37 v3 rfl rfl))
 obtain ⟨xs3, hl3, hC3, hc3, hok3⟩ := open_C FGc.k42 (fun x => x.f2 < 18446744073709551616) Tryz.underlying37 (by kernel_rfl) (fun n cs y hy => by
  obtain ⟨a, b, c, rfl, hb, _, _⟩ := trod_iif Tryz.underlying42 Tryz.underlying3 Tryz.underlying30 rfl rfl rfl rfl rfl rfl (by kernel_rfl) (by kernel_rfl) (by kernel_rfl) hy
  exact ⟨⟨a, b, c⟩, FGc.k42_mk W ⟨a, b, c⟩, hb⟩) h3
 (subst hl3);(clear hA0 hval0);(refine (gridOrder_walk A0 cap0 xs0 a1 b2 kd2 A2 cp2 ds2 B2 cq2 fs2 A3 cap3 xs3 W hC0 hc0 hok0 (i64_bd w1) hC2 hc2 hD2 hd2 hok2 hC3 hc3 hok3).mono fun e W' ⟨he, bel⟩ => ?_);(subst he);(exact ⟨_, rfl, _, _, _, [], _, [], hW', trodAll_mk1 (shut_bool Tryz.underlying4 _), (trodAll_cons_mk (Below.trod gridOrder_laidOut (by kernel_rfl) (of_decide_eq_true (by kernel_rfl)) k0 bel lt0) (trodAll_cons_mk (shut_int Tryz.underlying3 w1) (trodAll_cons_mk (Below.trod gridOrder_laidOut (by kernel_rfl) (of_decide_eq_true (by kernel_rfl)) k2 bel lt2) (trodAll_cons_mk (Below.trod gridOrder_laidOut (by kernel_rfl) (of_decide_eq_true (by kernel_rfl)) k3 bel lt3) trodAll_mk0)))), rfl, bel.frame _, fun h => by cases h⟩)

theorem and_b {a b : Bool} (ha : a = true) (hb : b = true) : (a && b) = true := by rw [ha, hb]; rfl
set_option maxHeartbeats 16000000 in
set_option maxRecDepth 100000 in
theorem gridOrder_holds : Rows.GridOrderSaid :=
 OpenClaim.holds_of_wide 4 Tryz.f4 rfl rfl rfl rfl rfl rfl rfl ⟨rfl, rfl, rfl, rfl, rfl⟩ rfl rfl rfl rfl rfl (by kernel_rfl) Tryz.func4 (by unfold joinedFacts; (repeat' with_reducible refine and_b ?_ ?_) <;> as_aux_lemma => kernel_rfl)
  (of_decide_eq_true (by kernel_rfl)) (by unfold Func.isWrapper; first | (rw [if_pos (by decide +kernel)]; kernel_rfl) | (rw [if_neg (by decide +kernel)]; exact ⟨rfl, rfl⟩))
  (fun os started H enc _ => gridOrder_lifted os started H enc)
#print axioms gridOrder_holds
end Go.Proofs.YtmdoljecjliehaaGreat
