/- PriceOwn: the law answers true, and its input stays. No condition. -/
import Derived.Test.YthkcphdhmkcdkaaRows
import Derived.WalkKit
import Derived.ProofKit
import Derived.OpenShut
import Derived.Laws.Cover2
import Derived.Test.YthkcphdhmkcdkaaRo
import Derived.Test.YthkcphdhmkcdkaaOpc
import Derived.Lib.Hide
import Derived.SizedLaws
namespace Go.Proofs.Ythkcphdhmkcdkaa
open Go.ChangeShapes Go.WideShapes Go.ChangeAt Go.RowKit Go.Proofs.YthkcphdhmkcdkaaW.PrintWords

theorem float_lt {b : Nat} (h : (Lit.float .f64 b).wf = true) : b < 18446744073709551616 := by simpa [Lit.wf] using h
theorem float32_lt {b : Nat} (h : (Lit.float .f32 b).wf = true) : b < 4294967296 := by simpa [Lit.wf] using h
theorem i64_bd {n : Int} (h : (Lit.int .i64 n).wf = true) : -9223372036854775808 ≤ n ∧ n < 9223372036854775808 := by
  simp [Lit.wf, IntKind.min, IntKind.max, IntKind.bits, IntKind.signed] at h; omega
theorem u64_bd {n : Int} (h : (Lit.int .u64 n).wf = true) : 0 ≤ n ∧ n < 18446744073709551616 := by
  simp [Lit.wf, IntKind.min, IntKind.max, IntKind.bits, IntKind.signed] at h; omega
theorem priceOwn_walk (A0 : Option Addr) (c0 : Nat) (l0 : List FB.S51) (A1 : Option Addr) (c1 : Nat) (l1 : List FB.S51) (a2 : Int) (b3 kd3 : Int) (A3 : Option Addr) (c3 : Nat) (ds3 : List Int) (B3 : Option Addr) (q3 : Nat) (fs3 : List Nat) (w : World) (hr0 : Kd.C FB.k51 w A0 l0.length l0) (hc0 : l0.length ≤ c0) (hw0 : ∀ f ∈ l0, f.f1 < 18446744073709551616) (hr1 : Kd.C FB.k51 w A1 l1.length l1) (hc1 : l1.length ≤ c1) (hw1 : ∀ f ∈ l1, f.f1 < 18446744073709551616) (hw2 : -9223372036854775808 ≤ a2 ∧ a2 < 9223372036854775808) (hr3 : Kd.C (Kd.int .i64) w A3 ds3.length ds3) (hc3 : ds3.length ≤ c3) (hs3 : Kd.C Kd.flt w B3 fs3.length fs3) (hq3 : fs3.length ≤ q3) (hw3 : ∀ y ∈ fs3, y < 18446744073709551616) :
    Calls Try.prog 3 #[.slice A0 l0.length c0, .slice A1 l1.length c1, .int .i64 a2, .agg #[.int .i64 b3, .int .i64 kd3, .slice A3 ds3.length c3, .slice B3 fs3.length q3]] w fun e w' => e = .returned (.bool true) ∧ Below w.heap.size w w' := by
  exact FB.priceOwn_any A0 c0 l0 A1 c1 l1 a2 b3 kd3 A3 c3 ds3 B3 q3 fs3 w hr0 hc0 hr1 hc1 hr3 hc3 hs3 hq3 hw0 hw1 hw3


theorem priceOwn_own : ownKnob Try.prog.godebug = none := by kernel_rfl
theorem priceOwn_laidOut : laidOutB Try.prog = true := by kernel_rfl

set_option maxRecDepth 100000 in
theorem priceOwn_lifted (os : Os) (started : os.Started) (H : Type) (enc : TypeId × Value → H) :
    ReturnsInHanded {} Try.checked os 3 .any (Rows.priceOwnSpec.pre6 enc Try.prog Try.f3 Rows.priceOwnRow.domain false) (Rows.priceOwnSpec.post enc Try.prog Try.f3 false true false false) := by
  refine returnsInHanded_of_change (C := Try.checked) priceOwn_own started (by kernel_rfl) Try.func3
    (ChangeSpec.witness6 (enc := enc) (C := Try.checked) false ⟨#[], #[.slice none 0 0, .slice none 0 0, .int .i64 0, .agg #[.int .i64 0, .int .i64 0, .slice none 0 0, .slice none 0 0]], []⟩ 8 (by kernel_rfl) (by kernel_rfl) (by kernel_rfl) (by kernel_rfl)) ?_
  intro W base args ds gs before hval0 hW hcnd _
  have hval : ∀ (j : Nat) t v, Try.f3.params[j]? = some t → args[j]? = some v → Value.okWide Try.prog W .any base t v := hval0
  have hW' := hW
  obtain ⟨p, q, hA0, hV, rfl, hfz, hnd⟩ := hW
  have hA : DataW.TrodAll enc Try.prog W 0 (fun _ => true) true Try.f3.params.toList args.toList ds p := hA0
  rw [Try.params3] at hA hval
  obtain ⟨v0, vs0, d0, ds0, p0, q0, hargs, rfl, rfl, h0, r0⟩ := trodAll_cons hA
  obtain ⟨v1, vs1, d1, ds1, p1, q1, rfl, rfl, rfl, h1, r1⟩ := trodAll_cons r0
  obtain ⟨v2, vs2, d2, ds2, p2, q2, rfl, rfl, rfl, h2, r2⟩ := trodAll_cons r1
  obtain ⟨v3, vs3, d3, ds3, p3, q3, rfl, rfl, rfl, h3, r3⟩ := trodAll_cons r2
  obtain ⟨rfl, rfl, rfl⟩ := trodAll_nil r3
  obtain rfl : args = #[v0, v1, v2, v3] := by cases args; simp_all
  obtain ⟨rfl, rfl⟩ := trodVars_none hV
  have k0 := h0
  have lt0 : ∀ x ∈ p0, x.block < W.heap.size := by obtain ⟨m, hm⟩ := k0; exact DataW.trod_lt m _ _ _ hm
  obtain ⟨A0, len0, cap0, rfl⟩ := Go.WideShapes.okWide_slice Try.underlying22 (hval 0 22 v0 rfl rfl)
  obtain ⟨xs0, hl0, hC0, hc0, hok0⟩ := open_C FB.k51 (fun x => x.f1 < 18446744073709551616) Try.underlying22 (by kernel_rfl) (fun n cs y hy => by
    obtain ⟨a, b, c, rfl, hb, _, _⟩ := trod_ifi Try.underlying51 Try.underlying3 Try.underlying35 rfl rfl rfl rfl rfl rfl (by kernel_rfl) (by kernel_rfl) (by kernel_rfl) hy
    exact ⟨⟨a, b, c⟩, FB.k51_mk W ⟨a, b, c⟩, hb⟩) h0
  subst hl0
  have k1 := h1
  have lt1 : ∀ x ∈ p1, x.block < W.heap.size := by obtain ⟨m, hm⟩ := k1; exact DataW.trod_lt m _ _ _ hm
  obtain ⟨A1, len1, cap1, rfl⟩ := Go.WideShapes.okWide_slice Try.underlying22 (hval 1 22 v1 rfl rfl)
  obtain ⟨xs1, hl1, hC1, hc1, hok1⟩ := open_C FB.k51 (fun x => x.f1 < 18446744073709551616) Try.underlying22 (by kernel_rfl) (fun n cs y hy => by
    obtain ⟨a, b, c, rfl, hb, _, _⟩ := trod_ifi Try.underlying51 Try.underlying3 Try.underlying35 rfl rfl rfl rfl rfl rfl (by kernel_rfl) (by kernel_rfl) (by kernel_rfl) hy
    exact ⟨⟨a, b, c⟩, FB.k51_mk W ⟨a, b, c⟩, hb⟩) h1
  subst hl1
  obtain ⟨a2, rfl, rfl, rfl, w2⟩ := open_int Try.underlying3 (hval 2 3 v2 rfl rfl) h2
  have k3 := h3
  have lt3 : ∀ x ∈ p3, x.block < W.heap.size := by obtain ⟨m, hm⟩ := k3; exact DataW.trod_lt m _ _ _ hm
  obtain ⟨b3, kd3, A3, cp3, ds3, B3, cq3, fs3, rfl, hC3, hc3, hD3, hd3, hok3, wb3, wk3, wd3⟩ := open_curve Try.underlying26 Try.underlying3 Try.underlying35 Try.underlying23 Try.underlying24 rfl rfl rfl rfl rfl rfl rfl rfl (by kernel_rfl) (by kernel_rfl) (by kernel_rfl) (by kernel_rfl) (by kernel_rfl) (hval 3 26 v3 rfl rfl) h3
  clear hA0 hval0
  refine (priceOwn_walk A0 cap0 xs0 A1 cap1 xs1 a2 b3 kd3 A3 cp3 ds3 B3 cq3 fs3 W hC0 hc0 hok0 hC1 hc1 hok1 (i64_bd w2) hC3 hc3 hD3 hd3 hok3).mono fun e W' ⟨he, bel⟩ => ?_
  subst he
  exact ⟨_, rfl, _, _, _, [], _, [], hW', trodAll_mk1 (shut_bool Try.underlying4 _), (trodAll_cons_mk (Below.trod priceOwn_laidOut (by kernel_rfl) (of_decide_eq_true (by kernel_rfl)) k0 bel lt0) (trodAll_cons_mk (Below.trod priceOwn_laidOut (by kernel_rfl) (of_decide_eq_true (by kernel_rfl)) k1 bel lt1) (trodAll_cons_mk (shut_int Try.underlying3 w2) (trodAll_cons_mk (Below.trod priceOwn_laidOut (by kernel_rfl) (of_decide_eq_true (by kernel_rfl)) k3 bel lt3) trodAll_mk0)))), rfl, bel.frame _, fun h => by cases h⟩

theorem priceOwn_holds : Rows.PriceOwnSaid :=
  OpenClaim.holds_of_wide 3 Try.f3 rfl rfl rfl rfl rfl rfl rfl ⟨rfl, rfl, rfl, rfl, rfl⟩ rfl rfl rfl rfl rfl (by kernel_rfl) Try.func3 (by kernel_rfl)
    (of_decide_eq_true (by kernel_rfl)) (by unfold Func.isWrapper; first | (rw [if_pos (by decide +kernel)]; kernel_rfl) | (rw [if_neg (by decide +kernel)]; exact ⟨rfl, rfl⟩))
    (fun os started H enc _ => priceOwn_lifted os started H enc)
#print axioms priceOwn_holds
end Go.Proofs.Ythkcphdhmkcdkaa
