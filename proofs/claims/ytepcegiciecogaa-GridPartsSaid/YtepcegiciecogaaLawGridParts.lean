/- GridParts: the law answers true, and its input stays. No condition. -/
import Derived.Test.YtepcegiciecogaaRows
import Derived.WalkKit
import Derived.ProofKit
import Derived.OpenShut
import Derived.Laws.Cover2
import Derived.Test.YtepcegiciecogaaBc
import Derived.Test.YtepcegiciecogaaOpm
import Derived.Lib.Hide
import Derived.SizedLaws
namespace Go.Proofs.Ytepcegiciecogaa
open Go.ChangeShapes Go.WideShapes Go.ChangeAt Go.RowKit Go.Proofs.YtepcegiciecogaaW.PrintWords

theorem float_lt {b : Nat} (h : (Lit.float .f64 b).wf = true) : b < 18446744073709551616 := by simpa [Lit.wf] using h
theorem float32_lt {b : Nat} (h : (Lit.float .f32 b).wf = true) : b < 4294967296 := by simpa [Lit.wf] using h
theorem i64_bd {n : Int} (h : (Lit.int .i64 n).wf = true) : -9223372036854775808 ≤ n ∧ n < 9223372036854775808 := by
  simp [Lit.wf, IntKind.min, IntKind.max, IntKind.bits, IntKind.signed] at h; omega
theorem u64_bd {n : Int} (h : (Lit.int .u64 n).wf = true) : 0 ≤ n ∧ n < 18446744073709551616 := by
  simp [Lit.wf, IntKind.min, IntKind.max, IntKind.bits, IntKind.signed] at h; omega
theorem gridParts_walk (A : Option Addr) (c : Nat) (l : List Nat) (A1 : Option Addr) (c1 : Nat) (b : List Int) (p r q : Int) (A5 : Option Addr) (c5 : Nat) (m : List Nat) (w : World) (hr : Kd.C Kd.flt w A l.length l) (hc : l.length ≤ c) (hw : ∀ x ∈ l, x < 18446744073709551616) (hl : l.length * 8 ≤ 140737488351232)
    (hr1 : Kd.C (Kd.int .i64) w A1 b.length b) (hc1 : b.length ≤ c1) (hr5 : Kd.C Kd.flt w A5 m.length m) (hc5 : m.length ≤ c5) (hw5 : ∀ x ∈ m, x < 18446744073709551616) :
    Calls Try.prog 7 #[.slice A l.length c, .slice A1 b.length c1, .int .i64 p, .int .i64 r, .int .i64 q, .slice A5 m.length c5] w fun e w' => e = .returned (.bool true) ∧ Below w.heap.size w w' := by
  obtain ⟨k, hk⟩ := FJ.law l b p r q m hw hw5 (by omega)
  exact FJ.tenorlaw25_GridParts.calls k A c l A1 c1 b p r q A5 c5 m true w hr hc hr1 hc1 hr5 hc5 hk

theorem gridParts_own : ownKnob Try.prog.godebug = none := by kernel_rfl
theorem gridParts_laidOut : laidOutB Try.prog = true := by kernel_rfl

set_option maxRecDepth 100000 in
theorem gridParts_lifted (os : Os) (started : os.Started) (H : Type) (enc : TypeId × Value → H) :
    ReturnsInHanded {} Try.checked os 7 .any (Rows.gridPartsSpec.pre6 enc Try.prog Try.f7 Rows.gridPartsRow.domain false) (Rows.gridPartsSpec.post enc Try.prog Try.f7 false true false false) := by
  refine returnsInHanded_of_change_sized (C := Try.checked) gridParts_own started (by kernel_rfl) Try.func7
    (ChangeSpec.witness6 (enc := enc) (C := Try.checked) false ⟨#[], #[.slice none 0 0, .slice none 0 0, .int .i64 0, .int .i64 0, .int .i64 0, .slice none 0 0], []⟩ 8 (by kernel_rfl) (by kernel_rfl) (by kernel_rfl) (by kernel_rfl)) ?_
  intro W base args ds gs before hval0 hW hcnd hsz0 _
  have hsz : (DataW.weightsEach Try.prog (Try.f7.params.toList ++ Rows.gridPartsSpec.plain.varTypes Try.prog) (ds ++ gs)).all (· ≤ reachBytes) = true := hsz0
  have hval : ∀ (j : Nat) t v, Try.f7.params[j]? = some t → args[j]? = some v → Value.okWide Try.prog W .any base t v := hval0
  have hW' := hW
  obtain ⟨p, q, hA0, hV, rfl, hfz, hnd⟩ := hW
  have hA : DataW.TrodAll enc Try.prog W 0 (fun _ => true) true Try.f7.params.toList args.toList ds p := hA0
  rw [Try.params7] at hA hval hsz
  obtain ⟨v0, vs0, d0, ds0, p0, q0, hargs, rfl, rfl, h0, r0⟩ := trodAll_cons hA
  obtain ⟨v1, vs1, d1, ds1, p1, q1, rfl, rfl, rfl, h1, r1⟩ := trodAll_cons r0
  obtain ⟨v2, vs2, d2, ds2, p2, q2, rfl, rfl, rfl, h2, r2⟩ := trodAll_cons r1
  obtain ⟨v3, vs3, d3, ds3, p3, q3, rfl, rfl, rfl, h3, r3⟩ := trodAll_cons r2
  obtain ⟨v4, vs4, d4, ds4, p4, q4, rfl, rfl, rfl, h4, r4⟩ := trodAll_cons r3
  obtain ⟨v5, vs5, d5, ds5, p5, q5, rfl, rfl, rfl, h5, r5⟩ := trodAll_cons r4
  obtain ⟨rfl, rfl, rfl⟩ := trodAll_nil r5
  obtain rfl : args = #[v0, v1, v2, v3, v4, v5] := by cases args; simp_all
  obtain ⟨rfl, rfl⟩ := trodVars_none hV
  have k0 := h0
  have lt0 : ∀ x ∈ p0, x.block < W.heap.size := by obtain ⟨m, hm⟩ := k0; exact DataW.trod_lt m _ _ _ hm
  obtain ⟨A0, len0, cap0, rfl⟩ := Go.WideShapes.okWide_slice Try.underlying48 (hval 0 48 v0 rfl rfl)
  have y0 := sized_C hsz (j := 0) (t := 48) rfl rfl Try.underlying48 (B := 8) (by kernel_rfl) k0
  obtain ⟨xs0, hl0, hC0, hc0, hok0⟩ := open_C Kd.flt (fun x => x < 18446744073709551616) Try.underlying48 (by kernel_rfl) (fun n cs y hy => by
    obtain ⟨x, rfl, _, hx⟩ := trod_float Try.underlying40 hy
    exact ⟨x, rfl, float_lt hx⟩) h0
  subst hl0
  have k1 := h1
  have lt1 : ∀ x ∈ p1, x.block < W.heap.size := by obtain ⟨m, hm⟩ := k1; exact DataW.trod_lt m _ _ _ hm
  obtain ⟨A1, len1, cap1, rfl⟩ := Go.WideShapes.okWide_slice Try.underlying32 (hval 1 32 v1 rfl rfl)
  obtain ⟨xs1, hl1, hC1, hc1, hok1⟩ := open_C (Kd.int .i64) (fun x => (Lit.int .i64 x).wf = true) Try.underlying32 (by kernel_rfl) (fun n cs y hy => by
    obtain ⟨a, rfl, _, wa⟩ := DataW.trod_int Try.underlying3 hy
    exact ⟨a, rfl, wa⟩) h1
  subst hl1
  obtain ⟨a2, rfl, rfl, rfl, w2⟩ := open_int Try.underlying3 (hval 2 3 v2 rfl rfl) h2
  obtain ⟨a3, rfl, rfl, rfl, w3⟩ := open_int Try.underlying3 (hval 3 3 v3 rfl rfl) h3
  obtain ⟨a4, rfl, rfl, rfl, w4⟩ := open_int Try.underlying3 (hval 4 3 v4 rfl rfl) h4
  have k5 := h5
  have lt5 : ∀ x ∈ p5, x.block < W.heap.size := by obtain ⟨m, hm⟩ := k5; exact DataW.trod_lt m _ _ _ hm
  obtain ⟨A5, len5, cap5, rfl⟩ := Go.WideShapes.okWide_slice Try.underlying48 (hval 5 48 v5 rfl rfl)
  have y5 := sized_C hsz (j := 5) (t := 48) rfl rfl Try.underlying48 (B := 8) (by kernel_rfl) k5
  obtain ⟨xs5, hl5, hC5, hc5, hok5⟩ := open_C Kd.flt (fun x => x < 18446744073709551616) Try.underlying48 (by kernel_rfl) (fun n cs y hy => by
    obtain ⟨x, rfl, _, hx⟩ := trod_float Try.underlying40 hy
    exact ⟨x, rfl, float_lt hx⟩) h5
  subst hl5
  clear hA0 hval0 hsz0 hsz
  refine (gridParts_walk A0 cap0 xs0 A1 cap1 xs1 a2 a3 a4 A5 cap5 xs5 W hC0 hc0 hok0 y0 hC1 hc1 hC5 hc5 hok5).mono fun e W' ⟨he, bel⟩ => ?_
  subst he
  exact ⟨_, rfl, _, _, _, [], _, [], hW', trodAll_mk1 (shut_bool Try.underlying4 _), (trodAll_cons_mk (Below.trod gridParts_laidOut (by kernel_rfl) (of_decide_eq_true (by kernel_rfl)) k0 bel lt0) (trodAll_cons_mk (Below.trod gridParts_laidOut (by kernel_rfl) (of_decide_eq_true (by kernel_rfl)) k1 bel lt1) (trodAll_cons_mk (shut_int Try.underlying3 w2) (trodAll_cons_mk (shut_int Try.underlying3 w3) (trodAll_cons_mk (shut_int Try.underlying3 w4) (trodAll_cons_mk (Below.trod gridParts_laidOut (by kernel_rfl) (of_decide_eq_true (by kernel_rfl)) k5 bel lt5) trodAll_mk0)))))), rfl, bel.frame _, fun h => by cases h⟩

theorem gridParts_holds : Rows.GridPartsSaid :=
  OpenClaim.holds_of_wide 7 Try.f7 rfl rfl rfl rfl rfl rfl rfl ⟨rfl, rfl, rfl, rfl, rfl⟩ rfl rfl rfl rfl rfl (by kernel_rfl) Try.func7 (by kernel_rfl)
    (of_decide_eq_true (by kernel_rfl)) (by unfold Func.isWrapper; first | (rw [if_pos (by decide +kernel)]; kernel_rfl) | (rw [if_neg (by decide +kernel)]; exact ⟨rfl, rfl⟩))
    (fun os started H enc _ => gridParts_lifted os started H enc)
#print axioms gridParts_holds
end Go.Proofs.Ytepcegiciecogaa
