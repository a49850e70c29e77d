/- FlowOrder: the law answers true, and its input stays. No condition. -/
import Derived.Test.YtepcegiciecogaaRows
import Derived.WalkKit
import Derived.ProofKit
import Derived.OpenShut
import Derived.Laws.Cover2
import Derived.Test.YtepcegiciecogaaAx
import Derived.Test.YtepcegiciecogaaOpm
import Derived.Lib.Hide
import Derived.SizedLaws
namespace Go.Proofs.Ytepcegiciecogaa
open Go.ChangeShapes Go.WideShapes Go.ChangeAt Go.RowKit Go.Proofs.YtepcegiciecogaaW.PrintWords

theorem float_lt {b : Nat} (h : (Lit.float .f64 b).wf = true) : b < 18446744073709551616 := by simpa [Lit.wf] using h
theorem float32_lt {b : Nat} (h : (Lit.float .f32 b).wf = true) : b < 4294967296 := by simpa [Lit.wf] using h
theorem i64_bd {n : Int} (h : (Lit.int .i64 n).wf = true) : -9223372036854775808 ≤ n ∧ n < 9223372036854775808 := by
  simp [Lit.wf, IntKind.min, IntKind.max, IntKind.bits, IntKind.signed] at h; omega
theorem u64_bd {n : Int} (h : (Lit.int .u64 n).wf = true) : 0 ≤ n ∧ n < 18446744073709551616 := by
  simp [Lit.wf, IntKind.min, IntKind.max, IntKind.bits, IntKind.signed] at h; omega
theorem flowOrder_walk (A : Option Addr) (c : Nat) (l : List FB.S42) (A1 : Option Addr) (c1 : Nat) (b : List Int) (w : World) (hr : Kd.C FB.k42 w A l.length l) (hc : l.length ≤ c) (hw : ∀ x ∈ l, x.f1 < 18446744073709551616) (hl : l.length * 24 ≤ 140737488351232)
    (hr1 : Kd.C (Kd.int .i64) w A1 b.length b) (hc1 : b.length ≤ c1) :
    Calls Try.prog 4 #[.slice A l.length c, .slice A1 b.length c1] w fun e w' => e = .returned (.bool true) ∧ Below w.heap.size w w' := by
  by_cases h : l.length ≤ 120 ∧ (FO.netE l).2 = 0
  · obtain ⟨k, hk⟩ := FO.law_good l hw h.1 b h.2
    exact FOg.tenorlaw14_FlowOrder.calls k A c l A1 c1 b true w hr hc hr1 hc1 (hk k (Nat.le_refl k))
  · obtain ⟨k, hk⟩ := FO.law_bad l hw (by omega) b h
    exact FOb.tenorlaw14_FlowOrder.calls k A c l A1 c1 b true w hr hc hr1 hc1 (hk k (Nat.le_refl k))

theorem flowOrder_own : ownKnob Try.prog.godebug = none := by kernel_rfl
theorem flowOrder_laidOut : laidOutB Try.prog = true := by kernel_rfl

set_option maxRecDepth 100000 in
theorem flowOrder_lifted (os : Os) (started : os.Started) (H : Type) (enc : TypeId × Value → H) :
    ReturnsInHanded {} Try.checked os 4 .any (Rows.flowOrderSpec.pre6 enc Try.prog Try.f4 Rows.flowOrderRow.domain false) (Rows.flowOrderSpec.post enc Try.prog Try.f4 false true false false) := by
  refine returnsInHanded_of_change_sized (C := Try.checked) flowOrder_own started (by kernel_rfl) Try.func4
    (ChangeSpec.witness6 (enc := enc) (C := Try.checked) false ⟨#[], #[.slice none 0 0, .slice none 0 0], []⟩ 8 (by kernel_rfl) (by kernel_rfl) (by kernel_rfl) (by kernel_rfl)) ?_
  intro W base args ds gs before hval0 hW hcnd hsz0 _
  have hsz : (DataW.weightsEach Try.prog (Try.f4.params.toList ++ Rows.flowOrderSpec.plain.varTypes Try.prog) (ds ++ gs)).all (· ≤ reachBytes) = true := hsz0
  have hval : ∀ (j : Nat) t v, Try.f4.params[j]? = some t → args[j]? = some v → Value.okWide Try.prog W .any base t v := hval0
  have hW' := hW
  obtain ⟨p, q, hA0, hV, rfl, hfz, hnd⟩ := hW
  have hA : DataW.TrodAll enc Try.prog W 0 (fun _ => true) true Try.f4.params.toList args.toList ds p := hA0
  rw [Try.params4] at hA hval hsz
  obtain ⟨v0, vs0, d0, ds0, p0, q0, hargs, rfl, rfl, h0, r0⟩ := trodAll_cons hA
  obtain ⟨v1, vs1, d1, ds1, p1, q1, rfl, rfl, rfl, h1, r1⟩ := trodAll_cons r0
  obtain ⟨rfl, rfl, rfl⟩ := trodAll_nil r1
  obtain rfl : args = #[v0, v1] := by cases args; simp_all
  obtain ⟨rfl, rfl⟩ := trodVars_none hV
  have k0 := h0
  have lt0 : ∀ x ∈ p0, x.block < W.heap.size := by obtain ⟨m, hm⟩ := k0; exact DataW.trod_lt m _ _ _ hm
  obtain ⟨A0, len0, cap0, rfl⟩ := Go.WideShapes.okWide_slice Try.underlying22 (hval 0 22 v0 rfl rfl)
  have y0 := sized_C hsz (j := 0) (t := 22) rfl rfl Try.underlying22 (B := 24) (by kernel_rfl) k0
  obtain ⟨xs0, hl0, hC0, hc0, hok0⟩ := open_C FB.k42 (fun x => x.f1 < 18446744073709551616) Try.underlying22 (by kernel_rfl) (fun n cs y hy => by
    obtain ⟨a, b, c, rfl, hb, _, _⟩ := trod_ifi Try.underlying42 Try.underlying3 Try.underlying40 rfl rfl rfl rfl rfl rfl (by kernel_rfl) (by kernel_rfl) (by kernel_rfl) hy
    exact ⟨⟨a, b, c⟩, FB.k42_mk W ⟨a, b, c⟩, hb⟩) h0
  subst hl0
  have k1 := h1
  have lt1 : ∀ x ∈ p1, x.block < W.heap.size := by obtain ⟨m, hm⟩ := k1; exact DataW.trod_lt m _ _ _ hm
  obtain ⟨A1, len1, cap1, rfl⟩ := Go.WideShapes.okWide_slice Try.underlying32 (hval 1 32 v1 rfl rfl)
  obtain ⟨xs1, hl1, hC1, hc1, hok1⟩ := open_C (Kd.int .i64) (fun x => (Lit.int .i64 x).wf = true) Try.underlying32 (by kernel_rfl) (fun n cs y hy => by
    obtain ⟨a, rfl, _, wa⟩ := DataW.trod_int Try.underlying3 hy
    exact ⟨a, rfl, wa⟩) h1
  subst hl1
  clear hA0 hval0 hsz0 hsz
  refine (flowOrder_walk A0 cap0 xs0 A1 cap1 xs1 W hC0 hc0 hok0 y0 hC1 hc1).mono fun e W' ⟨he, bel⟩ => ?_
  subst he
  exact ⟨_, rfl, _, _, _, [], _, [], hW', trodAll_mk1 (shut_bool Try.underlying4 _), (trodAll_cons_mk (Below.trod flowOrder_laidOut (by kernel_rfl) (of_decide_eq_true (by kernel_rfl)) k0 bel lt0) (trodAll_cons_mk (Below.trod flowOrder_laidOut (by kernel_rfl) (of_decide_eq_true (by kernel_rfl)) k1 bel lt1) trodAll_mk0)), rfl, bel.frame _, fun h => by cases h⟩

theorem flowOrder_holds : Rows.FlowOrderSaid :=
  OpenClaim.holds_of_wide 4 Try.f4 rfl rfl rfl rfl rfl rfl rfl ⟨rfl, rfl, rfl, rfl, rfl⟩ rfl rfl rfl rfl rfl (by kernel_rfl) Try.func4 (by kernel_rfl)
    (of_decide_eq_true (by kernel_rfl)) (by unfold Func.isWrapper; first | (rw [if_pos (by decide +kernel)]; kernel_rfl) | (rw [if_neg (by decide +kernel)]; exact ⟨rfl, rfl⟩))
    (fun os started H enc _ => flowOrder_lifted os started H enc)
#print axioms flowOrder_holds
end Go.Proofs.Ytepcegiciecogaa
