/- FlowNets: the law answers true, and its input stays. No condition. -/
import Derived.Test.YtepcegiciecogaaGreatRows
import Derived.WalkKit
import Derived.ProofKit
import Derived.OpenShut
import Derived.Laws.Cover2
import Derived.Test.YtepcegiciecogaaGreatBn
import Derived.Test.YtepcegiciecogaaGreatOpm
import Derived.Lib.Hide
import Derived.SizedLaws
namespace Go.Proofs.YtepcegiciecogaaGreat
open Go.ChangeShapes Go.WideShapes Go.ChangeAt Go.RowKit Go.Proofs.YtepcegiciecogaaGreatW.PrintWords

theorem float_lt {b : Nat} (h : (Lit.float .f64 b).wf = true) : b < 18446744073709551616 := by simpa [Lit.wf] using h
theorem float32_lt {b : Nat} (h : (Lit.float .f32 b).wf = true) : b < 4294967296 := by simpa [Lit.wf] using h
theorem i64_bd {n : Int} (h : (Lit.int .i64 n).wf = true) : -9223372036854775808 ≤ n ∧ n < 9223372036854775808 := by
  simp [Lit.wf, IntKind.min, IntKind.max, IntKind.bits, IntKind.signed] at h; omega
theorem u64_bd {n : Int} (h : (Lit.int .u64 n).wf = true) : 0 ≤ n ∧ n < 18446744073709551616 := by
  simp [Lit.wf, IntKind.min, IntKind.max, IntKind.bits, IntKind.signed] at h; omega
theorem flowNets_walk (A : Option Addr) (c : Nat) (l : List FB.S46) (w : World) (hr : Kd.C FB.k46 w A l.length l) (hc : l.length ≤ c) (hw : ∀ x ∈ l, x.f1 < 18446744073709551616) (hl : l.length * 24 ≤ 140737488351232) :
    Calls Tryz.prog 3 #[.slice A l.length c] w fun e w' => e = .returned (.bool true) ∧ Below w.heap.size w w' := by
  obtain ⟨k, hk⟩ := FN.law l hw (by omega)
  exact FN.tenorlaw14_FlowNets.calls k A c l true w hr hc hk

theorem flowNets_own : ownKnob Tryz.prog.godebug = none := by kernel_rfl
theorem flowNets_laidOut : laidOutB Tryz.prog = true := by kernel_rfl

set_option maxRecDepth 100000 in
theorem flowNets_lifted (os : Os) (started : os.Started) (H : Type) (enc : TypeId × Value → H) :
    ReturnsInHanded {} Tryz.checked os 3 .any (Rows.flowNetsSpec.pre6 enc Tryz.prog Tryz.f3 Rows.flowNetsRow.domain false) (Rows.flowNetsSpec.post enc Tryz.prog Tryz.f3 false true false false) := by
  refine returnsInHanded_of_change_sized (C := Tryz.checked) flowNets_own started (by kernel_rfl) Tryz.func3
    (ChangeSpec.witness6 (enc := enc) (C := Tryz.checked) false ⟨#[], #[.slice none 0 0], []⟩ 8 (by kernel_rfl) (by kernel_rfl) (by kernel_rfl) (by kernel_rfl)) ?_
  intro W base args ds gs before hval0 hW hcnd hsz0 _
  have hsz : (DataW.weightsEach Tryz.prog (Tryz.f3.params.toList ++ Rows.flowNetsSpec.plain.varTypes Tryz.prog) (ds ++ gs)).all (· ≤ reachBytes) = true := hsz0
  have hval : ∀ (j : Nat) t v, Tryz.f3.params[j]? = some t → args[j]? = some v → Value.okWide Tryz.prog W .any base t v := hval0
  have hW' := hW
  obtain ⟨p, q, hA0, hV, rfl, hfz, hnd⟩ := hW
  have hA : DataW.TrodAll enc Tryz.prog W 0 (fun _ => true) true Tryz.f3.params.toList args.toList ds p := hA0
  rw [Tryz.params3] at hA hval hsz
  obtain ⟨v0, vs0, d0, ds0, p0, q0, hargs, rfl, rfl, h0, r0⟩ := trodAll_cons hA
  obtain ⟨rfl, rfl, rfl⟩ := trodAll_nil r0
  obtain rfl : args = #[v0] := by cases args; simp_all
  obtain ⟨rfl, rfl⟩ := trodVars_none hV
  have k0 := h0
  have lt0 : ∀ x ∈ p0, x.block < W.heap.size := by obtain ⟨m, hm⟩ := k0; exact DataW.trod_lt m _ _ _ hm
  obtain ⟨A0, len0, cap0, rfl⟩ := Go.WideShapes.okWide_slice Tryz.underlying22 (hval 0 22 v0 rfl rfl)
  have y0 := sized_C hsz (j := 0) (t := 22) rfl rfl Tryz.underlying22 (B := 24) (by kernel_rfl) k0
  obtain ⟨xs0, hl0, hC0, hc0, hok0⟩ := open_C FB.k46 (fun x => x.f1 < 18446744073709551616) Tryz.underlying22 (by kernel_rfl) (fun n cs y hy => by
    obtain ⟨a, b, c, rfl, hb, _, _⟩ := trod_ifi Tryz.underlying46 Tryz.underlying3 Tryz.underlying33 rfl rfl rfl rfl rfl rfl (by kernel_rfl) (by kernel_rfl) (by kernel_rfl) hy
    exact ⟨⟨a, b, c⟩, FB.k46_mk W ⟨a, b, c⟩, hb⟩) h0
  subst hl0
  clear hA0 hval0 hsz0 hsz
  refine (flowNets_walk A0 cap0 xs0 W hC0 hc0 hok0 y0).mono fun e W' ⟨he, bel⟩ => ?_
  subst he
  exact ⟨_, rfl, _, _, _, [], _, [], hW', trodAll_mk1 (shut_bool Tryz.underlying4 _), (trodAll_cons_mk (Below.trod flowNets_laidOut (by kernel_rfl) (of_decide_eq_true (by kernel_rfl)) k0 bel lt0) trodAll_mk0), rfl, bel.frame _, fun h => by cases h⟩

theorem flowNets_holds : Rows.FlowNetsSaid :=
  OpenClaim.holds_of_wide 3 Tryz.f3 rfl rfl rfl rfl rfl rfl rfl ⟨rfl, rfl, rfl, rfl, rfl⟩ rfl rfl rfl rfl rfl (by kernel_rfl) Tryz.func3 (by kernel_rfl)
    (of_decide_eq_true (by kernel_rfl)) (by unfold Func.isWrapper; first | (rw [if_pos (by decide +kernel)]; kernel_rfl) | (rw [if_neg (by decide +kernel)]; exact ⟨rfl, rfl⟩))
    (fun os started H enc _ => flowNets_lifted os started H enc)
#print axioms flowNets_holds
end Go.Proofs.YtepcegiciecogaaGreat
