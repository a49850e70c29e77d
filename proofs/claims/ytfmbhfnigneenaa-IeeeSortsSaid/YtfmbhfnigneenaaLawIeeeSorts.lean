/- IeeeSorts, at every list and any two floats: the law answers true, and its input stays. No condition. -/
import Derived.Test.YtfmbhfnigneenaaRows
import Derived.WalkKit
import Derived.ProofKit
import Derived.OpenShut
import Derived.Laws.Cover2
import Derived.Test.YtfmbhfnigneenaaSrt
import Derived.Test.YtfmbhfnigneenaaOpn
import Derived.Lib.Hide
namespace Go.Proofs.Ytfmbhfnigneenaa
open Go.ChangeShapes Go.WideShapes Go.ChangeAt Go.RowKit Go.Proofs.YtfmbhfnigneenaaW.PrintWords

theorem float_lt {b : Nat} (h : (Lit.float .f64 b).wf = true) : b < 18446744073709551616 := by simpa [Lit.wf] using h
theorem float32_lt {b : Nat} (h : (Lit.float .f32 b).wf = true) : b < 4294967296 := by simpa [Lit.wf] using h
theorem i64_bd {n : Int} (h : (Lit.int .i64 n).wf = true) : -9223372036854775808 ≤ n ∧ n < 9223372036854775808 := by
  simp [Lit.wf, IntKind.min, IntKind.max, IntKind.bits, IntKind.signed] at h; omega
theorem u64_bd {n : Int} (h : (Lit.int .u64 n).wf = true) : 0 ≤ n ∧ n < 18446744073709551616 := by
  simp [Lit.wf, IntKind.min, IntKind.max, IntKind.bits, IntKind.signed] at h; omega

theorem sorts_walk (A : Option Addr) (c : Nat) (l : List Nat) (a b : Nat) (w : World) (hr : Kd.C Kd.flt w A l.length l) (hc : l.length ≤ c) (hw : ∀ x ∈ l, x < 18446744073709551616) (ha : a < 18446744073709551616) (hb : b < 18446744073709551616) :
    Calls Try.prog 11 #[.slice A l.length c, .float .f64 a, .float .f64 b] w fun e w' => e = .returned (.bool true) ∧ Below w.heap.size w w' := by
  rcases Nat.lt_or_ge 200 l.length with h | h
  · obtain ⟨k, hk⟩ := FSorts1.law l hw a b ha hb h
    exact FSorts1.tenorlaw1_IeeeSorts.calls k A c l a b true w hr hc hk
  · obtain ⟨k, hk⟩ := FSorts0.law l hw a b ha hb h
    exact FSorts0.tenorlaw1_IeeeSorts.calls k A c l a b true w hr hc hk

theorem ieeeSorts_own : ownKnob Try.prog.godebug = none := by kernel_rfl
theorem ieeeSorts_laidOut : laidOutB Try.prog = true := by kernel_rfl

set_option maxRecDepth 100000 in
theorem ieeeSorts_lifted (os : Os) (started : os.Started) (H : Type) (enc : TypeId × Value → H) :
    ReturnsInHanded {} Try.checked os 11 .any (Rows.ieeeSortsSpec.pre6 enc Try.prog Try.f11 Rows.ieeeSortsRow.domain false) (Rows.ieeeSortsSpec.post enc Try.prog Try.f11 false true false false) := by
  refine returnsInHanded_of_change (C := Try.checked) ieeeSorts_own started (by kernel_rfl) Try.func11
    (ChangeSpec.witness6 (enc := enc) (C := Try.checked) false ⟨#[], #[.slice none 0 0, .float .f64 0, .float .f64 0], []⟩ 8 (by kernel_rfl) (by kernel_rfl) (by kernel_rfl) (by kernel_rfl)) ?_
  intro W base args ds gs before hval0 hW hcnd _
  have hval : ∀ (j : Nat) t v, Try.f11.params[j]? = some t → args[j]? = some v → Value.okWide Try.prog W .any base t v := hval0
  have hW' := hW
  obtain ⟨p, q, hA0, hV, rfl, hfz, hnd⟩ := hW
  have hA : DataW.TrodAll enc Try.prog W 0 (fun _ => true) true Try.f11.params.toList args.toList ds p := hA0
  rw [Try.params11] at hA hval
  obtain ⟨v0, vs0, d0, ds0, p0, q0, hargs, rfl, rfl, h0, r0⟩ := trodAll_cons hA
  obtain ⟨v1, vs1, d1, ds1, p1, q1, rfl, rfl, rfl, h1, r1⟩ := trodAll_cons r0
  obtain ⟨v2, vs2, d2, ds2, p2, q2, rfl, rfl, rfl, h2, r2⟩ := trodAll_cons r1
  obtain ⟨rfl, rfl, rfl⟩ := trodAll_nil r2
  obtain rfl : args = #[v0, v1, v2] := by cases args; simp_all
  obtain ⟨rfl, rfl⟩ := trodVars_none hV
  have k0 := h0
  have lt0 : ∀ x ∈ p0, x.block < W.heap.size := by obtain ⟨m, hm⟩ := k0; exact DataW.trod_lt m _ _ _ hm
  obtain ⟨A0, len0, cap0, rfl⟩ := Go.WideShapes.okWide_slice Try.underlying63 (hval 0 63 v0 rfl rfl)
  obtain ⟨xs0, hl0, hC0, hc0, hok0⟩ := open_C Kd.flt (fun x => x < 18446744073709551616) Try.underlying63 (by kernel_rfl) (fun n cs y hy => by
    obtain ⟨x, rfl, _, hx⟩ := trod_float Try.underlying22 hy
    exact ⟨x, rfl, float_lt hx⟩) h0
  subst hl0
  obtain ⟨a1, rfl, rfl, rfl, w1⟩ := open_float Try.underlying22 (hval 1 22 v1 rfl rfl) h1
  obtain ⟨a2, rfl, rfl, rfl, w2⟩ := open_float Try.underlying22 (hval 2 22 v2 rfl rfl) h2
  clear hA0 hval0
  refine (sorts_walk A0 cap0 xs0 a1 a2 W hC0 hc0 hok0 (float_lt w1) (float_lt w2)).mono fun e W' ⟨he, bel⟩ => ?_
  subst he
  exact ⟨_, rfl, _, _, _, [], _, [], hW', trodAll_mk1 (shut_bool Try.underlying4 _), (trodAll_cons_mk (Below.trod ieeeSorts_laidOut (by kernel_rfl) (of_decide_eq_true (by kernel_rfl)) k0 bel lt0) (trodAll_cons_mk (shut_float Try.underlying22 w1) (trodAll_cons_mk (shut_float Try.underlying22 w2) trodAll_mk0))), rfl, bel.frame _, fun h => by cases h⟩

theorem ieeeSorts_holds : Rows.IeeeSortsSaid :=
  OpenClaim.holds_of_wide 11 Try.f11 rfl rfl rfl rfl rfl rfl rfl ⟨rfl, rfl, rfl, rfl, rfl⟩ rfl rfl rfl rfl rfl (by kernel_rfl) Try.func11 (by kernel_rfl)
    (of_decide_eq_true (by kernel_rfl)) (by unfold Func.isWrapper; first | (rw [if_pos (by decide +kernel)]; kernel_rfl) | (rw [if_neg (by decide +kernel)]; exact ⟨rfl, rfl⟩))
    (fun os started H enc _ => ieeeSorts_lifted os started H enc)
#print axioms ieeeSorts_holds
end Go.Proofs.Ytfmbhfnigneenaa
