/- IeeeSplits, at every float, every whole number and every power: the law answers true, and its input stays. No condition. -/
import Derived.Test.YtfmbhfnigneenaaRows
import Derived.WalkKit
import Derived.ProofKit
import Derived.OpenShut
import Derived.Laws.Cover2
import Derived.Test.YtfmbhfnigneenaaAw
import Derived.Test.YtfmbhfnigneenaaA3
import Derived.Test.YtfmbhfnigneenaaSpl
import Derived.Test.YtfmbhfnigneenaaRefSSplit
import Derived.Test.YtfmbhfnigneenaaRefNJoin
import Derived.Lib.Hide
import Derived.WalkSpells
import Derived.WalkLawsBesides
import Derived.Deep.QuietTactic
import Derived.BigQuiet
namespace Go.Proofs.Ytfmbhfnigneenaa
open Go.ChangeShapes Go.WideShapes Go.ChangeAt Go.RowKit

theorem float_lt {b : Nat} (h : (Lit.float .f64 b).wf = true) : b < 18446744073709551616 := by simpa [Lit.wf] using h
theorem float32_lt {b : Nat} (h : (Lit.float .f32 b).wf = true) : b < 4294967296 := by simpa [Lit.wf] using h
theorem i64_bd {n : Int} (h : (Lit.int .i64 n).wf = true) : -9223372036854775808 ≤ n ∧ n < 9223372036854775808 := by
  simp [Lit.wf, IntKind.min, IntKind.max, IntKind.bits, IntKind.signed] at h; omega
theorem u64_bd {n : Int} (h : (Lit.int .u64 n).wf = true) : 0 ≤ n ∧ n < 18446744073709551616 := by
  simp [Lit.wf, IntKind.min, IntKind.max, IntKind.bits, IntKind.signed] at h; omega
open Go.Proofs.YtfmbhfnigneenaaW.PrintWords Tn in
theorem rsplit_c (a : Nat) (h : a < 18446744073709551616) (w : World) :
    Calls Try.prog 41 #[.int .u64 a] w fun e w' => e = .returned (.tuple #[.int .i64 (Tn.spm a), .int .i64 (Tn.spe a), .bool (Tn.fin a)]) ∧ Below w.heap.size w w' := by
  obtain ⟨k, hk⟩ := (PSplit.split_ev h).rounds
  exact PSplit.tenorref1_Split.calls k _ _ _ _ w hk
open Go.Proofs.YtfmbhfnigneenaaW.PrintWords Tn in
theorem rjoin_c (m x : Int) (h0 : -9223372036854775808 ≤ m) (h1 : m < 9223372036854775808) (w : World) :
    Calls Try.prog 43 #[.int .i64 m, .int .i64 x] w fun e w' => e = .returned (.int .u64 (Tn.jn m x : Nat)) ∧ Below w.heap.size w w' := by
  obtain ⟨k, hk⟩ := (PJoin.join_ev (e := x) h0 h1).rounds
  exact PJoin.tenorref1_Join.calls k _ _ _ w hk
theorem jn_lt (m x : Int) : Tn.jn m x < 18446744073709551616 := by
  have := Tn.nr_le m.natAbs x
  unfold Tn.jn; split <;> omega

set_option maxRecDepth 100000 in
set_option maxHeartbeats 400000 in
theorem splits_walk (a : Nat) (m x : Int) (h : a < 18446744073709551616) (h0 : -9223372036854775808 ≤ m) (h1 : m < 9223372036854775808) (w : World) :
    Calls Try.prog 9 #[.float .f64 a, .int .i64 m, .int .i64 x] w fun e w' => e = .returned (.bool true) ∧ Below w.heap.size w w' := by
  have HM := Lib.hid (And.intro h0 h1)
  have HJ := Lib.hid (jn_lt m x)
  have e1 := Tn.same_refl (Tn.jn m x)
  have H := Lib.hid h; clear h h0 h1
  go_enter Try.func9, Try.ntmps9
  go_wp2_with (first | (go_at_call 14; refine (bits_any _ _).mono ?_; rintro e w' ⟨rfl, rfl⟩) | (go_at_call 40; refine (split_any _ H.out _).mono ?_; rintro e w' ⟨rfl, rfl⟩) | (go_at_call 41; refine (rsplit_c _ H.out _).mono ?_; rintro e w' ⟨rfl, hb1⟩) | (go_at_call 42; refine (join_any _ _ HM.out.1 HM.out.2 _).mono ?_; rintro e w' ⟨rfl, ⟨nj, rfl⟩⟩) | (go_at_call 43; refine (rjoin_c _ _ HM.out.1 HM.out.2 _).mono ?_; rintro e w' ⟨rfl, hb2⟩) | (go_at_call 17; refine (is_any _ _ HJ.out HJ.out _).mono ?_; rintro e w' ⟨rfl, rfl⟩) | (go_at_call 18; refine (awake_any _).mono ?_; rintro e w' ⟨rfl, ⟨na, rfl⟩⟩))
  go_ret
  exact ⟨rfl, below_drewN (Go.Proofs.YtfmbhfnigneenaaW.PrintWords.below_then (below_drewN hb1 _) hb1.size hb2) _⟩

theorem ieeeSplits_own : ownKnob Try.prog.godebug = none := by kernel_rfl
theorem ieeeSplits_laidOut : laidOutB Try.prog = true := by kernel_rfl

set_option maxRecDepth 100000 in
theorem ieeeSplits_lifted (os : Os) (started : os.Started) (H : Type) (enc : TypeId × Value → H) :
    ReturnsInHanded {} Try.checked os 9 .any (Rows.ieeeSplitsSpec.pre6 enc Try.prog Try.f9 Rows.ieeeSplitsRow.domain false) (Rows.ieeeSplitsSpec.post enc Try.prog Try.f9 false true false false) := by
  refine returnsInHanded_of_change (C := Try.checked) ieeeSplits_own started (by kernel_rfl) Try.func9
    (ChangeSpec.witness6 (enc := enc) (C := Try.checked) false ⟨#[], #[.float .f64 0, .int .i64 0, .int .i64 0], []⟩ 8 (by kernel_rfl) (by kernel_rfl) (by kernel_rfl) (by kernel_rfl)) ?_
  intro W base args ds gs before hval0 hW hcnd _
  have hval : ∀ (j : Nat) t v, Try.f9.params[j]? = some t → args[j]? = some v → Value.okWide Try.prog W .any base t v := hval0
  have hW' := hW
  obtain ⟨p, q, hA0, hV, rfl, hfz, hnd⟩ := hW
  have hA : DataW.TrodAll enc Try.prog W 0 (fun _ => true) true Try.f9.params.toList args.toList ds p := hA0
  rw [Try.params9] at hA hval
  obtain ⟨v0, vs0, d0, ds0, p0, q0, hargs, rfl, rfl, h0, r0⟩ := trodAll_cons hA
  obtain ⟨v1, vs1, d1, ds1, p1, q1, rfl, rfl, rfl, h1, r1⟩ := trodAll_cons r0
  obtain ⟨v2, vs2, d2, ds2, p2, q2, rfl, rfl, rfl, h2, r2⟩ := trodAll_cons r1
  obtain ⟨rfl, rfl, rfl⟩ := trodAll_nil r2
  obtain rfl : args = #[v0, v1, v2] := by cases args; simp_all
  obtain ⟨rfl, rfl⟩ := trodVars_none hV
  obtain ⟨a0, rfl, rfl, rfl, w0⟩ := open_float Try.underlying22 (hval 0 22 v0 rfl rfl) h0
  obtain ⟨a1, rfl, rfl, rfl, w1⟩ := open_int Try.underlying3 (hval 1 3 v1 rfl rfl) h1
  obtain ⟨a2, rfl, rfl, rfl, w2⟩ := open_int Try.underlying3 (hval 2 3 v2 rfl rfl) h2
  clear hA0 hval0
  refine (splits_walk a0 a1 a2 (float_lt w0) (i64_bd w1).1 (i64_bd w1).2 W).mono fun e W' ⟨he, bel⟩ => ?_
  subst he
  exact ⟨_, rfl, _, _, _, [], _, [], hW', trodAll_mk1 (shut_bool Try.underlying4 _), (trodAll_cons_mk (shut_float Try.underlying22 w0) (trodAll_cons_mk (shut_int Try.underlying3 w1) (trodAll_cons_mk (shut_int Try.underlying3 w2) trodAll_mk0))), rfl, bel.frame _, fun h => by cases h⟩

theorem ieeeSplits_holds : Rows.IeeeSplitsSaid :=
  OpenClaim.holds_of_wide 9 Try.f9 rfl rfl rfl rfl rfl rfl rfl ⟨rfl, rfl, rfl, rfl, rfl⟩ rfl rfl rfl rfl rfl (by kernel_rfl) Try.func9 (by kernel_rfl)
    (of_decide_eq_true (by kernel_rfl)) (by unfold Func.isWrapper; first | (rw [if_pos (by decide +kernel)]; kernel_rfl) | (rw [if_neg (by decide +kernel)]; exact ⟨rfl, rfl⟩))
    (fun os started H enc _ => ieeeSplits_lifted os started H enc)
#print axioms ieeeSplits_holds
end Go.Proofs.Ytfmbhfnigneenaa
