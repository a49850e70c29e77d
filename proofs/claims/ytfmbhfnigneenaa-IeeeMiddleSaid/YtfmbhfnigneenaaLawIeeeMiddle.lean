/- IeeeMiddle, at any two floats and any way: the law answers true, and its input stays. No condition. -/
import Derived.Test.YtfmbhfnigneenaaRows
import Derived.WalkKit
import Derived.ProofKit
import Derived.OpenShut
import Derived.Laws.Cover2
import Derived.Test.YtfmbhfnigneenaaAw
import Derived.Test.YtfmbhfnigneenaaA3
import Derived.Test.YtfmbhfnigneenaaSpl
import Derived.Lib.Hide
import Derived.WalkSpells
import Derived.WalkLawsBesides
import Derived.Deep.QuietTactic
import Derived.BigQuiet
namespace Go.Proofs.Ytfmbhfnigneenaa
open Go.ChangeShapes Go.WideShapes Go.ChangeAt Go.RowKit

theorem float_lt {b : Nat} (h : (Lit.float .f64 b).wf = true) : b < 18446744073709551616 := by simpa [Lit.wf] using h
theorem float32_lt {b : Nat} (h : (Lit.float .f32 b).wf = true) : b < 4294967296 := by simpa [Lit.wf] using h
theorem i64_bd {n : Int} (h : (Lit.int .i64 n).wf = true) : -9223372036854775808 ≤ n ∧ n < 9223372036854775808 := by
  simp [Lit.wf, IntKind.min, IntKind.max, IntKind.bits, IntKind.signed] at h; omega
theorem u64_bd {n : Int} (h : (Lit.int .u64 n).wf = true) : 0 ≤ n ∧ n < 18446744073709551616 := by
  simp [Lit.wf, IntKind.min, IntKind.max, IntKind.bits, IntKind.signed] at h; omega
set_option maxRecDepth 100000 in
set_option maxHeartbeats 400000 in
theorem middle_walk (a b : Nat) (v : Nat) (h : a < 18446744073709551616) (h' : b < 18446744073709551616) (hv : v < 18446744073709551616) (w : World)  :
    Calls Try.prog 4 #[.float .f64 a, .float .f64 b, .int .u64 v] w fun e w' => e = .returned (.bool true) ∧ Below w.heap.size w w' := by
  have H := Lib.hid h; clear h
  have H' := Lib.hid h'; clear h'
  have HV := Lib.hid hv; clear hv
  cases ho : Tn.ok a
  · go_enter Try.func4, Try.ntmps4
    go_wp2_with (first | (go_at_call 12; refine (rank_any _ (by first | exact H.out | exact H'.out) _).mono ?_; rintro e w' ⟨rfl, rfl⟩) | (go_at_call 18; refine (awake_any _).mono ?_; rintro e w' ⟨rfl, ⟨na, rfl⟩⟩))
    go_ret
    exact ⟨rfl, below_drewN (Below.refl _ _) _⟩
  · cases ho2 : Tn.ok b
    · go_enter Try.func4, Try.ntmps4
      go_wp2_with (first | (go_at_call 12; refine (rank_any _ (by first | exact H.out | exact H'.out) _).mono ?_; rintro e w' ⟨rfl, rfl⟩) | (go_at_call 18; refine (awake_any _).mono ?_; rintro e w' ⟨rfl, ⟨na, rfl⟩⟩))
      go_ret
      exact ⟨rfl, below_drewN (Below.refl _ _) _⟩
    · by_cases hlt : Tn.rank b ≤ Tn.rank a
      · go_enter Try.func4, Try.ntmps4
        go_wp2_with (first | (go_at_call 12; refine (rank_any _ (by first | exact H.out | exact H'.out) _).mono ?_; rintro e w' ⟨rfl, rfl⟩) | (go_at_call 18; refine (awake_any _).mono ?_; rintro e w' ⟨rfl, ⟨na, rfl⟩⟩))
        go_ret
        exact ⟨rfl, below_drewN (Below.refl _ _) _⟩
      · have HS := Lib.hid (Tn.mids_start H.out H'.out ho ho2 (by omega))
        go_enter Try.func4, Try.ntmps4
        go_wp2_with (first | (go_at_call 12; refine (rank_any _ (by first | exact H.out | exact H'.out) _).mono ?_; rintro e w' ⟨rfl, rfl⟩) | (go_at_call 18; refine (awake_any _).mono ?_; rintro e w' ⟨rfl, ⟨na, rfl⟩⟩))
        go_loop [0, 1, 7, 9, 11] (fun x y n m i => ∃ (c d k : Nat), x = .float .f64 c ∧ y = .float .f64 d ∧ n = .int .i64 (Tn.rank c) ∧ m = .int .i64 (Tn.rank d) ∧ i = .int .i64 k ∧ k ≤ 64 ∧ RowKit.Hid (Tn.Mids c d k)) (fun _ _ _ _ i => 64 - (intOf i).toNat)
        case atStart => exact ⟨a, b, 0, rfl, rfl, rfl, rfl, rfl, by omega, HS⟩
        case round =>
          obtain ⟨c, d, k, rfl, rfl, rfl, rfl, rfl, hk, HI⟩ := hrel
          obtain ⟨z1, z2, z3, z4, z5⟩ := Tn.mids_mid HI.out
          have HZ := Lib.hid z1
          have HC := Lib.hid HI.out.1
          have HD := Lib.hid HI.out.2.1
          have oc := HI.out.2.2.1
          have od := HI.out.2.2.2.1
          clear z1

          by_cases hk64 : k < 64
          · by_cases hm : Tn.midr c d = Tn.rank c
            · have b1 : (Tn.rank d == Tn.rank c + 1) = true := beq_iff_eq.2 (by unfold Tn.midr at hm; omega)
              have b0 : (Tn.midr c d == Tn.rank c) = true := beq_iff_eq.2 hm
              have hw : wrap64 (Tn.rank c + 1) = Tn.rank c + 1 := by have := Tn.rank_bd c; unfold wrap64; omega
              clear hm
              go_wp2_with (first | (go_at_call 19; refine (mid_any _ _ HC.out HD.out _).mono ?_; rintro e w' ⟨rfl, rfl⟩) | (go_at_call 12; refine (rank_any _ HZ.out _).mono ?_; rintro e w' ⟨rfl, rfl⟩) | (go_at_call 18; refine (awake_any _).mono ?_; rintro e w' ⟨rfl, ⟨na, rfl⟩⟩))
              go_ret
              exact ⟨rfl, below_drewN (Below.refl _ _) _⟩
            · have b1 : (Tn.midr c d == Tn.rank c) = false := beq_eq_false_iff_ne.2 hm
              have b2 : (Tn.midr c d == Tn.rank d) = false := beq_eq_false_iff_ne.2 (by omega)
              have HU := Lib.hid (Tn.mids_up HI.out hk64)
              have HW := Lib.hid (Tn.mids_down HI.out hk64 hm)
              obtain ⟨X, hX⟩ := Tn.way_bit (k := k) HV.out
              clear hm
              cases hb : (X == 1)
              · go_wp2_with (first | (go_at_call 19; refine (mid_any _ _ HC.out HD.out _).mono ?_; rintro e w' ⟨rfl, rfl⟩) | (go_at_call 12; refine (rank_any _ HZ.out _).mono ?_; rintro e w' ⟨rfl, rfl⟩) | (go_at_call 18; refine (awake_any _).mono ?_; rintro e w' ⟨rfl, ⟨na, rfl⟩⟩))
                go_round
                case rel => exact ⟨_, _, k + 1, rfl, rfl, rfl, by rw [z3], by go_num, by omega, HW⟩
                case measure => simp [intOf]; omega
              · go_wp2_with (first | (go_at_call 19; refine (mid_any _ _ HC.out HD.out _).mono ?_; rintro e w' ⟨rfl, rfl⟩) | (go_at_call 12; refine (rank_any _ HZ.out _).mono ?_; rintro e w' ⟨rfl, rfl⟩) | (go_at_call 18; refine (awake_any _).mono ?_; rintro e w' ⟨rfl, ⟨na, rfl⟩⟩))
                go_round
                case rel => exact ⟨_, _, k + 1, rfl, rfl, by rw [z3], rfl, by go_num, by omega, HU⟩
                case measure => simp [intOf]; omega
          · obtain rfl : k = 64 := by omega
            have hm := Tn.mids_end HI.out
            have b1 : (Tn.midr c d == Tn.rank c) = true := beq_iff_eq.2 hm
            clear hm
            go_wp2_with (first | (go_at_call 19; refine (mid_any _ _ HC.out HD.out _).mono ?_; rintro e w' ⟨rfl, rfl⟩) | (go_at_call 12; refine (rank_any _ HZ.out _).mono ?_; rintro e w' ⟨rfl, rfl⟩) | (go_at_call 18; refine (awake_any _).mono ?_; rintro e w' ⟨rfl, ⟨na, rfl⟩⟩))
            go_ret
            exact ⟨rfl, below_drewN (Below.refl _ _) _⟩


theorem ieeeMiddle_own : ownKnob Try.prog.godebug = none := by kernel_rfl
theorem ieeeMiddle_laidOut : laidOutB Try.prog = true := by kernel_rfl

set_option maxRecDepth 100000 in
theorem ieeeMiddle_lifted (os : Os) (started : os.Started) (H : Type) (enc : TypeId × Value → H) :
    ReturnsInHanded {} Try.checked os 4 .any (Rows.ieeeMiddleSpec.pre6 enc Try.prog Try.f4 Rows.ieeeMiddleRow.domain false) (Rows.ieeeMiddleSpec.post enc Try.prog Try.f4 false true false false) := by
  refine returnsInHanded_of_change (C := Try.checked) ieeeMiddle_own started (by kernel_rfl) Try.func4
    (ChangeSpec.witness6 (enc := enc) (C := Try.checked) false ⟨#[], #[.float .f64 0, .float .f64 0, .int .u64 0], []⟩ 8 (by kernel_rfl) (by kernel_rfl) (by kernel_rfl) (by kernel_rfl)) ?_
  intro W base args ds gs before hval0 hW hcnd _
  have hval : ∀ (j : Nat) t v, Try.f4.params[j]? = some t → args[j]? = some v → Value.okWide Try.prog W .any base t v := hval0
  have hW' := hW
  obtain ⟨p, q, hA0, hV, rfl, hfz, hnd⟩ := hW
  have hA : DataW.TrodAll enc Try.prog W 0 (fun _ => true) true Try.f4.params.toList args.toList ds p := hA0
  rw [Try.params4] at hA hval
  obtain ⟨v0, vs0, d0, ds0, p0, q0, hargs, rfl, rfl, h0, r0⟩ := trodAll_cons hA
  obtain ⟨v1, vs1, d1, ds1, p1, q1, rfl, rfl, rfl, h1, r1⟩ := trodAll_cons r0
  obtain ⟨v2, vs2, d2, ds2, p2, q2, rfl, rfl, rfl, h2, r2⟩ := trodAll_cons r1
  obtain ⟨rfl, rfl, rfl⟩ := trodAll_nil r2
  obtain rfl : args = #[v0, v1, v2] := by cases args; simp_all
  obtain ⟨rfl, rfl⟩ := trodVars_none hV
  obtain ⟨a0, rfl, rfl, rfl, w0⟩ := open_float Try.underlying22 (hval 0 22 v0 rfl rfl) h0
  obtain ⟨a1, rfl, rfl, rfl, w1⟩ := open_float Try.underlying22 (hval 1 22 v1 rfl rfl) h1
  obtain ⟨a2, rfl, rfl, rfl, w2⟩ := open_int Try.underlying26 (hval 2 26 v2 rfl rfl) h2
  obtain ⟨u2, hu2⟩ : ∃ n : Nat, a2 = (n : Int) := ⟨a2.toNat, by have := u64_bd w2; omega⟩
  subst hu2
  clear hA0 hval0
  refine (middle_walk a0 a1 u2 (float_lt w0) (float_lt w1) (by have := u64_bd w2; omega) W).mono fun e W' ⟨he, bel⟩ => ?_
  subst he
  exact ⟨_, rfl, _, _, _, [], _, [], hW', trodAll_mk1 (shut_bool Try.underlying4 _), (trodAll_cons_mk (shut_float Try.underlying22 w0) (trodAll_cons_mk (shut_float Try.underlying22 w1) (trodAll_cons_mk (shut_int Try.underlying26 w2) trodAll_mk0))), rfl, bel.frame _, fun h => by cases h⟩

theorem ieeeMiddle_holds : Rows.IeeeMiddleSaid :=
  OpenClaim.holds_of_wide 4 Try.f4 rfl rfl rfl rfl rfl rfl rfl ⟨rfl, rfl, rfl, rfl, rfl⟩ rfl rfl rfl rfl rfl (by kernel_rfl) Try.func4 (by kernel_rfl)
    (of_decide_eq_true (by kernel_rfl)) (by unfold Func.isWrapper; first | (rw [if_pos (by decide +kernel)]; kernel_rfl) | (rw [if_neg (by decide +kernel)]; exact ⟨rfl, rfl⟩))
    (fun os started H enc _ => ieeeMiddle_lifted os started H enc)
#print axioms ieeeMiddle_holds
end Go.Proofs.Ytfmbhfnigneenaa
