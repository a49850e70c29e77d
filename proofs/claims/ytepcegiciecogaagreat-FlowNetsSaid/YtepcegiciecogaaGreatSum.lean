/- The reference's exact sums (tenorref3), told in units: Add, Over, Value. No Go and no memory here. -/
import Derived.Test.YtepcegiciecogaaGreatFTx1
import Derived.Test.YtepcegiciecogaaGreatRefQ
import Derived.Test.YtepcegiciecogaaGreatEv
namespace Go.Proofs.YtepcegiciecogaaGreat.FT
open Go.RowKit Go.Proofs.YtepcegiciecogaaGreatW.PrintWords Go.Proofs.YtepcegiciecogaaGreatW.PrintLast Go.Proofs.YtepcegiciecogaaGreatW.PrintMore Go.Proofs.YtepcegiciecogaaGreat.FX Tn
open Go.Proofs.YtepcegiciecogaaGreat.EV Go.Proofs.YtepcegiciecogaaGreat.FR
set_option linter.unusedVariables false

theorem isnan_val {a : Nat} (h : a < 18446744073709551616) : tenorref1_IsNaN.f (a : Int) = some (nan a) := by
  unfold tenorref1_IsNaN.f; rw [andNot_sign a h]; exact congrArg some (nan_int a)
theorem isinf_val {a : Nat} (h : a < 18446744073709551616) : tenorref1_IsInf.f (a : Int) = some (isinf a) := by
  unfold tenorref1_IsInf.f; rw [andNot_sign a h]; exact congrArg some (isinf_int a)
theorem fin_isinf {a : Nat} (h : fin a = true) : isinf a = false := by
  unfold fin at h; unfold isinf
  have := of_decide_eq_true h
  exact decide_eq_false (by omega)
/-- a sum so far: a sign, a whole number, an exponent, worth so many units. -/
structure Sum (Z : Int) (s : Bool) (v : Nat) (e : Int) : Prop where
  worth : uv s v e = Z
  lo : -1074 ≤ e
  hi : e ≤ 971
theorem B_two (i : Nat) : B i = 2 ^ (32 * (2 * i)) := by unfold B; congr 1; omega
theorem Sum.len {Z : Int} {s : Bool} {v : Nat} {e : Int} (h : Sum Z s v e) (hZ : Z.natAbs < B 67) : (dg v).length ≤ 134 := by
  have h1 := uv_abs s v e
  rw [h.worth] at h1
  have hp := Nat.two_pow_pos (e + 2148).toNat
  have h2 : v * 1 ≤ v * 2 ^ (e + 2148).toNat := Nat.mul_le_mul_left _ hp
  have h3 : v < B 67 := by omega
  rw [B_two] at h3
  have := len_dg_le h3
  omega
theorem Sum.add {Z : Int} {s : Bool} {v : Nat} {e : Int} (h : Sum Z s v e) (hZ : Z.natAbs < B 67) {a : Nat} (ha : a < 18446744073709551616) (hf : fin a = true) :
    ∃ s' v' e', Sum (Z + units a) s' v' e' ∧ Evt (fun k => tenorref3_Add.f k 0 s (dg v) e (a : Int)) (0, s', dg v', e') := by
  have hl := h.len hZ
  have ho := ofV_len a
  obtain ⟨o1, o2⟩ := ofE_bd hf
  have hlo := h.lo
  have hhi := h.hi
  refine ⟨(plusN s v e (ofS a) (ofV a) (ofE a)).1, (plusN s v e (ofS a) (ofV a) (ofE a)).2.1, (plusN s v e (ofS a) (ofV a) (ofE a)).2.2, ⟨?_, ?_, ?_⟩, ?_⟩
  rotate_left 3
  · unfold tenorref3_Add.f
    refine Evt.after ((isnan_val ha).trans (congrArg some (nan_fin hf))) (Evt.ifF (by decide) ?_)
    refine Evt.after ((isinf_val ha).trans (congrArg some (fin_isinf hf))) (Evt.ifF (by decide) ?_)
    refine Evt.ifT rfl ?_
    refine Evt.bind (show Evt _ _ from of_ev ha) ?_
    refine Evt.bind (show Evt _ _ from plus_ev (s1 := s) (v1 := v) (e1 := e) (s2 := ofS a) (v2 := ofV a) (e2 := ofE a) (by omega) (by omega) (by omega) (by omega)) ?_
    exact Evt.const fun _ => rfl
  · rw [plusN_uv (by omega) (by omega), h.worth, uv_of hf]
  · exact (plusN_e (lo := -1074) (hi := 971) ⟨hlo, hhi⟩ ⟨o1, o2⟩ (by decide)).1
  · exact (plusN_e (lo := -1074) (hi := 971) ⟨hlo, hhi⟩ ⟨o1, o2⟩ (by decide)).2
theorem sgn_false {n : Nat} : decide (((n : Nat) : Int) < 0) = false := decide_eq_false (by omega)
theorem Sum.over {Z : Int} {s : Bool} {v : Nat} {e : Int} (h : Sum Z s v e) (hZ : Z.natAbs < B 67) {n : Nat} (hn : 1 ≤ n) (hn2 : n < 1073741824) :
    Evt (fun k => tenorref3_Over.f k 0 s (dg v) e (n : Int)) ((overV Z false false n : Nat) : Int) := by
  have hl := h.len hZ
  have hlo := h.lo
  have hhi := h.hi
  unfold tenorref3_Over.f
  refine Evt.ifF (by decide) (Evt.ifF (by decide) (Evt.ifF (by decide) ?_))
  by_cases c : n = 1
  · subst c
    refine Evt.ifT (by rfl) ?_
    have hb : bl v ≤ 32 * (dg v).length := bl_le_of (dg_lt v)
    refine Evt.bind (show Evt _ _ from near_ev (v := v) (by omega) (by omega) s (by omega) (by omega)) ?_
    rw [near_uv (by omega), h.worth]
    exact Evt.const fun _ => rfl
  · refine Evt.ifF (by omega) ?_
    have hwh := whole_ev (m := (n : Int)) (by omega) (by omega)
    rw [sgn_false, Int.natAbs_natCast] at hwh
    refine Evt.bind (show Evt _ _ from hwh) ?_
    have hln : (dg n).length ≤ 1 := len_dg_le (by omega)
    refine Evt.bind (show Evt _ _ from nearOver_ev (s := s) (v := v) (e := e) (n := n) (by omega) (by omega) (by omega) (by omega) false) ?_
    rw [over_uv (by omega) (by omega), h.worth]
    · exact Evt.const fun _ => rfl
    · by_cases c0 : v = 0
      · exact Or.inl c0
      · right
        have h1 : 2 ^ 30 ≤ 2 ^ (e + 2148).toNat := pow_le (by omega)
        have h2 : 1 * 2 ^ (e + 2148).toNat ≤ v * 2 ^ (e + 2148).toNat := Nat.mul_le_mul_right _ (by omega)
        have h3 : n < 2 ^ 30 := by rw [show (2 : Nat) ^ 30 = 1073741824 from rfl]; exact hn2
        have h4 : 1 ≤ v * 2 ^ (e + 2148).toNat / n := by
          rw [Nat.le_div_iff_mul_le (by omega)]; omega
        omega
theorem Sum.value {Z : Int} {s : Bool} {v : Nat} {e : Int} (h : Sum Z s v e) (hZ : Z.natAbs < B 67) :
    Evt (fun k => tenorref3_Value.f k 0 s (dg v) e) ((overV Z false false 1 : Nat) : Int) := by
  unfold tenorref3_Value.f
  exact Evt.bind (h.over hZ (n := 1) (by decide) (by decide)) (Evt.const fun _ => rfl)
theorem Sum.none : Sum 0 false 0 0 := ⟨by rw [uv_zero], by decide, by decide⟩
end Go.Proofs.YtepcegiciecogaaGreat.FT
