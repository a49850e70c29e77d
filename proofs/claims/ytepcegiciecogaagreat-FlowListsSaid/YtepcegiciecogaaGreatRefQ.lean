/- The reference's numbers: Of, Plus, Times, NearOver, told as whole numbers with an exponent. No Go and no memory here. -/
import Derived.Test.YtepcegiciecogaaGreatRefP
namespace Go.Proofs.YtepcegiciecogaaGreat.FR
open Go.RowKit Go.Proofs.YtepcegiciecogaaGreatW.PrintWords Go.Proofs.YtepcegiciecogaaGreatW.PrintLast Go.Proofs.YtepcegiciecogaaGreatW.PrintMore Tn

theorem len_zero {v : Nat} : ((dg v).length = 0) ↔ v = 0 := by
  constructor
  · intro h
    rcases Nat.eq_zero_or_pos v with h0 | h0
    · exact h0
    · rw [dg_pos (by omega)] at h; simp at h
  · rintro rfl; rw [dg_zero]; rfl
theorem zero_at (s : Bool) (v : Nat) (e : Int) : tenorref1_Zero.f s (dg v) e = some (decide (v = 0)) := by
  unfold tenorref1_Zero.f
  congr 1
  rw [Bool.eq_iff_iff, beq_iff_eq, decide_eq_true_iff, ← len_zero (v := v)]; omega
/-! ### Of -/
def ofS (a : Nat) : Bool := decide (mag a ≠ 0) && sgn a
def ofV (a : Nat) : Nat := dm (mag a)
def ofE (a : Nat) : Int := if mag a = 0 then 0 else dp (mag a)
theorem and_2047 {x : Nat} (hx : x < 18446744073709551616) : Go.bits .and .u64 (x : Int) 2047 = ((x % 2048 : Nat) : Int) := by
  have := and_low (x := x) (r := 11) hx (by decide)
  exact this
theorem dm_zero {r : Nat} : dm r = 0 ↔ r = 0 := by unfold dm; split <;> omega
theorem of_ev {a : Nat} (h : a < 18446744073709551616) : Ev (fun k => tenorref1_Of.f k (a : Int)) (ofS a, dg (ofV a), ofE a) := by
  have hm := mag_lt a
  have q1 : (a : Int) / 4503599627370496 = ((a / 4503599627370496 : Nat) : Int) := rfl
  have q2 : wrap64 (Go.bits .and .u64 ((a : Int) / 4503599627370496) 2047) = ((mag a / 4503599627370496 : Nat) : Int) := by
    rw [q1, and_2047 (by omega), wrap_nat (by omega)]
    congr 1
    unfold mag; omega
  have q3 : Go.bits .and .u64 (a : Int) 4503599627370495 = ((mag a % 4503599627370496 : Nat) : Int) := by
    rw [and_mant a h]; congr 1; unfold mag; omega
  have hs : decide (9223372036854775808 ≤ (a : Int)) = sgn a := sgn_int a
  have hl : mag a % 4503599627370496 < 4503599627370496 := Nat.mod_lt _ (by decide)
  unfold tenorref1_Of.f
  simp only [q2, q3, hs]
  by_cases c : ((mag a / 4503599627370496 : Nat) : Int) > 0
  · have hge : 4503599627370496 ≤ mag a := by omega
    have e1 : IntKind.u64.wrap (((mag a % 4503599627370496 : Nat) : Int) + 4503599627370496) = ((ofV a : Nat) : Int) := by
      unfold ofV dm
      rw [if_neg (by omega), wrapu_id (by omega) (by omega)]; omega
    have e2 : wrap64 (((mag a / 4503599627370496 : Nat) : Int) - 1075) = ofE a := by
      unfold ofE dp
      rw [if_neg (by omega), if_neg (by omega), wrap_id (by omega) (by omega)]
    have e3 : ofS a = sgn a := by unfold ofS; rw [decide_eq_true (by omega), Bool.true_and]
    have hv : ofV a ≠ 0 := fun h0 => by have := dm_zero.1 h0; omega
    have hv2 : ofV a < 18446744073709551616 := by unfold ofV dm; split <;> omega
    simp only [if_pos c, e1, e2, e3, if_neg (show ¬ ((ofV a : Nat) : Int) = 0 by omega)]
    exact Ev.bind (digits_ev hv2) (Ev.now _)
  · have hlt : mag a < 4503599627370496 := by omega
    simp only [if_neg c]
    have e1 : mag a % 4503599627370496 = ofV a := by unfold ofV dm; rw [if_pos hlt]; omega
    rw [e1]
    by_cases c0 : mag a = 0
    · have h0 : ofV a = 0 := dm_zero.2 c0
      simp only [h0, if_pos (show ((0 : Nat) : Int) = 0 from rfl)]
      have e2 : ofE a = 0 := by unfold ofE; rw [if_pos c0]
      have e3 : ofS a = false := by unfold ofS; rw [decide_eq_false (by omega), Bool.false_and]
      rw [e2, e3, dg_zero]; exact Ev.now _
    · have hv : ofV a ≠ 0 := fun h0 => c0 (dm_zero.1 h0)
      have hv2 : ofV a < 18446744073709551616 := by unfold ofV dm; split <;> omega
      have e2 : ofE a = -1074 := by unfold ofE dp; rw [if_neg c0, if_pos hlt]
      have e3 : ofS a = sgn a := by unfold ofS; rw [decide_eq_true (by omega), Bool.true_and]
      simp only [if_neg (show ¬ ((ofV a : Nat) : Int) = 0 by omega), e2, e3]
      exact Ev.bind (digits_ev hv2) (Ev.now _)
theorem ofE_bd {a : Nat} (hf : fin a = true) : -1074 ≤ ofE a ∧ ofE a ≤ 971 := by
  unfold fin at hf
  have := of_decide_eq_true hf
  unfold ofE dp
  split
  · omega
  · split <;> omega
theorem ofV_len (a : Nat) : (dg (ofV a)).length ≤ 2 := len_dg_le (by unfold ofV dm; split <;> omega)
/-! ### a sum -/
/-! ### what a sum is worth, in units -/
/-! ### what is nearest -/
/-! ### a product -/
theorem times_ev {s1 : Bool} {v1 : Nat} {e1 : Int} {s2 : Bool} {v2 : Nat} {e2 : Int} (hl1 : (dg v1).length < 1000000) (hl2 : (dg v2).length < 1000000) (hb1 : -16000000 ≤ e1 ∧ e1 ≤ 16000000) (hb2 : -16000000 ≤ e2 ∧ e2 ≤ 16000000) :
    Ev (fun k => tenorref1_Times.f k s1 (dg v1) e1 s2 (dg v2) e2) (if v1 = 0 ∨ v2 = 0 then (false, [], 0) else (s1 != s2, dg (v1 * v2), e1 + e2)) := by
  unfold tenorref1_Times.f
  rw [zero_at, zero_at]
  simp only [Option.bind_some, decide_eq_true_iff]
  by_cases c : v1 = 0
  · simp only [if_pos c, if_pos (show v1 = 0 ∨ v2 = 0 from Or.inl c)]; exact Ev.now _
  · by_cases c2 : v2 = 0
    · simp only [if_neg c, if_pos c2, if_pos (show v1 = 0 ∨ v2 = 0 from Or.inr c2)]; exact Ev.now _
    · simp only [if_neg c, if_neg c2, if_neg (show ¬ (v1 = 0 ∨ v2 = 0) from fun h => h.elim c c2), wrap_id (x := e1 + e2) (by omega) (by omega)]
      exact Ev.bind (mul_ev (by omega) (by omega)) (Ev.now _)
end Go.Proofs.YtepcegiciecogaaGreat.FR
