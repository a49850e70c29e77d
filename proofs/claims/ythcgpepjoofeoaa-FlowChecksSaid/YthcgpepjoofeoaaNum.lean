/- Plain laws on the bits of floats: no program in sight. -/
import Derived.Laws.Bits64b
import Derived.Laws.BitsAllLaws
import Derived.Laws.FloatArith
import Derived.RowKit
import Derived.WalkArith
import Derived.Test.YthcgpepjoofeoaaBit
namespace Tn
open Go Go.RowKit

/-- a float's bits without its sign. -/
def mag (b : Nat) : Nat := b % 9223372036854775808
/-- is the sign bit set? -/
def sgn (b : Nat) : Bool := decide (9223372036854775808 ≤ b)
def nan (b : Nat) : Bool := decide (9218868437227405312 < mag b)
def ok (b : Nat) : Bool := !nan b
def cls (b : Nat) : Int :=
  if mag b = 0 then 1 else if mag b < 4503599627370496 then 2 else if mag b < 9218868437227405312 then 3 else if mag b = 9218868437227405312 then 4 else 5
def neg (b : Nat) : Bool := ok b && sgn b
/-- the place among numbers and infinities; 0 of a NaN. -/
def rank (b : Nat) : Int := if nan b = true then 0 else if sgn b = true then -(mag b : Int) else (mag b : Int)
def atok (n : Int) : Bool := decide (-9218868437227405312 ≤ n) && decide (n ≤ 9218868437227405312)
def att (n : Int) : Nat := if atok n = true then (if n < 0 then (-n).toNat + 9223372036854775808 else n.toNat) else 0
def same (a b : Nat) : Bool := (a == b) || (nan a && nan b)
/-- so many ranks on, or where it was. -/
def step (b : Nat) (d : Int) : Nat := if nan b = true then b else if atok (rank b + d) = true then att (rank b + d) else b
def midr (a b : Nat) : Int := (rank a + rank b) / 2
def gap (a b : Nat) : Nat := (rank a - rank b).natAbs

theorem mag_lt (b : Nat) : mag b < 9223372036854775808 := Nat.mod_lt _ (by decide)
theorem ok_nan (b : Nat) : ok b = !nan b := rfl
theorem andNot_sign (b : Nat) (h : b < 18446744073709551616) : bits .andNot .u64 (b : Int) 9223372036854775808 = (mag b : Int) := by
  have h1 := u64_andNot_nat b 9223372036854775808 h (by decide)
  rw [show ((9223372036854775808 : Nat) : Int) = (9223372036854775808 : Int) from rfl] at h1
  rw [h1]
  have := Nat.and_two_pow_sub_one_eq_mod b 63
  unfold mag
  rw [show (18446744073709551615 - 9223372036854775808 : Nat) = 2 ^ 63 - 1 from by decide, this]
theorem sgn_div (b : Nat) (h : b < 18446744073709551616) : sgn b = (((b : Int) / 9223372036854775808) == 1) := by
  unfold sgn
  rw [Bool.eq_iff_iff, decide_eq_true_iff, beq_iff_eq]
  omega
theorem cls_nan (b : Nat) : (cls b = 5) = (nan b = true) := by
  unfold cls nan
  rw [decide_eq_true_iff]
  refine propext ⟨fun h => ?_, fun h => ?_⟩
  · have := mag_lt b
    split at h
    · omega
    · split at h
      · omega
      · split at h
        · omega
        · split at h <;> omega
  · rw [if_neg (by omega), if_neg (by omega), if_neg (by omega), if_neg (by omega)]
theorem cls_eq5 {b : Nat} {x : Bool} (h : nan b = x) : (cls b == 5) = x := by
  rw [Bool.eq_iff_iff, beq_iff_eq, cls_nan, h]
theorem cls_ne5 {b : Nat} {x : Bool} (h : nan b = x) : (cls b != 5) = !x := by
  rw [bne, cls_eq5 h]
theorem wrap_mag (a : Nat) : wrap64 (mag a : Int) = (mag a : Int) := by
  have := mag_lt a
  unfold wrap64; omega
theorem wrap_nmag (a : Nat) : wrap64 (-(wrap64 (mag a : Int))) = -(mag a : Int) := by
  rw [wrap_mag]
  have := mag_lt a
  unfold wrap64; omega
theorem mag_le_inf {a : Nat} (h : nan a = false) : mag a ≤ 9218868437227405312 := by
  unfold nan at h; have := of_decide_eq_false h; omega
theorem rank_bd (a : Nat) : -9218868437227405312 ≤ rank a ∧ rank a ≤ 9218868437227405312 := by
  unfold rank
  split
  · omega
  · rename_i h
    have := mag_le_inf (a := a) (by simpa using h)
    split <;> omega
theorem rank_nan {a : Nat} (h : nan a = true) : rank a = 0 := by unfold rank; rw [if_pos h]
theorem neg_nan {a : Nat} (h : nan a = true) : neg a = false := by unfold neg; rw [ok_nan, h]; rfl
theorem neg_ok {a : Nat} (h : nan a = false) : neg a = sgn a := by unfold neg; rw [ok_nan, h]; rfl
theorem rank_neg {a : Nat} (h : nan a = false) (h2 : neg a = true) : rank a = -(mag a : Int) := by
  rw [neg_ok h] at h2; unfold rank; rw [h, if_neg (by decide), if_pos h2]
theorem rank_pos {a : Nat} (h : nan a = false) (h2 : neg a = false) : rank a = (mag a : Int) := by
  rw [neg_ok h] at h2; unfold rank; rw [h, h2, if_neg (by decide), if_neg (by decide)]
theorem mag_sgn {a : Nat} (ha : a < 18446744073709551616) (h : sgn a = true) : (a : Int) = mag a + 9223372036854775808 := by
  unfold sgn at h; have := of_decide_eq_true h; unfold mag; omega
theorem mag_pos {a : Nat} (h : sgn a = false) : (a : Int) = mag a := by
  unfold sgn at h; have := of_decide_eq_false h; unfold mag; omega
theorem att_low (n : Int) (h : n < -9218868437227405312) : att n = 0 ∧ atok n = false := by
  have e : atok n = false := by unfold atok; rw [decide_eq_false (by omega)]; rfl
  exact ⟨by unfold att; rw [e]; rfl, e⟩
theorem att_high (n : Int) (h : 9218868437227405312 < n) : att n = 0 ∧ atok n = false := by
  have e : atok n = false := by unfold atok; rw [decide_eq_false (show ¬ n ≤ _ by omega), Bool.and_false]
  exact ⟨by unfold att; rw [e]; rfl, e⟩
theorem att_in (n : Int) (h1 : -9218868437227405312 ≤ n) (h2 : n ≤ 9218868437227405312) : atok n = true := by
  unfold atok; rw [decide_eq_true h1, decide_eq_true h2]; rfl
theorem att_neg (n : Int) (h1 : -9218868437227405312 ≤ n) (h3 : n < 0) : (bits .or .u64 (-n) 9223372036854775808).toNat = att n ∧ atok n = true := by
  have e := att_in n h1 (by omega)
  refine ⟨?_, e⟩
  unfold att; rw [e, if_pos rfl, if_pos h3]
  obtain ⟨m, hm⟩ : ∃ m : Nat, -n = (m : Int) := ⟨(-n).toNat, by omega⟩
  have h1 := u64_or_nat m 9223372036854775808 (by omega) (by decide)
  rw [show ((9223372036854775808 : Nat) : Int) = (9223372036854775808 : Int) from rfl] at h1
  rw [hm, h1, Nat.or_comm, nat_join 63 _ _ (by decide) (by omega)]
  omega
theorem att_add (n : Int) (h1 : -9218868437227405312 ≤ n) (h3 : n < 0) : 9223372036854775808 + (-n) = (att n : Int) ∧ atok n = true := by
  have e := att_in n h1 (by omega)
  refine ⟨?_, e⟩
  unfold att; rw [e, if_pos rfl, if_pos h3]; omega
theorem att_pos (n : Int) (h1 : 0 ≤ n) (h2 : n ≤ 9218868437227405312) : n.toNat = att n ∧ atok n = true := by
  have e := att_in n (by omega) h2
  exact ⟨by unfold att; rw [e, if_pos rfl, if_neg (by omega)], e⟩
theorem att_lt (n : Int) : att n < 18446744073709551616 := by
  unfold att; split
  · rename_i h; unfold atok at h; simp at h; split <;> omega
  · decide
theorem step_nan {b : Nat} {d : Int} (h : nan b = true) : step b d = b := by unfold step; rw [if_pos h]
theorem step_in {b : Nat} {d : Int} (h : nan b = false) (h2 : atok (rank b + d) = true) : step b d = att (rank b + d) := by
  unfold step; rw [h, if_neg (by decide), if_pos h2]
theorem step_out {b : Nat} {d : Int} (h : nan b = false) (h2 : atok (rank b + d) = false) : step b d = b := by
  unfold step; rw [h, h2, if_neg (by decide), if_neg (by decide)]
theorem same_comm_nan {a b : Nat} (h : nan a = true) : same a b = nan b := by
  unfold same; rw [h, Bool.true_and]
  cases e : nan b
  · rw [Bool.or_false]; cases h2 : a == b
    · rfl
    · rw [beq_iff_eq] at h2; subst h2; rw [h] at e; cases e
  · rw [Bool.or_true]
theorem same_ok {a b : Nat} (h : nan a = false) : same a b = (a == b) := by unfold same; rw [h]; simp
theorem gap_lt {a b : Nat} (h : rank a < rank b) : IntKind.u64.wrap (IntKind.u64.wrap (rank b) - IntKind.u64.wrap (rank a)) = (gap a b : Int) := by
  have ha := rank_bd a
  have hb := rank_bd b
  rw [IntKind.wrap_u64, IntKind.wrap_u64, IntKind.wrap_u64]; unfold gap; omega
theorem gap_gt {a b : Nat} (h : rank b < rank a) : IntKind.u64.wrap (IntKind.u64.wrap (rank a) - IntKind.u64.wrap (rank b)) = (gap a b : Int) := by
  have ha := rank_bd a
  have hb := rank_bd b
  rw [IntKind.wrap_u64, IntKind.wrap_u64, IntKind.wrap_u64]; unfold gap; omega
theorem gap_eq {a b : Nat} (h : ¬ rank a < rank b) (h' : ¬ rank b < rank a) : (0 : Int) = (gap a b : Int) := by
  unfold gap; omega
theorem sub_sign {u : Nat} (h : u < 18446744073709551616) (hs : sgn u = true) : IntKind.u64.wrap ((u : Int) - 9223372036854775808) = (mag u : Int) := by
  have e := mag_sgn h hs
  have := mag_lt u
  rw [IntKind.wrap_u64]; omega
theorem same_eq {a b : Nat} (h : (a : Int) = b) : true = same a b := by
  have : a = b := by omega
  subst this; unfold same; simp
theorem same_nan {a b : Nat} (_h : ¬ (a : Int) = b) (hn : nan a = true) : nan b = same a b := (same_comm_nan hn).symm
theorem same_no {a b : Nat} (h : ¬ (a : Int) = b) (hn : nan a = false) : false = same a b := by
  rw [same_ok hn]; symm; rw [beq_eq_false_iff_ne]; omega
def fin (b : Nat) : Bool := decide (mag b < 9218868437227405312)
def isinf (b : Nat) : Bool := decide (mag b = 9218868437227405312)
theorem nan_int (a : Nat) : decide (9218868437227405312 < (mag a : Int)) = nan a := by unfold nan; rw [Bool.eq_iff_iff, decide_eq_true_iff, decide_eq_true_iff]; omega
theorem sgn_int (a : Nat) : decide (9223372036854775808 ≤ (a : Int)) = sgn a := by unfold sgn; rw [Bool.eq_iff_iff, decide_eq_true_iff, decide_eq_true_iff]; omega
theorem sgn_test {a : Nat} {x : Bool} (h : sgn a = x) : decide (9223372036854775808 ≤ (a : Int)) = x := by rw [sgn_int, h]
theorem fin_int (a : Nat) : decide ((mag a : Int) < 9218868437227405312) = fin a := by unfold fin; rw [Bool.eq_iff_iff, decide_eq_true_iff, decide_eq_true_iff]; omega
theorem isinf_int (a : Nat) : ((mag a : Int) == 9218868437227405312) = isinf a := by unfold isinf; rw [Bool.eq_iff_iff, decide_eq_true_iff, beq_iff_eq]; omega
theorem att_posi (n : Int) (h1 : 0 ≤ n) (h2 : n ≤ 9218868437227405312) : n = (att n : Int) ∧ atok n = true := by
  have := att_pos n h1 h2
  exact ⟨by rw [← this.1]; omega, this.2⟩
/-- the reference's step: of a NaN a NaN of its own. -/
def rstep (b : Nat) (d : Int) : Nat := if nan b = true then 9221120237041090561 else if atok (rank b + d) = true then att (rank b + d) else b
theorem rstep_nan {b : Nat} {d : Int} (h : nan b = true) : rstep b d = 9221120237041090561 := by unfold rstep; rw [if_pos h]
theorem rstep_in {b : Nat} {d : Int} (h : nan b = false) (h2 : atok (rank b + d) = true) : rstep b d = att (rank b + d) := by
  unfold rstep; rw [h, if_neg (by decide), if_pos h2]
theorem rstep_out {b : Nat} {d : Int} (h : nan b = false) (h2 : atok (rank b + d) = false) : rstep b d = b := by
  unfold rstep; rw [h, h2, if_neg (by decide), if_neg (by decide)]
theorem gap_ge {a b : Nat} (h : rank b ≤ rank a) : IntKind.u64.wrap (IntKind.u64.wrap (rank a) - IntKind.u64.wrap (rank b)) = (gap a b : Int) := by
  have ha := rank_bd a
  have hb := rank_bd b
  rw [IntKind.wrap_u64, IntKind.wrap_u64, IntKind.wrap_u64]; unfold gap; omega
theorem beq_int (a b : Nat) : ((a : Int) == (b : Int)) = (a == b) := by rw [Bool.eq_iff_iff, beq_iff_eq, beq_iff_eq]; omega
theorem same_refl (a : Nat) : same a a = true := by unfold same; simp
theorem same_step (b : Nat) (d : Int) : same (step b d) (rstep b d) = true := by
  cases hn : nan b
  · cases hs : atok (rank b + d)
    · rw [step_out hn hs, rstep_out hn hs, same_refl]
    · rw [step_in hn hs, rstep_in hn hs, same_refl]
  · rw [step_nan hn, rstep_nan hn, same_comm_nan hn]; decide
theorem step_lt {b : Nat} (d : Int) (h : b < 18446744073709551616) : step b d < 18446744073709551616 := by
  unfold step; split
  · exact h
  · split
    · exact att_lt _
    · exact h
theorem rstep_lt {b : Nat} (d : Int) (h : b < 18446744073709551616) : rstep b d < 18446744073709551616 := by
  unfold rstep; split
  · decide
  · split
    · exact att_lt _
    · exact h
end Tn
