/- Rounding does not fall. No program. -/
import Derived.Test.YtepcegiciecogaaGreatPl
namespace Tn
open Go Go.RowKit

/-- the quotient, and a little more: as one number. -/
def dbl (q : Nat) (more : Bool) : Nat := 2 * q + (if more = true then 1 else 0)
theorem rneM_true {v d : Nat} (hd : 1 ≤ d) : rneM v d true = rne (2 * v + 1) (d + 1) := by
  obtain ⟨c, rfl⟩ : ∃ c, d = c + 1 := ⟨d - 1, by omega⟩
  unfold rneM rne
  have hp := Nat.two_pow_pos c
  have e0 : (2 : Nat) ^ (c + 1) = 2 ^ c * 2 := Nat.pow_succ ..
  have e1 : (2 : Nat) ^ (c + 1 + 1) = 2 * 2 ^ (c + 1) := by rw [Nat.pow_succ, Nat.mul_comm]
  have e2 : (2 * v + 1) / 2 ^ (c + 1 + 1) = v / 2 ^ (c + 1) := by
    rw [e1, ← Nat.div_div_eq_div_mul, show (2 * v + 1) / 2 = v by omega]
  have e3 : (2 * v + 1) % 2 ^ (c + 1 + 1) = 2 * (v % 2 ^ (c + 1)) + 1 := by
    rw [e1, Nat.mod_mul, show (2 * v + 1) / 2 = v by omega]; omega
  have e4 : v % 2 ^ (c + 1) = v % 2 ^ c + 2 ^ c * (v / 2 ^ c % 2) := by rw [e0, Nat.mod_mul]
  have hm := Nat.mod_lt v hp
  rw [e2, e3, Nat.add_sub_cancel, e4, e1, e0]
  generalize v % 2 ^ c = r at *
  have h2 : v / 2 ^ c % 2 = 0 ∨ v / 2 ^ c % 2 = 1 := by omega
  generalize v / (2 ^ c * 2) = Q at *
  generalize 2 ^ c = P at *
  rcases h2 with h2 | h2
  · rw [h2, Nat.mul_zero, Nat.add_zero, if_neg (by omega), if_neg (by omega)]
  · rw [h2, Nat.mul_one, if_pos (by simp), if_pos (by omega)]
theorem bl_dbl {q : Nat} (h : q ≠ 0) : bl (2 * q + 1) = bl q + 1 := by
  unfold bl
  rw [if_neg h, if_neg (by omega)]
  congr 1
  apply log2_unique
  · have := log2_lo h
    rw [Nat.pow_succ]; omega
  · have := log2_hi q
    rw [Nat.pow_succ]; omega
theorem near_off (k : Nat) : (k : Int) - 2148 = -2149 + ((k + 1 : Nat) : Int) := by omega
theorem nearU_dbl (q : Nat) (more : Bool) : nearU q more = nr (dbl q more) (-2149) := by
  have hk : 1 ≤ nearK q := by unfold nearK; omega
  cases more
  · have e : dbl q false = q * 2 ^ 1 := by unfold dbl; simp; omega
    rw [e, nr_scale']
    by_cases h0 : q = 0
    · subst h0
      unfold nearU
      rw [rneM_false hk]
      rw [show rne 0 (nearK 0) = 0 by unfold rne; rw [Nat.zero_div, Nat.zero_mod]; have := Nat.two_pow_pos (nearK 0); rw [if_neg (by omega)], nr_zero, nr_zero]
    · unfold nearU
      rw [rneM_false hk]
      have h := join_core (E := -2148) (X := (nearK q : Int)) (u := q) (by omega) (by unfold nearK; omega)
      rw [Int.toNat_natCast] at h
      rw [show -2149 + ((1 : Nat) : Int) = -2148 by omega, ← h]
      congr 1
      try omega
  · have e : dbl q true = 2 * q + 1 := by unfold dbl; rw [if_pos rfl]
    rw [e]
    unfold nearU
    rw [rneM_true hk]
    have hx : ((nearK q + 1 : Nat) : Int) = max ((bl (2 * q + 1) : Int) - 53) (max (-1074 - (-2149)) 0) := by
      by_cases h0 : q = 0
      · subst h0
        have : bl (2 * 0 + 1) = 1 := by decide
        have h2 : bl 0 = 0 := by decide
        unfold nearK
        rw [this, h2]; decide
      · rw [bl_dbl h0]; unfold nearK; omega
    have h := join_core (E := -2149) (X := ((nearK q + 1 : Nat) : Int)) (u := 2 * q + 1) (by omega) hx
    rw [Int.toNat_natCast] at h
    rw [← h]
    exact congrArg (nr _) (near_off _)
/-! ### units, and what is near of them -/
theorem overV_fin (Z : Int) (n : Nat) : overV Z false false n = (if Z < 0 then 9223372036854775808 else 0) + nearU (Z.natAbs / n) (decide (Z.natAbs % n ≠ 0)) := by
  unfold overV
  rw [if_neg (by simp), if_neg (by simp), if_neg (by simp)]
end Tn
