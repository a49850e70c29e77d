/- Plain laws on the reference's rounding to some bits with a least place. No program in sight. -/
import Derived.Test.YthcgpepjoofeoaaLdx
namespace Tn
open Go Go.RowKit

/-- the place of the last digit that is kept, of so many bits, not below least. -/
def lsbR (v : Nat) (e : Int) (bits least : Int) : Int := max ((bl v : Int) - bits + e) least
/-- v / 2^d rounded to the nearest, ties to even; a little more, if more. -/
def rneM (v d : Nat) (more : Bool) : Nat := v / 2 ^ d + (if v / 2 ^ (d - 1) % 2 = 1 ∧ (v % 2 ^ (d - 1) ≠ 0 ∨ more = true ∨ v / 2 ^ d % 2 = 1) then 1 else 0)
def rndR (v : Nat) (x : Int) (more : Bool) : Nat := if 0 ≤ x then v * 2 ^ x.toNat else rneM v (-x).toNat more
theorem rneM_false {v d : Nat} (hd : 1 ≤ d) : rneM v d false = rne v d := by
  unfold rneM rne
  congr 1
  have e : 2 ^ d = 2 * 2 ^ (d - 1) := by rw [← Nat.pow_succ']; congr 1; omega
  have hm : v % 2 ^ d = v % 2 ^ (d - 1) + 2 ^ (d - 1) * (v / 2 ^ (d - 1) % 2) := by
    rw [e, Nat.mul_comm, Nat.mod_mul]
  have hp := Nat.two_pow_pos (d - 1)
  have hlt : v % 2 ^ (d - 1) < 2 ^ (d - 1) := Nat.mod_lt _ hp
  rw [hm]
  rcases Nat.mod_two_eq_zero_or_one (v / 2 ^ (d - 1)) with h | h <;> rw [h, e]
  · rw [if_neg (by simp), if_neg (by omega)]
  · by_cases c : v % 2 ^ (d - 1) ≠ 0
    · rw [if_pos ⟨rfl, Or.inl c⟩, if_pos (Or.inl (by omega))]
    · by_cases c2 : v / (2 * 2 ^ (d - 1)) % 2 = 1
      · rw [if_pos ⟨rfl, Or.inr (Or.inr c2)⟩, if_pos (Or.inr ⟨by omega, c2⟩)]
      · rw [if_neg, if_neg]
        · rintro (h | ⟨_, h⟩)
          · omega
          · exact c2 h
        · rintro ⟨_, h | h | h⟩
          · exact c h
          · cases h
          · exact c2 h
theorem rndR_false (v : Nat) (x : Int) : rndR v x false = rnd v x := by
  unfold rndR rnd
  by_cases h : 0 ≤ x
  · rw [if_pos h, if_pos h]
  · rw [if_neg h, if_neg h, rneM_false (by omega)]
theorem lsb_last {v : Nat} (h : v ≠ 0) (e : Int) : lsbR v e 53 (-1074) = last v e := by
  unfold lsbR last; rw [bitLen_log h]; omega
theorem bl_lt {v k : Nat} (h : bl v ≤ k) : v < 2 ^ k := by
  by_cases h0 : v = 0
  · rw [h0]; exact Nat.two_pow_pos _
  · rw [bitLen_log h0] at h
    exact Nat.lt_of_lt_of_le (log2_hi v) (pow_le h)
theorem rndR_up {v : Nat} {e bits least : Int} (hl : lsbR v e bits least ≤ e) (hb0 : 0 ≤ bits) (hb : bits ≤ 53) : v * 2 ^ (e - lsbR v e bits least).toNat < 9007199254740992 := by
  have h1 : bl v + (e - lsbR v e bits least).toNat ≤ 53 := by unfold lsbR at *; omega
  have h2 := bl_lt (Nat.le_refl (bl v))
  have h3 : v * 2 ^ (e - lsbR v e bits least).toNat < 2 ^ bl v * 2 ^ (e - lsbR v e bits least).toNat := Nat.mul_lt_mul_of_pos_right h2 (Nat.two_pow_pos _)
  rw [← Nat.pow_add] at h3
  exact Nat.lt_of_lt_of_le h3 (pow_le h1)
theorem rndR_down {v : Nat} {e bits least : Int} (hl : e < lsbR v e bits least) (hb0 : 0 ≤ bits) (hb : bits ≤ 53) : v / 2 ^ (lsbR v e bits least - e).toNat < 9007199254740992 := by
  rw [Nat.div_lt_iff_lt_mul (Nat.two_pow_pos _)]
  have h2 := bl_lt (Nat.le_refl (bl v))
  have h1 : bl v ≤ 53 + (lsbR v e bits least - e).toNat := by unfold lsbR at *; omega
  have h3 := pow_le h1
  rw [Nat.pow_add] at h3
  exact Nat.lt_of_lt_of_le h2 h3
/-- two digits make a number below 2^64 whole. -/
theorem two_digits {q : Nat} (h : q < 18446744073709551616) : q / 2 ^ (32 * 0) % 4294967296 + q / 2 ^ (32 * 1) % 4294967296 * 4294967296 = q := by
  rw [show 2 ^ (32 * 0) = 1 from rfl, show (2 : Nat) ^ (32 * 1) = 4294967296 from rfl]; omega
end Tn
