/- Plain laws on the bits of whole numbers of 64 bits with a sign: no program in sight. -/
import Derived.Laws.Bits64b
import Derived.Laws.BitsAllLaws
import Derived.RowKit
import Derived.WalkArith
namespace Tn
open Go Go.RowKit

theorem nat_and_xor (u v : Nat) : u + v = 2 * (u &&& v) + (u ^^^ v) := by
  induction u using Nat.strongRecOn generalizing v with
  | ind u ih =>
    by_cases h0 : u = 0
    · subst h0; simp
    · have h := ih (u / 2) (by omega) (v / 2)
      have e1 : (u &&& v) / 2 = (u / 2) &&& (v / 2) := Nat.and_div_two
      have e2 : (u ^^^ v) / 2 = (u / 2) ^^^ (v / 2) := Nat.xor_div_two
      have m1 : (u &&& v) % 2 ^ 1 = (u % 2 ^ 1) &&& (v % 2 ^ 1) := Nat.and_mod_two_pow
      have m2 : (u ^^^ v) % 2 ^ 1 = (u % 2 ^ 1) ^^^ (v % 2 ^ 1) := Nat.xor_mod_two_pow
      rw [← e1, ← e2] at h
      clear ih e1 e2
      generalize u &&& v = A at *
      generalize u ^^^ v = B at *
      rw [show (2 : Nat) ^ 1 = 2 from rfl] at m1 m2
      rcases Nat.mod_two_eq_zero_or_one u with a | a <;> rcases Nat.mod_two_eq_zero_or_one v with b | b <;>
        rw [a, b] at m1 m2
      · have m1 : A % 2 = 0 := m1
        have m2 : B % 2 = 0 := m2
        omega
      · have m1 : A % 2 = 0 := m1
        have m2 : B % 2 = 1 := m2
        omega
      · have m1 : A % 2 = 0 := m1
        have m2 : B % 2 = 1 := m2
        omega
      · have m1 : A % 2 = 1 := m1
        have m2 : B % 2 = 0 := m2
        omega

/-- the 64 bits of a whole number with a sign. -/
def u64 (x : Int) : Nat := (x % 18446744073709551616).toNat
theorem u64_lt (x : Int) : u64 x < 2 ^ 64 := by unfold u64; omega
theorem ofInt_u64' (x : Int) : (BitVec.ofInt 64 x).toNat = u64 x := by
  rw [BitVec.toNat_ofInt]; rfl
theorem i64_wrap (n : Int) : IntKind.i64.wrap n = wrap64 n := by
  simp [IntKind.wrap, IntKind.bits, IntKind.signed, wrap64]
  omega
theorem i64_and (x y : Int) : bits .and .i64 x y = wrap64 ((u64 x &&& u64 y : Nat) : Int) := by
  show IntKind.i64.wrap ((BitVec.ofInt 64 x &&& BitVec.ofInt 64 y).toNat : Int) = _
  rw [BitVec.toNat_and, ofInt_u64', ofInt_u64', i64_wrap]
theorem i64_xor (x y : Int) : bits .xor .i64 x y = wrap64 ((u64 x ^^^ u64 y : Nat) : Int) := by
  show IntKind.i64.wrap ((BitVec.ofInt 64 x ^^^ BitVec.ofInt 64 y).toNat : Int) = _
  rw [BitVec.toNat_xor, ofInt_u64', ofInt_u64', i64_wrap]
theorem and_xor_i64 (x y : Int) (h1 : -9223372036854775808 ≤ x) (h2 : x < 9223372036854775808) (h3 : -9223372036854775808 ≤ y) (h4 : y < 9223372036854775808) :
    x + y = 2 * bits .and .i64 x y + bits .xor .i64 x y := by
  rw [i64_and, i64_xor]
  have s := nat_and_xor (u64 x) (u64 y)
  have d1 : (u64 x &&& u64 y) / 2 ^ 63 = (u64 x / 2 ^ 63) &&& (u64 y / 2 ^ 63) := Nat.and_div_two_pow
  have d2 : (u64 x ^^^ u64 y) / 2 ^ 63 = (u64 x / 2 ^ 63) ^^^ (u64 y / 2 ^ 63) := Nat.xor_div_two_pow
  have hx := u64_lt x
  have hy := u64_lt y
  generalize u64 x &&& u64 y = A at *
  generalize u64 x ^^^ u64 y = B at *
  have hxe : (u64 x : Int) = x % 18446744073709551616 := by unfold u64; omega
  have hye : (u64 y : Int) = y % 18446744073709551616 := by unfold u64; omega
  generalize u64 x = X at *
  generalize u64 y = Y at *
  have cX : X / 2 ^ 63 = 0 ∨ X / 2 ^ 63 = 1 := by omega
  have cY : Y / 2 ^ 63 = 0 ∨ Y / 2 ^ 63 = 1 := by omega
  unfold wrap64
  rcases cX with a | a <;> rcases cY with b | b <;> rw [a, b] at d1 d2
  · have d1 : A / 2 ^ 63 = 0 := d1
    have d2 : B / 2 ^ 63 = 0 := d2
    omega
  · have d1 : A / 2 ^ 63 = 0 := d1
    have d2 : B / 2 ^ 63 = 1 := d2
    omega
  · have d1 : A / 2 ^ 63 = 0 := d1
    have d2 : B / 2 ^ 63 = 1 := d2
    omega
  · have d1 : A / 2 ^ 63 = 1 := d1
    have d2 : B / 2 ^ 63 = 0 := d2
    omega
theorem mid_and_xor (x y : Int) (h1 : -9223372036854775808 ≤ x) (h2 : x < 9223372036854775808) (h3 : -9223372036854775808 ≤ y) (h4 : y < 9223372036854775808) :
    wrap64 (bits .and .i64 x y + bits .xor .i64 x y / 2) = (x + y) / 2 := by
  have := and_xor_i64 x y h1 h2 h3 h4
  unfold wrap64; omega
theorem and_one_i64 (x : Int) : bits .and .i64 x 1 = x % 2 := by
  have e1 : u64 1 = 1 := by unfold u64; rw [Int.emod_eq_of_lt (by decide) (by decide)]; rfl
  rw [i64_and, e1, Nat.and_one_is_mod]
  have hxe : (u64 x : Int) = x % 18446744073709551616 := by unfold u64; omega
  generalize u64 x = X at *
  clear e1
  unfold wrap64; omega
theorem wrap64_mod_two (A : Int) : wrap64 A % 2 = A % 2 := by
  have h : (A + 9223372036854775808) % 18446744073709551616 % 2 = (A + 9223372036854775808) % 2 := Int.emod_emod_of_dvd _ ⟨9223372036854775808, by decide⟩
  unfold wrap64
  generalize (A + 9223372036854775808) % 18446744073709551616 = y at *
  omega
theorem u64_mod_two (x : Int) : ((u64 x % 2 : Nat) : Int) = x % 2 := by
  have h : x % 18446744073709551616 % 2 = x % 2 := Int.emod_emod_of_dvd _ ⟨9223372036854775808, by decide⟩
  have hxe : (u64 x : Int) = x % 18446744073709551616 := by unfold u64; omega
  generalize x % 18446744073709551616 = y at *
  omega
theorem and_mod_two_i64 (x y : Int) : bits .and .i64 x y % 2 = (x % 2) * (y % 2) := by
  rw [i64_and]
  have m1 : (u64 x &&& u64 y) % 2 ^ 1 = (u64 x % 2 ^ 1) &&& (u64 y % 2 ^ 1) := Nat.and_mod_two_pow
  rw [wrap64_mod_two, ← u64_mod_two x, ← u64_mod_two y]
  generalize u64 x &&& u64 y = A at *
  generalize u64 x = X at *
  generalize u64 y = Y at *
  rw [show (2 : Nat) ^ 1 = 2 from rfl] at m1
  rcases Nat.mod_two_eq_zero_or_one X with a | a <;> rcases Nat.mod_two_eq_zero_or_one Y with b | b <;> rw [a, b] at m1 ⊢
  · have m1 : A % 2 = 0 := m1
    omega
  · have m1 : A % 2 = 0 := m1
    omega
  · have m1 : A % 2 = 0 := m1
    omega
  · have m1 : A % 2 = 1 := m1
    omega
theorem i64_and_2047 {x : Int} (h0 : 0 ≤ x) (h1 : x < 2048) : bits .and .i64 x 2047 = x := by
  have e1 : u64 2047 = 2 ^ 11 - 1 := by unfold u64; rw [Int.emod_eq_of_lt (by decide) (by decide)]; rfl
  rw [i64_and, e1, Nat.and_two_pow_sub_one_eq_mod]
  have e2 : u64 x = x.toNat := by unfold u64; rw [Int.emod_eq_of_lt h0 (by omega)]
  rw [e2, Nat.mod_eq_of_lt (by omega)]
  unfold wrap64; omega
theorem mid_halves (x y : Int) (h1 : -9223372036854775808 ≤ x) (h2 : x < 9223372036854775808) (h3 : -9223372036854775808 ≤ y) (h4 : y < 9223372036854775808) :
    wrap64 (x / 2 + y / 2 + bits .and .i64 (bits .and .i64 x y) 1) = (x + y) / 2 := by
  rw [and_one_i64, and_mod_two_i64]
  rcases Int.emod_two_eq x with c | c <;> rcases Int.emod_two_eq y with d | d <;> rw [c, d]
  · rw [show ((0 : Int) * 0) = 0 from rfl]; unfold wrap64; omega
  · rw [show ((0 : Int) * 1) = 0 from rfl]; unfold wrap64; omega
  · rw [show ((1 : Int) * 0) = 0 from rfl]; unfold wrap64; omega
  · rw [show ((1 : Int) * 1) = 1 from rfl]; unfold wrap64; omega
end Tn
