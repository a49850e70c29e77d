/- Plain laws on rounding: a number of binary64 near an exact one. No program in sight. -/
import Derived.Laws.Cover2
import Derived.Laws.FloatBits
import Derived.RowKit
import Derived.Test.YthcgpepjoofeoaaNum
namespace Tn
open Go Go.RowKit

/-- n / 2^d rounded to the nearest, ties to even. -/
def rne (n d : Nat) : Nat := n / 2 ^ d + (if 2 ^ d < 2 * (n % 2 ^ d) ∨ (2 ^ d = 2 * (n % 2 ^ d) ∧ n / 2 ^ d % 2 = 1) then 1 else 0)

theorem log2_lo {n : Nat} (h : n ≠ 0) : 2 ^ n.log2 ≤ n := Nat.log2_self_le h
theorem log2_hi (n : Nat) : n < 2 ^ (n.log2 + 1) := Nat.lt_log2_self
theorem log2_unique {n k : Nat} (h1 : 2 ^ k ≤ n) (h2 : n < 2 ^ (k + 1)) : n.log2 = k := by
  have hn : n ≠ 0 := by have := Nat.two_pow_pos k; omega
  have a := (Nat.le_log2 hn).2 h1
  have b := (Nat.log2_lt hn).2 h2
  omega
theorem log2_mul_pow {m : Nat} (h : m ≠ 0) (k : Nat) : (m * 2 ^ k).log2 = m.log2 + k := by
  apply log2_unique
  · rw [Nat.pow_add]; exact Nat.mul_le_mul_right _ (log2_lo h)
  · rw [show m.log2 + k + 1 = m.log2 + 1 + k by omega, Nat.pow_add]
    exact Nat.mul_lt_mul_of_lt_of_le (log2_hi m) (Nat.le_refl _) (Nat.two_pow_pos k)
theorem pow_le {a b : Nat} (h : a ≤ b) : 2 ^ a ≤ 2 ^ b := Nat.pow_le_pow_right (by decide) h
theorem pow_lt {a b : Nat} (h : a < b) : 2 ^ a < 2 ^ b := Nat.pow_lt_pow_right (by decide) h

theorem rne_zero (n : Nat) : rne n 0 = n := by
  unfold rne; rw [Nat.pow_zero, Nat.div_one, Nat.mod_one]; simp
theorem rne_far {n d : Nat} (h : 2 * n < 2 ^ d) : rne n d = 0 := by
  unfold rne
  rw [Nat.div_eq_of_lt (by omega), Nat.mod_eq_of_lt (by omega), if_neg (by omega)]
theorem cut_rne (neg : Bool) (n drop : Nat) : Ieee.Toward.cut .even neg n drop = rne n drop := by
  have key : ∀ g : Nat, Ieee.Toward.cut .even neg n drop = (let gap := 1 <<< min drop (n.log2 + 2); n / gap + (decide (gap < 2 * (n % gap)) || (gap == 2 * (n % gap) && n / gap % 2 == 1)).toNat) := fun _ => rfl
  rw [key 0]
  simp only [Nat.shiftLeft_eq, Nat.one_mul]
  by_cases hd : drop ≤ n.log2 + 2
  · rw [Nat.min_eq_left hd]
    unfold rne
    by_cases c : 2 ^ drop < 2 * (n % 2 ^ drop) ∨ (2 ^ drop = 2 * (n % 2 ^ drop) ∧ n / 2 ^ drop % 2 = 1)
    · rw [if_pos c]
      rcases c with c | ⟨c, c'⟩
      · simp [c]
      · simp [← c, c']
    · rw [if_neg c]
      simp only [not_or, not_and] at c
      obtain ⟨c1, c2⟩ := c
      by_cases e : 2 ^ drop = 2 * (n % 2 ^ drop)
      · have := c2 e; simp [← e, this]
      · simp [c1, e]
  · rw [Nat.min_eq_right (by omega)]
    have h1 : n < 2 ^ (n.log2 + 1) := log2_hi n
    have h2 : 2 ^ (n.log2 + 2) = 2 * 2 ^ (n.log2 + 1) := by rw [Nat.pow_succ, Nat.mul_comm]
    have h3 : 2 ^ (n.log2 + 2) ≤ 2 ^ drop := pow_le (by omega)
    rw [rne_far (by omega), Nat.div_eq_of_lt (by omega), Nat.mod_eq_of_lt (by omega)]
    have e1 : ¬ (2 ^ (n.log2 + 2) < 2 * n) := by omega
    have e2 : ¬ (2 ^ (n.log2 + 2) = 2 * n) := by omega
    simp [e1, e2]
theorem rne_scale (n d k : Nat) : rne (n * 2 ^ k) (d + k) = rne n d := by
  have hk := Nat.two_pow_pos k
  have e1 : n * 2 ^ k / 2 ^ (d + k) = n / 2 ^ d := by
    rw [Nat.pow_add]; exact Nat.mul_div_mul_right _ _ hk
  have e2 : n * 2 ^ k % 2 ^ (d + k) = n % 2 ^ d * 2 ^ k := by
    rw [Nat.pow_add]; exact Nat.mul_mod_mul_right _ _ _
  unfold rne
  rw [e1, e2]
  congr 1
  have e3 : (2 ^ (d + k) < 2 * (n % 2 ^ d * 2 ^ k)) ↔ (2 ^ d < 2 * (n % 2 ^ d)) := by
    rw [Nat.pow_add, ← Nat.mul_assoc]
    exact ⟨fun h => Nat.lt_of_mul_lt_mul_right h, fun h => Nat.mul_lt_mul_of_pos_right h hk⟩
  have e4 : (2 ^ (d + k) = 2 * (n % 2 ^ d * 2 ^ k)) ↔ (2 ^ d = 2 * (n % 2 ^ d)) := by
    rw [Nat.pow_add, ← Nat.mul_assoc]
    exact ⟨fun h => Nat.eq_of_mul_eq_mul_right hk h, fun h => congrArg (· * 2 ^ k) h⟩
  simp only [e3, e4]

/-- m * 2^x rounded to a whole number. -/
def rnd (m : Nat) (x : Int) : Nat := if 0 ≤ x then m * 2 ^ x.toNat else rne m (-x).toNat
theorem rnd_scale (m k : Nat) (x : Int) : rnd (m * 2 ^ k) (x - k) = rnd m x := by
  unfold rnd
  by_cases h : 0 ≤ x
  · rw [if_pos h]
    by_cases h' : 0 ≤ x - k
    · rw [if_pos h', Nat.mul_assoc, ← Nat.pow_add, show k + (x - k).toNat = x.toNat by omega]
    · rw [if_neg h']
      have := rne_scale (m * 2 ^ x.toNat) 0 (-(x - k)).toNat
      rw [Nat.zero_add, Nat.mul_assoc, ← Nat.pow_add, show x.toNat + (-(x - (k : Int))).toNat = k by omega, rne_zero] at this
      exact this
  · rw [if_neg h, if_neg (by omega), show (-(x - (k : Int))).toNat = (-x).toNat + k by omega, rne_scale]

/-- the place of the last digit that is kept. -/
def last (m : Nat) (p : Int) : Int := max (p + m.log2 - 52) (-1074)
/-- the rung (the bits without a sign) of what is nearest to m * 2^p. -/
def nr (m : Nat) (p : Int) : Nat := if m = 0 then 0 else min ((last m p + 1074).toNat * 4503599627370496 + rnd m (p - last m p)) 9218868437227405312

theorem nearest_nr (neg : Bool) (m : Nat) (p : Int) : Ieee.double.nearest neg m p = (if neg then 9223372036854775808 else 0) + nr m p := by
  have hw : ∀ r : Nat, Ieee.double.word neg r = (if neg then 9223372036854775808 else 0) + r := by
    intro r; unfold Ieee.Format.word
    rw [show Ieee.double.signWeight = 9223372036854775808 from rfl]
    cases neg <;> simp
  unfold Ieee.Format.nearest nr
  by_cases h0 : m = 0
  · rw [if_pos h0, if_pos h0, hw]
  · rw [if_neg h0, if_neg h0]
    have hl : max (p + (m.log2 : Int) - (Ieee.double.fractionBits : Nat)) Ieee.double.leastPlace = last m p := rfl
    have hb : Ieee.double.binade = 4503599627370496 := rfl
    have hi : Ieee.double.infRung = 9218868437227405312 := rfl
    have hp : Ieee.double.leastPlace = -1074 := rfl
    simp only [hl, hb, hi]
    rw [hw, hp, cut_rne, Nat.shiftLeft_eq, show last m p - (-1074) = last m p + 1074 by omega]
    congr 3
    unfold rnd
    by_cases hx : 0 ≤ p - last m p
    · rw [if_pos hx, show (last m p - p).toNat = 0 by omega, rne_zero]
    · rw [if_neg hx, show (p - last m p).toNat = 0 by omega, Nat.pow_zero, Nat.mul_one, show -(p - last m p) = last m p - p by omega]
theorem nr_zero (p : Int) : nr 0 p = 0 := by unfold nr; rw [if_pos rfl]
theorem nr_le (m : Nat) (p : Int) : nr m p ≤ 9218868437227405312 := by
  unfold nr; split
  · decide
  · exact Nat.min_le_right _ _
theorem nr_scale (m k : Nat) (p : Int) : nr (m * 2 ^ k) (p - k) = nr m p := by
  unfold nr
  by_cases h : m = 0
  · rw [h, Nat.zero_mul, if_pos rfl, if_pos rfl]
  · have hk : m * 2 ^ k ≠ 0 := Nat.mul_ne_zero h (Nat.pos_iff_ne_zero.1 (Nat.two_pow_pos k))
    rw [if_neg h, if_neg hk]
    have hl : last (m * 2 ^ k) (p - k) = last m p := by
      unfold last; rw [log2_mul_pow h]; congr 1; omega
    rw [hl, show p - (k : Int) - last m p = p - last m p - k by omega, rnd_scale]
theorem nr_scale' (m k : Nat) (p : Int) : nr (m * 2 ^ k) p = nr m (p + k) := by
  have := nr_scale m k (p + k)
  rwa [show p + (k : Int) - k = p by omega] at this
/-- where h fits into 53 digits at a place that there is. -/
theorem nr_of {h : Nat} {p : Int} (h1 : h ≤ 9007199254740992) (hp : -1074 ≤ p) (hb : p = -1074 ∨ 4503599627370496 ≤ h) :
    nr h p = min ((p + 1074).toNat * 4503599627370496 + h) 9218868437227405312 := by
  by_cases h0 : h = 0
  · subst h0; rw [nr_zero]
    rcases hb with hb | hb
    · subst hb; decide +kernel
    · omega
  · unfold nr; rw [if_neg h0]
    by_cases h53 : h = 9007199254740992
    · subst h53
      have hl : Nat.log2 9007199254740992 = 53 := log2_unique (by decide) (by decide)
      have : last 9007199254740992 p = p + 1 := by unfold last; rw [hl]; omega
      rw [this, show p - (p + 1) = -1 by omega]
      have hr : rnd 9007199254740992 (-1) = 4503599627370496 := by decide +kernel
      have e : (p + 1 + 1074).toNat * 4503599627370496 + 4503599627370496 = (p + 1074).toNat * 4503599627370496 + 9007199254740992 := by omega
      rw [hr, e]
    · have hlt : h.log2 < 53 := (Nat.log2_lt h0).2 (by omega)
      have : last h p = p := by
        unfold last
        rcases hb with hb | hb
        · omega
        · have : h.log2 = 52 := log2_unique (by omega) (by omega)
          omega
      rw [this, show p - p = 0 by omega]
      have hr : rnd h 0 = h := by unfold rnd; rw [if_pos (Int.le_refl 0)]; simp
      rw [hr]
theorem rne_le {n d B : Nat} (h : n ≤ B * 2 ^ d) : rne n d ≤ B := by
  unfold rne
  have hd := Nat.two_pow_pos d
  by_cases e : n = B * 2 ^ d
  · subst e
    rw [Nat.mul_div_cancel _ hd, Nat.mul_mod_left, if_neg (by omega)]; omega
  · have : n / 2 ^ d < B := (Nat.div_lt_iff_lt_mul hd).2 (by omega)
    split <;> omega
theorem le_rne {n d B : Nat} (h : B * 2 ^ d ≤ n) : B ≤ rne n d := by
  unfold rne
  have := (Nat.le_div_iff_mul_le (Nat.two_pow_pos d)).2 h
  omega
end Tn
