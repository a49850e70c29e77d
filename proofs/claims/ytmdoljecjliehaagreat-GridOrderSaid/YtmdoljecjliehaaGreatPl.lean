/- Plain facts about whole numbers, bits, floats and exact sums. No program. -/
import Derived.Laws.Bits64b
import Derived.Laws.BitsAllLaws
import Derived.RowKit
import Derived.WalkArith
import Derived.Laws.FloatArith
import Derived.Laws.Cover2
import Derived.Laws.FloatBits
import Derived.Below
import Derived.Lib.ItoaNum
import Derived.Laws.World
import Derived.WalkKit
/- Plain laws on the bits of whole numbers of 64 bits with a sign: no program in sight. -/
namespace Tn
open Go Go.RowKit

theorem nat_and_xor (u v : Nat) : u + v = 2 * (u &&& v) + (u ^^^ v) := by
 induction u using Nat.strongRecOn generalizing v with
 | ind u ih =>
  by_cases h0 : u = 0
  ·subst h0; simp
  ·have h := ih (u / 2) (by omega) (v / 2)
   (have e1 : (u &&& v) / 2 = (u / 2) &&& (v / 2) := Nat.and_div_two);(have e2 : (u ^^^ v) / 2 = (u / 2) ^^^ (v / 2) := Nat.xor_div_two);(have m1 : (u &&& v) % 2 ^ 1 = (u % 2 ^ 1) &&& (v % 2 ^ 1) := Nat.and_mod_two_pow);(have m2 : (u ^^^ v) % 2 ^ 1 = (u % 2 ^ 1) ^^^ (v % 2 ^ 1) := Nat.xor_mod_two_pow);(rw [← e1, ← e2] at h);(clear ih e1 e2);(generalize u &&& v = A at *);(generalize u ^^^ v = B at *);(rw [show (2 : Nat) ^ 1 = 2 from rfl] at m1 m2)
   rcases Nat.mod_two_eq_zero_or_one u with a | a <;> rcases Nat.mod_two_eq_zero_or_one v with b | b <;>
    rw [a, b] at m1 m2
   ·have m1 : A % 2 = 0 := m1
    (have m2 : B % 2 = 0 := m2);(omega)
   ·have m1 : A % 2 = 0 := m1
    (have m2 : B % 2 = 1 := m2);(omega)
   ·have m1 : A % 2 = 0 := m1
    (have m2 : B % 2 = 1 := m2);(omega)
   ·have m1 : A % 2 = 1 := m1
    (have m2 : B % 2 = 0 := m2);(omega)

def u64 (x : Int) : Nat := (x % 18446744073709551616).toNat
theorem ofInt_u64' (x : Int) : (BitVec.ofInt 64 x).toNat = u64 x := by
 rw [BitVec.toNat_ofInt]; rfl
theorem i64_wrap (n : Int) : IntKind.i64.wrap n = wrap64 n := by
 (simp [IntKind.wrap, IntKind.bits, IntKind.signed, wrap64]);(omega)
theorem i64_and (x y : Int) : bits .and .i64 x y = wrap64 ((u64 x &&& u64 y : Nat) : Int) := by
 show IntKind.i64.wrap ((BitVec.ofInt 64 x &&& BitVec.ofInt 64 y).toNat : Int) = _
 rw [BitVec.toNat_and, ofInt_u64', ofInt_u64', i64_wrap]
theorem i64_and_2047 {x : Int} (h0 : 0 ≤ x) (h1 : x < 2048) : bits .and .i64 x 2047 = x := by
 (have e1 : u64 2047 = 2 ^ 11 - 1 := by unfold u64; rw [Int.emod_eq_of_lt (by decide) (by decide)]; rfl);(rw [i64_and, e1, Nat.and_two_pow_sub_one_eq_mod]);(have e2 : u64 x = x.toNat := by unfold u64; rw [Int.emod_eq_of_lt h0 (by omega)]);(rw [e2, Nat.mod_eq_of_lt (by omega)]);(unfold wrap64; omega)
end Tn

/- Plain laws on the bits of floats: no program in sight. -/
namespace Tn
open Go Go.RowKit

def mag (b : Nat) : Nat := b % 9223372036854775808
def sgn (b : Nat) : Bool := decide (9223372036854775808 ≤ b)
def nan (b : Nat) : Bool := decide (9218868437227405312 < mag b)
def ok (b : Nat) : Bool := !nan b
def cls (b : Nat) : Int :=
 if mag b = 0 then 1 else if mag b < 4503599627370496 then 2 else if mag b < 9218868437227405312 then 3 else if mag b = 9218868437227405312 then 4 else 5
def neg (b : Nat) : Bool := ok b && sgn b
def rank (b : Nat) : Int := if nan b = true then 0 else if sgn b = true then -(mag b : Int) else (mag b : Int)
def atok (n : Int) : Bool := decide (-9218868437227405312 ≤ n) && decide (n ≤ 9218868437227405312)
def att (n : Int) : Nat := if atok n = true then (if n < 0 then (-n).toNat + 9223372036854775808 else n.toNat) else 0
def step (b : Nat) (d : Int) : Nat := if nan b = true then b else if atok (rank b + d) = true then att (rank b + d) else b
def gap (a b : Nat) : Nat := (rank a - rank b).natAbs

theorem mag_lt (b : Nat) : mag b < 9223372036854775808 := Nat.mod_lt _ (by decide)
theorem ok_nan (b : Nat) : ok b = !nan b := rfl
theorem andNot_sign (b : Nat) (h : b < 18446744073709551616) : bits .andNot .u64 (b : Int) 9223372036854775808 = (mag b : Int) := by
 (have h1 := u64_andNot_nat b 9223372036854775808 h (by decide));(rw [show ((9223372036854775808 : Nat) : Int) = (9223372036854775808 : Int) from rfl] at h1);(rw [h1]);(have := Nat.and_two_pow_sub_one_eq_mod b 63);(unfold mag);(rw [show (18446744073709551615 - 9223372036854775808 : Nat) = 2 ^ 63 - 1 from by decide, this])
theorem sgn_div (b : Nat) (h : b < 18446744073709551616) : sgn b = (((b : Int) / 9223372036854775808) == 1) := by
 (unfold sgn);(rw [Bool.eq_iff_iff, decide_eq_true_iff, beq_iff_eq]);(omega)
theorem cls_nan (b : Nat) : (cls b = 5) = (nan b = true) := by
 (unfold cls nan);(rw [decide_eq_true_iff]);(refine propext ⟨fun h => ?_, fun h => ?_⟩)
 ·have := mag_lt b
  split at h
  ·omega
  ·split at h
   ·omega
   ·split at h
    ·omega
    ·split at h <;> omega
 ·rw [if_neg (by omega), if_neg (by omega), if_neg (by omega), if_neg (by omega)]
theorem cls_eq5 {b : Nat} {x : Bool} (h : nan b = x) : (cls b == 5) = x := by
 rw [Bool.eq_iff_iff, beq_iff_eq, cls_nan, h]
theorem cls_ne5 {b : Nat} {x : Bool} (h : nan b = x) : (cls b != 5) = !x := by
 rw [bne, cls_eq5 h]
theorem wrap_mag (a : Nat) : wrap64 (mag a : Int) = (mag a : Int) := by
 (have := mag_lt a);(unfold wrap64; omega)
theorem wrap_nmag (a : Nat) : wrap64 (-(wrap64 (mag a : Int))) = -(mag a : Int) := by
 (rw [wrap_mag]);(have := mag_lt a);(unfold wrap64; omega)
theorem mag_le_inf {a : Nat} (h : nan a = false) : mag a ≤ 9218868437227405312 := by
 unfold nan at h; have := of_decide_eq_false h; omega
theorem rank_bd (a : Nat) : -9218868437227405312 ≤ rank a ∧ rank a ≤ 9218868437227405312 := by
 unfold rank
 split
 ·omega
 ·rename_i h
  have := mag_le_inf (a := a) (by simpa using h)
  split <;> omega
theorem neg_nan {a : Nat} (h : nan a = true) : neg a = false := by unfold neg; rw [ok_nan, h]; rfl
theorem neg_ok {a : Nat} (h : nan a = false) : neg a = sgn a := by unfold neg; rw [ok_nan, h]; rfl
theorem rank_neg {a : Nat} (h : nan a = false) (h2 : neg a = true) : rank a = -(mag a : Int) := by
 rw [neg_ok h] at h2; unfold rank; rw [h, if_neg (by decide), if_pos h2]
theorem rank_pos {a : Nat} (h : nan a = false) (h2 : neg a = false) : rank a = (mag a : Int) := by
 rw [neg_ok h] at h2; unfold rank; rw [h, h2, if_neg (by decide), if_neg (by decide)]
def fin (b : Nat) : Bool := decide (mag b < 9218868437227405312)
def isinf (b : Nat) : Bool := decide (mag b = 9218868437227405312)
end Tn

/- Plain laws on rounding: a number of binary64 near an exact one. No program in sight. -/
namespace Tn
open Go Go.RowKit

def rne (n d : Nat) : Nat := n / 2 ^ d + (if 2 ^ d < 2 * (n % 2 ^ d) ∨ (2 ^ d = 2 * (n % 2 ^ d) ∧ n / 2 ^ d % 2 = 1) then 1 else 0)

theorem log2_lo {n : Nat} (h : n ≠ 0) : 2 ^ n.log2 ≤ n := Nat.log2_self_le h
theorem log2_hi (n : Nat) : n < 2 ^ (n.log2 + 1) := Nat.lt_log2_self
theorem log2_unique {n k : Nat} (h1 : 2 ^ k ≤ n) (h2 : n < 2 ^ (k + 1)) : n.log2 = k := by
 (have hn : n ≠ 0 := by have := Nat.two_pow_pos k; omega);(have a := (Nat.le_log2 hn).2 h1);(have b := (Nat.log2_lt hn).2 h2);(omega)
theorem log2_mul_pow {m : Nat} (h : m ≠ 0) (k : Nat) : (m * 2 ^ k).log2 = m.log2 + k := by
 apply log2_unique
 ·rw [Nat.pow_add]; exact Nat.mul_le_mul_right _ (log2_lo h)
 ·rw [show m.log2 + k + 1 = m.log2 + 1 + k by omega, Nat.pow_add]
  exact Nat.mul_lt_mul_of_lt_of_le (log2_hi m) (Nat.le_refl _) (Nat.two_pow_pos k)
theorem pow_le {a b : Nat} (h : a ≤ b) : 2 ^ a ≤ 2 ^ b := Nat.pow_le_pow_right (by decide) h
theorem pow_lt {a b : Nat} (h : a < b) : 2 ^ a < 2 ^ b := Nat.pow_lt_pow_right (by decide) h

theorem rne_zero (n : Nat) : rne n 0 = n := by
 unfold rne; rw [Nat.pow_zero, Nat.div_one, Nat.mod_one]; simp
theorem rne_far {n d : Nat} (h : 2 * n < 2 ^ d) : rne n d = 0 := by
 (unfold rne);(rw [Nat.div_eq_of_lt (by omega), Nat.mod_eq_of_lt (by omega), if_neg (by omega)])
theorem cut_rne (neg : Bool) (n drop : Nat) : Ieee.Toward.cut .even neg n drop = rne n drop := by
 (have key : ∀ g : Nat, Ieee.Toward.cut .even neg n drop = (let gap := 1 <<< min drop (n.log2 + 2); n / gap + (decide (gap < 2 * (n % gap)) || (gap == 2 * (n % gap) && n / gap % 2 == 1)).toNat) := fun _ => rfl);(rw [key 0]);(simp only [Nat.shiftLeft_eq, Nat.one_mul])
 by_cases hd : drop ≤ n.log2 + 2
 ·rw [Nat.min_eq_left hd]
  unfold rne
  by_cases c : 2 ^ drop < 2 * (n % 2 ^ drop) ∨ (2 ^ drop = 2 * (n % 2 ^ drop) ∧ n / 2 ^ drop % 2 = 1)
  ·rw [if_pos c]
   rcases c with c | ⟨c, c'⟩
   ·simp [c]
   ·simp [← c, c']
  ·rw [if_neg c]
   (simp only [not_or, not_and] at c);(obtain ⟨c1, c2⟩ := c)
   by_cases e : 2 ^ drop = 2 * (n % 2 ^ drop)
   ·have := c2 e; simp [← e, this]
   ·simp [c1, e]
 ·rw [Nat.min_eq_right (by omega)]
  (have h1 : n < 2 ^ (n.log2 + 1) := log2_hi n);(have h2 : 2 ^ (n.log2 + 2) = 2 * 2 ^ (n.log2 + 1) := by rw [Nat.pow_succ, Nat.mul_comm]);(have h3 : 2 ^ (n.log2 + 2) ≤ 2 ^ drop := pow_le (by omega));(rw [rne_far (by omega), Nat.div_eq_of_lt (by omega), Nat.mod_eq_of_lt (by omega)]);(have e1 : ¬ (2 ^ (n.log2 + 2) < 2 * n) := by omega);(have e2 : ¬ (2 ^ (n.log2 + 2) = 2 * n) := by omega);(simp [e1, e2])
theorem rne_scale (n d k : Nat) : rne (n * 2 ^ k) (d + k) = rne n d := by
 have hk := Nat.two_pow_pos k
 have e1 : n * 2 ^ k / 2 ^ (d + k) = n / 2 ^ d := by
  rw [Nat.pow_add]; exact Nat.mul_div_mul_right _ _ hk
 have e2 : n * 2 ^ k % 2 ^ (d + k) = n % 2 ^ d * 2 ^ k := by
  rw [Nat.pow_add]; exact Nat.mul_mod_mul_right _ _ _
 (unfold rne);(rw [e1, e2])
 congr 1
 have e3 : (2 ^ (d + k) < 2 * (n % 2 ^ d * 2 ^ k)) ↔ (2 ^ d < 2 * (n % 2 ^ d)) := by
  (rw [Nat.pow_add, ← Nat.mul_assoc]);(exact ⟨fun h => Nat.lt_of_mul_lt_mul_right h, fun h => Nat.mul_lt_mul_of_pos_right h hk⟩)
 have e4 : (2 ^ (d + k) = 2 * (n % 2 ^ d * 2 ^ k)) ↔ (2 ^ d = 2 * (n % 2 ^ d)) := by
  (rw [Nat.pow_add, ← Nat.mul_assoc]);(exact ⟨fun h => Nat.eq_of_mul_eq_mul_right hk h, fun h => congrArg (· * 2 ^ k) h⟩)
 simp only [e3, e4]

def rnd (m : Nat) (x : Int) : Nat := if 0 ≤ x then m * 2 ^ x.toNat else rne m (-x).toNat
theorem rnd_scale (m k : Nat) (x : Int) : rnd (m * 2 ^ k) (x - k) = rnd m x := by
 unfold rnd
 by_cases h : 0 ≤ x
 ·rw [if_pos h]
  by_cases h' : 0 ≤ x - k
  ·rw [if_pos h', Nat.mul_assoc, ← Nat.pow_add, show k + (x - k).toNat = x.toNat by omega]
  ·rw [if_neg h']
   (have := rne_scale (m * 2 ^ x.toNat) 0 (-(x - k)).toNat);(rw [Nat.zero_add, Nat.mul_assoc, ← Nat.pow_add, show x.toNat + (-(x - (k : Int))).toNat = k by omega, rne_zero] at this);(exact this)
 ·rw [if_neg h, if_neg (by omega), show (-(x - (k : Int))).toNat = (-x).toNat + k by omega, rne_scale]

def last (m : Nat) (p : Int) : Int := max (p + m.log2 - 52) (-1074)
def nr (m : Nat) (p : Int) : Nat := if m = 0 then 0 else min ((last m p + 1074).toNat * 4503599627370496 + rnd m (p - last m p)) 9218868437227405312

theorem nearest_nr (neg : Bool) (m : Nat) (p : Int) : Ieee.double.nearest neg m p = (if neg then 9223372036854775808 else 0) + nr m p := by
 have hw : ∀ r : Nat, Ieee.double.word neg r = (if neg then 9223372036854775808 else 0) + r := by
  (intro r; unfold Ieee.Format.word);(rw [show Ieee.double.signWeight = 9223372036854775808 from rfl])
  cases neg <;> simp
 unfold Ieee.Format.nearest nr
 by_cases h0 : m = 0
 ·rw [if_pos h0, if_pos h0, hw]
 ·rw [if_neg h0, if_neg h0]
  (have hl : max (p + (m.log2 : Int) - (Ieee.double.fractionBits : Nat)) Ieee.double.leastPlace = last m p := rfl);(have hb : Ieee.double.binade = 4503599627370496 := rfl);(have hi : Ieee.double.infRung = 9218868437227405312 := rfl);(have hp : Ieee.double.leastPlace = -1074 := rfl);(simp only [hl, hb, hi]);(rw [hw, hp, cut_rne, Nat.shiftLeft_eq, show last m p - (-1074) = last m p + 1074 by omega])
  congr 3
  unfold rnd
  by_cases hx : 0 ≤ p - last m p
  ·rw [if_pos hx, show (last m p - p).toNat = 0 by omega, rne_zero]
  ·rw [if_neg hx, show (p - last m p).toNat = 0 by omega, Nat.pow_zero, Nat.mul_one, show -(p - last m p) = last m p - p by omega]
theorem nr_zero (p : Int) : nr 0 p = 0 := by unfold nr; rw [if_pos rfl]
theorem nr_le (m : Nat) (p : Int) : nr m p ≤ 9218868437227405312 := by
 unfold nr; split
 ·decide
 ·exact Nat.min_le_right _ _
theorem nr_scale (m k : Nat) (p : Int) : nr (m * 2 ^ k) (p - k) = nr m p := by
 unfold nr
 by_cases h : m = 0
 ·rw [h, Nat.zero_mul, if_pos rfl, if_pos rfl]
 ·have hk : m * 2 ^ k ≠ 0 := Nat.mul_ne_zero h (Nat.pos_iff_ne_zero.1 (Nat.two_pow_pos k))
  rw [if_neg h, if_neg hk]
  have hl : last (m * 2 ^ k) (p - k) = last m p := by
   unfold last; rw [log2_mul_pow h]; congr 1; omega
  rw [hl, show p - (k : Int) - last m p = p - last m p - k by omega, rnd_scale]
theorem nr_scale' (m k : Nat) (p : Int) : nr (m * 2 ^ k) p = nr m (p + k) := by
 have := nr_scale m k (p + k)
 rwa [show p + (k : Int) - k = p by omega] at this
theorem nr_of {h : Nat} {p : Int} (h1 : h ≤ 9007199254740992) (hp : -1074 ≤ p) (hb : p = -1074 ∨ 4503599627370496 ≤ h) :
  nr h p = min ((p + 1074).toNat * 4503599627370496 + h) 9218868437227405312 := by
 by_cases h0 : h = 0
 ·subst h0; rw [nr_zero]
  rcases hb with hb | hb
  ·subst hb; decide +kernel
  ·omega
 ·unfold nr; rw [if_neg h0]
  by_cases h53 : h = 9007199254740992
  ·subst h53
   (have hl : Nat.log2 9007199254740992 = 53 := log2_unique (by decide) (by decide));(have : last 9007199254740992 p = p + 1 := by unfold last; rw [hl]; omega);(rw [this, show p - (p + 1) = -1 by omega]);(have hr : rnd 9007199254740992 (-1) = 4503599627370496 := by decide +kernel);(have e : (p + 1 + 1074).toNat * 4503599627370496 + 4503599627370496 = (p + 1074).toNat * 4503599627370496 + 9007199254740992 := by omega);(rw [hr, e])
  ·have hlt : h.log2 < 53 := (Nat.log2_lt h0).2 (by omega)
   have : last h p = p := by
    unfold last
    rcases hb with hb | hb
    ·omega
    ·have : h.log2 = 52 := log2_unique (by omega) (by omega)
     omega
   (rw [this, show p - p = 0 by omega]);(have hr : rnd h 0 = h := by unfold rnd; rw [if_pos (Int.le_refl 0)]; simp);(rw [hr])
theorem rne_le {n d B : Nat} (h : n ≤ B * 2 ^ d) : rne n d ≤ B := by
 (unfold rne);(have hd := Nat.two_pow_pos d)
 by_cases e : n = B * 2 ^ d
 ·subst e
  rw [Nat.mul_div_cancel _ hd, Nat.mul_mod_left, if_neg (by omega)]; omega
 ·have : n / 2 ^ d < B := (Nat.div_lt_iff_lt_mul hd).2 (by omega)
  split <;> omega
theorem le_rne {n d B : Nat} (h : B * 2 ^ d ≤ n) : B ≤ rne n d := by
 (unfold rne);(have := (Nat.le_div_iff_mul_le (Nat.two_pow_pos d)).2 h);(omega)
end Tn

/- Plain laws: a float's reading, and that floats stand as their ranks do. No program in sight. -/
namespace Tn
open Go Go.RowKit

def dm (r : Nat) : Nat := if r < 4503599627370496 then r else 4503599627370496 + r % 4503599627370496
def dp (r : Nat) : Int := if r < 4503599627370496 then -1074 else (r / 4503599627370496 : Nat) - 1075
def V (r : Nat) : Nat := dm r * 2 ^ (dp r + 1074).toNat

theorem dp_ge (r : Nat) : -1074 ≤ dp r := by
 unfold dp; split
 ·omega
 ·have : 1 ≤ r / 4503599627370496 := by omega
  omega
theorem V_succ (r : Nat) : V r < V (r + 1) := by
 unfold V dm dp
 by_cases h : r + 1 < 4503599627370496
 ·rw [if_pos h, if_pos h, if_pos (by omega), if_pos (by omega)]; simp
 ·by_cases h' : r < 4503599627370496
  ·have e : r = 4503599627370495 := by omega
   subst e; decide +kernel
  ·rw [if_neg h, if_neg h, if_neg h', if_neg h']
   by_cases hc : r % 4503599627370496 = 4503599627370495
   ·have e1 : (r + 1) % 4503599627370496 = 0 := by omega
    (have e2 : (r + 1) / 4503599627370496 = r / 4503599627370496 + 1 := by omega);(rw [hc, e1, e2]);(have e3 : (((r / 4503599627370496 + 1 : Nat) : Int) - 1075 + 1074).toNat = (((r / 4503599627370496 : Nat) : Int) - 1075 + 1074).toNat + 1 := by omega);(rw [e3, Nat.pow_succ]);(generalize (((r / 4503599627370496 : Nat) : Int) - 1075 + 1074).toNat = k);(have := Nat.two_pow_pos k);(generalize 2 ^ k = K at *);(omega)
   ·have e1 : (r + 1) % 4503599627370496 = r % 4503599627370496 + 1 := by omega
    (have e2 : (r + 1) / 4503599627370496 = r / 4503599627370496 := by omega);(rw [e1, e2]);(exact Nat.mul_lt_mul_of_pos_right (by omega) (Nat.two_pow_pos _))
theorem V_lt {r r' : Nat} (h : r < r') : V r < V r' := by
 induction r' with
 | zero => omega
 | succ n ih =>
  by_cases e : r = n
  ·subst e; exact V_succ _
  ·exact Nat.lt_trans (ih (by omega)) (V_succ n)
theorem V_le {r r' : Nat} (h : r ≤ r') : V r ≤ V r' := by
 by_cases e : r = r'
 ·rw [e]; exact Nat.le_refl _
 ·exact Nat.le_of_lt (V_lt (by omega))
theorem V_lt_iff {r r' : Nat} : V r < V r' ↔ r < r' :=
 ⟨fun h => Nat.lt_of_not_le fun h' => by have := V_le h'; omega, V_lt⟩

theorem read_neg {b : Nat} (h : b < 18446744073709551616) : (b / 9223372036854775808 % 2 == 1) = sgn b := by
 unfold sgn; rw [Bool.eq_iff_iff, beq_iff_eq, decide_eq_true_iff]; omega
theorem read_fin {b : Nat} (h : b < 18446744073709551616) (hf : fin b = true) : Ieee.double.read b = .number (sgn b) (dm (mag b)) (dp (mag b)) := by
 (unfold fin at hf);(have hf := of_decide_eq_true hf);(unfold Ieee.Format.read);(have e1 : Ieee.double.signWeight = 9223372036854775808 := rfl);(have e2 : Ieee.double.binade = 4503599627370496 := rfl);(have e3 : Ieee.double.infRung = 9218868437227405312 := rfl);(have e4 : Ieee.double.leastPlace = -1074 := rfl);(simp only [e1, e2, e3, e4]);(rw [read_neg h, show b % 9223372036854775808 = mag b from rfl]);(unfold dm dp)
 by_cases c : mag b < 4503599627370496
 ·rw [if_pos c, if_pos c, if_pos c]
 ·rw [if_neg c, if_pos hf, if_neg c, if_neg c]
  congr 1
  (have : 1 ≤ mag b / 4503599627370496 := by omega);(omega)
theorem read_inf {b : Nat} (h : b < 18446744073709551616) (hf : isinf b = true) : Ieee.double.read b = .infinity (sgn b) := by
 (unfold isinf at hf);(have hf := of_decide_eq_true hf);(unfold Ieee.Format.read);(have e1 : Ieee.double.signWeight = 9223372036854775808 := rfl);(have e2 : Ieee.double.binade = 4503599627370496 := rfl);(have e3 : Ieee.double.infRung = 9218868437227405312 := rfl);(simp only [e1, e2, e3]);(rw [read_neg h, show b % 9223372036854775808 = mag b from rfl, hf, if_neg (by decide), if_neg (by decide), if_pos rfl])
theorem read_nan {b : Nat} (hf : nan b = true) : ∃ s t, Ieee.double.read b = .nan s t := by
 (unfold nan at hf);(have hf := of_decide_eq_true hf);(unfold Ieee.Format.read);(have e1 : Ieee.double.signWeight = 9223372036854775808 := rfl);(have e2 : Ieee.double.binade = 4503599627370496 := rfl);(have e3 : Ieee.double.infRung = 9218868437227405312 := rfl);(simp only [e1, e2, e3]);(rw [show b % 9223372036854775808 = mag b from rfl, if_neg (by omega), if_neg (by omega), if_neg (by omega)]);(exact ⟨_, _, rfl⟩)
theorem kinds (b : Nat) : fin b = true ∨ isinf b = true ∨ nan b = true := by
 (unfold fin isinf nan);(simp only [decide_eq_true_iff]; omega)
theorem fin_nan {b : Nat} (h : fin b = true) : nan b = false := by
 unfold fin at h; unfold nan; have := of_decide_eq_true h; exact decide_eq_false (by omega)
theorem inf_nan {b : Nat} (h : isinf b = true) : nan b = false := by
 unfold isinf at h; unfold nan; have := of_decide_eq_true h; exact decide_eq_false (by omega)
theorem rank_val {b : Nat} (h : nan b = false) : rank b = if sgn b = true then -(mag b : Int) else (mag b : Int) := by
 unfold rank; rw [h, if_neg (by decide)]

theorem cmp_def (x y : Int) : compare x y = if x < y then .lt else if x = y then .eq else .gt := rfl
theorem compare_scale (x y : Int) (k : Nat) : compare (x * 2 ^ k) (y * 2 ^ k) = compare x y := by
 (have hk : (0 : Int) < 2 ^ k := Int.pow_pos (by decide));(simp only [cmp_def]);(have h1 : x * 2 ^ k < y * 2 ^ k ↔ x < y := ⟨fun h => Int.lt_of_mul_lt_mul_right h (Int.le_of_lt hk), fun h => Int.mul_lt_mul_of_pos_right h hk⟩);(have h2 : x * 2 ^ k = y * 2 ^ k ↔ x = y := ⟨fun h => Int.eq_of_mul_eq_mul_right (by omega) h, fun h => by rw [h]⟩);(simp only [h1, h2])
def sV (b : Nat) : Int := if sgn b = true then -(V (mag b) : Int) else (V (mag b) : Int)
theorem signed_scale (s : Bool) (m : Nat) (i base : Int) (h1 : -1074 ≤ base) (h2 : base ≤ i) :
  Ieee.signed s m (i - base).toNat * 2 ^ (base + 1074).toNat = if s = true then -((m * 2 ^ (i + 1074).toNat : Nat) : Int) else ((m * 2 ^ (i + 1074).toNat : Nat) : Int) := by
 (unfold Ieee.signed);(have e : (i + 1074).toNat = (i - base).toNat + (base + 1074).toNat := by omega);(rw [Nat.shiftLeft_eq, e, Nat.pow_add, ← Nat.mul_assoc]);(cases s)
 ·simp
 ·simp [Int.neg_mul]
theorem compare_rank {a b : Nat} (ha : fin a = true) (hb : fin b = true) : compare (sV a) (sV b) = compare (rank a) (rank b) := by
 (rw [rank_val (fin_nan ha), rank_val (fin_nan hb)]);(unfold sV);(have m0 : V 0 = 0 := by decide);(have h1 : V (mag a) < V (mag b) ↔ mag a < mag b := V_lt_iff);(have h2 : V (mag b) < V (mag a) ↔ mag b < mag a := V_lt_iff);(have h3 : 0 < V (mag a) ↔ 0 < mag a := by have := @V_lt_iff 0 (mag a); rwa [m0] at this);(have h4 : 0 < V (mag b) ↔ 0 < mag b := by have := @V_lt_iff 0 (mag b); rwa [m0] at this);(simp only [cmp_def]);(generalize V (mag a) = A at *);(generalize V (mag b) = B at *);(generalize mag a = x at *);(generalize mag b = y at *)
 cases sgn a <;> cases sgn b <;> simp only [if_true, Bool.false_eq_true, if_false]
 all_goals
  by_cases c1 : x < y
  ·by_cases c2 : x = 0
   ·by_cases c3 : y = 0
    ·omega
    ·(repeat' split) <;> first | rfl | omega
   ·(repeat' split) <;> first | rfl | omega
  ·(repeat' split) <;> first | rfl | omega
theorem order_rank {a b : Nat} (ha : a < 18446744073709551616) (hb : b < 18446744073709551616) (na : nan a = false) (nb : nan b = false) :
  Ieee.double.order a b = some (compare (rank a) (rank b)) := by
 unfold Ieee.Format.order
 rcases kinds a with fa | ia | n
 ·rcases kinds b with fb | ib | n
  ·rw [read_fin ha fa, read_fin hb fb]
   show some (compare (Ieee.signed (sgn a) (dm (mag a)) (dp (mag a) - min (dp (mag a)) (dp (mag b))).toNat) (Ieee.signed (sgn b) (dm (mag b)) (dp (mag b) - min (dp (mag a)) (dp (mag b))).toNat)) = _
   (rw [← compare_rank fa fb, ← compare_scale _ _ (min (dp (mag a)) (dp (mag b)) + 1074).toNat]);(have h1 := dp_ge (mag a));(have h2 := dp_ge (mag b));(rw [signed_scale _ _ _ _ (by omega) (by omega), signed_scale _ _ _ _ (by omega) (by omega)]);(rfl)
  ·rw [read_fin ha fa, read_inf hb ib]
   show some (if sgn b then Ordering.gt else .lt) = _
   (have h1 := rank_bd a);(rw [rank_val na, rank_val nb]);(unfold isinf at ib; unfold fin at fa);(have ib := of_decide_eq_true ib);(have fa := of_decide_eq_true fa);(rw [ib]; simp only [cmp_def])
   congr 1
   cases sgn a <;> cases sgn b <;> simp only [if_true, Bool.false_eq_true, if_false] <;> (repeat' split) <;> first | rfl | omega
  ·rw [n] at nb; cases nb
 ·rcases kinds b with fb | ib | n
  ·rw [read_inf ha ia, read_fin hb fb]
   show some (if sgn a then Ordering.lt else .gt) = _
   (rw [rank_val na, rank_val nb]);(unfold isinf at ia; unfold fin at fb);(have ia := of_decide_eq_true ia);(have fb := of_decide_eq_true fb);(rw [ia]; simp only [cmp_def])
   congr 1
   cases sgn a <;> cases sgn b <;> simp only [if_true, Bool.false_eq_true, if_false] <;> (repeat' split) <;> first | rfl | omega
  ·rw [read_inf ha ia, read_inf hb ib]
   show some (compare (sgn b).toNat (sgn a).toNat) = _
   (rw [rank_val na, rank_val nb]);(unfold isinf at ia ib);(rw [of_decide_eq_true ia, of_decide_eq_true ib])
   cases sgn a <;> cases sgn b <;> rfl
  ·rw [n] at nb; cases nb
 ·rw [n] at na; cases na
theorem order_nan {a b : Nat} (h : nan a = true ∨ nan b = true) : Ieee.double.order a b = none := by
 unfold Ieee.Format.order
 rcases h with h | h
 ·obtain ⟨s, t, e⟩ := read_nan h
  rw [e]; rfl
 ·obtain ⟨s, t, e⟩ := read_nan h
  rw [e]; cases Ieee.double.read a <;> rfl
end Tn

/- Plain laws for math.Ldexp and ieee.Join. No program in sight. -/
namespace Tn
open Go Go.RowKit

theorem nr_norm {h : Nat} (h1 : 1 ≤ h) (h2 : h ≤ 9007199254740992) :
  ∃ M : Nat, 4503599627370496 ≤ M ∧ M < 9007199254740992 ∧ nr h 0 = M + (h.log2 + 1022) * 4503599627370496 ∧ h.log2 ≤ 53 ∧ ∀ n : Int, nr h n = nr M (n + h.log2 - 52) := by
 by_cases e : h = 9007199254740992
 ·subst e
  (have hl : Nat.log2 9007199254740992 = 53 := log2_unique (by decide) (by decide));(have hs : ∀ n : Int, nr 9007199254740992 n = nr 4503599627370496 (n + 1) := fun n => nr_scale' 4503599627370496 1 n);(refine ⟨4503599627370496, by decide, by decide, ?_, by omega, fun n => ?_⟩)
  ·rw [hs, nr_of (by decide) (by decide) (Or.inr (by decide)), hl]; decide +kernel
  ·rw [hs, hl]; congr 1; omega
 ·have h0 : h ≠ 0 := by omega
  (have hl : h.log2 < 53 := (Nat.log2_lt h0).2 (by omega));(have a := log2_lo h0);(have b := log2_hi h);(have hp := Nat.two_pow_pos (52 - h.log2))
  have c1 : 4503599627370496 ≤ h * 2 ^ (52 - h.log2) := by
   (have : 2 ^ h.log2 * 2 ^ (52 - h.log2) = 4503599627370496 := by rw [← Nat.pow_add, show h.log2 + (52 - h.log2) = 52 by omega]);(rw [← this]; exact Nat.mul_le_mul_right _ a)
  have c2 : h * 2 ^ (52 - h.log2) < 9007199254740992 := by
   (have : 2 ^ (h.log2 + 1) * 2 ^ (52 - h.log2) = 9007199254740992 := by rw [← Nat.pow_add, show h.log2 + 1 + (52 - h.log2) = 53 by omega]);(rw [← this]; exact Nat.mul_lt_mul_of_pos_right b hp)
  have hs : ∀ n : Int, nr h n = nr (h * 2 ^ (52 - h.log2)) (n + h.log2 - 52) := fun n => by
   rw [nr_scale']; congr 1; omega
  (refine ⟨h * 2 ^ (52 - h.log2), c1, c2, ?_, by omega, hs⟩);(rw [hs, nr_of (by omega) (by omega) (Or.inr c1), Nat.min_eq_left (by omega)]; omega)

theorem mul_pow {c x : Nat} {i : Int} (hc : Ieee.double.read c = .number false 4503599627370496 i) (hx : x < 9218868437227405312) :
  Ieee.double.mul c x = some (nr (dm x) (dp x + (i + 52))) := by
 (have hm : mag x = x := Nat.mod_eq_of_lt (by omega));(have hf : fin x = true := by unfold fin; rw [hm]; exact decide_eq_true hx);(have hs : sgn x = false := by unfold sgn; exact decide_eq_false (by omega));(unfold Ieee.Format.mul);(rw [hc, read_fin (by omega) hf, hm, hs])
 show some (Ieee.double.nearest false (4503599627370496 * dm x) (i + dp x)) = _
 rw [nearest_nr, if_neg (by decide), Nat.zero_add, Nat.mul_comm]
 congr 1
 (have := nr_scale' (dm x) 52 (i + dp x));(rw [show (2 : Nat) ^ 52 = 4503599627370496 from rfl] at this);(rw [this]; congr 1; omega)
theorem read_one : Ieee.double.read 4607182418800017408 = .number false 4503599627370496 (-52) := by decide +kernel
theorem read_m53 : Ieee.double.read 4368491638549381120 = .number false 4503599627370496 (-105) := by decide +kernel
theorem dm_of {M k : Nat} (h1 : 4503599627370496 ≤ M) (h2 : M < 9007199254740992) (hk : 1 ≤ k) : dm (M - 4503599627370496 + k * 4503599627370496) = M := by
 unfold dm; rw [if_neg (by omega)]; omega
theorem dp_of {M k : Nat} (h1 : 4503599627370496 ≤ M) (h2 : M < 9007199254740992) (hk : 1 ≤ k) : dp (M - 4503599627370496 + k * 4503599627370496) = k - 1075 := by
 (unfold dp; rw [if_neg (by omega)]);(have : (M - 4503599627370496 + k * 4503599627370496) / 4503599627370496 = k := by omega);(rw [this])
theorem ldx_mid {M h : Nat} {n : Int} (h1 : 4503599627370496 ≤ M) (h2 : M < 9007199254740992) (hs : nr h n = nr M (n + h.log2 - 52)) (e1 : -1022 ≤ n + h.log2) (e2 : n + h.log2 ≤ 1023) :
  floatBits .mul .f64 4607182418800017408 (M - 4503599627370496 + (n + h.log2 + 1023).toNat * 4503599627370496) = some (nr h n) := by
 have hk : 1 ≤ (n + h.log2 + 1023).toNat := by omega
 show Ieee.double.mul _ _ = _
 rw [mul_pow read_one (by omega), dm_of h1 h2 hk, dp_of h1 h2 hk, hs]
 congr 2; omega
theorem ldx_low {M h : Nat} {n : Int} (h1 : 4503599627370496 ≤ M) (h2 : M < 9007199254740992) (hs : nr h n = nr M (n + h.log2 - 52)) (e1 : -1074 ≤ n + h.log2) (e2 : n + h.log2 < -1022) :
  floatBits .mul .f64 4368491638549381120 (M - 4503599627370496 + (n + h.log2 + 53 + 1023).toNat * 4503599627370496) = some (nr h n) := by
 have hk : 1 ≤ (n + h.log2 + 53 + 1023).toNat := by omega
 show Ieee.double.mul _ _ = _
 rw [mul_pow read_m53 (by omega), dm_of h1 h2 hk, dp_of h1 h2 hk, hs]
 congr 2; omega
theorem ldx_high {M h : Nat} {n : Int} (h1 : 4503599627370496 ≤ M) (h2 : M < 9007199254740992) (hs : nr h n = nr M (n + h.log2 - 52)) (e2 : 1023 < n + h.log2) :
  nr h n = 9218868437227405312 := by
 rw [hs, nr_of (by omega) (by omega) (Or.inr h1), Nat.min_eq_right (by omega)]
theorem andNot_exp (b : Nat) (h : b < 9218868437227405312) : bits .andNot .u64 (b : Int) 9218868437227405312 = ((b % 4503599627370496 : Nat) : Int) := by
 (have h1 := u64_andNot_nat b 9218868437227405312 (by omega) (by decide));(rw [show ((9218868437227405312 : Nat) : Int) = (9218868437227405312 : Int) from rfl] at h1);(rw [h1])
 congr 1
 (have e : (18446744073709551615 - 9218868437227405312 : Nat) = 2 ^ 63 + (2 ^ 52 - 1) := by decide);(rw [e])
 apply Nat.eq_of_testBit_eq
 (intro i);(have hb : b < 2 ^ 63 := by omega);(rw [Nat.testBit_and, show (4503599627370496 : Nat) = 2 ^ 52 from rfl, Nat.testBit_mod_two_pow])
 by_cases hi : i < 63
 ·rw [Nat.testBit_two_pow_add_gt hi, Nat.testBit_two_pow_sub_one, Bool.and_comm]
 ·rw [Nat.testBit_lt_two_pow (Nat.lt_of_lt_of_le hb (pow_le (by omega)))]; simp
theorem or_exp {M k : Nat} (h2 : M < 4503599627370496) (hk : k < 2047) : bits .or .u64 (M : Int) (((k * 4503599627370496 : Nat)) : Int) = ((M + k * 4503599627370496 : Nat) : Int) := by
 rw [u64_or_nat M _ (by omega) (by omega), Nat.or_comm, nat_join 52 _ _ (by rw [show (2 : Nat) ^ 52 = 4503599627370496 from rfl]; omega) h2, Nat.add_comm]
theorem some_beq (x y : Ordering) : (some x == some y) = (x == y) := by cases x <;> cases y <;> rfl
theorem ord_self {a : Nat} (h : a < 18446744073709551616) : (FloatKind.f64.format.order a a != some .eq) = nan a := by
 show (Ieee.double.order a a != some .eq) = nan a
 cases hn : nan a
 ·rw [order_rank h h hn hn, cmp_def, if_neg (by omega), if_pos rfl]; rfl
 ·rw [order_nan (Or.inl hn)]; rfl
theorem nan_mag (a : Nat) : nan (mag a) = nan a := by
 unfold nan; rw [show mag (mag a) = mag a from Nat.mod_eq_of_lt (mag_lt a)]
theorem rank_mag {a : Nat} (h : nan a = false) : rank (mag a) = mag a := by
 (rw [rank_val (by rw [nan_mag]; exact h)]);(have : sgn (mag a) = false := by unfold sgn; exact decide_eq_false (by have := mag_lt a; omega));(rw [this, if_neg (by decide), show mag (mag a) = mag a from Nat.mod_eq_of_lt (mag_lt a)])
theorem ord_inf (a : Nat) : (FloatKind.f64.format.order (mag a) 9218868437227405311 == some .gt) = isinf a := by
 show (Ieee.double.order _ _ == some .gt) = isinf a
 have hm := mag_lt a
 cases hn : nan a
 ·rw [order_rank (by omega) (by decide) (by rw [nan_mag]; exact hn) (by decide), rank_mag hn, show rank 9218868437227405311 = 9218868437227405311 from by decide, cmp_def, some_beq]
  (unfold isinf);(unfold nan at hn);(have := of_decide_eq_false hn)
  by_cases e : mag a = 9218868437227405312
  ·rw [if_neg (by omega), if_neg (by omega), decide_eq_true e]; rfl
  ·rw [decide_eq_false e]
   by_cases e2 : (mag a : Int) < 9218868437227405311
   ·rw [if_pos e2]; rfl
   ·rw [if_neg e2, if_pos (by omega)]; rfl
 ·rw [order_nan (Or.inl (by rw [nan_mag]; exact hn))]
  have : isinf a = false := by
   cases hi : isinf a
   ·rfl
   ·have := inf_nan hi; rw [hn] at this; cases this
  rw [this]; rfl
theorem ord_least (a : Nat) (hn : nan a = false) (h : 4503599627370496 ≤ mag a) : (FloatKind.f64.format.order (mag a) 4503599627370496 == some .lt) = false := by
 show (Ieee.double.order _ _ == some .lt) = false
 (have hm := mag_lt a);(rw [order_rank (by omega) (by decide) (by rw [nan_mag]; exact hn) (by decide), rank_mag hn, show rank 4503599627370496 = 4503599627370496 from by decide, cmp_def, if_neg (by omega), some_beq])
 by_cases e : (mag a : Int) = 4503599627370496
 ·rw [if_pos e]; rfl
 ·rw [if_neg e]; rfl
theorem ord_zero {r : Nat} (h1 : 0 < r) (h2 : r ≤ 9218868437227405312) : (FloatKind.f64.format.order r 0 == some .eq) = false ∧ (FloatKind.f64.format.order r 0 == some .lt) = false := by
 show (Ieee.double.order _ _ == some .eq) = false ∧ (Ieee.double.order _ _ == some .lt) = false
 (have hm : mag r = r := Nat.mod_eq_of_lt (by omega));(have hn : nan r = false := by unfold nan; exact decide_eq_false (by omega));(have hs : sgn r = false := by unfold sgn; exact decide_eq_false (by omega));(rw [order_rank (by omega) (by decide) hn (by decide), rank_val hn, hs, hm, show rank 0 = 0 from by decide, if_neg (by decide), cmp_def, if_neg (by omega), if_neg (by omega)]);(exact ⟨rfl, rfl⟩)
theorem rounded_facts {u q : Nat} (hu : u < 18446744073709551616) (hq : q < 64) (hq1 : 1 ≤ q) :
  ∃ P R Q : Nat, IntKind.u64.wrap (2 ^ (q - 1)) = (P : Int) ∧ bits .and .u64 (u : Int) (IntKind.u64.wrap (IntKind.u64.wrap (2 ^ q) - 1)) = (R : Int) ∧ (u : Int) / 2 ^ q = (Q : Int) ∧
   bits .and .u64 (Q : Int) 1 = ((Q % 2 : Nat) : Int) ∧ Q < 9223372036854775808 ∧ rne u q = Q + (if P < R ∨ (P = R ∧ Q % 2 = 1) then 1 else 0) := by
 (have hp : 2 ^ q = 2 * 2 ^ (q - 1) := by rw [← Nat.pow_succ']; congr 1; omega);(have hlt : 2 ^ q ≤ 2 ^ 63 := pow_le (by omega));(have hpos := Nat.two_pow_pos (q - 1));(have c1 : ((2 : Int) ^ (q - 1)) = ((2 ^ (q - 1) : Nat) : Int) := by simp);(have c2 : ((2 : Int) ^ q) = ((2 ^ q : Nat) : Int) := by simp);(refine ⟨2 ^ (q - 1), u % 2 ^ q, u / 2 ^ q, ?_, ?_, ?_, ?_, ?_, ?_⟩)
 ·rw [c1, IntKind.wrap_u64]; omega
 ·have e : IntKind.u64.wrap (IntKind.u64.wrap (2 ^ q) - 1) = ((2 ^ q - 1 : Nat) : Int) := by
   rw [c2, IntKind.wrap_u64, IntKind.wrap_u64]; omega
  rw [e, u64_and_nat u (2 ^ q - 1) hu (by omega), Nat.and_two_pow_sub_one_eq_mod]
 ·rw [c2]; rfl
 ·have hQ : u / 2 ^ q < 18446744073709551616 := Nat.lt_of_le_of_lt (Nat.div_le_self _ _) hu
  (have := u64_and_nat (u / 2 ^ q) 1 hQ (by decide));(rw [Nat.and_one_is_mod] at this);(exact this)
 ·have : 2 ≤ 2 ^ q := by omega
  (rw [Nat.div_lt_iff_lt_mul (by omega)]);(have : 9223372036854775808 * 2 ≤ 9223372036854775808 * 2 ^ q := Nat.mul_le_mul_left _ this);(omega)
 ·unfold rne
  congr 1
  (rw [hp]);(generalize u % (2 * 2 ^ (q - 1)) = R);(generalize 2 ^ (q - 1) = P);(have e1 : (2 * P < 2 * R) ↔ P < R := by omega);(have e2 : (2 * P = 2 * R) ↔ P = R := by omega);(simp only [e1, e2])
theorem rounded_facts' {u q : Nat} (hu : u < 18446744073709551616) (hq : q < 64) (hq1 : 1 ≤ q) :
  ∃ P R Q : Int, IntKind.u64.wrap (2 ^ (q - 1)) = P ∧ bits .and .u64 (u : Int) (IntKind.u64.wrap (IntKind.u64.wrap (2 ^ q) - 1)) = R ∧ (u : Int) / 2 ^ q = Q ∧
   bits .and .u64 Q 1 = Q % 2 ∧ ((Hid (P < R ∨ (P = R ∧ Q % 2 = 1)) ∧ Hid (IntKind.u64.wrap (Q + 1) = (rne u q : Int))) ∨ (Hid (¬ (P < R ∨ (P = R ∧ Q % 2 = 1))) ∧ Hid (Q = (rne u q : Int)))) := by
 (obtain ⟨P, R, Q, e1, e2, e3, e4, hQ, hr⟩ := rounded_facts hu hq hq1);(refine ⟨P, R, Q, e1, e2, e3, by rw [e4]; omega, ?_⟩)
 by_cases c : P < R ∨ (P = R ∧ Q % 2 = 1)
 ·refine Or.inl ⟨?_, ?_⟩
  ·show _ ∨ _
   omega
  ·show IntKind.u64.wrap _ = _
   rw [hr, if_pos c, IntKind.wrap_u64]; omega
 ·refine Or.inr ⟨?_, ?_⟩
  ·show ¬ _
   omega
  ·show _ = _
   rw [hr, if_neg c]; rfl
theorem rne_64 {u : Nat} (hu : u < 18446744073709551616) : (rne u 64 : Int) = if decide (9223372036854775808 < (u : Int)) = true then 1 else 0 := by
 (have e : (2 : Nat) ^ 64 = 18446744073709551616 := by decide);(have e1 : u / 18446744073709551616 = 0 := Nat.div_eq_of_lt hu);(have e2 : u % 18446744073709551616 = u := Nat.mod_eq_of_lt hu);(unfold rne);(rw [e, e1, e2])
 by_cases c : 9223372036854775808 < u
 ·rw [if_pos (Or.inl (by omega)), if_pos (decide_eq_true (by omega))]; rfl
 ·rw [if_neg (by omega), if_neg (by rw [decide_eq_true_iff]; omega)]; rfl
def jn (m e : Int) : Nat := (if m < 0 then 9223372036854775808 else 0) + nr m.natAbs e
def bl (u : Nat) : Nat := if u = 0 then 0 else u.log2 + 1
theorem bitLen_log {u : Nat} (h : u ≠ 0) : bl u = u.log2 + 1 := by unfold bl; rw [if_neg h]
theorem bl_le {u : Nat} (h : u < 18446744073709551616) : bl u ≤ 64 := by
 unfold bl; split
 ·omega
 ·rename_i h0; have := (Nat.log2_lt (k := 64) h0).2 h; omega
theorem lib_bitLen {u : Nat} (h : u < 18446744073709551616) : Lib.bitLen u = bl u := by
 unfold bl Lib.bitLen
 by_cases h0 : u = 0
 ·rw [if_pos h0, h0]; exact Lib.bitLenAux_zero _
 ·rw [if_neg h0]
  (have ⟨a, b, c⟩ := Lib.bitLenAux_bounds 64 u h h0);(have : u.log2 = Lib.bitLenAux 64 u - 1 := log2_unique b (by rwa [show Lib.bitLenAux 64 u - 1 + 1 = Lib.bitLenAux 64 u by omega]));(omega)
theorem join_h {u : Nat} {E X : Int} (hu : 1 ≤ u) (hX : X = max ((bl u : Int) - 53) (max (-1074 - E) 0)) : rne u X.toNat ≤ 9007199254740992 := by
 rw [bitLen_log (by omega)] at hX
 apply rne_le
 (have h1 := log2_hi u);(have h2 : 2 ^ (u.log2 + 1) ≤ 2 ^ (53 + X.toNat) := pow_le (by omega));(rw [Nat.pow_add 2 53] at h2);(exact Nat.le_trans (Nat.le_of_lt h1) h2)
theorem join_core {u : Nat} {E X : Int} (hu : 1 ≤ u) (hX : X = max ((bl u : Int) - 53) (max (-1074 - E) 0)) : nr (rne u X.toNat) (E + X) = nr u E := by
 (have hh := join_h hu hX);(rw [bitLen_log (by omega)] at hX)
 by_cases h0 : X = 0
 ·rw [h0]; show nr (rne u 0) _ = _
  rw [rne_zero, show E + 0 = E by omega]
 ·have hl : last u E = E + X := by unfold last; omega
  (have hx : E - last u E = -X := by omega);(rw [nr_of hh (by omega)])
  ·conv => rhs; unfold nr
   (rw [if_neg (by omega), hx, hl]);(have : rnd u (-X) = rne u X.toNat := by unfold rnd; rw [if_neg (by omega)]; congr 1; omega);(rw [this])
  ·by_cases hc : E + X = -1074
   ·exact Or.inl hc
   ·refine Or.inr (le_rne ?_)
    (have h1 := log2_lo (n := u) (by omega));(have h2 : 2 ^ (52 + X.toNat) ≤ 2 ^ u.log2 := pow_le (by omega));(rw [Nat.pow_add] at h2);(exact Nat.le_trans h2 h1)
theorem nr_clamp {u : Nat} (hu : u < 18446744073709551616) (e : Int) {K : Int} (hK : 2000 ≤ K) : nr u (min (max e (-K)) K) = nr u e := by
 by_cases h0 : u = 0
 ·rw [h0, nr_zero, nr_zero]
 ·have hl : u.log2 < 64 := (Nat.log2_lt h0).2 hu
  have hi : ∀ p : Int, 2000 ≤ p → nr u p = 9218868437227405312 := fun p hp => by
   (unfold nr; rw [if_neg h0]);(have : 2000 ≤ last u p + 52 := by unfold last; omega);(exact Nat.min_eq_right (by omega))
  have lo : ∀ p : Int, p ≤ -2000 → nr u p = 0 := fun p hp => by
   (unfold nr; rw [if_neg h0]);(have e1 : last u p = -1074 := by unfold last; omega)
   have e2 : rnd u (p - -1074) = 0 := by
    unfold rnd; rw [if_neg (by omega)]
    apply rne_far
    (have h2 : 2 ^ 65 ≤ 2 ^ (-(p - -1074)).toNat := pow_le (by omega));(have e3 : (2 : Nat) ^ 65 = 36893488147419103232 := by decide);(omega)
   rw [e1, e2]; decide
  by_cases c1 : e < -K
  ·rw [lo e (by omega), lo _ (by omega)]
  ·by_cases c2 : K < e
   ·rw [hi e (by omega), hi _ (by omega)]
   ·rw [show min (max e (-K)) K = e by omega]
theorem floatOfInt_nat (n : Nat) : floatOfInt .f64 (n : Int) = nr n 0 := by
 show Ieee.double.nearest (decide ((n : Int) < 0)) (n : Int).natAbs 0 = _
 rw [nearest_nr, decide_eq_false (by omega)]; simp
theorem rne_high {u : Nat} (hu : u < 18446744073709551616) {q : Int} (h : 64 < q) : rne u q.toNat = 0 := by
 apply rne_far
 (have h2 : 2 ^ 65 ≤ 2 ^ q.toNat := pow_le (by omega));(have e3 : (2 : Nat) ^ 65 = 36893488147419103232 := by decide);(omega)
theorem or_sign (x : Nat) (h : x ≤ 9218868437227405312) : bits .or .u64 (x : Int) 9223372036854775808 = ((9223372036854775808 + x : Nat) : Int) := by
 (have h1 := u64_or_nat x 9223372036854775808 (by omega) (by decide));(rw [show ((9223372036854775808 : Nat) : Int) = (9223372036854775808 : Int) from rfl] at h1);(rw [h1, Nat.or_comm, nat_join 63 _ _ (by decide) (by omega)])
theorem or_zero' (x : Nat) (h : x ≤ 9218868437227405312) : bits .or .u64 (x : Int) 0 = (x : Int) := by
 (have h1 := u64_or_nat x 0 (by omega) (by decide));(rw [show ((0 : Nat) : Int) = (0 : Int) from rfl] at h1);(rw [h1, Nat.or_zero])
theorem join_pos {m e E X : Int} {u : Nat} (hm : 0 < m) (hm1 : m < 9223372036854775808) (hu : m = u) (hE : E = min (max e (-5000)) 5000) (hX : X = max ((bl u : Int) - 53) (max (-1074 - E) 0)) :
  (bits .or .u64 ((nr (rne u X.toNat) (E + X) : Nat) : Int) 0).toNat = jn m e := by
 (rw [or_zero' _ (nr_le _ _), join_core (by omega) hX, hE, nr_clamp (by omega) e (by decide)]);(unfold jn; rw [if_neg (by omega), show m.natAbs = u by omega, Int.toNat_natCast, Nat.zero_add])
theorem join_neg {m e E X : Int} {u : Nat} (hm : m < 0) (hm1 : -9223372036854775808 ≤ m) (hu : -m = u) (hE : E = min (max e (-5000)) 5000) (hX : X = max ((bl u : Int) - 53) (max (-1074 - E) 0)) :
  (bits .or .u64 ((nr (rne u X.toNat) (E + X) : Nat) : Int) 9223372036854775808).toNat = jn m e := by
 (rw [or_sign _ (nr_le _ _), join_core (by omega) hX, hE, nr_clamp (by omega) e (by decide)]);(unfold jn; rw [if_pos hm, show m.natAbs = u by omega, Int.toNat_natCast])
theorem jn_zero (x : Int) : jn 0 x = 0 := by
 unfold jn; rw [if_neg (by decide)]; show 0 + nr 0 x = 0; rw [nr_zero]
theorem wrap_u64_nat {u : Nat} (h : u < 18446744073709551616) : IntKind.u64.wrap (u : Int) = u := by rw [IntKind.wrap_u64]; omega
def rneI (u : Nat) (q : Int) : Nat := rne u q.toNat
theorem join_hI {u : Nat} {E X : Int} (hu : RowKit.Hid (1 ≤ u)) (hX : X = max ((bl u : Int) - 53) (max (-1074 - E) 0)) : rneI u X ≤ 9007199254740992 := join_h hu.out hX
theorem join_posI {m e E X Y : Int} {u : Nat} (hm : RowKit.Hid (0 < m ∧ m < 9223372036854775808)) (hu : m = u) (hE : min (max e (-5000)) 5000 = E) (hX : X = max ((bl u : Int) - 53) (max (-1074 - E) 0)) (hY : Y = E + X) :
  (bits .or .u64 ((nr (rneI u X) Y : Nat) : Int) 0).toNat = jn m e := by
 rw [hY]; exact join_pos hm.out.1 hm.out.2 hu hE.symm hX
theorem join_negI {m e E X Y : Int} {u : Nat} (hm : RowKit.Hid (m < 0 ∧ -9223372036854775808 ≤ m ∧ -m = u)) (hE : min (max e (-5000)) 5000 = E) (hX : X = max ((bl u : Int) - 53) (max (-1074 - E) 0)) (hY : Y = E + X) :
  (bits .or .u64 ((nr (rneI u X) Y : Nat) : Int) 9223372036854775808).toNat = jn m e := by
 rw [hY]; exact join_neg hm.out.1 hm.out.2.1 hm.out.2.2 hE.symm hX
theorem wrap_u64_neg {m : Int} {u : Nat} (h : -m = (u : Int)) (h1 : 1 ≤ u) (h2 : u ≤ 9223372036854775808) : IntKind.u64.wrap (-(IntKind.u64.wrap m)) = u := by rw [IntKind.wrap_u64, IntKind.wrap_u64]; omega
theorem wrap_u64_neg0 {m : Int} {u : Nat} (h : -m = (u : Int)) (h1 : 1 ≤ u) (h2 : u ≤ 9223372036854775808) : IntKind.u64.wrap (0 - (IntKind.u64.wrap m)) = u := by rw [IntKind.wrap_u64, IntKind.wrap_u64]; omega
end Tn

/- Plain laws on the reference's rounding to some bits with a least place. No program in sight. -/
namespace Tn
open Go Go.RowKit

def rneM (v d : Nat) (more : Bool) : Nat := v / 2 ^ d + (if v / 2 ^ (d - 1) % 2 = 1 ∧ (v % 2 ^ (d - 1) ≠ 0 ∨ more = true ∨ v / 2 ^ d % 2 = 1) then 1 else 0)
theorem rneM_false {v d : Nat} (hd : 1 ≤ d) : rneM v d false = rne v d := by
 unfold rneM rne
 congr 1
 have e : 2 ^ d = 2 * 2 ^ (d - 1) := by rw [← Nat.pow_succ']; congr 1; omega
 have hm : v % 2 ^ d = v % 2 ^ (d - 1) + 2 ^ (d - 1) * (v / 2 ^ (d - 1) % 2) := by
  rw [e, Nat.mul_comm, Nat.mod_mul]
 (have hp := Nat.two_pow_pos (d - 1));(have hlt : v % 2 ^ (d - 1) < 2 ^ (d - 1) := Nat.mod_lt _ hp);(rw [hm])
 rcases Nat.mod_two_eq_zero_or_one (v / 2 ^ (d - 1)) with h | h <;> rw [h, e]
 ·rw [if_neg (by simp), if_neg (by omega)]
 ·by_cases c : v % 2 ^ (d - 1) ≠ 0
  ·rw [if_pos ⟨rfl, Or.inl c⟩, if_pos (Or.inl (by omega))]
  ·by_cases c2 : v / (2 * 2 ^ (d - 1)) % 2 = 1
   ·rw [if_pos ⟨rfl, Or.inr (Or.inr c2)⟩, if_pos (Or.inr ⟨by omega, c2⟩)]
   ·rw [if_neg, if_neg]
    ·rintro (h | ⟨_, h⟩)
     ·omega
     ·exact c2 h
    ·rintro ⟨_, h | h | h⟩
     ·exact c h
     ·cases h
     ·exact c2 h
theorem bl_lt {v k : Nat} (h : bl v ≤ k) : v < 2 ^ k := by
 by_cases h0 : v = 0
 ·rw [h0]; exact Nat.two_pow_pos _
 ·rw [bitLen_log h0] at h
  exact Nat.lt_of_lt_of_le (log2_hi v) (pow_le h)
end Tn

/- Plain laws for ieee.Split, Up and Down, and the sorts' order. No program in sight. -/
namespace Tn
open Go Go.RowKit

def spm (b : Nat) : Int := if fin b = true then (if sgn b = true then -(dm (mag b) : Int) else (dm (mag b) : Int)) else 0
def spe (b : Nat) : Int := if fin b = true then (if mag b = 0 then 0 else dp (mag b)) else 0

theorem cls1 {b : Nat} (h : cls b = 1) : mag b = 0 := by
 unfold cls at h; split at h
 ·assumption
 ·split at h
  ·omega
  ·split at h
   ·omega
   ·split at h <;> omega
theorem cls2 {b : Nat} (h : cls b = 2) : mag b ≠ 0 ∧ mag b < 4503599627370496 := by
 unfold cls at h; split at h
 ·omega
 ·split at h
  ·exact ⟨by assumption, by assumption⟩
  ·split at h
   ·omega
   ·split at h <;> omega
theorem cls3 {b : Nat} (h : cls b = 3) : 4503599627370496 ≤ mag b ∧ mag b < 9218868437227405312 := by
 unfold cls at h; split at h
 ·omega
 ·split at h
  ·omega
  ·split at h
   ·exact ⟨by omega, by assumption⟩
   ·split at h <;> omega
theorem cls_fin (b : Nat) : fin b = decide (cls b < 4) := by
 (unfold fin cls);(rw [Bool.eq_iff_iff, decide_eq_true_iff, decide_eq_true_iff])
 split
 ·omega
 ·split
  ·omega
  ·split
   ·omega
   ·split <;> omega
theorem cls_cases (b : Nat) : cls b = 1 ∨ cls b = 2 ∨ cls b = 3 ∨ cls b = 4 ∨ cls b = 5 := by
 unfold cls; split
 ·simp
 ·split
  ·simp
  ·split
   ·simp
   ·split <;> simp
theorem neg_fin {b : Nat} (h : cls b < 4) : neg b = sgn b := by
 apply neg_ok
 apply fin_nan
 rw [cls_fin]; exact decide_eq_true h
theorem spm_zero {b : Nat} (h : cls b = 1) : spm b = 0 ∧ spe b = 0 ∧ fin b = true := by
 (have e := cls1 h);(have f : fin b = true := by rw [cls_fin, h]; rfl);(refine ⟨?_, ?_, f⟩)
 ·unfold spm; rw [if_pos f, e, show dm 0 = 0 from rfl]; split <;> rfl
 ·unfold spe; rw [if_pos f, if_pos e]
theorem spm_none {b : Nat} (h : cls b = 4 ∨ cls b = 5) : spm b = 0 ∧ spe b = 0 ∧ fin b = false := by
 (have f : fin b = false := by rw [cls_fin]; rcases h with h | h <;> rw [h] <;> rfl);(exact ⟨by unfold spm; rw [f, if_neg (by decide)], by unfold spe; rw [f, if_neg (by decide)], f⟩)
theorem spm_sub {b : Nat} (h : cls b = 2) : spm b = (if sgn b = true then -(mag b : Int) else (mag b : Int)) ∧ spe b = -1074 ∧ fin b = true := by
 (obtain ⟨e1, e2⟩ := cls2 h);(have f : fin b = true := by rw [cls_fin, h]; rfl);(refine ⟨?_, ?_, f⟩)
 ·unfold spm; rw [if_pos f]; unfold dm; rw [if_pos e2]
 ·unfold spe; rw [if_pos f, if_neg e1]; unfold dp; rw [if_pos e2]
theorem spm_nor {b : Nat} (h : cls b = 3) : spm b = (if sgn b = true then -((4503599627370496 + mag b % 4503599627370496 : Nat) : Int) else ((4503599627370496 + mag b % 4503599627370496 : Nat) : Int)) ∧ spe b = (mag b / 4503599627370496 : Nat) - 1075 ∧ fin b = true := by
 (obtain ⟨e1, e2⟩ := cls3 h);(have f : fin b = true := by rw [cls_fin, h]; rfl);(refine ⟨?_, ?_, f⟩)
 ·unfold spm; rw [if_pos f]; unfold dm; rw [if_neg (show ¬ mag b < 4503599627370496 by omega)]
 ·unfold spe; rw [if_pos f, if_neg (by omega)]; unfold dp; rw [if_neg (by omega)]
theorem and_mant (x : Nat) (h : x < 18446744073709551616) : bits .and .u64 (x : Int) 4503599627370495 = ((x % 4503599627370496 : Nat) : Int) := by
 (have h1 := u64_and_nat x 4503599627370495 h (by decide));(rw [show ((4503599627370495 : Nat) : Int) = (4503599627370495 : Int) from rfl] at h1);(rw [h1])
 congr 1
 exact Nat.and_two_pow_sub_one_eq_mod x 52
theorem or_mant (x : Nat) (h : x < 4503599627370496) : bits .or .u64 (x : Int) 4503599627370496 = ((4503599627370496 + x : Nat) : Int) := by
 (have h1 := u64_or_nat x 4503599627370496 (by omega) (by decide));(rw [show ((4503599627370496 : Nat) : Int) = (4503599627370496 : Int) from rfl] at h1);(rw [h1, Nat.or_comm, nat_join 52 _ _ (by decide) h])
theorem spm_bd (b : Nat) : -9007199254740992 < spm b ∧ spm b < 9007199254740992 := by
 unfold spm
 split
 ·have : dm (mag b) < 9007199254740992 := by unfold dm; split <;> omega
  split <;> omega
 ·omega
theorem nr_self {r : Nat} (h : r < 9218868437227405312) : nr (dm r) (dp r) = r := by
 have h1 : dm r ≤ 9007199254740992 := by unfold dm; split <;> omega
 have h2 : dp r = -1074 ∨ 4503599627370496 ≤ dm r := by
  unfold dp dm; split
  ·exact Or.inl rfl
  ·exact Or.inr (by omega)
 (rw [nr_of h1 (dp_ge r) h2]);(unfold dp dm)
 split
 ·rw [Nat.min_eq_left (by omega)]; omega
 ·have : 1 ≤ r / 4503599627370496 := by omega
  (have e : ((r / 4503599627370496 : Nat) : Int) - 1075 + 1074 = ((r / 4503599627370496 - 1 : Nat) : Int) := by omega);(rw [e, Int.toNat_natCast, Nat.min_eq_left (by omega)]; omega)
theorem ord_eq {a b : Nat} (ha : a < 18446744073709551616) (hb : b < 18446744073709551616) (na : nan a = false) (nb : nan b = false) : (FloatKind.f64.format.order a b == some .eq) = decide (rank a = rank b) := by
 show (Ieee.double.order a b == some .eq) = _
 rw [order_rank ha hb na nb, some_beq, cmp_def]
 by_cases h1 : rank a < rank b
 ·rw [if_pos h1, decide_eq_false (by omega)]; rfl
 ·rw [if_neg h1]; by_cases h2 : rank a = rank b
  ·rw [if_pos h2, decide_eq_true h2]; rfl
  ·rw [if_neg h2, decide_eq_false h2]; rfl
theorem ord_lt {a b : Nat} (ha : a < 18446744073709551616) (hb : b < 18446744073709551616) (na : nan a = false) (nb : nan b = false) : (FloatKind.f64.format.order a b == some .lt) = decide (rank a < rank b) := by
 show (Ieee.double.order a b == some .lt) = _
 rw [order_rank ha hb na nb, some_beq, cmp_def]
 by_cases h1 : rank a < rank b
 ·rw [if_pos h1, decide_eq_true h1]; rfl
 ·rw [if_neg h1, decide_eq_false h1]; by_cases h2 : rank a = rank b
  ·rw [if_pos h2]; rfl
  ·rw [if_neg h2]; rfl
theorem ord_gt {a b : Nat} (ha : a < 18446744073709551616) (hb : b < 18446744073709551616) (na : nan a = false) (nb : nan b = false) : (FloatKind.f64.format.order a b == some .gt) = decide (rank b < rank a) := by
 show (Ieee.double.order a b == some .gt) = _
 rw [order_rank ha hb na nb, some_beq, cmp_def]
 by_cases h1 : rank a < rank b
 ·rw [if_pos h1, decide_eq_false (by omega)]; rfl
 ·rw [if_neg h1]; by_cases h2 : rank a = rank b
  ·rw [if_pos h2, decide_eq_false (by omega)]; rfl
  ·rw [if_neg h2, decide_eq_true (by omega)]; rfl
theorem sub_self {d : Nat} (h : d < 18446744073709551616) (hf : fin d = true) : floatBits .sub .f64 d d = some 0 := by
 show Ieee.double.sub d d = some 0
 (unfold Ieee.Format.sub);(rw [read_fin h hf]);(generalize sgn d = s);(generalize dm (mag d) = m);(generalize dp (mag d) = p)
 show (Ieee.Datum.sum (.number s m p) (.number (!s) m p)).map Ieee.double.write = some 0
 have e : Ieee.signed s m (p - min p p).toNat + Ieee.signed (!s) m (p - min p p).toNat = 0 := by
  (unfold Ieee.signed);(cases s)
  ·rw [if_neg (by decide), if_pos (by decide)]; omega
  ·rw [if_pos rfl, if_neg (by decide)]; omega
 simp only [Ieee.Datum.sum, e]
 cases s <;> rfl
theorem shr_bit {v : Nat} (k : Nat) : ((v : Int) / 2 ^ k) = ((v / 2 ^ k : Nat) : Int) := by
 rw [show ((2 : Int) ^ k) = ((2 ^ k : Nat) : Int) by simp]; rfl
theorem and_one_nat {q : Nat} (h : q < 18446744073709551616) : bits .and .u64 (q : Int) 1 = ((q % 2 : Nat) : Int) := by
 (have := u64_and_nat q 1 h (by decide));(rw [Nat.and_one_is_mod] at this);(exact this)
end Tn

/- Words of 64 bits: what sums of many words come to, word by word. No program in sight. -/
namespace Tn
open Go Go.RowKit

def B (i : Nat) : Nat := 2 ^ (64 * i)
theorem B_pos (i : Nat) : 0 < B i := Nat.two_pow_pos _
theorem B_zero : B 0 = 1 := rfl
theorem B_succ (i : Nat) : B (i + 1) = B i * 18446744073709551616 := by
 unfold B; rw [show 64 * (i + 1) = 64 * i + 64 by omega, Nat.pow_add]
theorem B_add (i j : Nat) : B (i + j) = B i * B j := by
 unfold B; rw [Nat.mul_add, Nat.pow_add]
theorem B_le {i j : Nat} (h : i ≤ j) : B i ≤ B j := pow_le (by omega)
def wd (N i : Nat) : Nat := N / B i % 18446744073709551616
theorem wd_lt (N i : Nat) : wd N i < 18446744073709551616 := Nat.mod_lt _ (by decide)
theorem mod_succ (N i : Nat) : N % B (i + 1) = N % B i + B i * wd N i := by
 rw [B_succ]; exact Nat.mod_mul
theorem mod_zero (N : Nat) : N % B 0 = 0 := by rw [B_zero]; omega
theorem wd_mod (N n i : Nat) (h : i < n) : wd (N % B n) i = wd N i := by
 (unfold wd);(rw [show n = i + (n - i) by omega, B_add, Nat.mod_mul_right_div_self]);(obtain ⟨m, hm⟩ : ∃ m, n - i = m + 1 := ⟨n - i - 1, by omega⟩);(rw [hm, B_succ, Nat.mul_comm, Nat.mod_mul_right_mod])
theorem wd_zero (i : Nat) : wd 0 i = 0 := by unfold wd; rw [Nat.zero_div]
theorem wd_small {N i : Nat} (h : N < B i) : wd N i = 0 := by unfold wd; rw [Nat.div_eq_of_lt h]
def carry (N V i : Nat) : Nat := (N % B i + V % B i) / B i
theorem carry_le (N V i : Nat) : carry N V i ≤ 1 := by
 (unfold carry);(have h1 := Nat.mod_lt N (B_pos i));(have h2 := Nat.mod_lt V (B_pos i));(have : (N % B i + V % B i) / B i < 2 := by rw [Nat.div_lt_iff_lt_mul (B_pos i)]; omega);(omega)
theorem add_step (N V i : Nat) : (wd N i + wd V i + carry N V i) % 18446744073709551616 = wd (N + V) i ∧ (wd N i + wd V i + carry N V i) / 18446744073709551616 = carry N V (i + 1) := by
 have hp := B_pos i
 have e : carry N V (i + 1) = (wd N i + wd V i + carry N V i) / 18446744073709551616 := by
  (unfold carry);(rw [mod_succ, mod_succ, B_succ, ← Nat.div_div_eq_div_mul])
  congr 1
  (rw [show N % B i + B i * wd N i + (V % B i + B i * wd V i) = (N % B i + V % B i) + B i * (wd N i + wd V i) by rw [Nat.mul_add]; omega]);(rw [Nat.add_mul_div_left _ _ hp]; omega)
 (refine ⟨?_, e.symm⟩);(unfold wd carry);(have h1 := Nat.div_add_mod N (B i));(have h2 := Nat.div_add_mod V (B i))
 have : (N + V) / B i = N / B i + V / B i + (N % B i + V % B i) / B i := by
  (have h3 : N + V = (N % B i + V % B i) + B i * (N / B i + V / B i) := by rw [Nat.mul_add]; omega);(rw [h3, Nat.add_mul_div_left _ _ hp]; omega)
 (rw [this]);(omega)
def borrow (N V i : Nat) : Nat := if N % B i < V % B i then 1 else 0
theorem borrow_zero (N V : Nat) : borrow N V 0 = 0 := by unfold borrow; rw [mod_zero, mod_zero]; rfl
theorem borrow_le (N V i : Nat) : borrow N V i ≤ 1 := by unfold borrow; split <;> omega
theorem sub_borrow (N V i : Nat) : (if wd N i < wd V i + borrow N V i then 1 else 0) = borrow N V (i + 1) := by
 (have hp := B_pos i);(have hn := Nat.mod_lt N hp);(have hv := Nat.mod_lt V hp);(unfold borrow);(rw [mod_succ, mod_succ]);(generalize wd N i = x);(generalize wd V i = y);(generalize N % B i = a at *);(generalize V % B i = b at *);(generalize B i = P at *)
 rcases Nat.lt_trichotomy x y with h | h | h
 ·have h1 : P * x + P ≤ P * y := by rw [← Nat.mul_succ]; exact Nat.mul_le_mul_left P h
  rw [if_pos (show a + P * x < b + P * y by omega), if_pos]
  split <;> omega
 ·subst h
  by_cases c : a < b
  ·rw [if_pos c, if_pos (by omega), if_pos (by omega)]
  ·rw [if_neg c, if_neg (by omega), if_neg (by omega)]
 ·have h1 : P * y + P ≤ P * x := by rw [← Nat.mul_succ]; exact Nat.mul_le_mul_left P h
  rw [if_neg (show ¬ a + P * x < b + P * y by omega), if_neg]
  split <;> omega
theorem sub_word (N V n i : Nat) (hi : i < n) (hV : V ≤ B n) : (wd N i + 18446744073709551616 - wd V i - borrow N V i) % 18446744073709551616 = wd (N + B n - V) i := by
 (have hp := B_pos i);(have hn := Nat.mod_lt N hp);(have hv := Nat.mod_lt V hp);(obtain ⟨m, hm⟩ : ∃ m, n - i = m + 1 := ⟨n - i - 1, by omega⟩)
 have hB : B n = B i * (B m * 18446744073709551616) := by
  rw [show n = i + (m + 1) by omega, B_add, B_succ]
 (have h1 := Nat.div_add_mod N (B i));(have h2 := Nat.div_add_mod V (B i));(have hx : wd N i = N / B i % 18446744073709551616 := rfl);(have hy : wd V i = V / B i % 18446744073709551616 := rfl)
 have key : (N + B n - V) / B i + borrow N V i + V / B i = N / B i + B m * 18446744073709551616 := by
  (unfold borrow);(generalize N % B i = a at *);(generalize V % B i = b at *);(generalize N / B i = p at *);(generalize V / B i = q at *);(rw [hB] at hV ⊢);(generalize B m * 18446744073709551616 = t at *);(generalize B i = P at *);(subst h1);(subst h2)
  by_cases c : a < b
  ·rw [if_pos c]
   have hq : q < p + t := by
    apply Nat.lt_of_mul_lt_mul_left (a := P)
    rw [Nat.mul_add]; omega
   obtain ⟨z, hz⟩ : ∃ z, p + t = q + z + 1 := ⟨p + t - q - 1, by omega⟩
   have e : P * p + a + P * t - (P * q + b) = (P + a - b) + P * z := by
    (have : P * (p + t) = P * q + P * z + P := by rw [hz, Nat.mul_add, Nat.mul_add, Nat.mul_one]);(rw [Nat.mul_add] at this; omega)
   rw [e, Nat.add_mul_div_left _ _ hp, Nat.div_eq_of_lt (by omega)]; omega
  ·rw [if_neg c]
   have hq : q ≤ p + t := by
    apply Nat.le_of_mul_le_mul_left (c := P) _ hp
    rw [Nat.mul_add]; omega
   obtain ⟨z, hz⟩ : ∃ z, p + t = q + z := ⟨p + t - q, by omega⟩
   have e : P * p + a + P * t - (P * q + b) = (a - b) + P * z := by
    (have : P * (p + t) = P * q + P * z := by rw [hz, Nat.mul_add]);(rw [Nat.mul_add] at this; omega)
   rw [e, Nat.add_mul_div_left _ _ hp, Nat.div_eq_of_lt (by omega)]; omega
 (have hb := borrow_le N V i);(rw [hx, hy, show wd (N + B n - V) i = (N + B n - V) / B i % 18446744073709551616 from rfl]);(generalize (N + B n - V) / B i = r at *);(generalize N / B i = p at *);(generalize V / B i = q at *);(generalize borrow N V i = c at *);(generalize B m = t at *);(omega)
theorem div_core (N P n w : Nat) (hn : 0 < n) (hw : w < 18446744073709551616) (e : N = P * 18446744073709551616 + w) :
  ∃ y, (P % n) * 18446744073709551616 + w = y ∧ y / n < 18446744073709551616 ∧ N / n % 18446744073709551616 = y / n % 18446744073709551616 ∧ N % n = y % n := by
 (have hd := Nat.div_add_mod P n);(have hm := Nat.mod_lt P hn);(refine ⟨_, rfl, ?_, ?_⟩)
 ·rw [Nat.div_lt_iff_lt_mul hn]
  (have : (P % n + 1) * 18446744073709551616 ≤ n * 18446744073709551616 := Nat.mul_le_mul_right _ hm);(rw [Nat.mul_comm 18446744073709551616 n]);(omega)
 ·have e2 : N = n * (P / n * 18446744073709551616) + ((P % n) * 18446744073709551616 + w) := by
   (rw [e]);(have : n * (P / n * 18446744073709551616) = n * (P / n) * 18446744073709551616 := (Nat.mul_assoc _ _ _).symm);(rw [this]);(omega)
  (obtain ⟨y, hy⟩ : ∃ y, (P % n) * 18446744073709551616 + w = y := ⟨_, rfl⟩);(rw [hy] at e2 ⊢);(obtain ⟨q, hq⟩ : ∃ q, P / n * 18446744073709551616 = q ∧ q % 18446744073709551616 = 0 := ⟨_, rfl, Nat.mul_mod_left _ _⟩);(rw [hq.1] at e2);(rw [e2, Nat.mul_add_div hn, Nat.mul_add_mod]);(exact ⟨by omega, rfl⟩)
theorem div_step (N n i : Nat) (hn : 0 < n) :
  ((N / B (i + 1) % n) * 18446744073709551616 + wd N i) / n % 18446744073709551616 = wd (N / n) i ∧ ((N / B (i + 1) % n) * 18446744073709551616 + wd N i) % n = N / B i % n ∧ ((N / B (i + 1) % n) * 18446744073709551616 + wd N i) / n < 18446744073709551616 := by
 have e : N / B i = N / B (i + 1) * 18446744073709551616 + wd N i := by
  (unfold wd);(rw [B_succ, ← Nat.div_div_eq_div_mul]; omega)
 (obtain ⟨y, hy, h1, h2, h3⟩ := div_core (N / B i) (N / B (i + 1)) n (wd N i) hn (wd_lt N i) e);(rw [hy]);(refine ⟨?_, h3.symm, h1⟩);(rw [← h2]);(unfold wd);(rw [Nat.div_div_eq_div_mul, Nat.div_div_eq_div_mul, Nat.mul_comm])
def putV (hi lo k r : Nat) : Nat := (hi * 18446744073709551616 + lo) * 2 ^ r * B k
theorem pow_64 : (2 : Nat) ^ 64 = 18446744073709551616 := by decide
theorem putV_low {hi lo k r i : Nat} (h : i < k) : wd (putV hi lo k r) i = 0 := by
 (unfold putV wd);(obtain ⟨m, rfl⟩ : ∃ m, k = i + (m + 1) := ⟨k - i - 1, by omega⟩);(rw [B_add, Nat.mul_comm (B i), ← Nat.mul_assoc, Nat.mul_div_cancel _ (B_pos i), B_succ, ← Nat.mul_assoc, Nat.mul_mod_left])
theorem putV_mod (hi lo k r : Nat) : putV hi lo k r % B k = 0 := by unfold putV; exact Nat.mul_mod_left _ _
theorem putV_word (hi lo k r j : Nat) : wd (putV hi lo k r) (k + j) = wd ((hi * 18446744073709551616 + lo) * 2 ^ r) j := by
 (unfold putV wd);(rw [B_add, ← Nat.div_div_eq_div_mul, Nat.mul_div_cancel _ (B_pos k)])
theorem put_words {hi lo r : Nat} (hhi : hi < 18446744073709551616) (hlo : lo < 18446744073709551616) (hr : r < 64) :
  (lo * 2 ^ r) % 18446744073709551616 = wd ((hi * 18446744073709551616 + lo) * 2 ^ r) 0 ∧
  (hi * 2 ^ r) % 18446744073709551616 + lo / 2 ^ (64 - r) = wd ((hi * 18446744073709551616 + lo) * 2 ^ r) 1 ∧
  hi / 2 ^ (64 - r) = wd ((hi * 18446744073709551616 + lo) * 2 ^ r) 2 ∧ (hi * 18446744073709551616 + lo) * 2 ^ r < B 3 ∧ lo / 2 ^ (64 - r) < 2 ^ r ∧ (hi * 2 ^ r) % 18446744073709551616 % 2 ^ r = 0 := by
 (have hp : 0 < 2 ^ r := Nat.two_pow_pos r);(have hq : 0 < 2 ^ (64 - r) := Nat.two_pow_pos _);(have hpq : 2 ^ (64 - r) * 2 ^ r = 18446744073709551616 := by rw [← Nat.pow_add, show 64 - r + r = 64 by omega, pow_64]);(have hpw : 2 ^ r ≤ 9223372036854775808 := by have := pow_le (show r ≤ 63 by omega); rwa [show 2 ^ 63 = 9223372036854775808 from by decide] at this);(generalize 2 ^ r = p at *);(generalize 2 ^ (64 - r) = q at *);(have hl := Nat.div_add_mod lo q);(have hh := Nat.div_add_mod hi q);(have hl2 := Nat.mod_lt lo hq);(have hh2 := Nat.mod_lt hi hq)
 have el : lo * p = lo / q * 18446744073709551616 + lo % q * p := by
  (have h3 : (q * (lo / q) + lo % q) * p = lo * p := by rw [hl]);(rw [Nat.add_mul, Nat.mul_right_comm, hpq] at h3);(rw [Nat.mul_comm (lo / q)]; exact h3.symm)
 have eh : hi * p = hi / q * 18446744073709551616 + hi % q * p := by
  (have h3 : (q * (hi / q) + hi % q) * p = hi * p := by rw [hh]);(rw [Nat.add_mul, Nat.mul_right_comm, hpq] at h3);(rw [Nat.mul_comm (hi / q)]; exact h3.symm)
 have bl : lo % q * p + p ≤ 18446744073709551616 := by
  (have := Nat.mul_le_mul_right p (show lo % q + 1 ≤ q by omega));(rw [hpq, Nat.add_mul, Nat.one_mul] at this; exact this)
 have bh : hi % q * p + p ≤ 18446744073709551616 := by
  (have := Nat.mul_le_mul_right p (show hi % q + 1 ≤ q by omega));(rw [hpq, Nat.add_mul, Nat.one_mul] at this; exact this)
 (have cl : lo / q < p := by rw [Nat.div_lt_iff_lt_mul hq, Nat.mul_comm, hpq]; exact hlo);(have ch : hi / q < p := by rw [Nat.div_lt_iff_lt_mul hq, Nat.mul_comm, hpq]; exact hhi)
 have E : (hi * 18446744073709551616 + lo) * p = hi / q * (18446744073709551616 * 18446744073709551616) + (hi % q * p + lo / q) * 18446744073709551616 + lo % q * p := by
  rw [Nat.add_mul, Nat.mul_right_comm, eh, el, Nat.add_mul, Nat.mul_assoc, Nat.add_mul]; omega
 (have z1 : lo * p % 18446744073709551616 = lo % q * p := by rw [el]; omega);(have z2 : hi * p % 18446744073709551616 = hi % q * p := by rw [eh]; omega);(have m2 : hi % q * p % p = 0 := Nat.mul_mod_left _ _);(rw [z1, z2, E]);(generalize lo % q * p = a at *);(generalize hi % q * p = c at *);(generalize lo / q = s at *);(generalize hi / q = t at *);(have hB1 : B 1 = 18446744073709551616 := by decide);(have hB2 : B 2 = 340282366920938463463374607431768211456 := by decide);(have hB3 : B 3 = 6277101735386680763835789423207666416102355444464034512896 := by decide);(unfold wd);(rw [B_zero, hB1, hB2, hB3]);(refine ⟨?_, ?_, ?_, ?_, cl, m2⟩ <;> omega)
theorem put_or {c s p : Nat} (hr : ∃ r, r < 64 ∧ p = 2 ^ r) (hs : s < p) (hc : c < 18446744073709551616) (hm : c % p = 0) : bits .or .u64 (c : Int) (s : Int) = ((c + s : Nat) : Int) := by
 (obtain ⟨r, h1, rfl⟩ := hr);(have hp : 2 ^ r ≤ 9223372036854775808 := by have := pow_le (show r ≤ 63 by omega); rwa [show 2 ^ 63 = 9223372036854775808 from by decide] at this);(rw [u64_or_nat c s hc (by omega)])
 congr 1
 (obtain ⟨q, hq⟩ : ∃ q, c = 2 ^ r * q := ⟨c / 2 ^ r, by have := Nat.div_add_mod c (2 ^ r); omega⟩);(rw [hq]);(exact (Nat.two_pow_add_eq_or_of_lt hs q).symm)
def modB (z : Int) : Nat := (z % (B 68 : Int)).toNat
theorem B68_pos : (0 : Int) < (B 68 : Int) := by have := B_pos 68; omega
theorem modB_lt (z : Int) : modB z < B 68 := by
 (unfold modB);(have h1 := Int.emod_lt_of_pos z B68_pos);(have h2 := Int.emod_nonneg z (Int.ne_of_gt B68_pos));(omega)
theorem modB_cast (z : Int) : ((modB z : Nat) : Int) = z % (B 68 : Int) := by
 (unfold modB);(have h2 := Int.emod_nonneg z (Int.ne_of_gt B68_pos));(omega)
theorem modB_add (z : Int) (V : Nat) : (modB z + V) % B 68 = modB (z + V) := by
 have : (((modB z + V) % B 68 : Nat) : Int) = ((modB (z + V) : Nat) : Int) := by
  rw [modB_cast, Int.natCast_emod, Int.natCast_add, modB_cast, Int.emod_add_emod]
 omega
theorem modB_sub (z : Int) (V : Nat) (h : V ≤ B 68) : (modB z + B 68 - V) % B 68 = modB (z - V) := by
 have : (((modB z + B 68 - V) % B 68 : Nat) : Int) = ((modB (z - V) : Nat) : Int) := by
  rw [modB_cast, Int.natCast_emod, show ((modB z + B 68 - V : Nat) : Int) = (modB z : Int) - V + (B 68 : Int) by omega, Int.add_emod_right, modB_cast, Int.emod_sub_emod]
 omega
def units (x : Nat) : Int := spm x * 2 ^ (spe x + 2148).toNat
theorem spe_bd (x : Nat) : -1074 ≤ spe x ∧ spe x ≤ 971 := by
 unfold spe
 split
 ·rename_i hf
  split
  ·omega
  ·have hf' : mag x < 9218868437227405312 := of_decide_eq_true hf
   unfold dp
   split <;> omega
 ·omega
theorem units_pos {x : Nat} (h : 0 ≤ spm x) : ∃ k r : Nat, k ≤ 65 ∧ r < 64 ∧ spe x + 2148 = ((64 * k + r : Nat) : Int) ∧ (putV 0 (spm x).natAbs k r : Int) = units x := by
 (obtain ⟨h1, h2⟩ := spe_bd x);(refine ⟨(spe x + 2148).toNat / 64, (spe x + 2148).toNat % 64, by omega, by omega, by omega, ?_⟩);(unfold units putV B);(rw [Nat.zero_mul, Nat.zero_add, Nat.mul_assoc, ← Nat.pow_add, show (spe x + 2148).toNat % 64 + 64 * ((spe x + 2148).toNat / 64) = (spe x + 2148).toNat by omega]);(rw [Int.natCast_mul, Int.natCast_pow]);(rw [show ((spm x).natAbs : Int) = spm x by omega]; rfl)
theorem units_neg {x : Nat} (h : spm x < 0) : ∃ k r : Nat, k ≤ 65 ∧ r < 64 ∧ spe x + 2148 = ((64 * k + r : Nat) : Int) ∧ -(putV 0 (spm x).natAbs k r : Int) = units x := by
 (obtain ⟨h1, h2⟩ := spe_bd x);(refine ⟨(spe x + 2148).toNat / 64, (spe x + 2148).toNat % 64, by omega, by omega, by omega, ?_⟩);(unfold units putV B);(rw [Nat.zero_mul, Nat.zero_add, Nat.mul_assoc, ← Nat.pow_add, show (spe x + 2148).toNat % 64 + 64 * ((spe x + 2148).toNat / 64) = (spe x + 2148).toNat by omega]);(rw [Int.natCast_mul, Int.natCast_pow]);(rw [show ((spm x).natAbs : Int) = -spm x by omega, Int.neg_mul, Int.neg_neg]; rfl)
theorem units_none {x : Nat} (h : spm x = 0) : units x = 0 := by unfold units; rw [h, Int.zero_mul]
theorem putV_le {hi lo k r : Nat} (hhi : hi < 18446744073709551616) (hlo : lo < 18446744073709551616) (hk : k ≤ 65) (hr : r < 64) : putV hi lo k r ≤ B 68 := by
 (unfold putV);(have h3 := (put_words hhi hlo hr).2.2.2.1);(have h4 : B 68 = B 3 * B 65 := by rw [← B_add]);(rw [h4]);(exact Nat.mul_le_mul (Nat.le_of_lt h3) (B_le hk))
def nearK (q : Nat) : Nat := max (bl q - 53) 1074
def nearU (q : Nat) (more : Bool) : Nat := nr (rneM q (nearK q) more) ((nearK q : Int) - 2148)
theorem bl_le_of {v k : Nat} (h : v < 2 ^ k) : bl v ≤ k := by
 unfold bl
 split
 ·omega
 ·rename_i hv
  have h1 := log2_lo hv
  rcases Nat.lt_or_ge v.log2 k with c | c
  ·omega
  ·have := pow_le c; omega
theorem bl_le_B {v n : Nat} (h : v < B n) : bl v ≤ 64 * n := bl_le_of h
theorem bl_top {q t : Nat} (h : q < B (t + 1)) (h2 : t = 0 ∨ wd q t ≠ 0) : bl q = 64 * t + bl (wd q t) := by
 have hw : wd q t = q / B t := by
  (unfold wd);(rw [Nat.mod_eq_of_lt]);(rw [Nat.div_lt_iff_lt_mul (B_pos t), Nat.mul_comm, ← B_succ]; exact h)
 by_cases hz : wd q t = 0
 ·rcases h2 with rfl | h2
  ·rw [hw, B_zero, Nat.div_one]; omega
  ·exact absurd hz h2
 ·have hq : q ≠ 0 := by intro e; rw [e, wd_zero] at hz; exact hz rfl
  (rw [bitLen_log hz, bitLen_log hq, hw] at *);(have h3 := log2_lo hz);(have h4 := log2_hi (q / B t))
  have e1 : 2 ^ (64 * t + (q / B t).log2) ≤ q := by
   (rw [Nat.pow_add]);(have := Nat.mul_le_mul_left (2 ^ (64 * t)) h3);(exact Nat.le_trans this (Nat.mul_div_le q (B t)))
  have e2 : q < 2 ^ (64 * t + (q / B t).log2 + 1) := by
   (rw [Nat.add_assoc, Nat.pow_add]);(have h5 : q / B t + 1 ≤ 2 ^ ((q / B t).log2 + 1) := h4);(have h6 := Nat.mul_le_mul_left (2 ^ (64 * t)) h5);(have h7 := Nat.div_add_mod q (B t));(have h8 := Nat.mod_lt q (B_pos t));(have h9 : 2 ^ (64 * t) = B t := rfl);(rw [h9, Nat.mul_add, Nat.mul_one] at h6);(rw [h9]; omega)
  rw [log2_unique e1 e2]; omega
theorem nearK_bd {q : Nat} (h : q < B 67) : 1074 ≤ nearK q ∧ nearK q ≤ 4235 ∧ q / 2 ^ nearK q < 9007199254740992 := by
 (unfold nearK);(have h1 := bl_le_B h);(refine ⟨by omega, by omega, ?_⟩);(rw [Nat.div_lt_iff_lt_mul (Nat.two_pow_pos _)]);(have h2 : q < 2 ^ bl q := bl_lt (Nat.le_refl _));(refine Nat.lt_of_lt_of_le h2 ?_);(rw [show (9007199254740992 : Nat) = 2 ^ 53 by decide, ← Nat.pow_add]);(exact pow_le (by omega))
theorem pow_split (k : Nat) : 2 ^ k = B (k / 64) * 2 ^ (k % 64) := by
 unfold B; rw [← Nat.pow_add]; congr 1; omega
theorem near_bit (q k : Nat) : wd q (k / 64) / 2 ^ (k % 64) % 2 = q / 2 ^ k % 2 := by
 (rw [pow_split k, ← Nat.div_div_eq_div_mul]);(unfold wd);(have hr : k % 64 < 64 := Nat.mod_lt _ (by decide));(generalize q / B (k / 64) = x);(generalize k % 64 = r at *)
 have e : (18446744073709551616 : Nat) = 2 ^ r * (2 ^ (63 - r) * 2) := by
  rw [← Nat.mul_assoc, ← Nat.pow_add, show r + (63 - r) = 63 by omega]
 rw [e, Nat.mod_mul_right_div_self, Nat.mod_mul_left_mod]
theorem near_low (q k : Nat) : q % 2 ^ k = q % B (k / 64) + B (k / 64) * (wd q (k / 64) % 2 ^ (k % 64)) := by
 (rw [pow_split k, Nat.mod_mul]);(unfold wd);(have hr : k % 64 < 64 := Nat.mod_lt _ (by decide));(generalize k % 64 = r at *)
 have e : (18446744073709551616 : Nat) = 2 ^ r * 2 ^ (64 - r) := by
  rw [← Nat.pow_add, show r + (64 - r) = 64 by omega]
 rw [e, Nat.mod_mul_right_mod]
theorem near_rest (q k : Nat) : (decide (wd q (k / 64) % 2 ^ (k % 64) ≠ 0) || decide (q % B (k / 64) ≠ 0)) = decide (q % 2 ^ k ≠ 0) := by
 (have h := near_low q k);(have hp := B_pos (k / 64));(generalize wd q (k / 64) % 2 ^ (k % 64) = x at *);(generalize B (k / 64) = P at *);(rw [h, Bool.eq_iff_iff, Bool.or_eq_true, decide_eq_true_iff, decide_eq_true_iff, decide_eq_true_iff]);(generalize q % P = y at *)
 rcases Nat.eq_zero_or_pos x with hx | hx
 ·subst hx; simp
 ·have : 0 < P * x := Nat.mul_pos hp hx
  omega
theorem near_word {q k : Nat} (h : q / 2 ^ k < 18446744073709551616) :
  wd q (k / 64) / 2 ^ (k % 64) + (wd q (k / 64 + 1) * 2 ^ (64 - k % 64)) % 18446744073709551616 = q / 2 ^ k ∧ wd q (k / 64) / 2 ^ (k % 64) < 2 ^ (64 - k % 64) ∧ (wd q (k / 64 + 1) * 2 ^ (64 - k % 64)) % 18446744073709551616 % 2 ^ (64 - k % 64) = 0 := by
 (rw [pow_split k, ← Nat.div_div_eq_div_mul] at h ⊢);(have hr : k % 64 < 64 := Nat.mod_lt _ (by decide))
 have e : (18446744073709551616 : Nat) = 2 ^ (k % 64) * 2 ^ (64 - k % 64) := by
  rw [← Nat.pow_add, show k % 64 + (64 - k % 64) = 64 by omega]
 (have hp : 0 < 2 ^ (k % 64) := Nat.two_pow_pos _);(have hq : 0 < 2 ^ (64 - k % 64) := Nat.two_pow_pos _);(have hx : q / B (k / 64 + 1) = q / B (k / 64) / 18446744073709551616 := by rw [B_succ, ← Nat.div_div_eq_div_mul]);(have hw : wd q (k / 64 + 1) = q / B (k / 64) / 18446744073709551616 % 18446744073709551616 := by unfold wd; rw [hx]);(have hw0 : wd q (k / 64) = q / B (k / 64) % 18446744073709551616 := rfl);(rw [hw, hw0]);(generalize q / B (k / 64) = x at *);(generalize 2 ^ (k % 64) = p at *);(generalize 2 ^ (64 - k % 64) = s at *)
 have h1 : x < p * 18446744073709551616 := by
  rw [Nat.div_lt_iff_lt_mul hp, Nat.mul_comm] at h; exact h
 have h2 : x / 18446744073709551616 < p := by rw [Nat.div_lt_iff_lt_mul (by decide)]; exact h1
 have h3 : x / 18446744073709551616 % 18446744073709551616 = x / 18446744073709551616 := by
  apply Nat.mod_eq_of_lt
  (have : p ≤ p * s := Nat.le_mul_of_pos_right p hq);(omega)
 have h4 : x / 18446744073709551616 * s < 18446744073709551616 := by
  exact Nat.lt_of_lt_of_le (Nat.mul_lt_mul_of_pos_right h2 hq) (Nat.le_of_eq e.symm)
 have h5 : x / p = x % 18446744073709551616 / p + x / 18446744073709551616 * s := by
  have h6 := Nat.div_add_mod x 18446744073709551616
  have h7 : x = x % 18446744073709551616 + p * (x / 18446744073709551616 * s) := by
   have h8 : ∀ X, p * (X * s) = 18446744073709551616 * X := fun X => by
    rw [Nat.mul_comm X s, ← Nat.mul_assoc, ← e]
   rw [h8]; omega
  conv => lhs; rw [h7]
  rw [Nat.add_mul_div_left _ _ hp]
 (rw [h3, Nat.mod_eq_of_lt h4, h5]);(refine ⟨rfl, ?_, Nat.mul_mod_left _ _⟩);(rw [Nat.div_lt_iff_lt_mul hp, Nat.mul_comm, ← e]);(exact Nat.mod_lt _ (by decide))
theorem and_low {x r : Nat} (hx : x < 18446744073709551616) (hr : r < 64) : bits .and .u64 (x : Int) ((2 : Int) ^ r - 1) = ((x % 2 ^ r : Nat) : Int) := by
 have h1 : ((2 : Int) ^ r - 1) = ((2 ^ r - 1 : Nat) : Int) := by
  (have := Nat.two_pow_pos r);(rw [Int.natCast_sub this]; simp)
 (have hp := pow_le (show r ≤ 63 by omega));(rw [show 2 ^ 63 = 9223372036854775808 from by decide] at hp);(rw [h1, u64_and_nat x (2 ^ r - 1) hx (by omega), Nat.and_two_pow_sub_one_eq_mod])
theorem B67_half : B 68 = 18446744073709551616 * B 67 := by rw [show (68 : Nat) = 67 + 1 from rfl, B_succ, Nat.mul_comm]
theorem below_sign {Z : Int} (h : Z.natAbs < B 67) : decide (9223372036854775808 ≤ wd (modB Z) 67) = decide (Z < 0) := by
 (have hm : ((modB Z : Nat) : Int) = Z % ((B 68 : Nat) : Int) := modB_cast Z);(have hB := B67_half);(have hp := B_pos 67)
 have e : wd (modB Z) 67 = modB Z / B 67 := by
  unfold wd
  apply Nat.mod_eq_of_lt
  rw [Nat.div_lt_iff_lt_mul hp, ← B67_half]; exact modB_lt Z
 (rw [e, Bool.eq_iff_iff, decide_eq_true_iff, decide_eq_true_iff]);(generalize modB Z = N at *)
 by_cases c : Z < 0
 ·have h2 : Z % ((B 68 : Nat) : Int) = Z + ((B 68 : Nat) : Int) := by
   rw [← Int.add_emod_right, Int.emod_eq_of_lt (by omega) (by omega)]
  (rw [h2] at hm);(have h3 : 9223372036854775808 * B 67 ≤ N := by omega)
  have h4 : 9223372036854775808 ≤ N / B 67 := by
   rw [Nat.le_div_iff_mul_le hp]; exact h3
  omega
 ·have h2 : Z % ((B 68 : Nat) : Int) = Z := Int.emod_eq_of_lt (by omega) (by omega)
  (rw [h2] at hm);(have h3 : N < B 67 := by omega);(rw [Nat.div_eq_of_lt h3]; omega)
theorem modB_neg {Z : Int} (h : Z.natAbs < B 67) (c : Z < 0) : (0 + B 68 - modB Z) % B 68 = Z.natAbs := by
 (have hm : ((modB Z : Nat) : Int) = Z % ((B 68 : Nat) : Int) := modB_cast Z);(have hB := B67_half);(have hp := B_pos 67)
 have h2 : Z % ((B 68 : Nat) : Int) = Z + ((B 68 : Nat) : Int) := by
  rw [← Int.add_emod_right, Int.emod_eq_of_lt (by omega) (by omega)]
 (rw [h2] at hm);(have h3 : 0 + B 68 - modB Z = Z.natAbs := by omega);(rw [h3, Nat.mod_eq_of_lt (by omega)])
theorem modB_posi {Z : Int} (h : Z.natAbs < B 67) (c : 0 ≤ Z) : modB Z = Z.natAbs := by
 (have hm : ((modB Z : Nat) : Int) = Z % ((B 68 : Nat) : Int) := modB_cast Z);(have hB := B67_half);(have h2 : Z % ((B 68 : Nat) : Int) = Z := Int.emod_eq_of_lt c (by omega));(rw [h2] at hm);(omega)
theorem nearU_le (q : Nat) (m : Bool) : nearU q m ≤ 9218868437227405312 := nr_le _ _
def overV (Z : Int) (u d : Bool) (n : Nat) : Nat :=
 if u = true ∧ d = true then 9221120237041090561 else if u = true then 9218868437227405312 else if d = true then 18442240474082181120
 else (if Z < 0 then 9223372036854775808 else 0) + nearU (Z.natAbs / n) (decide (Z.natAbs % n ≠ 0))
def divW (M n j t : Nat) : Nat := if j ≤ t then wd (M / n) t else wd M t
theorem xor_sign {x : Nat} (h : x ≤ 9218868437227405312) : x ^^^ 9223372036854775808 = 9223372036854775808 + x := by
 have h1 := nat_and_xor x 9223372036854775808
 have h2 : x &&& 9223372036854775808 = 0 := by
  (have h3 : x < 2 ^ 63 := by rw [show (2 : Nat) ^ 63 = 9223372036854775808 by decide]; omega);(rw [show (9223372036854775808 : Nat) = 2 ^ 63 by decide])
  apply Nat.eq_of_testBit_eq
  (intro i);(rw [Nat.testBit_and, Nat.testBit_two_pow, Nat.zero_testBit])
  by_cases c : 63 = i
  ·subst c; rw [Nat.testBit_lt_two_pow h3]; rfl
  ·rw [decide_eq_false c, Bool.and_false]
 omega
end Tn

/- Sums by place: which places a list has, and what lies on each. No program in sight. -/
namespace Tn
open Go Go.RowKit

theorem pow_B {e n : Nat} (h : e ≤ 64 * n) : 2 ^ e ≤ B n := pow_le h
theorem units_bd (x : Nat) : (units x).natAbs ≤ B 50 := by
 (unfold units);(have h1 := spm_bd x);(have h2 := spe_bd x);(rw [Int.natAbs_mul, Int.natAbs_pow]);(have e1 : (spe x + 2148).toNat ≤ 64 * 49 := by omega);(have e2 : (spm x).natAbs ≤ 18446744073709551616 := by omega);(rw [show (50 : Nat) = 49 + 1 from rfl, B_succ, Nat.mul_comm]);(exact Nat.mul_le_mul (pow_B e1) e2)
theorem few_B {n i j : Nat} (h : n ≤ 1048576) (hj : i + 1 ≤ j) : n * B i < B j := by
 (refine Nat.lt_of_lt_of_le ?_ (B_le hj));(rw [B_succ, Nat.mul_comm]);(exact Nat.mul_lt_mul_of_pos_left (by omega) (B_pos i))
theorem over_lt (Z : Int) (n : Nat) : overV Z false false n < 18446744073709551616 := by
 (unfold overV);(rw [if_neg (by simp), if_neg (by simp), if_neg (by simp)]);(have := nearU_le (Z.natAbs / n) (decide (Z.natAbs % n ≠ 0)))
 split <;> omega
end Tn
