/- Plain laws: a float's reading, and that floats stand as their ranks do. No program in sight. -/
import Derived.Test.YthcgpepjoofeoaaFlt
namespace Tn
open Go Go.RowKit

/-- the digits and the place of a rung below infinity. -/
def dm (r : Nat) : Nat := if r < 4503599627370496 then r else 4503599627370496 + r % 4503599627370496
def dp (r : Nat) : Int := if r < 4503599627370496 then -1074 else (r / 4503599627370496 : Nat) - 1075
/-- a rung's number, in units of 2^-1074. -/
def V (r : Nat) : Nat := dm r * 2 ^ (dp r + 1074).toNat

theorem dp_ge (r : Nat) : -1074 ≤ dp r := by
  unfold dp; split
  · omega
  · have : 1 ≤ r / 4503599627370496 := by omega
    omega
theorem V_succ (r : Nat) : V r < V (r + 1) := by
  unfold V dm dp
  by_cases h : r + 1 < 4503599627370496
  · rw [if_pos h, if_pos h, if_pos (by omega), if_pos (by omega)]; simp
  · by_cases h' : r < 4503599627370496
    · have e : r = 4503599627370495 := by omega
      subst e; decide +kernel
    · rw [if_neg h, if_neg h, if_neg h', if_neg h']
      by_cases hc : r % 4503599627370496 = 4503599627370495
      · have e1 : (r + 1) % 4503599627370496 = 0 := by omega
        have e2 : (r + 1) / 4503599627370496 = r / 4503599627370496 + 1 := by omega
        rw [hc, e1, e2]
        have e3 : (((r / 4503599627370496 + 1 : Nat) : Int) - 1075 + 1074).toNat = (((r / 4503599627370496 : Nat) : Int) - 1075 + 1074).toNat + 1 := by omega
        rw [e3, Nat.pow_succ]
        generalize (((r / 4503599627370496 : Nat) : Int) - 1075 + 1074).toNat = k
        have := Nat.two_pow_pos k
        generalize 2 ^ k = K at *
        omega
      · have e1 : (r + 1) % 4503599627370496 = r % 4503599627370496 + 1 := by omega
        have e2 : (r + 1) / 4503599627370496 = r / 4503599627370496 := by omega
        rw [e1, e2]
        exact Nat.mul_lt_mul_of_pos_right (by omega) (Nat.two_pow_pos _)
theorem V_lt {r r' : Nat} (h : r < r') : V r < V r' := by
  induction r' with
  | zero => omega
  | succ n ih =>
    by_cases e : r = n
    · subst e; exact V_succ _
    · exact Nat.lt_trans (ih (by omega)) (V_succ n)
theorem V_le {r r' : Nat} (h : r ≤ r') : V r ≤ V r' := by
  by_cases e : r = r'
  · rw [e]; exact Nat.le_refl _
  · exact Nat.le_of_lt (V_lt (by omega))
theorem V_lt_iff {r r' : Nat} : V r < V r' ↔ r < r' :=
  ⟨fun h => Nat.lt_of_not_le fun h' => by have := V_le h'; omega, V_lt⟩

theorem read_neg {b : Nat} (h : b < 18446744073709551616) : (b / 9223372036854775808 % 2 == 1) = sgn b := by
  unfold sgn; rw [Bool.eq_iff_iff, beq_iff_eq, decide_eq_true_iff]; omega
theorem read_fin {b : Nat} (h : b < 18446744073709551616) (hf : fin b = true) : Ieee.double.read b = .number (sgn b) (dm (mag b)) (dp (mag b)) := by
  unfold fin at hf
  have hf := of_decide_eq_true hf
  unfold Ieee.Format.read
  have e1 : Ieee.double.signWeight = 9223372036854775808 := rfl
  have e2 : Ieee.double.binade = 4503599627370496 := rfl
  have e3 : Ieee.double.infRung = 9218868437227405312 := rfl
  have e4 : Ieee.double.leastPlace = -1074 := rfl
  simp only [e1, e2, e3, e4]
  rw [read_neg h, show b % 9223372036854775808 = mag b from rfl]
  unfold dm dp
  by_cases c : mag b < 4503599627370496
  · rw [if_pos c, if_pos c, if_pos c]
  · rw [if_neg c, if_pos hf, if_neg c, if_neg c]
    congr 1
    have : 1 ≤ mag b / 4503599627370496 := by omega
    omega
theorem read_inf {b : Nat} (h : b < 18446744073709551616) (hf : isinf b = true) : Ieee.double.read b = .infinity (sgn b) := by
  unfold isinf at hf
  have hf := of_decide_eq_true hf
  unfold Ieee.Format.read
  have e1 : Ieee.double.signWeight = 9223372036854775808 := rfl
  have e2 : Ieee.double.binade = 4503599627370496 := rfl
  have e3 : Ieee.double.infRung = 9218868437227405312 := rfl
  simp only [e1, e2, e3]
  rw [read_neg h, show b % 9223372036854775808 = mag b from rfl, hf, if_neg (by decide), if_neg (by decide), if_pos rfl]
theorem read_nan {b : Nat} (hf : nan b = true) : ∃ s t, Ieee.double.read b = .nan s t := by
  unfold nan at hf
  have hf := of_decide_eq_true hf
  unfold Ieee.Format.read
  have e1 : Ieee.double.signWeight = 9223372036854775808 := rfl
  have e2 : Ieee.double.binade = 4503599627370496 := rfl
  have e3 : Ieee.double.infRung = 9218868437227405312 := rfl
  simp only [e1, e2, e3]
  rw [show b % 9223372036854775808 = mag b from rfl, if_neg (by omega), if_neg (by omega), if_neg (by omega)]
  exact ⟨_, _, rfl⟩
theorem kinds (b : Nat) : fin b = true ∨ isinf b = true ∨ nan b = true := by
  unfold fin isinf nan
  simp only [decide_eq_true_iff]; omega
theorem fin_nan {b : Nat} (h : fin b = true) : nan b = false := by
  unfold fin at h; unfold nan; have := of_decide_eq_true h; exact decide_eq_false (by omega)
theorem inf_nan {b : Nat} (h : isinf b = true) : nan b = false := by
  unfold isinf at h; unfold nan; have := of_decide_eq_true h; exact decide_eq_false (by omega)
theorem rank_val {b : Nat} (h : nan b = false) : rank b = if sgn b = true then -(mag b : Int) else (mag b : Int) := by
  unfold rank; rw [h, if_neg (by decide)]

theorem cmp_def (x y : Int) : compare x y = if x < y then .lt else if x = y then .eq else .gt := rfl
theorem compare_scale (x y : Int) (k : Nat) : compare (x * 2 ^ k) (y * 2 ^ k) = compare x y := by
  have hk : (0 : Int) < 2 ^ k := Int.pow_pos (by decide)
  simp only [cmp_def]
  have h1 : x * 2 ^ k < y * 2 ^ k ↔ x < y := ⟨fun h => Int.lt_of_mul_lt_mul_right h (Int.le_of_lt hk), fun h => Int.mul_lt_mul_of_pos_right h hk⟩
  have h2 : x * 2 ^ k = y * 2 ^ k ↔ x = y := ⟨fun h => Int.eq_of_mul_eq_mul_right (by omega) h, fun h => by rw [h]⟩
  simp only [h1, h2]
/-- a number with its sign, in units of 2^-1074. -/
def sV (b : Nat) : Int := if sgn b = true then -(V (mag b) : Int) else (V (mag b) : Int)
theorem signed_scale (s : Bool) (m : Nat) (i base : Int) (h1 : -1074 ≤ base) (h2 : base ≤ i) :
    Ieee.signed s m (i - base).toNat * 2 ^ (base + 1074).toNat = if s = true then -((m * 2 ^ (i + 1074).toNat : Nat) : Int) else ((m * 2 ^ (i + 1074).toNat : Nat) : Int) := by
  unfold Ieee.signed
  have e : (i + 1074).toNat = (i - base).toNat + (base + 1074).toNat := by omega
  rw [Nat.shiftLeft_eq, e, Nat.pow_add, ← Nat.mul_assoc]
  cases s
  · simp
  · simp [Int.neg_mul]
theorem compare_rank {a b : Nat} (ha : fin a = true) (hb : fin b = true) : compare (sV a) (sV b) = compare (rank a) (rank b) := by
  rw [rank_val (fin_nan ha), rank_val (fin_nan hb)]
  unfold sV
  have m0 : V 0 = 0 := by decide
  have h1 : V (mag a) < V (mag b) ↔ mag a < mag b := V_lt_iff
  have h2 : V (mag b) < V (mag a) ↔ mag b < mag a := V_lt_iff
  have h3 : 0 < V (mag a) ↔ 0 < mag a := by have := @V_lt_iff 0 (mag a); rwa [m0] at this
  have h4 : 0 < V (mag b) ↔ 0 < mag b := by have := @V_lt_iff 0 (mag b); rwa [m0] at this
  simp only [cmp_def]
  generalize V (mag a) = A at *
  generalize V (mag b) = B at *
  generalize mag a = x at *
  generalize mag b = y at *
  cases sgn a <;> cases sgn b <;> simp only [if_true, Bool.false_eq_true, if_false]
  all_goals
    by_cases c1 : x < y
    · by_cases c2 : x = 0
      · by_cases c3 : y = 0
        · omega
        · (repeat' split) <;> first | rfl | omega
      · (repeat' split) <;> first | rfl | omega
    · (repeat' split) <;> first | rfl | omega
/-- FLOATS STAND AS THEIR RANKS DO. -/
theorem order_rank {a b : Nat} (ha : a < 18446744073709551616) (hb : b < 18446744073709551616) (na : nan a = false) (nb : nan b = false) :
    Ieee.double.order a b = some (compare (rank a) (rank b)) := by
  unfold Ieee.Format.order
  rcases kinds a with fa | ia | n
  · rcases kinds b with fb | ib | n
    · rw [read_fin ha fa, read_fin hb fb]
      show some (compare (Ieee.signed (sgn a) (dm (mag a)) (dp (mag a) - min (dp (mag a)) (dp (mag b))).toNat) (Ieee.signed (sgn b) (dm (mag b)) (dp (mag b) - min (dp (mag a)) (dp (mag b))).toNat)) = _
      rw [← compare_rank fa fb, ← compare_scale _ _ (min (dp (mag a)) (dp (mag b)) + 1074).toNat]
      have h1 := dp_ge (mag a)
      have h2 := dp_ge (mag b)
      rw [signed_scale _ _ _ _ (by omega) (by omega), signed_scale _ _ _ _ (by omega) (by omega)]
      rfl
    · rw [read_fin ha fa, read_inf hb ib]
      show some (if sgn b then Ordering.gt else .lt) = _
      have h1 := rank_bd a
      rw [rank_val na, rank_val nb]
      unfold isinf at ib; unfold fin at fa
      have ib := of_decide_eq_true ib
      have fa := of_decide_eq_true fa
      rw [ib]; simp only [cmp_def]
      congr 1
      cases sgn a <;> cases sgn b <;> simp only [if_true, Bool.false_eq_true, if_false] <;> (repeat' split) <;> first | rfl | omega
    · rw [n] at nb; cases nb
  · rcases kinds b with fb | ib | n
    · rw [read_inf ha ia, read_fin hb fb]
      show some (if sgn a then Ordering.lt else .gt) = _
      rw [rank_val na, rank_val nb]
      unfold isinf at ia; unfold fin at fb
      have ia := of_decide_eq_true ia
      have fb := of_decide_eq_true fb
      rw [ia]; simp only [cmp_def]
      congr 1
      cases sgn a <;> cases sgn b <;> simp only [if_true, Bool.false_eq_true, if_false] <;> (repeat' split) <;> first | rfl | omega
    · rw [read_inf ha ia, read_inf hb ib]
      show some (compare (sgn b).toNat (sgn a).toNat) = _
      rw [rank_val na, rank_val nb]
      unfold isinf at ia ib
      rw [of_decide_eq_true ia, of_decide_eq_true ib]
      cases sgn a <;> cases sgn b <;> rfl
    · rw [n] at nb; cases nb
  · rw [n] at na; cases na
theorem order_nan {a b : Nat} (h : nan a = true ∨ nan b = true) : Ieee.double.order a b = none := by
  unfold Ieee.Format.order
  rcases h with h | h
  · obtain ⟨s, t, e⟩ := read_nan h
    rw [e]; rfl
  · obtain ⟨s, t, e⟩ := read_nan h
    rw [e]; cases Ieee.double.read a <;> rfl
end Tn
