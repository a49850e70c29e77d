/- Plain laws for ieee.Split, Up and Down, and the sorts' order. No program in sight. -/
import Derived.Test.YthcgpepjoofeoaaLdx
import Derived.Laws.World
import Derived.WalkKit
namespace Tn
open Go Go.RowKit

/-- a number as spm * 2^spe; 0 and 0 of what is none. -/
def spm (b : Nat) : Int := if fin b = true then (if sgn b = true then -(dm (mag b) : Int) else (dm (mag b) : Int)) else 0
def spe (b : Nat) : Int := if fin b = true then (if mag b = 0 then 0 else dp (mag b)) else 0

theorem cls1 {b : Nat} (h : cls b = 1) : mag b = 0 := by
  unfold cls at h; split at h
  · assumption
  · split at h
    · omega
    · split at h
      · omega
      · split at h <;> omega
theorem cls2 {b : Nat} (h : cls b = 2) : mag b ≠ 0 ∧ mag b < 4503599627370496 := by
  unfold cls at h; split at h
  · omega
  · split at h
    · exact ⟨by assumption, by assumption⟩
    · split at h
      · omega
      · split at h <;> omega
theorem cls3 {b : Nat} (h : cls b = 3) : 4503599627370496 ≤ mag b ∧ mag b < 9218868437227405312 := by
  unfold cls at h; split at h
  · omega
  · split at h
    · omega
    · split at h
      · exact ⟨by omega, by assumption⟩
      · split at h <;> omega
theorem cls_fin (b : Nat) : fin b = decide (cls b < 4) := by
  unfold fin cls
  rw [Bool.eq_iff_iff, decide_eq_true_iff, decide_eq_true_iff]
  split
  · omega
  · split
    · omega
    · split
      · omega
      · split <;> omega
theorem cls_cases (b : Nat) : cls b = 1 ∨ cls b = 2 ∨ cls b = 3 ∨ cls b = 4 ∨ cls b = 5 := by
  unfold cls; split
  · simp
  · split
    · simp
    · split
      · simp
      · split <;> simp
theorem neg_fin {b : Nat} (h : cls b < 4) : neg b = sgn b := by
  apply neg_ok
  apply fin_nan
  rw [cls_fin]; exact decide_eq_true h
theorem spm_zero {b : Nat} (h : cls b = 1) : spm b = 0 ∧ spe b = 0 ∧ fin b = true := by
  have e := cls1 h
  have f : fin b = true := by rw [cls_fin, h]; rfl
  refine ⟨?_, ?_, f⟩
  · unfold spm; rw [if_pos f, e, show dm 0 = 0 from rfl]; split <;> rfl
  · unfold spe; rw [if_pos f, if_pos e]
theorem spm_none {b : Nat} (h : cls b = 4 ∨ cls b = 5) : spm b = 0 ∧ spe b = 0 ∧ fin b = false := by
  have f : fin b = false := by rw [cls_fin]; rcases h with h | h <;> rw [h] <;> rfl
  exact ⟨by unfold spm; rw [f, if_neg (by decide)], by unfold spe; rw [f, if_neg (by decide)], f⟩
theorem spm_sub {b : Nat} (h : cls b = 2) : spm b = (if sgn b = true then -(mag b : Int) else (mag b : Int)) ∧ spe b = -1074 ∧ fin b = true := by
  obtain ⟨e1, e2⟩ := cls2 h
  have f : fin b = true := by rw [cls_fin, h]; rfl
  refine ⟨?_, ?_, f⟩
  · unfold spm; rw [if_pos f]; unfold dm; rw [if_pos e2]
  · unfold spe; rw [if_pos f, if_neg e1]; unfold dp; rw [if_pos e2]
theorem spm_nor {b : Nat} (h : cls b = 3) : spm b = (if sgn b = true then -((4503599627370496 + mag b % 4503599627370496 : Nat) : Int) else ((4503599627370496 + mag b % 4503599627370496 : Nat) : Int)) ∧ spe b = (mag b / 4503599627370496 : Nat) - 1075 ∧ fin b = true := by
  obtain ⟨e1, e2⟩ := cls3 h
  have f : fin b = true := by rw [cls_fin, h]; rfl
  refine ⟨?_, ?_, f⟩
  · unfold spm; rw [if_pos f]; unfold dm; rw [if_neg (show ¬ mag b < 4503599627370496 by omega)]
  · unfold spe; rw [if_pos f, if_neg (by omega)]; unfold dp; rw [if_neg (by omega)]
theorem and_mant (x : Nat) (h : x < 18446744073709551616) : bits .and .u64 (x : Int) 4503599627370495 = ((x % 4503599627370496 : Nat) : Int) := by
  have h1 := u64_and_nat x 4503599627370495 h (by decide)
  rw [show ((4503599627370495 : Nat) : Int) = (4503599627370495 : Int) from rfl] at h1
  rw [h1]
  congr 1
  exact Nat.and_two_pow_sub_one_eq_mod x 52
theorem or_mant (x : Nat) (h : x < 4503599627370496) : bits .or .u64 (x : Int) 4503599627370496 = ((4503599627370496 + x : Nat) : Int) := by
  have h1 := u64_or_nat x 4503599627370496 (by omega) (by decide)
  rw [show ((4503599627370496 : Nat) : Int) = (4503599627370496 : Int) from rfl] at h1
  rw [h1, Nat.or_comm, nat_join 52 _ _ (by decide) h]
theorem spm_bd (b : Nat) : -9007199254740992 < spm b ∧ spm b < 9007199254740992 := by
  unfold spm
  split
  · have : dm (mag b) < 9007199254740992 := by unfold dm; split <;> omega
    split <;> omega
  · omega
/-- a rung below infinity is near of itself. -/
theorem nr_self {r : Nat} (h : r < 9218868437227405312) : nr (dm r) (dp r) = r := by
  have h1 : dm r ≤ 9007199254740992 := by unfold dm; split <;> omega
  have h2 : dp r = -1074 ∨ 4503599627370496 ≤ dm r := by
    unfold dp dm; split
    · exact Or.inl rfl
    · exact Or.inr (by omega)
  rw [nr_of h1 (dp_ge r) h2]
  unfold dp dm
  split
  · rw [Nat.min_eq_left (by omega)]; omega
  · have : 1 ≤ r / 4503599627370496 := by omega
    have e : ((r / 4503599627370496 : Nat) : Int) - 1075 + 1074 = ((r / 4503599627370496 - 1 : Nat) : Int) := by omega
    rw [e, Int.toNat_natCast, Nat.min_eq_left (by omega)]; omega
/-- PARTS ARE PUT TOGETHER AGAIN: to the same rank. -/
theorem jn_split {b : Nat} (h : fin b = true) : jn (spm b) (spe b) < 18446744073709551616 ∧ nan (jn (spm b) (spe b)) = false ∧ rank (jn (spm b) (spe b)) = rank b := by
  have hf := h
  unfold fin at hf
  have hf := of_decide_eq_true hf
  by_cases h0 : mag b = 0
  · have e1 : spm b = 0 := by unfold spm; rw [if_pos h, h0, show dm 0 = 0 from rfl]; split <;> rfl
    rw [e1, jn_zero]
    refine ⟨by decide, by decide, ?_⟩
    rw [rank_val (fin_nan h), h0]; split <;> decide
  · have e2 : spe b = dp (mag b) := by unfold spe; rw [if_pos h, if_neg h0]
    have hd : dm (mag b) ≠ 0 := by unfold dm; split <;> omega
    have e3 : (spm b).natAbs = dm (mag b) := by unfold spm; rw [if_pos h]; split <;> omega
    have e4 : jn (spm b) (spe b) = (if spm b < 0 then 9223372036854775808 else 0) + mag b := by
      unfold jn; rw [e2, e3, nr_self hf]
    rw [e4]
    cases hs : sgn b
    · have e5 : ¬ spm b < 0 := by unfold spm; rw [if_pos h, hs, if_neg (by decide)]; omega
      rw [if_neg e5, Nat.zero_add]
      have hm : mag (mag b) = mag b := Nat.mod_eq_of_lt (mag_lt b)
      have hn : nan (mag b) = false := by rw [nan_mag]; exact fin_nan h
      refine ⟨by omega, hn, ?_⟩
      rw [rank_mag (fin_nan h), rank_val (fin_nan h), hs, if_neg (by decide)]
    · have e5 : spm b < 0 := by unfold spm; rw [if_pos h, hs, if_pos rfl]; omega
      rw [if_pos e5]
      have hm : mag (9223372036854775808 + mag b) = mag b := by unfold mag; omega
      have hn : nan (9223372036854775808 + mag b) = false := by
        have := fin_nan h; unfold nan at this ⊢; rw [hm]; exact this
      have hs2 : sgn (9223372036854775808 + mag b) = true := by unfold sgn; exact decide_eq_true (by omega)
      refine ⟨by omega, hn, ?_⟩
      rw [rank_val hn, rank_val (fin_nan h), hm, hs, hs2]
theorem att_mag {n : Int} (h : atok n = true) : att n < 18446744073709551616 ∧ nan (att n) = false ∧ rank (att n) = n ∧ (att n < 9223372036854775808 ↔ 0 ≤ n) := by
  have hb := h
  unfold atok at hb; simp at hb
  have e : att n = if n < 0 then (-n).toNat + 9223372036854775808 else n.toNat := by unfold att; rw [if_pos h]
  rw [e]
  split
  · have hm : mag ((-n).toNat + 9223372036854775808) = (-n).toNat := by unfold mag; omega
    have hn : nan ((-n).toNat + 9223372036854775808) = false := by unfold nan; rw [hm]; exact decide_eq_false (by omega)
    have hs : sgn ((-n).toNat + 9223372036854775808) = true := by unfold sgn; exact decide_eq_true (by omega)
    refine ⟨by omega, hn, ?_, by omega⟩
    rw [rank_val hn, hm, hs, if_pos rfl]; omega
  · have hm : mag n.toNat = n.toNat := by unfold mag; omega
    have hn : nan n.toNat = false := by unfold nan; rw [hm]; exact decide_eq_false (by omega)
    have hs : sgn n.toNat = false := by unfold sgn; exact decide_eq_false (by omega)
    refine ⟨by omega, hn, ?_, by omega⟩
    rw [rank_val hn, hm, hs, if_neg (by decide)]; omega
theorem rank_ok (b : Nat) (h : nan b = false) : atok (rank b) = true := att_in _ (rank_bd b).1 (rank_bd b).2
/-- floats compare as their ranks do, in the walk's words. -/
theorem ord_eq {a b : Nat} (ha : a < 18446744073709551616) (hb : b < 18446744073709551616) (na : nan a = false) (nb : nan b = false) : (FloatKind.f64.format.order a b == some .eq) = decide (rank a = rank b) := by
  show (Ieee.double.order a b == some .eq) = _
  rw [order_rank ha hb na nb, some_beq, cmp_def]
  by_cases h1 : rank a < rank b
  · rw [if_pos h1, decide_eq_false (by omega)]; rfl
  · rw [if_neg h1]; by_cases h2 : rank a = rank b
    · rw [if_pos h2, decide_eq_true h2]; rfl
    · rw [if_neg h2, decide_eq_false h2]; rfl
theorem ord_lt {a b : Nat} (ha : a < 18446744073709551616) (hb : b < 18446744073709551616) (na : nan a = false) (nb : nan b = false) : (FloatKind.f64.format.order a b == some .lt) = decide (rank a < rank b) := by
  show (Ieee.double.order a b == some .lt) = _
  rw [order_rank ha hb na nb, some_beq, cmp_def]
  by_cases h1 : rank a < rank b
  · rw [if_pos h1, decide_eq_true h1]; rfl
  · rw [if_neg h1, decide_eq_false h1]; by_cases h2 : rank a = rank b
    · rw [if_pos h2]; rfl
    · rw [if_neg h2]; rfl
theorem ord_gt {a b : Nat} (ha : a < 18446744073709551616) (hb : b < 18446744073709551616) (na : nan a = false) (nb : nan b = false) : (FloatKind.f64.format.order a b == some .gt) = decide (rank b < rank a) := by
  show (Ieee.double.order a b == some .gt) = _
  rw [order_rank ha hb na nb, some_beq, cmp_def]
  by_cases h1 : rank a < rank b
  · rw [if_pos h1, decide_eq_false (by omega)]; rfl
  · rw [if_neg h1]; by_cases h2 : rank a = rank b
    · rw [if_pos h2, decide_eq_false (by omega)]; rfl
    · rw [if_neg h2, decide_eq_true (by omega)]; rfl
theorem ord_refl {a : Nat} (h : a < 18446744073709551616) : (FloatKind.f64.format.order a a == some .eq) = ok a := by
  show (Ieee.double.order a a == some .eq) = ok a
  rw [ok_nan]
  cases hn : nan a
  · rw [order_rank h h hn hn, cmp_def, if_neg (by omega), if_pos rfl]; rfl
  · rw [order_nan (Or.inl hn)]; rfl
theorem ord_eqb {a b : Nat} (ha : a < 18446744073709551616) (hb : b < 18446744073709551616) (na : nan a = false) (nb : nan b = false) : (FloatKind.f64.format.order a b == some .eq) = (rank a == rank b) := by
  rw [ord_eq ha hb na nb]; rfl
theorem ord_ne_of {a b : Nat} (ha : a < 18446744073709551616) (hb : b < 18446744073709551616) (na : nan a = false) (nb : nan b = false) (h : rank a = rank b) : (FloatKind.f64.format.order a b != some .eq) = false := by
  rw [bne, ord_eq ha hb na nb, decide_eq_true h]; rfl
theorem back_at {a : Nat} (ha : a < 18446744073709551616) (na : nan a = false) :
    (FloatKind.f64.format.order (att (rank a)) a != some .eq) = false ∧ ((FloatKind.f64.format.order (att (rank a)) 0 == some .eq) = true → neg (att (rank a)) = false) := by
  obtain ⟨h1, h2, h3, h4⟩ := att_mag (rank_ok a na)
  refine ⟨ord_ne_of h1 ha h2 na h3, fun h => ?_⟩
  rw [ord_eq h1 (by decide) h2 (by decide), h3, show rank 0 = 0 from by decide, decide_eq_true_iff] at h
  rw [h]; decide
theorem back_join {a : Nat} (ha : a < 18446744073709551616) (hf : fin a = true) : (FloatKind.f64.format.order (jn (spm a) (spe a)) a != some .eq) = false := by
  obtain ⟨h1, h2, h3⟩ := jn_split hf
  exact ord_ne_of h1 ha h2 (fin_nan hf) h3
theorem back_up {a : Nat} (ha : a < 18446744073709551616) (na : nan a = false) (hd : fin (step a (-1)) = true) : (FloatKind.f64.format.order (step (step a (-1)) 1) a != some .eq) = false := by
  have hr := rank_bd a
  by_cases hk : atok (rank a + -1) = true
  · have e := step_in na hk
    obtain ⟨h1, h2, h3, _⟩ := att_mag hk
    have hk2 : atok (rank (att (rank a + -1)) + 1) = true := by rw [h3, show rank a + -1 + 1 = rank a by omega]; exact rank_ok a na
    rw [e, step_in h2 hk2]
    obtain ⟨g1, g2, g3, _⟩ := att_mag hk2
    refine ord_ne_of g1 ha g2 na ?_
    rw [g3, h3]; omega
  · have hk : atok (rank a + -1) = false := by simpa using hk
    rw [step_out na hk] at hd
    have : rank a = -9218868437227405312 := by
      unfold atok at hk; simp at hk
      by_cases c : -9218868437227405312 ≤ rank a + -1
      · have := hk c; omega
      · omega
    rw [rank_val na] at this
    unfold fin at hd
    have hd' := of_decide_eq_true hd
    split at this <;> omega
/-- a number less itself is +0. -/
theorem sub_self {d : Nat} (h : d < 18446744073709551616) (hf : fin d = true) : floatBits .sub .f64 d d = some 0 := by
  show Ieee.double.sub d d = some 0
  unfold Ieee.Format.sub
  rw [read_fin h hf]
  generalize sgn d = s
  generalize dm (mag d) = m
  generalize dp (mag d) = p
  show (Ieee.Datum.sum (.number s m p) (.number (!s) m p)).map Ieee.double.write = some 0
  have e : Ieee.signed s m (p - min p p).toNat + Ieee.signed (!s) m (p - min p p).toNat = 0 := by
    unfold Ieee.signed
    cases s
    · rw [if_neg (by decide), if_pos (by decide)]; omega
    · rw [if_pos rfl, if_neg (by decide)]; omega
  simp only [Ieee.Datum.sum, e]
  cases s <;> rfl
theorem sub_inf {d : Nat} (h : d < 18446744073709551616) (hf : fin d = false) : Ieee.double.sub d d = none := by
  unfold Ieee.Format.sub
  rcases kinds d with f | f | f
  · rw [f] at hf; cases hf
  · rw [read_inf h f]; cases sgn d <;> rfl
  · obtain ⟨s, t, e⟩ := read_nan f
    rw [e]; rfl
/-- the NaN that a world's next answer tells. -/
def nanR (w : World) (x y : Nat) : Nat := (Question.nanBits .f64 x y).cut (w.tape w.drawn (.nanBits .f64 x y))
theorem nanR_nan (w : World) (x y : Nat) : nanR w x y < 18446744073709551616 ∧ nan (nanR w x y) = true := by
  have key : nanR w x y = (w.tape w.drawn (.nanBits .f64 x y) % 2) * 2 ^ 63 + 0x7ff0000000000000 + 1 + (w.tape w.drawn (.nanBits .f64 x y) / 2) % (2 ^ 52 - 1) := rfl
  rw [key]
  generalize w.tape w.drawn (.nanBits .f64 x y) = t
  have hA : t % 2 = 0 ∨ t % 2 = 1 := by omega
  have hB : t / 2 % (2 ^ 52 - 1) < 4503599627370495 := Nat.mod_lt _ (by decide)
  generalize t / 2 % (2 ^ 52 - 1) = B at *
  generalize t % 2 = A at *
  rw [show (2 : Nat) ^ 63 = 9223372036854775808 from rfl]
  rcases hA with rfl | rfl
  · exact ⟨by omega, by unfold nan mag; apply decide_eq_true; omega⟩
  · exact ⟨by omega, by unfold nan mag; apply decide_eq_true; omega⟩
theorem ord_nan_l {a : Nat} (b : Nat) (h : nan a = true) (o : Ordering) : (FloatKind.f64.format.order a b == some o) = false := by
  show (Ieee.double.order a b == some o) = false
  rw [order_nan (Or.inl h)]; rfl
theorem run_sub_nan {P : Program} (t : TypeId) {x y : Nat} (h : Ieee.double.sub x y = none) (w : World) :
    (binOp .sub t (.float .f64 x) (.float .f64 y)).run P w = .ok (.float .f64 (nanR w x y)) w.drew := by
  have h' : FloatKind.f64.format.sub x y = none := h
  simp [binOp, Op.floatArith, h']
  rfl
theorem midr_bd {a b : Nat} (h : rank a < rank b) : rank a ≤ midr a b ∧ midr a b < rank b ∧ atok (midr a b) = true := by
  have ha := rank_bd a
  have hb := rank_bd b
  exact ⟨by unfold midr; omega, by unfold midr; omega, att_in _ (by unfold midr; omega) (by unfold midr; omega)⟩
theorem shr_bit {v : Nat} (k : Nat) : ((v : Int) / 2 ^ k) = ((v / 2 ^ k : Nat) : Int) := by
  rw [show ((2 : Int) ^ k) = ((2 ^ k : Nat) : Int) by simp]; rfl
theorem and_one_nat {q : Nat} (h : q < 18446744073709551616) : bits .and .u64 (q : Int) 1 = ((q % 2 : Nat) : Int) := by
  have := u64_and_nat q 1 h (by decide)
  rw [Nat.and_one_is_mod] at this
  exact this
/-- what holds of the two ends behind k halvings. -/
def Mids (c d k : Nat) : Prop := c < 18446744073709551616 ∧ d < 18446744073709551616 ∧ ok c = true ∧ ok d = true ∧ rank c < rank d ∧ rank d - rank c ≤ 2 ^ (64 - k)
theorem ok_of {c : Nat} (h : ok c = true) : nan c = false := by rw [ok_nan] at h; simpa using h
theorem mids_start {a b : Nat} (ha : a < 18446744073709551616) (hb : b < 18446744073709551616) (oa : ok a = true) (ob : ok b = true) (h : rank a < rank b) : Mids a b 0 := by
  refine ⟨ha, hb, oa, ob, h, ?_⟩
  have h1 := rank_bd a
  have h2 := rank_bd b
  show rank b - rank a ≤ 18446744073709551616
  omega
theorem mids_mid {c d k : Nat} (h : Mids c d k) : att (midr c d) < 18446744073709551616 ∧ ok (att (midr c d)) = true ∧ rank (att (midr c d)) = midr c d ∧ rank c ≤ midr c d ∧ midr c d < rank d := by
  obtain ⟨h1, h2, h3, h4, h5, h6⟩ := h
  obtain ⟨a1, a2, a3⟩ := midr_bd h5
  obtain ⟨b1, b2, b3, _⟩ := att_mag a3
  exact ⟨b1, by rw [ok_nan, b2]; rfl, b3, a1, a2⟩
theorem pow_half {k : Nat} (hk : k < 64) : (2 : Int) ^ (64 - k) = 2 * 2 ^ (64 - (k + 1)) := by
  rw [show 64 - k = (64 - (k + 1)) + 1 by omega, Int.pow_succ, Int.mul_comm]
theorem mids_up {c d k : Nat} (h : Mids c d k) (hk : k < 64) : Mids (att (midr c d)) d (k + 1) := by
  obtain ⟨b1, b2, b3, b4, b5⟩ := mids_mid h
  obtain ⟨h1, h2, h3, h4, h5, h6⟩ := h
  refine ⟨b1, h2, b2, h4, by omega, ?_⟩
  rw [pow_half hk] at h6
  rw [b3]; unfold midr; omega
theorem mids_down {c d k : Nat} (h : Mids c d k) (hk : k < 64) (hne : ¬ midr c d = rank c) : Mids c (att (midr c d)) (k + 1) := by
  obtain ⟨b1, b2, b3, b4, b5⟩ := mids_mid h
  obtain ⟨h1, h2, h3, h4, h5, h6⟩ := h
  refine ⟨h1, b1, h3, b2, by omega, ?_⟩
  rw [pow_half hk] at h6
  rw [b3]; unfold midr; omega
theorem mids_end {c d : Nat} (h : Mids c d 64) : midr c d = rank c := by
  obtain ⟨h1, h2, h3, h4, h5, h6⟩ := h
  rw [show 64 - 64 = 0 from rfl, Int.pow_zero] at h6
  unfold midr; omega
theorem way_bit {v k : Nat} (h : v < 18446744073709551616) : ∃ X : Int, bits .and .u64 ((v : Int) / 2 ^ k) 1 = X := ⟨_, rfl⟩
end Tn
