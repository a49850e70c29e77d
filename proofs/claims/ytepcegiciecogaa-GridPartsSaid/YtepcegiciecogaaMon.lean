/- Rounding does not fall. No program. -/
import Derived.Test.YtepcegiciecogaaPl
namespace Tn
open Go Go.RowKit

theorem rne_mono {a b : Nat} (h : a ≤ b) (d : Nat) : rne a d ≤ rne b d := by
  have hd := Nat.two_pow_pos d
  have e1 := Nat.div_add_mod a (2 ^ d)
  have e2 := Nat.div_add_mod b (2 ^ d)
  have hq : a / 2 ^ d ≤ b / 2 ^ d := Nat.div_le_div_right h
  unfold rne
  by_cases c : a / 2 ^ d = b / 2 ^ d
  · rw [c] at e1 ⊢
    generalize b / 2 ^ d = q at *
    generalize a % 2 ^ d = r1 at *
    generalize b % 2 ^ d = r2 at *
    generalize 2 ^ d * q = P at *
    have hr : r1 ≤ r2 := by omega
    generalize 2 ^ d = D at *
    by_cases c1 : D < 2 * r1 ∨ (D = 2 * r1 ∧ q % 2 = 1)
    · rw [if_pos c1, if_pos (by omega)]; omega
    · rw [if_neg c1]; split <;> omega
  · split <;> split <;> omega
theorem rnd_mono {a b : Nat} (h : a ≤ b) (x : Int) : rnd a x ≤ rnd b x := by
  unfold rnd
  split
  · exact Nat.mul_le_mul_right _ h
  · exact rne_mono h _
theorem log2_mono {a b : Nat} (h0 : a ≠ 0) (h : a ≤ b) : a.log2 ≤ b.log2 := by
  have h1 := log2_lo h0
  exact (Nat.le_log2 (by omega)).2 (by omega)
theorem rnd_top {m : Nat} (_h : m ≠ 0) (p : Int) : rnd m (p - last m p) ≤ 9007199254740992 := by
  have h1 := log2_hi m
  have hl : p + (m.log2 : Int) - 52 ≤ last m p := by unfold last; omega
  unfold rnd
  by_cases c : 0 ≤ p - last m p
  · rw [if_pos c]
    have hk : m.log2 + 1 + (p - last m p).toNat ≤ 53 := by omega
    have h3 : m * 2 ^ (p - last m p).toNat ≤ 2 ^ (m.log2 + 1) * 2 ^ (p - last m p).toNat := Nat.mul_le_mul_right _ (Nat.le_of_lt h1)
    rw [← Nat.pow_add] at h3
    have h4 := pow_le hk
    rw [show (2 : Nat) ^ 53 = 9007199254740992 by decide] at h4
    omega
  · rw [if_neg c]
    apply rne_le
    have hk : m.log2 + 1 ≤ 53 + (-(p - last m p)).toNat := by omega
    have h4 := pow_le hk
    rw [Nat.pow_add _ 53, show (2 : Nat) ^ 53 = 9007199254740992 by decide] at h4
    omega
theorem rnd_bot {m : Nat} (h : m ≠ 0) {p : Int} (hl : last m p = p + m.log2 - 52) : 4503599627370496 ≤ rnd m (p - last m p) := by
  have h1 := log2_lo h
  rw [hl]
  unfold rnd
  by_cases c : 0 ≤ p - (p + (m.log2 : Int) - 52)
  · rw [if_pos c]
    have hk : 52 ≤ m.log2 + (p - (p + (m.log2 : Int) - 52)).toNat := by omega
    have h3 : 2 ^ m.log2 * 2 ^ (p - (p + (m.log2 : Int) - 52)).toNat ≤ m * 2 ^ (p - (p + (m.log2 : Int) - 52)).toNat := Nat.mul_le_mul_right _ h1
    rw [← Nat.pow_add] at h3
    have h4 := pow_le hk
    rw [show (2 : Nat) ^ 52 = 4503599627370496 by decide] at h4
    omega
  · rw [if_neg c]
    apply le_rne
    have hk : 52 + (-(p - (p + (m.log2 : Int) - 52))).toNat ≤ m.log2 := by omega
    have h4 := pow_le hk
    rw [Nat.pow_add, show (2 : Nat) ^ 52 = 4503599627370496 by decide] at h4
    omega
theorem step_le {A B C ra rb : Nat} (h3 : A + 1 ≤ B) (h1 : ra ≤ 2 * C) (h2 : C ≤ rb) : A * C + ra ≤ B * C + rb := by
  have := Nat.mul_le_mul_right C h3
  rw [Nat.add_mul, Nat.one_mul] at this
  omega
theorem min_both {a b I : Nat} (h : a ≤ b) : min a I ≤ min b I := by omega
theorem nr_mono {a b : Nat} (h : a ≤ b) (p : Int) : nr a p ≤ nr b p := by
  by_cases h0 : a = 0
  · subst h0; rw [nr_zero]; exact Nat.zero_le _
  · have hb : b ≠ 0 := by omega
    have hl := log2_mono h0 h
    have hll : last a p ≤ last b p := by unfold last; omega
    have hm : -1074 ≤ last a p := by unfold last; omega
    have key : (last a p + 1074).toNat * 4503599627370496 + rnd a (p - last a p) ≤ (last b p + 1074).toNat * 4503599627370496 + rnd b (p - last b p) := by
      by_cases c : last a p = last b p
      · rw [c]
        have hr := rnd_mono h (p - last b p)
        generalize (last b p + 1074).toNat * 4503599627370496 = X
        exact Nat.add_le_add_left hr X
      · have hlb : last b p = p + b.log2 - 52 := by unfold last at c hll ⊢; omega
        have h1 := rnd_top h0 p
        have h2 := rnd_bot hb hlb
        have h3 : (last a p + 1074).toNat + 1 ≤ (last b p + 1074).toNat := by omega
        exact step_le (C := 4503599627370496) h3 (Nat.le_trans h1 (by decide)) h2
    unfold nr
    rw [if_neg h0, if_neg hb]
    exact min_both key
/-- the quotient, and a little more: as one number. -/
def dbl (q : Nat) (more : Bool) : Nat := 2 * q + (if more = true then 1 else 0)
theorem rneM_true {v d : Nat} (hd : 1 ≤ d) : rneM v d true = rne (2 * v + 1) (d + 1) := by
  obtain ⟨c, rfl⟩ : ∃ c, d = c + 1 := ⟨d - 1, by omega⟩
  unfold rneM rne
  have hp := Nat.two_pow_pos c
  have e0 : (2 : Nat) ^ (c + 1) = 2 ^ c * 2 := Nat.pow_succ ..
  have e1 : (2 : Nat) ^ (c + 1 + 1) = 2 * 2 ^ (c + 1) := by rw [Nat.pow_succ, Nat.mul_comm]
  have e2 : (2 * v + 1) / 2 ^ (c + 1 + 1) = v / 2 ^ (c + 1) := by
    rw [e1, ← Nat.div_div_eq_div_mul, show (2 * v + 1) / 2 = v by omega]
  have e3 : (2 * v + 1) % 2 ^ (c + 1 + 1) = 2 * (v % 2 ^ (c + 1)) + 1 := by
    rw [e1, Nat.mod_mul, show (2 * v + 1) / 2 = v by omega]; omega
  have e4 : v % 2 ^ (c + 1) = v % 2 ^ c + 2 ^ c * (v / 2 ^ c % 2) := by rw [e0, Nat.mod_mul]
  have hm := Nat.mod_lt v hp
  rw [e2, e3, Nat.add_sub_cancel, e4, e1, e0]
  generalize v % 2 ^ c = r at *
  have h2 : v / 2 ^ c % 2 = 0 ∨ v / 2 ^ c % 2 = 1 := by omega
  generalize v / (2 ^ c * 2) = Q at *
  generalize 2 ^ c = P at *
  rcases h2 with h2 | h2
  · rw [h2, Nat.mul_zero, Nat.add_zero, if_neg (by omega), if_neg (by omega)]
  · rw [h2, Nat.mul_one, if_pos (by simp), if_pos (by omega)]
theorem bl_dbl {q : Nat} (h : q ≠ 0) : bl (2 * q + 1) = bl q + 1 := by
  unfold bl
  rw [if_neg h, if_neg (by omega)]
  congr 1
  apply log2_unique
  · have := log2_lo h
    rw [Nat.pow_succ]; omega
  · have := log2_hi q
    rw [Nat.pow_succ]; omega
theorem near_off (k : Nat) : (k : Int) - 2148 = -2149 + ((k + 1 : Nat) : Int) := by omega
theorem nearU_dbl (q : Nat) (more : Bool) : nearU q more = nr (dbl q more) (-2149) := by
  have hk : 1 ≤ nearK q := by unfold nearK; omega
  cases more
  · have e : dbl q false = q * 2 ^ 1 := by unfold dbl; simp; omega
    rw [e, nr_scale']
    by_cases h0 : q = 0
    · subst h0
      unfold nearU
      rw [rneM_false hk]
      rw [show rne 0 (nearK 0) = 0 by unfold rne; rw [Nat.zero_div, Nat.zero_mod]; have := Nat.two_pow_pos (nearK 0); rw [if_neg (by omega)], nr_zero, nr_zero]
    · unfold nearU
      rw [rneM_false hk]
      have h := join_core (E := -2148) (X := (nearK q : Int)) (u := q) (by omega) (by unfold nearK; omega)
      rw [Int.toNat_natCast] at h
      rw [show -2149 + ((1 : Nat) : Int) = -2148 by omega, ← h]
      congr 1
      try omega
  · have e : dbl q true = 2 * q + 1 := by unfold dbl; rw [if_pos rfl]
    rw [e]
    unfold nearU
    rw [rneM_true hk]
    have hx : ((nearK q + 1 : Nat) : Int) = max ((bl (2 * q + 1) : Int) - 53) (max (-1074 - (-2149)) 0) := by
      by_cases h0 : q = 0
      · subst h0
        have : bl (2 * 0 + 1) = 1 := by decide
        have h2 : bl 0 = 0 := by decide
        unfold nearK
        rw [this, h2]; decide
      · rw [bl_dbl h0]; unfold nearK; omega
    have h := join_core (E := -2149) (X := ((nearK q + 1 : Nat) : Int)) (u := 2 * q + 1) (by omega) hx
    rw [Int.toNat_natCast] at h
    rw [← h]
    exact congrArg (nr _) (near_off _)
theorem dbl_le {q u : Nat} {more : Bool} (h : q < u ∨ (q = u ∧ more = false)) : dbl q more ≤ 2 * u := by
  unfold dbl
  rcases h with h | ⟨h, rfl⟩
  · split <;> omega
  · simp; omega
theorem nearU_ge {q u : Nat} (more : Bool) (h : u ≤ q) : nr u (-2148) ≤ nearU q more := by
  rw [nearU_dbl]
  have e := nr_scale' u 1 (-2149)
  rw [show -2149 + ((1 : Nat) : Int) = -2148 by omega] at e
  rw [← e]
  exact nr_mono (by unfold dbl; split <;> omega) _
theorem nearU_lt {q u : Nat} {more : Bool} (h : q < u ∨ (q = u ∧ more = false)) : nearU q more ≤ nr u (-2148) := by
  rw [nearU_dbl]
  have e := nr_scale' u 1 (-2149)
  rw [show -2149 + ((1 : Nat) : Int) = -2148 by omega] at e
  rw [← e]
  exact nr_mono (by have := dbl_le h; omega) _
/-! ### units, and what is near of them -/
theorem units_abs {y : Nat} (hf : fin y = true) : (units y).natAbs = dm (mag y) * 2 ^ (spe y + 2148).toNat := by
  unfold units spm
  rw [if_pos hf, Int.natAbs_mul, Int.natAbs_pow]
  cases sgn y <;> simp
theorem units_nr {y : Nat} (hf : fin y = true) : nr (units y).natAbs (-2148) = mag y := by
  by_cases h0 : mag y = 0
  · have : spm y = 0 := by
      unfold spm
      rw [if_pos hf, h0]
      have : dm 0 = 0 := by decide
      rw [this]; cases sgn y <;> simp
    rw [units_none this, h0]; exact nr_zero _
  · have hb := spe_bd y
    have e2 : spe y = dp (mag y) := by unfold spe; rw [if_pos hf, if_neg h0]
    rw [units_abs hf, nr_scale', show -2148 + (((spe y + 2148).toNat : Nat) : Int) = dp (mag y) by omega]
    unfold fin at hf
    exact nr_self (of_decide_eq_true hf)
theorem units_sgn {y : Nat} (hf : fin y = true) : (units y < 0 → sgn y = true) ∧ (0 < units y → sgn y = false) := by
  have hp : (0 : Int) < 2 ^ (spe y + 2148).toNat := Int.pow_pos (by decide)
  unfold units spm
  rw [if_pos hf]
  cases hs : sgn y
  · rw [if_neg (by decide)]
    refine ⟨fun h => absurd h (Int.not_lt.2 (Int.mul_nonneg (by omega) (Int.le_of_lt hp))), fun _ => rfl⟩
  · rw [if_pos rfl]
    refine ⟨fun _ => rfl, fun h => ?_⟩
    rw [Int.neg_mul] at h
    have : (0 : Int) ≤ (dm (mag y) : Int) * 2 ^ (spe y + 2148).toNat := Int.mul_nonneg (by omega) (Int.le_of_lt hp)
    omega
/-- where a number stands, by its units. -/
theorem rank_units {y : Nat} (hf : fin y = true) : rank y = (if units y < 0 then -(nr (units y).natAbs (-2148) : Int) else (nr (units y).natAbs (-2148) : Int)) := by
  have hn : nan y = false := by
    unfold fin at hf; unfold nan
    have := of_decide_eq_true hf
    exact decide_eq_false (by omega)
  obtain ⟨h1, h2⟩ := units_sgn hf
  rw [units_nr hf]
  cases hs : sgn y
  · rw [if_neg (fun h => by rw [h1 h] at hs; cases hs)]
    exact rank_pos hn (by rw [neg_ok hn, hs])
  · rw [rank_neg hn (by rw [neg_ok hn, hs])]
    split
    · rfl
    · rename_i h3
      have h4 : ¬ 0 < units y := fun h => by rw [h2 h] at hs; cases hs
      have h5 : units y = 0 := by omega
      have h6 := units_nr hf
      rw [h5] at h6
      have h7 : nr (0 : Int).natAbs (-2148) = 0 := nr_zero _
      rw [h7] at h6
      rw [← h6]; rfl
theorem units_mono {a b : Nat} (ha : fin a = true) (hb : fin b = true) (h : rank a ≤ rank b) : units a ≤ units b := by
  rcases Int.lt_or_le (units b) (units a) with c | c
  · exfalso
    rw [rank_units ha, rank_units hb] at h
    have e1 : ∀ {x y : Nat}, fin x = true → fin y = true → nr (units x).natAbs (-2148) = nr (units y).natAbs (-2148) → (units x).natAbs = (units y).natAbs := fun {x y} hx hy he => by
      rw [units_nr hx, units_nr hy] at he
      rw [units_abs hx, units_abs hy]
      have : spe x = spe y := by unfold spe; rw [hx, hy, he]
      rw [he, this]
    by_cases ca : units a < 0
    · rw [if_pos ca, if_pos (by omega)] at h
      have hm := nr_mono (a := (units a).natAbs) (b := (units b).natAbs) (by omega) (-2148)
      have := e1 ha hb (by omega)
      omega
    · rw [if_neg ca] at h
      by_cases cb : units b < 0
      · rw [if_pos cb] at h
        have e := e1 ha hb (by
          omega)
        have h0 : nr (units b).natAbs (-2148) = 0 := by omega
        rw [units_nr hb] at h0
        have := units_abs hb
        rw [h0, show dm 0 = 0 by decide, Nat.zero_mul] at this
        omega
      · rw [if_neg cb] at h
        have hm := nr_mono (a := (units b).natAbs) (b := (units a).natAbs) (by omega) (-2148)
        have := e1 ha hb (by omega)
        omega
  · exact c
theorem overV_fin (Z : Int) (n : Nat) : overV Z false false n = (if Z < 0 then 9223372036854775808 else 0) + nearU (Z.natAbs / n) (decide (Z.natAbs % n ≠ 0)) := by
  unfold overV
  rw [if_neg (by simp), if_neg (by simp), if_neg (by simp)]
theorem rank_overV (Z : Int) (n : Nat) : nan (overV Z false false n) = false ∧ rank (overV Z false false n) = (if Z < 0 then -(nearU (Z.natAbs / n) (decide (Z.natAbs % n ≠ 0)) : Int) else (nearU (Z.natAbs / n) (decide (Z.natAbs % n ≠ 0)) : Int)) := by
  rw [overV_fin]
  have hle := nearU_le (Z.natAbs / n) (decide (Z.natAbs % n ≠ 0))
  generalize nearU (Z.natAbs / n) (decide (Z.natAbs % n ≠ 0)) = R at *
  by_cases c : Z < 0
  · rw [if_pos c, if_pos c]
    have hm : mag (9223372036854775808 + R) = R := by unfold mag; omega
    have hn : nan (9223372036854775808 + R) = false := by unfold nan; rw [hm]; exact decide_eq_false (by omega)
    refine ⟨hn, ?_⟩
    rw [rank_neg hn (by rw [neg_ok hn]; unfold sgn; exact decide_eq_true (by omega)), hm]
  · rw [if_neg c, if_neg c, Nat.zero_add]
    have hm : mag R = R := by unfold mag; omega
    have hn : nan R = false := by unfold nan; rw [hm]; exact decide_eq_false (by omega)
    refine ⟨hn, ?_⟩
    rw [rank_pos hn (by rw [neg_ok hn]; unfold sgn; exact decide_eq_false (by omega)), hm]
/-- near of a part lies at or above a number that the part lies at or above. -/
theorem over_above {Z : Int} {n y : Nat} (hn : 1 ≤ n) (hf : fin y = true) (h : (n : Int) * units y ≤ Z) : rank y ≤ rank (overV Z false false n) := by
  rw [rank_units hf, (rank_overV Z n).2]
  have ha : n * (units y).natAbs = ((n : Int) * units y).natAbs := by rw [Int.natAbs_mul, Int.natAbs_natCast]
  by_cases c : Z < 0
  · rw [if_pos c]
    have hu : units y < 0 := by
      rcases Int.lt_or_le (units y) 0 with h1 | h1
      · exact h1
      · have := Int.mul_nonneg (show (0 : Int) ≤ n by omega) h1
        omega
    rw [if_pos hu]
    have hq : Z.natAbs ≤ n * (units y).natAbs := by rw [ha]; omega
    have e := Nat.div_add_mod Z.natAbs n
    have hlt := Nat.mod_lt Z.natAbs (show 0 < n by omega)
    have := nearU_lt (q := Z.natAbs / n) (u := (units y).natAbs) (more := decide (Z.natAbs % n ≠ 0)) (by
      have h1 : Z.natAbs / n ≤ (units y).natAbs := Nat.div_le_of_le_mul hq
      rcases Nat.lt_or_eq_of_le h1 with h1 | h1
      · exact .inl h1
      · rw [h1] at e
        exact .inr ⟨h1, decide_eq_false (by omega)⟩)
    omega
  · rw [if_neg c]
    by_cases hu : units y < 0
    · rw [if_pos hu]; omega
    · rw [if_neg hu]
      have hnn := Int.mul_nonneg (show (0 : Int) ≤ n by omega) (show 0 ≤ units y by omega)
      have hq : n * (units y).natAbs ≤ Z.natAbs := by rw [ha]; omega
      have := nearU_ge (decide (Z.natAbs % n ≠ 0)) ((Nat.le_div_iff_mul_le (show 0 < n by omega)).2 (by rw [Nat.mul_comm]; exact hq))
      omega
theorem over_under {Z : Int} {n y : Nat} (hn : 1 ≤ n) (hf : fin y = true) (h : Z ≤ (n : Int) * units y) : rank (overV Z false false n) ≤ rank y := by
  rw [rank_units hf, (rank_overV Z n).2]
  have ha : n * (units y).natAbs = ((n : Int) * units y).natAbs := by rw [Int.natAbs_mul, Int.natAbs_natCast]
  by_cases c : Z < 0
  · rw [if_pos c]
    by_cases hu : units y < 0
    · rw [if_pos hu]
      have hnn := Int.mul_neg_of_pos_of_neg (show (0 : Int) < n by omega) hu
      have hq : n * (units y).natAbs ≤ Z.natAbs := by rw [ha]; omega
      have := nearU_ge (decide (Z.natAbs % n ≠ 0)) ((Nat.le_div_iff_mul_le (show 0 < n by omega)).2 (by rw [Nat.mul_comm]; exact hq))
      omega
    · rw [if_neg hu]; omega
  · rw [if_neg c]
    have hu : ¬ units y < 0 := fun h1 => by
      have h2 : (n : Int) * units y < 0 := by
        have := Int.mul_neg_of_pos_of_neg (show (0 : Int) < n by omega) h1
        exact this
      omega
    rw [if_neg hu]
    have hq : Z.natAbs ≤ n * (units y).natAbs := by rw [ha]; omega
    have e := Nat.div_add_mod Z.natAbs n
    have hlt := Nat.mod_lt Z.natAbs (show 0 < n by omega)
    have := nearU_lt (q := Z.natAbs / n) (u := (units y).natAbs) (more := decide (Z.natAbs % n ≠ 0)) (by
      have h1 : Z.natAbs / n ≤ (units y).natAbs := Nat.div_le_of_le_mul hq
      rcases Nat.lt_or_eq_of_le h1 with h1 | h1
      · exact .inl h1
      · rw [h1] at e
        exact .inr ⟨h1, decide_eq_false (by omega)⟩)
    omega
end Tn
