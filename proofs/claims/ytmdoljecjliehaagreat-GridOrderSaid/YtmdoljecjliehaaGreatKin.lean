/- Texts packed into one: Mon Qt Ari Kin. No condition. -/
import Derived.Test.YtmdoljecjliehaaGreatPl
section
/- Rounding does not fall. No program. -/
namespace Tn
open Go Go.RowKit

theorem rne_mono {a b : Nat} (h : a ≤ b) (d : Nat) : rne a d ≤ rne b d := by
 (have hd := Nat.two_pow_pos d);(have e1 := Nat.div_add_mod a (2 ^ d));(have e2 := Nat.div_add_mod b (2 ^ d));(have hq : a / 2 ^ d ≤ b / 2 ^ d := Nat.div_le_div_right h);(unfold rne)
 by_cases c : a / 2 ^ d = b / 2 ^ d
 ·rw [c] at e1 ⊢
  (generalize b / 2 ^ d = q at *);(generalize a % 2 ^ d = r1 at *);(generalize b % 2 ^ d = r2 at *);(generalize 2 ^ d * q = P at *);(have hr : r1 ≤ r2 := by omega);(generalize 2 ^ d = D at *)
  by_cases c1 : D < 2 * r1 ∨ (D = 2 * r1 ∧ q % 2 = 1)
  ·rw [if_pos c1, if_pos (by omega)]; omega
  ·rw [if_neg c1]; split <;> omega
 ·split <;> split <;> omega
theorem rnd_mono {a b : Nat} (h : a ≤ b) (x : Int) : rnd a x ≤ rnd b x := by
 unfold rnd
 split
 ·exact Nat.mul_le_mul_right _ h
 ·exact rne_mono h _
theorem log2_mono {a b : Nat} (h0 : a ≠ 0) (h : a ≤ b) : a.log2 ≤ b.log2 := by
 (have h1 := log2_lo h0);(exact (Nat.le_log2 (by omega)).2 (by omega))
theorem rnd_top {m : Nat} (_h : m ≠ 0) (p : Int) : rnd m (p - last m p) ≤ 9007199254740992 := by
 (have h1 := log2_hi m);(have hl : p + (m.log2 : Int) - 52 ≤ last m p := by unfold last; omega);(unfold rnd)
 by_cases c : 0 ≤ p - last m p
 ·rw [if_pos c]
  (have hk : m.log2 + 1 + (p - last m p).toNat ≤ 53 := by omega);(have h3 : m * 2 ^ (p - last m p).toNat ≤ 2 ^ (m.log2 + 1) * 2 ^ (p - last m p).toNat := Nat.mul_le_mul_right _ (Nat.le_of_lt h1));(rw [← Nat.pow_add] at h3);(have h4 := pow_le hk);(rw [show (2 : Nat) ^ 53 = 9007199254740992 by decide] at h4);(omega)
 ·rw [if_neg c]
  apply rne_le
  (have hk : m.log2 + 1 ≤ 53 + (-(p - last m p)).toNat := by omega);(have h4 := pow_le hk);(rw [Nat.pow_add _ 53, show (2 : Nat) ^ 53 = 9007199254740992 by decide] at h4);(omega)
theorem rnd_bot {m : Nat} (h : m ≠ 0) {p : Int} (hl : last m p = p + m.log2 - 52) : 4503599627370496 ≤ rnd m (p - last m p) := by
 (have h1 := log2_lo h);(rw [hl]);(unfold rnd)
 by_cases c : 0 ≤ p - (p + (m.log2 : Int) - 52)
 ·rw [if_pos c]
  (have hk : 52 ≤ m.log2 + (p - (p + (m.log2 : Int) - 52)).toNat := by omega);(have h3 : 2 ^ m.log2 * 2 ^ (p - (p + (m.log2 : Int) - 52)).toNat ≤ m * 2 ^ (p - (p + (m.log2 : Int) - 52)).toNat := Nat.mul_le_mul_right _ h1);(rw [← Nat.pow_add] at h3);(have h4 := pow_le hk);(rw [show (2 : Nat) ^ 52 = 4503599627370496 by decide] at h4);(omega)
 ·rw [if_neg c]
  apply le_rne
  (have hk : 52 + (-(p - (p + (m.log2 : Int) - 52))).toNat ≤ m.log2 := by omega);(have h4 := pow_le hk);(rw [Nat.pow_add, show (2 : Nat) ^ 52 = 4503599627370496 by decide] at h4);(omega)
theorem step_le {A B C ra rb : Nat} (h3 : A + 1 ≤ B) (h1 : ra ≤ 2 * C) (h2 : C ≤ rb) : A * C + ra ≤ B * C + rb := by
 (have := Nat.mul_le_mul_right C h3);(rw [Nat.add_mul, Nat.one_mul] at this);(omega)
theorem min_both {a b I : Nat} (h : a ≤ b) : min a I ≤ min b I := by omega
theorem nr_mono {a b : Nat} (h : a ≤ b) (p : Int) : nr a p ≤ nr b p := by
 by_cases h0 : a = 0
 ·subst h0; rw [nr_zero]; exact Nat.zero_le _
 ·have hb : b ≠ 0 := by omega
  (have hl := log2_mono h0 h);(have hll : last a p ≤ last b p := by unfold last; omega);(have hm : -1074 ≤ last a p := by unfold last; omega)
  have key : (last a p + 1074).toNat * 4503599627370496 + rnd a (p - last a p) ≤ (last b p + 1074).toNat * 4503599627370496 + rnd b (p - last b p) := by
   by_cases c : last a p = last b p
   ·rw [c]
    (have hr := rnd_mono h (p - last b p));(generalize (last b p + 1074).toNat * 4503599627370496 = X);(exact Nat.add_le_add_left hr X)
   ·have hlb : last b p = p + b.log2 - 52 := by unfold last at c hll ⊢; omega
    (have h1 := rnd_top h0 p);(have h2 := rnd_bot hb hlb);(have h3 : (last a p + 1074).toNat + 1 ≤ (last b p + 1074).toNat := by omega);(exact step_le (C := 4503599627370496) h3 (Nat.le_trans h1 (by decide)) h2)
  (unfold nr);(rw [if_neg h0, if_neg hb]);(exact min_both key)
def dbl (q : Nat) (more : Bool) : Nat := 2 * q + (if more = true then 1 else 0)
theorem rneM_true {v d : Nat} (hd : 1 ≤ d) : rneM v d true = rne (2 * v + 1) (d + 1) := by
 (obtain ⟨c, rfl⟩ : ∃ c, d = c + 1 := ⟨d - 1, by omega⟩);(unfold rneM rne);(have hp := Nat.two_pow_pos c);(have e0 : (2 : Nat) ^ (c + 1) = 2 ^ c * 2 := Nat.pow_succ ..);(have e1 : (2 : Nat) ^ (c + 1 + 1) = 2 * 2 ^ (c + 1) := by rw [Nat.pow_succ, Nat.mul_comm])
 have e2 : (2 * v + 1) / 2 ^ (c + 1 + 1) = v / 2 ^ (c + 1) := by
  rw [e1, ← Nat.div_div_eq_div_mul, show (2 * v + 1) / 2 = v by omega]
 have e3 : (2 * v + 1) % 2 ^ (c + 1 + 1) = 2 * (v % 2 ^ (c + 1)) + 1 := by
  rw [e1, Nat.mod_mul, show (2 * v + 1) / 2 = v by omega]; omega
 (have e4 : v % 2 ^ (c + 1) = v % 2 ^ c + 2 ^ c * (v / 2 ^ c % 2) := by rw [e0, Nat.mod_mul]);(have hm := Nat.mod_lt v hp);(rw [e2, e3, Nat.add_sub_cancel, e4, e1, e0]);(generalize v % 2 ^ c = r at *);(have h2 : v / 2 ^ c % 2 = 0 ∨ v / 2 ^ c % 2 = 1 := by omega);(generalize v / (2 ^ c * 2) = Q at *);(generalize 2 ^ c = P at *)
 rcases h2 with h2 | h2
 ·rw [h2, Nat.mul_zero, Nat.add_zero, if_neg (by omega), if_neg (by omega)]
 ·rw [h2, Nat.mul_one, if_pos (by simp), if_pos (by omega)]
theorem bl_dbl {q : Nat} (h : q ≠ 0) : bl (2 * q + 1) = bl q + 1 := by
 (unfold bl);(rw [if_neg h, if_neg (by omega)])
 congr 1
 apply log2_unique
 ·have := log2_lo h
  rw [Nat.pow_succ]; omega
 ·have := log2_hi q
  rw [Nat.pow_succ]; omega
theorem near_off (k : Nat) : (k : Int) - 2148 = -2149 + ((k + 1 : Nat) : Int) := by omega
theorem nearU_dbl (q : Nat) (more : Bool) : nearU q more = nr (dbl q more) (-2149) := by
 (have hk : 1 ≤ nearK q := by unfold nearK; omega);(cases more)
 ·have e : dbl q false = q * 2 ^ 1 := by unfold dbl; simp; omega
  rw [e, nr_scale']
  by_cases h0 : q = 0
  ·subst h0
   (unfold nearU);(rw [rneM_false hk]);(rw [show rne 0 (nearK 0) = 0 by unfold rne; rw [Nat.zero_div, Nat.zero_mod]; have := Nat.two_pow_pos (nearK 0); rw [if_neg (by omega)], nr_zero, nr_zero])
  ·unfold nearU
   (rw [rneM_false hk]);(have h := join_core (E := -2148) (X := (nearK q : Int)) (u := q) (by omega) (by unfold nearK; omega));(rw [Int.toNat_natCast] at h);(rw [show -2149 + ((1 : Nat) : Int) = -2148 by omega, ← h])
   congr 1
   try omega
 ·have e : dbl q true = 2 * q + 1 := by unfold dbl; rw [if_pos rfl]
  (rw [e]);(unfold nearU);(rw [rneM_true hk])
  have hx : ((nearK q + 1 : Nat) : Int) = max ((bl (2 * q + 1) : Int) - 53) (max (-1074 - (-2149)) 0) := by
   by_cases h0 : q = 0
   ·subst h0
    (have : bl (2 * 0 + 1) = 1 := by decide);(have h2 : bl 0 = 0 := by decide);(unfold nearK);(rw [this, h2]; decide)
   ·rw [bl_dbl h0]; unfold nearK; omega
  (have h := join_core (E := -2149) (X := ((nearK q + 1 : Nat) : Int)) (u := 2 * q + 1) (by omega) hx);(rw [Int.toNat_natCast] at h);(rw [← h]);(exact congrArg (nr _) (near_off _))
theorem dbl_le {q u : Nat} {more : Bool} (h : q < u ∨ (q = u ∧ more = false)) : dbl q more ≤ 2 * u := by
 unfold dbl
 rcases h with h | ⟨h, rfl⟩
 ·split <;> omega
 ·simp; omega
theorem nearU_ge {q u : Nat} (more : Bool) (h : u ≤ q) : nr u (-2148) ≤ nearU q more := by
 (rw [nearU_dbl]);(have e := nr_scale' u 1 (-2149));(rw [show -2149 + ((1 : Nat) : Int) = -2148 by omega] at e);(rw [← e]);(exact nr_mono (by unfold dbl; split <;> omega) _)
theorem nearU_lt {q u : Nat} {more : Bool} (h : q < u ∨ (q = u ∧ more = false)) : nearU q more ≤ nr u (-2148) := by
 (rw [nearU_dbl]);(have e := nr_scale' u 1 (-2149));(rw [show -2149 + ((1 : Nat) : Int) = -2148 by omega] at e);(rw [← e]);(exact nr_mono (by have := dbl_le h; omega) _)
theorem units_abs {y : Nat} (hf : fin y = true) : (units y).natAbs = dm (mag y) * 2 ^ (spe y + 2148).toNat := by
 (unfold units spm);(rw [if_pos hf, Int.natAbs_mul, Int.natAbs_pow])
 cases sgn y <;> simp
theorem units_nr {y : Nat} (hf : fin y = true) : nr (units y).natAbs (-2148) = mag y := by
 by_cases h0 : mag y = 0
 ·have : spm y = 0 := by
   (unfold spm);(rw [if_pos hf, h0]);(have : dm 0 = 0 := by decide);(rw [this]; cases sgn y <;> simp)
  rw [units_none this, h0]; exact nr_zero _
 ·have hb := spe_bd y
  (have e2 : spe y = dp (mag y) := by unfold spe; rw [if_pos hf, if_neg h0]);(rw [units_abs hf, nr_scale', show -2148 + (((spe y + 2148).toNat : Nat) : Int) = dp (mag y) by omega]);(unfold fin at hf);(exact nr_self (of_decide_eq_true hf))
theorem units_sgn {y : Nat} (hf : fin y = true) : (units y < 0 → sgn y = true) ∧ (0 < units y → sgn y = false) := by
 (have hp : (0 : Int) < 2 ^ (spe y + 2148).toNat := Int.pow_pos (by decide));(unfold units spm);(rw [if_pos hf])
 cases hs : sgn y
 ·rw [if_neg (by decide)]
  refine ⟨fun h => absurd h (Int.not_lt.2 (Int.mul_nonneg (by omega) (Int.le_of_lt hp))), fun _ => rfl⟩
 ·rw [if_pos rfl]
  (refine ⟨fun _ => rfl, fun h => ?_⟩);(rw [Int.neg_mul] at h);(have : (0 : Int) ≤ (dm (mag y) : Int) * 2 ^ (spe y + 2148).toNat := Int.mul_nonneg (by omega) (Int.le_of_lt hp));(omega)
theorem rank_units {y : Nat} (hf : fin y = true) : rank y = (if units y < 0 then -(nr (units y).natAbs (-2148) : Int) else (nr (units y).natAbs (-2148) : Int)) := by
 have hn : nan y = false := by
  (unfold fin at hf; unfold nan);(have := of_decide_eq_true hf);(exact decide_eq_false (by omega))
 (obtain ⟨h1, h2⟩ := units_sgn hf);(rw [units_nr hf])
 cases hs : sgn y
 ·rw [if_neg (fun h => by rw [h1 h] at hs; cases hs)]
  exact rank_pos hn (by rw [neg_ok hn, hs])
 ·rw [rank_neg hn (by rw [neg_ok hn, hs])]
  split
  ·rfl
  ·rename_i h3
   (have h4 : ¬ 0 < units y := fun h => by rw [h2 h] at hs; cases hs);(have h5 : units y = 0 := by omega);(have h6 := units_nr hf);(rw [h5] at h6);(have h7 : nr (0 : Int).natAbs (-2148) = 0 := nr_zero _);(rw [h7] at h6);(rw [← h6]; rfl)
theorem units_mono {a b : Nat} (ha : fin a = true) (hb : fin b = true) (h : rank a ≤ rank b) : units a ≤ units b := by
 rcases Int.lt_or_le (units b) (units a) with c | c
 ·exfalso
  rw [rank_units ha, rank_units hb] at h
  have e1 : ∀ {x y : Nat}, fin x = true → fin y = true → nr (units x).natAbs (-2148) = nr (units y).natAbs (-2148) → (units x).natAbs = (units y).natAbs := fun {x y} hx hy he => by
   (rw [units_nr hx, units_nr hy] at he);(rw [units_abs hx, units_abs hy]);(have : spe x = spe y := by unfold spe; rw [hx, hy, he]);(rw [he, this])
  by_cases ca : units a < 0
  ·rw [if_pos ca, if_pos (by omega)] at h
   (have hm := nr_mono (a := (units a).natAbs) (b := (units b).natAbs) (by omega) (-2148));(have := e1 ha hb (by omega));(omega)
  ·rw [if_neg ca] at h
   by_cases cb : units b < 0
   ·rw [if_pos cb] at h
    have e := e1 ha hb (by
     omega)
    (have h0 : nr (units b).natAbs (-2148) = 0 := by omega);(rw [units_nr hb] at h0);(have := units_abs hb);(rw [h0, show dm 0 = 0 by decide, Nat.zero_mul] at this);(omega)
   ·rw [if_neg cb] at h
    (have hm := nr_mono (a := (units b).natAbs) (b := (units a).natAbs) (by omega) (-2148));(have := e1 ha hb (by omega));(omega)
 ·exact c
theorem overV_fin (Z : Int) (n : Nat) : overV Z false false n = (if Z < 0 then 9223372036854775808 else 0) + nearU (Z.natAbs / n) (decide (Z.natAbs % n ≠ 0)) := by
 (unfold overV);(rw [if_neg (by simp), if_neg (by simp), if_neg (by simp)])
theorem rank_overV (Z : Int) (n : Nat) : nan (overV Z false false n) = false ∧ rank (overV Z false false n) = (if Z < 0 then -(nearU (Z.natAbs / n) (decide (Z.natAbs % n ≠ 0)) : Int) else (nearU (Z.natAbs / n) (decide (Z.natAbs % n ≠ 0)) : Int)) := by
 (rw [overV_fin]);(have hle := nearU_le (Z.natAbs / n) (decide (Z.natAbs % n ≠ 0)));(generalize nearU (Z.natAbs / n) (decide (Z.natAbs % n ≠ 0)) = R at *)
 by_cases c : Z < 0
 ·rw [if_pos c, if_pos c]
  (have hm : mag (9223372036854775808 + R) = R := by unfold mag; omega);(have hn : nan (9223372036854775808 + R) = false := by unfold nan; rw [hm]; exact decide_eq_false (by omega));(refine ⟨hn, ?_⟩);(rw [rank_neg hn (by rw [neg_ok hn]; unfold sgn; exact decide_eq_true (by omega)), hm])
 ·rw [if_neg c, if_neg c, Nat.zero_add]
  (have hm : mag R = R := by unfold mag; omega);(have hn : nan R = false := by unfold nan; rw [hm]; exact decide_eq_false (by omega));(refine ⟨hn, ?_⟩);(rw [rank_pos hn (by rw [neg_ok hn]; unfold sgn; exact decide_eq_false (by omega)), hm])
theorem over_above {Z : Int} {n y : Nat} (hn : 1 ≤ n) (hf : fin y = true) (h : (n : Int) * units y ≤ Z) : rank y ≤ rank (overV Z false false n) := by
 (rw [rank_units hf, (rank_overV Z n).2]);(have ha : n * (units y).natAbs = ((n : Int) * units y).natAbs := by rw [Int.natAbs_mul, Int.natAbs_natCast])
 by_cases c : Z < 0
 ·rw [if_pos c]
  have hu : units y < 0 := by
   rcases Int.lt_or_le (units y) 0 with h1 | h1
   ·exact h1
   ·have := Int.mul_nonneg (show (0 : Int) ≤ n by omega) h1
    omega
  (rw [if_pos hu]);(have hq : Z.natAbs ≤ n * (units y).natAbs := by rw [ha]; omega);(have e := Nat.div_add_mod Z.natAbs n);(have hlt := Nat.mod_lt Z.natAbs (show 0 < n by omega))
  have := nearU_lt (q := Z.natAbs / n) (u := (units y).natAbs) (more := decide (Z.natAbs % n ≠ 0)) (by
   have h1 : Z.natAbs / n ≤ (units y).natAbs := Nat.div_le_of_le_mul hq
   rcases Nat.lt_or_eq_of_le h1 with h1 | h1
   ·exact .inl h1
   ·rw [h1] at e
    exact .inr ⟨h1, decide_eq_false (by omega)⟩)
  omega
 ·rw [if_neg c]
  by_cases hu : units y < 0
  ·rw [if_pos hu]; omega
  ·rw [if_neg hu]
   (have hnn := Int.mul_nonneg (show (0 : Int) ≤ n by omega) (show 0 ≤ units y by omega));(have hq : n * (units y).natAbs ≤ Z.natAbs := by rw [ha]; omega);(have := nearU_ge (decide (Z.natAbs % n ≠ 0)) ((Nat.le_div_iff_mul_le (show 0 < n by omega)).2 (by rw [Nat.mul_comm]; exact hq)));(omega)
theorem over_under {Z : Int} {n y : Nat} (hn : 1 ≤ n) (hf : fin y = true) (h : Z ≤ (n : Int) * units y) : rank (overV Z false false n) ≤ rank y := by
 (rw [rank_units hf, (rank_overV Z n).2]);(have ha : n * (units y).natAbs = ((n : Int) * units y).natAbs := by rw [Int.natAbs_mul, Int.natAbs_natCast])
 by_cases c : Z < 0
 ·rw [if_pos c]
  by_cases hu : units y < 0
  ·rw [if_pos hu]
   (have hnn := Int.mul_neg_of_pos_of_neg (show (0 : Int) < n by omega) hu);(have hq : n * (units y).natAbs ≤ Z.natAbs := by rw [ha]; omega);(have := nearU_ge (decide (Z.natAbs % n ≠ 0)) ((Nat.le_div_iff_mul_le (show 0 < n by omega)).2 (by rw [Nat.mul_comm]; exact hq)));(omega)
  ·rw [if_neg hu]; omega
 ·rw [if_neg c]
  have hu : ¬ units y < 0 := fun h1 => by
   have h2 : (n : Int) * units y < 0 := by
    (have := Int.mul_neg_of_pos_of_neg (show (0 : Int) < n by omega) h1);(exact this)
   omega
  (rw [if_neg hu]);(have hq : Z.natAbs ≤ n * (units y).natAbs := by rw [ha]; omega);(have e := Nat.div_add_mod Z.natAbs n);(have hlt := Nat.mod_lt Z.natAbs (show 0 < n by omega))
  have := nearU_lt (q := Z.natAbs / n) (u := (units y).natAbs) (more := decide (Z.natAbs % n ≠ 0)) (by
   have h1 : Z.natAbs / n ≤ (units y).natAbs := Nat.div_le_of_le_mul hq
   rcases Nat.lt_or_eq_of_le h1 with h1 | h1
   ·exact .inl h1
   ·rw [h1] at e
    exact .inr ⟨h1, decide_eq_false (by omega)⟩)
  omega
end Tn
end

section
/- Rounding of quotients: digits beyond those that are looked at count as one sticky bit. No program in sight. -/
namespace Tn
open Go Go.RowKit

end Tn
end

section
/- Sums, products and quotients of floats, exactly; bounds by powers of 2. No program in sight. -/
namespace Tn
open Go Go.RowKit
set_option linter.unusedVariables false

def sgB (s : Bool) : Nat := if s = true then 9223372036854775808 else 0
theorem V_def (r : Nat) : V r = dm r * 2 ^ (dp r + 1074).toNat := rfl
theorem sum_core {s t : Bool} {m n : Nat} {i j : Int} (hi : -1074 ≤ i) (hj : -1074 ≤ j) {X Y : Int}
  (hX : X = if s = true then -((m * 2 ^ (i + 1074).toNat : Nat) : Int) else ((m * 2 ^ (i + 1074).toNat : Nat) : Int)) (hY : Y = if t = true then -((n * 2 ^ (j + 1074).toNat : Nat) : Int) else ((n * 2 ^ (j + 1074).toNat : Nat) : Int)) :
  ((Ieee.Datum.number s m i).sum (Ieee.Datum.number t n j)).map Ieee.double.write = some (sgB (if X + Y = 0 then s && t else decide (X + Y < 0)) + nr (X + Y).natAbs (-1074)) := by
 (have e1 := signed_scale s m i (min i j) (by omega) (by omega));(have e2 := signed_scale t n j (min i j) (by omega) (by omega));(rw [← hX] at e1);(rw [← hY] at e2);(obtain ⟨tot, htot⟩ : ∃ z, Ieee.signed s m (i - min i j).toNat + Ieee.signed t n (j - min i j).toNat = z := ⟨_, rfl⟩);(have e3 : tot * 2 ^ (min i j + 1074).toNat = X + Y := by rw [← htot, Int.add_mul, e1, e2]);(have hp : (0 : Int) < 2 ^ (min i j + 1074).toNat := Int.pow_pos (by decide))
 have hz : tot = 0 ↔ X + Y = 0 := by
  rw [← e3]
  constructor
  ·intro h; rw [h, Int.zero_mul]
  ·intro h
   rcases Int.mul_eq_zero.1 h with h | h
   ·exact h
   ·omega
 have hn : tot < 0 ↔ X + Y < 0 := by
  rw [← e3]
  constructor
  ·intro h; exact Int.mul_neg_of_neg_of_pos h hp
  ·intro h
   rcases Int.lt_or_le tot 0 with c | c
   ·exact c
   ·have := Int.mul_nonneg c (Int.le_of_lt hp); omega
 have hs : (Ieee.Datum.number s m i).sum (Ieee.Datum.number t n j) = some (.number (if tot = 0 then s && t else decide (tot < 0)) tot.natAbs (min i j)) := by
  rw [← htot]; rfl
 rw [hs]
 show some (Ieee.double.nearest (if tot = 0 then s && t else decide (tot < 0)) tot.natAbs (min i j)) = _
 rw [nearest_nr]
 have e4 : nr tot.natAbs (min i j) = nr (X + Y).natAbs (-1074) := by
  rw [← e3, Int.natAbs_mul, Int.natAbs_pow, show (2 : Int).natAbs = 2 from rfl, nr_scale']
  congr 1; omega
 rw [e4]
 congr 2
 unfold sgB
 by_cases c : tot = 0
 ·rw [if_pos c, if_pos (hz.1 c)]
 ·rw [if_neg c, if_neg (fun h => c (hz.2 h))]
  by_cases d : tot < 0
  ·rw [decide_eq_true d, decide_eq_true (hn.1 d)]
  ·rw [decide_eq_false d, decide_eq_false (fun h => d (hn.2 h))]
def addN (x y : Nat) : Nat := sgB (if sV x + sV y = 0 then sgn x && sgn y else decide (sV x + sV y < 0)) + nr (sV x + sV y).natAbs (-1074)
theorem add_fin' {x y : Nat} (hx : x < 18446744073709551616) (hy : y < 18446744073709551616) (fx : fin x = true) (fy : fin y = true) : Ieee.double.add x y = some (addN x y) := by
 (unfold Ieee.Format.add);(rw [read_fin hx fx, read_fin hy fy]);(exact sum_core (dp_ge _) (dp_ge _) rfl rfl)
def subN (x y : Nat) : Nat := sgB (if sV x - sV y = 0 then sgn x && !sgn y else decide (sV x - sV y < 0)) + nr (sV x - sV y).natAbs (-1074)
theorem sub_fin' {x y : Nat} (hx : x < 18446744073709551616) (hy : y < 18446744073709551616) (fx : fin x = true) (fy : fin y = true) : Ieee.double.sub x y = some (subN x y) := by
 (unfold Ieee.Format.sub);(rw [read_fin hx fx, read_fin hy fy])
 have := sum_core (s := sgn x) (t := !sgn y) (m := dm (mag x)) (n := dm (mag y)) (dp_ge (mag x)) (dp_ge (mag y)) (X := sV x) (Y := -sV y) rfl (by
  unfold sV; rw [V_def]; cases sgn y <;> simp)
 (rw [show sV x + -sV y = sV x - sV y by omega] at this);(exact this)
def prodN (x y : Nat) : Nat := sgB (sgn x ^^ sgn y) + nr (dm (mag x) * dm (mag y)) (dp (mag x) + dp (mag y))
theorem mul_fin' {x y : Nat} (hx : x < 18446744073709551616) (hy : y < 18446744073709551616) (fx : fin x = true) (fy : fin y = true) : Ieee.double.mul x y = some (prodN x y) := by
 (unfold Ieee.Format.mul);(rw [read_fin hx fx, read_fin hy fy])
 show some (Ieee.double.nearest (sgn x ^^ sgn y) (dm (mag x) * dm (mag y)) (dp (mag x) + dp (mag y))) = _
 rw [nearest_nr]; rfl
def quoK (m n : Nat) : Nat := 54 + n.log2 - m.log2
def quoN (x y : Nat) : Nat := sgB (sgn x ^^ sgn y) + nr (dbl (dm (mag x) * 2 ^ quoK (dm (mag x)) (dm (mag y)) / dm (mag y)) (decide (dm (mag x) * 2 ^ quoK (dm (mag x)) (dm (mag y)) % dm (mag y) ≠ 0))) (dp (mag x) - dp (mag y) - quoK (dm (mag x)) (dm (mag y)) - 1)
theorem quo_pos {m n : Nat} (hm : m ≠ 0) (hn : n ≠ 0) : 2 ^ 53 ≤ m * 2 ^ quoK m n / n := by
 (rw [Nat.le_div_iff_mul_le (by omega)]);(have h1 := log2_lo hm);(have h2 := log2_hi n);(have h3 : 2 ^ 53 * n ≤ 2 ^ 53 * 2 ^ (n.log2 + 1) := Nat.mul_le_mul_left _ (Nat.le_of_lt h2));(have h4 : 2 ^ m.log2 * 2 ^ quoK m n ≤ m * 2 ^ quoK m n := Nat.mul_le_mul_right _ h1);(rw [← Nat.pow_add] at h3 h4);(have h5 : 2 ^ (53 + (n.log2 + 1)) ≤ 2 ^ (m.log2 + quoK m n) := pow_le (by unfold quoK; omega));(omega)
theorem dm_ne {r : Nat} (h : r ≠ 0) : dm r ≠ 0 := by unfold dm; split <;> omega
theorem div_fin' {x y : Nat} (hx : x < 18446744073709551616) (hy : y < 18446744073709551616) (fx : fin x = true) (fy : fin y = true) (hy0 : mag y ≠ 0) : Ieee.double.div x y = some (quoN x y) := by
 (unfold Ieee.Format.div);(rw [read_fin hx fx, read_fin hy fy]);(have hn := dm_ne hy0)
 have e : (Ieee.Datum.number (sgn x) (dm (mag x)) (dp (mag x))).quotient (Ieee.double.fractionBits + 2) (Ieee.Datum.number (sgn y) (dm (mag y)) (dp (mag y))) =
   some (.number (sgn x ^^ sgn y) (2 * ((dm (mag x) <<< quoK (dm (mag x)) (dm (mag y))) / dm (mag y)) + ((dm (mag x) <<< quoK (dm (mag x)) (dm (mag y))) % dm (mag y) != 0).toNat) (dp (mag x) - dp (mag y) - quoK (dm (mag x)) (dm (mag y)) - 1)) := by
  show (if dm (mag y) = 0 then _ else _) = _
  rw [if_neg hn]; rfl
 rw [e]
 show some (Ieee.double.nearest (sgn x ^^ sgn y) _ _) = _
 (rw [nearest_nr, Nat.shiftLeft_eq]);(unfold quoN sgB dbl)
 congr 3
 generalize dm (mag x) * 2 ^ quoK (dm (mag x)) (dm (mag y)) % dm (mag y) = r
 by_cases c : r = 0
 ·subst c; rfl
 ·rw [show (r != 0) = true from bne_iff_ne.2 c, decide_eq_true c]; rfl
def rung (a : Int) : Nat := (a + 1023).toNat * 4503599627370496
theorem rung_fin {a : Int} (h : a ≤ 1023) : rung a < 9218868437227405312 := by unfold rung; omega
theorem nr_pow {k : Nat} {p : Int} (h1 : -1022 ≤ k + p) (h2 : k + p ≤ 1023) : nr (2 ^ k) p = rung (k + p) := by
 have e : nr (2 ^ k) p = nr 4503599627370496 (k + p - 52) := by
  rw [show (4503599627370496 : Nat) = 2 ^ 52 from rfl]
  by_cases c : k ≤ 52
  ·have h := nr_scale' (2 ^ k) (52 - k) (k + p - 52)
   (rw [← Nat.pow_add, show k + (52 - k) = 52 by omega] at h);(rw [h]; congr 1; omega)
  ·have h := nr_scale' (2 ^ 52) (k - 52) p
   (rw [← Nat.pow_add, show 52 + (k - 52) = k by omega] at h);(rw [h]; congr 1; omega)
 (rw [e, nr_of (by decide) (by omega) (Or.inr (by decide))]);(unfold rung);(omega)
theorem V_rung {a : Int} (h1 : -1022 ≤ a) (h2 : a ≤ 1023) : V (rung a) = 2 ^ (a + 1074).toNat := by
 (obtain ⟨e, he⟩ : ∃ e : Nat, (a + 1023).toNat = e + 1 := ⟨(a + 1023).toNat - 1, by omega⟩);(unfold rung);(rw [he]);(unfold V dm dp);(rw [if_neg (by omega), if_neg (by omega), show (e + 1) * 4503599627370496 % 4503599627370496 = 0 by omega, show (e + 1) * 4503599627370496 / 4503599627370496 = e + 1 by omega]);(rw [show (((e + 1 : Nat) : Int) - 1075 + 1074).toNat = e by omega, show 4503599627370496 + 0 = 2 ^ 52 from rfl, ← Nat.pow_add])
 congr 1; omega
theorem nr_le_rung {m : Nat} {p a : Int} (hp : -2148 ≤ p) (h1 : -1022 ≤ a) (h2 : a ≤ 1023) (h : m * 2 ^ (p + 2148).toNat ≤ 2 ^ (a + 2148).toNat) : nr m p ≤ rung a := by
 (have e1 := nr_scale' m (p + 2148).toNat (-2148));(rw [show -2148 + (((p + 2148).toNat : Nat) : Int) = p by omega] at e1);(rw [← e1]);(have e2 := nr_pow (k := (a + 2148).toNat) (p := -2148) (by omega) (by omega));(rw [show (((a + 2148).toNat : Nat) : Int) + -2148 = a by omega] at e2);(rw [← e2]);(exact nr_mono h _)
theorem rung_le_nr {m : Nat} {p a : Int} (hp : -2148 ≤ p) (h1 : -1022 ≤ a) (h2 : a ≤ 1023) (h : 2 ^ (a + 2148).toNat ≤ m * 2 ^ (p + 2148).toNat) : rung a ≤ nr m p := by
 (have e1 := nr_scale' m (p + 2148).toNat (-2148));(rw [show -2148 + (((p + 2148).toNat : Nat) : Int) = p by omega] at e1);(rw [← e1]);(have e2 := nr_pow (k := (a + 2148).toNat) (p := -2148) (by omega) (by omega));(rw [show (((a + 2148).toNat : Nat) : Int) + -2148 = a by omega] at e2);(rw [← e2]);(exact nr_mono h _)
structure Mg (x : Nat) (a : Int) : Prop where
 w : x < 18446744073709551616
 m : mag x ≤ rung a
theorem Mg.fin {x : Nat} {a : Int} (h : Mg x a) (ha : a ≤ 1023) : fin x = true := by
 unfold Tn.fin; have := h.m; have := rung_fin ha; exact decide_eq_true (by omega)
theorem rung_mono {a b : Int} (h : a ≤ b) : rung a ≤ rung b := by unfold rung; omega
theorem Mg.up {x : Nat} {a b : Int} (h : Mg x a) (hab : a ≤ b) : Mg x b := ⟨h.w, Nat.le_trans h.m (rung_mono hab)⟩
theorem Mg.V {x : Nat} {a : Int} (h : Mg x a) (h1 : -1022 ≤ a) (h2 : a ≤ 1023) : V (mag x) ≤ 2 ^ (a + 1074).toNat := by
 rw [← V_rung h1 h2]; exact V_le h.m
theorem sV_abs (x : Nat) : (sV x).natAbs = V (mag x) := by unfold sV; split <;> simp
theorem sgB_mag {s : Bool} {r : Nat} (h : r ≤ 9218868437227405312) : mag (sgB s + r) = r ∧ sgB s + r < 18446744073709551616 ∧ sgn (sgB s + r) = s := by
 (unfold mag sgB sgn);(cases s)
 ·rw [if_neg (by decide)]; exact ⟨by omega, by omega, decide_eq_false (by omega)⟩
 ·rw [if_pos rfl]; exact ⟨by omega, by omega, decide_eq_true (by omega)⟩
theorem Mg.of {s : Bool} {r : Nat} {a : Int} (h : r ≤ rung a) (ha : a ≤ 1023) : Mg (sgB s + r) a := by
 (have := rung_fin ha);(obtain ⟨h1, h2, _⟩ := sgB_mag (s := s) (r := r) (by omega));(exact ⟨h2, by rw [h1]; exact h⟩)
theorem mg_mul {x y : Nat} {a b : Int} (hx : Mg x a) (hy : Mg y b) (a1 : -1022 ≤ a) (a2 : a ≤ 1023) (b1 : -1022 ≤ b) (b2 : b ≤ 1023) (c1 : -1022 ≤ a + b) (c2 : a + b ≤ 1023) : ∃ r, Ieee.double.mul x y = some r ∧ Mg r (a + b) := by
 (refine ⟨prodN x y, mul_fin' hx.w hy.w (hx.fin a2) (hy.fin b2), ?_⟩);(unfold prodN)
 apply Mg.of _ c2
 (have vx := hx.V a1 a2);(have vy := hy.V b1 b2);(have dx := dp_ge (mag x));(have dy := dp_ge (mag y))
 apply nr_le_rung (by omega) c1 c2
 (have h := Nat.mul_le_mul vx vy);(rw [← Nat.pow_add, show (a + 1074).toNat + (b + 1074).toNat = (a + b + 2148).toNat by omega] at h);(refine Nat.le_trans (Nat.le_of_eq ?_) h);(rw [V_def, V_def, show (dp (mag x) + dp (mag y) + 2148).toNat = (dp (mag x) + 1074).toNat + (dp (mag y) + 1074).toNat by omega, Nat.pow_add]);(simp only [Nat.mul_assoc, Nat.mul_left_comm])
theorem nr_sum {S : Int} {a b c : Int} (a1 : -1022 ≤ a) (b1 : -1022 ≤ b) (hc : max a b + 1 ≤ c) (c2 : c ≤ 1023) (h : S.natAbs ≤ 2 ^ (a + 1074).toNat + 2 ^ (b + 1074).toNat) : nr S.natAbs (-1074) ≤ rung c := by
 apply nr_le_rung (by decide) (by omega) c2
 (have e1 : 2 ^ (a + 1074).toNat ≤ 2 ^ (c - 1 + 1074).toNat := pow_le (by omega));(have e2 : 2 ^ (b + 1074).toNat ≤ 2 ^ (c - 1 + 1074).toNat := pow_le (by omega))
 have e3 : 2 ^ (c + 2148).toNat = 2 * 2 ^ (c - 1 + 1074).toNat * 2 ^ ((-1074 : Int) + 2148).toNat := by
  rw [← Nat.pow_succ', ← Nat.pow_add]; congr 1; omega
 (rw [e3]);(exact Nat.mul_le_mul_right _ (by omega))
theorem mg_add {x y : Nat} {a b c : Int} (hx : Mg x a) (hy : Mg y b) (a1 : -1022 ≤ a) (b1 : -1022 ≤ b) (hc : max a b + 1 ≤ c) (c2 : c ≤ 1023) : ∃ r, Ieee.double.add x y = some r ∧ Mg r c := by
 (refine ⟨addN x y, add_fin' hx.w hy.w (hx.fin (by omega)) (hy.fin (by omega)), ?_⟩);(unfold addN)
 apply Mg.of _ c2
 (refine nr_sum a1 b1 hc c2 ?_);(have vx := hx.V a1 (by omega));(have vy := hy.V b1 (by omega));(rw [← sV_abs] at vx vy);(omega)
theorem mg_sub {x y : Nat} {a b c : Int} (hx : Mg x a) (hy : Mg y b) (a1 : -1022 ≤ a) (b1 : -1022 ≤ b) (hc : max a b + 1 ≤ c) (c2 : c ≤ 1023) : ∃ r, Ieee.double.sub x y = some r ∧ Mg r c := by
 (refine ⟨subN x y, sub_fin' hx.w hy.w (hx.fin (by omega)) (hy.fin (by omega)), ?_⟩);(unfold subN)
 apply Mg.of _ c2
 (refine nr_sum a1 b1 hc c2 ?_);(have vx := hx.V a1 (by omega));(have vy := hy.V b1 (by omega));(rw [← sV_abs] at vx vy);(omega)
theorem mg_div {x y : Nat} {a b : Int} (hx : Mg x a) (hy : y < 18446744073709551616) (fy : Tn.fin y = true) (hb : rung b ≤ mag y) (a1 : -1022 ≤ a) (a2 : a ≤ 1023) (b1 : -1022 ≤ b) (b2 : b ≤ 1023) (c1 : -1022 ≤ a - b) (c2 : a - b ≤ 1023) : ∃ r, Ieee.double.div x y = some r ∧ Mg r (a - b) := by
 (have hy0 : mag y ≠ 0 := by unfold rung at hb; omega);(refine ⟨quoN x y, div_fin' hx.w hy (hx.fin a2) fy hy0, ?_⟩);(have vx := hx.V a1 a2);(have vy : 2 ^ (b + 1074).toNat ≤ V (mag y) := by rw [← V_rung b1 b2]; exact V_le hb);(rw [V_def] at vx vy);(unfold quoN)
 apply Mg.of _ c2
 (have hn : 0 < dm (mag y) := by have := dm_ne hy0; omega);(have dx := dp_ge (mag x));(have dy := dp_ge (mag y));(have hqp := fun h => quo_pos (m := dm (mag x)) (n := dm (mag y)) h (by omega));(generalize quoK (dm (mag x)) (dm (mag y)) = k at *);(generalize dm (mag x) = m at *);(generalize dm (mag y) = n at *);(generalize dp (mag x) = i at *);(generalize dp (mag y) = j at *)
 -- m * 2^(i+1074) * 2^(b+1074) ≤ 2^(a+1074) * n * 2^(j+1074)
 have key : m * 2 ^ (i + 1074).toNat * 2 ^ (b + 1074).toNat ≤ 2 ^ (a + 1074).toNat * (n * 2 ^ (j + 1074).toNat) := Nat.mul_le_mul vx vy
 by_cases hm : m = 0
 ·subst hm
  rw [Nat.zero_mul, Nat.zero_div, Nat.zero_mod, show dbl 0 (decide ((0 : Nat) ≠ 0)) = 0 by decide, nr_zero]; exact Nat.zero_le _
 have hq : ∀ E : Int, (E + (i - j - k) = a - b) → 0 ≤ E → dbl (m * 2 ^ k / n) (decide (m * 2 ^ k % n ≠ 0)) ≤ 2 ^ (E.toNat + 1) := by
  intro E hE hE0
  have h2 : m * 2 ^ k ≤ 2 ^ E.toNat * n := by
   -- multiply both sides by 2^s
   have hs : m * 2 ^ k * 2 ^ ((i + 1074).toNat + (b + 1074).toNat) ≤ 2 ^ E.toNat * n * 2 ^ ((i + 1074).toNat + (b + 1074).toNat) := by
    have e1 : m * 2 ^ k * 2 ^ ((i + 1074).toNat + (b + 1074).toNat) = m * 2 ^ (i + 1074).toNat * 2 ^ (b + 1074).toNat * 2 ^ k := by
     rw [Nat.pow_add]; simp only [Nat.mul_assoc, Nat.mul_comm, Nat.mul_left_comm]
    have e2 : 2 ^ E.toNat * n * 2 ^ ((i + 1074).toNat + (b + 1074).toNat) = 2 ^ (a + 1074).toNat * (n * 2 ^ (j + 1074).toNat) * 2 ^ k := by
     have e3 : (2 : Nat) ^ E.toNat * 2 ^ ((i + 1074).toNat + (b + 1074).toNat) = 2 ^ (a + 1074).toNat * 2 ^ (j + 1074).toNat * 2 ^ k := by
      rw [← Nat.pow_add, ← Nat.pow_add, ← Nat.pow_add]; congr 1; omega
     rw [Nat.mul_right_comm, e3]; simp only [Nat.mul_assoc, Nat.mul_comm, Nat.mul_left_comm]
    (rw [e1, e2]);(exact Nat.mul_le_mul_right _ key)
   exact Nat.le_of_mul_le_mul_right hs (Nat.two_pow_pos _)
  (have h3 := Nat.div_add_mod (m * 2 ^ k) n);(have h4 : m * 2 ^ k / n ≤ 2 ^ E.toNat := Nat.div_le_of_le_mul (by rw [Nat.mul_comm n]; exact h2));(unfold dbl);(rw [Nat.pow_succ])
  by_cases c : m * 2 ^ k % n ≠ 0
  ·rw [if_pos (decide_eq_true c)]
   have h5 : m * 2 ^ k / n < 2 ^ E.toNat := by
    rcases Nat.lt_or_eq_of_le h4 with h | h
    ·exact h
    ·exfalso
     (rw [h, Nat.mul_comm] at h3);(omega)
   omega
  ·rw [if_neg (by simpa using c)]; omega
 rcases Int.lt_or_le (a - b - (i - j - k)) 0 with hneg | hpos
 ·-- then the quotient is below 1 unit: compare at a lower exponent
  have hz : m * 2 ^ k < n := by
   have hs : m * 2 ^ k * 2 ^ ((i + 1074).toNat + (b + 1074).toNat) < n * 2 ^ ((i + 1074).toNat + (b + 1074).toNat) := by
    have e1 : m * 2 ^ k * 2 ^ ((i + 1074).toNat + (b + 1074).toNat) = m * 2 ^ (i + 1074).toNat * 2 ^ (b + 1074).toNat * 2 ^ k := by
     rw [Nat.pow_add]; simp only [Nat.mul_assoc, Nat.mul_comm, Nat.mul_left_comm]
    have e2 : 2 ^ (a + 1074).toNat * (n * 2 ^ (j + 1074).toNat) * 2 ^ k = n * 2 ^ ((a + 1074).toNat + (j + 1074).toNat + k) := by
     rw [Nat.pow_add, Nat.pow_add]; simp only [Nat.mul_assoc, Nat.mul_comm, Nat.mul_left_comm]
    (have h1 := Nat.mul_le_mul_right (2 ^ k) key);(rw [e2] at h1);(rw [e1]);(have h2 : 2 ^ ((a + 1074).toNat + (j + 1074).toNat + k) < 2 ^ ((i + 1074).toNat + (b + 1074).toNat) := pow_lt (by omega));(exact Nat.lt_of_le_of_lt h1 (Nat.mul_lt_mul_of_pos_left h2 hn))
   exact Nat.lt_of_mul_lt_mul_right hs
  (have h1 := hqp hm);(rw [Nat.div_eq_of_lt hz] at h1);(exact absurd h1 (by decide))
 ·have h1 := hq (a - b - (i - j - k)) (by omega) hpos
  (have h2 := nr_mono h1 (i - j - k - 1));(have h3 := nr_pow (k := (a - b - (i - j - k)).toNat + 1) (p := i - j - k - 1) (by omega) (by omega));(rw [h3] at h2);(rw [show ((((a - b - (i - j - k)).toNat + 1 : Nat)) : Int) + (i - j - k - 1) = a - b by omega] at h2);(exact h2)
def flrM (a : Nat) : Nat := Ieee.Toward.down.cut (sgn a) (dm (mag a) <<< (dp (mag a)).toNat) (-dp (mag a)).toNat
def flr (a : Nat) : Nat := sgB (sgn a) + nr (flrM a) 0
theorem flr_is {a : Nat} (ha : a < 18446744073709551616) (h : fin a = true) : Ieee.double.write ((Ieee.double.read a).integral .down) = flr a := by
 rw [read_fin ha h]
 show Ieee.double.nearest (sgn a) (flrM a) 0 = _
 (rw [nearest_nr]);(unfold flr sgB; rfl)
theorem cut_down (s : Bool) (n drop : Nat) : Ieee.Toward.down.cut s n drop ≤ n / 2 ^ min drop (n.log2 + 2) + 1 := by
 (unfold Ieee.Toward.cut);(simp only [Nat.one_shiftLeft]);(generalize n / 2 ^ min drop (n.log2 + 2) = q);(generalize (s && n % 2 ^ min drop (n.log2 + 2) != 0) = c)
 cases c <;> simp <;> omega
theorem flr_div {a : Nat} {b : Int} (h : Mg a b) (b0 : 0 ≤ b) (b1 : b ≤ 1023) : (dm (mag a) <<< (dp (mag a)).toNat) / 2 ^ min (-dp (mag a)).toNat ((dm (mag a) <<< (dp (mag a)).toNat).log2 + 2) + 1 ≤ 2 ^ b.toNat + 1 := by
 (have hv := h.V (by omega) b1);(rw [V_def] at hv);(have hd := dp_ge (mag a));(refine Nat.add_le_add_right ?_ 1);(rw [Nat.shiftLeft_eq]);(generalize dm (mag a) = m at *);(generalize dp (mag a) = i at *)
 rcases Int.lt_or_le i 0 with c | c
 ·rw [show i.toNat = 0 by omega, Nat.pow_zero, Nat.mul_one]
  have h1 : m ≤ 2 ^ (b.toNat + (-i).toNat) := by
   (have e : (2 : Nat) ^ (b + 1074).toNat = 2 ^ (b.toNat + (-i).toNat) * 2 ^ (i + 1074).toNat := by rw [← Nat.pow_add]; congr 1; omega);(rw [e] at hv);(exact Nat.le_of_mul_le_mul_right hv (Nat.two_pow_pos _))
  rcases Nat.le_total (-i).toNat (m.log2 + 2) with d | d
  ·rw [Nat.min_eq_left d]
   (rw [Nat.pow_add] at h1);(exact Nat.div_le_of_le_mul (by rw [Nat.mul_comm]; exact h1))
  ·rw [Nat.min_eq_right d]
   (have h2 := log2_hi m);(have h3 : 2 ^ (m.log2 + 1) ≤ 2 ^ (m.log2 + 2) := pow_le (by omega));(rw [Nat.div_eq_of_lt (by omega)]; exact Nat.zero_le _)
 ·rw [show (-i).toNat = 0 by omega, Nat.zero_min, Nat.pow_zero, Nat.div_one]
  (obtain ⟨K, hK⟩ : ∃ K : Nat, K = 1074 := ⟨_, rfl⟩);(have e : (2 : Nat) ^ (b + 1074).toNat = 2 ^ b.toNat * 2 ^ K := by rw [← Nat.pow_add]; congr 1; omega);(have e2 : m * 2 ^ (i + 1074).toNat = m * 2 ^ i.toNat * 2 ^ K := by rw [Nat.mul_assoc, ← Nat.pow_add]; congr 2; omega);(rw [e, e2] at hv);(exact Nat.le_of_mul_le_mul_right hv (Nat.two_pow_pos _))
theorem flrM_le {a : Nat} {b : Int} (h : Mg a b) (b0 : 0 ≤ b) (b1 : b ≤ 1023) : flrM a ≤ 2 ^ b.toNat + 1 := Nat.le_trans (cut_down _ _ _) (flr_div h b0 b1)
theorem flr_mg {a : Nat} {b : Int} (h : Mg a b) (b0 : 0 ≤ b) (b1 : b ≤ 1022) : Mg (flr a) (b + 1) := by
 (have h1 := flrM_le h b0 (by omega));(unfold flr)
 apply Mg.of _ (by omega)
 apply nr_le_rung (by decide) (by omega) (by omega)
 have e : 2 ^ (b + 1 + 2148).toNat = 2 * 2 ^ b.toNat * 2 ^ ((0 : Int) + 2148).toNat := by
  rw [← Nat.pow_succ', ← Nat.pow_add]; congr 1; omega
 (rw [e]);(refine Nat.mul_le_mul_right _ ?_);(have := Nat.two_pow_pos b.toNat);(omega)
end Tn
end

section
/- Where no NaN comes of sums, products, quotients: kinds. No program in sight. -/
namespace Tn
open Go Go.RowKit
structure Nn (x : Nat) : Prop where
 w : x < 18446744073709551616
 k : nan x = false
theorem Nn.kind {x : Nat} (h : Nn x) : (fin x = true ∧ Ieee.double.read x = .number (sgn x) (dm (mag x)) (dp (mag x))) ∨ (isinf x = true ∧ Ieee.double.read x = .infinity (sgn x)) := by
 rcases kinds x with c | c | c
 ·exact .inl ⟨c, read_fin h.w c⟩
 ·exact .inr ⟨c, read_inf h.w c⟩
 ·rw [h.k] at c; cases c
theorem nn_sg (s : Bool) {r : Nat} (h : r ≤ 9218868437227405312) : Nn (sgB s + r) := by
 (obtain ⟨h1, h2, _⟩ := sgB_mag (s := s) h);(exact ⟨h2, by unfold nan; rw [h1]; exact decide_eq_false (by omega)⟩)
theorem write_num (s : Bool) (m : Nat) (p : Int) : Nn (Ieee.double.write (.number s m p)) := by
 have e : Ieee.double.write (.number s m p) = sgB s + nr m p := by
  show Ieee.double.nearest s m p = _
  rw [nearest_nr]; unfold sgB; rfl
 rw [e]; exact nn_sg s (nr_le m p)
theorem write_inf (s : Bool) : Nn (Ieee.double.write (.infinity s)) := by
 (have e : Ieee.double.write (.infinity s) = sgB s + 9218868437227405312 := by cases s <;> rfl);(rw [e]; exact nn_sg s (Nat.le_refl _))
theorem sub_nn {x y : Nat} (hx : x < 18446744073709551616) (hy : y < 18446744073709551616) (fx : fin x = true) (fy : fin y = true) : ∃ r, Ieee.double.sub x y = some r ∧ Nn r :=
 ⟨_, sub_fin' hx hy fx fy, nn_sg _ (nr_le _ _)⟩
theorem add_nn {x y : Nat} (hx : x < 18446744073709551616) (fx : fin x = true) (hy : Nn y) : ∃ r, Ieee.double.add x y = some r ∧ Nn r := by
 rcases hy.kind with ⟨fy, _⟩ | ⟨_, e⟩
 ·exact ⟨_, add_fin' hx hy.w fx fy, nn_sg _ (nr_le _ _)⟩
 ·refine ⟨_, ?_, write_inf (sgn y)⟩
  (unfold Ieee.Format.add);(rw [e, read_fin hx fx]; rfl)
theorem sub_any {x y : Nat} (hx : x < 18446744073709551616) (fx : fin x = true) (hy : Nn y) : ∃ r, Ieee.double.sub x y = some r ∧ Nn r := by
 rcases hy.kind with ⟨fy, _⟩ | ⟨_, e⟩
 ·exact sub_nn hx hy.w fx fy
 ·refine ⟨_, ?_, write_inf (!sgn y)⟩
  (unfold Ieee.Format.sub);(rw [e, read_fin hx fx]; rfl)
theorem add_sg {x y : Nat} (hx : Nn x) (hy : Nn y) (hs : sgn x = sgn y) : ∃ r, Ieee.double.add x y = some r ∧ Nn r := by
 rcases hx.kind with ⟨fx, ex⟩ | ⟨_, ex⟩
 ·exact add_nn hx.w fx hy
 ·refine ⟨_, ?_, write_inf (sgn x)⟩
  (unfold Ieee.Format.add);(rw [ex])
  rcases hy.kind with ⟨_, ey⟩ | ⟨_, ey⟩
  ·rw [ey]; rfl
  ·rw [ey, hs]
   show (if sgn y = sgn y then _ else _ : Option Ieee.Datum).map _ = _
   rw [if_pos rfl]; rfl
theorem mul_nn {x y : Nat} (hx : Nn x) (hy : y < 18446744073709551616) (fy : fin y = true) (h0 : mag y ≠ 0) : ∃ r, Ieee.double.mul x y = some r ∧ Nn r := by
 rcases hx.kind with ⟨fx, ex⟩ | ⟨_, ex⟩
 ·exact ⟨_, mul_fin' hx.w hy fx fy, nn_sg _ (nr_le _ _)⟩
 ·refine ⟨_, ?_, write_inf (sgn x ^^ sgn y)⟩
  (unfold Ieee.Format.mul);(rw [ex, read_fin hy fy])
  show (if dm (mag y) = 0 then _ else _ : Option Ieee.Datum).map _ = _
  rw [if_neg (dm_ne h0)]; rfl
theorem div_nn {x y : Nat} (hx : Nn x) (hy : y < 18446744073709551616) (fy : fin y = true) (h0 : mag y ≠ 0) : ∃ r, Ieee.double.div x y = some r ∧ Nn r := by
 rcases hx.kind with ⟨fx, ex⟩ | ⟨_, ex⟩
 ·exact ⟨_, div_fin' hx.w hy fx fy h0, nn_sg _ (nr_le _ _)⟩
 ·refine ⟨_, ?_, write_inf (sgn x ^^ sgn y)⟩
  (unfold Ieee.Format.div);(rw [ex, read_fin hy fy]; rfl)
theorem sgn_sg (s : Bool) {r : Nat} (h : r ≤ 9218868437227405312) : sgn (sgB s + r) = s := (sgB_mag (s := s) h).2.2
theorem sgn_num (s : Bool) (m : Nat) (p : Int) : sgn (Ieee.double.write (.number s m p)) = s := by
 have e : Ieee.double.write (.number s m p) = sgB s + nr m p := by
  show Ieee.double.nearest s m p = _
  rw [nearest_nr]; unfold sgB; rfl
 rw [e]; exact sgn_sg s (nr_le m p)
theorem sgn_inf (s : Bool) : sgn (Ieee.double.write (.infinity s)) = s := by cases s <;> decide
theorem div_by {x y : Nat} (hx : x < 18446744073709551616) (fx : fin x = true) (h0 : mag x ≠ 0) (hy : Nn y) : ∃ r, Ieee.double.div x y = some r ∧ Nn r ∧ sgn r = (sgn x ^^ sgn y) := by
 rcases hy.kind with ⟨fy, ey⟩ | ⟨_, ey⟩
 ·by_cases c : mag y = 0
  ·refine ⟨_, ?_, write_inf (sgn x ^^ sgn y), sgn_inf _⟩
   (unfold Ieee.Format.div);(rw [ey, read_fin hx fx]);(have e : dm (mag y) = 0 := by rw [c]; rfl)
   show (if dm (mag y) = 0 then (if dm (mag x) = 0 then _ else _) else _ : Option Ieee.Datum).map _ = _
   rw [if_pos e, if_neg (dm_ne h0)]; rfl
  ·exact ⟨_, div_fin' hx hy.w fx fy c, nn_sg _ (nr_le _ _), sgn_sg _ (nr_le _ _)⟩
 ·refine ⟨_, ?_, write_num (sgn x ^^ sgn y) 0 0, sgn_num _ _ _⟩
  (unfold Ieee.Format.div);(rw [ey, read_fin hx fx]; rfl)
end Tn
end
