/- Plain laws for math.Ldexp and ieee.Join. No program in sight. -/
import Derived.Test.YthcgpepjoofeoaaOrd
import Derived.Below
import Derived.Lib.ItoaNum
namespace Tn
open Go Go.RowKit

theorem nr_norm {h : Nat} (h1 : 1 ≤ h) (h2 : h ≤ 9007199254740992) :
    ∃ M : Nat, 4503599627370496 ≤ M ∧ M < 9007199254740992 ∧ nr h 0 = M + (h.log2 + 1022) * 4503599627370496 ∧ h.log2 ≤ 53 ∧ ∀ n : Int, nr h n = nr M (n + h.log2 - 52) := by
  by_cases e : h = 9007199254740992
  · subst e
    have hl : Nat.log2 9007199254740992 = 53 := log2_unique (by decide) (by decide)
    have hs : ∀ n : Int, nr 9007199254740992 n = nr 4503599627370496 (n + 1) := fun n => nr_scale' 4503599627370496 1 n
    refine ⟨4503599627370496, by decide, by decide, ?_, by omega, fun n => ?_⟩
    · rw [hs, nr_of (by decide) (by decide) (Or.inr (by decide)), hl]; decide +kernel
    · rw [hs, hl]; congr 1; omega
  · have h0 : h ≠ 0 := by omega
    have hl : h.log2 < 53 := (Nat.log2_lt h0).2 (by omega)
    have a := log2_lo h0
    have b := log2_hi h
    have hp := Nat.two_pow_pos (52 - h.log2)
    have c1 : 4503599627370496 ≤ h * 2 ^ (52 - h.log2) := by
      have : 2 ^ h.log2 * 2 ^ (52 - h.log2) = 4503599627370496 := by rw [← Nat.pow_add, show h.log2 + (52 - h.log2) = 52 by omega]
      rw [← this]; exact Nat.mul_le_mul_right _ a
    have c2 : h * 2 ^ (52 - h.log2) < 9007199254740992 := by
      have : 2 ^ (h.log2 + 1) * 2 ^ (52 - h.log2) = 9007199254740992 := by rw [← Nat.pow_add, show h.log2 + 1 + (52 - h.log2) = 53 by omega]
      rw [← this]; exact Nat.mul_lt_mul_of_pos_right b hp
    have hs : ∀ n : Int, nr h n = nr (h * 2 ^ (52 - h.log2)) (n + h.log2 - 52) := fun n => by
      rw [nr_scale']; congr 1; omega
    refine ⟨h * 2 ^ (52 - h.log2), c1, c2, ?_, by omega, hs⟩
    rw [hs, nr_of (by omega) (by omega) (Or.inr c1), Nat.min_eq_left (by omega)]; omega

theorem mul_pow {c x : Nat} {i : Int} (hc : Ieee.double.read c = .number false 4503599627370496 i) (hx : x < 9218868437227405312) :
    Ieee.double.mul c x = some (nr (dm x) (dp x + (i + 52))) := by
  have hm : mag x = x := Nat.mod_eq_of_lt (by omega)
  have hf : fin x = true := by unfold fin; rw [hm]; exact decide_eq_true hx
  have hs : sgn x = false := by unfold sgn; exact decide_eq_false (by omega)
  unfold Ieee.Format.mul
  rw [hc, read_fin (by omega) hf, hm, hs]
  show some (Ieee.double.nearest false (4503599627370496 * dm x) (i + dp x)) = _
  rw [nearest_nr, if_neg (by decide), Nat.zero_add, Nat.mul_comm]
  congr 1
  have := nr_scale' (dm x) 52 (i + dp x)
  rw [show (2 : Nat) ^ 52 = 4503599627370496 from rfl] at this
  rw [this]; congr 1; omega
theorem read_one : Ieee.double.read 4607182418800017408 = .number false 4503599627370496 (-52) := by decide +kernel
theorem read_m53 : Ieee.double.read 4368491638549381120 = .number false 4503599627370496 (-105) := by decide +kernel
/-- the bits of digits and an exponent's field. -/
theorem dm_of {M k : Nat} (h1 : 4503599627370496 ≤ M) (h2 : M < 9007199254740992) (hk : 1 ≤ k) : dm (M - 4503599627370496 + k * 4503599627370496) = M := by
  unfold dm; rw [if_neg (by omega)]; omega
theorem dp_of {M k : Nat} (h1 : 4503599627370496 ≤ M) (h2 : M < 9007199254740992) (hk : 1 ≤ k) : dp (M - 4503599627370496 + k * 4503599627370496) = k - 1075 := by
  unfold dp; rw [if_neg (by omega)]
  have : (M - 4503599627370496 + k * 4503599627370496) / 4503599627370496 = k := by omega
  rw [this]
theorem ldx_mid {M h : Nat} {n : Int} (h1 : 4503599627370496 ≤ M) (h2 : M < 9007199254740992) (hs : nr h n = nr M (n + h.log2 - 52)) (e1 : -1022 ≤ n + h.log2) (e2 : n + h.log2 ≤ 1023) :
    floatBits .mul .f64 4607182418800017408 (M - 4503599627370496 + (n + h.log2 + 1023).toNat * 4503599627370496) = some (nr h n) := by
  have hk : 1 ≤ (n + h.log2 + 1023).toNat := by omega
  show Ieee.double.mul _ _ = _
  rw [mul_pow read_one (by omega), dm_of h1 h2 hk, dp_of h1 h2 hk, hs]
  congr 2; omega
theorem ldx_low {M h : Nat} {n : Int} (h1 : 4503599627370496 ≤ M) (h2 : M < 9007199254740992) (hs : nr h n = nr M (n + h.log2 - 52)) (e1 : -1074 ≤ n + h.log2) (e2 : n + h.log2 < -1022) :
    floatBits .mul .f64 4368491638549381120 (M - 4503599627370496 + (n + h.log2 + 53 + 1023).toNat * 4503599627370496) = some (nr h n) := by
  have hk : 1 ≤ (n + h.log2 + 53 + 1023).toNat := by omega
  show Ieee.double.mul _ _ = _
  rw [mul_pow read_m53 (by omega), dm_of h1 h2 hk, dp_of h1 h2 hk, hs]
  congr 2; omega
theorem ldx_high {M h : Nat} {n : Int} (h1 : 4503599627370496 ≤ M) (h2 : M < 9007199254740992) (hs : nr h n = nr M (n + h.log2 - 52)) (e2 : 1023 < n + h.log2) :
    nr h n = 9218868437227405312 := by
  rw [hs, nr_of (by omega) (by omega) (Or.inr h1), Nat.min_eq_right (by omega)]
theorem andNot_exp (b : Nat) (h : b < 9218868437227405312) : bits .andNot .u64 (b : Int) 9218868437227405312 = ((b % 4503599627370496 : Nat) : Int) := by
  have h1 := u64_andNot_nat b 9218868437227405312 (by omega) (by decide)
  rw [show ((9218868437227405312 : Nat) : Int) = (9218868437227405312 : Int) from rfl] at h1
  rw [h1]
  congr 1
  have e : (18446744073709551615 - 9218868437227405312 : Nat) = 2 ^ 63 + (2 ^ 52 - 1) := by decide
  rw [e]
  apply Nat.eq_of_testBit_eq
  intro i
  have hb : b < 2 ^ 63 := by omega
  rw [Nat.testBit_and, show (4503599627370496 : Nat) = 2 ^ 52 from rfl, Nat.testBit_mod_two_pow]
  by_cases hi : i < 63
  · rw [Nat.testBit_two_pow_add_gt hi, Nat.testBit_two_pow_sub_one, Bool.and_comm]
  · rw [Nat.testBit_lt_two_pow (Nat.lt_of_lt_of_le hb (pow_le (by omega)))]; simp
theorem or_exp {M k : Nat} (h2 : M < 4503599627370496) (hk : k < 2047) : bits .or .u64 (M : Int) (((k * 4503599627370496 : Nat)) : Int) = ((M + k * 4503599627370496 : Nat) : Int) := by
  rw [u64_or_nat M _ (by omega) (by omega), Nat.or_comm, nat_join 52 _ _ (by rw [show (2 : Nat) ^ 52 = 4503599627370496 from rfl]; omega) h2, Nat.add_comm]
theorem some_beq (x y : Ordering) : (some x == some y) = (x == y) := by cases x <;> cases y <;> rfl
theorem ord_self {a : Nat} (h : a < 18446744073709551616) : (FloatKind.f64.format.order a a != some .eq) = nan a := by
  show (Ieee.double.order a a != some .eq) = nan a
  cases hn : nan a
  · rw [order_rank h h hn hn, cmp_def, if_neg (by omega), if_pos rfl]; rfl
  · rw [order_nan (Or.inl hn)]; rfl
theorem nan_mag (a : Nat) : nan (mag a) = nan a := by
  unfold nan; rw [show mag (mag a) = mag a from Nat.mod_eq_of_lt (mag_lt a)]
theorem rank_mag {a : Nat} (h : nan a = false) : rank (mag a) = mag a := by
  rw [rank_val (by rw [nan_mag]; exact h)]
  have : sgn (mag a) = false := by unfold sgn; exact decide_eq_false (by have := mag_lt a; omega)
  rw [this, if_neg (by decide), show mag (mag a) = mag a from Nat.mod_eq_of_lt (mag_lt a)]
theorem ord_inf (a : Nat) : (FloatKind.f64.format.order (mag a) 9218868437227405311 == some .gt) = isinf a := by
  show (Ieee.double.order _ _ == some .gt) = isinf a
  have hm := mag_lt a
  cases hn : nan a
  · rw [order_rank (by omega) (by decide) (by rw [nan_mag]; exact hn) (by decide), rank_mag hn, show rank 9218868437227405311 = 9218868437227405311 from by decide, cmp_def, some_beq]
    unfold isinf
    unfold nan at hn
    have := of_decide_eq_false hn
    by_cases e : mag a = 9218868437227405312
    · rw [if_neg (by omega), if_neg (by omega), decide_eq_true e]; rfl
    · rw [decide_eq_false e]
      by_cases e2 : (mag a : Int) < 9218868437227405311
      · rw [if_pos e2]; rfl
      · rw [if_neg e2, if_pos (by omega)]; rfl
  · rw [order_nan (Or.inl (by rw [nan_mag]; exact hn))]
    have : isinf a = false := by
      cases hi : isinf a
      · rfl
      · have := inf_nan hi; rw [hn] at this; cases this
    rw [this]; rfl
theorem ord_least (a : Nat) (hn : nan a = false) (h : 4503599627370496 ≤ mag a) : (FloatKind.f64.format.order (mag a) 4503599627370496 == some .lt) = false := by
  show (Ieee.double.order _ _ == some .lt) = false
  have hm := mag_lt a
  rw [order_rank (by omega) (by decide) (by rw [nan_mag]; exact hn) (by decide), rank_mag hn, show rank 4503599627370496 = 4503599627370496 from by decide, cmp_def, if_neg (by omega), some_beq]
  by_cases e : (mag a : Int) = 4503599627370496
  · rw [if_pos e]; rfl
  · rw [if_neg e]; rfl
theorem ord_zero {r : Nat} (h1 : 0 < r) (h2 : r ≤ 9218868437227405312) : (FloatKind.f64.format.order r 0 == some .eq) = false ∧ (FloatKind.f64.format.order r 0 == some .lt) = false := by
  show (Ieee.double.order _ _ == some .eq) = false ∧ (Ieee.double.order _ _ == some .lt) = false
  have hm : mag r = r := Nat.mod_eq_of_lt (by omega)
  have hn : nan r = false := by unfold nan; exact decide_eq_false (by omega)
  have hs : sgn r = false := by unfold sgn; exact decide_eq_false (by omega)
  rw [order_rank (by omega) (by decide) hn (by decide), rank_val hn, hs, hm, show rank 0 = 0 from by decide, if_neg (by decide), cmp_def, if_neg (by omega), if_neg (by omega)]
  exact ⟨rfl, rfl⟩
theorem rounded_facts {u q : Nat} (hu : u < 18446744073709551616) (hq : q < 64) (hq1 : 1 ≤ q) :
    ∃ P R Q : Nat, IntKind.u64.wrap (2 ^ (q - 1)) = (P : Int) ∧ bits .and .u64 (u : Int) (IntKind.u64.wrap (IntKind.u64.wrap (2 ^ q) - 1)) = (R : Int) ∧ (u : Int) / 2 ^ q = (Q : Int) ∧
      bits .and .u64 (Q : Int) 1 = ((Q % 2 : Nat) : Int) ∧ Q < 9223372036854775808 ∧ rne u q = Q + (if P < R ∨ (P = R ∧ Q % 2 = 1) then 1 else 0) := by
  have hp : 2 ^ q = 2 * 2 ^ (q - 1) := by rw [← Nat.pow_succ']; congr 1; omega
  have hlt : 2 ^ q ≤ 2 ^ 63 := pow_le (by omega)
  have hpos := Nat.two_pow_pos (q - 1)
  have c1 : ((2 : Int) ^ (q - 1)) = ((2 ^ (q - 1) : Nat) : Int) := by simp
  have c2 : ((2 : Int) ^ q) = ((2 ^ q : Nat) : Int) := by simp
  refine ⟨2 ^ (q - 1), u % 2 ^ q, u / 2 ^ q, ?_, ?_, ?_, ?_, ?_, ?_⟩
  · rw [c1, IntKind.wrap_u64]; omega
  · have e : IntKind.u64.wrap (IntKind.u64.wrap (2 ^ q) - 1) = ((2 ^ q - 1 : Nat) : Int) := by
      rw [c2, IntKind.wrap_u64, IntKind.wrap_u64]; omega
    rw [e, u64_and_nat u (2 ^ q - 1) hu (by omega), Nat.and_two_pow_sub_one_eq_mod]
  · rw [c2]; rfl
  · have hQ : u / 2 ^ q < 18446744073709551616 := Nat.lt_of_le_of_lt (Nat.div_le_self _ _) hu
    have := u64_and_nat (u / 2 ^ q) 1 hQ (by decide)
    rw [Nat.and_one_is_mod] at this
    exact this
  · have : 2 ≤ 2 ^ q := by omega
    rw [Nat.div_lt_iff_lt_mul (by omega)]
    have : 9223372036854775808 * 2 ≤ 9223372036854775808 * 2 ^ q := Nat.mul_le_mul_left _ this
    omega
  · unfold rne
    congr 1
    rw [hp]
    generalize u % (2 * 2 ^ (q - 1)) = R
    generalize 2 ^ (q - 1) = P
    have e1 : (2 * P < 2 * R) ↔ P < R := by omega
    have e2 : (2 * P = 2 * R) ↔ P = R := by omega
    simp only [e1, e2]
theorem rounded_facts' {u q : Nat} (hu : u < 18446744073709551616) (hq : q < 64) (hq1 : 1 ≤ q) :
    ∃ P R Q : Int, IntKind.u64.wrap (2 ^ (q - 1)) = P ∧ bits .and .u64 (u : Int) (IntKind.u64.wrap (IntKind.u64.wrap (2 ^ q) - 1)) = R ∧ (u : Int) / 2 ^ q = Q ∧
      bits .and .u64 Q 1 = Q % 2 ∧ ((Hid (P < R ∨ (P = R ∧ Q % 2 = 1)) ∧ Hid (IntKind.u64.wrap (Q + 1) = (rne u q : Int))) ∨ (Hid (¬ (P < R ∨ (P = R ∧ Q % 2 = 1))) ∧ Hid (Q = (rne u q : Int)))) := by
  obtain ⟨P, R, Q, e1, e2, e3, e4, hQ, hr⟩ := rounded_facts hu hq hq1
  refine ⟨P, R, Q, e1, e2, e3, by rw [e4]; omega, ?_⟩
  by_cases c : P < R ∨ (P = R ∧ Q % 2 = 1)
  · refine Or.inl ⟨?_, ?_⟩
    · show _ ∨ _
      omega
    · show IntKind.u64.wrap _ = _
      rw [hr, if_pos c, IntKind.wrap_u64]; omega
  · refine Or.inr ⟨?_, ?_⟩
    · show ¬ _
      omega
    · show _ = _
      rw [hr, if_neg c]; rfl
theorem rne_64 {u : Nat} (hu : u < 18446744073709551616) : (rne u 64 : Int) = if decide (9223372036854775808 < (u : Int)) = true then 1 else 0 := by
  have e : (2 : Nat) ^ 64 = 18446744073709551616 := by decide
  have e1 : u / 18446744073709551616 = 0 := Nat.div_eq_of_lt hu
  have e2 : u % 18446744073709551616 = u := Nat.mod_eq_of_lt hu
  unfold rne
  rw [e, e1, e2]
  by_cases c : 9223372036854775808 < u
  · rw [if_pos (Or.inl (by omega)), if_pos (decide_eq_true (by omega))]; rfl
  · rw [if_neg (by omega), if_neg (by rw [decide_eq_true_iff]; omega)]; rfl
/-- near of m * 2^e, of 0: +0. -/
def jn (m e : Int) : Nat := (if m < 0 then 9223372036854775808 else 0) + nr m.natAbs e
/-- how many bits it takes. -/
def bl (u : Nat) : Nat := if u = 0 then 0 else u.log2 + 1
theorem bitLen_log {u : Nat} (h : u ≠ 0) : bl u = u.log2 + 1 := by unfold bl; rw [if_neg h]
theorem bl_le {u : Nat} (h : u < 18446744073709551616) : bl u ≤ 64 := by
  unfold bl; split
  · omega
  · rename_i h0; have := (Nat.log2_lt (k := 64) h0).2 h; omega
theorem lib_bitLen {u : Nat} (h : u < 18446744073709551616) : Lib.bitLen u = bl u := by
  unfold bl Lib.bitLen
  by_cases h0 : u = 0
  · rw [if_pos h0, h0]; exact Lib.bitLenAux_zero _
  · rw [if_neg h0]
    have ⟨a, b, c⟩ := Lib.bitLenAux_bounds 64 u h h0
    have : u.log2 = Lib.bitLenAux 64 u - 1 := log2_unique b (by rwa [show Lib.bitLenAux 64 u - 1 + 1 = Lib.bitLenAux 64 u by omega])
    omega
theorem join_h {u : Nat} {E X : Int} (hu : 1 ≤ u) (hX : X = max ((bl u : Int) - 53) (max (-1074 - E) 0)) : rne u X.toNat ≤ 9007199254740992 := by
  rw [bitLen_log (by omega)] at hX
  apply rne_le
  have h1 := log2_hi u
  have h2 : 2 ^ (u.log2 + 1) ≤ 2 ^ (53 + X.toNat) := pow_le (by omega)
  rw [Nat.pow_add 2 53] at h2
  exact Nat.le_trans (Nat.le_of_lt h1) h2
theorem join_core {u : Nat} {E X : Int} (hu : 1 ≤ u) (hX : X = max ((bl u : Int) - 53) (max (-1074 - E) 0)) : nr (rne u X.toNat) (E + X) = nr u E := by
  have hh := join_h hu hX
  rw [bitLen_log (by omega)] at hX
  by_cases h0 : X = 0
  · rw [h0]; show nr (rne u 0) _ = _
    rw [rne_zero, show E + 0 = E by omega]
  · have hl : last u E = E + X := by unfold last; omega
    have hx : E - last u E = -X := by omega
    rw [nr_of hh (by omega)]
    · conv => rhs; unfold nr
      rw [if_neg (by omega), hx, hl]
      have : rnd u (-X) = rne u X.toNat := by unfold rnd; rw [if_neg (by omega)]; congr 1; omega
      rw [this]
    · by_cases hc : E + X = -1074
      · exact Or.inl hc
      · refine Or.inr (le_rne ?_)
        have h1 := log2_lo (n := u) (by omega)
        have h2 : 2 ^ (52 + X.toNat) ≤ 2 ^ u.log2 := pow_le (by omega)
        rw [Nat.pow_add] at h2
        exact Nat.le_trans h2 h1
/-- beyond these bounds a power's size says nothing more. -/
theorem nr_clamp {u : Nat} (hu : u < 18446744073709551616) (e : Int) {K : Int} (hK : 2000 ≤ K) : nr u (min (max e (-K)) K) = nr u e := by
  by_cases h0 : u = 0
  · rw [h0, nr_zero, nr_zero]
  · have hl : u.log2 < 64 := (Nat.log2_lt h0).2 hu
    have hi : ∀ p : Int, 2000 ≤ p → nr u p = 9218868437227405312 := fun p hp => by
      unfold nr; rw [if_neg h0]
      have : 2000 ≤ last u p + 52 := by unfold last; omega
      exact Nat.min_eq_right (by omega)
    have lo : ∀ p : Int, p ≤ -2000 → nr u p = 0 := fun p hp => by
      unfold nr; rw [if_neg h0]
      have e1 : last u p = -1074 := by unfold last; omega
      have e2 : rnd u (p - -1074) = 0 := by
        unfold rnd; rw [if_neg (by omega)]
        apply rne_far
        have h2 : 2 ^ 65 ≤ 2 ^ (-(p - -1074)).toNat := pow_le (by omega)
        have e3 : (2 : Nat) ^ 65 = 36893488147419103232 := by decide
        omega
      rw [e1, e2]; decide
    by_cases c1 : e < -K
    · rw [lo e (by omega), lo _ (by omega)]
    · by_cases c2 : K < e
      · rw [hi e (by omega), hi _ (by omega)]
      · rw [show min (max e (-K)) K = e by omega]
theorem floatOfInt_nat (n : Nat) : floatOfInt .f64 (n : Int) = nr n 0 := by
  show Ieee.double.nearest (decide ((n : Int) < 0)) (n : Int).natAbs 0 = _
  rw [nearest_nr, decide_eq_false (by omega)]; simp
theorem rne_high {u : Nat} (hu : u < 18446744073709551616) {q : Int} (h : 64 < q) : rne u q.toNat = 0 := by
  apply rne_far
  have h2 : 2 ^ 65 ≤ 2 ^ q.toNat := pow_le (by omega)
  have e3 : (2 : Nat) ^ 65 = 36893488147419103232 := by decide
  omega
theorem rne_lt {u : Nat} (hu : u < 18446744073709551616) (q : Nat) : rne u q < 18446744073709551616 + 1 := by
  have : rne u q ≤ 18446744073709551616 := rne_le (by have := Nat.two_pow_pos q; have : u * 1 ≤ 18446744073709551616 * 2 ^ q := Nat.mul_le_mul (by omega) this; omega)
  omega
theorem or_sign (x : Nat) (h : x ≤ 9218868437227405312) : bits .or .u64 (x : Int) 9223372036854775808 = ((9223372036854775808 + x : Nat) : Int) := by
  have h1 := u64_or_nat x 9223372036854775808 (by omega) (by decide)
  rw [show ((9223372036854775808 : Nat) : Int) = (9223372036854775808 : Int) from rfl] at h1
  rw [h1, Nat.or_comm, nat_join 63 _ _ (by decide) (by omega)]
theorem or_zero' (x : Nat) (h : x ≤ 9218868437227405312) : bits .or .u64 (x : Int) 0 = (x : Int) := by
  have h1 := u64_or_nat x 0 (by omega) (by decide)
  rw [show ((0 : Nat) : Int) = (0 : Int) from rfl] at h1
  rw [h1, Nat.or_zero]
theorem join_pos {m e E X : Int} {u : Nat} (hm : 0 < m) (hm1 : m < 9223372036854775808) (hu : m = u) (hE : E = min (max e (-5000)) 5000) (hX : X = max ((bl u : Int) - 53) (max (-1074 - E) 0)) :
    (bits .or .u64 ((nr (rne u X.toNat) (E + X) : Nat) : Int) 0).toNat = jn m e := by
  rw [or_zero' _ (nr_le _ _), join_core (by omega) hX, hE, nr_clamp (by omega) e (by decide)]
  unfold jn; rw [if_neg (by omega), show m.natAbs = u by omega, Int.toNat_natCast, Nat.zero_add]
theorem join_neg {m e E X : Int} {u : Nat} (hm : m < 0) (hm1 : -9223372036854775808 ≤ m) (hu : -m = u) (hE : E = min (max e (-5000)) 5000) (hX : X = max ((bl u : Int) - 53) (max (-1074 - E) 0)) :
    (bits .or .u64 ((nr (rne u X.toNat) (E + X) : Nat) : Int) 9223372036854775808).toNat = jn m e := by
  rw [or_sign _ (nr_le _ _), join_core (by omega) hX, hE, nr_clamp (by omega) e (by decide)]
  unfold jn; rw [if_pos hm, show m.natAbs = u by omega, Int.toNat_natCast]
theorem jn_zero (x : Int) : jn 0 x = 0 := by
  unfold jn; rw [if_neg (by decide)]; show 0 + nr 0 x = 0; rw [nr_zero]
theorem wrap_u64_nat {u : Nat} (h : u < 18446744073709551616) : IntKind.u64.wrap (u : Int) = u := by rw [IntKind.wrap_u64]; omega
def rneI (u : Nat) (q : Int) : Nat := rne u q.toNat
theorem join_hI {u : Nat} {E X : Int} (hu : RowKit.Hid (1 ≤ u)) (hX : X = max ((bl u : Int) - 53) (max (-1074 - E) 0)) : rneI u X ≤ 9007199254740992 := join_h hu.out hX
theorem join_posI {m e E X Y : Int} {u : Nat} (hm : RowKit.Hid (0 < m ∧ m < 9223372036854775808)) (hu : m = u) (hE : min (max e (-5000)) 5000 = E) (hX : X = max ((bl u : Int) - 53) (max (-1074 - E) 0)) (hY : Y = E + X) :
    (bits .or .u64 ((nr (rneI u X) Y : Nat) : Int) 0).toNat = jn m e := by
  rw [hY]; exact join_pos hm.out.1 hm.out.2 hu hE.symm hX
theorem join_negI {m e E X Y : Int} {u : Nat} (hm : RowKit.Hid (m < 0 ∧ -9223372036854775808 ≤ m ∧ -m = u)) (hE : min (max e (-5000)) 5000 = E) (hX : X = max ((bl u : Int) - 53) (max (-1074 - E) 0)) (hY : Y = E + X) :
    (bits .or .u64 ((nr (rneI u X) Y : Nat) : Int) 9223372036854775808).toNat = jn m e := by
  rw [hY]; exact join_neg hm.out.1 hm.out.2.1 hm.out.2.2 hE.symm hX
theorem wrap_u64_neg {m : Int} {u : Nat} (h : -m = (u : Int)) (h1 : 1 ≤ u) (h2 : u ≤ 9223372036854775808) : IntKind.u64.wrap (-(IntKind.u64.wrap m)) = u := by rw [IntKind.wrap_u64, IntKind.wrap_u64]; omega
theorem wrap_u64_neg0 {m : Int} {u : Nat} (h : -m = (u : Int)) (h1 : 1 ≤ u) (h2 : u ≤ 9223372036854775808) : IntKind.u64.wrap (0 - (IntKind.u64.wrap m)) = u := by rw [IntKind.wrap_u64, IntKind.wrap_u64]; omega
end Tn
