/- Words of 64 bits: what sums of many words come to, word by word. No program in sight. -/
import Derived.Test.YthcgpepjoofeoaaRnd
import Derived.Test.YthcgpepjoofeoaaSpl
namespace Tn
open Go Go.RowKit

/-- where the i-th word stands. -/
def B (i : Nat) : Nat := 2 ^ (64 * i)
theorem B_pos (i : Nat) : 0 < B i := Nat.two_pow_pos _
theorem B_zero : B 0 = 1 := rfl
theorem B_succ (i : Nat) : B (i + 1) = B i * 18446744073709551616 := by
  unfold B; rw [show 64 * (i + 1) = 64 * i + 64 by omega, Nat.pow_add]
theorem B_add (i j : Nat) : B (i + j) = B i * B j := by
  unfold B; rw [Nat.mul_add, Nat.pow_add]
theorem B_le {i j : Nat} (h : i ≤ j) : B i ≤ B j := pow_le (by omega)
/-- the i-th word. -/
def wd (N i : Nat) : Nat := N / B i % 18446744073709551616
theorem wd_lt (N i : Nat) : wd N i < 18446744073709551616 := Nat.mod_lt _ (by decide)
theorem mod_succ (N i : Nat) : N % B (i + 1) = N % B i + B i * wd N i := by
  rw [B_succ]; exact Nat.mod_mul
theorem mod_zero (N : Nat) : N % B 0 = 0 := by rw [B_zero]; omega
theorem wd_mod (N n i : Nat) (h : i < n) : wd (N % B n) i = wd N i := by
  unfold wd
  rw [show n = i + (n - i) by omega, B_add, Nat.mod_mul_right_div_self]
  obtain ⟨m, hm⟩ : ∃ m, n - i = m + 1 := ⟨n - i - 1, by omega⟩
  rw [hm, B_succ, Nat.mul_comm, Nat.mod_mul_right_mod]
theorem wd_zero (i : Nat) : wd 0 i = 0 := by unfold wd; rw [Nat.zero_div]
theorem wd_small {N i : Nat} (h : N < B i) : wd N i = 0 := by unfold wd; rw [Nat.div_eq_of_lt h]
/-- numbers of the same words are the same. -/
theorem mod_ext {N M : Nat} : ∀ n, (∀ i, i < n → wd N i = wd M i) → N % B n = M % B n
  | 0, _ => by rw [mod_zero, mod_zero]
  | n + 1, h => by rw [mod_succ, mod_succ, mod_ext n (fun i hi => h i (by omega)), h n (by omega)]
theorem wd_ext {N M n : Nat} (hN : N < B n) (hM : M < B n) (h : ∀ i, i < n → wd N i = wd M i) : N = M := by
  have := mod_ext n h
  rwa [Nat.mod_eq_of_lt hN, Nat.mod_eq_of_lt hM] at this

/-! ### one step of a sum -/
def carry (N V i : Nat) : Nat := (N % B i + V % B i) / B i
theorem carry_zero (N V : Nat) : carry N V 0 = 0 := by unfold carry; rw [mod_zero, mod_zero, B_zero]
theorem carry_le (N V i : Nat) : carry N V i ≤ 1 := by
  unfold carry
  have h1 := Nat.mod_lt N (B_pos i)
  have h2 := Nat.mod_lt V (B_pos i)
  have : (N % B i + V % B i) / B i < 2 := by rw [Nat.div_lt_iff_lt_mul (B_pos i)]; omega
  omega
theorem add_step (N V i : Nat) : (wd N i + wd V i + carry N V i) % 18446744073709551616 = wd (N + V) i ∧ (wd N i + wd V i + carry N V i) / 18446744073709551616 = carry N V (i + 1) := by
  have hp := B_pos i
  have e : carry N V (i + 1) = (wd N i + wd V i + carry N V i) / 18446744073709551616 := by
    unfold carry
    rw [mod_succ, mod_succ, B_succ, ← Nat.div_div_eq_div_mul]
    congr 1
    rw [show N % B i + B i * wd N i + (V % B i + B i * wd V i) = (N % B i + V % B i) + B i * (wd N i + wd V i) by rw [Nat.mul_add]; omega]
    rw [Nat.add_mul_div_left _ _ hp]; omega
  refine ⟨?_, e.symm⟩
  unfold wd carry
  have h1 := Nat.div_add_mod N (B i)
  have h2 := Nat.div_add_mod V (B i)
  have : (N + V) / B i = N / B i + V / B i + (N % B i + V % B i) / B i := by
    have h3 : N + V = (N % B i + V % B i) + B i * (N / B i + V / B i) := by rw [Nat.mul_add]; omega
    rw [h3, Nat.add_mul_div_left _ _ hp]; omega
  rw [this]
  omega
/-! ### one step of a difference, under B n -/
def borrow (N V i : Nat) : Nat := if N % B i < V % B i then 1 else 0
theorem borrow_zero (N V : Nat) : borrow N V 0 = 0 := by unfold borrow; rw [mod_zero, mod_zero]; rfl
theorem borrow_le (N V i : Nat) : borrow N V i ≤ 1 := by unfold borrow; split <;> omega
theorem sub_borrow (N V i : Nat) : (if wd N i < wd V i + borrow N V i then 1 else 0) = borrow N V (i + 1) := by
  have hp := B_pos i
  have hn := Nat.mod_lt N hp
  have hv := Nat.mod_lt V hp
  unfold borrow
  rw [mod_succ, mod_succ]
  generalize wd N i = x
  generalize wd V i = y
  generalize N % B i = a at *
  generalize V % B i = b at *
  generalize B i = P at *
  rcases Nat.lt_trichotomy x y with h | h | h
  · have h1 : P * x + P ≤ P * y := by rw [← Nat.mul_succ]; exact Nat.mul_le_mul_left P h
    rw [if_pos (show a + P * x < b + P * y by omega), if_pos]
    split <;> omega
  · subst h
    by_cases c : a < b
    · rw [if_pos c, if_pos (by omega), if_pos (by omega)]
    · rw [if_neg c, if_neg (by omega), if_neg (by omega)]
  · have h1 : P * y + P ≤ P * x := by rw [← Nat.mul_succ]; exact Nat.mul_le_mul_left P h
    rw [if_neg (show ¬ a + P * x < b + P * y by omega), if_neg]
    split <;> omega
theorem sub_word (N V n i : Nat) (hi : i < n) (hV : V ≤ B n) : (wd N i + 18446744073709551616 - wd V i - borrow N V i) % 18446744073709551616 = wd (N + B n - V) i := by
  have hp := B_pos i
  have hn := Nat.mod_lt N hp
  have hv := Nat.mod_lt V hp
  obtain ⟨m, hm⟩ : ∃ m, n - i = m + 1 := ⟨n - i - 1, by omega⟩
  have hB : B n = B i * (B m * 18446744073709551616) := by
    rw [show n = i + (m + 1) by omega, B_add, B_succ]
  have h1 := Nat.div_add_mod N (B i)
  have h2 := Nat.div_add_mod V (B i)
  have hx : wd N i = N / B i % 18446744073709551616 := rfl
  have hy : wd V i = V / B i % 18446744073709551616 := rfl
  have key : (N + B n - V) / B i + borrow N V i + V / B i = N / B i + B m * 18446744073709551616 := by
    unfold borrow
    generalize N % B i = a at *
    generalize V % B i = b at *
    generalize N / B i = p at *
    generalize V / B i = q at *
    rw [hB] at hV ⊢
    generalize B m * 18446744073709551616 = t at *
    generalize B i = P at *
    subst h1
    subst h2
    by_cases c : a < b
    · rw [if_pos c]
      have hq : q < p + t := by
        apply Nat.lt_of_mul_lt_mul_left (a := P)
        rw [Nat.mul_add]; omega
      obtain ⟨z, hz⟩ : ∃ z, p + t = q + z + 1 := ⟨p + t - q - 1, by omega⟩
      have e : P * p + a + P * t - (P * q + b) = (P + a - b) + P * z := by
        have : P * (p + t) = P * q + P * z + P := by rw [hz, Nat.mul_add, Nat.mul_add, Nat.mul_one]
        rw [Nat.mul_add] at this; omega
      rw [e, Nat.add_mul_div_left _ _ hp, Nat.div_eq_of_lt (by omega)]; omega
    · rw [if_neg c]
      have hq : q ≤ p + t := by
        apply Nat.le_of_mul_le_mul_left (c := P) _ hp
        rw [Nat.mul_add]; omega
      obtain ⟨z, hz⟩ : ∃ z, p + t = q + z := ⟨p + t - q, by omega⟩
      have e : P * p + a + P * t - (P * q + b) = (a - b) + P * z := by
        have : P * (p + t) = P * q + P * z := by rw [hz, Nat.mul_add]
        rw [Nat.mul_add] at this; omega
      rw [e, Nat.add_mul_div_left _ _ hp, Nat.div_eq_of_lt (by omega)]; omega
  have hb := borrow_le N V i
  rw [hx, hy, show wd (N + B n - V) i = (N + B n - V) / B i % 18446744073709551616 from rfl]
  generalize (N + B n - V) / B i = r at *
  generalize N / B i = p at *
  generalize V / B i = q at *
  generalize borrow N V i = c at *
  generalize B m = t at *
  omega
/-! ### one step of a quotient -/
theorem div_core (N P n w : Nat) (hn : 0 < n) (hw : w < 18446744073709551616) (e : N = P * 18446744073709551616 + w) :
    ∃ y, (P % n) * 18446744073709551616 + w = y ∧ y / n < 18446744073709551616 ∧ N / n % 18446744073709551616 = y / n % 18446744073709551616 ∧ N % n = y % n := by
  have hd := Nat.div_add_mod P n
  have hm := Nat.mod_lt P hn
  refine ⟨_, rfl, ?_, ?_⟩
  · rw [Nat.div_lt_iff_lt_mul hn]
    have : (P % n + 1) * 18446744073709551616 ≤ n * 18446744073709551616 := Nat.mul_le_mul_right _ hm
    rw [Nat.mul_comm 18446744073709551616 n]
    omega
  · have e2 : N = n * (P / n * 18446744073709551616) + ((P % n) * 18446744073709551616 + w) := by
      rw [e]
      have : n * (P / n * 18446744073709551616) = n * (P / n) * 18446744073709551616 := (Nat.mul_assoc _ _ _).symm
      rw [this]
      omega
    obtain ⟨y, hy⟩ : ∃ y, (P % n) * 18446744073709551616 + w = y := ⟨_, rfl⟩
    rw [hy] at e2 ⊢
    obtain ⟨q, hq⟩ : ∃ q, P / n * 18446744073709551616 = q ∧ q % 18446744073709551616 = 0 := ⟨_, rfl, Nat.mul_mod_left _ _⟩
    rw [hq.1] at e2
    rw [e2, Nat.mul_add_div hn, Nat.mul_add_mod]
    exact ⟨by omega, rfl⟩
theorem div_step (N n i : Nat) (hn : 0 < n) :
    ((N / B (i + 1) % n) * 18446744073709551616 + wd N i) / n % 18446744073709551616 = wd (N / n) i ∧ ((N / B (i + 1) % n) * 18446744073709551616 + wd N i) % n = N / B i % n ∧ ((N / B (i + 1) % n) * 18446744073709551616 + wd N i) / n < 18446744073709551616 := by
  have e : N / B i = N / B (i + 1) * 18446744073709551616 + wd N i := by
    unfold wd
    rw [B_succ, ← Nat.div_div_eq_div_mul]; omega
  obtain ⟨y, hy, h1, h2, h3⟩ := div_core (N / B i) (N / B (i + 1)) n (wd N i) hn (wd_lt N i) e
  rw [hy]
  refine ⟨?_, h3.symm, h1⟩
  rw [← h2]
  unfold wd
  rw [Nat.div_div_eq_div_mul, Nat.div_div_eq_div_mul, Nat.mul_comm]
/-! ### a number of two words, shifted -/
def putV (hi lo k r : Nat) : Nat := (hi * 18446744073709551616 + lo) * 2 ^ r * B k
theorem pow_64 : (2 : Nat) ^ 64 = 18446744073709551616 := by decide
theorem putV_low {hi lo k r i : Nat} (h : i < k) : wd (putV hi lo k r) i = 0 := by
  unfold putV wd
  obtain ⟨m, rfl⟩ : ∃ m, k = i + (m + 1) := ⟨k - i - 1, by omega⟩
  rw [B_add, Nat.mul_comm (B i), ← Nat.mul_assoc, Nat.mul_div_cancel _ (B_pos i), B_succ, ← Nat.mul_assoc, Nat.mul_mod_left]
theorem putV_mod (hi lo k r : Nat) : putV hi lo k r % B k = 0 := by unfold putV; exact Nat.mul_mod_left _ _
theorem putV_word (hi lo k r j : Nat) : wd (putV hi lo k r) (k + j) = wd ((hi * 18446744073709551616 + lo) * 2 ^ r) j := by
  unfold putV wd
  rw [B_add, ← Nat.div_div_eq_div_mul, Nat.mul_div_cancel _ (B_pos k)]
theorem put_words {hi lo r : Nat} (hhi : hi < 18446744073709551616) (hlo : lo < 18446744073709551616) (hr : r < 64) :
    (lo * 2 ^ r) % 18446744073709551616 = wd ((hi * 18446744073709551616 + lo) * 2 ^ r) 0 ∧
    (hi * 2 ^ r) % 18446744073709551616 + lo / 2 ^ (64 - r) = wd ((hi * 18446744073709551616 + lo) * 2 ^ r) 1 ∧
    hi / 2 ^ (64 - r) = wd ((hi * 18446744073709551616 + lo) * 2 ^ r) 2 ∧ (hi * 18446744073709551616 + lo) * 2 ^ r < B 3 ∧ lo / 2 ^ (64 - r) < 2 ^ r ∧ (hi * 2 ^ r) % 18446744073709551616 % 2 ^ r = 0 := by
  have hp : 0 < 2 ^ r := Nat.two_pow_pos r
  have hq : 0 < 2 ^ (64 - r) := Nat.two_pow_pos _
  have hpq : 2 ^ (64 - r) * 2 ^ r = 18446744073709551616 := by rw [← Nat.pow_add, show 64 - r + r = 64 by omega, pow_64]
  have hpw : 2 ^ r ≤ 9223372036854775808 := by have := pow_le (show r ≤ 63 by omega); rwa [show 2 ^ 63 = 9223372036854775808 from by decide] at this
  generalize 2 ^ r = p at *
  generalize 2 ^ (64 - r) = q at *
  have hl := Nat.div_add_mod lo q
  have hh := Nat.div_add_mod hi q
  have hl2 := Nat.mod_lt lo hq
  have hh2 := Nat.mod_lt hi hq
  have el : lo * p = lo / q * 18446744073709551616 + lo % q * p := by
    have h3 : (q * (lo / q) + lo % q) * p = lo * p := by rw [hl]
    rw [Nat.add_mul, Nat.mul_right_comm, hpq] at h3
    rw [Nat.mul_comm (lo / q)]; exact h3.symm
  have eh : hi * p = hi / q * 18446744073709551616 + hi % q * p := by
    have h3 : (q * (hi / q) + hi % q) * p = hi * p := by rw [hh]
    rw [Nat.add_mul, Nat.mul_right_comm, hpq] at h3
    rw [Nat.mul_comm (hi / q)]; exact h3.symm
  have bl : lo % q * p + p ≤ 18446744073709551616 := by
    have := Nat.mul_le_mul_right p (show lo % q + 1 ≤ q by omega)
    rw [hpq, Nat.add_mul, Nat.one_mul] at this; exact this
  have bh : hi % q * p + p ≤ 18446744073709551616 := by
    have := Nat.mul_le_mul_right p (show hi % q + 1 ≤ q by omega)
    rw [hpq, Nat.add_mul, Nat.one_mul] at this; exact this
  have cl : lo / q < p := by rw [Nat.div_lt_iff_lt_mul hq, Nat.mul_comm, hpq]; exact hlo
  have ch : hi / q < p := by rw [Nat.div_lt_iff_lt_mul hq, Nat.mul_comm, hpq]; exact hhi
  have E : (hi * 18446744073709551616 + lo) * p = hi / q * (18446744073709551616 * 18446744073709551616) + (hi % q * p + lo / q) * 18446744073709551616 + lo % q * p := by
    rw [Nat.add_mul, Nat.mul_right_comm, eh, el, Nat.add_mul, Nat.mul_assoc, Nat.add_mul]; omega
  have z1 : lo * p % 18446744073709551616 = lo % q * p := by rw [el]; omega
  have z2 : hi * p % 18446744073709551616 = hi % q * p := by rw [eh]; omega
  have m2 : hi % q * p % p = 0 := Nat.mul_mod_left _ _
  rw [z1, z2, E]
  generalize lo % q * p = a at *
  generalize hi % q * p = c at *
  generalize lo / q = s at *
  generalize hi / q = t at *
  have hB1 : B 1 = 18446744073709551616 := by decide
  have hB2 : B 2 = 340282366920938463463374607431768211456 := by decide
  have hB3 : B 3 = 6277101735386680763835789423207666416102355444464034512896 := by decide
  unfold wd
  rw [B_zero, hB1, hB2, hB3]
  refine ⟨?_, ?_, ?_, ?_, cl, m2⟩ <;> omega
theorem put_or {c s p : Nat} (hr : ∃ r, r < 64 ∧ p = 2 ^ r) (hs : s < p) (hc : c < 18446744073709551616) (hm : c % p = 0) : bits .or .u64 (c : Int) (s : Int) = ((c + s : Nat) : Int) := by
  obtain ⟨r, h1, rfl⟩ := hr
  have hp : 2 ^ r ≤ 9223372036854775808 := by have := pow_le (show r ≤ 63 by omega); rwa [show 2 ^ 63 = 9223372036854775808 from by decide] at this
  rw [u64_or_nat c s hc (by omega)]
  congr 1
  obtain ⟨q, hq⟩ : ∃ q, c = 2 ^ r * q := ⟨c / 2 ^ r, by have := Nat.div_add_mod c (2 ^ r); omega⟩
  rw [hq]
  exact (Nat.two_pow_add_eq_or_of_lt hs q).symm
/-! ### whole numbers, told by 68 words -/
def modB (z : Int) : Nat := (z % (B 68 : Int)).toNat
theorem B68_pos : (0 : Int) < (B 68 : Int) := by have := B_pos 68; omega
theorem modB_lt (z : Int) : modB z < B 68 := by
  unfold modB
  have h1 := Int.emod_lt_of_pos z B68_pos
  have h2 := Int.emod_nonneg z (Int.ne_of_gt B68_pos)
  omega
theorem modB_cast (z : Int) : ((modB z : Nat) : Int) = z % (B 68 : Int) := by
  unfold modB
  have h2 := Int.emod_nonneg z (Int.ne_of_gt B68_pos)
  omega
theorem modB_add (z : Int) (V : Nat) : (modB z + V) % B 68 = modB (z + V) := by
  have : (((modB z + V) % B 68 : Nat) : Int) = ((modB (z + V) : Nat) : Int) := by
    rw [modB_cast, Int.natCast_emod, Int.natCast_add, modB_cast, Int.emod_add_emod]
  omega
theorem modB_sub (z : Int) (V : Nat) (h : V ≤ B 68) : (modB z + B 68 - V) % B 68 = modB (z - V) := by
  have : (((modB z + B 68 - V) % B 68 : Nat) : Int) = ((modB (z - V) : Nat) : Int) := by
    rw [modB_cast, Int.natCast_emod, show ((modB z + B 68 - V : Nat) : Int) = (modB z : Int) - V + (B 68 : Int) by omega, Int.add_emod_right, modB_cast, Int.emod_sub_emod]
  omega
theorem modB_zero : modB 0 = 0 := by unfold modB; simp
theorem modB_nat {z : Int} (h0 : 0 ≤ z) (h : z < (B 68 : Int)) : ((modB z : Nat) : Int) = z := by rw [modB_cast, Int.emod_eq_of_lt h0 h]
/-- a number in units of 2^-2148. -/
def units (x : Nat) : Int := spm x * 2 ^ (spe x + 2148).toNat
theorem spe_bd (x : Nat) : -1074 ≤ spe x ∧ spe x ≤ 971 := by
  unfold spe
  split
  · rename_i hf
    split
    · omega
    · have hf' : mag x < 9218868437227405312 := of_decide_eq_true hf
      unfold dp
      split <;> omega
  · omega
theorem units_pos {x : Nat} (h : 0 ≤ spm x) : ∃ k r : Nat, k ≤ 65 ∧ r < 64 ∧ spe x + 2148 = ((64 * k + r : Nat) : Int) ∧ (putV 0 (spm x).natAbs k r : Int) = units x := by
  obtain ⟨h1, h2⟩ := spe_bd x
  refine ⟨(spe x + 2148).toNat / 64, (spe x + 2148).toNat % 64, by omega, by omega, by omega, ?_⟩
  unfold units putV B
  rw [Nat.zero_mul, Nat.zero_add, Nat.mul_assoc, ← Nat.pow_add, show (spe x + 2148).toNat % 64 + 64 * ((spe x + 2148).toNat / 64) = (spe x + 2148).toNat by omega]
  rw [Int.natCast_mul, Int.natCast_pow]
  rw [show ((spm x).natAbs : Int) = spm x by omega]; rfl
theorem units_neg {x : Nat} (h : spm x < 0) : ∃ k r : Nat, k ≤ 65 ∧ r < 64 ∧ spe x + 2148 = ((64 * k + r : Nat) : Int) ∧ -(putV 0 (spm x).natAbs k r : Int) = units x := by
  obtain ⟨h1, h2⟩ := spe_bd x
  refine ⟨(spe x + 2148).toNat / 64, (spe x + 2148).toNat % 64, by omega, by omega, by omega, ?_⟩
  unfold units putV B
  rw [Nat.zero_mul, Nat.zero_add, Nat.mul_assoc, ← Nat.pow_add, show (spe x + 2148).toNat % 64 + 64 * ((spe x + 2148).toNat / 64) = (spe x + 2148).toNat by omega]
  rw [Int.natCast_mul, Int.natCast_pow]
  rw [show ((spm x).natAbs : Int) = -spm x by omega, Int.neg_mul, Int.neg_neg]; rfl
theorem units_none {x : Nat} (h : spm x = 0) : units x = 0 := by unfold units; rw [h, Int.zero_mul]
theorem putV_le {hi lo k r : Nat} (hhi : hi < 18446744073709551616) (hlo : lo < 18446744073709551616) (hk : k ≤ 65) (hr : r < 64) : putV hi lo k r ≤ B 68 := by
  unfold putV
  have h3 := (put_words hhi hlo hr).2.2.2.1
  have h4 : B 68 = B 3 * B 65 := by rw [← B_add]
  rw [h4]
  exact Nat.mul_le_mul (Nat.le_of_lt h3) (B_le hk)
/-! ### the number nearest to a sum -/
def nearK (q : Nat) : Nat := max (bl q - 53) 1074
def nearU (q : Nat) (more : Bool) : Nat := nr (rneM q (nearK q) more) ((nearK q : Int) - 2148)
theorem bl_ge {v k : Nat} (h : 2 ^ k ≤ v) : k + 1 ≤ bl v := by
  rcases Nat.lt_or_ge k (bl v) with c | c
  · exact c
  · have := bl_lt c; omega
theorem bl_le_of {v k : Nat} (h : v < 2 ^ k) : bl v ≤ k := by
  unfold bl
  split
  · omega
  · rename_i hv
    have h1 := log2_lo hv
    rcases Nat.lt_or_ge v.log2 k with c | c
    · omega
    · have := pow_le c; omega
theorem bl_le_B {v n : Nat} (h : v < B n) : bl v ≤ 64 * n := bl_le_of h
theorem bl_top {q t : Nat} (h : q < B (t + 1)) (h2 : t = 0 ∨ wd q t ≠ 0) : bl q = 64 * t + bl (wd q t) := by
  have hw : wd q t = q / B t := by
    unfold wd
    rw [Nat.mod_eq_of_lt]
    rw [Nat.div_lt_iff_lt_mul (B_pos t), Nat.mul_comm, ← B_succ]; exact h
  by_cases hz : wd q t = 0
  · rcases h2 with rfl | h2
    · rw [hw, B_zero, Nat.div_one]; omega
    · exact absurd hz h2
  · have hq : q ≠ 0 := by intro e; rw [e, wd_zero] at hz; exact hz rfl
    rw [bitLen_log hz, bitLen_log hq, hw] at *
    have h3 := log2_lo hz
    have h4 := log2_hi (q / B t)
    have e1 : 2 ^ (64 * t + (q / B t).log2) ≤ q := by
      rw [Nat.pow_add]
      have := Nat.mul_le_mul_left (2 ^ (64 * t)) h3
      exact Nat.le_trans this (Nat.mul_div_le q (B t))
    have e2 : q < 2 ^ (64 * t + (q / B t).log2 + 1) := by
      rw [Nat.add_assoc, Nat.pow_add]
      have h5 : q / B t + 1 ≤ 2 ^ ((q / B t).log2 + 1) := h4
      have h6 := Nat.mul_le_mul_left (2 ^ (64 * t)) h5
      have h7 := Nat.div_add_mod q (B t)
      have h8 := Nat.mod_lt q (B_pos t)
      have h9 : 2 ^ (64 * t) = B t := rfl
      rw [h9, Nat.mul_add, Nat.mul_one] at h6
      rw [h9]; omega
    rw [log2_unique e1 e2]; omega
theorem nearK_bd {q : Nat} (h : q < B 67) : 1074 ≤ nearK q ∧ nearK q ≤ 4235 ∧ q / 2 ^ nearK q < 9007199254740992 := by
  unfold nearK
  have h1 := bl_le_B h
  refine ⟨by omega, by omega, ?_⟩
  rw [Nat.div_lt_iff_lt_mul (Nat.two_pow_pos _)]
  have h2 : q < 2 ^ bl q := bl_lt (Nat.le_refl _)
  refine Nat.lt_of_lt_of_le h2 ?_
  rw [show (9007199254740992 : Nat) = 2 ^ 53 by decide, ← Nat.pow_add]
  exact pow_le (by omega)
theorem rneM_le {q k B : Nat} {more : Bool} (h : q / 2 ^ k < B) : rneM q k more ≤ B := by
  unfold rneM; split <;> omega
theorem pow_split (k : Nat) : 2 ^ k = B (k / 64) * 2 ^ (k % 64) := by
  unfold B; rw [← Nat.pow_add]; congr 1; omega
theorem near_bit (q k : Nat) : wd q (k / 64) / 2 ^ (k % 64) % 2 = q / 2 ^ k % 2 := by
  rw [pow_split k, ← Nat.div_div_eq_div_mul]
  unfold wd
  have hr : k % 64 < 64 := Nat.mod_lt _ (by decide)
  generalize q / B (k / 64) = x
  generalize k % 64 = r at *
  have e : (18446744073709551616 : Nat) = 2 ^ r * (2 ^ (63 - r) * 2) := by
    rw [← Nat.mul_assoc, ← Nat.pow_add, show r + (63 - r) = 63 by omega]
  rw [e, Nat.mod_mul_right_div_self, Nat.mod_mul_left_mod]
theorem near_low (q k : Nat) : q % 2 ^ k = q % B (k / 64) + B (k / 64) * (wd q (k / 64) % 2 ^ (k % 64)) := by
  rw [pow_split k, Nat.mod_mul]
  unfold wd
  have hr : k % 64 < 64 := Nat.mod_lt _ (by decide)
  generalize k % 64 = r at *
  have e : (18446744073709551616 : Nat) = 2 ^ r * 2 ^ (64 - r) := by
    rw [← Nat.pow_add, show r + (64 - r) = 64 by omega]
  rw [e, Nat.mod_mul_right_mod]
theorem near_rest (q k : Nat) : (decide (wd q (k / 64) % 2 ^ (k % 64) ≠ 0) || decide (q % B (k / 64) ≠ 0)) = decide (q % 2 ^ k ≠ 0) := by
  have h := near_low q k
  have hp := B_pos (k / 64)
  generalize wd q (k / 64) % 2 ^ (k % 64) = x at *
  generalize B (k / 64) = P at *
  rw [h, Bool.eq_iff_iff, Bool.or_eq_true, decide_eq_true_iff, decide_eq_true_iff, decide_eq_true_iff]
  generalize q % P = y at *
  rcases Nat.eq_zero_or_pos x with hx | hx
  · subst hx; simp
  · have : 0 < P * x := Nat.mul_pos hp hx
    omega
theorem near_word {q k : Nat} (h : q / 2 ^ k < 18446744073709551616) :
    wd q (k / 64) / 2 ^ (k % 64) + (wd q (k / 64 + 1) * 2 ^ (64 - k % 64)) % 18446744073709551616 = q / 2 ^ k ∧ wd q (k / 64) / 2 ^ (k % 64) < 2 ^ (64 - k % 64) ∧ (wd q (k / 64 + 1) * 2 ^ (64 - k % 64)) % 18446744073709551616 % 2 ^ (64 - k % 64) = 0 := by
  rw [pow_split k, ← Nat.div_div_eq_div_mul] at h ⊢
  have hr : k % 64 < 64 := Nat.mod_lt _ (by decide)
  have e : (18446744073709551616 : Nat) = 2 ^ (k % 64) * 2 ^ (64 - k % 64) := by
    rw [← Nat.pow_add, show k % 64 + (64 - k % 64) = 64 by omega]
  have hp : 0 < 2 ^ (k % 64) := Nat.two_pow_pos _
  have hq : 0 < 2 ^ (64 - k % 64) := Nat.two_pow_pos _
  have hx : q / B (k / 64 + 1) = q / B (k / 64) / 18446744073709551616 := by rw [B_succ, ← Nat.div_div_eq_div_mul]
  have hw : wd q (k / 64 + 1) = q / B (k / 64) / 18446744073709551616 % 18446744073709551616 := by unfold wd; rw [hx]
  have hw0 : wd q (k / 64) = q / B (k / 64) % 18446744073709551616 := rfl
  rw [hw, hw0]
  generalize q / B (k / 64) = x at *
  generalize 2 ^ (k % 64) = p at *
  generalize 2 ^ (64 - k % 64) = s at *
  have h1 : x < p * 18446744073709551616 := by
    rw [Nat.div_lt_iff_lt_mul hp, Nat.mul_comm] at h; exact h
  have h2 : x / 18446744073709551616 < p := by rw [Nat.div_lt_iff_lt_mul (by decide)]; exact h1
  have h3 : x / 18446744073709551616 % 18446744073709551616 = x / 18446744073709551616 := by
    apply Nat.mod_eq_of_lt
    have : p ≤ p * s := Nat.le_mul_of_pos_right p hq
    omega
  have h4 : x / 18446744073709551616 * s < 18446744073709551616 := by
    exact Nat.lt_of_lt_of_le (Nat.mul_lt_mul_of_pos_right h2 hq) (Nat.le_of_eq e.symm)
  have h5 : x / p = x % 18446744073709551616 / p + x / 18446744073709551616 * s := by
    have h6 := Nat.div_add_mod x 18446744073709551616
    have h7 : x = x % 18446744073709551616 + p * (x / 18446744073709551616 * s) := by
      have h8 : ∀ X, p * (X * s) = 18446744073709551616 * X := fun X => by
        rw [Nat.mul_comm X s, ← Nat.mul_assoc, ← e]
      rw [h8]; omega
    conv => lhs; rw [h7]
    rw [Nat.add_mul_div_left _ _ hp]
  rw [h3, Nat.mod_eq_of_lt h4, h5]
  refine ⟨rfl, ?_, Nat.mul_mod_left _ _⟩
  rw [Nat.div_lt_iff_lt_mul hp, Nat.mul_comm, ← e]
  exact Nat.mod_lt _ (by decide)
theorem and_low {x r : Nat} (hx : x < 18446744073709551616) (hr : r < 64) : bits .and .u64 (x : Int) ((2 : Int) ^ r - 1) = ((x % 2 ^ r : Nat) : Int) := by
  have h1 : ((2 : Int) ^ r - 1) = ((2 ^ r - 1 : Nat) : Int) := by
    have := Nat.two_pow_pos r
    rw [Int.natCast_sub this]; simp
  have hp := pow_le (show r ≤ 63 by omega)
  rw [show 2 ^ 63 = 9223372036854775808 from by decide] at hp
  rw [h1, u64_and_nat x (2 ^ r - 1) hx (by omega), Nat.and_two_pow_sub_one_eq_mod]
/-! ### the sign; parts of a sum -/
theorem B67_half : B 68 = 18446744073709551616 * B 67 := by rw [show (68 : Nat) = 67 + 1 from rfl, B_succ, Nat.mul_comm]
theorem below_sign {Z : Int} (h : Z.natAbs < B 67) : decide (9223372036854775808 ≤ wd (modB Z) 67) = decide (Z < 0) := by
  have hm : ((modB Z : Nat) : Int) = Z % ((B 68 : Nat) : Int) := modB_cast Z
  have hB := B67_half
  have hp := B_pos 67
  have e : wd (modB Z) 67 = modB Z / B 67 := by
    unfold wd
    apply Nat.mod_eq_of_lt
    rw [Nat.div_lt_iff_lt_mul hp, ← B67_half]; exact modB_lt Z
  rw [e, Bool.eq_iff_iff, decide_eq_true_iff, decide_eq_true_iff]
  generalize modB Z = N at *
  by_cases c : Z < 0
  · have h2 : Z % ((B 68 : Nat) : Int) = Z + ((B 68 : Nat) : Int) := by
      rw [← Int.add_emod_right, Int.emod_eq_of_lt (by omega) (by omega)]
    rw [h2] at hm
    have h3 : 9223372036854775808 * B 67 ≤ N := by omega
    have h4 : 9223372036854775808 ≤ N / B 67 := by
      rw [Nat.le_div_iff_mul_le hp]; exact h3
    omega
  · have h2 : Z % ((B 68 : Nat) : Int) = Z := Int.emod_eq_of_lt (by omega) (by omega)
    rw [h2] at hm
    have h3 : N < B 67 := by omega
    rw [Nat.div_eq_of_lt h3]; omega
theorem modB_neg {Z : Int} (h : Z.natAbs < B 67) (c : Z < 0) : (0 + B 68 - modB Z) % B 68 = Z.natAbs := by
  have hm : ((modB Z : Nat) : Int) = Z % ((B 68 : Nat) : Int) := modB_cast Z
  have hB := B67_half
  have hp := B_pos 67
  have h2 : Z % ((B 68 : Nat) : Int) = Z + ((B 68 : Nat) : Int) := by
    rw [← Int.add_emod_right, Int.emod_eq_of_lt (by omega) (by omega)]
  rw [h2] at hm
  have h3 : 0 + B 68 - modB Z = Z.natAbs := by omega
  rw [h3, Nat.mod_eq_of_lt (by omega)]
theorem modB_posi {Z : Int} (h : Z.natAbs < B 67) (c : 0 ≤ Z) : modB Z = Z.natAbs := by
  have hm : ((modB Z : Nat) : Int) = Z % ((B 68 : Nat) : Int) := modB_cast Z
  have hB := B67_half
  have h2 : Z % ((B 68 : Nat) : Int) = Z := Int.emod_eq_of_lt c (by omega)
  rw [h2] at hm
  omega
theorem nearU_le (q : Nat) (m : Bool) : nearU q m ≤ 9218868437227405312 := nr_le _ _
/-- near of a part of a sum. -/
def overV (Z : Int) (u d : Bool) (n : Nat) : Nat :=
  if u = true ∧ d = true then 9221120237041090561 else if u = true then 9218868437227405312 else if d = true then 18442240474082181120
  else (if Z < 0 then 9223372036854775808 else 0) + nearU (Z.natAbs / n) (decide (Z.natAbs % n ≠ 0))
/-- the words of a quotient, from above. -/
def divW (M n j t : Nat) : Nat := if j ≤ t then wd (M / n) t else wd M t
theorem xor_sign {x : Nat} (h : x ≤ 9218868437227405312) : x ^^^ 9223372036854775808 = 9223372036854775808 + x := by
  have h1 := nat_and_xor x 9223372036854775808
  have h2 : x &&& 9223372036854775808 = 0 := by
    have h3 : x < 2 ^ 63 := by rw [show (2 : Nat) ^ 63 = 9223372036854775808 by decide]; omega
    rw [show (9223372036854775808 : Nat) = 2 ^ 63 by decide]
    apply Nat.eq_of_testBit_eq
    intro i
    rw [Nat.testBit_and, Nat.testBit_two_pow, Nat.zero_testBit]
    by_cases c : 63 = i
    · subst c; rw [Nat.testBit_lt_two_pow h3]; rfl
    · rw [decide_eq_false c, Bool.and_false]
  omega
end Tn
