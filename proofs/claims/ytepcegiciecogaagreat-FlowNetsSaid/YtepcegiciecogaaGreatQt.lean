/- Rounding of quotients: digits beyond those that are looked at count as one sticky bit. No program in sight. -/
import Derived.Test.YtepcegiciecogaaGreatMon
namespace Tn
open Go Go.RowKit

/-- a number rounded to odd keeps what is nearest. -/
theorem rne_odd {Q j d : Nat} {more : Bool} (hd : 2 ≤ d) : rne (dbl (Q / 2 ^ j) (decide (Q % 2 ^ j ≠ 0 ∨ more = true))) d = rne (dbl Q more) (d + j) := by
  obtain ⟨c, rfl⟩ : ∃ c, d = c + 2 := ⟨d - 2, by omega⟩
  have hj := Nat.two_pow_pos j
  have hc := Nat.two_pow_pos c
  have e1 : (2 : Nat) ^ (c + 2) = 2 * (2 * 2 ^ c) := by rw [Nat.pow_add]; omega
  have e2 : (2 : Nat) ^ (c + 2 + j) = 2 * (2 ^ j * (2 * 2 ^ c)) := by
    rw [Nat.pow_add, e1, Nat.mul_comm _ (2 ^ j), Nat.mul_left_comm]
  have hx : ∀ (q : Nat) (s : Bool) (P : Nat), 0 < P → dbl q s / (2 * P) = q / P ∧ dbl q s % (2 * P) = 2 * (q % P) + (if s = true then 1 else 0) := by
    intro q s P hP
    have h1 : dbl q s / 2 = q := by unfold dbl; split <;> omega
    have h2 : dbl q s % 2 = if s = true then 1 else 0 := by unfold dbl; split <;> omega
    constructor
    · rw [← Nat.div_div_eq_div_mul, h1]
    · rw [Nat.mod_mul, h1, h2]; omega
  obtain ⟨a1, a2⟩ := hx (Q / 2 ^ j) (decide (Q % 2 ^ j ≠ 0 ∨ more = true)) (2 * 2 ^ c) (by omega)
  obtain ⟨b1, b2⟩ := hx Q more (2 ^ j * (2 * 2 ^ c)) (Nat.mul_pos hj (by omega))
  unfold rne
  rw [e1, e2, a1, a2, b1, b2, Nat.div_div_eq_div_mul, Nat.mod_mul (x := Q)]
  congr 1
  have hr := Nat.mod_lt Q hj
  have hu := Nat.mod_lt (Q / 2 ^ j) (show 0 < 2 * 2 ^ c by omega)
  generalize Q / (2 ^ j * (2 * 2 ^ c)) % 2 = o at *
  generalize Q / 2 ^ j % (2 * 2 ^ c) = u at *
  generalize Q % 2 ^ j = t at *
  generalize 2 ^ c = C at *
  generalize 2 ^ j = J at *
  have key : ∀ s : Nat, s ≤ 1 → (s = 1 ↔ (t ≠ 0 ∨ more = true)) →
      ((2 * (2 * C) < 2 * (2 * u + s) ∨ 2 * (2 * C) = 2 * (2 * u + s) ∧ o = 1) ↔
       (2 * (J * (2 * C)) < 2 * (2 * (t + J * u) + (if more = true then 1 else 0)) ∨ 2 * (J * (2 * C)) = 2 * (2 * (t + J * u) + (if more = true then 1 else 0)) ∧ o = 1)) := by
    intro s hs hst
    have hm1 : (if more = true then 1 else 0) = 0 ∨ (if more = true then 1 else 0) = 1 := by cases more <;> simp
    rcases Nat.lt_trichotomy u C with c1 | c1 | c1
    · have : J * (u + 1) ≤ J * C := Nat.mul_le_mul_left J c1
      rw [Nat.mul_add, Nat.mul_one] at this
      have e3 : J * (2 * C) = 2 * (J * C) := Nat.mul_left_comm ..
      rw [e3]
      generalize J * u = X at *
      generalize J * C = Y at *
      constructor
      · intro h; omega
      · intro h; omega
    · subst c1
      have e3 : J * (2 * u) = 2 * (J * u) := Nat.mul_left_comm ..
      rw [e3]
      generalize J * u = X at *
      by_cases cs : s = 1
      · have h3 := hst.1 cs
        refine ⟨fun _ => Or.inl ?_, fun _ => Or.inl (by omega)⟩
        rcases h3 with h3 | h3
        · omega
        · rw [if_pos h3]; omega
      · have h3 : t = 0 ∧ ¬ more = true := by
          refine ⟨?_, fun h => cs (hst.2 (Or.inr h))⟩
          rcases Nat.eq_zero_or_pos t with h | h
          · exact h
          · exact absurd (hst.2 (Or.inl (by omega))) cs
        rw [if_neg h3.2, h3.1]
        constructor
        · intro h; omega
        · intro h; omega
    · have : J * (C + 1) ≤ J * u := Nat.mul_le_mul_left J c1
      rw [Nat.mul_add, Nat.mul_one] at this
      have e3 : J * (2 * C) = 2 * (J * C) := Nat.mul_left_comm ..
      rw [e3]
      generalize J * u = X at *
      generalize J * C = Y at *
      constructor
      · intro h; omega
      · intro h; omega
  have hk := key (if decide (t ≠ 0 ∨ more = true) = true then 1 else 0) (by split <;> omega) (by
    by_cases h : t ≠ 0 ∨ more = true
    · rw [if_pos (decide_eq_true h)]; exact ⟨fun _ => h, fun _ => rfl⟩
    · rw [if_neg (by simpa using h)]; exact ⟨fun h2 => by omega, fun h2 => absurd h2 h⟩)
  by_cases hh : 2 * (2 * C) < 2 * (2 * u + (if decide (t ≠ 0 ∨ more = true) = true then 1 else 0)) ∨ 2 * (2 * C) = 2 * (2 * u + (if decide (t ≠ 0 ∨ more = true) = true then 1 else 0)) ∧ o = 1
  · rw [if_pos hh, if_pos (hk.1 hh)]
  · rw [if_neg hh, if_neg (fun h => hh (hk.2 h))]
theorem dbl_ne {q : Nat} (h : q ≠ 0) (more : Bool) : dbl q more ≠ 0 := by unfold dbl; split <;> omega
theorem log2_dbl {q : Nat} (h : q ≠ 0) (more : Bool) : (dbl q more).log2 = q.log2 + 1 := by
  have h1 := log2_lo h
  have h2 := log2_hi q
  apply log2_unique
  · rw [Nat.pow_succ]; unfold dbl; split <;> omega
  · rw [Nat.pow_succ]; unfold dbl; split <;> omega
theorem log2_cut {Q j : Nat} (h : Q / 2 ^ j ≠ 0) : Q.log2 = (Q / 2 ^ j).log2 + j := by
  have h1 := log2_lo h
  have h2 := log2_hi (Q / 2 ^ j)
  have hj := Nat.two_pow_pos j
  apply log2_unique
  · rw [Nat.pow_add]
    exact (Nat.le_div_iff_mul_le hj).1 h1
  · rw [show (Q / 2 ^ j).log2 + j + 1 = (Q / 2 ^ j).log2 + 1 + j by omega, Nat.pow_add]
    exact (Nat.div_lt_iff_lt_mul hj).1 h2
/-- digits beyond those that count are one bit. -/
theorem nr_drop {Q j : Nat} {E : Int} {more : Bool} (h0 : Q / 2 ^ j ≠ 0) (hb : 53 ≤ (Q / 2 ^ j).log2 ∨ E + j ≤ -1076) :
    nr (dbl (Q / 2 ^ j) (decide (Q % 2 ^ j ≠ 0 ∨ more = true))) (E + j) = nr (dbl Q more) E := by
  have hQ : Q ≠ 0 := fun h => h0 (by rw [h, Nat.zero_div])
  have l1 := log2_dbl h0 (decide (Q % 2 ^ j ≠ 0 ∨ more = true))
  have l2 := log2_dbl hQ more
  have l3 := log2_cut h0
  have hlast : last (dbl (Q / 2 ^ j) (decide (Q % 2 ^ j ≠ 0 ∨ more = true))) (E + j) = last (dbl Q more) E := by
    unfold last; rw [l1, l2, l3]; omega
  unfold nr
  rw [if_neg (dbl_ne h0 _), if_neg (dbl_ne hQ _), hlast]
  congr 2
  have hL : E + j + 2 ≤ last (dbl Q more) E := by unfold last; rw [l2, l3]; omega
  generalize last (dbl Q more) E = L at *
  unfold rnd
  rw [if_neg (by omega), if_neg (by omega)]
  have e1 : (-(E - L)).toNat = (-(E + j - L)).toNat + j := by omega
  rw [e1]
  exact rne_odd (by omega)
/-- the quotient of m * 2^k by n, at so many digits. -/
theorem nr_quot {m n k K : Nat} {e : Int} (hn : 0 < n) (hk : k ≤ K) (h0 : m * 2 ^ k / n ≠ 0) (hb : 53 ≤ (m * 2 ^ k / n).log2 ∨ e - k - 1 ≤ -1076) :
    nr (dbl (m * 2 ^ k / n) (decide (m * 2 ^ k % n ≠ 0))) (e - k - 1) = nr (dbl (m * 2 ^ K / n) (decide (m * 2 ^ K % n ≠ 0))) (e - K - 1) := by
  obtain ⟨j, rfl⟩ : ∃ j, K = k + j := ⟨K - k, by omega⟩
  have hj := Nat.two_pow_pos j
  have e0 : m * 2 ^ (k + j) = m * 2 ^ k * 2 ^ j := by rw [Nat.pow_add, Nat.mul_assoc]
  generalize m * 2 ^ k = A at *
  rw [e0]
  have e1 : A * 2 ^ j / n / 2 ^ j = A / n := by
    rw [Nat.div_div_eq_div_mul, Nat.mul_div_mul_right _ _ hj]
  have e2 : (A * 2 ^ j / n % 2 ^ j ≠ 0 ∨ decide (A * 2 ^ j % n ≠ 0) = true) ↔ A % n ≠ 0 := by
    rw [decide_eq_true_iff]
    have h1 := Nat.div_add_mod A n
    have h2 := Nat.div_add_mod (A * 2 ^ j) n
    have h3 := Nat.div_add_mod (A * 2 ^ j / n) (2 ^ j)
    rw [e1] at h3
    have h4 := Nat.mod_lt A hn
    have key : n * (A * 2 ^ j / n % 2 ^ j) + A * 2 ^ j % n = A % n * 2 ^ j := by
      have h5 : n * (A * 2 ^ j / n) = n * (2 ^ j * (A / n)) + n * (A * 2 ^ j / n % 2 ^ j) := by rw [← Nat.mul_add, h3]
      have h6 : A * 2 ^ j = n * (2 ^ j * (A / n)) + A % n * 2 ^ j := by
        rw [Nat.mul_left_comm, Nat.mul_comm (A % n), ← Nat.mul_add, h1, Nat.mul_comm]
      omega
    constructor
    · rintro h hz
      rw [hz, Nat.zero_mul] at key
      rcases h with h | h
      · have : 0 < n * (A * 2 ^ j / n % 2 ^ j) := Nat.mul_pos hn (by omega)
        omega
      · omega
    · intro h
      by_cases c : A * 2 ^ j / n % 2 ^ j = 0
      · right
        rw [c, Nat.mul_zero, Nat.zero_add] at key
        rw [key]
        have : 0 < A % n * 2 ^ j := Nat.mul_pos (by omega) hj
        omega
      · exact Or.inl c
  have := nr_drop (Q := A * 2 ^ j / n) (j := j) (E := e - ((k + j : Nat) : Int) - 1) (more := decide (A * 2 ^ j % n ≠ 0)) (by rw [e1]; exact h0)
    (by rw [e1]; rcases hb with hb | hb
        · exact Or.inl hb
        · right; omega)
  rw [e1, show e - ((k + j : Nat) : Int) - 1 + (j : Int) = e - (k : Int) - 1 by omega] at this
  rw [← this]
  congr 2
  rw [Bool.eq_iff_iff, decide_eq_true_iff, decide_eq_true_iff]
  exact e2.symm
end Tn
