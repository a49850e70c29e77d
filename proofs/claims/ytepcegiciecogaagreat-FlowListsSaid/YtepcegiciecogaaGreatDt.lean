/- date.Months and the reference's Months: one answer for any day and any number of months. No walk. -/
import Derived.Test.YtepcegiciecogaaGreatFDax1
import Derived.Test.YtepcegiciecogaaGreatFDax2
import Derived.Test.YtepcegiciecogaaGreatFDax3
import Derived.Test.YtepcegiciecogaaGreatPl
namespace Go.Proofs.YtepcegiciecogaaGreat.FDa
open Go.RowKit Go.Proofs.YtepcegiciecogaaGreatW.PrintWords Go.Proofs.YtepcegiciecogaaGreatW.PrintLast Go.Proofs.YtepcegiciecogaaGreatW.PrintMore Tn
set_option linter.unusedVariables false

theorem w64 {i : Int} (h1 : -9223372036854775808 ≤ i) (h2 : i < 9223372036854775808) : wrap64 i = i := by unfold wrap64; omega
/-- days ahead of a year. -/
def bef (y : Int) : Int := 365 * (y - 1900) + ((y - 1) / 4 - (y - 1) / 100 + (y - 1) / 400) - 460
theorem bef_f {y : Int} (h1 : 1900 ≤ y) (h2 : y ≤ 2300) : date_before.f y = some (bef y) := by
  unfold date_before.f bef
  have e0 : wrap64 (y - 1) = y - 1 := w64 (by omega) (by omega)
  rw [e0, Int.tdiv_eq_ediv_of_nonneg (show 0 ≤ y - 1 by omega), Int.tdiv_eq_ediv_of_nonneg (show 0 ≤ y - 1 by omega), Int.tdiv_eq_ediv_of_nonneg (show 0 ≤ y - 1 by omega)]
  rw [w64 (i := y - 1900) (by omega) (by omega), w64 (i := 365 * (y - 1900)) (by omega) (by omega), w64 (i := (y - 1) / 4) (by omega) (by omega), w64 (i := (y - 1) / 100) (by omega) (by omega), w64 (i := (y - 1) / 400) (by omega) (by omega), w64 (i := (y - 1) / 4 - (y - 1) / 100) (by omega) (by omega), w64 (i := (y - 1) / 4 - (y - 1) / 100 + (y - 1) / 400) (by omega) (by omega), w64 (i := 365 * (y - 1900) + ((y - 1) / 4 - (y - 1) / 100 + (y - 1) / 400)) (by omega) (by omega), w64 (i := 365 * (y - 1900) + ((y - 1) / 4 - (y - 1) / 100 + (y - 1) / 400) - 460) (by omega) (by omega)]
def leap (y : Int) : Bool := if y % 4 = 0 then (if y % 100 = 0 then (y % 400 == 0) else true) else false
theorem leap_f {y : Int} (h : 0 ≤ y) : date_Leap.f y = some (leap y) := by
  unfold date_Leap.f leap
  rw [Int.tmod_eq_emod_of_nonneg h, Int.tmod_eq_emod_of_nonneg h, Int.tmod_eq_emod_of_nonneg h]
  split
  · split <;> rfl
  · rfl
def lenD (y m : Int) : Int := if m = 2 then (if leap y = true then 29 else 28) else if m = 4 then 30 else if m = 6 then 30 else if m = 9 then 30 else if m = 11 then 30 else 31
theorem len_f {y : Int} (h : 0 ≤ y) (m : Int) : date_length.f y m = some (lenD y m) := by
  unfold date_length.f lenD
  rw [leap_f h, Option.bind_some]
  repeat (split; · first | rfl | (split <;> rfl))
  rfl
theorem len_bd (y m : Int) : 28 ≤ lenD y m ∧ lenD y m ≤ 31 := by
  unfold lenD
  repeat (split; · first | omega | (split <;> omega))
  omega
/-- days of the first months. -/
def cum (y : Int) : Nat → Int
  | 0 => 0
  | i + 1 => cum y i + lenD y ((i : Int) + 1)
theorem cum_bd (y : Int) : ∀ i, 0 ≤ cum y i ∧ cum y i ≤ 31 * i
  | 0 => ⟨Int.le_refl _, by show (0 : Int) ≤ _; omega⟩
  | i + 1 => by
    have h1 := cum_bd y i
    have h2 := len_bd y ((i : Int) + 1)
    show 0 ≤ cum y i + _ ∧ cum y i + _ ≤ _
    omega
theorem cum12 (y : Int) : cum y 12 = if leap y = true then 366 else 365 := by
  have e : cum y 12 = 0 + lenD y 1 + lenD y 2 + lenD y 3 + lenD y 4 + lenD y 5 + lenD y 6 + lenD y 7 + lenD y 8 + lenD y 9 + lenD y 10 + lenD y 11 + lenD y 12 := rfl
  rw [e]
  unfold lenD
  cases leap y <;> decide
theorem bef_next {y : Int} (h1 : 1900 ≤ y) (h2 : y ≤ 2300) : bef (y + 1) = bef y + cum y 12 := by
  rw [cum12]
  unfold bef leap
  by_cases c1 : y % 4 = 0
  · rw [if_pos c1]
    by_cases c2 : y % 100 = 0
    · rw [if_pos c2]
      by_cases c3 : y % 400 = 0
      · rw [if_pos (by simpa using c3)]; omega
      · rw [if_neg (by simpa using c3)]; omega
    · rw [if_neg c2, if_pos rfl]; omega
  · rw [if_neg c1, if_neg (by decide)]; omega
theorem civ1 {y r0 : Int} (hy : 0 ≤ y) (h0 : 0 ≤ r0) (h1 : r0 < cum y 12) : ∀ j i : Nat, i + j = 11 → cum y i ≤ r0 → ∃ (k : Nat) (m : Nat) (d : Int), date_civil.l1 k y ((i : Int) + 1) (r0 - cum y i) = some (y, (m : Int) + 1, d) ∧ m ≤ 11 ∧ 1 ≤ d ∧ d ≤ lenD y ((m : Int) + 1) ∧ cum y m + (d - 1) = r0
  | j, i, hj, hc => by
    have hb := cum_bd y i
    have hb2 := cum_bd y 12
    have hl := len_bd y ((i : Int) + 1)
    have hn : cum y (i + 1) = cum y i + lenD y ((i : Int) + 1) := rfl
    by_cases hs : r0 - cum y i ≥ lenD y ((i : Int) + 1)
    · cases j with
      | zero =>
        obtain rfl : i = 11 := by omega
        have : cum y 12 = cum y 11 + lenD y (((11 : Nat) : Int) + 1) := rfl
        omega
      | succ j =>
        obtain ⟨k, m, d, hk, rest⟩ := civ1 hy h0 h1 j (i + 1) (by omega) (by omega)
        refine ⟨k + 1, m, d, ?_, rest⟩
        rw [date_civil.l1, len_f hy, Option.bind_some, if_pos hs, Option.bind_some, w64 (by omega) (by omega), w64 (by omega) (by omega)]
        rw [show r0 - cum y i - lenD y ((i : Int) + 1) = r0 - cum y (i + 1) by omega]
        exact hk
    · refine ⟨1, i, r0 - cum y i + 1, ?_, by omega, by omega, by omega, by omega⟩
      rw [date_civil.l1, len_f hy, Option.bind_some, if_neg hs, w64 (by omega) (by omega)]
theorem day0 {y : Int} (hy : 0 ≤ y) (acc : Int) (ha : 0 ≤ acc ∧ acc ≤ 1000000) (m : Nat) (hm : m ≤ 11) : ∀ j i : Nat, i + j = m → ∃ k, date_day.l0 k y (acc + cum y i) (m : Int) (i : Int) = some (acc + cum y m)
  | 0, i, h => ⟨1, by rw [date_day.l0, if_neg (by omega), show i = m by omega]⟩
  | j + 1, i, h => by
    obtain ⟨k, hk⟩ := day0 hy acc ha m hm j (i + 1) (by omega)
    have hb := cum_bd y i
    have hl := len_bd y ((i : Int) + 1)
    have hn : cum y (i + 1) = cum y i + lenD y ((i : Int) + 1) := rfl
    refine ⟨k + 1, ?_⟩
    rw [date_day.l0, if_pos (by omega), w64 (i := (i : Int) + 1) (by omega) (by omega), len_f hy, Option.bind_some, w64 (by omega) (by omega), show acc + cum y i + lenD y ((i : Int) + 1) = acc + cum y (i + 1) by omega]
    exact hk
/-- the year of a day is found. -/
theorem civ0 {n : Int} (h0 : 0 ≤ n) (h1 : n ≤ 109572) : ∀ (j : Nat) (y : Int), y + j = 2199 → 1900 ≤ y → bef y ≤ n → ∃ (k : Nat) (Y : Int) (m : Nat) (d : Int), date_civil.l0 k n y = some (Y, (m : Int) + 1, d) ∧ 1900 ≤ Y ∧ Y ≤ 2199 ∧ m ≤ 11 ∧ 1 ≤ d ∧ d ≤ lenD Y ((m : Int) + 1) ∧ bef Y + cum Y m + (d - 1) = n
  | j, y, hj, hy, hb => by
    have hn := bef_next hy (show y ≤ 2300 by omega)
    by_cases hs : bef (y + 1) ≤ n
    · cases j with
      | zero =>
        have : y = 2199 := by omega
        subst this
        have : bef (2199 + 1) = 109573 := by decide
        omega
      | succ j =>
        obtain ⟨k, Y, m, d, hk, rest⟩ := civ0 h0 h1 j (y + 1) (by omega) (by omega) hs
        refine ⟨k + 1, Y, m, d, ?_, rest⟩
        rw [date_civil.l0, w64 (i := y + 1) (by omega) (by omega), bef_f (by omega) (by omega), Option.bind_some, if_pos hs]
        exact hk
    · obtain ⟨k, m, d, hk, hm, hd1, hd2, hsum⟩ := civ1 (y := y) (r0 := n - bef y) (by omega) (by omega) (by omega) 11 0 (by omega) (by show (0 : Int) ≤ _; omega)
      refine ⟨k + 1, y, m, d, ?_, hy, by omega, hm, hd1, hd2, by omega⟩
      have hbb : -1000000 ≤ bef y ∧ bef y ≤ 1000000 := by unfold bef; omega
      rw [date_civil.l0, w64 (i := y + 1) (by omega) (by omega), bef_f (y := y + 1) (by omega) (by omega), Option.bind_some, if_neg hs, bef_f hy (by omega), Option.bind_some, w64 (i := n - bef y) (by omega) (by omega)]
      have e0 : n - bef y - cum y 0 = n - bef y := by show n - bef y - 0 = _; omega
      rw [e0] at hk
      exact hk

/-! ### a day's date -/
structure Civ (n Y : Int) (m : Nat) (d : Int) : Prop where
  y1 : 1900 ≤ Y
  y2 : Y ≤ 2199
  m1 : m ≤ 11
  d1 : 1 ≤ d
  d2 : d ≤ lenD Y ((m : Int) + 1)
  sum : bef Y + cum Y m + (d - 1) = n
theorem cum_next (y : Int) (i : Nat) : cum y (i + 1) = cum y i + lenD y ((i : Int) + 1) := rfl
theorem cum_mono (y : Int) {i : Nat} : ∀ {j : Nat}, i ≤ j → cum y i ≤ cum y j
  | 0, h => by obtain rfl : i = 0 := by omega
               exact Int.le_refl _
  | j + 1, h => by
    rcases Nat.lt_or_eq_of_le h with c | c
    · have h1 := cum_mono y (i := i) (j := j) (by omega)
      have h2 := len_bd y ((j : Int) + 1)
      rw [cum_next]; omega
    · subst c; exact Int.le_refl _
theorem bef_mono {Y Z : Int} (h1 : 1900 ≤ Y) (h2 : Y ≤ Z) (h3 : Z ≤ 2300) : bef Y ≤ bef Z := by unfold bef; omega
theorem civ_year {n Y Z : Int} {m q : Nat} {d e : Int} (h : Civ n Y m d) (k : Civ n Z q e) : ¬ Y < Z := fun hlt => by
  have h1 := h.sum
  have h2 := k.sum
  have h3 := cum_mono Y (i := m + 1) (j := 12) (by have := h.m1; omega)
  rw [cum_next] at h3
  have h4 := bef_next h.y1 (show Y ≤ 2300 by have := h.y2; omega)
  have h5 := bef_mono (Y := Y + 1) (Z := Z) (by have := h.y1; omega) (by omega) (by have := k.y2; omega)
  have h6 := cum_bd Z q
  have := h.d2
  have := k.d1
  omega
theorem civ_uniq {n Y Z : Int} {m q : Nat} {d e : Int} (h : Civ n Y m d) (k : Civ n Z q e) : Y = Z ∧ m = q ∧ d = e := by
  have hy := civ_year h k
  have hz := civ_year k h
  obtain rfl : Y = Z := by omega
  have h1 := h.sum
  have h2 := k.sum
  have a1 := h.d1
  have a2 := h.d2
  have b1 := k.d1
  have b2 := k.d2
  rcases Nat.lt_trichotomy m q with c | c | c
  · have h3 := cum_mono Y (i := m + 1) (j := q) c
    rw [cum_next] at h3; omega
  · subst c; exact ⟨rfl, rfl, by omega⟩
  · have h3 := cum_mono Y (i := q + 1) (j := m) c
    rw [cum_next] at h3; omega
theorem civil_e {n : Int} (h0 : 0 ≤ n) (h1 : n ≤ 109572) : ∃ (Y : Int) (m : Nat) (d : Int), Civ n Y m d ∧ Ev (fun k => date_civil.f k n) (Y, (m : Int) + 1, d) := by
  have hq : n / 366 ≤ 299 := by omega
  obtain ⟨j, hj⟩ : ∃ j : Nat, (1900 + n / 366) + j = 2199 := ⟨(299 - n / 366).toNat, by omega⟩
  obtain ⟨k, Y, m, d, hk, hY1, hY2, hm, hd1, hd2, hsum⟩ := civ0 h0 h1 j (1900 + n / 366) hj (by omega) (by unfold bef; omega)
  refine ⟨Y, m, d, ⟨hY1, hY2, hm, hd1, hd2, hsum⟩, Ev.of (date_civil.mono n) (k := k) ?_⟩
  unfold date_civil.f
  rw [Int.tdiv_eq_ediv_of_nonneg h0, w64 (i := n / 366) (by omega) (by omega), w64 (i := 1900 + n / 366) (by omega) (by omega)]
  exact hk
theorem day_e {Y : Int} {m : Nat} {d : Int} (h1 : 1900 ≤ Y) (h2 : Y ≤ 2199) (hm : m ≤ 11) (hd1 : 1 ≤ d) (hd2 : d ≤ 31) : Ev (fun k => date_day.f k Y ((m : Int) + 1) d) (bef Y + cum Y m + (d - 1)) := by
  have hbb : -1000000 ≤ bef Y ∧ bef Y ≤ 900000 := by unfold bef; omega
  have hbp : 0 ≤ bef Y := by unfold bef; omega
  obtain ⟨k2, hk2⟩ := day0 (y := Y) (by omega) (bef Y + d - 1) (by omega) m hm m 0 (by omega)
  refine Ev.of (date_day.mono Y ((m : Int) + 1) d) (k := k2) ?_
  unfold date_day.f
  rw [bef_f h1 (by omega), Option.bind_some, w64 (i := bef Y + d) (by omega) (by omega), w64 (i := bef Y + d - 1) (by omega) (by omega), w64 (i := (m : Int) + 1 - 1) (by omega) (by omega), show (m : Int) + 1 - 1 = m by omega]
  have e0 : bef Y + d - 1 + cum Y 0 = bef Y + d - 1 := by show bef Y + d - 1 + 0 = _; omega
  rw [e0] at hk2
  rw [show (0 : Int) = ((0 : Nat) : Int) from rfl, hk2]
  congr 1; omega
/-! ### the reference's -/
theorem rleap_f {y : Int} (h : 0 ≤ y) : tenorref5_Leap.f y = some (leap y) := by
  unfold tenorref5_Leap.f leap
  rw [Int.tmod_eq_emod_of_nonneg h, Int.tmod_eq_emod_of_nonneg h, Int.tmod_eq_emod_of_nonneg h]
  split
  · split <;> rfl
  · congr 1
    rw [beq_eq_false_iff_ne]
    omega
theorem rlen_j {y : Int} (h : 0 ≤ y) (m : Int) (b : Bool) (hb : b = true ↔ (m = 4 ∨ m = 6 ∨ m = 9 ∨ m = 11)) : Ev (fun k => tenorref5_length.j0 k y m b) (lenD y m) := by
  refine Ev.step (fun k => rfl) ?_
  simp only [tenorref5_length.j0]
  unfold lenD
  by_cases c : b = true
  · have hc := hb.1 c
    simp only [if_pos c]
    have e : (if m = 2 then (if leap y = true then 29 else 28) else if m = 4 then 30 else if m = 6 then 30 else if m = 9 then 30 else if m = 11 then 30 else 31) = (30 : Int) := by
      rcases hc with rfl | rfl | rfl | rfl <;> rfl
    rw [e]; exact Ev.now _
  · simp only [if_neg c]
    have hc : ¬ (m = 4 ∨ m = 6 ∨ m = 9 ∨ m = 11) := fun h0 => c (hb.2 h0)
    by_cases c2 : m = 2
    · simp only [if_pos c2, rleap_f h, Option.bind_some]
      cases leap y
      · simp only [Bool.false_eq_true, if_false]; exact Ev.now _
      · simp only [if_true]; exact Ev.now _
    · simp only [if_neg c2]
      rw [if_neg (fun h0 => hc (Or.inl h0)), if_neg (fun h0 => hc (Or.inr (Or.inl h0))), if_neg (fun h0 => hc (Or.inr (Or.inr (Or.inl h0)))), if_neg (fun h0 => hc (Or.inr (Or.inr (Or.inr h0))))]
      exact Ev.now _
theorem rlen_e {y : Int} (h : 0 ≤ y) (m : Int) : Ev (fun k => tenorref5_length.f k y m) (lenD y m) := by
  unfold tenorref5_length.f
  by_cases c1 : m = 4
  · simp only [if_pos c1]; exact rlen_j h m _ (by rw [beq_iff_eq]; omega)
  · simp only [if_neg c1]
    by_cases c2 : m = 6
    · simp only [if_pos c2]; exact rlen_j h m _ (by rw [beq_iff_eq]; omega)
    · simp only [if_neg c2]
      by_cases c3 : m = 9
      · simp only [if_pos c3]; exact rlen_j h m _ (by rw [beq_iff_eq]; omega)
      · simp only [if_neg c3]; exact rlen_j h m _ (by rw [beq_iff_eq]; omega)
theorem rciv1 {y r0 : Int} (hy : 0 ≤ y) (h0 : 0 ≤ r0) (h1 : r0 < cum y 12) : ∀ j i : Nat, i + j = 11 → cum y i ≤ r0 → ∃ (m : Nat) (d : Int), Ev (fun k => tenorref5_Civil.l1 k (r0 - cum y i) y ((i : Int) + 1)) (y, (m : Int) + 1, d, 0) ∧ m ≤ 11 ∧ 1 ≤ d ∧ d ≤ lenD y ((m : Int) + 1) ∧ cum y m + (d - 1) = r0
  | j, i, hj, hc => by
    have hb := cum_bd y i
    have hb2 := cum_bd y 12
    have hl := len_bd y ((i : Int) + 1)
    have hn := cum_next y i
    by_cases hs : r0 - cum y i ≥ lenD y ((i : Int) + 1)
    · cases j with
      | zero =>
        obtain rfl : i = 11 := by omega
        have : cum y 12 = cum y 11 + lenD y (((11 : Nat) : Int) + 1) := cum_next y 11
        omega
      | succ j =>
        obtain ⟨m, d, hk, rest⟩ := rciv1 hy h0 h1 j (i + 1) (by omega) (by omega)
        refine ⟨m, d, ?_, rest⟩
        refine Ev.step (fun k => rfl) ?_
        simp only [tenorref5_Civil.l1]
        refine Ev.bind (rlen_e hy _) ?_
        simp only [if_pos hs]
        refine Ev.bind (rlen_e hy _) ?_
        simp only [w64 (i := r0 - cum y i - lenD y ((i : Int) + 1)) (by omega) (by omega), w64 (i := (i : Int) + 1 + 1) (by omega) (by omega)]
        rw [show r0 - cum y i - lenD y ((i : Int) + 1) = r0 - cum y (i + 1) by omega]
        exact hk
    · refine ⟨i, r0 - cum y i + 1, ?_, by omega, by omega, by omega, by omega⟩
      refine Ev.step (fun k => rfl) ?_
      simp only [tenorref5_Civil.l1]
      refine Ev.bind (rlen_e hy _) ?_
      simp only [if_neg hs, w64 (i := r0 - cum y i + 1) (by omega) (by omega)]
      exact Ev.now _
theorem rciv0 {n : Int} (h0 : 0 ≤ n) (h1 : n ≤ 109572) : ∀ (j : Nat) (y : Int), y + j = 2199 → 1900 ≤ y → bef y ≤ n → ∃ (Y : Int) (m : Nat) (d : Int), Ev (fun k => tenorref5_Civil.l0 k (n - bef y) y) (Y, (m : Int) + 1, d, 0) ∧ Civ n Y m d
  | j, y, hj, hy, hb => by
    have hn := bef_next hy (show y ≤ 2300 by omega)
    have hbb : 0 ≤ bef y := by unfold bef; omega
    have h12 := cum12 y
    by_cases hs : bef (y + 1) ≤ n
    · cases j with
      | zero =>
        have : y = 2199 := by omega
        subst this
        have : bef (2199 + 1) = 109573 := by decide
        omega
      | succ j =>
        obtain ⟨Y, m, d, hk, rest⟩ := rciv0 h0 h1 j (y + 1) (by omega) (by omega) hs
        refine ⟨Y, m, d, ?_, rest⟩
        refine Ev.step (fun k => rfl) ?_
        simp only [tenorref5_Civil.l0, rleap_f (show 0 ≤ y by omega), Option.bind_some]
        cases hl : leap y
        · rw [hl, if_neg (by decide)] at h12
          simp only [Bool.false_eq_true, if_false, if_neg (show ¬ n - bef y < 365 by omega), w64 (i := n - bef y - 365) (by omega) (by omega), w64 (i := y + 1) (by omega) (by omega)]
          rw [show n - bef y - 365 = n - bef (y + 1) by omega]; exact hk
        · rw [hl, if_pos rfl] at h12
          simp only [if_true, if_neg (show ¬ n - bef y < 366 by omega), w64 (i := n - bef y - 366) (by omega) (by omega), w64 (i := y + 1) (by omega) (by omega)]
          rw [show n - bef y - 366 = n - bef (y + 1) by omega]; exact hk
    · obtain ⟨m, d, hk, hm, hd1, hd2, hsum⟩ := rciv1 (y := y) (r0 := n - bef y) (by omega) (by omega) (by omega) 11 0 (by omega) (by show (0 : Int) ≤ _; omega)
      refine ⟨y, m, d, ?_, hy, by omega, hm, hd1, hd2, by omega⟩
      have e0 : n - bef y - cum y 0 = n - bef y := by show n - bef y - 0 = _; omega
      rw [e0] at hk
      have hj2 : Ev (fun k => tenorref5_Civil.j2 k (n - bef y) y) (y, (m : Int) + 1, d, 0) := by
        refine Ev.step (fun k => rfl) ?_
        simp only [tenorref5_Civil.j2]
        exact hk
      refine Ev.step (fun k => rfl) ?_
      simp only [tenorref5_Civil.l0, rleap_f (show 0 ≤ y by omega), Option.bind_some]
      cases hl : leap y
      · rw [hl, if_neg (by decide)] at h12
        simp only [Bool.false_eq_true, if_false, if_pos (show n - bef y < 365 by omega)]; exact hj2
      · rw [hl, if_pos rfl] at h12
        simp only [if_true, if_pos (show n - bef y < 366 by omega)]; exact hj2
theorem rcivil_e {n : Int} (h0 : 0 ≤ n) (h1 : n ≤ 109572) : ∃ (Y : Int) (m : Nat) (d : Int), Civ n Y m d ∧ Ev (fun k => tenorref5_Civil.f k n) (Y, (m : Int) + 1, d, 0) := by
  obtain ⟨Y, m, d, hk, hc⟩ := rciv0 h0 h1 299 1900 (by decide) (by decide) (by show (365 * (1900 - 1900) + ((1900 - 1) / 4 - (1900 - 1) / 100 + (1900 - 1) / 400) - 460 : Int) ≤ n; omega)
  refine ⟨Y, m, d, hc, ?_⟩
  unfold tenorref5_Civil.f
  simp only [if_neg (show ¬ n < 0 by omega), decide_eq_false (show ¬ n > 109572 by omega)]
  refine Ev.step (fun k => rfl) ?_
  simp only [tenorref5_Civil.j0, Bool.false_eq_true, if_false]
  have e : n - bef 1900 = n := by show n - (365 * (1900 - 1900) + ((1900 - 1) / 4 - (1900 - 1) / 100 + (1900 - 1) / 400) - 460) = n; omega
  rw [e] at hk
  exact hk
theorem rcivil_bad {n : Int} (h : n < 0 ∨ n > 109572) : Ev (fun k => tenorref5_Civil.f k n) (0, 0, 0, 51) := by
  have hj : Ev (fun k => tenorref5_Civil.j0 k n true) (0, 0, 0, 51) := by
    refine Ev.step (fun k => rfl) ?_
    simp only [tenorref5_Civil.j0, if_true]
    exact Ev.now _
  unfold tenorref5_Civil.f
  by_cases c : n < 0
  · simp only [if_pos c]; exact hj
  · simp only [if_neg c, decide_eq_true (show n > 109572 by omega)]; exact hj
/-- a date's day, counted. -/
theorem of1 {y acc : Int} (hy : 0 ≤ y) (ha : 0 ≤ acc ∧ acc ≤ 1000000) {m : Nat} (hm : m ≤ 11) : ∀ j i : Nat, i + j = m → Ev (fun k => tenorref5_Of.l1 k y ((m : Int) + 1) (acc + cum y i) ((i : Int) + 1)) (acc + cum y m, 0)
  | 0, i, h => by
    refine Ev.step (fun k => rfl) ?_
    simp only [tenorref5_Of.l1, if_neg (show ¬ (i : Int) + 1 < (m : Int) + 1 by omega)]
    rw [show i = m by omega]; exact Ev.now _
  | j + 1, i, h => by
    have hb := cum_bd y i
    have hl := len_bd y ((i : Int) + 1)
    have hn := cum_next y i
    refine Ev.step (fun k => rfl) ?_
    simp only [tenorref5_Of.l1, if_pos (show (i : Int) + 1 < (m : Int) + 1 by omega)]
    refine Ev.bind (rlen_e hy _) ?_
    simp only [w64 (i := acc + cum y i + lenD y ((i : Int) + 1)) (by omega) (by omega), w64 (i := (i : Int) + 1 + 1) (by omega) (by omega)]
    rw [show acc + cum y i + lenD y ((i : Int) + 1) = acc + cum y (i + 1) by omega]
    exact of1 hy ha hm j (i + 1) (by omega)
theorem of0 {y d0 : Int} (hy1 : 1900 ≤ y) (hy2 : y ≤ 2199) (hd : 0 ≤ d0 ∧ d0 ≤ 30) {m : Nat} (hm : m ≤ 11) : ∀ (j : Nat) (z : Int), z + j = y → 1900 ≤ z → Ev (fun k => tenorref5_Of.l0 k y ((m : Int) + 1) (d0 + bef z) z) (d0 + bef y + cum y m, 0)
  | 0, z, h, hz => by
    have hbb : 0 ≤ bef y ∧ bef y ≤ 900000 := by unfold bef; omega
    obtain rfl : z = y := by omega
    refine Ev.step (fun k => rfl) ?_
    simp only [tenorref5_Of.l0, if_neg (show ¬ z < z by omega)]
    have := of1 (y := z) (acc := d0 + bef z) (by omega) (by omega) hm m 0 (by omega)
    rw [show d0 + bef z + cum z 0 = d0 + bef z by show d0 + bef z + 0 = _; omega] at this
    exact this
  | j + 1, z, h, hz => by
    have hn := bef_next hz (show z ≤ 2300 by omega)
    have hbb : 0 ≤ bef z ∧ bef z ≤ 900000 := by unfold bef; omega
    have h12 := cum12 z
    have ih := of0 hy1 hy2 hd hm j (z + 1) (by omega) (by omega)
    refine Ev.step (fun k => rfl) ?_
    simp only [tenorref5_Of.l0, if_pos (show z < y by omega), rleap_f (show 0 ≤ z by omega), Option.bind_some]
    cases hl : leap z
    · rw [hl, if_neg (by decide)] at h12
      simp only [Bool.false_eq_true, if_false, w64 (i := d0 + bef z + 365) (by omega) (by omega), w64 (i := z + 1) (by omega) (by omega)]
      rw [show d0 + bef z + 365 = d0 + bef (z + 1) by omega]; exact ih
    · rw [hl, if_pos rfl] at h12
      simp only [if_true, w64 (i := d0 + bef z + 365) (by omega) (by omega), w64 (i := d0 + bef z + 365 + 1) (by omega) (by omega), w64 (i := z + 1) (by omega) (by omega)]
      rw [show d0 + bef z + 365 + 1 = d0 + bef (z + 1) by omega]; exact ih
theorem rof_e {Y : Int} {m : Nat} {d : Int} (h1 : 1900 ≤ Y) (h2 : Y ≤ 2199) (hm : m ≤ 11) (hd1 : 1 ≤ d) (hd2 : d ≤ lenD Y ((m : Int) + 1)) : Ev (fun k => tenorref5_Of.f k Y ((m : Int) + 1) d) (bef Y + cum Y m + (d - 1), 0) := by
  have hl := len_bd Y ((m : Int) + 1)
  unfold tenorref5_Of.f
  have hL : Ev (fun k => tenorref5_Length.f k Y ((m : Int) + 1)) (lenD Y ((m : Int) + 1), 0) := by
    unfold tenorref5_Length.f
    simp only [if_neg (show ¬ Y < 1900 by omega), if_neg (show ¬ Y > 2199 by omega), if_neg (show ¬ (m : Int) + 1 < 1 by omega), if_neg (show ¬ (m : Int) + 1 > 12 by omega)]
    exact Ev.bind (rlen_e (by omega) _) (Ev.now _)
  refine Ev.bind hL ?_
  simp only [if_true, if_neg (show ¬ d < 1 by omega), decide_eq_false (show ¬ d > lenD Y ((m : Int) + 1) by omega)]
  refine Ev.step (fun k => rfl) ?_
  simp only [tenorref5_Of.j0, Bool.false_eq_true, if_false, w64 (i := d - 1) (by omega) (by omega)]
  obtain ⟨j, hj⟩ : ∃ j : Nat, (1900 : Int) + j = Y := ⟨(Y - 1900).toNat, by omega⟩
  have := of0 (y := Y) (d0 := d - 1) h1 h2 (by omega) hm j 1900 hj (by decide)
  have e : d - 1 + bef 1900 = d - 1 := by show d - 1 + (365 * (1900 - 1900) + ((1900 - 1) / 4 - (1900 - 1) / 100 + (1900 - 1) / 400) - 460) = _; omega
  rw [e] at this
  rw [show bef Y + cum Y m + (d - 1) = d - 1 + bef Y + cum Y m by omega]
  exact this
/-! ### months on -/
theorem months_e (n q : Int) (hq : -9223372036854775808 ≤ q ∧ q < 9223372036854775808) : ∃ r : Int × Int, Ev (fun k => date_Months.f k n q false) r ∧ Ev (fun k => tenorref5_Months.f k n q false) r := by
  have bad : Ev (fun k => date_Months.j0 k n q false true) (0, 51) := by
    refine Ev.step (fun k => rfl) ?_
    simp only [date_Months.j0, if_true]
    exact Ev.now _
  by_cases hn : n < 0 ∨ n > 109572
  · refine ⟨(0, 51), ?_, ?_⟩
    · unfold date_Months.f date_is.f
      by_cases c : n ≥ 0
      · simp only [if_pos c, Option.bind_some, decide_eq_false (show ¬ n ≤ 109572 by omega), Bool.false_eq_true, if_false]; exact bad
      · simp only [if_neg c, Option.bind_some, Bool.false_eq_true, if_false]; exact bad
    · unfold tenorref5_Months.f
      refine Ev.bind (rcivil_bad hn) ?_
      simp only [if_neg (show ¬ (51 : Int) = 0 by decide)]
      exact Ev.now _
  · obtain ⟨Y, m, d, hc, hP⟩ := civil_e (n := n) (by omega) (by omega)
    obtain ⟨Y', m', d', hc', hR⟩ := rcivil_e (n := n) (by omega) (by omega)
    obtain ⟨rfl, rfl, rfl⟩ := civ_uniq hc' hc
    have y1 := hc.y1
    have y2 := hc.y2
    have m1 := hc.m1
    have d1 := hc.d1
    have d2 := hc.d2
    have hlb := len_bd Y' ((m' : Int) + 1)
    have his : date_is.f n = some true := by unfold date_is.f; rw [if_pos (by omega), decide_eq_true (by omega)]
    by_cases hk : q < -4000 ∨ q > 4000
    · refine ⟨(0, 51), ?_, ?_⟩
      · unfold date_Months.f
        simp only [his, Option.bind_some, if_true]
        by_cases c : q < -4000
        · simp only [if_pos c]; exact bad
        · simp only [if_neg c, decide_eq_true (show q > 4000 by omega)]; exact bad
      · have hM : Ev (fun k => tenorref5_Month.f k Y' ((m' : Int) + 1) d' q) (0, 0, false) := by
          have hj : Ev (fun k => tenorref5_Month.j0 k q true Y' ((m' : Int) + 1) d') (0, 0, false) := by
            refine Ev.step (fun k => rfl) ?_
            simp only [tenorref5_Month.j0, if_true]
            exact Ev.now _
          unfold tenorref5_Month.f
          by_cases c : q < -4000
          · simp only [if_pos c]; exact hj
          · simp only [if_neg c, decide_eq_true (show q > 4000 by omega)]; exact hj
        unfold tenorref5_Months.f
        refine Ev.bind hR ?_
        simp only [if_true]
        refine Ev.bind hM ?_
        simp only [Bool.false_eq_true, if_false]
        exact Ev.now _
    · obtain ⟨A, hA⟩ : ∃ A : Int, 12 * Y' + m' + q = A := ⟨_, rfl⟩
      have t1 : wrap64 (wrap64 (wrap64 (wrap64 (12 * Y') + ((m' : Int) + 1)) - 1) + q) = A := by
        rw [w64 (i := 12 * Y') (by omega) (by omega), w64 (i := 12 * Y' + ((m' : Int) + 1)) (by omega) (by omega), w64 (i := 12 * Y' + ((m' : Int) + 1) - 1) (by omega) (by omega), w64 (by omega) (by omega)]; omega
      have t2 : wrap64 (Int.tdiv A 12) = A / 12 := by
        rw [Int.tdiv_eq_ediv_of_nonneg (by omega), w64 (by omega) (by omega)]
      obtain ⟨p, hp⟩ : ∃ p : Nat, A % 12 = (p : Int) := ⟨(A % 12).toNat, by omega⟩
      have t3 : wrap64 (Int.tmod A 12 + 1) = (p : Int) + 1 := by
        rw [Int.tmod_eq_emod_of_nonneg (by omega), w64 (by omega) (by omega), hp]
      have hlen2 : date_length.f Y' ((m' : Int) + 1) = some (lenD Y' ((m' : Int) + 1)) := len_f (by omega) _
      have hlen3 : date_length.f (A / 12) ((p : Int) + 1) = some (lenD (A / 12) ((p : Int) + 1)) := len_f (by omega) _
      have hpb := len_bd (A / 12) ((p : Int) + 1)
      have hMj : ∀ r, (if A < 22800 then r = (0, 0, false) else if A > 26399 then r = (0, 0, false) else r = (A / 12, (p : Int) + 1, true)) → Ev (fun k => tenorref5_Month.f k Y' ((m' : Int) + 1) d' q) r := by
        intro r hr
        unfold tenorref5_Month.f
        simp only [if_neg (show ¬ q < -4000 by omega), decide_eq_false (show ¬ q > 4000 by omega)]
        refine Ev.step (fun k => rfl) ?_
        simp only [tenorref5_Month.j0, Bool.false_eq_true, if_false, t1, t2, t3]
        by_cases c1 : A < 22800
        · rw [if_pos c1] at hr; subst hr
          simp only [if_pos c1]; exact Ev.now _
        · rw [if_neg c1] at hr
          by_cases c2 : A > 26399
          · rw [if_pos c2] at hr; subst hr
            simp only [if_neg c1, if_pos c2]; exact Ev.now _
          · rw [if_neg c2] at hr; subst hr
            simp only [if_neg c1, if_neg c2]; exact Ev.now _
      have hpj : ∀ r, Ev (fun k => date_Months.j0 k n q false false) r → Ev (fun k => date_Months.f k n q false) r := by
        intro r hr
        unfold date_Months.f
        simp only [his, Option.bind_some, if_true, if_neg (show ¬ q < -4000 by omega), decide_eq_false (show ¬ q > 4000 by omega)]
        exact hr
      by_cases hin : 22800 ≤ A ∧ A ≤ 26399
      · have hmon : date_month.f (A / 12) ((p : Int) + 1) = some true := by
          unfold date_month.f
          rw [if_pos (by omega), if_pos (by omega), if_pos (by omega), decide_eq_true (by omega)]
        obtain ⟨D, hD⟩ : ∃ D : Int, (if d' > lenD (A / 12) ((p : Int) + 1) then lenD (A / 12) ((p : Int) + 1) else d') = D := ⟨_, rfl⟩
        have hD1 : 1 ≤ D ∧ D ≤ lenD (A / 12) ((p : Int) + 1) := by rw [← hD]; split <;> omega
        refine ⟨(bef (A / 12) + cum (A / 12) p + (D - 1), 0), hpj _ ?_, ?_⟩
        · refine Ev.step (fun k => rfl) ?_
          simp only [date_Months.j0, Bool.false_eq_true, if_false]
          refine Ev.bind hP ?_
          simp only [t1, t2, t3, hmon, hlen2, hlen3, Option.bind_some, if_true]
          have hday := day_e (Y := A / 12) (m := p) (d := D) (by omega) (by omega) (by omega) hD1.1 (by omega)
          by_cases c : d' > lenD (A / 12) ((p : Int) + 1)
          · rw [if_pos c] at hD
            simp only [if_pos c]
            rw [← hD] at hday ⊢
            exact Ev.bind hday (Ev.now _)
          · rw [if_neg c] at hD
            simp only [if_neg c]
            rw [← hD] at hday ⊢
            exact Ev.bind hday (Ev.now _)
        · have hM := hMj (A / 12, (p : Int) + 1, true) (by rw [if_neg (by omega), if_neg (by omega)])
          unfold tenorref5_Months.f
          refine Ev.bind hR ?_
          simp only [if_true]
          refine Ev.bind hM ?_
          simp only [if_true]
          refine Ev.bind (rlen_e (by omega) _) ?_
          simp only [Bool.false_eq_true, if_false]
          have e : mn d' (lenD (A / 12) ((p : Int) + 1)) = D := by rw [← hD]; unfold mn; (repeat' split) <;> omega
          rw [e]
          refine Ev.step (fun k => rfl) ?_
          simp only [tenorref5_Months.j0, Bool.false_eq_true, if_false]
          exact Ev.bind (rof_e (by omega) (by omega) (by omega) hD1.1 hD1.2) (Ev.now _)
      · have hmon : date_month.f (A / 12) ((p : Int) + 1) = some false := by
          unfold date_month.f
          by_cases c1 : A / 12 ≥ 1900
          · rw [if_pos c1, if_neg (by omega)]
          · rw [if_neg c1]
        refine ⟨(0, 51), hpj _ ?_, ?_⟩
        · refine Ev.step (fun k => rfl) ?_
          simp only [date_Months.j0, Bool.false_eq_true, if_false]
          refine Ev.bind hP ?_
          simp only [t1, t2, t3, hmon, hlen2, Option.bind_some, Bool.false_eq_true, if_false]
          exact Ev.now _
        · have hM := hMj (0, 0, false) (by
            by_cases c1 : A < 22800
            · rw [if_pos c1]
            · rw [if_neg c1, if_pos (by omega)])
          unfold tenorref5_Months.f
          refine Ev.bind hR ?_
          simp only [if_true]
          refine Ev.bind hM ?_
          simp only [Bool.false_eq_true, if_false]
          exact Ev.now _
end Go.Proofs.YtepcegiciecogaaGreat.FDa
