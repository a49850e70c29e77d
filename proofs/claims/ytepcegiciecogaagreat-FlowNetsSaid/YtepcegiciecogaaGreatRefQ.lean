/- The reference's numbers: Of, Plus, Times, NearOver, told as whole numbers with an exponent. No Go and no memory here. -/
import Derived.Test.YtepcegiciecogaaGreatRefP
namespace Go.Proofs.YtepcegiciecogaaGreat.FR
open Go.RowKit Go.Proofs.YtepcegiciecogaaGreatW.PrintWords Go.Proofs.YtepcegiciecogaaGreatW.PrintLast Go.Proofs.YtepcegiciecogaaGreatW.PrintMore Tn

theorem len_shift (v n : Nat) : (dg (v * 2 ^ n)).length ≤ (dg v).length + n / 32 + 1 := by
  apply len_dg_le
  have h := dg_lt v
  have h1 : v * 2 ^ n < 2 ^ (32 * (dg v).length) * 2 ^ n := Nat.mul_lt_mul_of_pos_right h (Nat.two_pow_pos _)
  rw [← Nat.pow_add] at h1
  exact Nat.lt_of_lt_of_le h1 (pow_le (by omega))
theorem len_zero {v : Nat} : ((dg v).length = 0) ↔ v = 0 := by
  constructor
  · intro h
    rcases Nat.eq_zero_or_pos v with h0 | h0
    · exact h0
    · rw [dg_pos (by omega)] at h; simp at h
  · rintro rfl; rw [dg_zero]; rfl
theorem zero_at (s : Bool) (v : Nat) (e : Int) : tenorref1_Zero.f s (dg v) e = some (decide (v = 0)) := by
  unfold tenorref1_Zero.f
  congr 1
  rw [Bool.eq_iff_iff, beq_iff_eq, decide_eq_true_iff, ← len_zero (v := v)]; omega
/-! ### Of -/
def ofS (a : Nat) : Bool := decide (mag a ≠ 0) && sgn a
def ofV (a : Nat) : Nat := dm (mag a)
def ofE (a : Nat) : Int := if mag a = 0 then 0 else dp (mag a)
theorem and_2047 {x : Nat} (hx : x < 18446744073709551616) : Go.bits .and .u64 (x : Int) 2047 = ((x % 2048 : Nat) : Int) := by
  have := and_low (x := x) (r := 11) hx (by decide)
  exact this
theorem dm_zero {r : Nat} : dm r = 0 ↔ r = 0 := by unfold dm; split <;> omega
theorem of_ev {a : Nat} (h : a < 18446744073709551616) : Ev (fun k => tenorref1_Of.f k (a : Int)) (ofS a, dg (ofV a), ofE a) := by
  have hm := mag_lt a
  have q1 : (a : Int) / 4503599627370496 = ((a / 4503599627370496 : Nat) : Int) := rfl
  have q2 : wrap64 (Go.bits .and .u64 ((a : Int) / 4503599627370496) 2047) = ((mag a / 4503599627370496 : Nat) : Int) := by
    rw [q1, and_2047 (by omega), wrap_nat (by omega)]
    congr 1
    unfold mag; omega
  have q3 : Go.bits .and .u64 (a : Int) 4503599627370495 = ((mag a % 4503599627370496 : Nat) : Int) := by
    rw [and_mant a h]; congr 1; unfold mag; omega
  have hs : decide (9223372036854775808 ≤ (a : Int)) = sgn a := sgn_int a
  have hl : mag a % 4503599627370496 < 4503599627370496 := Nat.mod_lt _ (by decide)
  unfold tenorref1_Of.f
  simp only [q2, q3, hs]
  by_cases c : ((mag a / 4503599627370496 : Nat) : Int) > 0
  · have hge : 4503599627370496 ≤ mag a := by omega
    have e1 : IntKind.u64.wrap (((mag a % 4503599627370496 : Nat) : Int) + 4503599627370496) = ((ofV a : Nat) : Int) := by
      unfold ofV dm
      rw [if_neg (by omega), wrapu_id (by omega) (by omega)]; omega
    have e2 : wrap64 (((mag a / 4503599627370496 : Nat) : Int) - 1075) = ofE a := by
      unfold ofE dp
      rw [if_neg (by omega), if_neg (by omega), wrap_id (by omega) (by omega)]
    have e3 : ofS a = sgn a := by unfold ofS; rw [decide_eq_true (by omega), Bool.true_and]
    have hv : ofV a ≠ 0 := fun h0 => by have := dm_zero.1 h0; omega
    have hv2 : ofV a < 18446744073709551616 := by unfold ofV dm; split <;> omega
    simp only [if_pos c, e1, e2, e3, if_neg (show ¬ ((ofV a : Nat) : Int) = 0 by omega)]
    exact Ev.bind (digits_ev hv2) (Ev.now _)
  · have hlt : mag a < 4503599627370496 := by omega
    simp only [if_neg c]
    have e1 : mag a % 4503599627370496 = ofV a := by unfold ofV dm; rw [if_pos hlt]; omega
    rw [e1]
    by_cases c0 : mag a = 0
    · have h0 : ofV a = 0 := dm_zero.2 c0
      simp only [h0, if_pos (show ((0 : Nat) : Int) = 0 from rfl)]
      have e2 : ofE a = 0 := by unfold ofE; rw [if_pos c0]
      have e3 : ofS a = false := by unfold ofS; rw [decide_eq_false (by omega), Bool.false_and]
      rw [e2, e3, dg_zero]; exact Ev.now _
    · have hv : ofV a ≠ 0 := fun h0 => c0 (dm_zero.1 h0)
      have hv2 : ofV a < 18446744073709551616 := by unfold ofV dm; split <;> omega
      have e2 : ofE a = -1074 := by unfold ofE dp; rw [if_neg c0, if_pos hlt]
      have e3 : ofS a = sgn a := by unfold ofS; rw [decide_eq_true (by omega), Bool.true_and]
      simp only [if_neg (show ¬ ((ofV a : Nat) : Int) = 0 by omega), e2, e3]
      exact Ev.bind (digits_ev hv2) (Ev.now _)
theorem ofE_bd {a : Nat} (hf : fin a = true) : -1074 ≤ ofE a ∧ ofE a ≤ 971 := by
  unfold fin at hf
  have := of_decide_eq_true hf
  unfold ofE dp
  split
  · omega
  · split <;> omega
theorem ofV_len (a : Nat) : (dg (ofV a)).length ≤ 2 := len_dg_le (by unfold ofV dm; split <;> omega)
/-! ### a sum -/
def bothN (v1 : Nat) (e1 : Int) (v2 : Nat) (e2 : Int) : Int := if v1 = 0 then e2 else if v2 = 0 then e1 else min e1 e2
def lowN (v : Nat) (e E : Int) : Nat := v * 2 ^ (e - E).toNat
def plusA (v1 : Nat) (e1 : Int) (v2 : Nat) (e2 : Int) : Nat := lowN v1 e1 (bothN v1 e1 v2 e2)
def plusB (v1 : Nat) (e1 : Int) (v2 : Nat) (e2 : Int) : Nat := lowN v2 e2 (bothN v1 e1 v2 e2)
def plusN (s1 : Bool) (v1 : Nat) (e1 : Int) (s2 : Bool) (v2 : Nat) (e2 : Int) : Bool × Nat × Int :=
  if s1 = s2 ∨ plusA v1 e1 v2 e2 = 0 ∨ plusB v1 e1 v2 e2 = 0 then
    ((if plusA v1 e1 v2 e2 = 0 then s2 else s1) && decide (plusA v1 e1 v2 e2 + plusB v1 e1 v2 e2 ≠ 0), plusA v1 e1 v2 e2 + plusB v1 e1 v2 e2, bothN v1 e1 v2 e2)
  else if plusA v1 e1 v2 e2 = plusB v1 e1 v2 e2 then (false, 0, 0)
  else if plusB v1 e1 v2 e2 < plusA v1 e1 v2 e2 then (s1, plusA v1 e1 v2 e2 - plusB v1 e1 v2 e2, bothN v1 e1 v2 e2)
  else (s2, plusB v1 e1 v2 e2 - plusA v1 e1 v2 e2, bothN v1 e1 v2 e2)
theorem both_at (s1 : Bool) (v1 : Nat) (e1 : Int) (s2 : Bool) (v2 : Nat) (e2 : Int) : tenorref1_both.f s1 (dg v1) e1 s2 (dg v2) e2 = some (bothN v1 e1 v2 e2) := by
  unfold tenorref1_both.f bothN
  rw [zero_at, zero_at]
  simp only [Option.bind_some, decide_eq_true_iff]
  split
  · rfl
  · split
    · rfl
    · unfold mn; congr 1; split <;> omega
theorem low_ev {s : Bool} {v : Nat} {e E : Int} (hl : (dg v).length < 33554432) (h : v = 0 ∨ (0 ≤ e - E ∧ e - E < 33554432)) : Ev (fun k => tenorref1_low.f k s (dg v) e E) (dg (lowN v e E)) := by
  unfold tenorref1_low.f
  rw [zero_at]
  simp only [Option.bind_some, decide_eq_true_iff]
  by_cases c : v = 0
  · simp only [if_pos c]
    unfold lowN; rw [c, Nat.zero_mul, dg_zero]; exact Ev.now _
  · simp only [if_neg c]
    obtain ⟨h1, h2⟩ := h.resolve_left c
    have e1 : wrap64 (e - E) = (((e - E).toNat : Nat) : Int) := by rw [wrap_id (by omega) (by omega)]; omega
    rw [e1]
    exact Ev.bind (shiftUp_ev (by omega) (by omega)) (Ev.now _)
theorem lowN_len {v : Nat} {e E : Int} (hl : (dg v).length < 33554432) (h : v = 0 ∨ (0 ≤ e - E ∧ e - E < 33554432)) : (dg (lowN v e E)).length < 67108864 := by
  unfold lowN
  rcases h with h | h
  · rw [h, Nat.zero_mul, dg_zero]; decide
  · have := len_shift v (e - E).toNat; omega
theorem plus_ev {s1 : Bool} {v1 : Nat} {e1 : Int} {s2 : Bool} {v2 : Nat} {e2 : Int} (hl1 : (dg v1).length < 33554432) (hl2 : (dg v2).length < 33554432)
    (hb1 : -16000000 ≤ e1 ∧ e1 ≤ 16000000) (hb2 : -16000000 ≤ e2 ∧ e2 ≤ 16000000) :
    Ev (fun k => tenorref1_Plus.f k s1 (dg v1) e1 s2 (dg v2) e2) ((plusN s1 v1 e1 s2 v2 e2).1, dg (plusN s1 v1 e1 s2 v2 e2).2.1, (plusN s1 v1 e1 s2 v2 e2).2.2) := by
  have h1 : v1 = 0 ∨ (0 ≤ e1 - bothN v1 e1 v2 e2 ∧ e1 - bothN v1 e1 v2 e2 < 33554432) := by
    by_cases c : v1 = 0
    · exact Or.inl c
    · right; unfold bothN; (repeat' split) <;> omega
  have h2 : v2 = 0 ∨ (0 ≤ e2 - bothN v1 e1 v2 e2 ∧ e2 - bothN v1 e1 v2 e2 < 33554432) := by
    by_cases c : v2 = 0
    · exact Or.inl c
    · right; unfold bothN; (repeat' split) <;> omega
  have la := lowN_len hl1 h1
  have lb := lowN_len hl2 h2
  unfold tenorref1_Plus.f
  rw [both_at]
  simp only [Option.bind_some]
  refine Ev.bind (low_ev hl1 h1) ?_
  refine Ev.bind (low_ev hl2 h2) ?_
  have eA : lowN v1 e1 (bothN v1 e1 v2 e2) = plusA v1 e1 v2 e2 := rfl
  have eB : lowN v2 e2 (bothN v1 e1 v2 e2) = plusB v1 e1 v2 e2 := rfl
  rw [eA] at la ⊢
  rw [eB] at lb ⊢
  unfold plusN
  generalize plusA v1 e1 v2 e2 = A at *
  generalize plusB v1 e1 v2 e2 = B at *
  generalize bothN v1 e1 v2 e2 = E at *
  have zA : (((dg A).length : Int) = 0) ↔ A = 0 := by rw [← len_zero (v := A)]; omega
  have zB : (((dg B).length : Int) == 0) = decide (B = 0) := by rw [Bool.eq_iff_iff, beq_iff_eq, decide_eq_true_iff, ← len_zero (v := B)]; omega
  have zS : decide ((wrap64 (((dg A).length : Int) + ((dg B).length : Int))) > 0) = decide (A + B ≠ 0) := by
    rw [wrap_add (by omega), Bool.eq_iff_iff, decide_eq_true_iff, decide_eq_true_iff]
    have := len_zero (v := A)
    have := len_zero (v := B)
    omega
  have jT : s1 = s2 ∨ A = 0 ∨ B = 0 → Ev (fun k => tenorref1_Plus.j0 k E (dg A) (dg B) true s1 (dg v1) e1 s2 (dg v2) e2) ((if A = 0 then s2 else s1) && decide (A + B ≠ 0), dg (A + B), E) := by
    intro _
    refine Ev.step (fun k => rfl) ?_
    simp only [tenorref1_Plus.j0, if_true, zA, zS]
    by_cases c : A = 0
    · simp only [if_pos c]
      cases s2
      · simp only [Bool.false_eq_true, if_false, Bool.false_and]
        exact Ev.bind (add_ev (by omega) (by omega)) (Ev.now _)
      · simp only [if_true, Bool.true_and]
        exact Ev.bind (add_ev (by omega) (by omega)) (Ev.now _)
    · simp only [if_neg c]
      cases s1
      · simp only [Bool.false_eq_true, if_false, Bool.false_and]
        exact Ev.bind (add_ev (by omega) (by omega)) (Ev.now _)
      · simp only [if_true, Bool.true_and]
        exact Ev.bind (add_ev (by omega) (by omega)) (Ev.now _)
  by_cases c1 : s1 = s2
  · simp only [if_pos (show (s1 == s2) = true from beq_iff_eq.2 c1), if_pos (show s1 = s2 ∨ A = 0 ∨ B = 0 from Or.inl c1)]
    exact jT (Or.inl c1)
  · simp only [if_neg (show ¬ (s1 == s2) = true from fun h => c1 (beq_iff_eq.1 h))]
    by_cases c2 : A = 0
    · simp only [if_pos (zA.2 c2), if_pos (show s1 = s2 ∨ A = 0 ∨ B = 0 from Or.inr (Or.inl c2))]
      exact jT (Or.inr (Or.inl c2))
    · simp only [if_neg (show ¬ ((dg A).length : Int) = 0 from fun h => c2 (zA.1 h)), zB]
      by_cases c3 : B = 0
      · simp only [decide_eq_true c3, if_pos (show s1 = s2 ∨ A = 0 ∨ B = 0 from Or.inr (Or.inr c3))]
        exact jT (Or.inr (Or.inr c3))
      · simp only [decide_eq_false c3, if_neg (show ¬ (s1 = s2 ∨ A = 0 ∨ B = 0) from fun h => h.elim c1 (fun h => h.elim c2 c3))]
        refine Ev.step (fun k => rfl) ?_
        simp only [tenorref1_Plus.j0, Bool.false_eq_true, if_false]
        refine Ev.bind (cmp_ev (by omega) (by omega)) ?_
        by_cases c4 : A = B
        · have h0 : cmpN A B = 0 := by unfold cmpN; rw [if_neg (by omega), if_neg (by omega)]
          simp only [h0, if_true, if_pos c4, dg_zero]
          exact Ev.now _
        · by_cases c5 : B < A
          · have h0 : cmpN A B = 1 := by unfold cmpN; rw [if_neg (by omega), if_pos c5]
            simp only [h0, if_neg (show ¬ (1 : Int) = 0 by decide), if_pos (show (1 : Int) > 0 by decide), if_neg c4, if_pos c5]
            exact Ev.bind (sub_ev (by omega) (by omega)) (Ev.now _)
          · have h0 : cmpN A B = -1 := by unfold cmpN; rw [if_pos (by omega)]
            simp only [h0, if_neg (show ¬ (-1 : Int) = 0 by decide), if_neg (show ¬ (-1 : Int) > 0 by decide), if_neg c4, if_neg c5]
            exact Ev.bind (sub_ev (by omega) (by omega)) (Ev.now _)
/-! ### what a sum is worth, in units -/
def sv (s : Bool) (v : Nat) : Int := if s = true then -(v : Int) else (v : Int)
/-- in units of 2^-2148. -/
def uv (s : Bool) (v : Nat) (e : Int) : Int := sv s v * 2 ^ (e + 2148).toNat
theorem sv_zero (s : Bool) : sv s 0 = 0 := by unfold sv; split <;> rfl
theorem uv_zero (s : Bool) (e : Int) : uv s 0 e = 0 := by unfold uv; rw [sv_zero, Int.zero_mul]
theorem sv_mul (s : Bool) (v n : Nat) : sv s (v * n) = sv s v * n := by
  unfold sv; split
  · rw [Int.natCast_mul, Int.neg_mul]
  · rw [Int.natCast_mul]
theorem uv_low {s : Bool} {v : Nat} {e E : Int} (h1 : -2148 ≤ E) (h2 : v = 0 ∨ E ≤ e) : uv s (lowN v e E) E = uv s v e := by
  rcases h2 with h2 | h2
  · unfold lowN; rw [h2, Nat.zero_mul, uv_zero, uv_zero]
  · unfold uv lowN
    rw [sv_mul, Int.mul_assoc]
    congr 1
    rw [show ((2 ^ (e - E).toNat : Nat) : Int) = (2 : Int) ^ (e - E).toNat by simp, ← Int.pow_add]
    congr 1; omega
theorem plusN_uv {s1 : Bool} {v1 : Nat} {e1 : Int} {s2 : Bool} {v2 : Nat} {e2 : Int} (h1 : -2148 ≤ e1) (h2 : -2148 ≤ e2) :
    uv (plusN s1 v1 e1 s2 v2 e2).1 (plusN s1 v1 e1 s2 v2 e2).2.1 (plusN s1 v1 e1 s2 v2 e2).2.2 = uv s1 v1 e1 + uv s2 v2 e2 := by
  have hE : -2148 ≤ bothN v1 e1 v2 e2 := by unfold bothN; (repeat' split) <;> omega
  have hA : uv s1 (plusA v1 e1 v2 e2) (bothN v1 e1 v2 e2) = uv s1 v1 e1 := uv_low hE (by
    by_cases c : v1 = 0
    · exact Or.inl c
    · right; unfold bothN; (repeat' split) <;> omega)
  have hB : uv s2 (plusB v1 e1 v2 e2) (bothN v1 e1 v2 e2) = uv s2 v2 e2 := uv_low hE (by
    by_cases c : v2 = 0
    · exact Or.inl c
    · right; unfold bothN; (repeat' split) <;> omega)
  rw [← hA, ← hB]
  unfold plusN
  generalize plusA v1 e1 v2 e2 = A
  generalize plusB v1 e1 v2 e2 = B
  generalize bothN v1 e1 v2 e2 = E
  unfold uv
  rw [← Int.add_mul]
  split
  · congr 1
    rename_i h
    unfold sv
    by_cases cA : A = 0
    · subst cA
      cases s1 <;> cases s2 <;> simp <;> (by_cases cB : B = 0 <;> simp [cB])
    · rw [if_neg cA, decide_eq_true (show A + B ≠ 0 by omega), Bool.and_true]
      rcases h with h | h | h
      · subst h
        cases s1 <;> simp <;> omega
      · exact absurd h cA
      · subst h
        cases s1 <;> cases s2 <;> simp
  · rename_i h
    have hne : s1 ≠ s2 := fun h0 => h (Or.inl h0)
    split
    · rename_i h3
      subst h3
      show sv false 0 * _ = _
      rw [sv_zero, Int.zero_mul]
      have : sv s1 A + sv s2 A = 0 := by unfold sv; cases s1 <;> cases s2 <;> simp at hne ⊢ <;> omega
      rw [this, Int.zero_mul]
    · split
      · congr 1
        unfold sv
        cases s1 <;> cases s2 <;> simp at hne ⊢ <;> omega
      · congr 1
        unfold sv
        cases s1 <;> cases s2 <;> simp at hne ⊢ <;> omega
theorem plusN_e {s1 : Bool} {v1 : Nat} {e1 : Int} {s2 : Bool} {v2 : Nat} {e2 : Int} {lo hi : Int} (h1 : lo ≤ e1 ∧ e1 ≤ hi) (h2 : lo ≤ e2 ∧ e2 ≤ hi) (h3 : lo ≤ 0 ∧ 0 ≤ hi) :
    lo ≤ (plusN s1 v1 e1 s2 v2 e2).2.2 ∧ (plusN s1 v1 e1 s2 v2 e2).2.2 ≤ hi := by
  have hE : lo ≤ bothN v1 e1 v2 e2 ∧ bothN v1 e1 v2 e2 ≤ hi := by unfold bothN; (repeat' split) <;> omega
  unfold plusN
  split
  · exact hE
  · split
    · exact h3
    · split <;> exact hE
theorem uv_abs (s : Bool) (v : Nat) (e : Int) : (uv s v e).natAbs = v * 2 ^ (e + 2148).toNat := by
  unfold uv sv
  rw [Int.natAbs_mul, Int.natAbs_pow]
  cases s <;> simp
theorem uv_neg {s : Bool} {v : Nat} {e : Int} (hv : v ≠ 0) : decide (uv s v e < 0) = s := by
  have hp : (0 : Int) < 2 ^ (e + 2148).toNat := Int.pow_pos (by decide)
  unfold uv sv
  cases s
  · rw [if_neg (by decide)]
    have := Int.mul_nonneg (show (0 : Int) ≤ (v : Int) by omega) (Int.le_of_lt hp)
    exact decide_eq_false (by omega)
  · rw [if_pos rfl]
    have := Int.mul_pos (show (0 : Int) < (v : Int) by omega) hp
    rw [Int.neg_mul]
    exact decide_eq_true (by omega)
theorem uv_of {a : Nat} (hf : fin a = true) : uv (ofS a) (ofV a) (ofE a) = units a := by
  unfold units spm spe
  rw [if_pos hf, if_pos hf]
  by_cases c : mag a = 0
  · have h0 : ofV a = 0 := dm_zero.2 c
    rw [h0, uv_zero, c, show dm 0 = 0 by decide, show (if sgn a = true then -((0 : Nat) : Int) else ((0 : Nat) : Int)) = 0 by split <;> rfl, Int.zero_mul]
  · have e3 : ofS a = sgn a := by unfold ofS; rw [decide_eq_true c, Bool.true_and]
    unfold uv sv ofE ofV
    rw [e3, if_neg c]
/-! ### what is nearest -/
/-- what is nearest of a number in units is what is nearest of it. -/
theorem near_uv {s : Bool} {v : Nat} {e : Int} (he : -2148 ≤ e) : (if v = 0 then 0 else sgR s + nr v e) = overV (uv s v e) false false 1 := by
  rw [overV_fin, Nat.div_one, Nat.mod_one, nearU_dbl, show dbl (uv s v e).natAbs (decide ((0 : Nat) ≠ 0)) = (uv s v e).natAbs * 2 ^ 1 by unfold dbl; simp; omega, nr_scale', uv_abs]
  by_cases c : v = 0
  · subst c
    rw [if_pos rfl, uv_zero, if_neg (by decide), Nat.zero_mul, nr_zero]
  · rw [if_neg c, nr_scale', show (-2149 + ((1 : Nat) : Int) + (((e + 2148).toNat : Nat) : Int)) = e by omega]
    have := uv_neg (s := s) (e := e) c
    unfold sgR
    cases s
    · rw [if_neg (by decide), if_neg (of_decide_eq_false this)]
    · rw [if_pos rfl, if_pos (of_decide_eq_true this)]
theorem nrM_dbl {q : Nat} {E : Int} {more : Bool} (h0 : q ≠ 0) (hb : 53 ≤ q.log2 ∨ E ≤ -1075) : nrM q E more = nr (dbl q more) (E - 1) := by
  have hl : lsbR q E 53 (-1074) = max (E + q.log2 - 52) (-1074) := by unfold lsbR; rw [bitLen_log h0]; omega
  have hlast : last (dbl q more) (E - 1) = lsbR q E 53 (-1074) := by
    unfold last; rw [log2_dbl h0, hl]; omega
  have hd : E + 1 ≤ lsbR q E 53 (-1074) := by rw [hl]; omega
  unfold nrM nr
  rw [if_neg (dbl_ne h0 _), hlast]
  congr 2
  generalize lsbR q E 53 (-1074) = L at *
  unfold rndR rnd
  rw [if_neg (by omega), if_neg (by omega)]
  have e1 : (-(E - 1 - L)).toNat = (-(E - L)).toNat + 1 := by omega
  rw [e1]
  cases more
  · rw [rneM_false (by omega), show dbl q false = q * 2 ^ 1 by unfold dbl; simp; omega, rne_scale]
  · rw [rneM_true (by omega)]; rfl
theorem log2_ge {q k : Nat} (h : 2 ^ k ≤ q) : k ≤ q.log2 := by
  have hp := Nat.two_pow_pos k
  exact (Nat.le_log2 (by omega)).2 h
theorem quot_ge {v n k K : Nat} (hn : n < 2 ^ bl n) (hk : bl n + K ≤ k + (bl v - 1)) (hv : v ≠ 0) (hn0 : 0 < n) : 2 ^ K ≤ v * 2 ^ k / n := by
  have h1 : 2 ^ (bl v - 1) ≤ v := by rw [bitLen_log hv, Nat.add_sub_cancel]; exact log2_lo hv
  rw [Nat.le_div_iff_mul_le hn0]
  have h2 : 2 ^ K * n ≤ 2 ^ K * 2 ^ bl n := Nat.mul_le_mul_left _ (Nat.le_of_lt hn)
  rw [← Nat.pow_add] at h2
  have h3 : 2 ^ (bl v - 1) * 2 ^ k ≤ v * 2 ^ k := Nat.mul_le_mul_right _ h1
  rw [← Nat.pow_add] at h3
  have h4 : 2 ^ (K + bl n) ≤ 2 ^ (bl v - 1 + k) := pow_le (by omega)
  omega
theorem kOf_val {v n : Nat} : mx 0 ((70 - (bl v : Int)) + (bl n : Int)) = (((70 + bl n) - bl v : Nat) : Int) := by
  unfold mx; split <;> omega
theorem nearOver_ev {s : Bool} {v : Nat} {e : Int} {n : Nat} (hl : (dg v).length < 1000000) (hn : 0 < n) (hln : (dg n).length < 1000000) (he : -16000000 ≤ e ∧ e ≤ 16000000) (s2 : Bool) :
    Ev (fun k => tenorref1_NearOver.f k s (dg v) e s2 (dg n) 0) ((if v = 0 then 0 else sgR s + nr (dbl (v * 2 ^ (70 + bl n - bl v) / n) (decide (v * 2 ^ (70 + bl n - bl v) % n ≠ 0))) (e - ((70 + bl n - bl v : Nat) : Int) - 1) : Nat) : Int) := by
  unfold tenorref1_NearOver.f
  rw [zero_at]
  simp only [Option.bind_some, decide_eq_true_iff]
  by_cases c : v = 0
  · simp only [if_pos c]; exact Ev.now _
  · simp only [if_neg c]
    have hbv : bl v ≤ 32 * (dg v).length := bl_le_of (dg_lt v)
    have hbn : bl n ≤ 32 * (dg n).length := bl_le_of (dg_lt n)
    refine Ev.bind (len_ev (by omega)) ?_
    refine Ev.bind (len_ev (by omega)) ?_
    have ew : wrap64 ((wrap64 (70 - (bl v : Int))) + (bl n : Int)) = (70 - (bl v : Int)) + (bl n : Int) := by
      rw [wrap_id (x := 70 - (bl v : Int)) (by omega) (by omega), wrap_id (by omega) (by omega)]
    simp only [ew, kOf_val (v := v) (n := n)]
    obtain ⟨k, hk⟩ : ∃ k, 70 + bl n - bl v = k := ⟨_, rfl⟩
    rw [hk]
    have hls := len_shift v k
    refine Ev.bind (shiftUp_ev (by omega) (by omega)) ?_
    refine Ev.bind (div_ev hn (by omega) (by omega)) ?_
    have hq := quot_ge (v := v) (n := n) (k := k) (K := 69) (bl_lt (Nat.le_refl _)) (by
      have : 1 ≤ bl v := by rw [bitLen_log c]; omega
      omega) c hn
    have hq0 : v * 2 ^ k / n ≠ 0 := by have := Nat.two_pow_pos 69; omega
    have ee : wrap64 ((wrap64 (e - (k : Int))) - 0) = e - (k : Int) := by
      rw [wrap_id (x := e - (k : Int)) (by omega) (by omega), Int.sub_zero, wrap_id (by omega) (by omega)]
    have er : decide (0 < (dg (v * 2 ^ k % n)).length) = decide (v * 2 ^ k % n ≠ 0) := by
      rw [Bool.eq_iff_iff, decide_eq_true_iff, decide_eq_true_iff]
      have := len_zero (v := v * 2 ^ k % n); omega
    simp only [ee, er]
    have hlq : (dg (v * 2 ^ k / n)).length ≤ (dg (v * 2 ^ k)).length := by
      rcases Nat.lt_or_ge (dg (v * 2 ^ k)).length (dg (v * 2 ^ k / n)).length with h | h
      · have h1 := len_lt h
        have h2 := Nat.div_le_self (v * 2 ^ k) n
        omega
      · exact h
    have hbq : bl (v * 2 ^ k / n) ≤ 32 * (dg (v * 2 ^ k / n)).length := bl_le_of (dg_lt _)
    refine Ev.bind (nearMore_ev (by omega) (by omega) s _ (by omega) (by omega)) ?_
    rw [if_neg hq0, nrM_dbl hq0 (Or.inl (Nat.le_trans (by decide) (log2_ge hq)))]
    exact Ev.now _
/-- near of a part of a number in units is near of the part of it. -/
theorem over_uv {s : Bool} {v : Nat} {e : Int} {n : Nat} (hn : 0 < n) (he : -2148 ≤ e) (hq : v = 0 ∨ v * 2 ^ (e + 2148).toNat / n ≠ 0) :
    (if v = 0 then 0 else sgR s + nr (dbl (v * 2 ^ (70 + bl n - bl v) / n) (decide (v * 2 ^ (70 + bl n - bl v) % n ≠ 0))) (e - ((70 + bl n - bl v : Nat) : Int) - 1)) = overV (uv s v e) false false n := by
  rw [overV_fin, uv_abs]
  by_cases c : v = 0
  · subst c
    rw [if_pos rfl, uv_zero, if_neg (by decide), Nat.zero_mul, Nat.zero_div, Nat.zero_mod, nearU_dbl, show dbl 0 (decide ((0 : Nat) ≠ 0)) = 0 by decide, nr_zero]
  · rw [if_neg c]
    have hneg := uv_neg (s := s) (e := e) c
    have hsg : sgR s = (if uv s v e < 0 then 9223372036854775808 else 0) := by
      unfold sgR
      cases s
      · rw [if_neg (by decide), if_neg (of_decide_eq_false hneg)]
      · rw [if_pos rfl, if_pos (of_decide_eq_true hneg)]
    rw [hsg, nearU_dbl]
    congr 1
    obtain ⟨k, hk⟩ : ∃ k, 70 + bl n - bl v = k := ⟨_, rfl⟩
    rw [hk]
    have hq2 := hq.resolve_left c
    have hg := quot_ge (v := v) (n := n) (k := k) (K := 69) (bl_lt (Nat.le_refl _)) (by
      have : 1 ≤ bl v := by rw [bitLen_log c]; omega
      omega) c hn
    have hg0 : v * 2 ^ k / n ≠ 0 := by have := Nat.two_pow_pos 69; omega
    rw [nr_quot (m := v) (n := n) (k := k) (K := k + (e + 2148).toNat) (e := e) hn (by omega) hg0 (Or.inl (Nat.le_trans (by decide) (log2_ge hg)))]
    have := nr_quot (m := v) (n := n) (k := (e + 2148).toNat) (K := k + (e + 2148).toNat) (e := e) hn (by omega) hq2 (Or.inr (by omega))
    rw [show e - (((e + 2148).toNat : Nat) : Int) - 1 = -2149 by omega] at this
    rw [← this]
/-! ### a product -/
end Go.Proofs.YtepcegiciecogaaGreat.FR
