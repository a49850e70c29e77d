/- The reference's numbers: sums, differences, products, quotients of digits, told as whole numbers. No Go and no memory here. -/
import Derived.Test.YtepcegiciecogaaGreatRefN
import Derived.Test.YtepcegiciecogaaGreatQt
namespace Go.Proofs.YtepcegiciecogaaGreat.FR
open Go.RowKit Go.Proofs.YtepcegiciecogaaGreatW.PrintWords Go.Proofs.YtepcegiciecogaaGreatW.PrintLast Go.Proofs.YtepcegiciecogaaGreatW.PrintMore Tn

theorem pow32' (i : Nat) : 2 ^ (32 * (i + 1)) = 2 ^ (32 * i) * 4294967296 := by rw [pow32, Nat.mul_comm]
theorem dg_lt (a : Nat) : a < 2 ^ (32 * (dg a).length) := by
  have h2 := val_lt (dig_dg a)
  rwa [val_dg] at h2
/-! ### sums -/
def cy (a b i : Nat) : Nat := (a % 2 ^ (32 * i) + b % 2 ^ (32 * i)) / 2 ^ (32 * i)
/-! ### differences -/
/-! ### held against each other -/
/-! ### products -/
theorem set_val {out : List Int} {t x : Nat} (ht : t < out.length) : val (out.set t (x : Int)) + 2 ^ (32 * t) * (out.getD t 0).toNat = val out + 2 ^ (32 * t) * x := by
  have := val_set out t (x : Int) ht
  rwa [Int.toNat_natCast] at this
structure MulInv (a b i j c : Nat) (out : List Int) : Prop where
  len : out.length = (dg a).length + (dg b).length + 1
  dig : Dig out
  zero : ∀ t, i + (dg b).length ≤ t → out.getD t 0 = 0
  car : c < 4294967296
  value : val out + c * 2 ^ (32 * (i + j)) = a % 2 ^ (32 * i) * b + a / 2 ^ (32 * i) % 4294967296 * 2 ^ (32 * i) * (b % 2 ^ (32 * j))
theorem getD_set_ne {l : List Int} {i j : Nat} {x : Int} (h : i ≠ j) : (l.set i x).getD j 0 = l.getD j 0 := by
  rw [List.getD_eq_getElem?_getD, List.getElem?_set_ne h, ← List.getD_eq_getElem?_getD]
theorem mul_core {v o P s c X A Pi bj Pj V Y : Nat} (hP : P = Pi * Pj) (hs : s = o + A * bj + c) (h1 : V + P * o = v + P * (s % 4294967296)) (h2 : v + c * P = X + A * Pi * Y) : V + s / 4294967296 * (P * 4294967296) = X + A * Pi * (Y + Pj * bj) := by
  have e1 : s / 4294967296 * (P * 4294967296) + P * (s % 4294967296) = P * s := by
    rw [Nat.mul_left_comm, ← Nat.mul_add, Nat.mul_comm (s / 4294967296), Nat.div_add_mod]
  have e2 : P * s = P * o + P * (A * bj) + P * c := by rw [hs, Nat.mul_add, Nat.mul_add]
  have e3 : A * Pi * (Y + Pj * bj) = A * Pi * Y + P * (A * bj) := by
    rw [Nat.mul_add, hP]
    congr 1
    simp only [Nat.mul_assoc, Nat.mul_comm, Nat.mul_left_comm]
  rw [e3, Nat.mul_comm c P] at *
  generalize P * (A * bj) = q1 at *
  generalize P * o = q2 at *
  generalize P * c = q3 at *
  generalize P * s = q4 at *
  generalize P * (s % 4294967296) = q5 at *
  generalize s / 4294967296 * (P * 4294967296) = q6 at *
  generalize A * Pi * Y = q7 at *
  omega
theorem mul_step {a b i j c : Nat} {out : List Int} (h : MulInv a b i j c out) (hj : j < (dg b).length) (hi : i < (dg a).length) {s : Nat}
    (hs : s = (out.getD (i + j) 0).toNat + a / 2 ^ (32 * i) % 4294967296 * (b / 2 ^ (32 * j) % 4294967296) + c) :
    s < 18446744073709551616 ∧ MulInv a b i (j + 1) (s / 4294967296) (out.set (i + j) ((s % 4294967296 : Nat) : Int)) := by
  have l1 : a / 2 ^ (32 * i) % 4294967296 < 4294967296 := Nat.mod_lt _ (by decide)
  have l2 : b / 2 ^ (32 * j) % 4294967296 < 4294967296 := Nat.mod_lt _ (by decide)
  have l3 := h.dig.getD (i + j)
  have l4 := h.car
  have hlen := h.len
  have hm : a / 2 ^ (32 * i) % 4294967296 * (b / 2 ^ (32 * j) % 4294967296) ≤ 4294967295 * 4294967295 := Nat.mul_le_mul (by omega) (by omega)
  have hs2 : s < 18446744073709551616 := by omega
  refine ⟨hs2, by rw [List.length_set]; exact hlen, h.dig.set _ (by omega) (by omega), fun t ht => ?_, by omega, ?_⟩
  · rw [getD_set_ne (by omega)]; exact h.zero t ht
  · have h1 := set_val (out := out) (t := i + j) (x := s % 4294967296) (by omega)
    have e1 : 2 ^ (32 * (i + (j + 1))) = 2 ^ (32 * (i + j)) * 4294967296 := by rw [← Nat.add_assoc, pow32']
    have e2 : b % 2 ^ (32 * (j + 1)) = b % 2 ^ (32 * j) + 2 ^ (32 * j) * (b / 2 ^ (32 * j) % 4294967296) := by rw [pow32', Nat.mod_mul]
    rw [e1, e2]
    exact mul_core (by rw [Nat.mul_add, Nat.pow_add]) hs h1 h.value
theorem mul_inner {a b : Nat} (hla : (dg a).length < 536870912) (hlb : (dg b).length < 536870912) {i : Nat} (hi : i < (dg a).length) {R : List Int}
    (next : ∀ out : List Int, out.length = (dg a).length + (dg b).length + 1 → Dig out → (∀ t, i + 1 + (dg b).length ≤ t → out.getD t 0 = 0) → val out = a % 2 ^ (32 * (i + 1)) * b → Ev (fun k => tenorref1_MulDigits.l0 k (dg a) (dg b) out ((i + 1 : Nat) : Int)) R) :
    ∀ (m j c : Nat) (out : List Int), j + m = (dg b).length → MulInv a b i j c out → Ev (fun k => tenorref1_MulDigits.l1 k (dg a) (dg b) out (i : Int) (c : Int) (j : Int)) R := by
  intro m
  induction m with
  | zero =>
    intro j c out hj h
    have hlen := h.len
    have ec := h.car
    have hz := h.zero (i + (dg b).length) (Nat.le_refl _)
    have e0 : rd out ((i + (dg b).length : Nat) : Int) = 0 := by rw [rd_nat, hz]
    have e1 : IntKind.u64.wrap (0 + (c : Int)) = (c : Int) := by rw [Int.zero_add]; exact wrapu_nat (by omega)
    refine Ev.step (fun k => rfl) ?_
    simp only [tenorref1_MulDigits.l1, if_neg (show ¬ (j : Int) < ((dg b).length : Int) by omega), wrap_add (a := i) (b := (dg b).length) (by omega), if_pos (show 0 ≤ ((i + (dg b).length : Nat) : Int) by omega), if_pos (show ((i + (dg b).length : Nat) : Int) < (out.length : Int) by omega), Int.toNat_natCast, e0, e1, wrap_add1 (a := i) (by omega)]
    refine next _ (by rw [List.length_set]; exact hlen) (h.dig.set _ (by omega) (by omega)) (fun t ht => ?_) ?_
    · rw [getD_set_ne (by omega)]; exact h.zero t (by omega)
    · have h1 := set_val (out := out) (t := i + (dg b).length) (x := c) (by omega)
      have hv := h.value
      rw [hz, show j = (dg b).length by omega, Nat.mod_eq_of_lt (dg_lt b)] at *
      rw [pow32', Nat.mod_mul, Nat.add_mul, Nat.mul_comm (2 ^ (32 * i)), ← hv, Nat.mul_comm c]
      have : (0 : Int).toNat = 0 := rfl
      rw [this, Nat.mul_zero] at h1
      exact h1
  | succ m ih =>
    intro j c out hj h
    have hlen := h.len
    have ec := h.car
    have l3 := h.dig.getD (i + j)
    have l1 : a / 2 ^ (32 * i) % 4294967296 < 4294967296 := Nat.mod_lt _ (by decide)
    have l2 : b / 2 ^ (32 * j) % 4294967296 < 4294967296 := Nat.mod_lt _ (by decide)
    have hm : a / 2 ^ (32 * i) % 4294967296 * (b / 2 ^ (32 * j) % 4294967296) ≤ 4294967295 * 4294967295 := Nat.mul_le_mul (by omega) (by omega)
    obtain ⟨s, hs⟩ : ∃ s, (out.getD (i + j) 0).toNat + a / 2 ^ (32 * i) % 4294967296 * (b / 2 ^ (32 * j) % 4294967296) + c = s := ⟨_, rfl⟩
    obtain ⟨hs2, hn⟩ := mul_step h (by omega) hi hs.symm
    have e0 : rd out ((i + j : Nat) : Int) = (((out.getD (i + j) 0).toNat : Nat) : Int) := rd_toNat h.dig _
    have e1 : rd (dg a) (i : Int) = ((a / 2 ^ (32 * i) % 4294967296 : Nat) : Int) := by rw [rd_nat, getD_dg]
    have e2 : rd (dg b) (j : Int) = ((b / 2 ^ (32 * j) % 4294967296 : Nat) : Int) := by rw [rd_nat, getD_dg]
    have e3 : IntKind.u64.wrap ((IntKind.u64.wrap ((((out.getD (i + j) 0).toNat : Nat) : Int) + (IntKind.u64.wrap (((a / 2 ^ (32 * i) % 4294967296 : Nat) : Int) * ((b / 2 ^ (32 * j) % 4294967296 : Nat) : Int))))) + (c : Int)) = (s : Int) := by
      rw [wrapu_mul (by omega), wrapu_add (by omega), wrapu_add (by omega), hs]
    have e4 : Int.tmod (s : Int) 4294967296 = ((s % 4294967296 : Nat) : Int) := tmodB s
    have e5 : IntKind.u64.wrap (Int.tdiv (s : Int) 4294967296) = ((s / 4294967296 : Nat) : Int) := by rw [tdivB]; exact wrapu_nat (by omega)
    refine Ev.step (fun k => rfl) ?_
    simp only [tenorref1_MulDigits.l1, if_pos (show (j : Int) < ((dg b).length : Int) by omega), wrap_add (a := i) (b := j) (by omega), if_pos (show 0 ≤ ((i + j : Nat) : Int) by omega), if_pos (show ((i + j : Nat) : Int) < (out.length : Int) by omega), if_pos (show 0 ≤ (i : Int) by omega), if_pos (show (i : Int) < ((dg a).length : Int) by omega), if_pos (show 0 ≤ (j : Int) by omega), Int.toNat_natCast, e0, e1, e2, e3, e4, e5, wrap_add1 (a := j) (by omega)]
    exact ih (j + 1) _ _ (by omega) hn
theorem mul_outer {a b : Nat} (hla : (dg a).length < 536870912) (hlb : (dg b).length < 536870912) : ∀ (m i : Nat) (out : List Int), i + m = (dg a).length → out.length = (dg a).length + (dg b).length + 1 → Dig out → (∀ t, i + (dg b).length ≤ t → out.getD t 0 = 0) → val out = a % 2 ^ (32 * i) * b →
    Ev (fun k => tenorref1_MulDigits.l0 k (dg a) (dg b) out (i : Int)) (dg (a * b)) := by
  intro m
  induction m with
  | zero =>
    intro i out hi hlen ho hz hv
    refine Ev.step (fun k => rfl) ?_
    simp only [tenorref1_MulDigits.l0, if_neg (show ¬ (i : Int) < ((dg a).length : Int) by omega)]
    have ht := trim_ev ho (by omega)
    rw [hv, show i = (dg a).length by omega, Nat.mod_eq_of_lt (dg_lt a)] at ht
    exact Ev.bind ht (Ev.now _)
  | succ m ih =>
    intro i out hi hlen ho hz hv
    refine Ev.step (fun k => rfl) ?_
    simp only [tenorref1_MulDigits.l0, if_pos (show (i : Int) < ((dg a).length : Int) by omega)]
    refine mul_inner hla hlb (by omega) (fun out' h1 h2 h3 h4 => ih (i + 1) out' (by omega) h1 h2 h3 h4) (dg b).length 0 0 out (by omega) ⟨hlen, ho, hz, by decide, ?_⟩
    rw [hv, show (2 : Nat) ^ (32 * 0) = 1 from rfl, Nat.mod_one, Nat.mul_zero, Nat.zero_mul]
theorem mul_ev {a b : Nat} (hla : (dg a).length < 536870912) (hlb : (dg b).length < 536870912) : Ev (fun k => tenorref1_MulDigits.f k (dg a) (dg b)) (dg (a * b)) := by
  have e1 : wrap64 ((wrap64 (((dg a).length : Int) + ((dg b).length : Int))) + 1) = (((dg a).length + (dg b).length + 1 : Nat) : Int) := by rw [wrap_add (by omega), wrap_add1 (by omega)]
  unfold tenorref1_MulDigits.f
  simp only [e1, Int.toNat_natCast, if_pos (show 0 ≤ (((dg a).length + (dg b).length + 1 : Nat) : Int) by omega), if_pos (show (dg a).length + (dg b).length + 1 ≤ 35184372088832 by omega)]
  refine mul_outer hla hlb (dg a).length 0 _ (by omega) (by simp) (Dig.zeros _) (fun t _ => getD_zeros _ _) ?_
  rw [val_zeros, show (2 : Nat) ^ (32 * 0) = 1 from rfl, Nat.mod_one, Nat.zero_mul]
/-! ### quotients -/
end Go.Proofs.YtepcegiciecogaaGreat.FR
