/- Plain laws on whole numbers as digits to the base 2^32, the lowest first. No program in sight. -/
import Derived.RowKit
namespace Tn
open Go Go.RowKit

def val : List Int → Nat
  | [] => 0
  | d :: l => d.toNat + 4294967296 * val l
def Dig (l : List Int) : Prop := ∀ d ∈ l, 0 ≤ d ∧ d < 4294967296
/-- a number's digits; the last one is not 0. -/
def dg (v : Nat) : List Int := if v = 0 then [] else ((v % 4294967296 : Nat) : Int) :: dg (v / 4294967296)
termination_by v
decreasing_by omega

theorem dgetD_in {l : List Int} {i : Nat} (h : i < l.length) : l.getD i 0 = l[i] := by simp [List.getD_eq_getElem?_getD, h]
theorem dgetD_out {l : List Int} {i : Nat} (h : l.length ≤ i) : l.getD i 0 = 0 := by simp [List.getD_eq_getElem?_getD, h]
theorem dg_zero : dg 0 = [] := by rw [dg]; rfl
theorem dg_pos {v : Nat} (h : v ≠ 0) : dg v = ((v % 4294967296 : Nat) : Int) :: dg (v / 4294967296) := by rw [dg, if_neg h]
theorem dg_ind {P : Nat → Prop} (h0 : P 0) (h1 : ∀ v, v ≠ 0 → P (v / 4294967296) → P v) (v : Nat) : P v := by
  induction v using Nat.strongRecOn with
  | ind v ih =>
    by_cases h : v = 0
    · rw [h]; exact h0
    · exact h1 v h (ih _ (by omega))
theorem val_dg (v : Nat) : val (dg v) = v := by
  refine dg_ind (P := fun v => val (dg v) = v) (by rw [dg_zero]; rfl) (fun v h ih => ?_) v
  rw [dg_pos h]; show (((v % 4294967296 : Nat) : Int)).toNat + 4294967296 * val (dg (v / 4294967296)) = v
  rw [ih, Int.toNat_natCast]; omega
theorem dig_dg (v : Nat) : Dig (dg v) := by
  refine dg_ind (P := fun v => Dig (dg v)) (by rw [dg_zero]; intro d h; cases h) (fun v h ih => ?_) v
  rw [dg_pos h]; intro d hd
  rcases List.mem_cons.1 hd with rfl | hd
  · omega
  · exact ih d hd
theorem Dig.cons {d : Int} {l : List Int} (h : Dig (d :: l)) : 0 ≤ d ∧ d < 4294967296 ∧ Dig l :=
  ⟨(h d (List.mem_cons_self ..)).1, (h d (List.mem_cons_self ..)).2, fun x hx => h x (List.mem_cons_of_mem _ hx)⟩
theorem Dig.mk {d : Int} {l : List Int} (h0 : 0 ≤ d) (h1 : d < 4294967296) (h : Dig l) : Dig (d :: l) := by
  intro x hx; rcases List.mem_cons.1 hx with rfl | hx
  · exact ⟨h0, h1⟩
  · exact h x hx
theorem Dig.nil : Dig [] := fun _ h => by cases h
theorem Dig.take {l : List Int} (h : Dig l) (n : Nat) : Dig (l.take n) := fun x hx => h x (List.mem_of_mem_take hx)
theorem Dig.drop {l : List Int} (h : Dig l) (n : Nat) : Dig (l.drop n) := fun x hx => h x (List.mem_of_mem_drop hx)
theorem Dig.set {l : List Int} (h : Dig l) (i : Nat) {x : Int} (h0 : 0 ≤ x) (h1 : x < 4294967296) : Dig (l.set i x) := by
  intro y hy
  rcases List.mem_or_eq_of_mem_set hy with h' | rfl
  · exact h y h'
  · exact ⟨h0, h1⟩
theorem Dig.zeros (n : Nat) : Dig (List.replicate n 0) := fun x hx => by rw [(List.mem_replicate.1 hx).2]; omega
theorem Dig.getD {l : List Int} (h : Dig l) (i : Nat) : 0 ≤ l.getD i 0 ∧ l.getD i 0 < 4294967296 := by
  by_cases hi : i < l.length
  · rw [dgetD_in hi]; exact h _ (List.getElem_mem hi)
  · rw [dgetD_out (by omega)]; omega
theorem dg_val {l : List Int} (h : Dig l) (hl : ∀ x, l.getLast? = some x → x ≠ 0) : dg (val l) = l := by
  induction l with
  | nil => exact dg_zero
  | cons d t ih =>
    obtain ⟨h0, h1, ht⟩ := h.cons
    have hv : val (d :: t) = d.toNat + 4294967296 * val t := rfl
    have ht2 : dg (val t) = t := ih ht (fun x hx => hl x (by
      cases t with
      | nil => cases hx
      | cons e s => rw [List.getLast?_cons_cons]; exact hx))
    have hne : val (d :: t) ≠ 0 := by
      intro h0'
      have hd : d = 0 := by omega
      have hvt : val t = 0 := by omega
      rw [hvt, dg_zero] at ht2
      subst ht2
      exact hl d rfl hd
    rw [dg_pos hne, hv]
    have e1 : (d.toNat + 4294967296 * val t) % 4294967296 = d.toNat := by omega
    have e2 : (d.toNat + 4294967296 * val t) / 4294967296 = val t := by omega
    rw [e1, e2, ht2, Int.toNat_of_nonneg h0]
theorem pow32 (i : Nat) : 2 ^ (32 * (i + 1)) = 4294967296 * 2 ^ (32 * i) := by
  rw [show 32 * (i + 1) = 32 + 32 * i by omega, Nat.pow_add]
theorem getD_dg (v i : Nat) : (dg v).getD i 0 = ((v / 2 ^ (32 * i) % 4294967296 : Nat) : Int) := by
  induction i generalizing v with
  | zero =>
    by_cases h : v = 0
    · rw [h, dg_zero]; rfl
    · rw [dg_pos h]; simp
  | succ i ih =>
    by_cases h : v = 0
    · rw [h, dg_zero]; simp
    · rw [dg_pos h, List.getD_cons_succ, ih, pow32, Nat.div_div_eq_div_mul]
theorem lt_len_dg (v i : Nat) : i < (dg v).length ↔ 2 ^ (32 * i) ≤ v := by
  induction i generalizing v with
  | zero =>
    by_cases h : v = 0
    · rw [h, dg_zero]; simp
    · rw [dg_pos h]; simp; omega
  | succ i ih =>
    by_cases h : v = 0
    · rw [h, dg_zero]; simp
    · rw [dg_pos h, List.length_cons, pow32]
      have := ih (v / 4294967296)
      rw [Nat.le_div_iff_mul_le (by decide), Nat.mul_comm] at this
      omega
theorem len_dg_le {v k : Nat} (h : v < 2 ^ (32 * k)) : (dg v).length ≤ k := by
  by_cases c : k < (dg v).length
  · have := (lt_len_dg v k).1 c; omega
  · omega
theorem val_zeros (n : Nat) : val (List.replicate n 0) = 0 := by
  induction n with
  | zero => rfl
  | succ n ih => rw [List.replicate_succ]; show (0 : Int).toNat + _ * _ = 0; rw [ih]; rfl
theorem val_split (l : List Int) (i : Nat) (h : i ≤ l.length) : val l = val (l.take i) + 2 ^ (32 * i) * val (l.drop i) := by
  induction i generalizing l with
  | zero => simp [val]
  | succ i ih =>
    cases l with
    | nil => simp at h
    | cons d t =>
      rw [List.take_succ_cons, List.drop_succ_cons]
      show d.toNat + 4294967296 * val t = d.toNat + 4294967296 * val (t.take i) + 2 ^ (32 * (i + 1)) * val (t.drop i)
      rw [ih t (by simpa using h), pow32, Nat.mul_add, Nat.mul_assoc, Nat.add_assoc]
theorem val_take_succ (l : List Int) (i : Nat) (h : i < l.length) : val (l.take (i + 1)) = val (l.take i) + 2 ^ (32 * i) * (l.getD i 0).toNat := by
  have e := val_split (l.take (i + 1)) i (by rw [List.length_take]; omega)
  rw [List.take_take, Nat.min_eq_left (by omega)] at e
  rw [e]
  congr 2
  rw [List.drop_take, show i + 1 - i = 1 by omega, List.drop_eq_getElem_cons h, dgetD_in h]
  show l[i].toNat + 4294967296 * 0 = _
  omega
theorem val_set (l : List Int) (i : Nat) (x : Int) (h : i < l.length) : val (l.set i x) + 2 ^ (32 * i) * (l.getD i 0).toNat = val l + 2 ^ (32 * i) * x.toNat := by
  induction i generalizing l with
  | zero =>
    cases l with
    | nil => simp at h
    | cons d t => simp [val]; omega
  | succ i ih =>
    cases l with
    | nil => simp at h
    | cons d t =>
      have := ih t (by simpa using h)
      rw [List.set_cons_succ, List.getD_cons_succ, pow32, Nat.mul_assoc, Nat.mul_assoc]
      show d.toNat + 4294967296 * val (t.set i x) + _ = d.toNat + 4294967296 * val t + _
      rw [Nat.add_assoc, ← Nat.mul_add, this, Nat.mul_add]; omega
theorem val_lt {l : List Int} (h : Dig l) : val l < 2 ^ (32 * l.length) := by
  induction l with
  | nil => decide
  | cons d t ih =>
    obtain ⟨h0, h1, ht⟩ := h.cons
    have := ih ht
    rw [List.length_cons, pow32]
    show d.toNat + 4294967296 * val t < _
    have h2 : d.toNat < 4294967296 := by omega
    omega
theorem val_take_of_zero {l : List Int} {n : Nat} (hn : n ≤ l.length) (h : ∀ j, n ≤ j → l.getD j 0 = 0) : val (l.take n) = val l := by
  have hd : l.drop n = List.replicate (l.length - n) 0 := by
    apply List.ext_getElem
    · simp
    · intro i h1 h2
      have := h (n + i) (by omega)
      rw [dgetD_in (by simp at h1; omega)] at this
      simpa using this
  rw [val_split l n hn, hd, val_zeros]; simp
/-- digits without the noughts at their end. -/
theorem dg_trim {l : List Int} {n : Nat} (hl : Dig l) (hn : n < l.length) (h : ∀ j, n + 1 ≤ j → l.getD j 0 = 0) (hx : l.getD n 0 ≠ 0) : dg (val l) = l.take (n + 1) := by
  rw [← val_take_of_zero (n := n + 1) (by omega) h]
  apply dg_val (hl.take _)
  intro x hx'
  rw [List.getLast?_eq_getElem?, List.length_take, Nat.min_eq_left (by omega)] at hx'
  rw [show n + 1 - 1 = n by omega, List.getElem?_take_of_lt (by omega)] at hx'
  rw [List.getD_eq_getElem?_getD, hx'] at hx
  simpa using hx
theorem dg_all_zero {l : List Int} (h : ∀ j, l.getD j 0 = 0) : dg (val l) = [] := by
  have := val_take_of_zero (l := l) (n := 0) (by omega) (fun j _ => h j)
  rw [← this]; exact dg_zero
end Tn
