/- Sums by place: which places a list has, and what lies on each. No program in sight. -/
import Derived.Test.YthcgpepjoofeoaaAcc
namespace Tn
open Go Go.RowKit

/-- a currency and a day. -/
abbrev Pla := Int × Int
/-- places as they come first. -/
def keysFrom : List Pla → List (Pla × Nat) → List Pla
  | ks, [] => ks
  | ks, f :: l => keysFrom (if f.1 ∈ ks then ks else ks ++ [f.1]) l
def keysF (l : List (Pla × Nat)) : List Pla := keysFrom [] l
/-- what lies on a place, in units. -/
def sumF (k : Pla) : List (Pla × Nat) → Int
  | [] => 0
  | f :: l => (if f.1 = k then units f.2 else 0) + sumF k l
theorem keysFrom_append : ∀ (l m : List (Pla × Nat)) (ks : List Pla), keysFrom ks (l ++ m) = keysFrom (keysFrom ks l) m
  | [], _, _ => rfl
  | f :: l, m, ks => by rw [List.cons_append, keysFrom, keysFrom, keysFrom_append l m]
theorem keysF_snoc (l : List (Pla × Nat)) (f : Pla × Nat) : keysF (l ++ [f]) = if f.1 ∈ keysF l then keysF l else keysF l ++ [f.1] := by
  unfold keysF; rw [keysFrom_append]; rfl
theorem sumF_append (k : Pla) : ∀ (l m : List (Pla × Nat)), sumF k (l ++ m) = sumF k l + sumF k m
  | [], m => by rw [List.nil_append, sumF, Int.zero_add]
  | f :: l, m => by rw [List.cons_append, sumF, sumF, sumF_append k l m, Int.add_assoc]
theorem sumF_snoc (k : Pla) (l : List (Pla × Nat)) (f : Pla × Nat) : sumF k (l ++ [f]) = sumF k l + if f.1 = k then units f.2 else 0 := by
  rw [sumF_append]; show _ + (_ + 0) = _; rw [Int.add_zero]
theorem mem_keysFrom (k : Pla) : ∀ (l : List (Pla × Nat)) (ks : List Pla), k ∈ keysFrom ks l ↔ k ∈ ks ∨ ∃ f ∈ l, f.1 = k
  | [], ks => by simp [keysFrom]
  | f :: l, ks => by
    rw [keysFrom, mem_keysFrom k l]
    by_cases h : f.1 ∈ ks
    · rw [if_pos h]
      constructor
      · rintro (h1 | ⟨g, hg, e⟩)
        · exact .inl h1
        · exact .inr ⟨g, List.mem_cons_of_mem _ hg, e⟩
      · rintro (h1 | ⟨g, hg, e⟩)
        · exact .inl h1
        · rcases List.mem_cons.1 hg with rfl | hg
          · exact .inl (e ▸ h)
          · exact .inr ⟨g, hg, e⟩
    · rw [if_neg h]
      constructor
      · rintro (h1 | ⟨g, hg, e⟩)
        · rcases List.mem_append.1 h1 with h1 | h1
          · exact .inl h1
          · rw [List.mem_singleton] at h1
            exact .inr ⟨f, List.mem_cons_self, h1.symm⟩
        · exact .inr ⟨g, List.mem_cons_of_mem _ hg, e⟩
      · rintro (h1 | ⟨g, hg, e⟩)
        · exact .inl (List.mem_append_left _ h1)
        · rcases List.mem_cons.1 hg with rfl | hg
          · exact .inl (List.mem_append_right _ (by rw [e]; exact List.mem_singleton_self _))
          · exact .inr ⟨g, hg, e⟩
theorem mem_keysF {k : Pla} {l : List (Pla × Nat)} : k ∈ keysF l ↔ ∃ f ∈ l, f.1 = k := by
  unfold keysF; rw [mem_keysFrom]; simp
theorem keysFrom_nodup : ∀ (l : List (Pla × Nat)) (ks : List Pla), ks.Nodup → (keysFrom ks l).Nodup
  | [], _, h => h
  | f :: l, ks, h => by
    rw [keysFrom]
    refine keysFrom_nodup l _ ?_
    by_cases hf : f.1 ∈ ks
    · rw [if_pos hf]; exact h
    · rw [if_neg hf, List.nodup_append]
      refine ⟨h, by simp, fun a ha b hb e => ?_⟩
      rw [List.mem_singleton] at hb
      exact hf (by rw [← hb, ← e]; exact ha)
theorem keysF_nodup (l : List (Pla × Nat)) : (keysF l).Nodup := keysFrom_nodup l [] List.nodup_nil
theorem keysFrom_len : ∀ (l : List (Pla × Nat)) (ks : List Pla), (keysFrom ks l).length ≤ ks.length + l.length
  | [], ks => by simp [keysFrom]
  | f :: l, ks => by
    rw [keysFrom]
    have := keysFrom_len l (if f.1 ∈ ks then ks else ks ++ [f.1])
    have h2 : (if f.1 ∈ ks then ks else ks ++ [f.1]).length ≤ ks.length + 1 := by split <;> simp
    rw [List.length_cons]; omega
theorem keysF_len (l : List (Pla × Nat)) : (keysF l).length ≤ l.length := by
  have := keysFrom_len l []; rw [List.length_nil, Nat.zero_add] at this; exact this
theorem pow_B {e n : Nat} (h : e ≤ 64 * n) : 2 ^ e ≤ B n := pow_le h
theorem units_bd (x : Nat) : (units x).natAbs ≤ B 50 := by
  unfold units
  have h1 := spm_bd x
  have h2 := spe_bd x
  rw [Int.natAbs_mul, Int.natAbs_pow]
  have e1 : (spe x + 2148).toNat ≤ 64 * 49 := by omega
  have e2 : (spm x).natAbs ≤ 18446744073709551616 := by omega
  rw [show (50 : Nat) = 49 + 1 from rfl, B_succ, Nat.mul_comm]
  exact Nat.mul_le_mul (pow_B e1) e2
theorem sumF_bdn (b : Nat) (hb : ∀ x, (units x).natAbs ≤ b) (k : Pla) : ∀ (l : List (Pla × Nat)), (sumF k l).natAbs ≤ l.length * b
  | [] => by simp [sumF]
  | f :: l => by
    rw [sumF, List.length_cons, Nat.add_mul, Nat.one_mul]
    have h1 := sumF_bdn b hb k l
    have h2 := hb f.2
    have h3 : (if f.1 = k then units f.2 else 0).natAbs ≤ b := by split; exact h2; simp
    have := Int.natAbs_add_le (if f.1 = k then units f.2 else 0) (sumF k l)
    omega
theorem sumF_bd (k : Pla) (l : List (Pla × Nat)) : (sumF k l).natAbs ≤ l.length * B 50 := sumF_bdn (B 50) units_bd k l
theorem few_B {n i j : Nat} (h : n ≤ 1048576) (hj : i + 1 ≤ j) : n * B i < B j := by
  refine Nat.lt_of_lt_of_le ?_ (B_le hj)
  rw [B_succ, Nat.mul_comm]
  exact Nat.mul_lt_mul_of_pos_left (by omega) (B_pos i)
theorem sumF_lt (k : Pla) (l : List (Pla × Nat)) (h : l.length ≤ 1048576) : (sumF k l).natAbs < B 67 :=
  Nat.lt_of_le_of_lt (sumF_bd k l) (few_B h (by decide))
theorem sumF_none {k : Pla} : ∀ {l : List (Pla × Nat)}, k ∉ keysF l → sumF k l = 0 := by
  intro l h
  rw [mem_keysF] at h
  induction l with
  | nil => rfl
  | cons f l ih =>
    rw [sumF, if_neg (fun e => h ⟨f, List.mem_cons_self, e⟩), ih (fun ⟨g, hg, e⟩ => h ⟨g, List.mem_cons_of_mem _ hg, e⟩)]; rfl
theorem pairwise_inj {α β : Type} {f : α → β} : ∀ {l : List α}, l.Pairwise (fun x y => f x ≠ f y) → ∀ {x y : α}, x ∈ l → y ∈ l → f x = f y → x = y
  | [], _, _, _, hx, _, _ => by cases hx
  | a :: l, h, x, y, hx, hy, e => by
    rw [List.pairwise_cons] at h
    rcases List.mem_cons.1 hx with rfl | hx1
    · rcases List.mem_cons.1 hy with rfl | hy1
      · rfl
      · exact absurd e (h.1 _ hy1)
    · rcases List.mem_cons.1 hy with rfl | hy1
      · exact absurd e.symm (h.1 _ hx1)
      · exact pairwise_inj h.2 hx1 hy1 e
/-- what is told for a place. -/
def valK (l : List (Pla × Nat)) (k : Pla) : Nat := overV (sumF k l) false false 1
theorem over_lt (Z : Int) (n : Nat) : overV Z false false n < 18446744073709551616 := by
  unfold overV
  rw [if_neg (by simp), if_neg (by simp), if_neg (by simp)]
  have := nearU_le (Z.natAbs / n) (decide (Z.natAbs % n ≠ 0))
  split <;> omega
end Tn
