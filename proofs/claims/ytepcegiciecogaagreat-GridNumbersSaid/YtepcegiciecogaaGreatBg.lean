/- GridNumbers, plainly: quantile, worst and mean are the reference's. No walk. -/
import Derived.Test.YtepcegiciecogaaGreatFKx1
import Derived.Test.YtepcegiciecogaaGreatFKx2
import Derived.Test.YtepcegiciecogaaGreatFKx3
import Derived.Test.YtepcegiciecogaaGreatRefQ
import Derived.Test.YtepcegiciecogaaGreatBd
import Derived.Sort.Statements
import Derived.Sort.AssemblyPlain
namespace Go.Proofs.YtepcegiciecogaaGreat.FK
open Go.RowKit Go.Proofs.YtepcegiciecogaaGreatW.PrintWords Go.Proofs.YtepcegiciecogaaGreatW.PrintLast Go.Proofs.YtepcegiciecogaaGreatW.PrintMore Go.Proofs.YtepcegiciecogaaGreat.FX Go.Shelf Tn
open Go.Proofs.YtepcegiciecogaaGreat.EV Go.Proofs.YtepcegiciecogaaGreat.FG Go.Proofs.YtepcegiciecogaaGreat.FR
set_option linter.unusedVariables false

theorem wrap_id {x : Int} (h0 : -9223372036854775808 ≤ x) (h1 : x < 9223372036854775808) : wrap64 x = x := by unfold wrap64; omega
theorem wrap_up {i : Nat} (h : i < 1099511627776) : wrap64 ((i : Int) + 1) = ((i + 1 : Nat) : Int) := by rw [wrap_id (by omega) (by omega)]; rfl
theorem wrap_dn {i : Nat} (h : i < 1099511627776) : wrap64 (((i + 1 : Nat) : Int) - 1) = (i : Int) := by rw [wrap_id (by omega) (by omega)]; omega

/-! ### keys -/
theorem key_ok {a : Nat} (h : a < 18446744073709551616) (hn : nan a = false) : keyN a < 18446744073709551615 ∧ (keyN a : Int) = (if sgn a = true then 18446744073709551615 - (a : Int) else (a : Int) + 9223372036854775808) := by
  have hm : mag a ≤ 9218868437227405312 := mag_le_inf hn
  unfold keyN
  rw [if_neg (by rw [hn]; decide)]
  cases hs : sgn a
  · have := mag_pos hs
    rw [if_neg (by decide), if_neg (by decide)]; omega
  · have := mag_sgn h hs
    rw [if_pos rfl, if_pos rfl]; omega
theorem key_same {a b : Nat} (ha : a < 18446744073709551616) (hb : b < 18446744073709551616) (h : keyN a = keyN b) : same a b = true := by
  cases hn : nan a
  · cases hm : nan b
    · have h1 := key_ok ha hn
      have h2 := key_ok hb hm
      have he : a = b := by
        cases hs : sgn a <;> cases ht : sgn b
        · rw [hs, if_neg (by decide)] at h1; rw [ht, if_neg (by decide)] at h2; omega
        · have := mag_pos hs; have := mag_sgn hb ht; have := mag_lt a
          rw [hs, if_neg (by decide)] at h1; rw [ht, if_pos rfl] at h2; omega
        · have := mag_pos ht; have := mag_sgn ha hs; have := mag_lt b
          rw [hs, if_pos rfl] at h1; rw [ht, if_neg (by decide)] at h2; omega
        · rw [hs, if_pos rfl] at h1; rw [ht, if_pos rfl] at h2; omega
      rw [he]; exact same_refl b
    · have h1 := key_ok ha hn
      have h2 := key_nan hm
      omega
  · cases hm : nan b
    · have h1 := key_ok hb hm
      have h2 := key_nan hn
      omega
    · unfold same; rw [hn, hm]; simp

/-! ### what is printed, by value -/
theorem isnan_val {a : Nat} (h : a < 18446744073709551616) : tenorref1_IsNaN.f (a : Int) = some (nan a) := by
  unfold tenorref1_IsNaN.f; rw [andNot_sign a h]; exact congrArg some (nan_int a)
theorem size_val {a : Nat} (h : a < 18446744073709551616) : tenorref1_Size.f (a : Int) = some ((mag a : Nat) : Int) := by
  unfold tenorref1_Size.f; rw [andNot_sign a h]
theorem same_val {a b : Nat} (ha : a < 18446744073709551616) (hb : b < 18446744073709551616) : tenorref1_Same.f (a : Int) (b : Int) = some (same a b) := by
  unfold tenorref1_Same.f
  rw [isnan_val ha, isnan_val hb]
  by_cases c : (a : Int) = (b : Int)
  · rw [if_pos c]; exact congrArg some (same_eq c)
  · rw [if_neg c]
    simp only [Option.bind_some]
    cases hn : nan a
    · rw [if_neg (by decide)]; exact congrArg some (same_no c hn)
    · rw [if_pos rfl]; exact congrArg some (same_nan c hn)
theorem is_val {a b : Nat} (ha : a < 18446744073709551616) (hb : b < 18446744073709551616) : tenorlaw1_Is.f a (b : Int) = some (same a b) := by
  unfold tenorlaw1_Is.f api_Bits.f
  simp only [Option.bind_some, same_val ha hb]
theorem rank_val {a : Nat} (h : a < 18446744073709551616) : tenorref1_Rank.f (a : Int) = some (rank a, ok a) := by
  unfold tenorref1_Rank.f
  rw [isnan_val h]
  simp only [Option.bind_some]
  cases hn : nan a
  · rw [if_neg (by decide)]
    have ho : ok a = true := by rw [ok_nan, hn]; rfl
    have hm : mag a ≤ 9218868437227405312 := mag_le_inf hn
    rw [ho]
    cases hs : sgn a
    · have := mag_pos hs
      have h9 : ¬ (a : Int) ≥ 9223372036854775808 := by omega
      rw [if_neg h9, wrap_id (by omega) (by omega), this]
      rw [rank_pos hn (by rw [neg_ok hn, hs])]
    · have := mag_sgn h hs
      have h9 : (a : Int) ≥ 9223372036854775808 := by omega
      rw [if_pos h9, sub_sign h hs, wrap_nmag]
      rw [rank_neg hn (by rw [neg_ok hn, hs])]
  · rw [if_pos rfl, rank_nan hn, ok_nan, hn]; rfl
theorem lt_val {a b : Nat} (ha : a < 18446744073709551616) (hb : b < 18446744073709551616) (hn : nan a = false) (hm : nan b = false) : tenorref1_Lt.f (a : Int) (b : Int) = some (decide (rank a < rank b)) := by
  unfold tenorref1_Lt.f
  rw [rank_val ha, rank_val hb]
  simp only [Option.bind_some]
  rw [ok_nan, ok_nan, hn, hm, if_pos (by rfl), if_pos (by rfl)]
theorem key_rank {a b : Nat} (ha : a < 18446744073709551616) (hb : b < 18446744073709551616) (hn : nan a = false) (hm : nan b = false) (hz : ¬ (mag a = 0 ∧ mag b = 0)) : decide (rank a < rank b) = decide (keyN a < keyN b) := by
  have h1 := (key_ok ha hn).2
  have h2 := (key_ok hb hm).2
  rw [Bool.eq_iff_iff, decide_eq_true_iff, decide_eq_true_iff]
  cases hs : sgn a <;> cases ht : sgn b
  · rw [rank_pos hn (by rw [neg_ok hn, hs]), rank_pos hm (by rw [neg_ok hm, ht])]
    have := mag_pos hs; have := mag_pos ht
    rw [hs, if_neg (by decide)] at h1; rw [ht, if_neg (by decide)] at h2; omega
  · rw [rank_pos hn (by rw [neg_ok hn, hs]), rank_neg hm (by rw [neg_ok hm, ht])]
    have := mag_pos hs; have := mag_sgn hb ht; have := mag_lt a; have := mag_lt b
    rw [hs, if_neg (by decide)] at h1; rw [ht, if_pos rfl] at h2; omega
  · rw [rank_neg hn (by rw [neg_ok hn, hs]), rank_pos hm (by rw [neg_ok hm, ht])]
    have := mag_sgn ha hs; have := mag_pos ht; have := mag_lt a; have := mag_lt b
    rw [hs, if_pos rfl] at h1; rw [ht, if_neg (by decide)] at h2; omega
  · rw [rank_neg hn (by rw [neg_ok hn, hs]), rank_neg hm (by rw [neg_ok hm, ht])]
    have := mag_sgn ha hs; have := mag_sgn hb ht
    rw [hs, if_pos rfl] at h1; rw [ht, if_pos rfl] at h2; omega
theorem less_j {a b : Nat} (ha : a < 18446744073709551616) (hb : b < 18446744073709551616) (x : Bool) (hx : (nan a || nan b) = x) (k : Nat) : tenorref1_Less.j0 (k + 1) (a : Int) (b : Int) x = some (decide (keyN a < keyN b)) := by
  simp only [tenorref1_Less.j0]
  rw [isnan_val ha, isnan_val hb, size_val ha, size_val hb]
  simp only [Option.bind_some]
  cases x
  · rw [if_neg (by decide)]
    have hn : nan a = false := by cases h : nan a; rfl; rw [h] at hx; cases hx
    have hm : nan b = false := by cases h : nan b; rfl; rw [hn, h] at hx; cases hx
    have h1 := key_ok ha hn
    have h2 := key_ok hb hm
    by_cases c1 : mag a = 0
    · rw [if_pos (by omega)]
      by_cases c2 : mag b = 0
      · rw [if_pos (by omega)]
        congr 1
        rw [Bool.eq_iff_iff, decide_eq_true_iff, decide_eq_true_iff]
        cases hs : sgn a <;> cases ht : sgn b
        · have := mag_pos hs; have := mag_pos ht; rw [hs, if_neg (by decide)] at h1; rw [ht, if_neg (by decide)] at h2; omega
        · have := mag_pos hs; have := mag_sgn hb ht; rw [hs, if_neg (by decide)] at h1; rw [ht, if_pos rfl] at h2; omega
        · have := mag_sgn ha hs; have := mag_pos ht; rw [hs, if_pos rfl] at h1; rw [ht, if_neg (by decide)] at h2; omega
        · have := mag_sgn ha hs; have := mag_sgn hb ht; rw [hs, if_pos rfl] at h1; rw [ht, if_pos rfl] at h2; omega
      · rw [if_neg (by omega), lt_val ha hb hn hm]
        simp only [Option.bind_some]
        rw [key_rank ha hb hn hm (by omega)]
    · rw [if_neg (by omega), lt_val ha hb hn hm]
      simp only [Option.bind_some]
      rw [key_rank ha hb hn hm (by omega)]
  · rw [if_pos rfl]
    cases hn : nan a
    · rw [if_neg (by decide)]
      have hm : nan b = true := by rw [hn] at hx; simpa using hx
      rw [hm]; congr 1; symm; rw [decide_eq_true_iff]
      have h1 := key_ok ha hn
      have h2 := key_nan hm
      omega
    · rw [if_pos rfl]; congr 1; symm; rw [decide_eq_false_iff_not]
      have h1 := key_nan hn
      have h2 := key_lt b hb
      omega
theorem less_val {a b : Nat} (ha : a < 18446744073709551616) (hb : b < 18446744073709551616) (k : Nat) : tenorref1_Less.f (k + 1) (a : Int) (b : Int) = some (decide (keyN a < keyN b)) := by
  unfold tenorref1_Less.f
  rw [isnan_val ha, isnan_val hb]
  simp only [Option.bind_some]
  cases hn : nan a
  · rw [if_neg (by decide)]; exact less_j ha hb _ (by rw [hn]; rfl) k
  · rw [if_pos rfl]; exact less_j ha hb _ (by rw [hn]; rfl) k

/-! ### lists -/
def W (L : List Nat) : Prop := ∀ x ∈ L, x < 18446744073709551616
def ints (L : List Nat) : List Int := L.map fun (x : Nat) => (x : Int)
theorem ints_len (L : List Nat) : (ints L).length = L.length := by simp [ints]
theorem rd_ints (L : List Nat) (i : Nat) (h : i < L.length) : rd (ints L) (i : Int) = ((L.getD i 0 : Nat) : Int) := by
  unfold rd ints; rw [Int.toNat_natCast, List.getD_eq_getElem?_getD, List.getD_eq_getElem?_getD, List.getElem?_map, List.getElem?_eq_getElem h]; rfl
theorem rdOf_nat (L : List Nat) (i : Nat) : rdOf (0 : Nat) L (i : Int) = L.getD i 0 := by unfold rdOf; rw [Int.toNat_natCast]
theorem W.getD {L : List Nat} (h : W L) (i : Nat) : L.getD i 0 < 18446744073709551616 := by
  rw [List.getD_eq_getElem?_getD]
  cases hi : L[i]? with
  | none => decide
  | some x => exact h x (List.mem_of_getElem? hi)

theorem bits_loop (L : List Nat) (hl : L.length < 1000000) : ∀ (d i : Nat), i + d = L.length → ∀ k, d < k → tenorlaw1_Bits.l0 k L (ints (L.take i)) (i : Int) = some (ints L) := by
  intro d
  induction d with
  | zero =>
    intro i hi k hk
    obtain ⟨k, rfl⟩ : ∃ m, k = m + 1 := ⟨k - 1, by omega⟩
    simp only [tenorlaw1_Bits.l0]
    rw [if_neg (by omega), List.take_of_length_le (by omega)]
  | succ d ih =>
    intro i hi k hk
    obtain ⟨k, rfl⟩ : ∃ m, k = m + 1 := ⟨k - 1, by omega⟩
    simp only [tenorlaw1_Bits.l0]
    have hlen : (ints (L.take i)).length < 17592186044416 := by rw [ints_len, List.length_take]; omega
    rw [if_pos (by omega), if_pos (by omega), rdOf_nat]
    unfold api_Bits.f
    simp only [Option.bind_some]
    rw [if_pos hlen, wrap_up (by omega)]
    have e : ints (L.take i) ++ [((L.getD i 0 : Nat) : Int)] = ints (L.take (i + 1)) := by
      have e0 : L.take (i + 1) = L.take i ++ [L.getD i 0] := by
        rw [List.take_add_one, List.getD_eq_getElem?_getD, List.getElem?_eq_getElem (by omega)]; rfl
      rw [e0]; unfold ints; rw [List.map_append]; rfl
    rw [e]
    exact ih (i + 1) (by omega) k (by omega)
theorem bits_ev {L : List Nat} (hl : L.length < 1000000) : Ev (fun k => tenorlaw1_Bits.f k L) (ints L) :=
  ⟨L.length + 1, fun k hk => by
    show tenorlaw1_Bits.f k L = _
    unfold tenorlaw1_Bits.f
    exact bits_loop L hl L.length 0 (by omega) k (by omega)⟩

theorem are_loop {A B : List Nat} (ha : W A) (hb : W B) (hl : A.length = B.length) (hc : A.length < 1000000) (h : ∀ j, j < A.length → same (A.getD j 0) (B.getD j 0) = true) :
    ∀ (d i : Nat), i + d = A.length → ∀ k, d < k → tenorlaw1_Are.l0 k A (ints B) (i : Int) = some true := by
  intro d
  induction d with
  | zero =>
    intro i hi k hk
    obtain ⟨k, rfl⟩ : ∃ m, k = m + 1 := ⟨k - 1, by omega⟩
    simp only [tenorlaw1_Are.l0]
    rw [if_neg (by omega)]
  | succ d ih =>
    intro i hi k hk
    obtain ⟨k, rfl⟩ : ∃ m, k = m + 1 := ⟨k - 1, by omega⟩
    simp only [tenorlaw1_Are.l0]
    rw [if_pos (by omega), if_pos (by omega), ints_len, if_pos (by omega), rdOf_nat, rd_ints _ _ (by omega), is_val (ha.getD i) (hb.getD i), h i (by omega)]
    simp only [Option.bind_some, if_true]
    rw [wrap_up (by omega)]
    exact ih (i + 1) (by omega) k (by omega)
theorem are_ev {A B : List Nat} (ha : W A) (hb : W B) (hl : A.length = B.length) (hc : A.length < 1000000) (h : ∀ j, j < A.length → same (A.getD j 0) (B.getD j 0) = true) : Ev (fun k => tenorlaw1_Are.f k A (ints B)) true := by
  refine ⟨A.length + 1, fun k hk => ?_⟩
  show tenorlaw1_Are.f k A (ints B) = some true
  unfold tenorlaw1_Are.f
  rw [ints_len, if_pos (by omega)]
  exact are_loop ha hb hl hc h A.length 0 (by omega) k (by omega)

/-! ### the reference's sort -/
def le (a b : Nat) : Prop := keyN a ≤ keyN b
def Srt (L : List Nat) : Prop := L.Pairwise le
theorem ints_append (A B : List Nat) : ints (A ++ B) = ints A ++ ints B := by simp [ints]
theorem ints_cons (a : Nat) (B : List Nat) : ints (a :: B) = (a : Int) :: ints B := rfl
theorem set_mid (A : List Nat) (h v : Nat) (B : List Nat) : (ints (A ++ h :: B)).set A.length (v : Int) = ints (A ++ v :: B) := by
  rw [ints_append, ints_append, ints_cons, ints_cons]
  have : A.length = (ints A).length := (ints_len A).symm
  rw [this, List.set_append_right _ _ (by omega)]
  simp
theorem getD_mid (A : List Nat) (h : Nat) (B : List Nat) : (A ++ h :: B).getD A.length 0 = h := by
  rw [List.getD_eq_getElem?_getD, List.getElem?_append_right (by omega)]; simp
/-- the inner loop puts v into its place. -/
theorem ins_loop {L : List Nat} (hw : W L) (hc : L.length < 1000000) {i : Nat} (hi : i < L.length) :
    ∀ (p : Nat) (A : List Nat) (h : Nat) (B : List Nat), A.length = p → W A → (A ++ h :: B).length ≤ L.length → Srt (A ++ B) → (∀ b ∈ B, keyN (L.getD i 0) < keyN b) →
    ∃ C, C.Perm (A ++ L.getD i 0 :: B) ∧ Srt C ∧ ∀ r, Ev (fun k => tenorref1_Sort.l0 k (ints L) (ints C) ((i + 1 : Nat) : Int)) r → Ev (fun k => tenorref1_Sort.l1 k (ints L) (ints (A ++ h :: B)) (i : Int) (p : Int)) r := by
  intro p
  induction p with
  | zero =>
    intro A h B hA hWA hlen hs hB
    have hA' : A = [] := List.length_eq_zero_iff.1 hA
    subst hA'
    refine ⟨L.getD i 0 :: B, List.Perm.refl _, List.pairwise_cons.2 ⟨fun b hb => Nat.le_of_lt (hB b hb), hs⟩, fun r hr => Ev.step (fun k => ?_) hr⟩
    have e := set_mid [] h (L.getD i 0) B
    rw [List.length_nil] at e
    simp only [tenorref1_Sort.l1]
    rw [if_neg (by decide), if_pos (by omega), ints_len, if_pos (by omega), if_pos (by decide), ints_len, if_pos (by simp), rd_ints _ _ hi, show (((0 : Nat) : Int)).toNat = 0 from rfl, e, wrap_up (by omega)]
    rfl
  | succ p ih =>
    intro A h B hA hWA hlen hs hB
    obtain ⟨A', y, rfl⟩ : ∃ A' y, A = A' ++ [y] := by
      rcases List.eq_nil_or_concat A with h0 | ⟨A', y, h0⟩
      · subst h0; simp at hA
      · exact ⟨A', y, by rw [h0, List.concat_eq_append]⟩
    have hA' : A'.length = p := by simpa using hA
    have hy : y < 18446744073709551616 := hWA y (by simp)
    have hWA' : W A' := fun x hx => hWA x (by simp [hx])
    have hin : (A' ++ [y] ++ h :: B).length = A'.length + 2 + B.length := by simp; omega
    have eA : A' ++ [y] ++ h :: B = A' ++ y :: (h :: B) := by simp
    have hg : rd (ints (A' ++ [y] ++ h :: B)) (p : Int) = (y : Int) := by
      rw [rd_ints _ _ (by omega), eA, ← hA', getD_mid]
    have hwp : wrap64 (((p + 1 : Nat) : Int) - 1) = (p : Int) := wrap_dn (by omega)
    have ht : (((p + 1 : Nat) : Int)).toNat = p + 1 := rfl
    by_cases c : keyN (L.getD i 0) < keyN y
    · have e1 : (ints (A' ++ [y] ++ h :: B)).set (p + 1) (y : Int) = ints (A' ++ y :: (y :: B)) := by
        have := set_mid (A' ++ [y]) h y B
        rw [List.length_append, hA', List.length_singleton] at this
        rw [this]; simp
      obtain ⟨C, hp, hsC, hk⟩ := ih A' y (y :: B) hA' hWA' (by simp at hlen ⊢; omega) (by simpa [Srt] using hs) (fun b hb => by
        rcases List.mem_cons.1 hb with rfl | hb
        · exact c
        · exact hB b hb)
      refine ⟨C, hp.trans ?_, hsC, fun r hr => ?_⟩
      · have : (A' ++ L.getD i 0 :: y :: B).Perm (A' ++ y :: L.getD i 0 :: B) := List.Perm.append_left _ (List.Perm.swap _ _ _)
        refine this.trans ?_
        rw [show A' ++ [y] ++ L.getD i 0 :: B = A' ++ y :: L.getD i 0 :: B by simp]
      · obtain ⟨K, hK⟩ := hk r hr
        refine ⟨K + 2, fun k hk' => ?_⟩
        obtain ⟨k, rfl⟩ : ∃ m, k = m + 1 + 1 := ⟨k - 2, by omega⟩
        show tenorref1_Sort.l1 (k + 1 + 1) (ints L) (ints (A' ++ [y] ++ h :: B)) (i : Int) ((p + 1 : Nat) : Int) = some r
        rw [tenorref1_Sort.l1]
        rw [if_pos (by omega), if_pos (by omega), ints_len, if_pos (by omega), hwp, if_pos (by omega), ints_len, if_pos (by omega), rd_ints _ _ hi, hg, less_val (hw.getD i) hy, decide_eq_true c]
        simp only [Option.bind_some, if_true]
        rw [if_pos (by omega), if_pos (by omega), ht, e1]
        exact hK (k + 1) (by omega)
    · have e1 : (ints (A' ++ [y] ++ h :: B)).set (p + 1) ((L.getD i 0 : Nat) : Int) = ints (A' ++ [y] ++ L.getD i 0 :: B) := by
        have := set_mid (A' ++ [y]) h (L.getD i 0) B
        rw [List.length_append, hA', List.length_singleton] at this
        exact this
      refine ⟨A' ++ [y] ++ L.getD i 0 :: B, List.Perm.refl _, ?_, fun r hr => ?_⟩
      · have hs2 := List.pairwise_append.1 hs
        refine List.pairwise_append.2 ⟨hs2.1, List.pairwise_cons.2 ⟨fun b hb => Nat.le_of_lt (hB b hb), hs2.2.1⟩, fun a ha b hb => ?_⟩
        rcases List.mem_cons.1 hb with rfl | hb
        · have h1 := (List.pairwise_append.1 hs2.1).2.2
          rcases List.mem_append.1 ha with ha | ha
          · exact Nat.le_trans (h1 a ha y (by simp)) (by omega)
          · rw [List.mem_singleton.1 ha]; unfold le; omega
        · exact hs2.2.2 a ha b hb
      · obtain ⟨K, hK⟩ := hr
        refine ⟨K + 2, fun k hk' => ?_⟩
        obtain ⟨k, rfl⟩ : ∃ m, k = m + 1 + 1 := ⟨k - 2, by omega⟩
        show tenorref1_Sort.l1 (k + 1 + 1) (ints L) (ints (A' ++ [y] ++ h :: B)) (i : Int) ((p + 1 : Nat) : Int) = some r
        rw [tenorref1_Sort.l1]
        rw [if_pos (by omega), if_pos (by omega), ints_len, if_pos (by omega), hwp, if_pos (by omega), ints_len, if_pos (by omega), rd_ints _ _ hi, hg, less_val (hw.getD i) hy, decide_eq_false c]
        simp only [Option.bind_some, Bool.false_eq_true, if_false]
        rw [if_pos (by omega), if_pos (by omega), ht, e1, wrap_up (by omega)]
        exact hK (k + 1) (by omega)
theorem sort_loop {L : List Nat} (hw : W L) (hc : L.length < 1000000) : ∀ (d i : Nat) (S : List Nat), i + d = L.length → S.Perm (L.take i) → Srt S →
    ∃ C, C.Perm L ∧ Srt C ∧ Ev (fun k => tenorref1_Sort.l0 k (ints L) (ints S) (i : Int)) (ints C) := by
  intro d
  induction d with
  | zero =>
    intro i S hi hp hs
    refine ⟨S, by rw [List.take_of_length_le (by omega)] at hp; exact hp, hs, ⟨1, fun k hk => ?_⟩⟩
    obtain ⟨k, rfl⟩ : ∃ m, k = m + 1 := ⟨k - 1, by omega⟩
    show tenorref1_Sort.l0 (k + 1) (ints L) (ints S) (i : Int) = some (ints S)
    simp only [tenorref1_Sort.l0]
    rw [if_neg (by rw [ints_len]; omega)]
  | succ d ih =>
    intro i S hi hp hs
    have hlS : S.length = i := by rw [hp.length_eq, List.length_take]; omega
    have hWS : W S := fun x hx => hw x (List.mem_of_mem_take (hp.subset hx))
    obtain ⟨C, hpC, hsC, hk⟩ := ins_loop hw hc (i := i) (by omega) i S (L.getD i 0) [] hlS hWS (by simp; omega) (by simpa using hs) (fun b hb => by cases hb)
    have hp2 : C.Perm (L.take (i + 1)) := by
      refine hpC.trans ?_
      rw [List.take_add_one, List.getElem?_eq_getElem (by omega)]
      have e : L.getD i 0 = L[i] := by rw [List.getD_eq_getElem?_getD, List.getElem?_eq_getElem (by omega)]; rfl
      rw [e]
      exact hp.append_right _
    obtain ⟨D, hpD, hsD, hev⟩ := ih (i + 1) C (by omega) hp2 hsC
    refine ⟨D, hpD, hsD, Ev.step (fun k => ?_) (hk _ hev)⟩
    simp only [tenorref1_Sort.l0]
    rw [if_pos (by rw [ints_len]; omega), if_pos (by omega), if_pos (by rw [ints_len]; omega), rd_ints _ _ (by omega), ints_len, hlS, ints_append]
    rfl
theorem sort_ev {L : List Nat} (hw : W L) (hc : L.length < 1000000) : ∃ C, C.Perm L ∧ Srt C ∧ Ev (fun k => tenorref1_Sort.f k (ints L)) (ints C) := by
  obtain ⟨C, h1, h2, h3⟩ := sort_loop hw hc L.length 0 [] (by omega) (by simp) List.Pairwise.nil
  exact ⟨C, h1, h2, Ev.congr (fun k => rfl) h3⟩
/-- two sorted lists of the same floats have the same keys. -/
theorem srt_keys {A B : List Nat} (hp : A.Perm B) (ha : Srt A) (hb : Srt B) : A.map keyN = B.map keyN := by
  refine List.Perm.eq_of_pairwise (le := fun x y => x ≤ y) (fun a b _ _ h1 h2 => Nat.le_antisymm h1 h2) ?_ ?_ (hp.map keyN)
  · exact List.pairwise_map.2 ha
  · exact List.pairwise_map.2 hb
theorem srt_same {A B : List Nat} (hwA : W A) (hwB : W B) (hp : A.Perm B) (ha : Srt A) (hb : Srt B) (j : Nat) (hj : j < A.length) : same (A.getD j 0) (B.getD j 0) = true := by
  have h := srt_keys hp ha hb
  have hl := hp.length_eq
  refine key_same (hwA.getD j) (hwB.getD j) ?_
  have h2 : (A.map keyN)[j]? = (B.map keyN)[j]? := by rw [h]
  rw [List.getElem?_map, List.getElem?_map, List.getElem?_eq_getElem hj, List.getElem?_eq_getElem (by omega)] at h2
  rw [List.getD_eq_getElem?_getD, List.getD_eq_getElem?_getD, List.getElem?_eq_getElem hj, List.getElem?_eq_getElem (by omega)]
  simpa using h2
/-! ### the program's sort -/
theorem ext_all {α : Type} (d : Array α) (n : Nat) (h : n = d.size) : d.extract 0 n = d := by
  subst h
  exact Array.extract_size
theorem sortF_facts {L : List Nat} (hw : W L) : (sortF L).Perm L ∧ Srt (sortF L) := by
  obtain ⟨d, hd⟩ : ∃ d, d = (L.map (fun x => (Fin.ofNat 18446744073709551616 x : W64))).toArray := ⟨_, rfl⟩
  have hds : d.size = L.length := by rw [hd]; simp
  obtain ⟨⟨h1, _, h3⟩, h4⟩ := Go.Sort.pdq_sorts (ltOf cfS) swoS d 0 d.size (Lib.bitLen d.size) true true (Nat.zero_le _) (Nat.le_refl _) (Or.inl rfl)
  have he : sortF L = (Go.Sort.pdq (ltOf cfS) d 0 d.size (Lib.bitLen d.size) true true).toList.map Fin.val := by
    unfold sortF; rw [← hd, ← hds]
  rw [he]
  revert h1 h3 h4
  generalize Go.Sort.pdq (ltOf cfS) d 0 d.size (Lib.bitLen d.size) true true = e
  intro h4 h1 h3
  rw [ext_all e _ h1.symm, ext_all d _ rfl] at h3
  constructor
  · have h5 := h3.map Fin.val
    rw [hd] at h5
    have h6 := fin_back L hw
    rw [show ((L.map (fun x => (Fin.ofNat 18446744073709551616 x : W64))).toArray.toList) = L.map (fun x => (Fin.ofNat 18446744073709551616 x : W64)) from rfl, h6] at h5
    exact h5
  · unfold Srt
    rw [List.pairwise_map, List.pairwise_iff_getElem]
    intro i j hi hj hij
    have hj' : j < e.size := by simpa using hj
    have h7 := h4 i j (Nat.zero_le _) hij (by omega)
    rw [getElem!_pos e i (by omega), getElem!_pos e j hj', ltS] at h7
    have h8 := of_decide_eq_false h7
    show keyN _ ≤ keyN _
    simp only [Array.getElem_toList]
    omega
theorem W.perm {A B : List Nat} (h : W B) (hp : A.Perm B) : W A := fun x hx => h x (hp.subset hx)
theorem less_f {a b : Nat} (ha : a < 18446744073709551616) (hb : b < 18446744073709551616) : ieee_Less.f a b = some (decide (keyN a < keyN b)) := by
  unfold ieee_Less.f; rw [if_pos ⟨ha, hb⟩]

/-! ### numbers -/
theorem rnum_f {a : Nat} (h : a < 18446744073709551616) : tenorref1_Number.f (a : Int) = some (fin a) := by
  unfold tenorref1_Number.f; rw [andNot_sign a h]; exact congrArg some (fin_int a)
theorem rdi {L : List Nat} {i : Nat} (h : i < L.length) : rd (ints L) (i : Int) = ((L[i] : Nat) : Int) := by
  rw [rd_ints L i h, List.getD_eq_getElem?_getD, List.getElem?_eq_getElem h]; rfl
theorem rnums_go {L : List Nat} (hw : W L) (hc : L.length < 100000000) : ∀ d i : Nat, i + d = L.length → Evt (fun k => tenorref25_numbers.l0 k (ints L) (i : Int)) (if allF (L.drop i) = true then 0 else 91) := by
  intro d
  induction d with
  | zero =>
    intro i hi
    rw [List.drop_of_length_le (by omega), if_pos (by rfl)]
    refine Evt.last fun k => ?_
    rw [tenorref25_numbers.l0, if_neg (by rw [ints_len]; omega)]
  | succ d ih =>
    intro i hi
    have hlt : i < L.length := by omega
    refine Evt.next (f := fun k => (tenorref1_Number.f ((L[i] : Nat) : Int)).bind fun t128 => (if t128 = true then (tenorref25_numbers.l0 k (ints L) ((i + 1 : Nat) : Int)) else (some 91))) ?_ (fun k => by
      rw [tenorref25_numbers.l0, if_pos (by rw [ints_len]; omega), if_pos (by omega), rdi hlt, wrap_up (by omega)])
    refine Evt.after (rnum_f (hw _ (List.getElem_mem hlt))) ?_
    rw [List.drop_eq_getElem_cons hlt]
    have e : allF (L[i] :: L.drop (i + 1)) = (fin L[i] && allF (L.drop (i + 1))) := rfl
    rw [e]
    cases hf : fin L[i]
    · rw [Bool.false_and, if_neg (by decide)]
      exact Evt.ifF (by decide) (Evt.const fun _ => rfl)
    · rw [Bool.true_and]
      exact Evt.ifT rfl (ih (i + 1) (by omega))
theorem rnums_e {L : List Nat} (hw : W L) (hc : L.length ≤ 1000) : Evt (fun k => tenorref25_numbers.f k (ints L)) (chkN L) := by
  have hj : ∀ b : Bool, b = decide (L.length = 0) → Evt (fun k => tenorref25_numbers.j0 k (ints L) b) (chkN L) := by
    intro b hb
    unfold chkN
    by_cases c : L.length = 0
    · rw [decide_eq_true c] at hb
      subst hb
      rw [if_pos c]
      exact Evt.last fun k => by rw [tenorref25_numbers.j0, if_pos rfl]
    · rw [decide_eq_false c] at hb
      subst hb
      rw [if_neg c, if_neg (by omega)]
      have := rnums_go hw (by omega) L.length 0 (by omega)
      rw [List.drop_zero] at this
      exact Evt.next this fun k => by rw [tenorref25_numbers.j0, if_neg (by decide)]; rfl
  unfold tenorref25_numbers.f
  rw [ints_len]
  by_cases c : L.length = 0
  · exact Evt.ifT (by omega) (hj true (decide_eq_true c).symm)
  · exact Evt.ifF (by omega) (hj _ (by rw [decide_eq_false c, decide_eq_false (by omega)]))
/-! ### the quantile -/
theorem rquant_go {L C : List Nat} (hw : W L) (hp : C.Perm L) (hS : Ev (fun k => tenorref1_Sort.f k (ints L)) (ints C)) (h1 : 1 ≤ L.length) (hc : L.length ≤ 1000) {p q : Nat} (hq : 1 ≤ q) (hqm : q ≤ 1000000) (hpq : p ≤ q) :
    ∀ d j : Nat, 1 ≤ j → j + d = kth L.length p q → Evt (fun k => tenorref25_Quantile.l0 k (ints L) (p : Int) (q : Int) (j : Int)) ((C.getD (kth L.length p q - 1) 0 : Nat), 0) := by
  obtain ⟨k1, k2, k3⟩ := kth_le hpq hq h1
  have hnp : L.length * p ≤ 1000 * 1000000 := Nat.mul_le_mul hc (by omega)
  have hwp : wrap64 ((L.length : Int) * (p : Int)) = ((L.length * p : Nat) : Int) := by
    rw [show (L.length : Int) * (p : Int) = ((L.length * p : Nat) : Int) by simp]; exact wrap_nat (by omega)
  have hcl : C.length = L.length := hp.length_eq
  have hjq : ∀ j : Nat, j ≤ 1000 → wrap64 ((j : Int) * (q : Int)) = ((j * q : Nat) : Int) := fun j hj => by
    have : j * q ≤ 1000 * 1000000 := Nat.mul_le_mul hj hqm
    rw [show (j : Int) * (q : Int) = ((j * q : Nat) : Int) by simp]; exact wrap_nat (by omega)
  intro d
  induction d with
  | zero =>
    intro j hj1 hj
    obtain rfl : j = kth L.length p q := by omega
    refine Evt.next (f := fun k => (tenorref1_Sort.f k (ints L)).bind fun t130 => (if 0 ≤ (((kth L.length p q - 1 : Nat)) : Int) then (if (((kth L.length p q - 1 : Nat)) : Int) < (t130.length : Int) then (some (rd t130 ((kth L.length p q - 1 : Nat) : Int), 0)) else (none)) else (none))) ?_ (fun k => by
      rw [tenorref25_Quantile.l0, ints_len, hjq _ (by omega), hwp, if_neg (by omega), show wrap64 ((kth L.length p q : Nat) - 1 : Int) = ((kth L.length p q - 1 : Nat) : Int) by rw [wrap_id (by omega) (by omega)]; omega])
    refine Evt.bind (show Evt _ _ from hS) ?_
    refine Evt.ifT (by omega) (Evt.ifT (by rw [ints_len]; omega) (Evt.const fun _ => ?_))
    rw [rd_ints C _ (by omega)]
  | succ d ih =>
    intro j hj1 hj
    have hlt : j * q < L.length * p := by
      have e : kth L.length p q = (L.length * p + q - 1) / q := by unfold kth at hj ⊢; omega
      have h2 : j + 1 ≤ (L.length * p + q - 1) / q := by rw [← e]; omega
      rw [Nat.le_div_iff_mul_le (by omega), Nat.add_mul, Nat.one_mul] at h2
      omega
    refine Evt.next (ih (j + 1) (by omega) (by omega)) fun k => by
      rw [tenorref25_Quantile.l0, ints_len, hjq _ (by omega), hwp, if_pos (by omega), wrap_up (by omega)]
theorem rquant_e {L : List Nat} (hw : W L) (hc : L.length ≤ 1000) (p q : Int) :
    ∃ v : Nat, v < 18446744073709551616 ∧ same (quantF L p q).1 v = true ∧ (quantF L p q).1 < 18446744073709551616 ∧ Evt (fun k => tenorref25_Quantile.f k (ints L) p q) ((v : Int), (quantF L p q).2) := by
  unfold tenorref25_Quantile.f
  by_cases hk : chkN L = 0
  · obtain ⟨c1, c2, c3⟩ := chkN_ok hk
    have hj : ∀ b : Bool, Evt (fun k => tenorref25_Quantile.j0 (k) (ints L) p q true) ((0 : Nat), 1) := fun _ => Evt.last fun k => by rw [tenorref25_Quantile.j0, if_pos rfl]; rfl
    by_cases hb : q < 1 ∨ q > 1000000 ∨ p < 0 ∨ p > q
    · have e : quantF L p q = (0, 1) := by unfold quantF; rw [if_pos hk, if_pos hb]
      rw [e]
      refine ⟨0, by decide, same_refl 0, by decide, ?_⟩
      refine (rnums_e hw hc).bind ?_
      refine Evt.ifT hk ?_
      by_cases h1 : q < 1
      · exact Evt.ifT h1 (hj true)
      · refine Evt.ifF h1 ?_
        by_cases h2 : q > 1000000
        · exact Evt.ifT h2 (hj true)
        · refine Evt.ifF h2 ?_
          by_cases h3 : p < 0
          · exact Evt.ifT h3 (hj true)
          · refine Evt.ifF h3 ?_
            have h4 : p > q := by omega
            rw [decide_eq_true h4]
            exact hj true
    · have e : quantF L p q = ((sortF L).getD (kth L.length p.toNat q.toNat - 1) 0, 0) := by unfold quantF; rw [if_pos hk, if_neg hb]
      obtain ⟨C, hp, hs, hS⟩ := sort_ev hw (by omega)
      obtain ⟨sp, ss⟩ := sortF_facts hw
      obtain ⟨k1, k2, k3⟩ := kth_le (n := L.length) (p := p.toNat) (q := q.toNat) (by omega) (by omega) c1
      have hwS : W (sortF L) := hw.perm sp
      have hwC : W C := hw.perm hp
      rw [e]
      refine ⟨C.getD (kth L.length p.toNat q.toNat - 1) 0, hwC.getD _, srt_same hwS hwC (sp.trans hp.symm) ss hs _ (by rw [sp.length_eq]; omega), hwS.getD _, ?_⟩
      refine (rnums_e hw hc).bind ?_
      refine Evt.ifT hk (Evt.ifF (by omega) (Evt.ifF (by omega) (Evt.ifF (by omega) ?_)))
      rw [decide_eq_false (show ¬ p > q by omega)]
      have h := rquant_go hw hp hS c1 hc (p := p.toNat) (q := q.toNat) (by omega) (by omega) (by omega) (kth L.length p.toNat q.toNat - 1) 1 (by omega) (by omega)
      rw [show ((p.toNat : Nat) : Int) = p by omega, show ((q.toNat : Nat) : Int) = q by omega] at h
      exact Evt.next h fun k => by rw [tenorref25_Quantile.j0, if_neg (by decide)]; rfl
  · have e : quantF L p q = (0, chkN L) := by unfold quantF; rw [if_neg hk]
    rw [e]
    refine ⟨0, by decide, same_refl 0, (show (0 : Nat) < 18446744073709551616 by decide), ?_⟩
    refine (rnums_e hw hc).bind ?_
    exact Evt.ifF hk (Evt.const fun _ => rfl)
/-! ### the worst -/
def wst (L : List Nat) : Nat → Nat → Nat → Nat
  | 0, _, at_ => at_
  | d + 1, i, at_ => wst L d (i + 1) (if keyN (L.getD i 0) < keyN (L.getD at_ 0) then i else at_)
def worstE (L : List Nat) : Int × Int := if chkN L = 0 then ((wst L L.length 0 0 : Nat), 0) else (0, chkN L)
theorem getD_at {L : List Nat} {i : Nat} (h : i < L.length) : L.getD i 0 = L[i] := by rw [List.getD_eq_getElem?_getD, List.getElem?_eq_getElem h]; rfl
theorem worst_go {L : List Nat} (hw : W L) (hc : L.length ≤ 1000) : ∀ d i a : Nat, i + d = L.length → a < L.length → Evt (fun k => grid_Worst.l0 k L (a : Int) L (L.length : Int) (i : Int)) ((wst L d i a : Nat), 0) := by
  intro d
  induction d with
  | zero =>
    intro i a hi ha
    exact Evt.last fun k => by rw [grid_Worst.l0, if_neg (by omega)]; rfl
  | succ d ih =>
    intro i a hi ha
    have hlt : i < L.length := by omega
    refine Evt.next (f := fun k => if decide (keyN (L.getD i 0) < keyN (L.getD a 0)) = true then (grid_Worst.l0 k L (i : Int) L (L.length : Int) ((i + 1 : Nat) : Int)) else (grid_Worst.l0 k L (a : Int) L (L.length : Int) ((i + 1 : Nat) : Int))) ?_ (fun k => by
      rw [grid_Worst.l0, if_pos (by omega), if_pos (by omega), if_pos (by omega), if_pos (by omega), if_pos (by omega), rdf_at hlt, rdf_at ha, less_f (hw _ (List.getElem_mem hlt)) (hw _ (List.getElem_mem ha)), Option.bind_some, wrap_up (by omega), getD_at hlt, getD_at ha])
    rw [wst]
    by_cases c : keyN (L.getD i 0) < keyN (L.getD a 0)
    · rw [if_pos c]; exact Evt.ifT (decide_eq_true c) (ih _ _ (by omega) hlt)
    · rw [if_neg c]; exact Evt.ifF (by simpa using c) (ih _ _ (by omega) ha)
theorem worst_e {L : List Nat} (hw : W L) (hc : L.length ≤ 1000) : Evt (fun k => grid_Worst.f k L) (worstE L) := by
  unfold grid_Worst.f
  refine (check_e L hw (by omega)).bind ?_
  unfold worstE
  by_cases hk : chkN L = 0
  · obtain ⟨c1, c2, c3⟩ := chkN_ok hk
    rw [if_pos hk]
    exact Evt.ifT hk (worst_go hw hc L.length 0 0 (by omega) (by omega))
  · rw [if_neg hk]
    exact Evt.ifF hk (Evt.const fun _ => rfl)
theorem rworst_go {L : List Nat} (hw : W L) (hc : L.length ≤ 1000) : ∀ d i a : Nat, i + d = L.length → a < L.length → Evt (fun k => tenorref25_Worst.l0 k (ints L) (a : Int) (i : Int)) ((wst L d i a : Nat), 0) := by
  intro d
  induction d with
  | zero =>
    intro i a hi ha
    exact Evt.last fun k => by rw [tenorref25_Worst.l0, if_neg (by rw [ints_len]; omega)]; rfl
  | succ d ih =>
    intro i a hi ha
    have hlt : i < L.length := by omega
    refine Evt.next (f := fun k => (tenorref1_Less.f k ((L[i] : Nat) : Int) ((L[a] : Nat) : Int)).bind fun t137 => (if t137 = true then (tenorref25_Worst.l0 k (ints L) (i : Int) ((i + 1 : Nat) : Int)) else (tenorref25_Worst.l0 k (ints L) (a : Int) ((i + 1 : Nat) : Int)))) ?_ (fun k => by
      rw [tenorref25_Worst.l0, ints_len, if_pos (by omega), if_pos (by omega), if_pos (by omega), if_pos (by omega), rdi hlt, rdi ha, wrap_up (by omega)])
    have hless : Evt (fun k => tenorref1_Less.f k ((L[i] : Nat) : Int) ((L[a] : Nat) : Int)) (decide (keyN L[i] < keyN L[a])) := Evt.next (f := fun _ => some (decide (keyN L[i] < keyN L[a]))) (Evt.const fun _ => rfl) fun k => less_val (hw _ (List.getElem_mem hlt)) (hw _ (List.getElem_mem ha)) k
    refine hless.bind ?_
    rw [wst, getD_at hlt, getD_at ha]
    by_cases c : keyN L[i] < keyN L[a]
    · rw [if_pos c]; exact Evt.ifT (decide_eq_true c) (ih _ _ (by omega) hlt)
    · rw [if_neg c]; exact Evt.ifF (by simpa using c) (ih _ _ (by omega) ha)
theorem rworst_e {L : List Nat} (hw : W L) (hc : L.length ≤ 1000) : Evt (fun k => tenorref25_Worst.f k (ints L)) (worstE L) := by
  unfold tenorref25_Worst.f
  refine (rnums_e hw hc).bind ?_
  unfold worstE
  by_cases hk : chkN L = 0
  · obtain ⟨c1, c2, c3⟩ := chkN_ok hk
    rw [if_pos hk]
    refine Evt.ifT hk ?_
    have h := rworst_go hw hc (L.length - 1) 1 0 (by omega) (by omega)
    have e : wst L L.length 0 0 = wst L (L.length - 1) 1 0 := by
      obtain ⟨m, hm⟩ : ∃ m, L.length = m + 1 := ⟨L.length - 1, by omega⟩
      rw [hm, Nat.add_sub_cancel, wst, if_neg (by omega)]
    rw [e]; exact h
  · rw [if_neg hk]
    exact Evt.ifF hk (Evt.const fun _ => rfl)
/-! ### the mean -/
theorem isinf_val {a : Nat} (h : a < 18446744073709551616) : tenorref1_IsInf.f (a : Int) = some (isinf a) := by
  unfold tenorref1_IsInf.f; rw [andNot_sign a h]; exact congrArg some (isinf_int a)
theorem fin_isinf {a : Nat} (h : fin a = true) : isinf a = false := by
  unfold fin at h; unfold isinf
  have := of_decide_eq_true h
  exact decide_eq_false (by omega)
/-- a sum so far: a sign, a whole number, an exponent, worth so many units. -/
structure Sum (Z : Int) (s : Bool) (v : Nat) (e : Int) : Prop where
  worth : uv s v e = Z
  lo : -1074 ≤ e
  hi : e ≤ 971
theorem B_two (i : Nat) : B i = 2 ^ (32 * (2 * i)) := by unfold B; congr 1; omega
theorem Sum.len {Z : Int} {s : Bool} {v : Nat} {e : Int} (h : Sum Z s v e) (hZ : Z.natAbs < B 67) : (dg v).length ≤ 134 := by
  have h1 := uv_abs s v e
  rw [h.worth] at h1
  have hp := Nat.two_pow_pos (e + 2148).toNat
  have h2 : v * 1 ≤ v * 2 ^ (e + 2148).toNat := Nat.mul_le_mul_left _ hp
  have h3 : v < B 67 := by omega
  rw [B_two] at h3
  have := len_dg_le h3
  omega
theorem Sum.add {Z : Int} {s : Bool} {v : Nat} {e : Int} (h : Sum Z s v e) (hZ : Z.natAbs < B 67) {a : Nat} (ha : a < 18446744073709551616) (hf : fin a = true) :
    ∃ s' v' e', Sum (Z + units a) s' v' e' ∧ Evt (fun k => tenorref3_Add.f k 0 s (dg v) e (a : Int)) (0, s', dg v', e') := by
  have hl := h.len hZ
  have ho := ofV_len a
  obtain ⟨o1, o2⟩ := ofE_bd hf
  have hlo := h.lo
  have hhi := h.hi
  refine ⟨(plusN s v e (ofS a) (ofV a) (ofE a)).1, (plusN s v e (ofS a) (ofV a) (ofE a)).2.1, (plusN s v e (ofS a) (ofV a) (ofE a)).2.2, ⟨?_, ?_, ?_⟩, ?_⟩
  rotate_left 3
  · unfold tenorref3_Add.f
    refine Evt.after ((isnan_val ha).trans (congrArg some (nan_fin hf))) (Evt.ifF (by decide) ?_)
    refine Evt.after ((isinf_val ha).trans (congrArg some (fin_isinf hf))) (Evt.ifF (by decide) ?_)
    refine Evt.ifT rfl ?_
    refine Evt.bind (show Evt _ _ from of_ev ha) ?_
    refine Evt.bind (show Evt _ _ from plus_ev (s1 := s) (v1 := v) (e1 := e) (s2 := ofS a) (v2 := ofV a) (e2 := ofE a) (by omega) (by omega) (by omega) (by omega)) ?_
    exact Evt.const fun _ => rfl
  · rw [plusN_uv (by omega) (by omega), h.worth, uv_of hf]
  · exact (plusN_e (lo := -1074) (hi := 971) ⟨hlo, hhi⟩ ⟨o1, o2⟩ (by decide)).1
  · exact (plusN_e (lo := -1074) (hi := 971) ⟨hlo, hhi⟩ ⟨o1, o2⟩ (by decide)).2
theorem sgn_false {n : Nat} : decide (((n : Nat) : Int) < 0) = false := decide_eq_false (by omega)
theorem Sum.over {Z : Int} {s : Bool} {v : Nat} {e : Int} (h : Sum Z s v e) (hZ : Z.natAbs < B 67) {n : Nat} (hn : 1 ≤ n) (hn2 : n < 1073741824) :
    Evt (fun k => tenorref3_Over.f k 0 s (dg v) e (n : Int)) ((overV Z false false n : Nat) : Int) := by
  have hl := h.len hZ
  have hlo := h.lo
  have hhi := h.hi
  unfold tenorref3_Over.f
  refine Evt.ifF (by decide) (Evt.ifF (by decide) (Evt.ifF (by decide) ?_))
  by_cases c : n = 1
  · subst c
    refine Evt.ifT (by rfl) ?_
    have hb : bl v ≤ 32 * (dg v).length := bl_le_of (dg_lt v)
    refine Evt.bind (show Evt _ _ from near_ev (v := v) (by omega) (by omega) s (by omega) (by omega)) ?_
    rw [near_uv (by omega), h.worth]
    exact Evt.const fun _ => rfl
  · refine Evt.ifF (by omega) ?_
    have hwh := whole_ev (m := (n : Int)) (by omega) (by omega)
    rw [sgn_false, Int.natAbs_natCast] at hwh
    refine Evt.bind (show Evt _ _ from hwh) ?_
    have hln : (dg n).length ≤ 1 := len_dg_le (by omega)
    refine Evt.bind (show Evt _ _ from nearOver_ev (s := s) (v := v) (e := e) (n := n) (by omega) (by omega) (by omega) (by omega) false) ?_
    rw [over_uv (by omega) (by omega), h.worth]
    · exact Evt.const fun _ => rfl
    · by_cases c0 : v = 0
      · exact Or.inl c0
      · right
        have h1 : 2 ^ 30 ≤ 2 ^ (e + 2148).toNat := pow_le (by omega)
        have h2 : 1 * 2 ^ (e + 2148).toNat ≤ v * 2 ^ (e + 2148).toNat := Nat.mul_le_mul_right _ (by omega)
        have h3 : n < 2 ^ 30 := by rw [show (2 : Nat) ^ 30 = 1073741824 from rfl]; exact hn2
        have h4 : 1 ≤ v * 2 ^ (e + 2148).toNat / n := by
          rw [Nat.le_div_iff_mul_le (by omega)]; omega
        omega
theorem rmean_go {L : List Nat} (hw : W L) (hf : allF L = true) (h1 : 1 ≤ L.length) (hc : L.length ≤ 1000) : ∀ (d i : Nat) (s : Bool) (v : Nat) (e : Int), i + d = L.length → Sum (sumL (L.take i)) s v e →
    Evt (fun k => tenorref25_Mean.l0 k (ints L) (i : Int) 0 s (dg v) e) ((meanF L : Nat), 0) := by
  have hsm : ∀ i : Nat, (sumL (L.take i)).natAbs < B 67 := fun i => sumL_lt _ (by rw [List.length_take]; omega)
  intro d
  induction d with
  | zero =>
    intro i s v e hi h
    rw [List.take_of_length_le (by omega)] at h
    refine Evt.next (f := fun k => (tenorref3_Over.f k 0 s (dg v) e (L.length : Int)).bind fun t169 => (some (t169, 0))) ?_ (fun k => by
      rw [tenorref25_Mean.l0, ints_len, if_neg (by omega)])
    refine (h.over (by have := hsm L.length; rwa [List.take_length] at this) h1 (by omega)).bind ?_
    exact Evt.const fun _ => rfl
  | succ d ih =>
    intro i s v e hi h
    have hlt : i < L.length := by omega
    obtain ⟨s', v', e', h', hE⟩ := h.add (hsm i) (hw _ (List.getElem_mem hlt)) (fin_of hf (List.getElem_mem hlt))
    rw [← sumL_next hlt] at h'
    refine Evt.next (f := fun k => (tenorref3_Add.f k 0 s (dg v) e ((L[i] : Nat) : Int)).bind fun bt163 => (tenorref25_Mean.l0 k (ints L) ((i + 1 : Nat) : Int) bt163.1 bt163.2.1 bt163.2.2.1 bt163.2.2.2)) ?_ (fun k => by
      rw [tenorref25_Mean.l0, ints_len, if_pos (by omega), if_pos (by omega), rdi hlt, wrap_up (by omega)])
    exact hE.bind (ih (i + 1) s' v' e' (by omega) h')
theorem rmean_e {L : List Nat} (hw : W L) (hc : L.length ≤ 1000) : Evt (fun k => tenorref25_Mean.f k (ints L)) (((meanE L).1 : Nat), (meanE L).2) := by
  unfold tenorref25_Mean.f
  refine (rnums_e hw hc).bind ?_
  unfold meanE
  by_cases hk : chkN L = 0
  · obtain ⟨c1, c2, c3⟩ := chkN_ok hk
    rw [if_pos hk]
    refine Evt.ifT hk ?_
    have := rmean_go hw c3 c1 hc L.length 0 false 0 0 (by omega) ⟨by rw [uv_zero, List.take_zero]; rfl, by decide, by decide⟩
    rw [dg_zero] at this
    exact this
  · rw [if_neg hk]
    exact Evt.ifF hk (Evt.const fun _ => rfl)
theorem meanE_lt {L : List Nat} : (meanE L).1 < 18446744073709551616 := by
  unfold meanE
  split
  · show meanF L < _
    unfold meanF
    rw [overV_fin]
    have := nearU_le ((sumL L).natAbs / L.length) (decide ((sumL L).natAbs % L.length ≠ 0))
    split <;> omega
  · show (0 : Nat) < _; decide
theorem law (L : List Nat) (hw : W L) (p q : Int) : ∃ k, tenorlaw25_GridNumbers.f k L p q = some true := by
  refine Evt.get ?_
  unfold tenorlaw25_GridNumbers.f
  by_cases hc : (L.length : Int) > 100
  · exact Evt.ifT hc (Evt.const fun _ => rfl)
  · refine Evt.ifF hc ?_
    obtain ⟨v, hv, hs, hq, hQ⟩ := rquant_e hw (by omega) p q
    refine Evt.bind (show Evt _ _ from bits_ev (L := L) (by omega)) ?_
    refine (quant_e L hw (by omega) p q).bind ?_
    refine hQ.bind ?_
    refine (worst_e hw (by omega)).bind ?_
    refine (rworst_e hw (by omega)).bind ?_
    refine (mean_e L hw (by omega)).bind ?_
    refine (rmean_e hw (by omega)).bind ?_
    refine Evt.after (is_val hq hv) ?_
    refine Evt.ifT hs (Evt.ifT rfl (Evt.ifT rfl (Evt.ifT rfl ?_)))
    refine Evt.after (is_val meanE_lt meanE_lt) ?_
    refine Evt.ifT (same_refl _) (Evt.ifT rfl ?_)
    refine Evt.bind (show Evt _ _ from are_ev hw hw rfl (by omega) (fun j _ => same_refl _)) ?_
    exact Evt.ifT rfl (Evt.const fun _ => rfl)
end Go.Proofs.YtepcegiciecogaaGreat.FK
