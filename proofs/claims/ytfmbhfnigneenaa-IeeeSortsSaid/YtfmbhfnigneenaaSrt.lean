/- The sorts, told as lists: both are sorted permutations, by the same keys. No Go and no memory here. -/
import Derived.Test.YtfmbhfnigneenaaFSortsx1
import Derived.Test.YtfmbhfnigneenaaFSortsx2
import Derived.Test.YtfmbhfnigneenaaFSorts0x1
import Derived.Test.YtfmbhfnigneenaaFSorts1x1
import Derived.Test.YtfmbhfnigneenaaFx
import Derived.Sort.Statements
import Derived.Sort.AssemblyPlain
namespace Go.Proofs.Ytfmbhfnigneenaa.FSorts
open Go.RowKit Go.Proofs.YtfmbhfnigneenaaW.PrintWords Go.Proofs.YtfmbhfnigneenaaW.PrintLast Go.Proofs.YtfmbhfnigneenaaW.PrintMore Go.Proofs.Ytfmbhfnigneenaa.FX Go.Shelf Tn

theorem wrap_id {x : Int} (h0 : -9223372036854775808 ≤ x) (h1 : x < 9223372036854775808) : wrap64 x = x := by unfold wrap64; omega
theorem wrap_up {i : Nat} (h : i < 1099511627776) : wrap64 ((i : Int) + 1) = ((i + 1 : Nat) : Int) := by rw [wrap_id (by omega) (by omega)]; rfl
theorem wrap_dn {i : Nat} (h : i < 1099511627776) : wrap64 (((i + 1 : Nat) : Int) - 1) = (i : Int) := by rw [wrap_id (by omega) (by omega)]; omega

/-! ### keys -/
theorem key_ok {a : Nat} (h : a < 18446744073709551616) (hn : nan a = false) : keyN a < 18446744073709551615 ∧ (keyN a : Int) = (if sgn a = true then 18446744073709551615 - (a : Int) else (a : Int) + 9223372036854775808) := by
  have hm : mag a ≤ 9218868437227405312 := mag_le_inf hn
  unfold keyN
  rw [if_neg (by rw [hn]; decide)]
  cases hs : sgn a
  · have := mag_pos hs
    rw [if_neg (by decide), if_neg (by decide)]; omega
  · have := mag_sgn h hs
    rw [if_pos rfl, if_pos rfl]; omega
theorem key_same {a b : Nat} (ha : a < 18446744073709551616) (hb : b < 18446744073709551616) (h : keyN a = keyN b) : same a b = true := by
  cases hn : nan a
  · cases hm : nan b
    · have h1 := key_ok ha hn
      have h2 := key_ok hb hm
      have he : a = b := by
        cases hs : sgn a <;> cases ht : sgn b
        · rw [hs, if_neg (by decide)] at h1; rw [ht, if_neg (by decide)] at h2; omega
        · have := mag_pos hs; have := mag_sgn hb ht; have := mag_lt a
          rw [hs, if_neg (by decide)] at h1; rw [ht, if_pos rfl] at h2; omega
        · have := mag_pos ht; have := mag_sgn ha hs; have := mag_lt b
          rw [hs, if_pos rfl] at h1; rw [ht, if_neg (by decide)] at h2; omega
        · rw [hs, if_pos rfl] at h1; rw [ht, if_pos rfl] at h2; omega
      rw [he]; exact same_refl b
    · have h1 := key_ok ha hn
      have h2 := key_nan hm
      omega
  · cases hm : nan b
    · have h1 := key_ok hb hm
      have h2 := key_nan hn
      omega
    · unfold same; rw [hn, hm]; simp

/-! ### what is printed, by value -/
theorem isnan_val {a : Nat} (h : a < 18446744073709551616) : tenorref1_IsNaN.f (a : Int) = some (nan a) := by
  unfold tenorref1_IsNaN.f; rw [andNot_sign a h]; exact congrArg some (nan_int a)
theorem size_val {a : Nat} (h : a < 18446744073709551616) : tenorref1_Size.f (a : Int) = some ((mag a : Nat) : Int) := by
  unfold tenorref1_Size.f; rw [andNot_sign a h]
theorem same_val {a b : Nat} (ha : a < 18446744073709551616) (hb : b < 18446744073709551616) : tenorref1_Same.f (a : Int) (b : Int) = some (same a b) := by
  unfold tenorref1_Same.f
  rw [isnan_val ha, isnan_val hb]
  by_cases c : (a : Int) = (b : Int)
  · rw [if_pos c]; exact congrArg some (same_eq c)
  · rw [if_neg c]
    simp only [Option.bind_some]
    cases hn : nan a
    · rw [if_neg (by decide)]; exact congrArg some (same_no c hn)
    · rw [if_pos rfl]; exact congrArg some (same_nan c hn)
theorem is_val {a b : Nat} (ha : a < 18446744073709551616) (hb : b < 18446744073709551616) : tenorlaw1_Is.f a (b : Int) = some (same a b) := by
  unfold tenorlaw1_Is.f api_Bits.f
  simp only [Option.bind_some, same_val ha hb]
theorem rank_val {a : Nat} (h : a < 18446744073709551616) : tenorref1_Rank.f (a : Int) = some (rank a, ok a) := by
  unfold tenorref1_Rank.f
  rw [isnan_val h]
  simp only [Option.bind_some]
  cases hn : nan a
  · rw [if_neg (by decide)]
    have ho : ok a = true := by rw [ok_nan, hn]; rfl
    have hm : mag a ≤ 9218868437227405312 := mag_le_inf hn
    rw [ho]
    cases hs : sgn a
    · have := mag_pos hs
      have h9 : ¬ (a : Int) ≥ 9223372036854775808 := by omega
      rw [if_neg h9, wrap_id (by omega) (by omega), this]
      rw [rank_pos hn (by rw [neg_ok hn, hs])]
    · have := mag_sgn h hs
      have h9 : (a : Int) ≥ 9223372036854775808 := by omega
      rw [if_pos h9, sub_sign h hs, wrap_nmag]
      rw [rank_neg hn (by rw [neg_ok hn, hs])]
  · rw [if_pos rfl, rank_nan hn, ok_nan, hn]; rfl
theorem lt_val {a b : Nat} (ha : a < 18446744073709551616) (hb : b < 18446744073709551616) (hn : nan a = false) (hm : nan b = false) : tenorref1_Lt.f (a : Int) (b : Int) = some (decide (rank a < rank b)) := by
  unfold tenorref1_Lt.f
  rw [rank_val ha, rank_val hb]
  simp only [Option.bind_some]
  rw [ok_nan, ok_nan, hn, hm, if_pos (by rfl), if_pos (by rfl)]
theorem key_rank {a b : Nat} (ha : a < 18446744073709551616) (hb : b < 18446744073709551616) (hn : nan a = false) (hm : nan b = false) (hz : ¬ (mag a = 0 ∧ mag b = 0)) : decide (rank a < rank b) = decide (keyN a < keyN b) := by
  have h1 := (key_ok ha hn).2
  have h2 := (key_ok hb hm).2
  rw [Bool.eq_iff_iff, decide_eq_true_iff, decide_eq_true_iff]
  cases hs : sgn a <;> cases ht : sgn b
  · rw [rank_pos hn (by rw [neg_ok hn, hs]), rank_pos hm (by rw [neg_ok hm, ht])]
    have := mag_pos hs; have := mag_pos ht
    rw [hs, if_neg (by decide)] at h1; rw [ht, if_neg (by decide)] at h2; omega
  · rw [rank_pos hn (by rw [neg_ok hn, hs]), rank_neg hm (by rw [neg_ok hm, ht])]
    have := mag_pos hs; have := mag_sgn hb ht; have := mag_lt a; have := mag_lt b
    rw [hs, if_neg (by decide)] at h1; rw [ht, if_pos rfl] at h2; omega
  · rw [rank_neg hn (by rw [neg_ok hn, hs]), rank_pos hm (by rw [neg_ok hm, ht])]
    have := mag_sgn ha hs; have := mag_pos ht; have := mag_lt a; have := mag_lt b
    rw [hs, if_pos rfl] at h1; rw [ht, if_neg (by decide)] at h2; omega
  · rw [rank_neg hn (by rw [neg_ok hn, hs]), rank_neg hm (by rw [neg_ok hm, ht])]
    have := mag_sgn ha hs; have := mag_sgn hb ht
    rw [hs, if_pos rfl] at h1; rw [ht, if_pos rfl] at h2; omega
theorem less_j {a b : Nat} (ha : a < 18446744073709551616) (hb : b < 18446744073709551616) (x : Bool) (hx : (nan a || nan b) = x) (k : Nat) : tenorref1_Less.j0 (k + 1) (a : Int) (b : Int) x = some (decide (keyN a < keyN b)) := by
  simp only [tenorref1_Less.j0]
  rw [isnan_val ha, isnan_val hb, size_val ha, size_val hb]
  simp only [Option.bind_some]
  cases x
  · rw [if_neg (by decide)]
    have hn : nan a = false := by cases h : nan a; rfl; rw [h] at hx; cases hx
    have hm : nan b = false := by cases h : nan b; rfl; rw [hn, h] at hx; cases hx
    have h1 := key_ok ha hn
    have h2 := key_ok hb hm
    by_cases c1 : mag a = 0
    · rw [if_pos (by omega)]
      by_cases c2 : mag b = 0
      · rw [if_pos (by omega)]
        congr 1
        rw [Bool.eq_iff_iff, decide_eq_true_iff, decide_eq_true_iff]
        cases hs : sgn a <;> cases ht : sgn b
        · have := mag_pos hs; have := mag_pos ht; rw [hs, if_neg (by decide)] at h1; rw [ht, if_neg (by decide)] at h2; omega
        · have := mag_pos hs; have := mag_sgn hb ht; rw [hs, if_neg (by decide)] at h1; rw [ht, if_pos rfl] at h2; omega
        · have := mag_sgn ha hs; have := mag_pos ht; rw [hs, if_pos rfl] at h1; rw [ht, if_neg (by decide)] at h2; omega
        · have := mag_sgn ha hs; have := mag_sgn hb ht; rw [hs, if_pos rfl] at h1; rw [ht, if_pos rfl] at h2; omega
      · rw [if_neg (by omega), lt_val ha hb hn hm]
        simp only [Option.bind_some]
        rw [key_rank ha hb hn hm (by omega)]
    · rw [if_neg (by omega), lt_val ha hb hn hm]
      simp only [Option.bind_some]
      rw [key_rank ha hb hn hm (by omega)]
  · rw [if_pos rfl]
    cases hn : nan a
    · rw [if_neg (by decide)]
      have hm : nan b = true := by rw [hn] at hx; simpa using hx
      rw [hm]; congr 1; symm; rw [decide_eq_true_iff]
      have h1 := key_ok ha hn
      have h2 := key_nan hm
      omega
    · rw [if_pos rfl]; congr 1; symm; rw [decide_eq_false_iff_not]
      have h1 := key_nan hn
      have h2 := key_lt b hb
      omega
theorem less_val {a b : Nat} (ha : a < 18446744073709551616) (hb : b < 18446744073709551616) (k : Nat) : tenorref1_Less.f (k + 1) (a : Int) (b : Int) = some (decide (keyN a < keyN b)) := by
  unfold tenorref1_Less.f
  rw [isnan_val ha, isnan_val hb]
  simp only [Option.bind_some]
  cases hn : nan a
  · rw [if_neg (by decide)]; exact less_j ha hb _ (by rw [hn]; rfl) k
  · rw [if_pos rfl]; exact less_j ha hb _ (by rw [hn]; rfl) k

/-! ### lists -/
def W (L : List Nat) : Prop := ∀ x ∈ L, x < 18446744073709551616
def ints (L : List Nat) : List Int := L.map fun (x : Nat) => (x : Int)
theorem ints_len (L : List Nat) : (ints L).length = L.length := by simp [ints]
theorem rd_ints (L : List Nat) (i : Nat) (h : i < L.length) : rd (ints L) (i : Int) = ((L.getD i 0 : Nat) : Int) := by
  unfold rd ints; rw [Int.toNat_natCast, List.getD_eq_getElem?_getD, List.getD_eq_getElem?_getD, List.getElem?_map, List.getElem?_eq_getElem h]; rfl
theorem rdOf_nat (L : List Nat) (i : Nat) : rdOf (0 : Nat) L (i : Int) = L.getD i 0 := by unfold rdOf; rw [Int.toNat_natCast]
theorem W.getD {L : List Nat} (h : W L) (i : Nat) : L.getD i 0 < 18446744073709551616 := by
  rw [List.getD_eq_getElem?_getD]
  cases hi : L[i]? with
  | none => decide
  | some x => exact h x (List.mem_of_getElem? hi)

theorem bits_loop (L : List Nat) (hl : L.length < 1000000) : ∀ (d i : Nat), i + d = L.length → ∀ k, d < k → tenorlaw1_Bits.l0 k L (ints (L.take i)) (i : Int) = some (ints L) := by
  intro d
  induction d with
  | zero =>
    intro i hi k hk
    obtain ⟨k, rfl⟩ : ∃ m, k = m + 1 := ⟨k - 1, by omega⟩
    simp only [tenorlaw1_Bits.l0]
    rw [if_neg (by omega), List.take_of_length_le (by omega)]
  | succ d ih =>
    intro i hi k hk
    obtain ⟨k, rfl⟩ : ∃ m, k = m + 1 := ⟨k - 1, by omega⟩
    simp only [tenorlaw1_Bits.l0]
    have hlen : (ints (L.take i)).length < 17592186044416 := by rw [ints_len, List.length_take]; omega
    rw [if_pos (by omega), if_pos (by omega), rdOf_nat]
    unfold api_Bits.f
    simp only [Option.bind_some]
    rw [if_pos hlen, wrap_up (by omega)]
    have e : ints (L.take i) ++ [((L.getD i 0 : Nat) : Int)] = ints (L.take (i + 1)) := by
      have e0 : L.take (i + 1) = L.take i ++ [L.getD i 0] := by
        rw [List.take_add_one, List.getD_eq_getElem?_getD, List.getElem?_eq_getElem (by omega)]; rfl
      rw [e0]; unfold ints; rw [List.map_append]; rfl
    rw [e]
    exact ih (i + 1) (by omega) k (by omega)
theorem bits_ev {L : List Nat} (hl : L.length < 1000000) : Ev (fun k => tenorlaw1_Bits.f k L) (ints L) :=
  ⟨L.length + 1, fun k hk => by
    show tenorlaw1_Bits.f k L = _
    unfold tenorlaw1_Bits.f
    exact bits_loop L hl L.length 0 (by omega) k (by omega)⟩

theorem are_loop {A B : List Nat} (ha : W A) (hb : W B) (hl : A.length = B.length) (hc : A.length < 1000000) (h : ∀ j, j < A.length → same (A.getD j 0) (B.getD j 0) = true) :
    ∀ (d i : Nat), i + d = A.length → ∀ k, d < k → tenorlaw1_Are.l0 k A (ints B) (i : Int) = some true := by
  intro d
  induction d with
  | zero =>
    intro i hi k hk
    obtain ⟨k, rfl⟩ : ∃ m, k = m + 1 := ⟨k - 1, by omega⟩
    simp only [tenorlaw1_Are.l0]
    rw [if_neg (by omega)]
  | succ d ih =>
    intro i hi k hk
    obtain ⟨k, rfl⟩ : ∃ m, k = m + 1 := ⟨k - 1, by omega⟩
    simp only [tenorlaw1_Are.l0]
    rw [if_pos (by omega), if_pos (by omega), ints_len, if_pos (by omega), rdOf_nat, rd_ints _ _ (by omega), is_val (ha.getD i) (hb.getD i), h i (by omega)]
    simp only [Option.bind_some, if_true]
    rw [wrap_up (by omega)]
    exact ih (i + 1) (by omega) k (by omega)
theorem are_ev {A B : List Nat} (ha : W A) (hb : W B) (hl : A.length = B.length) (hc : A.length < 1000000) (h : ∀ j, j < A.length → same (A.getD j 0) (B.getD j 0) = true) : Ev (fun k => tenorlaw1_Are.f k A (ints B)) true := by
  refine ⟨A.length + 1, fun k hk => ?_⟩
  show tenorlaw1_Are.f k A (ints B) = some true
  unfold tenorlaw1_Are.f
  rw [ints_len, if_pos (by omega)]
  exact are_loop ha hb hl hc h A.length 0 (by omega) k (by omega)

/-! ### the reference's sort -/
def le (a b : Nat) : Prop := keyN a ≤ keyN b
def Srt (L : List Nat) : Prop := L.Pairwise le
theorem ints_append (A B : List Nat) : ints (A ++ B) = ints A ++ ints B := by simp [ints]
theorem ints_cons (a : Nat) (B : List Nat) : ints (a :: B) = (a : Int) :: ints B := rfl
theorem set_mid (A : List Nat) (h v : Nat) (B : List Nat) : (ints (A ++ h :: B)).set A.length (v : Int) = ints (A ++ v :: B) := by
  rw [ints_append, ints_append, ints_cons, ints_cons]
  have : A.length = (ints A).length := (ints_len A).symm
  rw [this, List.set_append_right _ _ (by omega)]
  simp
theorem getD_mid (A : List Nat) (h : Nat) (B : List Nat) : (A ++ h :: B).getD A.length 0 = h := by
  rw [List.getD_eq_getElem?_getD, List.getElem?_append_right (by omega)]; simp
/-- the inner loop puts v into its place. -/
theorem ins_loop {L : List Nat} (hw : W L) (hc : L.length < 1000000) {i : Nat} (hi : i < L.length) :
    ∀ (p : Nat) (A : List Nat) (h : Nat) (B : List Nat), A.length = p → W A → (A ++ h :: B).length ≤ L.length → Srt (A ++ B) → (∀ b ∈ B, keyN (L.getD i 0) < keyN b) →
    ∃ C, C.Perm (A ++ L.getD i 0 :: B) ∧ Srt C ∧ ∀ r, Ev (fun k => tenorref1_Sort.l0 k (ints L) (ints C) ((i + 1 : Nat) : Int)) r → Ev (fun k => tenorref1_Sort.l1 k (ints L) (ints (A ++ h :: B)) (i : Int) (p : Int)) r := by
  intro p
  induction p with
  | zero =>
    intro A h B hA hWA hlen hs hB
    have hA' : A = [] := List.length_eq_zero_iff.1 hA
    subst hA'
    refine ⟨L.getD i 0 :: B, List.Perm.refl _, List.pairwise_cons.2 ⟨fun b hb => Nat.le_of_lt (hB b hb), hs⟩, fun r hr => Ev.step (fun k => ?_) hr⟩
    have e := set_mid [] h (L.getD i 0) B
    rw [List.length_nil] at e
    simp only [tenorref1_Sort.l1]
    rw [if_neg (by decide), if_pos (by omega), ints_len, if_pos (by omega), if_pos (by decide), ints_len, if_pos (by simp), rd_ints _ _ hi, show (((0 : Nat) : Int)).toNat = 0 from rfl, e, wrap_up (by omega)]
    rfl
  | succ p ih =>
    intro A h B hA hWA hlen hs hB
    obtain ⟨A', y, rfl⟩ : ∃ A' y, A = A' ++ [y] := by
      rcases List.eq_nil_or_concat A with h0 | ⟨A', y, h0⟩
      · subst h0; simp at hA
      · exact ⟨A', y, by rw [h0, List.concat_eq_append]⟩
    have hA' : A'.length = p := by simpa using hA
    have hy : y < 18446744073709551616 := hWA y (by simp)
    have hWA' : W A' := fun x hx => hWA x (by simp [hx])
    have hin : (A' ++ [y] ++ h :: B).length = A'.length + 2 + B.length := by simp; omega
    have eA : A' ++ [y] ++ h :: B = A' ++ y :: (h :: B) := by simp
    have hg : rd (ints (A' ++ [y] ++ h :: B)) (p : Int) = (y : Int) := by
      rw [rd_ints _ _ (by omega), eA, ← hA', getD_mid]
    have hwp : wrap64 (((p + 1 : Nat) : Int) - 1) = (p : Int) := wrap_dn (by omega)
    have ht : (((p + 1 : Nat) : Int)).toNat = p + 1 := rfl
    by_cases c : keyN (L.getD i 0) < keyN y
    · have e1 : (ints (A' ++ [y] ++ h :: B)).set (p + 1) (y : Int) = ints (A' ++ y :: (y :: B)) := by
        have := set_mid (A' ++ [y]) h y B
        rw [List.length_append, hA', List.length_singleton] at this
        rw [this]; simp
      obtain ⟨C, hp, hsC, hk⟩ := ih A' y (y :: B) hA' hWA' (by simp at hlen ⊢; omega) (by simpa [Srt] using hs) (fun b hb => by
        rcases List.mem_cons.1 hb with rfl | hb
        · exact c
        · exact hB b hb)
      refine ⟨C, hp.trans ?_, hsC, fun r hr => ?_⟩
      · have : (A' ++ L.getD i 0 :: y :: B).Perm (A' ++ y :: L.getD i 0 :: B) := List.Perm.append_left _ (List.Perm.swap _ _ _)
        refine this.trans ?_
        rw [show A' ++ [y] ++ L.getD i 0 :: B = A' ++ y :: L.getD i 0 :: B by simp]
      · obtain ⟨K, hK⟩ := hk r hr
        refine ⟨K + 2, fun k hk' => ?_⟩
        obtain ⟨k, rfl⟩ : ∃ m, k = m + 1 + 1 := ⟨k - 2, by omega⟩
        show tenorref1_Sort.l1 (k + 1 + 1) (ints L) (ints (A' ++ [y] ++ h :: B)) (i : Int) ((p + 1 : Nat) : Int) = some r
        rw [tenorref1_Sort.l1]
        rw [if_pos (by omega), if_pos (by omega), ints_len, if_pos (by omega), hwp, if_pos (by omega), ints_len, if_pos (by omega), rd_ints _ _ hi, hg, less_val (hw.getD i) hy, decide_eq_true c]
        simp only [Option.bind_some, if_true]
        rw [if_pos (by omega), if_pos (by omega), ht, e1]
        exact hK (k + 1) (by omega)
    · have e1 : (ints (A' ++ [y] ++ h :: B)).set (p + 1) ((L.getD i 0 : Nat) : Int) = ints (A' ++ [y] ++ L.getD i 0 :: B) := by
        have := set_mid (A' ++ [y]) h (L.getD i 0) B
        rw [List.length_append, hA', List.length_singleton] at this
        exact this
      refine ⟨A' ++ [y] ++ L.getD i 0 :: B, List.Perm.refl _, ?_, fun r hr => ?_⟩
      · have hs2 := List.pairwise_append.1 hs
        refine List.pairwise_append.2 ⟨hs2.1, List.pairwise_cons.2 ⟨fun b hb => Nat.le_of_lt (hB b hb), hs2.2.1⟩, fun a ha b hb => ?_⟩
        rcases List.mem_cons.1 hb with rfl | hb
        · have h1 := (List.pairwise_append.1 hs2.1).2.2
          rcases List.mem_append.1 ha with ha | ha
          · exact Nat.le_trans (h1 a ha y (by simp)) (by omega)
          · rw [List.mem_singleton.1 ha]; unfold le; omega
        · exact hs2.2.2 a ha b hb
      · obtain ⟨K, hK⟩ := hr
        refine ⟨K + 2, fun k hk' => ?_⟩
        obtain ⟨k, rfl⟩ : ∃ m, k = m + 1 + 1 := ⟨k - 2, by omega⟩
        show tenorref1_Sort.l1 (k + 1 + 1) (ints L) (ints (A' ++ [y] ++ h :: B)) (i : Int) ((p + 1 : Nat) : Int) = some r
        rw [tenorref1_Sort.l1]
        rw [if_pos (by omega), if_pos (by omega), ints_len, if_pos (by omega), hwp, if_pos (by omega), ints_len, if_pos (by omega), rd_ints _ _ hi, hg, less_val (hw.getD i) hy, decide_eq_false c]
        simp only [Option.bind_some, Bool.false_eq_true, if_false]
        rw [if_pos (by omega), if_pos (by omega), ht, e1, wrap_up (by omega)]
        exact hK (k + 1) (by omega)
theorem sort_loop {L : List Nat} (hw : W L) (hc : L.length < 1000000) : ∀ (d i : Nat) (S : List Nat), i + d = L.length → S.Perm (L.take i) → Srt S →
    ∃ C, C.Perm L ∧ Srt C ∧ Ev (fun k => tenorref1_Sort.l0 k (ints L) (ints S) (i : Int)) (ints C) := by
  intro d
  induction d with
  | zero =>
    intro i S hi hp hs
    refine ⟨S, by rw [List.take_of_length_le (by omega)] at hp; exact hp, hs, ⟨1, fun k hk => ?_⟩⟩
    obtain ⟨k, rfl⟩ : ∃ m, k = m + 1 := ⟨k - 1, by omega⟩
    show tenorref1_Sort.l0 (k + 1) (ints L) (ints S) (i : Int) = some (ints S)
    simp only [tenorref1_Sort.l0]
    rw [if_neg (by rw [ints_len]; omega)]
  | succ d ih =>
    intro i S hi hp hs
    have hlS : S.length = i := by rw [hp.length_eq, List.length_take]; omega
    have hWS : W S := fun x hx => hw x (List.mem_of_mem_take (hp.subset hx))
    obtain ⟨C, hpC, hsC, hk⟩ := ins_loop hw hc (i := i) (by omega) i S (L.getD i 0) [] hlS hWS (by simp; omega) (by simpa using hs) (fun b hb => by cases hb)
    have hp2 : C.Perm (L.take (i + 1)) := by
      refine hpC.trans ?_
      rw [List.take_add_one, List.getElem?_eq_getElem (by omega)]
      have e : L.getD i 0 = L[i] := by rw [List.getD_eq_getElem?_getD, List.getElem?_eq_getElem (by omega)]; rfl
      rw [e]
      exact hp.append_right _
    obtain ⟨D, hpD, hsD, hev⟩ := ih (i + 1) C (by omega) hp2 hsC
    refine ⟨D, hpD, hsD, Ev.step (fun k => ?_) (hk _ hev)⟩
    simp only [tenorref1_Sort.l0]
    rw [if_pos (by rw [ints_len]; omega), if_pos (by omega), if_pos (by rw [ints_len]; omega), rd_ints _ _ (by omega), ints_len, hlS, ints_append]
    rfl
theorem sort_ev {L : List Nat} (hw : W L) (hc : L.length < 1000000) : ∃ C, C.Perm L ∧ Srt C ∧ Ev (fun k => tenorref1_Sort.f k (ints L)) (ints C) := by
  obtain ⟨C, h1, h2, h3⟩ := sort_loop hw hc L.length 0 [] (by omega) (by simp) List.Pairwise.nil
  exact ⟨C, h1, h2, Ev.congr (fun k => rfl) h3⟩
/-- two sorted lists of the same floats have the same keys. -/
theorem srt_keys {A B : List Nat} (hp : A.Perm B) (ha : Srt A) (hb : Srt B) : A.map keyN = B.map keyN := by
  refine List.Perm.eq_of_pairwise (le := fun x y => x ≤ y) (fun a b _ _ h1 h2 => Nat.le_antisymm h1 h2) ?_ ?_ (hp.map keyN)
  · exact List.pairwise_map.2 ha
  · exact List.pairwise_map.2 hb
theorem srt_same {A B : List Nat} (hwA : W A) (hwB : W B) (hp : A.Perm B) (ha : Srt A) (hb : Srt B) (j : Nat) (hj : j < A.length) : same (A.getD j 0) (B.getD j 0) = true := by
  have h := srt_keys hp ha hb
  have hl := hp.length_eq
  refine key_same (hwA.getD j) (hwB.getD j) ?_
  have h2 : (A.map keyN)[j]? = (B.map keyN)[j]? := by rw [h]
  rw [List.getElem?_map, List.getElem?_map, List.getElem?_eq_getElem hj, List.getElem?_eq_getElem (by omega)] at h2
  rw [List.getD_eq_getElem?_getD, List.getD_eq_getElem?_getD, List.getElem?_eq_getElem hj, List.getElem?_eq_getElem (by omega)]
  simpa using h2
/-! ### the program's sort -/
theorem ext_all {α : Type} (d : Array α) (n : Nat) (h : n = d.size) : d.extract 0 n = d := by
  subst h
  exact Array.extract_size
theorem sortF_facts {L : List Nat} (hw : W L) : (sortF L).Perm L ∧ Srt (sortF L) := by
  obtain ⟨d, hd⟩ : ∃ d, d = (L.map (fun x => (Fin.ofNat 18446744073709551616 x : W64))).toArray := ⟨_, rfl⟩
  have hds : d.size = L.length := by rw [hd]; simp
  obtain ⟨⟨h1, _, h3⟩, h4⟩ := Go.Sort.pdq_sorts (ltOf cfS) swoS d 0 d.size (Lib.bitLen d.size) true true (Nat.zero_le _) (Nat.le_refl _) (Or.inl rfl)
  have he : sortF L = (Go.Sort.pdq (ltOf cfS) d 0 d.size (Lib.bitLen d.size) true true).toList.map Fin.val := by
    unfold sortF; rw [← hd, ← hds]
  rw [he]
  revert h1 h3 h4
  generalize Go.Sort.pdq (ltOf cfS) d 0 d.size (Lib.bitLen d.size) true true = e
  intro h4 h1 h3
  rw [ext_all e _ h1.symm, ext_all d _ rfl] at h3
  constructor
  · have h5 := h3.map Fin.val
    rw [hd] at h5
    have h6 := fin_back L hw
    rw [show ((L.map (fun x => (Fin.ofNat 18446744073709551616 x : W64))).toArray.toList) = L.map (fun x => (Fin.ofNat 18446744073709551616 x : W64)) from rfl, h6] at h5
    exact h5
  · unfold Srt
    rw [List.pairwise_map, List.pairwise_iff_getElem]
    intro i j hi hj hij
    have hj' : j < e.size := by simpa using hj
    have h7 := h4 i j (Nat.zero_le _) hij (by omega)
    rw [getElem!_pos e i (by omega), getElem!_pos e j hj', ltS] at h7
    have h8 := of_decide_eq_false h7
    show keyN _ ≤ keyN _
    simp only [Array.getElem_toList]
    omega
theorem sort_f {L : List Nat} (hw : W L) (hl : L.length < 1000000) : ieee_Sort.f L = some (sortF L) := by
  unfold ieee_Sort.f
  rw [if_pos ⟨List.all_eq_true.2 fun x hx => decide_eq_true (hw x hx), by omega⟩]
theorem W.perm {A B : List Nat} (h : W B) (hp : A.Perm B) : W A := fun x hx => h x (hp.subset hx)
theorem less_f {a b : Nat} (ha : a < 18446744073709551616) (hb : b < 18446744073709551616) : ieee_Less.f a b = some (decide (keyN a < keyN b)) := by
  unfold ieee_Less.f; rw [if_pos ⟨ha, hb⟩]
end Go.Proofs.Ytfmbhfnigneenaa.FSorts

namespace Go.Proofs.Ytfmbhfnigneenaa.FSorts0
open Go.RowKit Go.Proofs.YtfmbhfnigneenaaW.PrintWords Go.Proofs.YtfmbhfnigneenaaW.PrintLast Go.Proofs.YtfmbhfnigneenaaW.PrintMore Go.Proofs.Ytfmbhfnigneenaa.FX Go.Proofs.Ytfmbhfnigneenaa.FSorts Tn
theorem loop1 {M A C : List Nat} (hM : W M) (hc : M.length < 1000000) (hr : Ev (fun k => tenorlaw1_Are.f k A (ints C)) true) :
    ∀ (d i : Nat), i + d = M.length → Ev (fun k => tenorlaw1_IeeeSorts.l1 k M (ints M) A (ints C) (i : Int)) true := by
  intro d
  induction d with
  | zero =>
    intro i hi
    refine Ev.step (f := fun k => (tenorlaw1_Are.f k A (ints C)).bind fun t => if t = true then (law1_awake.f.bind fun t => some t) else some false) (fun k => ?_) (Ev.bind hr ⟨0, fun _ _ => rfl⟩)
    simp only [tenorlaw1_IeeeSorts.l1]
    rw [if_neg (by omega)]
  | succ d ih =>
    intro i hi
    refine Ev.step (fun k => ?_) (ih (i + 1) (by omega))
    simp only [tenorlaw1_IeeeSorts.l1]
    rw [if_pos (by omega), if_pos (by omega), ints_len, if_pos (by omega), rdOf_nat, rd_ints _ _ (by omega), is_val (hM.getD i) (hM.getD i), same_refl]
    simp only [Option.bind_some, if_true]
    rw [wrap_up (by omega)]
theorem loop0 {M B C : List Nat} (hM : W M) (hc : M.length < 1000000) (hr : Ev (fun k => tenorlaw1_Are.f k B (ints C)) true) :
    ∀ (d i : Nat) (A : List Nat), i + d = A.length → A.length < 1000000 → Ev (fun k => tenorlaw1_IeeeSorts.l0 k M (ints M) A B (ints C) (i : Int)) true := by
  intro d
  induction d with
  | zero =>
    intro i A hi _
    refine Ev.step (fun k => ?_) (loop1 hM hc hr M.length 0 (by omega))
    simp only [tenorlaw1_IeeeSorts.l0]
    rw [if_neg (by omega)]
    rfl
  | succ d ih =>
    intro i A hi hl
    refine Ev.step (fun k => ?_) (ih (i + 1) (A.set i 4619567317775286272) (by rw [List.length_set]; omega) (by rw [List.length_set]; exact hl))
    simp only [tenorlaw1_IeeeSorts.l0]
    rw [if_pos (by omega), if_pos (by omega), wrap_up (by omega), Int.toNat_natCast]
theorem law (L : List Nat) (hw : W L) (a b : Nat) (ha : a < 18446744073709551616) (hb : b < 18446744073709551616) (hl : L.length ≤ 200) : ∃ k, tenorlaw1_IeeeSorts.f k L a b = some true := by
  obtain ⟨M, hM⟩ : ∃ M, M = L := ⟨_, rfl⟩
  have hWM : W M := by rw [hM]; exact hw
  have hlM : M.length < 1000000 := by rw [hM]; omega
  obtain ⟨C, hpC, hsC, hev⟩ := sort_ev hWM hlM
  obtain ⟨hpS, hsS⟩ := sortF_facts hWM
  have hare : Ev (fun k => tenorlaw1_Are.f k (sortF M) (ints C)) true := by
    refine are_ev (hWM.perm hpS) (hWM.perm hpC) (hpS.length_eq.trans hpC.length_eq.symm) (by rw [hpS.length_eq]; exact hlM) fun j hj => ?_
    exact srt_same (hWM.perm hpS) (hWM.perm hpC) (hpS.trans hpC.symm) hsS hsC j hj
  have hl0 := loop0 hWM hlM hare (sortF M).length 0 (sortF M) (by omega) (by rw [hpS.length_eq]; exact hlM)
  have hless : Ev (fun k => tenorref1_Less.f k (a : Int) (b : Int)) (decide (keyN a < keyN b)) := ⟨1, fun k hk => by
    obtain ⟨k, rfl⟩ : ∃ m, k = m + 1 := ⟨k - 1, by omega⟩
    exact less_val ha hb k⟩
  refine Ev.rounds (Ev.congr (f := fun k => (tenorlaw1_Bits.f k M).bind fun t1 => (tenorref1_Sort.f k t1).bind fun t2 => (tenorlaw1_Are.f k (sortF M) t2).bind fun t3 => if t3 = true then ((tenorlaw1_Are.f k (sortF M) t2).bind fun t4 => if t4 = true then ((tenorref1_Less.f k (a : Int) (b : Int)).bind fun t5 => if ((decide (keyN a < keyN b)) != t5) = true then some false else tenorlaw1_IeeeSorts.l0 k M t1 (sortF M) (sortF M) t2 0) else some false) else some false) (fun k => ?_) ?_)
  · unfold tenorlaw1_IeeeSorts.f
    rw [if_neg (by omega), ← hM, sort_f hWM hlM, less_f ha hb]
    rfl
  · refine Ev.bind (bits_ev hlM) (Ev.bind hev (Ev.bind hare ?_))
    simp only [if_true]
    refine Ev.bind hare ?_
    simp only [if_true]
    refine Ev.bind hless ?_
    simp only [bne_self_eq_false, Bool.false_eq_true, if_false]
    exact hl0
end Go.Proofs.Ytfmbhfnigneenaa.FSorts0

namespace Go.Proofs.Ytfmbhfnigneenaa.FSorts1
open Go.RowKit Go.Proofs.YtfmbhfnigneenaaW.PrintWords Go.Proofs.YtfmbhfnigneenaaW.PrintLast Go.Proofs.YtfmbhfnigneenaaW.PrintMore Go.Proofs.Ytfmbhfnigneenaa.FX Go.Proofs.Ytfmbhfnigneenaa.FSorts Tn
theorem loop1 {M A C : List Nat} (hM : W M) (hc : M.length < 1000000) (hr : Ev (fun k => tenorlaw1_Are.f k A (ints C)) true) :
    ∀ (d i : Nat), i + d = M.length → Ev (fun k => tenorlaw1_IeeeSorts.l1 k M (ints M) A (ints C) (i : Int)) true := by
  intro d
  induction d with
  | zero =>
    intro i hi
    refine Ev.step (f := fun k => (tenorlaw1_Are.f k A (ints C)).bind fun t => if t = true then (law1_awake.f.bind fun t => some t) else some false) (fun k => ?_) (Ev.bind hr ⟨0, fun _ _ => rfl⟩)
    simp only [tenorlaw1_IeeeSorts.l1]
    rw [if_neg (by omega)]
  | succ d ih =>
    intro i hi
    refine Ev.step (fun k => ?_) (ih (i + 1) (by omega))
    simp only [tenorlaw1_IeeeSorts.l1]
    rw [if_pos (by omega), if_pos (by omega), ints_len, if_pos (by omega), rdOf_nat, rd_ints _ _ (by omega), is_val (hM.getD i) (hM.getD i), same_refl]
    simp only [Option.bind_some, if_true]
    rw [wrap_up (by omega)]
theorem loop0 {M B C : List Nat} (hM : W M) (hc : M.length < 1000000) (hr : Ev (fun k => tenorlaw1_Are.f k B (ints C)) true) :
    ∀ (d i : Nat) (A : List Nat), i + d = A.length → A.length < 1000000 → Ev (fun k => tenorlaw1_IeeeSorts.l0 k M (ints M) A B (ints C) (i : Int)) true := by
  intro d
  induction d with
  | zero =>
    intro i A hi _
    refine Ev.step (fun k => ?_) (loop1 hM hc hr M.length 0 (by omega))
    simp only [tenorlaw1_IeeeSorts.l0]
    rw [if_neg (by omega)]
    rfl
  | succ d ih =>
    intro i A hi hl
    refine Ev.step (fun k => ?_) (ih (i + 1) (A.set i 4619567317775286272) (by rw [List.length_set]; omega) (by rw [List.length_set]; exact hl))
    simp only [tenorlaw1_IeeeSorts.l0]
    rw [if_pos (by omega), if_pos (by omega), wrap_up (by omega), Int.toNat_natCast]
theorem law (L : List Nat) (hw : W L) (a b : Nat) (ha : a < 18446744073709551616) (hb : b < 18446744073709551616) (hl : 200 < L.length) : ∃ k, tenorlaw1_IeeeSorts.f k L a b = some true := by
  obtain ⟨M, hM⟩ : ∃ M, M = (L.take 200) := ⟨_, rfl⟩
  have hWM : W M := by rw [hM]; exact fun x hx => hw x (List.mem_of_mem_take hx)
  have hlM : M.length < 1000000 := by rw [hM]; rw [List.length_take]; omega
  obtain ⟨C, hpC, hsC, hev⟩ := sort_ev hWM hlM
  obtain ⟨hpS, hsS⟩ := sortF_facts hWM
  have hare : Ev (fun k => tenorlaw1_Are.f k (sortF M) (ints C)) true := by
    refine are_ev (hWM.perm hpS) (hWM.perm hpC) (hpS.length_eq.trans hpC.length_eq.symm) (by rw [hpS.length_eq]; exact hlM) fun j hj => ?_
    exact srt_same (hWM.perm hpS) (hWM.perm hpC) (hpS.trans hpC.symm) hsS hsC j hj
  have hl0 := loop0 hWM hlM hare (sortF M).length 0 (sortF M) (by omega) (by rw [hpS.length_eq]; exact hlM)
  have hless : Ev (fun k => tenorref1_Less.f k (a : Int) (b : Int)) (decide (keyN a < keyN b)) := ⟨1, fun k hk => by
    obtain ⟨k, rfl⟩ : ∃ m, k = m + 1 := ⟨k - 1, by omega⟩
    exact less_val ha hb k⟩
  refine Ev.rounds (Ev.congr (f := fun k => (tenorlaw1_Bits.f k M).bind fun t1 => (tenorref1_Sort.f k t1).bind fun t2 => (tenorlaw1_Are.f k (sortF M) t2).bind fun t3 => if t3 = true then ((tenorlaw1_Are.f k (sortF M) t2).bind fun t4 => if t4 = true then ((tenorref1_Less.f k (a : Int) (b : Int)).bind fun t5 => if ((decide (keyN a < keyN b)) != t5) = true then some false else tenorlaw1_IeeeSorts.l0 k M t1 (sortF M) (sortF M) t2 0) else some false) else some false) (fun k => ?_) ?_)
  · unfold tenorlaw1_IeeeSorts.f
    rw [if_pos (by omega), if_pos (by omega), ← hM, sort_f hWM hlM, less_f ha hb]
    rfl
  · refine Ev.bind (bits_ev hlM) (Ev.bind hev (Ev.bind hare ?_))
    simp only [if_true]
    refine Ev.bind hare ?_
    simp only [if_true]
    refine Ev.bind hless ?_
    simp only [bne_self_eq_false, Bool.false_eq_true, if_false]
    exact hl0
end Go.Proofs.Ytfmbhfnigneenaa.FSorts1
