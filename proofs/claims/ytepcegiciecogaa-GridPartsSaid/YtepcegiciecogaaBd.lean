/- Quantile, Mean and Count, plainly: whatever the order. No walk. -/
import Derived.Test.YtepcegiciecogaaBb
import Derived.Test.YtepcegiciecogaaAy
import Derived.Test.YtepcegiciecogaaMon
import Derived.Sort.AssemblyPlain
namespace Go.Proofs.Ytepcegiciecogaa.FG
open Go.RowKit Go.Proofs.YtepcegiciecogaaW.PrintWords Go.Proofs.YtepcegiciecogaaW.PrintLast Go.Proofs.YtepcegiciecogaaW.PrintMore Tn Go.Shelf
open Go.Proofs.Ytepcegiciecogaa.FX Go.Proofs.Ytepcegiciecogaa.EV
set_option linter.unusedVariables false

/-! ### sorted -/
theorem permOut {α : Type} {D d : Array α} (h1 : D.size = d.size) (h3 : (D.extract 0 d.size).toList.Perm (d.extract 0 d.size).toList) : D.toList.Perm d.toList := by
  rw [Array.extract_size] at h3
  rw [← h1, Array.extract_size] at h3
  exact h3
theorem keyN_ok {a : Nat} (na : nan a = false) : keyN a = if sgn a = true then 18446744073709551615 - a else a + 9223372036854775808 := by
  unfold keyN; rw [if_neg (by rw [na]; decide)]
theorem sortF_perm {l : List Nat} (hw : okN l) : (sortF l).Perm l := by
  have hs : (l.map (fun x => (Fin.ofNat 18446744073709551616 x : W64))).toArray.size = l.length := by simp
  obtain ⟨⟨h1, _, h3⟩, _⟩ := Go.Sort.pdq_sorts (ltOf cfS) swoS (l.map (fun x => (Fin.ofNat 18446744073709551616 x : W64))).toArray 0 (l.map (fun x => (Fin.ofNat 18446744073709551616 x : W64))).toArray.size (Lib.bitLen (l.map (fun x => (Fin.ofNat 18446744073709551616 x : W64))).toArray.size) true true (Nat.zero_le _) (Nat.le_refl _) (Or.inl rfl)
  have h5 := (permOut h1 h3).map Fin.val
  rw [hs] at h5
  unfold sortF
  refine h5.trans ?_
  rw [show (l.map (fun x => (Fin.ofNat 18446744073709551616 x : W64))).toArray.toList = l.map (fun x => (Fin.ofNat 18446744073709551616 x : W64)) from rfl, fin_back l hw]
theorem sortF_sorted (l : List Nat) : (sortF l).Pairwise fun a b => keyN a ≤ keyN b := by
  have hs : (l.map (fun x => (Fin.ofNat 18446744073709551616 x : W64))).toArray.size = l.length := by simp
  obtain ⟨⟨h1, _, _⟩, h2⟩ := Go.Sort.pdq_sorts (ltOf cfS) swoS (l.map (fun x => (Fin.ofNat 18446744073709551616 x : W64))).toArray 0 (l.map (fun x => (Fin.ofNat 18446744073709551616 x : W64))).toArray.size (Lib.bitLen (l.map (fun x => (Fin.ofNat 18446744073709551616 x : W64))).toArray.size) true true (Nat.zero_le _) (Nat.le_refl _) (Or.inl rfl)
  rw [hs] at h1 h2
  unfold sortF
  generalize Go.Sort.pdq (ltOf cfS) (l.map (fun x => (Fin.ofNat 18446744073709551616 x : W64))).toArray 0 l.length (Lib.bitLen l.length) true true = D at h1 h2
  rw [List.pairwise_map, List.pairwise_iff_getElem]
  intro i j hi hj hij
  have h3 := h2 i j (Nat.zero_le _) hij (by rw [← h1]; simpa using hj)
  rw [getElem!_pos D j (by simpa using hj), getElem!_pos D i (by simpa using hi), ltS] at h3
  simp only [decide_eq_false_iff_not] at h3
  simp only [Array.getElem_toList]
  omega
theorem key_inj {a b : Nat} (ha : a < 18446744073709551616) (hb : b < 18446744073709551616) (na : nan a = false) (nb : nan b = false) (h : keyN a = keyN b) : a = b := by
  rw [keyN_ok na, keyN_ok nb] at h
  cases hs : sgn a <;> cases ht : sgn b
  · rw [hs, ht, if_neg (by decide), if_neg (by decide)] at h; omega
  · rw [hs, ht, if_neg (by decide), if_pos rfl] at h
    have := mag_pos hs; have := mag_sgn hb ht; have := mag_lt a; omega
  · rw [hs, ht, if_pos rfl, if_neg (by decide)] at h
    have := mag_pos ht; have := mag_sgn ha hs; have := mag_lt b; omega
  · rw [hs, ht, if_pos rfl, if_pos rfl] at h; omega
theorem key_le_rank {a b : Nat} (ha : a < 18446744073709551616) (hb : b < 18446744073709551616) (na : nan a = false) (nb : nan b = false) (h : keyN a ≤ keyN b) : rank a ≤ rank b := by
  rw [keyN_ok na, keyN_ok nb] at h
  cases hs : sgn a <;> cases ht : sgn b
  · rw [hs, ht, if_neg (by decide), if_neg (by decide)] at h
    have := mag_pos hs; have := mag_pos ht
    rw [rank_pos na (by rw [neg_ok na, hs]), rank_pos nb (by rw [neg_ok nb, ht])]; omega
  · rw [hs, ht, if_neg (by decide), if_pos rfl] at h
    have := mag_pos hs; have := mag_sgn hb ht; have := mag_lt a; omega
  · rw [rank_neg na (by rw [neg_ok na, hs]), rank_pos nb (by rw [neg_ok nb, ht])]; omega
  · rw [hs, ht, if_pos rfl, if_pos rfl] at h
    have := mag_sgn ha hs; have := mag_sgn hb ht
    rw [rank_neg na (by rw [neg_ok na, hs]), rank_neg nb (by rw [neg_ok nb, ht])]; omega
theorem fin_of {l : List Nat} (hf : allF l = true) {x : Nat} (hx : x ∈ l) : fin x = true := List.all_eq_true.1 hf x hx
theorem allF_perm {x y : List Nat} (h : x.Perm y) : allF x = allF y := by
  rw [Bool.eq_iff_iff]
  unfold allF
  rw [List.all_eq_true, List.all_eq_true]
  exact ⟨fun a z hz => a z (h.mem_iff.2 hz), fun a z hz => a z (h.mem_iff.1 hz)⟩
theorem sortF_eq {x y : List Nat} (hx : okN x) (hf : allF x = true) (h : x.Perm y) : sortF x = sortF y := by
  have hy : okN y := fun z hz => hx z (h.mem_iff.2 hz)
  have hp : (sortF x).Perm (sortF y) := (sortF_perm hx).trans (h.trans (sortF_perm hy).symm)
  refine List.Perm.eq_of_pairwise (le := fun a b => keyN a ≤ keyN b) (fun a b ha hb h1 h2 => ?_) (sortF_sorted x) (sortF_sorted y) hp
  have ma := (sortF_perm hx).mem_iff.1 ha
  have mb := h.mem_iff.2 ((sortF_perm hy).mem_iff.1 hb)
  exact key_inj (hx a ma) (hx b mb) (nan_fin (fin_of hf ma)) (nan_fin (fin_of hf mb)) (Nat.le_antisymm h1 h2)
theorem sorted_rank {x : List Nat} (hx : okN x) (hf : allF x = true) {i j : Nat} (hj : j < (sortF x).length) (hij : i ≤ j) : rank ((sortF x)[i]'(by omega)) ≤ rank (sortF x)[j] := by
  rcases Nat.eq_or_lt_of_le hij with h | h
  · subst h; exact Int.le_refl _
  · have h1 := List.pairwise_iff_getElem.1 (sortF_sorted x) i j (by omega) hj h
    have ma := (sortF_perm hx).mem_iff.1 (List.getElem_mem (show i < (sortF x).length by omega))
    have mb := (sortF_perm hx).mem_iff.1 (List.getElem_mem hj)
    exact key_le_rank (hx _ ma) (hx _ mb) (nan_fin (fin_of hf ma)) (nan_fin (fin_of hf mb)) h1
/-! ### Quantile and Mean -/
def chkN (l : List Nat) : Int := if l.length = 0 then 100 else if 1048576 < l.length then 100 else if allF l = true then 0 else 91
theorem check_e (l : List Nat) (hw : okN l) (hl : l.length < 4611686018427387904) : Evt (fun k => grid_check.f k l) (chkN l) := by
  unfold grid_check.f chkN
  by_cases h0 : l.length = 0
  · rw [if_pos h0]; exact Evt.ifT (by omega) (Evt.const fun _ => rfl)
  · rw [if_neg h0]
    refine Evt.ifF (by omega) ?_
    by_cases h1 : 1048576 < l.length
    · rw [if_pos h1]; exact Evt.ifT (by omega) (Evt.const fun _ => rfl)
    · rw [if_neg h1]
      exact Evt.ifF (by omega) ((numbers_e l hw hl).bind (Evt.const fun _ => rfl))
theorem chkN_ok {l : List Nat} (h : chkN l = 0) : 1 ≤ l.length ∧ l.length ≤ 1048576 ∧ allF l = true := by
  unfold chkN at h
  by_cases h0 : l.length = 0
  · rw [if_pos h0] at h; exact absurd h (by decide)
  · rw [if_neg h0] at h
    by_cases h1 : 1048576 < l.length
    · rw [if_pos h1] at h; exact absurd h (by decide)
    · rw [if_neg h1] at h
      by_cases h2 : allF l = true
      · exact ⟨by omega, by omega, h2⟩
      · rw [if_neg h2] at h; exact absurd h (by decide)
theorem chkN_perm {x y : List Nat} (h : x.Perm y) : chkN x = chkN y := by
  unfold chkN; rw [h.length_eq, allF_perm h]
/-- which one. -/
def kth (n : Nat) (p q : Nat) : Nat := max ((n * p + q - 1) / q) 1
def quantF (l : List Nat) (p q : Int) : Nat × Int :=
  if chkN l = 0 then (if q < 1 ∨ q > 1000000 ∨ p < 0 ∨ p > q then (0, 1) else ((sortF l).getD (kth l.length p.toNat q.toNat - 1) 0, 0)) else (0, chkN l)
theorem kth_le {n p q : Nat} (h : p ≤ q) (hq : 1 ≤ q) (hn : 1 ≤ n) : 1 ≤ kth n p q ∧ kth n p q ≤ n ∧ n * p ≤ kth n p q * q := by
  unfold kth
  have h1 : n * p ≤ n * q := Nat.mul_le_mul_left _ h
  have h2 : (n * p + q - 1) / q ≤ n := by
    rw [Nat.div_le_iff_le_mul_add_pred (by omega)]
    rw [Nat.mul_comm] at h1 ⊢
    rw [Nat.mul_comm q n]
    rw [Nat.mul_comm p n, Nat.mul_comm n q, Nat.mul_comm q n] at *
    omega
  have h3 := Nat.div_add_mod (n * p + q - 1) q
  have h4 := Nat.mod_lt (n * p + q - 1) (show 0 < q by omega)
  refine ⟨by omega, by omega, ?_⟩
  have h5 : (n * p + q - 1) / q ≤ max ((n * p + q - 1) / q) 1 := Nat.le_max_left _ _
  have h6 := Nat.mul_le_mul_right q h5
  rw [Nat.mul_comm q] at h3
  omega
theorem kth_mono {n p r q : Nat} (h : p ≤ r) : kth n p q ≤ kth n r q := by
  unfold kth
  have h1 : n * p ≤ n * r := Nat.mul_le_mul_left _ h
  have h2 : (n * p + q - 1) / q ≤ (n * r + q - 1) / q := Nat.div_le_div_right (by omega)
  omega
theorem quant_e (l : List Nat) (hw : okN l) (hl : l.length ≤ 1000) (p q : Int) : Evt (fun k => grid_Quantile.f k l p q) (quantF l p q) := by
  unfold grid_Quantile.f
  refine (check_e l hw (by omega)).bind ?_
  by_cases hc : chkN l = 0
  · refine Evt.ifT hc ?_
    have hq : quantF l p q = if q < 1 ∨ q > 1000000 ∨ p < 0 ∨ p > q then (0, 1) else ((sortF l).getD (kth l.length p.toNat q.toNat - 1) 0, 0) := by unfold quantF; rw [if_pos hc]
    obtain ⟨c1, c2, c3⟩ := chkN_ok hc
    by_cases h1 : q < 1
    · rw [hq.trans (if_pos (.inl h1))]; exact Evt.ifT h1 (Evt.const fun _ => rfl)
    · refine Evt.ifF h1 ?_
      by_cases h2 : q > 1000000
      · rw [hq.trans (if_pos (.inr (.inl h2)))]; exact Evt.ifT h2 (Evt.const fun _ => rfl)
      · refine Evt.ifF h2 ?_
        by_cases h3 : p < 0
        · rw [hq.trans (if_pos (.inr (.inr (.inl h3))))]; exact Evt.ifT h3 (Evt.const fun _ => rfl)
        · refine Evt.ifF h3 ?_
          by_cases h4 : p > q
          · rw [hq.trans (if_pos (.inr (.inr (.inr h4))))]; exact Evt.ifT h4 (Evt.const fun _ => rfl)
          · rw [hq.trans (if_neg (by omega))]
            refine Evt.ifF h4 (Evt.ifF (by omega) ?_)
            obtain ⟨P, rfl⟩ : ∃ P : Nat, p = P := ⟨p.toNat, by omega⟩
            obtain ⟨Q, rfl⟩ : ∃ Q : Nat, q = Q := ⟨q.toNat, by omega⟩
            rw [Int.toNat_natCast, Int.toNat_natCast]
            have hk := kth_le (n := l.length) (p := P) (q := Q) (by omega) (by omega) c1
            have hs : ieee_Sort.f l = some (sortF l) := by
              unfold ieee_Sort.f
              rw [if_pos ⟨List.all_eq_true.2 fun x hx => decide_eq_true (hw x hx), by omega⟩]
            refine Evt.after hs ?_
            have hb : l.length * P ≤ 1000 * 1000000 := Nat.mul_le_mul hl (by omega)
            have e1 : wrap64 (wrap64 (wrap64 ((l.length : Int) * (P : Int)) + (Q : Int)) - 1) = ((l.length * P + Q - 1 : Nat) : Int) := by
              rw [← Int.natCast_mul, w64 (i := ((l.length * P : Nat) : Int)) (by omega) (by omega), w64 (i := ((l.length * P : Nat) : Int) + Q) (by omega) (by omega), w64 (by omega) (by omega)]
              omega
            have e2 : wrap64 (Int.tdiv ((l.length * P + Q - 1 : Nat) : Int) (Q : Int)) = (((l.length * P + Q - 1) / Q : Nat) : Int) := by
              have hd := Nat.div_le_self (l.length * P + Q - 1) Q
              rw [Int.tdiv_eq_ediv_of_nonneg (by omega), ← Int.natCast_ediv]
              generalize (l.length * P + Q - 1) / Q = D at hd ⊢
              exact w64 (by omega) (by omega)
            have e3 : wrap64 (mx (((l.length * P + Q - 1) / Q : Nat) : Int) 1 - 1) = ((kth l.length P Q - 1 : Nat) : Int) := by
              unfold kth at hk ⊢
              have hm : mx (((l.length * P + Q - 1) / Q : Nat) : Int) 1 = ((max ((l.length * P + Q - 1) / Q) 1 : Nat) : Int) := by unfold mx; omega
              rw [hm, w64 (by omega) (by omega)]
              omega
            rw [e1, e2, e3]
            have hlen := sortF_len l
            refine Evt.ifT (by omega) (Evt.ifT (by omega) (Evt.const fun _ => ?_))
            congr 2
  · rw [show quantF l p q = (0, chkN l) by unfold quantF; rw [if_neg hc]]; exact Evt.ifF hc (Evt.const fun _ => rfl)
def meanE (l : List Nat) : Nat × Int := if chkN l = 0 then (meanF l, 0) else (0, chkN l)
theorem good_of {l : List Nat} (hw : okN l) (h : chkN l = 0) : goodN l = true := by
  obtain ⟨c1, c2, c3⟩ := chkN_ok h
  unfold goodN
  rw [Bool.and_eq_true, List.all_eq_true]
  exact ⟨decide_eq_true ⟨c1, c2⟩, fun x hx => by rw [Bool.and_eq_true, decide_eq_true_iff]; exact ⟨hw x hx, fin_of c3 hx⟩⟩
theorem mean_e (l : List Nat) (hw : okN l) (hl : l.length < 4611686018427387904) : Evt (fun k => grid_Mean.f k l) (meanE l) := by
  unfold grid_Mean.f
  refine (check_e l hw hl).bind ?_
  by_cases hc : chkN l = 0
  · rw [show meanE l = (meanF l, 0) by unfold meanE; rw [if_pos hc]]
    exact Evt.ifT hc (Evt.const fun _ => if_pos (good_of hw hc))
  · rw [show meanE l = (0, chkN l) by unfold meanE; rw [if_neg hc]]
    exact Evt.ifF hc (Evt.const fun _ => rfl)
theorem sumL_perm {x y : List Nat} (h : x.Perm y) : sumL x = sumL y := by
  induction h with
  | nil => rfl
  | cons x _ ih => rw [sumL, sumL, ih]
  | swap x y l => rw [sumL, sumL, sumL, sumL]; omega
  | trans _ _ h1 h2 => exact h1.trans h2
theorem meanE_perm {x y : List Nat} (h : x.Perm y) : meanE x = meanE y := by
  unfold meanE meanF
  rw [chkN_perm h, sumL_perm h, h.length_eq]
theorem quantF_perm {x y : List Nat} (hx : okN x) (h : x.Perm y) (p q : Int) : quantF x p q = quantF y p q := by
  unfold quantF
  rw [← chkN_perm h, ← h.length_eq]
  by_cases c : chkN x = 0
  · rw [if_pos c, if_pos c, sortF_eq hx (chkN_ok c).2.2 h]
  · rw [if_neg c, if_neg c]
/-! ### Count -/
theorem rd_set_ne {l : List Int} {i j : Nat} (h : i ≠ j) (v : Int) : rd (l.set i v) (j : Int) = rd l (j : Int) := by
  unfold rd
  rw [Int.toNat_natCast, List.getD_eq_getElem?_getD, List.getD_eq_getElem?_getD, List.getElem?_set_ne h]
theorem stepF_comm (out : List Int) (p q : Nat) : stepF (stepF out p) q = stepF (stepF out q) p := by
  by_cases h : p = q
  · subst h; rfl
  · unfold stepF
    rw [rd_set_ne h, rd_set_ne (Ne.symm h)]
    exact List.set_comm _ _ h
theorem cntF_perm {es : List Nat} {x y : List Nat} (h : x.Perm y) : ∀ out, cntF es out x = cntF es out y := by
  induction h with
  | nil => intro out; rfl
  | cons x _ ih => intro out; rw [cntF, cntF]; exact ih _
  | swap x y l => intro out; rw [cntF, cntF, cntF, cntF, stepF_comm]
  | trans _ _ h1 h2 => intro out; exact (h1 out).trans (h2 out)
theorem countF_perm {es x y : List Nat} (h : x.Perm y) : countF x es = countF y es := by
  unfold countF
  rw [h.length_eq, allF_perm h, cntF_perm h]
def sumI : List Int → Int
  | [] => 0
  | a :: l => a + sumI l
theorem sumI_set : ∀ (l : List Int) (i : Nat) (hi : i < l.length) (v : Int), sumI (l.set i v) = sumI l - l[i] + v
  | a :: l, 0, _, v => by show v + sumI l = a + sumI l - a + v; omega
  | a :: l, i + 1, hi, v => by
    have := sumI_set l i (by simpa using hi) v
    show a + sumI (l.set i v) = a + sumI l - l[i]'(by simpa using hi) + v
    rw [this]; omega
def small (l : List Int) (b : Int) : Prop := ∀ x ∈ l, 0 ≤ x ∧ x ≤ b
theorem step_small {out : List Int} {b : Int} (hb : b < 1000000) {p : Nat} (hp : p < out.length) (h : small out b) : small (stepF out p) (b + 1) ∧ sumI (stepF out p) = sumI out + 1 := by
  have h1 := h _ (List.getElem_mem hp)
  have e : wrap64 (rd out (p : Int) + 1) = out[p] + 1 := by rw [rdi_at hp, w64 (by omega) (by omega)]
  unfold stepF
  rw [e]
  refine ⟨fun x hx => ?_, ?_⟩
  · rcases List.mem_or_eq_of_mem_set hx with hx | hx
    · have := h x hx; omega
    · omega
  · rw [sumI_set _ _ hp]; omega
theorem cntF_sum (es : List Nat) : ∀ (x : List Nat) (out : List Int) (b : Int), out.length = es.length + 1 → small out b → b + x.length < 1000000 → small (cntF es out x) (b + x.length) ∧ sumI (cntF es out x) = sumI out + x.length
  | [], out, b, _, h, _ => ⟨fun y hy => by have := h y hy; show 0 ≤ y ∧ y ≤ b + ((0 : Nat) : Int); omega, by show sumI out = sumI out + ((0 : Nat) : Int); omega⟩
  | v :: l, out, b, ho, h, hb => by
    rw [List.length_cons] at hb ⊢
    have hp := posF_le es v
    obtain ⟨s1, s2⟩ := step_small (by omega) (show posF es v < out.length by omega) h
    obtain ⟨r1, r2⟩ := cntF_sum es l (stepF out (posF es v)) (b + 1) (by rw [stepF_len]; exact ho) s1 (by omega)
    rw [cntF, r2, s2]
    exact ⟨fun y hy => by have := r1 y hy; omega, by omega⟩
theorem sumI_rep (n : Nat) : sumI (List.replicate n 0) = 0 := by
  induction n with
  | zero => rfl
  | succ n ih => rw [List.replicate_succ, sumI, ih]; rfl
theorem sumI_append : ∀ l m : List Int, sumI (l ++ m) = sumI l + sumI m
  | [], m => by rw [List.nil_append, sumI, Int.zero_add]
  | x :: l, m => by rw [List.cons_append, sumI, sumI, sumI_append l m, Int.add_assoc]
theorem sumI_nn : ∀ (l : List Int) (b : Int), small l b → 0 ≤ sumI l
  | [], _, _ => Int.le_refl _
  | a :: l, b, h => by
    have h1 := h a List.mem_cons_self
    have h2 := sumI_nn l b fun x hx => h x (List.mem_cons_of_mem _ hx)
    show 0 ≤ a + sumI l
    omega
/-- where counts are told: none is below 0, and they add up. -/
theorem countF_sum {x es : List Nat} (hx : x.length ≤ 100) (h : (countF x es).2 = 0) : sumI (countF x es).1 = x.length ∧ small (countF x es).1 x.length := by
  unfold countF at h ⊢
  by_cases c1 : 256 < es.length
  · rw [if_pos c1] at h; exact absurd (show (2 : Int) = 0 from h) (by decide)
  · rw [if_neg c1] at h ⊢
    by_cases c2 : es.length = 0 ∨ 1048576 < x.length
    · rw [if_pos c2] at h; exact absurd (show (100 : Int) = 0 from h) (by decide)
    · rw [if_neg c2] at h ⊢
      by_cases c3 : allF es = true ∧ allF x = true
      · rw [if_pos c3] at h ⊢
        by_cases c4 : rises es = true
        · rw [if_pos c4]
          obtain ⟨r1, r2⟩ := cntF_sum es x (List.replicate (es.length + 1) 0) 0 (by rw [List.length_replicate]) (fun y hy => by have := (List.mem_replicate.1 hy).2; omega) (by omega)
          rw [sumI_rep] at r2
          show sumI (cntF es (List.replicate (es.length + 1) 0) x) = _ ∧ small (cntF es (List.replicate (es.length + 1) 0) x) _
          exact ⟨by omega, fun y hy => by have := r1 y hy; omega⟩
        · rw [if_neg c4] at h; exact absurd (show (1 : Int) = 0 from h) (by decide)
      · rw [if_neg c3] at h; exact absurd (show (91 : Int) = 0 from h) (by decide)
/-! ### the mean lies between -/
theorem sumL_above {x : List Nat} {y : Nat} (h : ∀ z ∈ x, units y ≤ units z) : (x.length : Int) * units y ≤ sumL x := by
  induction x with
  | nil => simp [sumL]
  | cons a l ih =>
    have h1 := h a List.mem_cons_self
    have h2 := ih fun z hz => h z (List.mem_cons_of_mem _ hz)
    rw [sumL, List.length_cons, Int.natCast_add, Int.add_mul]
    show _ + 1 * units y ≤ _
    omega
theorem sumL_under {x : List Nat} {y : Nat} (h : ∀ z ∈ x, units z ≤ units y) : sumL x ≤ (x.length : Int) * units y := by
  induction x with
  | nil => simp [sumL]
  | cons a l ih =>
    have h1 := h a List.mem_cons_self
    have h2 := ih fun z hz => h z (List.mem_cons_of_mem _ hz)
    rw [sumL, List.length_cons, Int.natCast_add, Int.add_mul]
    show _ ≤ _ + 1 * units y
    omega
end Go.Proofs.Ytepcegiciecogaa.FG
