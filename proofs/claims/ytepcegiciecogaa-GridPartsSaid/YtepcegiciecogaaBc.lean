/- GridParts, the plain law. No walk. -/
import Derived.Test.YtepcegiciecogaaFJx1
import Derived.Test.YtepcegiciecogaaBd
namespace Go.Proofs.Ytepcegiciecogaa.FJ
open Go.RowKit Go.Proofs.YtepcegiciecogaaW.PrintWords Go.Proofs.YtepcegiciecogaaW.PrintLast Go.Proofs.YtepcegiciecogaaW.PrintMore Tn
open Go.Proofs.Ytepcegiciecogaa.FX Go.Proofs.Ytepcegiciecogaa.EV Go.Proofs.Ytepcegiciecogaa.FG Go.Proofs.Ytepcegiciecogaa.FI
set_option linter.unusedVariables false

theorem same_go (l : List Int) (hl : l.length < 4611686018427387904) : ∀ d i : Nat, i + d = l.length → Evt (fun k => tenorlaw25_same.l0 k l l (i : Int)) true
  | 0, i, h => Evt.last fun k => by rw [tenorlaw25_same.l0, if_neg (by omega)]
  | d + 1, i, h => by
    refine Evt.next (same_go l hl d (i + 1) (by omega)) fun k => ?_
    rw [tenorlaw25_same.l0, if_pos (by omega), if_pos (by omega), if_pos (by omega), if_pos rfl, w64 (by omega) (by omega)]
    rfl
theorem same_e (l : List Int) (hl : l.length < 4611686018427387904) : Evt (fun k => tenorlaw25_same.f k l l) true :=
  (same_go l hl l.length 0 (by omega)).congr fun k => by unfold tenorlaw25_same.f; rw [if_pos rfl]; rfl
theorem cntF_len (es : List Nat) : ∀ (x : List Nat) (out : List Int), (cntF es out x).length = out.length
  | [], _ => rfl
  | v :: l, out => by rw [cntF, cntF_len es l, stepF_len]
theorem countF_len (x es : List Nat) : (countF x es).1.length ≤ 257 := by
  unfold countF
  split
  · exact Nat.zero_le _
  · split
    · exact Nat.zero_le _
    · split
      · split
        · show (cntF _ _ _).length ≤ _
          rw [cntF_len, List.length_replicate]; omega
        · exact Nat.zero_le _
      · exact Nat.zero_le _
theorem mix_go (x : List Nat) (hl : x.length ≤ 60) (by_ : List Int) (p r q : Int) (es : List Nat) (hj : ∀ m : List Nat, m.Perm x → Evt (fun k => tenorlaw25_GridParts.j2 k x p r q es m) true) :
    ∀ (d i : Nat) (xs : List Nat), i + d = x.length → xs.Perm x → Evt (fun k => tenorlaw25_GridParts.l0 k x by_ p r q es xs (i : Int)) true
  | 0, i, xs, h, hp => by
    refine Evt.next (hj xs hp) fun k => ?_
    rw [tenorlaw25_GridParts.l0, if_neg (by rw [hp.length_eq]; omega)]
  | d + 1, i, xs, h, hp => by
    have hn := hp.length_eq
    by_cases hb : (i : Int) < (by_.length : Int)
    · obtain ⟨j, hj1, hj2⟩ : ∃ j : Nat, Int.tmod (wrap64 ((Int.tmod (rd by_ (i : Int)) (xs.length : Int)) + (xs.length : Int))) (xs.length : Int) = (j : Int) ∧ j < xs.length := by
        generalize rd by_ (i : Int) = b
        have hpos : (0 : Int) < (xs.length : Int) := by omega
        have h1 := Int.tmod_lt_of_pos b hpos
        have h2 : -(xs.length : Int) < Int.tmod b (xs.length : Int) := by
          have := Int.lt_tmod_of_pos b hpos
          omega
        generalize Int.tmod b (xs.length : Int) = t at h1 h2
        have e : wrap64 (t + (xs.length : Int)) = t + xs.length := by unfold wrap64; omega
        rw [e, Int.tmod_eq_emod_of_nonneg (by omega)]
        have h3 := Int.emod_nonneg (t + (xs.length : Int)) (show (xs.length : Int) ≠ 0 by omega)
        have h4 := Int.emod_lt_of_pos (t + (xs.length : Int)) hpos
        exact ⟨((t + (xs.length : Int)) % (xs.length : Int)).toNat, by omega, by omega⟩
      have hi : i < xs.length := by omega
      have hs : ((xs.set i (rdOf (0 : Nat) xs (j : Int))).set j (rdOf (0 : Nat) xs (i : Int))).Perm xs := by
        rw [rdf_at hj2, rdf_at hi]
        exact List.set_set_perm hi hj2
      refine Evt.next (mix_go x hl by_ p r q es hj d (i + 1) _ (by omega) (hs.trans hp)) fun k => ?_
      rw [tenorlaw25_GridParts.l0, if_pos (by omega), if_pos hb, if_pos (by omega), if_neg (by omega), hj1, if_pos (by omega), if_pos (by omega), Int.toNat_natCast, Int.toNat_natCast, w64 (i := (i : Int) + 1) (by omega) (by omega)]
      rfl
    · refine Evt.next (hj xs hp) fun k => ?_
      rw [tenorlaw25_GridParts.l0, if_pos (by omega), if_neg hb]
theorem sumI_take {s : List Int} {i : Nat} (hi : i < s.length) : sumI (s.take (i + 1)) = sumI (s.take i) + s[i] := by
  rw [List.take_succ_eq_append_getElem hi, sumI_append]
  show _ + (_ + 0) = _
  rw [Int.add_zero]
theorem sum_go (s : List Int) (b : Int) (hb : b < 1000000) (hs : small s b) (x : List Nat) (hx : x.length < 1000000) (ht : sumI s = x.length) (hsl : s.length < 1000000) (x2 x3 x4 x17 x21 x23 : Int) (x16 x20 x22 : Nat) (hj : Evt (fun k => tenorlaw25_GridParts.j4 k x x2 x3 x4 x16 x17 x20 x21 x22 x23) true) :
    ∀ d i : Nat, i + d = s.length → Evt (fun k => tenorlaw25_GridParts.l1 k x x2 x3 x4 x16 x17 x20 x21 x22 x23 s (sumI (s.take i)) (i : Int)) true
  | 0, i, h => by
    refine Evt.next hj fun k => ?_
    rw [tenorlaw25_GridParts.l1, if_neg (by omega), if_pos (by rw [List.take_of_length_le (by omega)]; exact ht)]
  | d + 1, i, h => by
    have hi : i < s.length := by omega
    refine Evt.next (sum_go s b hb hs x hx ht hsl x2 x3 x4 x17 x21 x23 x16 x20 x22 hj d (i + 1) (by omega)) fun k => ?_
    have e1 := sumI_take hi
    have n1 := sumI_nn (s.take (i + 1)) b fun y hy => hs y (List.mem_of_mem_take hy)
    have n2 := sumI_nn (s.drop (i + 1)) b fun y hy => hs y (List.mem_of_mem_drop hy)
    have e2 : sumI (s.take (i + 1)) + sumI (s.drop (i + 1)) = sumI s := by rw [← sumI_append, List.take_append_drop]
    rw [tenorlaw25_GridParts.l1, if_pos (by omega), if_pos (by omega), rdi_at hi, ← e1, w64 (i := sumI (s.take (i + 1))) (by omega) (by omega), w64 (by omega) (by omega)]
    rfl
/-! ### the end -/
def atMost (x : List Nat) (a : Nat) : Nat := (x.filter fun v => decide (rank v ≤ rank a)).length
theorem atMost_next {x : List Nat} {a i : Nat} (hi : i < x.length) : atMost (x.take (i + 1)) a = atMost (x.take i) a + (if rank x[i] ≤ rank a then 1 else 0) := by
  unfold atMost
  rw [List.take_succ_eq_append_getElem hi, List.filter_append, List.length_append]
  congr 1
  by_cases h : rank x[i] ≤ rank a
  · rw [if_pos h, List.filter_cons_of_pos (by simpa using h)]; rfl
  · rw [if_neg h, List.filter_cons_of_neg (by simpa using h)]; rfl
theorem atMost_le (x : List Nat) (a : Nat) : atMost x a ≤ x.length := List.length_filter_le _ _
theorem atMost_perm {x y : List Nat} (h : x.Perm y) (a : Nat) : atMost x a = atMost y a := (h.filter _).length_eq
theorem atMost_ge {s : List Nat} {a k : Nat} (hk : k ≤ s.length) (h : ∀ j (hj : j < k), rank (s[j]'(by omega)) ≤ rank a) : k ≤ atMost s a := by
  have e : s.filter (fun v => decide (rank v ≤ rank a)) = (s.take k).filter (fun v => decide (rank v ≤ rank a)) ++ (s.drop k).filter (fun v => decide (rank v ≤ rank a)) := by
    rw [← List.filter_append, List.take_append_drop]
  have e2 : (s.take k).filter (fun v => decide (rank v ≤ rank a)) = s.take k := by
    rw [List.filter_eq_self]
    intro v hv
    obtain ⟨j, hj, rfl⟩ := List.getElem_of_mem hv
    have hj2 : j < k := by rw [List.length_take] at hj; omega
    rw [List.getElem_take]
    exact decide_eq_true (h j hj2)
  unfold atMost
  rw [e, e2, List.length_append, List.length_take]
  omega
theorem end_go (x : List Nat) (hw : okN x) (hf : allF x = true) (hl : x.length ≤ 60) (p r q : Int) (a c m low high : Nat) (ha : a < 18446744073709551616) (hc : c < 18446744073709551616) (hm : m < 18446744073709551616) (hlo : low < 18446744073709551616) (hhi : high < 18446744073709551616)
    (na : nan a = false) (nc : nan c = false) (nm : nan m = false) (nlo : nan low = false) (nhi : nan high = false)
    (h1 : ∀ z ∈ x, rank low ≤ rank z ∧ rank z ≤ rank high) (h2 : rank low ≤ rank m ∧ rank m ≤ rank high) (h3 : rank low ≤ rank a ∧ rank a ≤ rank high) (hp : 0 ≤ p) (hpq : p ≤ q) (hq : q ≤ 1000000) (h4 : (x.length : Int) * p ≤ (atMost x a : Int) * q) (h5 : p ≤ r → rank a ≤ rank c) :
    ∀ d i : Nat, i + d = x.length → Evt (fun k => tenorlaw25_GridParts.l2 k x p r q a c m low 0 high 0 (atMost (x.take i) a : Int) (i : Int)) true
  | 0, i, h => by
    have b1 := atMost_le x a
    have b2 : (atMost x a : Int) * q ≤ 60 * 1000000 := Int.mul_le_mul (by omega) hq (by omega) (by omega)
    have b3 : 0 ≤ (x.length : Int) * p := Int.mul_nonneg (by omega) hp
    refine Evt.last fun k => ?_
    rw [tenorlaw25_GridParts.l2, if_neg (by omega), if_pos rfl, if_pos rfl, le_val hlo hm nlo nm, le_val hm hhi nm nhi, le_val hlo ha nlo na, le_val ha hhi na nhi, le_val ha hc na nc, if_pos (decide_eq_true h2.1), if_pos (decide_eq_true h2.2), if_pos (decide_eq_true h3.1), if_pos (decide_eq_true h3.2), List.take_of_length_le (by omega), w64 (i := (atMost x a : Int) * q) (by omega) (by omega), w64 (i := (x.length : Int) * p) (by omega) (by omega), if_pos (by omega)]
    by_cases c1 : p > r
    · rw [if_pos c1]; rfl
    · rw [if_neg c1, if_pos (decide_eq_true (h5 (by omega)))]; rfl
  | d + 1, i, h => by
    have hi : i < x.length := by omega
    have ih := end_go x hw hf hl p r q a c m low high ha hc hm hlo hhi na nc nm nlo nhi h1 h2 h3 hp hpq hq h4 h5 d (i + 1) (by omega)
    have hz := List.getElem_mem hi
    have hzw := hw _ hz
    have hzn := nan_fin (fin_of hf hz)
    obtain ⟨z1, z2⟩ := h1 _ hz
    have b1 := atMost_le (x.take i) a
    have b2 : (x.take i).length ≤ x.length := by rw [List.length_take]; omega
    rw [atMost_next hi] at ih
    refine Evt.next ih fun k => ?_
    rw [tenorlaw25_GridParts.l2, if_pos (by omega), if_pos (by omega), rdf_at hi, le_val hzw ha hzn na, ord_lt hzw hlo hzn nlo, ord_gt hzw hhi hzn nhi, w64 (i := (i : Int) + 1) (by omega) (by omega), w64 (i := (atMost (x.take i) a : Int) + 1) (by omega) (by omega)]
    by_cases c1 : rank x[i] ≤ rank a
    · rw [if_pos (decide_eq_true c1), if_neg (by simp; omega), if_neg (by simp; omega), if_pos c1]; rfl
    · rw [if_neg (by simpa using c1), if_neg (by simp; omega), if_neg (by simp; omega), if_neg c1]; rfl
theorem getD_mem {l : List Nat} {i : Nat} (hi : i < l.length) : l.getD i 0 = l[i] := by
  rw [List.getD_eq_getElem?_getD, List.getElem?_eq_getElem hi]; rfl
theorem end_e (x : List Nat) (hw : okN x) (hl : x.length ≤ 60) (p r q : Int) (hc : chkN x = 0) (e1 : (quantF x p q).2 = 0) (e2 : (quantF x r q).2 = 0) : Evt (fun k => tenorlaw25_GridParts.j5 k x p r q (quantF x p q).1 (quantF x r q).1 (meanF x) false) true := by
  obtain ⟨c1, c2, hf⟩ := chkN_ok hc
  have hg : ∀ (p q : Int), (quantF x p q).2 = 0 → 1 ≤ q ∧ q ≤ 1000000 ∧ 0 ≤ p ∧ p ≤ q ∧ (quantF x p q).1 = (sortF x).getD (kth x.length p.toNat q.toNat - 1) 0 := by
    intro p q h
    unfold quantF at h ⊢
    rw [if_pos hc] at h ⊢
    by_cases c : q < 1 ∨ q > 1000000 ∨ p < 0 ∨ p > q
    · rw [if_pos c] at h; exact absurd (show (1 : Int) = 0 from h) (by decide)
    · rw [if_neg c]; exact ⟨by omega, by omega, by omega, by omega, rfl⟩
  have hgo : ∀ (p q : Int), 1 ≤ q → q ≤ 1000000 → 0 ≤ p → p ≤ q → quantF x p q = ((sortF x).getD (kth x.length p.toNat q.toNat - 1) 0, 0) := by
    intro p q a1 a2 a3 a4
    unfold quantF
    rw [if_pos hc, if_neg (by omega)]
  obtain ⟨q1, q2, p1, p2, ea⟩ := hg p q e1
  obtain ⟨_, _, r1, r2, ec⟩ := hg r q e2
  have hlen := sortF_len x
  have hkp := kth_le (n := x.length) (p := p.toNat) (q := q.toNat) (by omega) (by omega) c1
  have hkr := kth_le (n := x.length) (p := r.toNat) (q := q.toNat) (by omega) (by omega) c1
  have hlow : quantF x 0 1 = ((sortF x)[0]'(by omega), 0) := by
    rw [hgo 0 1 (by decide) (by decide) (by decide) (by decide)]
    have : kth x.length (0 : Int).toNat (1 : Int).toNat - 1 = 0 := by
      show max ((x.length * 0 + 1 - 1) / 1) 1 - 1 = 0
      rw [Nat.mul_zero]; decide
    rw [this, getD_mem (by omega)]
  have hhigh : quantF x 1 1 = ((sortF x)[x.length - 1]'(by omega), 0) := by
    rw [hgo 1 1 (by decide) (by decide) (by decide) (by decide)]
    have : kth x.length (1 : Int).toNat (1 : Int).toNat - 1 = x.length - 1 := by
      show max ((x.length * 1 + 1 - 1) / 1) 1 - 1 = x.length - 1
      rw [Nat.div_one]; omega
    rw [this, getD_mem (by omega)]
  have hmem : ∀ (i : Nat) (hi : i < (sortF x).length), (sortF x)[i] < 18446744073709551616 ∧ nan (sortF x)[i] = false ∧ fin (sortF x)[i] = true := by
    intro i hi
    have hm := (sortF_perm hw).mem_iff.1 (List.getElem_mem hi)
    exact ⟨hw _ hm, nan_fin (fin_of hf hm), fin_of hf hm⟩
  have hall : ∀ z ∈ x, rank ((sortF x)[0]'(by omega)) ≤ rank z ∧ rank z ≤ rank ((sortF x)[x.length - 1]'(by omega)) := by
    intro z hz
    obtain ⟨j, hj, rfl⟩ := List.getElem_of_mem ((sortF_perm hw).mem_iff.2 hz)
    exact ⟨sorted_rank hw hf hj (Nat.zero_le _), sorted_rank hw hf (by omega) (by omega)⟩
  have hkp1 : kth x.length p.toNat q.toNat - 1 < (sortF x).length := by omega
  have hkr1 : kth x.length r.toNat q.toNat - 1 < (sortF x).length := by omega
  rw [ea, ec, getD_mem hkp1, getD_mem hkr1]
  obtain ⟨m1, m2, m3⟩ := hmem 0 (by omega)
  obtain ⟨n1, n2, n3⟩ := hmem (x.length - 1) (by omega)
  obtain ⟨a1, a2, _⟩ := hmem _ hkp1
  obtain ⟨b1, b2, _⟩ := hmem _ hkr1
  have hab := over_above (Z := sumL x) (n := x.length) c1 m3 (sumL_above fun z hz => units_mono m3 (fin_of hf hz) (hall z hz).1)
  have hun := over_under (Z := sumL x) (n := x.length) c1 n3 (sumL_under fun z hz => units_mono (fin_of hf hz) n3 (hall z hz).2)
  refine Evt.next (f := fun k => (grid_Quantile.f k x 0 1).bind fun bt139 => ((grid_Quantile.f k x 1 1).bind fun bt141 => (tenorlaw25_GridParts.l2 k x p r q ((sortF x)[kth x.length p.toNat q.toNat - 1]) ((sortF x)[kth x.length r.toNat q.toNat - 1]) (meanF x) bt139.1 bt139.2 bt141.1 bt141.2 0 0))) ?_ fun k => by rw [tenorlaw25_GridParts.j5, if_neg (by decide)]
  refine (quant_e x hw (by omega) 0 1).bind ((quant_e x hw (by omega) 1 1).bind ?_)
  rw [hlow, hhigh]
  refine end_go x hw hf hl p r q _ _ _ _ _ a1 b1 (over_lt _ _) m1 n1 a2 b2 (rank_overV _ _).1 m2 n2 hall ⟨hab, hun⟩ ⟨sorted_rank hw hf hkp1 (Nat.zero_le _), sorted_rank hw hf (by omega) (by omega)⟩ p1 p2 q2 ?_ (fun h => sorted_rank hw hf hkr1 (by have := kth_mono (n := x.length) (p := p.toNat) (r := r.toNat) (q := q.toNat) (by omega); omega)) x.length 0 (by omega)
  have hcount : kth x.length p.toNat q.toNat ≤ atMost x ((sortF x)[kth x.length p.toNat q.toNat - 1]) := by
    rw [← atMost_perm (sortF_perm hw)]
    refine atMost_ge (by omega) fun j hj => sorted_rank hw hf hkp1 (by omega)
  have hmul := Nat.mul_le_mul_right q.toNat hcount
  have ep : ((p.toNat : Nat) : Int) = p := Int.toNat_of_nonneg p1
  have eq : ((q.toNat : Nat) : Int) = q := Int.toNat_of_nonneg (by omega)
  generalize atMost x ((sortF x)[kth x.length p.toNat q.toNat - 1]) = L at *
  have g1 : (x.length : Int) * p = ((x.length * p.toNat : Nat) : Int) := by rw [Int.natCast_mul, ep]
  have g2 : (L : Int) * q = ((L * q.toNat : Nat) : Int) := by rw [Int.natCast_mul, eq]
  rw [g1, g2]
  exact Int.ofNat_le.2 (Nat.le_trans hkp.2.2 hmul)
theorem law (x : List Nat) (by_ : List Int) (p r q : Int) (es : List Nat) (hx : okN x) (he : okN es) (hxl : x.length < 17592186044416) : ∃ k, tenorlaw25_GridParts.f k x by_ p r q es = some true := by
  have hT : Evt (fun k => tenorlaw25_GridParts.j0 k x by_ p r q es true) true := Evt.last fun k => by rw [tenorlaw25_GridParts.j0, if_pos rfl]; rfl
  refine Evt.get ?_
  unfold tenorlaw25_GridParts.f
  by_cases h1 : (x.length : Int) > 60
  · exact Evt.ifT h1 hT
  · refine Evt.ifF h1 ?_
    by_cases h2 : (x.length : Int) = 0
    · exact Evt.ifT h2 hT
    · refine Evt.ifF h2 ?_
      cases hd : decide ((es.length : Int) > 40)
      case true => exact hT
      case false =>
      have hj8T : ∀ (a b m : Nat), Evt (fun k => tenorlaw25_GridParts.j5 k x p r q a b m true) true := fun a b m => Evt.last fun k => by rw [tenorlaw25_GridParts.j5, if_pos rfl]; rfl
      have hj7 : Evt (fun k => tenorlaw25_GridParts.j4 k x p r q (quantF x p q).1 (quantF x p q).2 (quantF x r q).1 (quantF x r q).2 (meanE x).1 (meanE x).2) true := by
        by_cases c1 : (quantF x p q).2 = 0
        · by_cases c2 : (quantF x r q).2 = 0
          · by_cases c3 : (meanE x).2 = 0
            · have hc : chkN x = 0 := by
                unfold meanE at c3
                by_cases c : chkN x = 0
                · exact c
                · rw [if_neg c] at c3; exact absurd c3 c
              have hm : (meanE x).1 = meanF x := by unfold meanE; rw [if_pos hc]
              have := end_e x hx (by omega) p r q hc c1 c2
              refine Evt.next this fun k => ?_
              rw [tenorlaw25_GridParts.j4, if_pos c1, if_pos c2, c3, hm]; rfl
            · refine Evt.next (hj8T (quantF x p q).1 (quantF x r q).1 (meanE x).1) fun k => ?_
              rw [tenorlaw25_GridParts.j4, if_pos c1, if_pos c2, bne_iff_ne.2 c3]
          · refine Evt.next (hj8T (quantF x p q).1 (quantF x r q).1 (meanE x).1) fun k => ?_
            rw [tenorlaw25_GridParts.j4, if_pos c1, if_neg c2]
        · refine Evt.next (hj8T (quantF x p q).1 (quantF x r q).1 (meanE x).1) fun k => ?_
          rw [tenorlaw25_GridParts.j4, if_neg c1]
      have hj2 : ∀ m : List Nat, m.Perm x → Evt (fun k => tenorlaw25_GridParts.j2 k x p r q es m) true := by
        intro m hm
        have hmw : okN m := fun z hz => hx z (hm.mem_iff.1 hz)
        have hml := hm.length_eq
        have qe : quantF m p q = quantF x p q := (quantF_perm hx hm.symm p q).symm
        have me : meanE m = meanE x := meanE_perm hm
        have ce : countF m es = countF x es := countF_perm hm
        refine Evt.next (f := fun k => (grid_Quantile.f k x p q).bind fun bt113 => ((grid_Quantile.f k m p q).bind fun bt115 => ((grid_Quantile.f k x r q).bind fun bt117 => (if bt113.2 = bt115.2 then ((api_Bits.f bt113.1).bind fun t119 => ((api_Bits.f bt115.1).bind fun t120 => (if t119 = t120 then ((grid_Mean.f k x).bind fun bt121 => ((grid_Mean.f k m).bind fun bt123 => (if bt121.2 = bt123.2 then ((api_Bits.f bt121.1).bind fun t125 => ((api_Bits.f bt123.1).bind fun t126 => (if t125 = t126 then ((grid_Count.f k x es).bind fun bt127 => ((grid_Count.f k m es).bind fun bt131 => (if bt127.2 = bt131.2 then ((tenorlaw25_same.f k bt127.1 bt131.1).bind fun t135 => (if t135 = true then (if bt127.2 = 0 then (tenorlaw25_GridParts.l1 k x p r q bt113.1 bt113.2 bt117.1 bt117.2 bt121.1 bt121.2 bt127.1 0 0) else (tenorlaw25_GridParts.j4 k x p r q bt113.1 bt113.2 bt117.1 bt117.2 bt121.1 bt121.2)) else (some false))) else (none)))) else (none)))) else (none)))) else (none)))) else (none))))) ?_ fun k => by rw [tenorlaw25_GridParts.j2]
        refine (quant_e x hx (by omega) p q).bind ((quant_e m hmw (by omega) p q).bind ((quant_e x hx (by omega) r q).bind ?_))
        rw [qe]
        refine Evt.ifT rfl (Evt.after rfl (Evt.after rfl (Evt.ifT rfl ?_)))
        refine (mean_e x hx (by omega)).bind ((mean_e m hmw (by omega)).bind ?_)
        rw [me]
        refine Evt.ifT rfl (Evt.after rfl (Evt.after rfl (Evt.ifT rfl ?_)))
        refine (count_e x es hx he (by omega)).bind ((count_e m es hmw he (by omega)).bind ?_)
        rw [ce]
        refine Evt.ifT rfl ((same_e _ (by have := countF_len x es; omega)).bind (Evt.ifT rfl ?_))
        by_cases c1 : (countF x es).2 = 0
        · obtain ⟨s1, s2⟩ := countF_sum (x := x) (es := es) (by omega) c1
          refine Evt.ifT c1 ?_
          exact sum_go (countF x es).1 (x.length : Int) (by omega) s2 x (by omega) s1 (by have := countF_len x es; omega) p r q _ _ _ _ _ _ hj7 _ 0 (Nat.zero_add _)
        · exact Evt.ifF c1 hj7
      refine Evt.next (mix_go x (by omega) by_ p r q es hj2 x.length 0 x (by omega) (List.Perm.refl _)) fun k => ?_
      rw [tenorlaw25_GridParts.j0, if_neg (by decide), Option.bind_some, if_pos (by rw [List.length_nil]; omega), List.nil_append]
      rfl
end Go.Proofs.Ytepcegiciecogaa.FJ
