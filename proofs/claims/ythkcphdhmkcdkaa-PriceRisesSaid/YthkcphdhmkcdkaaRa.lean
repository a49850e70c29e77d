/- PriceRises, the plain law. No walk. -/
import Derived.Test.YthkcphdhmkcdkaaFUx2
namespace Go.Proofs.Ythkcphdhmkcdkaa.FU
open Go.RowKit Go.Proofs.YthkcphdhmkcdkaaW.PrintWords Go.Proofs.YthkcphdhmkcdkaaW.PrintLast Go.Proofs.YthkcphdhmkcdkaaW.PrintMore Tn
open Go.Proofs.Ythkcphdhmkcdkaa.FX Go.Proofs.Ythkcphdhmkcdkaa.FB Go.Proofs.Ythkcphdhmkcdkaa.FP Go.Proofs.Ythkcphdhmkcdkaa.FQ Go.Proofs.Ythkcphdhmkcdkaa.EV
set_option linter.unusedVariables false
theorem small_is (l : List S51) (b kd : Int) (ds : List Int) (fs : List Nat) : tenorlaw15_small.f l b kd ds fs = some (decide (l.length ≤ 60 ∧ ds.length ≤ 12 ∧ fs.length ≤ 12)) := by
  unfold tenorlaw15_small.f
  by_cases c1 : (l.length : Int) ≤ 60
  · rw [if_pos c1]
    by_cases c2 : (ds.length : Int) ≤ 12
    · rw [if_pos c2]; congr 1; rw [Bool.eq_iff_iff, decide_eq_true_iff, decide_eq_true_iff]; omega
    · rw [if_neg c2, decide_eq_false (by omega)]
  · rw [if_neg c1, decide_eq_false (by omega)]
theorem awake_is : law15_awakeX.f = some true := rfl
theorem sV_nonneg {x : Nat} (hw : x < 18446744073709551616) (hf : fin x = true) (h : ¬ (FloatKind.f64.format.order x (0 : Nat) == some .lt) = true) : 0 ≤ sV x := by
  rw [ord_lt hw (by decide) (fin_nan hf) (by decide), decide_eq_true_iff, show rank 0 = 0 by decide] at h
  have := sV_rank (a := 0) (b := x) (by decide) hf (by rw [show rank 0 = 0 by decide]; omega)
  rw [show sV 0 = 0 by decide] at this
  exact this
theorem sV_pos {x : Nat} (h : posf x = true) : 0 ≤ sV x := by
  obtain ⟨h1, h2, _⟩ := posf_is h
  unfold sV; rw [if_neg (by rw [h2]; decide)]; omega
/-- sums of what is from 0 on. -/
theorem sum_nonneg {cur b kd : Int} {ds : List Int} {fs : List Nat} (hwf : ∀ y ∈ fs, y < 18446744073709551616) : ∀ {l : List S51}, (∀ f ∈ l, fin f.f1 = true ∧ 0 ≤ sV f.f1) → firstE cur b kd ds fs l = 0 → 0 ≤ sumE cur b kd ds fs l
  | [], _, _ => by rw [sumE]; exact Int.le_refl _
  | f :: l, h, h0 => by
    rw [sumE]
    have h1 := firstE_zero.1 h0
    have ih := sum_nonneg hwf (fun g hg => h g (List.mem_cons_of_mem _ hg)) (firstE_zero.2 fun g hg => h1 g (List.mem_cons_of_mem _ hg))
    obtain ⟨a, c⟩ := h f (List.mem_cons_self ..)
    have : 0 ≤ worth1 cur b kd ds fs f := by
      unfold worth1
      by_cases q : counts cur b f = true
      · rw [if_pos q]
        obtain ⟨p1, p2⟩ := factor_pos hwf (h1 f (List.mem_cons_self ..) q)
        rw [unitsP_sV a (posf_is p2).1]
        exact Int.mul_nonneg c (sV_pos p2)
      · rw [if_neg q]; exact Int.le_refl _
    omega
/-- at most as much, on factors that are at most as much. -/
theorem sum_le {cur b kd kd2 : Int} {ds ds2 : List Int} {fs fs2 : List Nat} (hwf : ∀ y ∈ fs, y < 18446744073709551616) (hwf2 : ∀ y ∈ fs2, y < 18446744073709551616) : ∀ {l : List S51}, (∀ f ∈ l, fin f.f1 = true ∧ 0 ≤ sV f.f1) → firstE cur b kd ds fs l = 0 → firstE cur b kd2 ds2 fs2 l = 0 →
    (∀ f ∈ l, counts cur b f = true → rank (facV b kd ds fs f.f0).1 ≤ rank (facV b kd2 ds2 fs2 f.f0).1) → sumE cur b kd ds fs l ≤ sumE cur b kd2 ds2 fs2 l
  | [], _, _, _, _ => by rw [sumE, sumE]; exact Int.le_refl _
  | f :: l, h, h0, h0', hr => by
    rw [sumE, sumE]
    have h1 := firstE_zero.1 h0
    have h1' := firstE_zero.1 h0'
    have ih := sum_le hwf hwf2 (fun g hg => h g (List.mem_cons_of_mem _ hg)) (firstE_zero.2 fun g hg => h1 g (List.mem_cons_of_mem _ hg)) (firstE_zero.2 fun g hg => h1' g (List.mem_cons_of_mem _ hg)) (fun g hg => hr g (List.mem_cons_of_mem _ hg))
    obtain ⟨a, c⟩ := h f (List.mem_cons_self ..)
    have : worth1 cur b kd ds fs f ≤ worth1 cur b kd2 ds2 fs2 f := by
      unfold worth1
      by_cases q : counts cur b f = true
      · rw [if_pos q, if_pos q]
        obtain ⟨p1, p2⟩ := factor_pos hwf (h1 f (List.mem_cons_self ..) q)
        obtain ⟨q1, q2⟩ := factor_pos hwf2 (h1' f (List.mem_cons_self ..) q)
        rw [unitsP_sV a (posf_is p2).1, unitsP_sV a (posf_is q2).1]
        exact Int.mul_le_mul_of_nonneg_left (sV_rank (posf_is p2).1 (posf_is q2).1 (hr f (List.mem_cons_self ..) q)) c
      · rw [if_neg q, if_neg q]; exact Int.le_refl _
    omega
theorem val_nn (Z : Int) : nan (valV Z) = false := (rank_overV Z 1).1
theorem val_lt (Z : Int) : valV Z < 18446744073709551616 := over_lt Z 1
theorem fac_at (b kd : Int) (ds : List Int) (fs : List Nat) (hw : ∀ y ∈ fs, y < 18446744073709551616) (x : Int) : ∃ K, ∀ n, K ≤ n → curve_Factor.f n b kd ds fs x = some (facV b kd ds fs x) := factor_is b kd ds fs hw x
theorem val_ge {Z : Int} (h : 0 ≤ Z) : 0 ≤ rank (valV Z) := by
  have := overV_mono h 1
  rw [show overV 0 false false 1 = 0 by decide +kernel, show rank 0 = 0 by decide] at this
  exact this
theorem pres_ok {l : List S51} {cur b kd : Int} {ds : List Int} {fs : List Nat} (h : (presV l cur b kd ds fs).2 = 0) : eachE cur b kd ds fs l = 0 ∧ (presV l cur b kd ds fs).1 = valV (sumE cur b kd ds fs l) ∧ fin (valV (sumE cur b kd ds fs l)) = true := by
  unfold presV at *
  by_cases c : eachE cur b kd ds fs l = 0
  · rw [if_pos c] at h ⊢
    unfold toldV at *
    by_cases d : fin (valV (sumE cur b kd ds fs l)) = true
    · rw [if_pos d]; exact ⟨c, rfl, d⟩
    · rw [if_neg d] at h; cases h
  · rw [if_neg c] at h; exact absurd h c
theorem ge_or {x y : Nat} (hx : x < 18446744073709551616) (hy : y < 18446744073709551616) (nx : nan x = false) (ny : nan y = false) (h : rank y ≤ rank x) : (FloatKind.f64.format.order x y == some .gt || FloatKind.f64.format.order x y == some .eq) = true := by
  rw [ord_gt hx hy nx ny, ord_eq hx hy nx ny, Bool.or_eq_true, decide_eq_true_iff, decide_eq_true_iff]; omega
theorem le_or {x y : Nat} (hx : x < 18446744073709551616) (hy : y < 18446744073709551616) (nx : nan x = false) (ny : nan y = false) (h : rank x ≤ rank y) : (FloatKind.f64.format.order x y == some .lt || FloatKind.f64.format.order x y == some .eq) = true := by
  rw [ord_lt hx hy nx ny, ord_eq hx hy nx ny, Bool.or_eq_true, decide_eq_true_iff, decide_eq_true_iff]; omega
theorem or_le {x y : Nat} (hx : x < 18446744073709551616) (hy : y < 18446744073709551616) (nx : nan x = false) (ny : nan y = false) (h : (FloatKind.f64.format.order x y == some .lt || FloatKind.f64.format.order x y == some .eq) = true) : rank x ≤ rank y := by
  rw [ord_lt hx hy nx ny, ord_eq hx hy nx ny, Bool.or_eq_true, decide_eq_true_iff, decide_eq_true_iff] at h; omega
section
variable (l : List S51) (cur b kd kd2 : Int) (ds ds2 : List Int) (fs fs2 : List Nat)
theorem rises_go (hlen : l.length ≤ 60) (hwl : ∀ f ∈ l, f.f1 < 18446744073709551616) (hwf : ∀ y ∈ fs, y < 18446744073709551616) (hwf2 : ∀ y ∈ fs2, y < 18446744073709551616) (e1 : eachE cur b kd ds fs l = 0) (e2 : eachE cur b kd2 ds2 fs2 l = 0) :
    ∀ (m i : Nat) (fl : Bool), i + m = l.length → (∀ j (hj : j < l.length), j < i → 0 ≤ sV l[j].f1) → (fl = true → ∀ j (hj : j < l.length), j < i → counts cur b l[j] = true → rank (facV b kd ds fs l[j].f0).1 ≤ rank (facV b kd2 ds2 fs2 l[j].f0).1) →
      Evt (fun k => tenorlaw15_PriceRises.l0 k l cur (valV (sumE cur b kd ds fs l)) (valV (sumE cur b kd2 ds2 fs2 l)) fl (i : Int) b kd ds fs b kd2 ds2 fs2) true
  | 0, i, fl, h, hA, hF => by
    obtain ⟨_, g1⟩ := fchk_zero (eachE_zero e1).1
    have hall : ∀ f ∈ l, fin f.f1 = true ∧ 0 ≤ sV f.f1 := fun f hf => by
      obtain ⟨j, hj, rfl⟩ := List.getElem_of_mem hf
      exact ⟨(g1 _ (List.getElem_mem hj)).2.1, hA j hj (by omega)⟩
    have s1 := sum_nonneg hwf hall (eachE_zero e1).2.2.2
    have s2 := sum_nonneg hwf2 hall (eachE_zero e2).2.2.2
    refine ⟨1, fun n hn => ?_⟩
    obtain ⟨n, rfl⟩ : ∃ m, n = m + 1 := ⟨n - 1, by omega⟩
    show tenorlaw15_PriceRises.l0 _ _ _ _ _ _ _ _ _ _ _ _ _ _ _ = _
    rw [tenorlaw15_PriceRises.l0, if_neg (by omega), if_pos (ge_or (val_lt _) (by decide) (val_nn _) (by decide) (by rw [show rank 0 = 0 by decide]; exact val_ge s1)), if_pos (ge_or (val_lt _) (by decide) (val_nn _) (by decide) (by rw [show rank 0 = 0 by decide]; exact val_ge s2))]
    by_cases c : fl = true
    · have s3 := sum_le hwf hwf2 hall (eachE_zero e1).2.2.2 (eachE_zero e2).2.2.2 (fun f hf hc => by
        obtain ⟨j, hj, rfl⟩ := List.getElem_of_mem hf
        exact hF c j hj (by omega) hc)
      rw [if_pos c, if_pos (le_or (val_lt _) (val_lt _) (val_nn _) (val_nn _) (overV_mono s3 1)), awake_is]; rfl
    · rw [if_neg c, awake_is]; rfl
  | m + 1, i, fl, h, hA, hF => by
    have hi : i < l.length := by omega
    have ih := fun fl' a c => rises_go hlen hwl hwf hwf2 e1 e2 m (i + 1) fl' (by omega) a c
    obtain ⟨_, g1⟩ := fchk_zero (eachE_zero e1).1
    obtain ⟨_, gf, _⟩ := g1 _ (List.getElem_mem hi)
    have gw := hwl _ (List.getElem_mem hi)
    have w1 : wrap64 ((i : Int) + 1) = ((i + 1 : Nat) : Int) := by unfold wrap64; omega
    by_cases c1 : (FloatKind.f64.format.order l[i].f1 (0 : Nat) == some .lt) = true
    · refine ⟨1, fun n hn => ?_⟩
      obtain ⟨n, rfl⟩ : ∃ m, n = m + 1 := ⟨n - 1, by omega⟩
      show tenorlaw15_PriceRises.l0 _ _ _ _ _ _ _ _ _ _ _ _ _ _ _ = _
      rw [tenorlaw15_PriceRises.l0, if_pos (by omega), if_pos (by omega), rd_z hi, if_pos c1, awake_is]; rfl
    have hA' : ∀ j (hj : j < l.length), j < i + 1 → 0 ≤ sV l[j].f1 := fun j hj hji => by
      by_cases e : j = i
      · subst e; exact sV_nonneg gw gf c1
      · exact hA j hj (by omega)
    by_cases c2 : counts cur b l[i] = true
    · have k1 := (firstE_zero.1 (eachE_zero e1).2.2.2) _ (List.getElem_mem hi) c2
      have k2 := (firstE_zero.1 (eachE_zero e2).2.2.2) _ (List.getElem_mem hi) c2
      obtain ⟨p1, p2⟩ := factor_pos hwf k1
      obtain ⟨q1, q2⟩ := factor_pos hwf2 k2
      have hc := c2
      unfold counts at hc
      rw [Bool.and_eq_true, decide_eq_true_iff] at hc
      have hc2 : ¬ l[i].f0 < b := by simpa using hc.2
      obtain ⟨K1, h1⟩ := fac_at b kd ds fs hwf l[i].f0
      obtain ⟨K2, h2⟩ := fac_at b kd2 ds2 fs2 hwf2 l[i].f0
      obtain ⟨K3, h3⟩ := ih ((if fl = true then (FloatKind.f64.format.order (facV b kd ds fs l[i].f0).1 (facV b kd2 ds2 fs2 l[i].f0).1 == some .lt || FloatKind.f64.format.order (facV b kd ds fs l[i].f0).1 (facV b kd2 ds2 fs2 l[i].f0).1 == some .eq) else false)) hA' (fun ht j hj hji hcj => by
        by_cases cf : fl = true
        · rw [if_pos cf] at ht
          by_cases e : j = i
          · subst e; exact or_le p1 q1 (fin_nan (posf_is p2).1) (fin_nan (posf_is q2).1) ht
          · exact hF cf j hj (by omega) hcj
        · rw [if_neg cf] at ht; cases ht)
      refine ⟨K1 + K2 + K3 + 2, fun n hn => ?_⟩
      obtain ⟨n, rfl⟩ : ∃ m, n = m + 1 + 1 := ⟨n - 2, by omega⟩
      show tenorlaw15_PriceRises.l0 _ _ _ _ _ _ _ _ _ _ _ _ _ _ _ = _
      rw [tenorlaw15_PriceRises.l0, if_pos (by omega), if_pos (by omega), rd_z hi, if_neg c1, if_pos hc.1, decide_eq_true (show l[i].f0 ≥ b by omega), tenorlaw15_PriceRises.j3, if_pos rfl, if_pos (by omega), if_pos (by omega), rd_z hi]
      rw [h1 n (by omega), h2 n (by omega), Option.bind_some, Option.bind_some, if_pos k1, if_pos k2, w1]
      have h4 : tenorlaw15_PriceRises.l0 _ _ _ _ _ _ _ _ _ _ _ _ _ _ _ = _ := h3 n (by omega)
      by_cases cf : fl = true
      · rw [if_pos cf] at h4 ⊢; exact h4
      · rw [if_neg cf] at h4 ⊢; exact h4
    · obtain ⟨K3, h3⟩ := ih fl hA' (fun ht j hj hji hcj => by
        by_cases e : j = i
        · subst e; exact absurd hcj c2
        · exact hF ht j hj (by omega) hcj)
      refine ⟨K3 + 2, fun n hn => ?_⟩
      obtain ⟨n, rfl⟩ : ∃ m, n = m + 1 + 1 := ⟨n - 2, by omega⟩
      show tenorlaw15_PriceRises.l0 _ _ _ _ _ _ _ _ _ _ _ _ _ _ _ = _
      have h4 : tenorlaw15_PriceRises.l0 _ _ _ _ _ _ _ _ _ _ _ _ _ _ _ = _ := h3 n (by omega)
      rw [tenorlaw15_PriceRises.l0, if_pos (by omega), if_pos (by omega), rd_z hi, if_neg c1]
      unfold counts at c2
      by_cases c3 : l[i].f2 = cur
      · have c4 : l[i].f0 < b := by
          rcases Int.lt_or_le l[i].f0 b with c | c
          · exact c
          · exact absurd (show _ = true by rw [decide_eq_true c3, decide_eq_false (show ¬ l[i].f0 < b by omega)]; rfl) c2
        rw [if_pos c3, decide_eq_false (show ¬ l[i].f0 ≥ b by omega), tenorlaw15_PriceRises.j3, if_neg (by decide), w1]; exact h4
      · rw [if_neg c3, tenorlaw15_PriceRises.j3, if_neg (by decide), w1]; exact h4
/-- THE LAW. -/
theorem law (b2 : Int) (hwl : ∀ f ∈ l, f.f1 < 18446744073709551616) (hwf : ∀ y ∈ fs, y < 18446744073709551616) (hwf2 : ∀ y ∈ fs2, y < 18446744073709551616) : ∃ k, tenorlaw15_PriceRises.f k l cur b kd ds fs b2 kd2 ds2 fs2 = some true := by
  unfold tenorlaw15_PriceRises.f
  rw [small_is, small_is]
  simp only [Option.bind_some]
  by_cases s1 : l.length ≤ 60 ∧ ds.length ≤ 12 ∧ fs.length ≤ 12
  rotate_left
  · refine ⟨1, ?_⟩
    rw [decide_eq_false s1, if_neg (by decide), tenorlaw15_PriceRises.j0, if_pos rfl, awake_is]; rfl
  simp only [decide_eq_true s1, ↓reduceIte]
  by_cases s2 : l.length ≤ 60 ∧ ds2.length ≤ 12 ∧ fs2.length ≤ 12
  rotate_left
  · refine ⟨1, ?_⟩
    rw [decide_eq_false s2, tenorlaw15_PriceRises.j0, if_pos (show (!false) = true from rfl), awake_is]; rfl
  rw [decide_eq_true s2]
  have o1 : price_Present.f l cur b kd ds fs = some (presV l cur b kd ds fs) := by unfold price_Present.f; rw [if_pos (okW_of (by omega) hwl hwf)]
  have o2 : price_Present.f l cur b2 kd2 ds2 fs2 = some (presV l cur b2 kd2 ds2 fs2) := by unfold price_Present.f; rw [if_pos (okW_of (by omega) hwl hwf2)]
  by_cases hgood : (presV l cur b kd ds fs).2 = 0 ∧ (presV l cur b2 kd2 ds2 fs2).2 = 0 ∧ b = b2
  · obtain ⟨h1, h2, rfl⟩ := hgood
    obtain ⟨e1, v1, _⟩ := pres_ok h1
    obtain ⟨e2, v2, _⟩ := pres_ok h2
    obtain ⟨K, hK⟩ := rises_go l cur b kd kd2 ds ds2 fs fs2 s1.1 hwl hwf hwf2 e1 e2 l.length 0 true (by omega) (fun j hj h => by omega) (fun _ j hj h => by omega)
    refine ⟨K + 2, ?_⟩
    rw [tenorlaw15_PriceRises.j0, if_neg (by decide), o1, o2, Option.bind_some, Option.bind_some, if_pos h1, if_pos h2, v1, v2, show (b != b) = false by simp, tenorlaw15_PriceRises.j1, if_neg (by decide)]
    exact hK K (Nat.le_refl _)
  · refine ⟨2, ?_⟩
    rw [tenorlaw15_PriceRises.j0, if_neg (by decide), o1, o2, Option.bind_some, Option.bind_some]
    have hj : ∀ x y, tenorlaw15_PriceRises.j1 1 l cur x y true b kd ds fs b2 kd2 ds2 fs2 = some true := fun x y => by rw [tenorlaw15_PriceRises.j1, if_pos rfl, awake_is]; rfl
    split
    · split
      · rename_i h1 h2
        rw [show (b != b2) = true from bne_iff_ne.2 (fun e => hgood ⟨h1, h2, e⟩)]; exact hj _ _
      · exact hj _ _
    · exact hj _ _
end
end Go.Proofs.Ythkcphdhmkcdkaa.FU
