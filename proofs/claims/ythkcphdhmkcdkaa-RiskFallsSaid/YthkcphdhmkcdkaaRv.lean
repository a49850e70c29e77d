/- RiskFalls, the plain law. No walk. -/
import Derived.Test.YthkcphdhmkcdkaaFJdx1
import Derived.Test.YthkcphdhmkcdkaaSm
namespace Go.Proofs.Ythkcphdhmkcdkaa.FJd
open Go.RowKit Go.Proofs.YthkcphdhmkcdkaaW.PrintWords Go.Proofs.YthkcphdhmkcdkaaW.PrintLast Go.Proofs.YthkcphdhmkcdkaaW.PrintMore Tn
open Go.Proofs.Ythkcphdhmkcdkaa.FX Go.Proofs.Ythkcphdhmkcdkaa.FB Go.Proofs.Ythkcphdhmkcdkaa.FP Go.Proofs.Ythkcphdhmkcdkaa.FQ Go.Proofs.Ythkcphdhmkcdkaa.EV Go.Proofs.Ythkcphdhmkcdkaa.FK
set_option linter.unusedVariables false
theorem awake16 : law16_awakeX.f = some true := rfl
theorem small16 (l : List S51) (b kd : Int) (ds : List Int) (fs : List Nat) : tenorlaw16_small.f l b kd ds fs = some (decide (l.length ≤ 20 ∧ ds.length ≤ 8 ∧ fs.length ≤ 8)) := by
 unfold tenorlaw16_small.f
 by_cases c1 : (l.length : Int) ≤ 20
 ·rw [if_pos c1]
  by_cases c2 : (ds.length : Int) ≤ 8
  ·rw [if_pos c2]; congr 1; rw [Bool.eq_iff_iff, decide_eq_true_iff, decide_eq_true_iff]; omega
  ·rw [if_neg c2, decide_eq_false (by omega)]
 ·rw [if_neg c1, decide_eq_false (by omega)]
theorem mul_one_side {f E : Nat} (hf : f < 18446744073709551616) (pf : posf f = true) (nE : Nn E) (pv : posf (fmulV f E) = true) : (rank E ≤ rank 4607182418800017408 → rank (fmulV f E) ≤ rank f) ∧ (rank 4607182418800017408 ≤ rank E → rank f ≤ rank (fmulV f E)) := by
 obtain ⟨f1, f2, f3⟩ := posf_is pf
 rcases nE.kind with ⟨fE, _⟩ | ⟨_, eE⟩
 rotate_left
 ·exfalso
  have hm : ∃ s, Ieee.double.mul f E = some (Ieee.double.write (.infinity s)) := by
   (refine ⟨(sgn E ^^ sgn f), ?_⟩);(unfold Ieee.Format.mul);(rw [read_fin hf f1, eE])
   show (if dm (mag f) = 0 then _ else _ : Option Ieee.Datum).map _ = _
   rw [if_neg (dm_ne f3)]; rfl
  (obtain ⟨s, hs⟩ := hm);(rw [(fmul_is hs).2] at pv);(have := (posf_is pv).1);(cases s)
  ·exact absurd this (by decide)
  ·exact absurd this (by decide)
 (obtain ⟨_, v⟩ := fmul_is (mul_fin' hf nE.w f1 fE));(rw [v] at pv ⊢);(obtain ⟨p1, p2, p3⟩ := posf_is pv);(unfold prodN at p2 ⊢);(have hs := (sgB_mag (s := sgn f ^^ sgn E) (nr_le (dm (mag f) * dm (mag E)) (dp (mag f) + dp (mag E)))).2.2);(rw [hs] at p2);(obtain ⟨_, r⟩ := sgB_rank (sgn f ^^ sgn E) (nr_le (dm (mag f) * dm (mag E)) (dp (mag f) + dp (mag E))));(rw [p2, if_neg (by decide)] at r)
 have sE : sgn E = false := by
  (have q := p2);(rw [f2, Bool.false_xor] at q; exact q)
 (rw [p2, r, rank_val (fin_nan f1), f2, if_neg (by decide)]);(rw [rank_val (fin_nan fE), sE, if_neg (by decide), show rank 4607182418800017408 = 4607182418800017408 by decide]);(have mf : mag f < 9218868437227405312 := of_decide_eq_true f1)
 have k : nr (dm (mag f) * dm (mag E)) (dp (mag f) + dp (mag E)) = nr (dm (mag f) * V (mag E)) (dp (mag f) + -1074) := by
  (have := dp_ge (mag E));(have g := nr_scale' (dm (mag f) * dm (mag E)) (dp (mag E) + 1074).toNat (dp (mag f) + -1074));(rw [Nat.mul_assoc, ← V_def] at g);(rw [g]; congr 1; omega)
 have k1 : mag f = nr (dm (mag f) * V 4607182418800017408) (dp (mag f) + -1074) := by
  (have g := nr_scale' (dm (mag f)) ((0 : Int) + 1074).toNat (dp (mag f) + -1074));(have h1 := V_rung (a := 0) (by decide) (by decide));(rw [show rung 0 = 4607182418800017408 by decide] at h1);(rw [h1, g, show dp (mag f) + -1074 + ((((0 : Int) + 1074).toNat : Nat) : Int) = dp (mag f) by omega, nr_self mf])
 constructor
 ·intro h
  (have : nr (dm (mag f) * V (mag E)) (dp (mag f) + -1074) ≤ nr (dm (mag f) * V 4607182418800017408) (dp (mag f) + -1074) := nr_mono (Nat.mul_le_mul_left _ (V_le (by omega))) _);(rw [← k, ← k1] at this; omega)
 ·intro h
  (have : nr (dm (mag f) * V 4607182418800017408) (dp (mag f) + -1074) ≤ nr (dm (mag f) * V (mag E)) (dp (mag f) + -1074) := nr_mono (Nat.mul_le_mul_left _ (V_le (by omega))) _);(rw [← k, ← k1] at this; omega)
theorem at_mono {kd : Int} {xs : List Int} {ys zs : List Nat} (T : Tab xs ys) (U : Tab xs zs) (hk : kd = 1 ∨ kd = 2) (h : ∀ j : Int, 0 ≤ j → j < (xs.length : Int) → rank (rdOf (0 : Nat) ys j) ≤ rank (rdOf (0 : Nat) zs j)) (x : Int) : rank (atV kd xs ys x).1 ≤ rank (atV kd xs zs x).1 := by
 (have hl := T.l);(have hn := T.n);(unfold atV)
 by_cases c : x < rd xs 0 ∨ rd xs ((xs.length : Int) - 1) < x
 ·rw [if_pos c, if_pos c]; exact Int.le_refl _
 (rw [if_neg c, if_neg c]);(obtain ⟨j, j1, j2, j3, j4, j5⟩ := place_is T (x := x) (by omega) (by omega));(rw [j2, show (((j + 1 : Nat) : Int) - 1) = (j : Int) by omega])
 by_cases c2 : rd xs (j : Int) = x
 ·rw [if_pos c2, if_pos c2]; exact h _ (by omega) (by omega)
 (rw [if_neg c2, if_neg c2]);(have j6 := j5 c2);(have j7 := j4 j6);(rw [show ((j + 1 : Nat) : Int) = (j : Int) + 1 by omega] at j7);(have a := h (j : Int) (by omega) (by omega));(have b := h ((j : Int) + 1) (by omega) (by omega));(unfold wayV)
 rcases hk with hk | hk
 ·rw [if_pos hk, if_pos hk]; exact a
 ·rw [if_neg (by omega), if_pos hk, if_neg (by omega), if_pos hk]
  (unfold linV);(have ya := (T.fy (j : Int) (by omega) (by omega)).2);(have yb := (T.fy ((j : Int) + 1) (by omega) (by omega)).2);(have za := (U.fy (j : Int) (by omega) (by have := U.l; omega)).2);(have zb := (U.fy ((j : Int) + 1) (by omega) (by have := U.l; omega)).2);(have m1 := Int.mul_le_mul_of_nonneg_left (units_mono ya za a) (show 0 ≤ rd xs ((j : Int) + 1) - rd xs (j : Int) - (x - rd xs (j : Int)) by omega));(have m2 := Int.mul_le_mul_of_nonneg_left (units_mono yb zb b) (show 0 ≤ x - rd xs (j : Int) by omega));(exact overV_mono (by omega) _)
theorem fac_mono {b kd : Int} {ds : List Int} {fs fs2 : List Nat} (hw : ∀ y ∈ fs, y < 18446744073709551616) (hw2 : ∀ y ∈ fs2, y < 18446744073709551616) (hk : kd = 1 ∨ kd = 2) (c : chkC b kd ds fs = 0) (c2 : chkC b kd ds fs2 = 0) (h : ∀ j : Int, 0 ≤ j → j < (ds.length : Int) → rank (rdOf (0 : Nat) fs j) ≤ rank (rdOf (0 : Nat) fs2 j)) (x : Int) : rank (facV b kd ds fs x).1 ≤ rank (facV b kd ds fs2 x).1 := by
 (unfold facV);(rw [if_pos c, if_pos c2]);(refine at_mono (tab_of c hw) (tab_of c2 hw2) hk (fun j h0 h1 => ?_) x);(obtain ⟨n, rfl⟩ := Int.eq_ofNat_of_zero_le h0)
 cases n with
 | zero => exact Int.le_refl _
 | succ n => exact h (n : Int) (by omega) (by rw [List.length_cons] at h1; omega)
noncomputable def stepE (b : Int) (ds : List Int) (h t : Nat) : Nat := expV (fneg (fmulV h (timeV b (rd ds (t : Int)))))
theorem falls_node {l : List S51} {cur b kd : Int} {ds : List Int} {fs : List Nat} {h : Nat} (hwl : ∀ f ∈ l, f.f1 < 18446744073709551616) (hwf : ∀ y ∈ fs, y < 18446744073709551616) (hh : h < 18446744073709551616) (hk : kd = 1 ∨ kd = 2) (hpos : ∀ f ∈ l, fin f.f1 = true → 0 ≤ sV f.f1) (h0 : (ladV l cur b kd ds fs h).2 = 0) {t : Nat} (ht : t < ds.length) :
  (fdivK (floatOfInt .f64 (wrap64 (rd ds (t : Int) - b))) 4645128764097822720 = true ∧ fmulK h (timeV b (rd ds (t : Int))) = true) ∧ (Evt (fun k => fn_Exp.f k (fneg (fmulV h (timeV b (rd ds (t : Int)))))) (stepE b ds h t) ∧ Nn (stepE b ds h t)) ∧
  (rdOf (0 : Nat) (ladV l cur b kd ds fs h).1 (t : Int) < 18446744073709551616 ∧ nan (rdOf (0 : Nat) (ladV l cur b kd ds fs h).1 (t : Int)) = false) ∧
  (rank (stepE b ds h t) ≤ rank 4607182418800017408 → rank (rdOf (0 : Nat) (ladV l cur b kd ds fs h).1 (t : Int)) ≤ 0) ∧ (rank 4607182418800017408 ≤ rank (stepE b ds h t) → 0 ≤ rank (rdOf (0 : Nat) (ladV l cur b kd ds fs h).1 (t : Int))) := by
 (obtain ⟨p1, p2, p3, p4⟩ := lad_is h0);(obtain ⟨q1, q2, q3⟩ := p4 t ht);(obtain ⟨ck, _, fh, pv⟩ := FB.bumpE_zero q1);(obtain ⟨g1, g2, g3, g4, g5, g6⟩ := good_at' ck hwf ht);(obtain ⟨s1, s2, s3, s4, s5⟩ := node_steps g1 g2 hh fh g3 g4);(obtain ⟨x1, x2⟩ := exp_is s3);(obtain ⟨e1, v1, f1⟩ := pres_ok p1);(obtain ⟨e2, v2, f2⟩ := pres_ok q2);(have c2 := chk_set t ck pv);(have hb : bumpL b ds fs (t : Int) h = fs.set t (bumpV b (rd ds (t : Int)) (rdOf (0 : Nat) fs (t : Int)) h) := rfl)
 have hwf2 : ∀ y ∈ bumpL b ds fs (t : Int) h, y < 18446744073709551616 := fun y hy => by
  rcases List.mem_or_eq_of_mem_set hy with hy | rfl
  ·exact hwf y hy
  ·exact s5.w
 have hall : ∀ f ∈ l, fin f.f1 = true ∧ 0 ≤ sV f.f1 := fun f hf => by
  (have := ((fchk_zero (eachE_zero e1).1).2 f hf).2.1);(exact ⟨this, hpos f hf this⟩)
 (have hlen : ds.length = fs.length := (chk_zero.1 ck).2.2.1.2.2);(obtain ⟨o1, o2⟩ := mul_one_side g3 g4 x2 pv);(obtain ⟨u1, u2, u3, u4⟩ := sub_sign (val_lt (sumE cur b kd ds (bumpL b ds fs (t : Int) h) l)) (val_lt (sumE cur b kd ds fs l)) f2 f1);(rw [q3, v1, v2]);(have atj : ∀ j : Int, 0 ≤ j → j < (ds.length : Int) → j ≠ (t : Int) → rdOf (0 : Nat) (bumpL b ds fs (t : Int) h) j = rdOf (0 : Nat) fs j := fun j a c d => by rw [hb, set_at a d]);(have att : rdOf (0 : Nat) (bumpL b ds fs (t : Int) h) (t : Int) = fmulV (rdOf (0 : Nat) fs (t : Int)) (stepE b ds h t) := by rw [hb, set_at' (by omega)]; rfl);(refine ⟨⟨s1, s2⟩, ⟨x1, x2⟩, ⟨u1, u2⟩, fun hE => u3 ?_, fun hE => u4 ?_⟩)
 ·refine overV_mono (sum_le hwf2 hwf hall (eachE_zero e2).2.2.2 (eachE_zero e1).2.2.2 fun f hf hc => ?_) 1
  refine fac_mono hwf2 hwf hk (by rw [hb]; exact c2) ck (fun j a c => ?_) _
  by_cases d : j = (t : Int)
  ·subst d; rw [att]; exact o1 hE
  ·rw [atj j a c d]; exact Int.le_refl _
 ·refine overV_mono (sum_le hwf hwf2 hall (eachE_zero e1).2.2.2 (eachE_zero e2).2.2.2 fun f hf hc => ?_) 1
  refine fac_mono hwf hwf2 hk ck (by rw [hb]; exact c2) (fun j a c => ?_) _
  by_cases d : j = (t : Int)
  ·subst d; rw [att]; exact o2 hE
  ·rw [atj j a c d]; exact Int.le_refl _
theorem or_ge {x y : Nat} (hx : x < 18446744073709551616) (hy : y < 18446744073709551616) (nx : nan x = false) (ny : nan y = false) (h : (FloatKind.f64.format.order x y == some .gt || FloatKind.f64.format.order x y == some .eq) = true) : rank y ≤ rank x := by
 rw [ord_gt hx hy nx ny, ord_eq hx hy nx ny, Bool.or_eq_true, decide_eq_true_iff, decide_eq_true_iff] at h; omega
section
variable (l : List S51) (cur b kd : Int) (ds : List Int) (fs : List Nat) (h : Nat)
theorem falls_l1 (hwl : ∀ f ∈ l, f.f1 < 18446744073709551616) (hwf : ∀ y ∈ fs, y < 18446744073709551616) (hh : h < 18446744073709551616) (hk : kd = 1 ∨ kd = 2) (hpos : ∀ f ∈ l, fin f.f1 = true → 0 ≤ sV f.f1) (hd : ds.length ≤ 8) (h0 : (ladV l cur b kd ds fs h).2 = 0) :
  ∀ (n t : Nat), t + n = ds.length → Evt (fun k => tenorlaw16_RiskFalls.l1 k h (ladV l cur b kd ds fs h).1 (t : Int) b kd ds fs) true
 | 0, t, ht => by
  (have hl := (lad_is h0).2.2.1);(refine ⟨1, fun n hn => ?_⟩);(obtain ⟨n, rfl⟩ : ∃ m, n = m + 1 := ⟨n - 1, by omega⟩)
  show tenorlaw16_RiskFalls.l1 _ _ _ _ _ _ _ _ = _
  rw [tenorlaw16_RiskFalls.l1, if_neg (by omega), awake16]; rfl
 | n + 1, t, ht => by
  (have hl := (lad_is h0).2.2.1);(obtain ⟨K, hK⟩ := falls_l1 hwl hwf hh hk hpos hd h0 n (t + 1) (by omega));(obtain ⟨⟨a1, a2⟩, ⟨⟨K2, b1⟩, b2⟩, ⟨c1, c2⟩, d1, d2⟩ := falls_node hwl hwf hh hk hpos h0 (show t < ds.length by omega));(have w1 : wrap64 ((t : Int) + 1) = ((t + 1 : Nat) : Int) := by unfold wrap64; omega);(refine ⟨K + K2 + 1, fun n hn => ?_⟩);(obtain ⟨n, rfl⟩ : ∃ m, n = m + 1 := ⟨n - 1, by omega⟩);(have h4 : tenorlaw16_RiskFalls.l1 _ _ _ _ _ _ _ _ = _ := hK n (by omega));(have h5 : fn_Exp.f n (fneg (fmulV h (fdivV (floatOfInt .f64 (wrap64 (rd ds (t : Int) - b))) 4645128764097822720))) = some (stepE b ds h t) := b1 n (by omega))
  show tenorlaw16_RiskFalls.l1 _ _ _ _ _ _ _ _ = _
  rw [tenorlaw16_RiskFalls.l1, if_pos (by omega), if_pos (by omega), if_pos (by omega), if_pos a1, if_pos (show fmulK h (fdivV (floatOfInt .f64 (wrap64 (rd ds (t : Int) - b))) 4645128764097822720) = true from a2), h5, Option.bind_some, w1]
  have hgt : (FloatKind.f64.format.order (stepE b ds h t) 4607182418800017408 == some .lt || FloatKind.f64.format.order (stepE b ds h t) 4607182418800017408 == some .eq) = true → ¬ (FloatKind.f64.format.order (rdOf (0 : Nat) (ladV l cur b kd ds fs h).1 (t : Int)) (0 : Nat) == some .gt) = true := fun q => by
   (have := d1 (or_le b2.w (by decide) b2.k (by decide) q));(rw [ord_gt c1 (by decide) c2 (by decide), decide_eq_true_iff, show rank 0 = 0 by decide]; omega)
  have hlt : (FloatKind.f64.format.order (stepE b ds h t) 4607182418800017408 == some .gt || FloatKind.f64.format.order (stepE b ds h t) 4607182418800017408 == some .eq) = true → ¬ (FloatKind.f64.format.order (rdOf (0 : Nat) (ladV l cur b kd ds fs h).1 (t : Int)) (0 : Nat) == some .lt) = true := fun q => by
   (have := d2 (or_ge b2.w (by decide) b2.k (by decide) q));(rw [ord_lt c1 (by decide) c2 (by decide), decide_eq_true_iff, show rank 0 = 0 by decide]; omega)
  by_cases x1 : (FloatKind.f64.format.order (stepE b ds h t) 4607182418800017408 == some .lt || FloatKind.f64.format.order (stepE b ds h t) 4607182418800017408 == some .eq) = true
  ·rw [if_pos x1, if_neg (hgt x1)]
   by_cases x2 : (FloatKind.f64.format.order (stepE b ds h t) 4607182418800017408 == some .gt || FloatKind.f64.format.order (stepE b ds h t) 4607182418800017408 == some .eq) = true
   ·rw [if_pos x2, if_neg (hlt x2)]; exact h4
   ·rw [if_neg x2]; exact h4
  ·rw [if_neg x1]
   by_cases x2 : (FloatKind.f64.format.order (stepE b ds h t) 4607182418800017408 == some .gt || FloatKind.f64.format.order (stepE b ds h t) 4607182418800017408 == some .eq) = true
   ·rw [if_pos x2, if_neg (hlt x2)]; exact h4
   ·rw [if_neg x2]; exact h4
theorem falls_l0 (hwl : ∀ f ∈ l, f.f1 < 18446744073709551616) (hwf : ∀ y ∈ fs, y < 18446744073709551616) (hh : h < 18446744073709551616) (hk : kd = 1 ∨ kd = 2) (hl : l.length ≤ 20) (hd : ds.length ≤ 8) :
  ∀ (n j : Nat), j + n = l.length → (∀ i (hi : i < l.length), i < j → fin l[i].f1 = true → 0 ≤ sV l[i].f1) → Evt (fun k => tenorlaw16_RiskFalls.l0 k l cur h (j : Int) b kd ds fs) true
 | 0, j, hj, hA => by
  have o1 : risk_Ladder.f l cur b kd ds fs h = some (ladV l cur b kd ds fs h) := by unfold risk_Ladder.f; rw [if_pos ⟨okW_of (by omega) hwl hwf, hh⟩]
  have hpos : ∀ f ∈ l, fin f.f1 = true → 0 ≤ sV f.f1 := fun f hf => by
   (obtain ⟨i, hi, rfl⟩ := List.getElem_of_mem hf);(exact hA i hi (by omega))
  by_cases c : (ladV l cur b kd ds fs h).2 = 0
  rotate_left
  ·refine ⟨1, fun n hn => ?_⟩
   obtain ⟨n, rfl⟩ : ∃ m, n = m + 1 := ⟨n - 1, by omega⟩
   show tenorlaw16_RiskFalls.l0 _ _ _ _ _ _ _ _ _ = _
   rw [tenorlaw16_RiskFalls.l0, if_neg (by omega), o1, Option.bind_some, if_neg c, awake16]; rfl
  (obtain ⟨K, hK⟩ := falls_l1 l cur b kd ds fs h hwl hwf hh hk hpos hd c ds.length 0 (by omega));(refine ⟨K + 1, fun n hn => ?_⟩);(obtain ⟨n, rfl⟩ : ∃ m, n = m + 1 := ⟨n - 1, by omega⟩);(have h4 : tenorlaw16_RiskFalls.l1 _ _ _ _ _ _ _ _ = _ := hK n (by omega))
  show tenorlaw16_RiskFalls.l0 _ _ _ _ _ _ _ _ _ = _
  rw [tenorlaw16_RiskFalls.l0, if_neg (by omega), o1, Option.bind_some, if_pos c, if_pos (by have := (lad_is c).2.2.1; omega)]; exact h4
 | n + 1, j, hj, hA => by
  (have hj' : j < l.length := by omega);(have w1 : wrap64 ((j : Int) + 1) = ((j + 1 : Nat) : Int) := by unfold wrap64; omega)
  by_cases c1 : (FloatKind.f64.format.order l[j].f1 (0 : Nat) == some .lt) = true
  ·refine ⟨1, fun n hn => ?_⟩
   obtain ⟨n, rfl⟩ : ∃ m, n = m + 1 := ⟨n - 1, by omega⟩
   show tenorlaw16_RiskFalls.l0 _ _ _ _ _ _ _ _ _ = _
   rw [tenorlaw16_RiskFalls.l0, if_pos (by omega), if_pos (by omega), rd_z hj', if_pos c1, awake16]; rfl
  obtain ⟨K, hK⟩ := falls_l0 hwl hwf hh hk hl hd n (j + 1) (by omega) (fun i hi a f => by
   by_cases e : i = j
   ·subst e; exact sV_nonneg (hwl _ (List.getElem_mem hi)) f c1
   ·exact hA i hi (by omega) f)
  (refine ⟨K + 1, fun n hn => ?_⟩);(obtain ⟨n, rfl⟩ : ∃ m, n = m + 1 := ⟨n - 1, by omega⟩);(have h4 : tenorlaw16_RiskFalls.l0 _ _ _ _ _ _ _ _ _ = _ := hK n (by omega))
  show tenorlaw16_RiskFalls.l0 _ _ _ _ _ _ _ _ _ = _
  rw [tenorlaw16_RiskFalls.l0, if_pos (by omega), if_pos (by omega), rd_z hj', if_neg c1, w1]; exact h4
theorem law (hwl : ∀ f ∈ l, f.f1 < 18446744073709551616) (hwf : ∀ y ∈ fs, y < 18446744073709551616) (hh : h < 18446744073709551616) : ∃ k, tenorlaw16_RiskFalls.f k l cur b kd ds fs h = some true := by
 (unfold tenorlaw16_RiskFalls.f);(rw [small16]);(simp only [Option.bind_some]);(have hj : tenorlaw16_RiskFalls.j0 1 l cur h true b kd ds fs = some true := by rw [tenorlaw16_RiskFalls.j0, if_pos rfl, awake16]; rfl)
 by_cases s1 : l.length ≤ 20 ∧ ds.length ≤ 8 ∧ fs.length ≤ 8
 rotate_left
 ·refine ⟨1, ?_⟩
  rw [decide_eq_false s1, if_neg (by decide)]; exact hj
 simp only [decide_eq_true s1, ↓reduceIte]
 by_cases c1 : kd = 1 ∨ kd = 2
 rotate_left
 ·refine ⟨1, ?_⟩
  rw [if_neg (by omega), show (kd != 2) = true from bne_iff_ne.2 (by omega)]; exact hj
 (obtain ⟨K, hK⟩ := falls_l0 l cur b kd ds fs h hwl hwf hh c1 s1.1 s1.2.1 l.length 0 (by omega) (fun i hi a => by omega));(refine ⟨K + 1, ?_⟩);(have h4 : tenorlaw16_RiskFalls.l0 _ _ _ _ _ _ _ _ _ = _ := hK K (Nat.le_refl _))
 have h5 : tenorlaw16_RiskFalls.j0 (K + 1) l cur h false b kd ds fs = some true := by
  rw [tenorlaw16_RiskFalls.j0, if_neg (by decide)]; exact h4
 rcases c1 with c1 | c1
 ·rw [if_pos c1]; exact h5
 ·rw [if_neg (by omega), show (kd != 2) = false from bne_eq_false_iff_eq.2 c1]; exact h5
end
end Go.Proofs.Ythkcphdhmkcdkaa.FJd
