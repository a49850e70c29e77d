/- Plain laws about what flows are worth, and about bumps. No walk. -/
import Derived.Test.YthkcphdhmkcdkaaKi
namespace Go.Proofs.Ythkcphdhmkcdkaa.FP
open Go.RowKit Go.Proofs.YthkcphdhmkcdkaaW.PrintWords Go.Proofs.YthkcphdhmkcdkaaW.PrintLast Go.Proofs.YthkcphdhmkcdkaaW.PrintMore Tn
open Go.Proofs.Ythkcphdhmkcdkaa.FX Go.Proofs.Ythkcphdhmkcdkaa.FB Go.Proofs.Ythkcphdhmkcdkaa.FQ Go.Proofs.Ythkcphdhmkcdkaa.EV
set_option linter.unusedVariables false
theorem sV_nonneg {x : Nat} (hw : x < 18446744073709551616) (hf : fin x = true) (h : ¬ (FloatKind.f64.format.order x (0 : Nat) == some .lt) = true) : 0 ≤ sV x := by
 (rw [ord_lt hw (by decide) (fin_nan hf) (by decide), decide_eq_true_iff, show rank 0 = 0 by decide] at h);(have := sV_rank (a := 0) (b := x) (by decide) hf (by rw [show rank 0 = 0 by decide]; omega));(rw [show sV 0 = 0 by decide] at this);(exact this)
theorem sum_le {cur b kd kd2 : Int} {ds ds2 : List Int} {fs fs2 : List Nat} (hwf : ∀ y ∈ fs, y < 18446744073709551616) (hwf2 : ∀ y ∈ fs2, y < 18446744073709551616) : ∀ {l : List S51}, (∀ f ∈ l, fin f.f1 = true ∧ 0 ≤ sV f.f1) → firstE cur b kd ds fs l = 0 → firstE cur b kd2 ds2 fs2 l = 0 →
  (∀ f ∈ l, counts cur b f = true → rank (facV b kd ds fs f.f0).1 ≤ rank (facV b kd2 ds2 fs2 f.f0).1) → sumE cur b kd ds fs l ≤ sumE cur b kd2 ds2 fs2 l
 | [], _, _, _, _ => by rw [sumE, sumE]; exact Int.le_refl _
 | f :: l, h, h0, h0', hr => by
  (rw [sumE, sumE]);(have h1 := firstE_zero.1 h0);(have h1' := firstE_zero.1 h0');(have ih := sum_le hwf hwf2 (fun g hg => h g (List.mem_cons_of_mem _ hg)) (firstE_zero.2 fun g hg => h1 g (List.mem_cons_of_mem _ hg)) (firstE_zero.2 fun g hg => h1' g (List.mem_cons_of_mem _ hg)) (fun g hg => hr g (List.mem_cons_of_mem _ hg)));(obtain ⟨a, c⟩ := h f (List.mem_cons_self ..))
  have : worth1 cur b kd ds fs f ≤ worth1 cur b kd2 ds2 fs2 f := by
   unfold worth1
   by_cases q : counts cur b f = true
   ·rw [if_pos q, if_pos q]
    (obtain ⟨p1, p2⟩ := factor_pos hwf (h1 f (List.mem_cons_self ..) q));(obtain ⟨q1, q2⟩ := factor_pos hwf2 (h1' f (List.mem_cons_self ..) q));(rw [unitsP_sV a (posf_is p2).1, unitsP_sV a (posf_is q2).1]);(exact Int.mul_le_mul_of_nonneg_left (sV_rank (posf_is p2).1 (posf_is q2).1 (hr f (List.mem_cons_self ..) q)) c)
   ·rw [if_neg q, if_neg q]; exact Int.le_refl _
  omega
theorem val_lt (Z : Int) : valV Z < 18446744073709551616 := over_lt Z 1
theorem pres_ok {l : List S51} {cur b kd : Int} {ds : List Int} {fs : List Nat} (h : (presV l cur b kd ds fs).2 = 0) : eachE cur b kd ds fs l = 0 ∧ (presV l cur b kd ds fs).1 = valV (sumE cur b kd ds fs l) ∧ fin (valV (sumE cur b kd ds fs l)) = true := by
 unfold presV at *
 by_cases c : eachE cur b kd ds fs l = 0
 ·rw [if_pos c] at h ⊢
  unfold toldV at *
  by_cases d : fin (valV (sumE cur b kd ds fs l)) = true
  ·rw [if_pos d]; exact ⟨c, rfl, d⟩
  ·rw [if_neg d] at h; cases h
 ·rw [if_neg c] at h; exact absurd h c
theorem or_le {x y : Nat} (hx : x < 18446744073709551616) (hy : y < 18446744073709551616) (nx : nan x = false) (ny : nan y = false) (h : (FloatKind.f64.format.order x y == some .lt || FloatKind.f64.format.order x y == some .eq) = true) : rank x ≤ rank y := by
 rw [ord_lt hx hy nx ny, ord_eq hx hy nx ny, Bool.or_eq_true, decide_eq_true_iff, decide_eq_true_iff] at h; omega

theorem asc_set : ∀ {last : Int} {ds : List Int} {fs : List Nat} (i : Nat) {v : Nat}, asc last ds fs = true → posf v = true → asc last ds (fs.set i v) = true
 | _, [], [], i, v, h, hv => by rw [List.set_nil]; exact h
 | last, d :: ds, f :: fs, 0, v, h, hv => by
  obtain ⟨h1, h2, h3, h4⟩ := asc_cons.1 h
  rw [List.set_cons_zero]; exact asc_cons.2 ⟨h1, h2, hv, h4⟩
 | last, d :: ds, f :: fs, i + 1, v, h, hv => by
  obtain ⟨h1, h2, h3, h4⟩ := asc_cons.1 h
  rw [List.set_cons_succ]; exact asc_cons.2 ⟨h1, h2, h3, asc_set i h4 hv⟩
 | _, [], _ :: _, _, _, h, _ => by rw [asc] at h <;> simp_all
 | _, _ :: _, [], _, _, h, _ => by rw [asc] at h <;> simp_all
theorem chk_set {b kd : Int} {ds : List Int} {fs : List Nat} (i : Nat) {v : Nat} (h : chkC b kd ds fs = 0) (hv : posf v = true) : chkC b kd ds (fs.set i v) = 0 := by
 (obtain ⟨h1, h2, h3, h4⟩ := chk_zero.1 h);(exact chk_zero.2 ⟨h1, h2, by rw [List.length_set]; exact h3, asc_set i h4 hv⟩)
theorem set_at {ys : List Nat} {p : Nat} {v : Nat} {j : Int} (h0 : 0 ≤ j) (h : j ≠ (p : Int)) : rdOf (0 : Nat) (ys.set p v) j = rdOf (0 : Nat) ys j := by
 obtain ⟨n, rfl⟩ := Int.eq_ofNat_of_zero_le h0
 by_cases c : n < ys.length
 ·rw [rdfo_at (by rw [List.length_set]; omega), rdfo_at c, List.getElem_set_ne (by omega)]
 ·unfold rdOf
  (simp only [List.getD_eq_getElem?_getD, Int.toNat_natCast]);(rw [List.getElem?_eq_none (by rw [List.length_set]; omega), List.getElem?_eq_none (by omega)])
theorem set_at' {ys : List Nat} {p : Nat} {v : Nat} (h : p < ys.length) : rdOf (0 : Nat) (ys.set p v) (p : Int) = v := by
 rw [rdfo_at (by rw [List.length_set]; omega), List.getElem_set_self]
theorem ladF_is {l : List S51} {cur b kd : Int} {ds : List Int} {fs : List Nat} {h Bb : Nat} : ∀ {m j : Nat} {acc : List Nat}, (ladF l cur b kd ds fs h Bb m j acc).2 = 0 → (∀ t, j ≤ t → t < j + m → (aftN l cur b kd ds fs (t : Int) h).2 = 0 ∧ fin (fsubV (aftN l cur b kd ds fs (t : Int) h).1 Bb) = true) ∧ (ladF l cur b kd ds fs h Bb m j acc).1 = acc ++ (List.range' j m).map fun t => fsubV (aftN l cur b kd ds fs ((t : Nat) : Int) h).1 Bb
 | 0, j, acc, _ => by rw [ladF]; exact ⟨fun t a c => by omega, by simp⟩
 | m + 1, j, acc, h0 => by
  rw [ladF] at h0 ⊢
  by_cases c1 : (aftN l cur b kd ds fs (j : Int) h).2 = 0
  ·rw [if_pos c1] at h0 ⊢
   by_cases c2 : fin (fsubV (aftN l cur b kd ds fs (j : Int) h).1 Bb) = true
   ·rw [if_pos c2] at h0 ⊢
    (obtain ⟨i1, i2⟩ := ladF_is h0);(refine ⟨fun t a c => ?_, ?_⟩)
    ·by_cases e : t = j
     ·subst e; exact ⟨c1, c2⟩
     ·exact i1 t (by omega) (by omega)
    ·rw [i2, List.range'_succ, List.map_cons, List.append_assoc]; rfl
   ·rw [if_neg c2] at h0; cases h0
  ·rw [if_neg c1] at h0; exact absurd h0 c1
theorem beg_ok {l : List S51} {cur b kd : Int} {ds : List Int} {fs : List Nat} {h : Nat} (h0 : (begV l cur b kd ds fs h).2 = 0) : (presV l cur b kd ds fs).2 = 0 ∧ (begV l cur b kd ds fs h).1 = (presV l cur b kd ds fs).1 ∧ fin h = true := by
 unfold begV at *
 by_cases c : (presV l cur b kd ds fs).2 = 0
 ·rw [if_pos c] at h0 ⊢
  by_cases d : fin h = true
  ·rw [if_pos d]; exact ⟨c, rfl, d⟩
  ·rw [if_neg d] at h0; cases h0
 ·rw [if_neg c] at h0; exact absurd h0 c
theorem aft_ok {l : List S51} {cur b kd : Int} {ds : List Int} {fs : List Nat} {i : Int} {h : Nat} (h0 : (aftN l cur b kd ds fs i h).2 = 0) : bumpE b kd ds fs i h = 0 ∧ (presV l cur b kd ds (bumpL b ds fs i h)).2 = 0 ∧ (aftN l cur b kd ds fs i h).1 = (presV l cur b kd ds (bumpL b ds fs i h)).1 := by
 unfold aftN at *
 by_cases c : bumpE b kd ds fs i h = 0
 ·rw [if_pos c] at h0 ⊢; exact ⟨c, h0, rfl⟩
 ·rw [if_neg c] at h0; exact absurd h0 c
theorem lad_is {l : List S51} {cur b kd : Int} {ds : List Int} {fs : List Nat} {h : Nat} (h0 : (ladV l cur b kd ds fs h).2 = 0) : (presV l cur b kd ds fs).2 = 0 ∧ fin h = true ∧ (ladV l cur b kd ds fs h).1.length = ds.length ∧ ∀ t : Nat, t < ds.length → bumpE b kd ds fs (t : Int) h = 0 ∧ (presV l cur b kd ds (bumpL b ds fs (t : Int) h)).2 = 0 ∧ rdOf (0 : Nat) (ladV l cur b kd ds fs h).1 (t : Int) = fsubV (presV l cur b kd ds (bumpL b ds fs (t : Int) h)).1 (presV l cur b kd ds fs).1 := by
 unfold ladV at *
 by_cases c : (begV l cur b kd ds fs h).2 = 0
 rotate_left
 ·rw [if_neg c] at h0; exact absurd h0 c
 (rw [if_pos c] at h0 ⊢);(obtain ⟨b1, b2, b3⟩ := beg_ok c);(obtain ⟨i1, i2⟩ := ladF_is h0);(rw [List.nil_append] at i2);(have hlen : (ladF l cur b kd ds fs h (begV l cur b kd ds fs h).1 ds.length 0 []).1.length = ds.length := by rw [i2, List.length_map, List.length_range']);(refine ⟨b1, b3, hlen, fun t ht => ?_⟩);(obtain ⟨a1, a2, a3⟩ := aft_ok (i1 t (by omega) (by omega)).1);(refine ⟨a1, a2, ?_⟩);(rw [rdfo_at (by omega)]);(simp only [i2, List.getElem_map, List.getElem_range', Nat.one_mul, Nat.zero_add]);(rw [a3, b2])
theorem sgB_rank (s : Bool) {r : Nat} (h : r ≤ 9218868437227405312) : nan (sgB s + r) = false ∧ rank (sgB s + r) = if s = true then -(r : Int) else (r : Int) := by
 (obtain ⟨h1, h2, h3⟩ := sgB_mag (s := s) h);(have n : nan (sgB s + r) = false := by unfold nan; rw [h1]; exact decide_eq_false (by omega));(refine ⟨n, ?_⟩);(have := rank_val n);(rw [h3, h1] at this; exact this)
theorem sub_sign {x y : Nat} (hx : x < 18446744073709551616) (hy : y < 18446744073709551616) (fx : fin x = true) (fy : fin y = true) : fsubV x y < 18446744073709551616 ∧ nan (fsubV x y) = false ∧ (rank x ≤ rank y → rank (fsubV x y) ≤ 0) ∧ (rank y ≤ rank x → 0 ≤ rank (fsubV x y)) := by
 (obtain ⟨k, v⟩ := fsub_is (sub_fin' hx hy fx fy));(rw [v]; unfold subN);(obtain ⟨n, r⟩ := sgB_rank (if sV x - sV y = 0 then sgn x && !sgn y else decide (sV x - sV y < 0)) (nr_le (sV x - sV y).natAbs (-1074)));(refine ⟨(nn_sg _ (nr_le _ _)).w, n, fun h => ?_, fun h => ?_⟩)
 ·have := sV_rank fx fy h
  rw [r]
  by_cases z : sV x - sV y = 0
  ·rw [z, show (0 : Int).natAbs = 0 from rfl, nr_zero]; split <;> omega
  ·rw [if_neg z, decide_eq_true (show sV x - sV y < 0 by omega), if_pos rfl]; omega
 ·have := sV_rank fy fx h
  rw [r]
  by_cases z : sV x - sV y = 0
  ·rw [z, show (0 : Int).natAbs = 0 from rfl, nr_zero]; split <;> omega
  ·rw [if_neg z, decide_eq_false (show ¬ sV x - sV y < 0 by omega), if_neg (by decide)]; omega
end Go.Proofs.Ythkcphdhmkcdkaa.FP
