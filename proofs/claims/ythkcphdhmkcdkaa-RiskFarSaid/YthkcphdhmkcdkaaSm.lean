/- Plain laws about what flows are worth, and about bumps. No walk. -/
import Derived.Test.YthkcphdhmkcdkaaKi
namespace Go.Proofs.Ythkcphdhmkcdkaa.FP
open Go.RowKit Go.Proofs.YthkcphdhmkcdkaaW.PrintWords Go.Proofs.YthkcphdhmkcdkaaW.PrintLast Go.Proofs.YthkcphdhmkcdkaaW.PrintMore Tn
open Go.Proofs.Ythkcphdhmkcdkaa.FX Go.Proofs.Ythkcphdhmkcdkaa.FB Go.Proofs.Ythkcphdhmkcdkaa.FQ Go.Proofs.Ythkcphdhmkcdkaa.EV
set_option linter.unusedVariables false
theorem val_lt (Z : Int) : valV Z < 18446744073709551616 := over_lt Z 1
theorem fac_at' (b kd : Int) (ds : List Int) (fs : List Nat) (hw : ∀ y ∈ fs, y < 18446744073709551616) (x : Int) : ∃ K, ∀ n, K ≤ n → curve_Factor.f n b kd ds fs x = some (facV b kd ds fs x) := factor_is b kd ds fs hw x
theorem pres_ok {l : List S51} {cur b kd : Int} {ds : List Int} {fs : List Nat} (h : (presV l cur b kd ds fs).2 = 0) : eachE cur b kd ds fs l = 0 ∧ (presV l cur b kd ds fs).1 = valV (sumE cur b kd ds fs l) ∧ fin (valV (sumE cur b kd ds fs l)) = true := by
 unfold presV at *
 by_cases c : eachE cur b kd ds fs l = 0
 ·rw [if_pos c] at h ⊢
  unfold toldV at *
  by_cases d : fin (valV (sumE cur b kd ds fs l)) = true
  ·rw [if_pos d]; exact ⟨c, rfl, d⟩
  ·rw [if_neg d] at h; cases h
 ·rw [if_neg c] at h; exact absurd h c
theorem asc_set : ∀ {last : Int} {ds : List Int} {fs : List Nat} (i : Nat) {v : Nat}, asc last ds fs = true → posf v = true → asc last ds (fs.set i v) = true
 | _, [], [], i, v, h, hv => by rw [List.set_nil]; exact h
 | last, d :: ds, f :: fs, 0, v, h, hv => by
  obtain ⟨h1, h2, h3, h4⟩ := asc_cons.1 h
  rw [List.set_cons_zero]; exact asc_cons.2 ⟨h1, h2, hv, h4⟩
 | last, d :: ds, f :: fs, i + 1, v, h, hv => by
  obtain ⟨h1, h2, h3, h4⟩ := asc_cons.1 h
  rw [List.set_cons_succ]; exact asc_cons.2 ⟨h1, h2, h3, asc_set i h4 hv⟩
 | _, [], _ :: _, _, _, h, _ => by rw [asc] at h <;> simp_all
 | _, _ :: _, [], _, _, h, _ => by rw [asc] at h <;> simp_all
theorem chk_set {b kd : Int} {ds : List Int} {fs : List Nat} (i : Nat) {v : Nat} (h : chkC b kd ds fs = 0) (hv : posf v = true) : chkC b kd ds (fs.set i v) = 0 := by
 (obtain ⟨h1, h2, h3, h4⟩ := chk_zero.1 h);(exact chk_zero.2 ⟨h1, h2, by rw [List.length_set]; exact h3, asc_set i h4 hv⟩)
theorem set_at {ys : List Nat} {p : Nat} {v : Nat} {j : Int} (h0 : 0 ≤ j) (h : j ≠ (p : Int)) : rdOf (0 : Nat) (ys.set p v) j = rdOf (0 : Nat) ys j := by
 obtain ⟨n, rfl⟩ := Int.eq_ofNat_of_zero_le h0
 by_cases c : n < ys.length
 ·rw [rdfo_at (by rw [List.length_set]; omega), rdfo_at c, List.getElem_set_ne (by omega)]
 ·unfold rdOf
  (simp only [List.getD_eq_getElem?_getD, Int.toNat_natCast]);(rw [List.getElem?_eq_none (by rw [List.length_set]; omega), List.getElem?_eq_none (by omega)])
theorem at_set_code (kd : Int) (xs : List Int) (ys zs : List Nat) (x : Int) : (atV kd xs ys x).2 = (atV kd xs zs x).2 := by
 unfold atV
 split
 ·rfl
 split
 ·rfl
 ·rfl
theorem at_set_far {kd : Int} {xs : List Int} {ys : List Nat} (T : Tab xs ys) (hk : kd ≠ 3) {p : Nat} {v : Nat} (hp : 1 ≤ p) (hp2 : p < xs.length) {x : Int} (h : x ≤ rd xs ((p : Int) - 1) ∨ (if p + 1 < xs.length then rd xs ((p : Int) + 1) else 109573) ≤ x) : atV kd xs (ys.set p v) x = atV kd xs ys x := by
 (have hl := T.l);(have hn := T.n);(unfold atV)
 by_cases c : x < rd xs 0 ∨ rd xs ((xs.length : Int) - 1) < x
 ·rw [if_pos c, if_pos c]
 (rw [if_neg c, if_neg c]);(obtain ⟨j, j1, j2, j3, j4, j5⟩ := place_is T (x := x) (by omega) (by omega));(rw [j2, show (((j + 1 : Nat) : Int) - 1) = (j : Int) by omega])
 -- the place lies apart from p
 have far : (j + 1 = p ∧ rd xs (j : Int) = x) ∨ j + 1 < p ∨ p < j := by
  rcases h with h | h
  ·by_cases a : (j : Int) ≤ (p : Int) - 1
   ·by_cases b : j + 1 = p
    ·left; refine ⟨b, ?_⟩
     rw [show ((p : Int) - 1) = (j : Int) by omega] at h; omega
    ·right; left; omega
   ·have := T.lt (i := (p : Int) - 1) (j := (j : Int)) (by omega) (by omega) (by omega); omega
  ·right; right
   by_cases q : p + 1 < xs.length
   ·rw [if_pos q] at h
    by_cases a : p < j
    ·exact a
    ·have j6 := j4 (by omega)
     by_cases bb : j = p
     ·subst bb
      rw [show (((j + 1 : Nat)) : Int) = (j : Int) + 1 by omega] at j6; omega
     ·have := T.lt (i := ((j + 1 : Nat) : Int)) (j := (p : Int) + 1) (by omega) (by omega) (by omega); omega
   ·rw [if_neg q] at h
    have := T.rx (i := (xs.length : Int) - 1) (by omega) (by omega); omega
 by_cases c2 : rd xs (j : Int) = x
 ·rw [if_pos c2, if_pos c2, set_at (by omega) (by omega)]
 (rw [if_neg c2, if_neg c2]);(have j6 := j5 c2)
 rcases far with ⟨_, hh⟩ | hh | hh
 ·exact absurd hh c2
 all_goals
  (unfold wayV);(rw [set_at (by omega) (show (j : Int) ≠ (p : Int) by omega), set_at (by omega) (show (j : Int) + 1 ≠ (p : Int) by omega), if_neg hk, if_neg hk])
theorem ladF_is {l : List S51} {cur b kd : Int} {ds : List Int} {fs : List Nat} {h Bb : Nat} : ∀ {m j : Nat} {acc : List Nat}, (ladF l cur b kd ds fs h Bb m j acc).2 = 0 → (∀ t, j ≤ t → t < j + m → (aftN l cur b kd ds fs (t : Int) h).2 = 0 ∧ fin (fsubV (aftN l cur b kd ds fs (t : Int) h).1 Bb) = true) ∧ (ladF l cur b kd ds fs h Bb m j acc).1 = acc ++ (List.range' j m).map fun t => fsubV (aftN l cur b kd ds fs ((t : Nat) : Int) h).1 Bb
 | 0, j, acc, _ => by rw [ladF]; exact ⟨fun t a c => by omega, by simp⟩
 | m + 1, j, acc, h0 => by
  rw [ladF] at h0 ⊢
  by_cases c1 : (aftN l cur b kd ds fs (j : Int) h).2 = 0
  ·rw [if_pos c1] at h0 ⊢
   by_cases c2 : fin (fsubV (aftN l cur b kd ds fs (j : Int) h).1 Bb) = true
   ·rw [if_pos c2] at h0 ⊢
    (obtain ⟨i1, i2⟩ := ladF_is h0);(refine ⟨fun t a c => ?_, ?_⟩)
    ·by_cases e : t = j
     ·subst e; exact ⟨c1, c2⟩
     ·exact i1 t (by omega) (by omega)
    ·rw [i2, List.range'_succ, List.map_cons, List.append_assoc]; rfl
   ·rw [if_neg c2] at h0; cases h0
  ·rw [if_neg c1] at h0; exact absurd h0 c1
theorem beg_ok {l : List S51} {cur b kd : Int} {ds : List Int} {fs : List Nat} {h : Nat} (h0 : (begV l cur b kd ds fs h).2 = 0) : (presV l cur b kd ds fs).2 = 0 ∧ (begV l cur b kd ds fs h).1 = (presV l cur b kd ds fs).1 ∧ fin h = true := by
 unfold begV at *
 by_cases c : (presV l cur b kd ds fs).2 = 0
 ·rw [if_pos c] at h0 ⊢
  by_cases d : fin h = true
  ·rw [if_pos d]; exact ⟨c, rfl, d⟩
  ·rw [if_neg d] at h0; cases h0
 ·rw [if_neg c] at h0; exact absurd h0 c
theorem aft_ok {l : List S51} {cur b kd : Int} {ds : List Int} {fs : List Nat} {i : Int} {h : Nat} (h0 : (aftN l cur b kd ds fs i h).2 = 0) : bumpE b kd ds fs i h = 0 ∧ (presV l cur b kd ds (bumpL b ds fs i h)).2 = 0 ∧ (aftN l cur b kd ds fs i h).1 = (presV l cur b kd ds (bumpL b ds fs i h)).1 := by
 unfold aftN at *
 by_cases c : bumpE b kd ds fs i h = 0
 ·rw [if_pos c] at h0 ⊢; exact ⟨c, h0, rfl⟩
 ·rw [if_neg c] at h0; exact absurd h0 c
theorem lad_is {l : List S51} {cur b kd : Int} {ds : List Int} {fs : List Nat} {h : Nat} (h0 : (ladV l cur b kd ds fs h).2 = 0) : (presV l cur b kd ds fs).2 = 0 ∧ fin h = true ∧ (ladV l cur b kd ds fs h).1.length = ds.length ∧ ∀ t : Nat, t < ds.length → bumpE b kd ds fs (t : Int) h = 0 ∧ (presV l cur b kd ds (bumpL b ds fs (t : Int) h)).2 = 0 ∧ rdOf (0 : Nat) (ladV l cur b kd ds fs h).1 (t : Int) = fsubV (presV l cur b kd ds (bumpL b ds fs (t : Int) h)).1 (presV l cur b kd ds fs).1 := by
 unfold ladV at *
 by_cases c : (begV l cur b kd ds fs h).2 = 0
 rotate_left
 ·rw [if_neg c] at h0; exact absurd h0 c
 (rw [if_pos c] at h0 ⊢);(obtain ⟨b1, b2, b3⟩ := beg_ok c);(obtain ⟨i1, i2⟩ := ladF_is h0);(rw [List.nil_append] at i2);(have hlen : (ladF l cur b kd ds fs h (begV l cur b kd ds fs h).1 ds.length 0 []).1.length = ds.length := by rw [i2, List.length_map, List.length_range']);(refine ⟨b1, b3, hlen, fun t ht => ?_⟩);(obtain ⟨a1, a2, a3⟩ := aft_ok (i1 t (by omega) (by omega)).1);(refine ⟨a1, a2, ?_⟩);(rw [rdfo_at (by omega)]);(simp only [i2, List.getElem_map, List.getElem_range', Nat.one_mul, Nat.zero_add]);(rw [a3, b2])
theorem fsub_self {x : Nat} (hx : x < 18446744073709551616) (fx : fin x = true) : fsubV x x = 0 := by
 (obtain ⟨k, v⟩ := fsub_is (sub_fin' hx hx fx fx));(rw [v]; unfold subN);(rw [Int.sub_self, if_pos rfl, show (0 : Int).natAbs = 0 from rfl, nr_zero])
 cases sgn x <;> rfl
end Go.Proofs.Ythkcphdhmkcdkaa.FP
