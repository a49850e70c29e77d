/- RiskFar, the plain law. No walk. -/
import Derived.Test.YthkcphdhmkcdkaaFJcx2
import Derived.Test.YthkcphdhmkcdkaaSm
namespace Go.Proofs.Ythkcphdhmkcdkaa.FJc
open Go.RowKit Go.Proofs.YthkcphdhmkcdkaaW.PrintWords Go.Proofs.YthkcphdhmkcdkaaW.PrintLast Go.Proofs.YthkcphdhmkcdkaaW.PrintMore Tn
open Go.Proofs.Ythkcphdhmkcdkaa.FX Go.Proofs.Ythkcphdhmkcdkaa.FB Go.Proofs.Ythkcphdhmkcdkaa.FP Go.Proofs.Ythkcphdhmkcdkaa.FQ Go.Proofs.Ythkcphdhmkcdkaa.EV Go.Proofs.Ythkcphdhmkcdkaa.FK
set_option linter.unusedVariables false
theorem awake16 : law16_awakeX.f = some true := rfl
theorem small16 (l : List S51) (b kd : Int) (ds : List Int) (fs : List Nat) : tenorlaw16_small.f l b kd ds fs = some (decide (l.length ≤ 20 ∧ ds.length ≤ 8 ∧ fs.length ≤ 8)) := by
 unfold tenorlaw16_small.f
 by_cases c1 : (l.length : Int) ≤ 20
 ·rw [if_pos c1]
  by_cases c2 : (ds.length : Int) ≤ 8
  ·rw [if_pos c2]; congr 1; rw [Bool.eq_iff_iff, decide_eq_true_iff, decide_eq_true_iff]; omega
  ·rw [if_neg c2, decide_eq_false (by omega)]
 ·rw [if_neg c1, decide_eq_false (by omega)]
theorem sum_congr {cur b kd : Int} {ds : List Int} {fs fs2 : List Nat} : ∀ {m : List S51}, (∀ f ∈ m, facV b kd ds fs f.f0 = facV b kd ds fs2 f.f0) → sumE cur b kd ds fs m = sumE cur b kd ds fs2 m
 | [], _ => by rw [sumE, sumE]
 | f :: m, h => by
  (rw [sumE, sumE, sum_congr fun g hg => h g (List.mem_cons_of_mem _ hg)]);(unfold worth1);(rw [h f (List.mem_cons_self ..)])
theorem fac_far {b kd : Int} {ds : List Int} {fs : List Nat} (hw : ∀ y ∈ fs, y < 18446744073709551616) {i : Nat} {h : Nat} (hk : kd ≠ 3) (e : bumpE b kd ds fs (i : Int) h = 0) (x : Int) : (facV b kd ds fs x).2 = (facV b kd ds (bumpL b ds fs (i : Int) h) x).2 ∧ ((x ≤ rd (b :: ds) (i : Int) ∨ (if i + 1 < ds.length then rd ds ((i + 1 : Nat) : Int) else 109573) ≤ x) → facV b kd ds fs x = facV b kd ds (bumpL b ds fs (i : Int) h) x) := by
 (obtain ⟨c, ⟨_, i1⟩, fh, pv⟩ := bumpE_zero e);(have c2 := chk_set i c pv);(have hb : bumpL b ds fs (i : Int) h = fs.set i (bumpV b (rd ds (i : Int)) (rdOf (0 : Nat) fs (i : Int)) h) := rfl);(rw [hb]);(unfold facV);(rw [if_pos c, if_pos c2]);(refine ⟨at_set_code _ _ _ _ _, fun hx => ?_⟩);(have T := tab_of c hw)
 have := at_set_far (p := i + 1) (v := bumpV b (rd ds (i : Int)) (rdOf (0 : Nat) fs (i : Int)) h) T hk (by omega) (by rw [List.length_cons]; omega) (x := x) (by
  rw [show (((i + 1 : Nat) : Int) - 1) = (i : Int) by omega]
  rcases hx with hx | hx
  ·exact .inl hx
  ·right
   by_cases q : i + 1 < ds.length
   ·rw [if_pos q] at hx
    (rw [if_pos (by rw [List.length_cons]; omega)]);(exact hx)
   ·rw [if_neg q] at hx
    rw [if_neg (by rw [List.length_cons]; omega)]
    exact hx)
 (rw [List.set_cons_succ] at this);(exact this.symm)
section
variable (l : List S51) (cur b kd near far : Int) (ds : List Int) (fs : List Nat) (i h : Nat)
theorem far_j5 (hwf : ∀ y ∈ fs, y < 18446744073709551616) (hwf2 : ∀ y ∈ bumpL b ds fs (i : Int) h, y < 18446744073709551616) (hC : ∀ x, (facV b kd ds fs x).2 = (facV b kd ds (bumpL b ds fs (i : Int) h) x).2) (hF : ∀ x, x ≤ near ∨ far ≤ x → facV b kd ds fs x = facV b kd ds (bumpL b ds fs (i : Int) h) x) (hl : l.length ≤ 20)
  (j : Nat) (hj : j < l.length) (m : List S51) (ih : Evt (fun k => tenorlaw16_RiskFar.l0 k l cur (i : Int) h near far m ((j + 1 : Nat) : Int) b kd ds fs b kd ds (bumpL b ds fs (i : Int) h)) true) :
  Evt (fun k => tenorlaw16_RiskFar.j5 k l cur (i : Int) h near far m (j : Int) b kd ds fs b kd ds (bumpL b ds fs (i : Int) h)) true := by
 (obtain ⟨K1, h1⟩ := fac_at' b kd ds fs hwf l[j].f0);(obtain ⟨K2, h2⟩ := fac_at' b kd ds (bumpL b ds fs (i : Int) h) hwf2 l[j].f0);(obtain ⟨K3, h3⟩ := ih);(have w1 : wrap64 ((j : Int) + 1) = ((j + 1 : Nat) : Int) := by unfold wrap64; omega);(refine ⟨K1 + K2 + K3 + 1, fun n hn => ?_⟩);(obtain ⟨n, rfl⟩ : ∃ m, n = m + 1 := ⟨n - 1, by omega⟩);(have h4 : tenorlaw16_RiskFar.l0 _ _ _ _ _ _ _ _ _ _ _ _ _ _ _ _ _ = _ := h3 n (by omega))
 show tenorlaw16_RiskFar.j5 _ _ _ _ _ _ _ _ _ _ _ _ _ _ _ _ _ = _
 (rw [tenorlaw16_RiskFar.j5, if_pos (by omega), if_pos (by omega), rd_z hj, h1 n (by omega), Option.bind_some, h2 n (by omega), Option.bind_some, if_pos (hC _), w1]);(unfold api_Bits.f);(simp only [Option.bind_some])
 by_cases c1 : l[j].f0 ≤ near
 ·rw [if_pos c1, if_pos (by rw [hF _ (.inl c1)])]; exact h4
 rw [if_neg c1]
 by_cases c2 : l[j].f0 ≥ far
 ·rw [if_pos c2, if_pos (by rw [hF _ (.inr c2)])]; exact h4
 ·rw [if_neg c2]; exact h4
theorem far_go (hwl : ∀ f ∈ l, f.f1 < 18446744073709551616) (hwf : ∀ y ∈ fs, y < 18446744073709551616) (hwf2 : ∀ y ∈ bumpL b ds fs (i : Int) h, y < 18446744073709551616) (hh : h < 18446744073709551616) (hC : ∀ x, (facV b kd ds fs x).2 = (facV b kd ds (bumpL b ds fs (i : Int) h) x).2) (hF : ∀ x, x ≤ near ∨ far ≤ x → facV b kd ds fs x = facV b kd ds (bumpL b ds fs (i : Int) h) x) (hl : l.length ≤ 20) (hi : i < ds.length) :
  ∀ (n j : Nat) (m : List S51), j + n = l.length → m.length ≤ j → (∀ f ∈ m, (f.f0 ≤ near ∨ far ≤ f.f0) ∧ f.f1 < 18446744073709551616) →
   Evt (fun k => tenorlaw16_RiskFar.l0 k l cur (i : Int) h near far m (j : Int) b kd ds fs b kd ds (bumpL b ds fs (i : Int) h)) true
 | 0, j, m, hj, hm, hK => by
  (refine ⟨1, fun n hn => ?_⟩);(obtain ⟨n, rfl⟩ : ∃ m, n = m + 1 := ⟨n - 1, by omega⟩);(have o1 : risk_Ladder.f m cur b kd ds fs h = some (ladV m cur b kd ds fs h) := by unfold risk_Ladder.f; rw [if_pos ⟨okW_of (by omega) (fun f hf => (hK f hf).2) hwf, hh⟩])
  show tenorlaw16_RiskFar.l0 _ _ _ _ _ _ _ _ _ _ _ _ _ _ _ _ _ = _
  rw [tenorlaw16_RiskFar.l0, if_neg (by omega), o1, Option.bind_some, awake16]
  by_cases c : (ladV m cur b kd ds fs h).2 = 0
  rotate_left
  ·rw [if_neg c]; rfl
  (obtain ⟨p1, p2, p3, p4⟩ := lad_is c);(obtain ⟨q1, q2, q3⟩ := p4 i hi)
  have e : (presV m cur b kd ds (bumpL b ds fs (i : Int) h)).1 = (presV m cur b kd ds fs).1 := by
   rw [(pres_ok q2).2.1, (pres_ok p1).2.1, sum_congr fun f hf => hF _ (hK f hf).1]
  (have fz : fin (presV m cur b kd ds fs).1 = true := by rw [(pres_ok p1).2.1]; exact (pres_ok p1).2.2);(have wz : (presV m cur b kd ds fs).1 < 18446744073709551616 := by rw [(pres_ok p1).2.1]; exact val_lt _);(rw [if_pos c, if_pos (by omega), if_pos (by omega), if_pos (by omega), q3, e, fsub_self wz fz]);(unfold api_Bits.f)
  rw [Option.bind_some, if_pos (show ((0 : Nat) : Int) = 0 from rfl)]; rfl
 | n + 1, j, m, hj, hm, hK => by
  (have hj' : j < l.length := by omega);(have ih := fun m' a c => far_j5 l cur b kd near far ds fs i h hwf hwf2 hC hF hl j hj' m' (far_go hwl hwf hwf2 hh hC hF hl hi n (j + 1) m' (by omega) a c))
  by_cases c1 : l[j].f0 ≤ near ∨ far ≤ l[j].f0
  ·obtain ⟨K, hk⟩ := ih (m ++ [l[j]]) (by rw [List.length_append, List.length_singleton]; omega) (fun f hf => by
    rcases List.mem_append.1 hf with hf | hf
    ·exact hK f hf
    ·rw [List.mem_singleton] at hf; subst hf; exact ⟨c1, hwl _ (List.getElem_mem hj')⟩)
   (refine ⟨K + 2, fun n hn => ?_⟩);(obtain ⟨n, rfl⟩ : ∃ m, n = m + 1 + 1 := ⟨n - 2, by omega⟩);(have h4 : tenorlaw16_RiskFar.j5 _ _ _ _ _ _ _ _ _ _ _ _ _ _ _ _ _ = _ := hk n (by omega))
   show tenorlaw16_RiskFar.l0 _ _ _ _ _ _ _ _ _ _ _ _ _ _ _ _ _ = _
   have key : tenorlaw16_RiskFar.j4 (n + 1) l cur (i : Int) h near far m (j : Int) true b kd ds fs b kd ds (bumpL b ds fs (i : Int) h) = some true := by
    rw [tenorlaw16_RiskFar.j4, if_pos rfl, if_pos (by omega), if_pos (by omega), if_pos (by omega), rd_z hj']; exact h4
   rw [tenorlaw16_RiskFar.l0, if_pos (by omega), if_pos (by omega), rd_z hj']
   by_cases c2 : l[j].f0 ≤ near
   ·rw [if_pos c2]; exact key
   ·rw [if_neg c2, decide_eq_true (show l[j].f0 ≥ far by omega)]; exact key
  ·obtain ⟨K, hk⟩ := ih m (by omega) hK
   (refine ⟨K + 2, fun n hn => ?_⟩);(obtain ⟨n, rfl⟩ : ∃ m, n = m + 1 + 1 := ⟨n - 2, by omega⟩);(have h4 : tenorlaw16_RiskFar.j5 _ _ _ _ _ _ _ _ _ _ _ _ _ _ _ _ _ = _ := hk n (by omega))
   show tenorlaw16_RiskFar.l0 _ _ _ _ _ _ _ _ _ _ _ _ _ _ _ _ _ = _
   rw [tenorlaw16_RiskFar.l0, if_pos (by omega), if_pos (by omega), rd_z hj', if_neg (by omega), decide_eq_false (show ¬ l[j].f0 ≥ far by omega), tenorlaw16_RiskFar.j4, if_neg (by decide)]; exact h4
theorem law (i : Int) (hwl : ∀ f ∈ l, f.f1 < 18446744073709551616) (hwf : ∀ y ∈ fs, y < 18446744073709551616) (hi : -9223372036854775808 ≤ i ∧ i < 9223372036854775808) (hh : h < 18446744073709551616) : ∃ k, tenorlaw16_RiskFar.f k l cur b kd ds fs i h = some true := by
 (unfold tenorlaw16_RiskFar.f);(rw [small16]);(simp only [Option.bind_some]);(have hj : ∀ i, tenorlaw16_RiskFar.j0 1 l cur i h true b kd ds fs = some true := fun i => by rw [tenorlaw16_RiskFar.j0, if_pos rfl, awake16]; rfl)
 by_cases s1 : l.length ≤ 20 ∧ ds.length ≤ 8 ∧ fs.length ≤ 8
 rotate_left
 ·refine ⟨1, ?_⟩
  rw [decide_eq_false s1, if_neg (by decide)]; exact hj _
 simp only [decide_eq_true s1, ↓reduceIte]
 by_cases c3 : kd = 3
 ·refine ⟨1, ?_⟩
  rw [if_pos c3]; exact hj _
 simp only [if_neg c3]
 by_cases c4 : i < 0
 ·refine ⟨1, ?_⟩
  rw [if_pos c4]; exact hj _
 simp only [if_neg c4]
 by_cases c5 : i ≥ (ds.length : Int)
 ·refine ⟨1, ?_⟩
  rw [decide_eq_true c5]; exact hj _
 rw [decide_eq_false c5]
 have o1 : risk_Bump.f b kd ds fs i h = some (if bumpE b kd ds fs i h = 0 then (b, kd, ds, bumpL b ds fs i h, 0) else (0, 0, [], [], bumpE b kd ds fs i h)) := by
  (unfold risk_Bump.f);(rw [if_pos ⟨List.all_eq_true.2 fun y hy => decide_eq_true (hwf y hy), hh⟩])
 by_cases c6 : bumpE b kd ds fs i h = 0
 rotate_left
 ·refine ⟨1, ?_⟩
  rw [tenorlaw16_RiskFar.j0, if_neg (by decide), o1, Option.bind_some, if_neg c6, if_neg c6, awake16]; rfl
 (rw [if_pos c6] at o1);(obtain ⟨n, rfl⟩ := Int.eq_ofNat_of_zero_le (show 0 ≤ i by omega));(obtain ⟨ck, ⟨_, i1⟩, fh, pv⟩ := bumpE_zero c6)
 have hwf2 : ∀ y ∈ bumpL b ds fs (n : Int) h, y < 18446744073709551616 := fun y hy => by
  rcases List.mem_or_eq_of_mem_set hy with hy | rfl
  ·exact hwf y hy
  ·obtain ⟨g1, g2, g3, g4, _⟩ := good_at' ck hwf (show n < ds.length by omega)
   exact (node_steps g1 g2 hh fh g3 g4).2.2.2.2.w
 (have w0 : wrap64 ((n : Int) - 1) = (n : Int) - 1 := by unfold wrap64; omega);(have w1 : wrap64 ((n : Int) + 1) = ((n + 1 : Nat) : Int) := by unfold wrap64; omega);(obtain ⟨K, hK⟩ := far_go l cur b kd (rd (b :: ds) (n : Int)) (if n + 1 < ds.length then rd ds ((n + 1 : Nat) : Int) else 109573) ds fs n h hwl hwf hwf2 hh (fun x => (fac_far hwf c3 c6 x).1) (fun x hx => (fac_far hwf c3 c6 x).2 hx) s1.1 (by omega) l.length 0 [] (by omega) (by simp) (by simp));(have h5 : tenorlaw16_RiskFar.l0 _ _ _ _ _ _ _ _ _ _ _ _ _ _ _ _ _ = _ := hK K (Nat.le_refl _))
 have h6 : tenorlaw16_RiskFar.j1 (K + 1 + 1) l cur (n : Int) h (rd (b :: ds) (n : Int)) b kd ds fs b kd ds (bumpL b ds fs (n : Int) h) = some true := by
  rw [tenorlaw16_RiskFar.j1, w1]
  by_cases q : n + 1 < ds.length
  ·rw [if_pos q] at h5
   rw [if_pos (by omega), if_pos (by omega), tenorlaw16_RiskFar.j2]; exact h5
  ·rw [if_neg q] at h5
   rw [if_neg (by omega), tenorlaw16_RiskFar.j2]; exact h5
 (refine ⟨K + 1 + 1 + 1, ?_⟩);(rw [tenorlaw16_RiskFar.j0, if_neg (by decide), o1, Option.bind_some, if_pos rfl])
 by_cases z : n = 0
 ·subst z
  rw [if_neg (by decide)]; exact h6
 ·obtain ⟨p, rfl⟩ : ∃ p, n = p + 1 := ⟨n - 1, by omega⟩
  (rw [if_pos (by omega), w0, if_pos (by omega), if_pos (by omega), show (((p + 1 : Nat) : Int) - 1) = (p : Int) by omega]);(exact h6)
end
end Go.Proofs.Ythkcphdhmkcdkaa.FJc
