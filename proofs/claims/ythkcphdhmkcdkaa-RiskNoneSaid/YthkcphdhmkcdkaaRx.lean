/- RiskNone, the plain law. No walk. -/
import Derived.Test.YthkcphdhmkcdkaaFJnx2
namespace Go.Proofs.Ythkcphdhmkcdkaa.FJn
open Go.RowKit Go.Proofs.YthkcphdhmkcdkaaW.PrintWords Go.Proofs.YthkcphdhmkcdkaaW.PrintLast Go.Proofs.YthkcphdhmkcdkaaW.PrintMore Tn
open Go.Proofs.Ythkcphdhmkcdkaa.FX Go.Proofs.Ythkcphdhmkcdkaa.FB Go.Proofs.Ythkcphdhmkcdkaa.FP Go.Proofs.Ythkcphdhmkcdkaa.FQ Go.Proofs.Ythkcphdhmkcdkaa.EV Go.Proofs.Ythkcphdhmkcdkaa.FK
set_option linter.unusedVariables false
theorem awake16 : law16_awakeX.f = some true := rfl
theorem small16 (l : List S51) (b kd : Int) (ds : List Int) (fs : List Nat) : tenorlaw16_small.f l b kd ds fs = some (decide (l.length ≤ 20 ∧ ds.length ≤ 8 ∧ fs.length ≤ 8)) := by
 unfold tenorlaw16_small.f
 by_cases c1 : (l.length : Int) ≤ 20
 ·rw [if_pos c1]
  by_cases c2 : (ds.length : Int) ≤ 8
  ·rw [if_pos c2]; congr 1; rw [Bool.eq_iff_iff, decide_eq_true_iff, decide_eq_true_iff]; omega
  ·rw [if_neg c2, decide_eq_false (by omega)]
 ·rw [if_neg c1, decide_eq_false (by omega)]
theorem bits_at (x : Nat) : api_Bits.f x = some (x : Int) := rfl
theorem of_l0 (b kd : Int) (ds : List Int) (fs : List Nat) (hl : fs.length ≤ 1000) : ∀ (d i : Nat), i + d = fs.length → Evt (fun k => tenorref11_Of.l0 k (i : Int) b kd ds fs b kd ds (bitsL (fs.take i))) (b, kd, ds, bitsL fs)
 | 0, i, h => by
  refine Evt.last fun k => ?_
  rw [tenorref11_Of.l0, if_neg (by omega), List.take_of_length_le (by omega)]
 | d + 1, i, h => by
  (refine Evt.next (of_l0 b kd ds fs hl d (i + 1) (by omega)) fun k => ?_);(have hi : i < fs.length := by omega);(rw [tenorref11_Of.l0, if_pos (by omega), if_pos (by omega), rdf_at hi, bits_at, Option.bind_some, if_pos (by rw [bitsL_len, List.length_take]; omega), wr hi (by omega), List.take_succ_eq_append_getElem hi]);(unfold bitsL; rw [List.map_append]; rfl)
theorem of_is (b kd : Int) (ds : List Int) (fs : List Nat) (hl : fs.length ≤ 1000) : Evt (fun k => tenorref11_Of.f k b kd ds fs) (b, kd, ds, bitsL fs) := of_l0 b kd ds fs hl fs.length 0 (by omega)
theorem same_l1 (b kd : Int) (ds : List Int) (fs : List Nat) (hl : fs.length ≤ 1000) : ∀ (d i : Nat), i + d = fs.length → Evt (fun k => tenorref11_Same.l1 k (i : Int) b kd ds fs b kd ds (bitsL fs)) true
 | 0, i, h => by
  refine Evt.last fun k => ?_
  rw [tenorref11_Same.l1, if_neg (by rw [bitsL_len]; omega)]
 | d + 1, i, h => by
  (refine Evt.next (same_l1 b kd ds fs hl d (i + 1) (by omega)) fun k => ?_);(have hi : i < fs.length := by omega);(rw [tenorref11_Same.l1, if_pos (by rw [bitsL_len]; omega), if_pos (by omega), if_pos (by omega), rdf_at hi, bits_at, Option.bind_some, rdb_at hi, if_pos rfl, wr hi (by omega)])
theorem same_l0 (b kd : Int) (ds : List Int) (fs : List Nat) (hl : fs.length ≤ 1000) (hd : ds.length ≤ 1000) : ∀ (d i : Nat), i + d = ds.length → Evt (fun k => tenorref11_Same.l0 k (i : Int) b kd ds fs b kd ds (bitsL fs)) true
 | 0, i, h => by
  refine Evt.next (same_l1 b kd ds fs hl fs.length 0 (by omega)) fun k => ?_
  rw [tenorref11_Same.l0, if_neg (by omega)]; rfl
 | d + 1, i, h => by
  (refine Evt.next (same_l0 b kd ds fs hl hd d (i + 1) (by omega)) fun k => ?_);(have hi : i < ds.length := by omega);(rw [tenorref11_Same.l0, if_pos (by omega), if_pos (by omega), if_pos (by omega), if_pos rfl, wr hi (by omega)])
theorem same_is (b kd : Int) (ds : List Int) (fs : List Nat) (hl : fs.length ≤ 1000) (hd : ds.length ≤ 1000) : Evt (fun k => tenorref11_Same.f k b kd ds fs b kd ds (bitsL fs)) true := by
 (unfold tenorref11_Same.f);(refine Evt.ifT rfl (Evt.ifT rfl (Evt.ifT rfl ?_)));(refine Evt.ifT (by rw [bitsL_len]) ?_);(exact same_l0 b kd ds fs hl hd ds.length 0 (by omega))
theorem nought_l0 (n : Nat) (hn : n ≤ 1000) : ∀ (d i : Nat), i + d = n → Evt (fun k => tenorlaw16_noughts.l0 k (List.replicate n 0) (i : Int)) true
 | 0, i, h => by
  refine Evt.last fun k => ?_
  rw [tenorlaw16_noughts.l0, if_neg (by rw [List.length_replicate]; omega)]
 | d + 1, i, h => by
  (refine Evt.next (nought_l0 n hn d (i + 1) (by omega)) fun k => ?_);(have hi : i < (List.replicate n 0).length := by rw [List.length_replicate]; omega);(rw [tenorlaw16_noughts.l0, if_pos (by rw [List.length_replicate]; omega), if_pos (by omega), rdf_at hi, List.getElem_replicate, bits_at, Option.bind_some, if_pos (show (((0 : Nat) : Int)) = 0 from rfl), wr hi (by rw [List.length_replicate]; omega)])
theorem noughts_is (n : Nat) (hn : n ≤ 1000) : Evt (fun k => tenorlaw16_noughts.f k (List.replicate n 0)) true := nought_l0 n hn n 0 (by omega)
theorem lad_go {l : List S51} {cur b kd : Int} {ds : List Int} {fs : List Nat} {h P : Nat} (hp : P < 18446744073709551616) (fp : fin P = true) (ha : ∀ i : Nat, i < ds.length → aftN l cur b kd ds fs (i : Int) h = (P, 0)) :
  ∀ (m j : Nat) (acc : List Nat), j + m = ds.length → ladF l cur b kd ds fs h P m j acc = (acc ++ List.replicate m 0, 0)
 | 0, j, acc, _ => by rw [ladF]; simp
 | m + 1, j, acc, hj => by
  (have ih := lad_go hp fp ha m (j + 1) (acc ++ [0]) (by omega));(rw [ladF, ha j (by omega)]);(simp only [if_true, fsub_self hp fp]);(rw [if_pos (show fin 0 = true by decide), ih, List.append_assoc]; rfl)
theorem lad_nothing {l : List S51} {cur b kd : Int} {ds : List Int} {fs : List Nat} (hw : ∀ y ∈ fs, y < 18446744073709551616) : ladV l cur b kd ds fs 0 = if (presV l cur b kd ds fs).2 = 0 then (List.replicate ds.length 0, 0) else ([], (presV l cur b kd ds fs).2) := by
 (obtain ⟨h1, h2, h3⟩ := beg_nothing l cur b kd ds fs);(have e : (begV l cur b kd ds fs 0).2 = (presV l cur b kd ds fs).2 := by rw [h1]);(unfold ladV);(rw [e])
 by_cases c : (presV l cur b kd ds fs).2 = 0
 ·rw [if_pos c, if_pos c, h2 c]
  (obtain ⟨n1, n2⟩ := pres_num c);(exact lad_go n1 n2 (fun i hi => (aft_nothing c hw (.inl rfl)).2 i hi) ds.length 0 [] (by omega))
 ·rw [if_neg c, if_neg c]
theorem del_nothing {l : List S51} {cur b kd : Int} {ds : List Int} {fs : List Nat} (hw : ∀ y ∈ fs, y < 18446744073709551616) : delV l cur b kd ds fs 0 = (0, (presV l cur b kd ds fs).2) := by
 (obtain ⟨h1, h2, h3⟩ := beg_nothing l cur b kd ds fs);(have e : (begV l cur b kd ds fs 0).2 = (presV l cur b kd ds fs).2 := by rw [h1]);(unfold delV);(rw [e])
 by_cases c : (presV l cur b kd ds fs).2 = 0
 ·obtain ⟨n1, n2⟩ := pres_num c
  (rw [if_pos c, h2 c, (aft_nothing c hw (.inl rfl)).1, c]);(simp only [if_true, fsub_self n1 n2]);(unfold toldV; rw [if_pos (show fin 0 = true by decide)])
 ·rw [if_neg c]
theorem pres_err {l : List S51} {cur b kd : Int} {ds : List Int} {fs : List Nat} (h : (presV l cur b kd ds fs).2 ≠ 0) : (presV l cur b kd ds fs).1 = 0 := by
 unfold presV toldV at h ⊢
 by_cases c : eachE cur b kd ds fs l = 0
 ·rw [if_pos c] at h ⊢
  split at h
  ·exact absurd rfl h
  ·rename_i q; rw [if_neg q]
 ·rw [if_neg c]
theorem rest_is (l : List S51) (cur b kd : Int) (ds : List Int) (fs : List Nat) (hok : okW l fs = true) (hd : ds.length ≤ 8) {x : Bool} (hx : x = false) : Evt (fun k => tenorlaw16_RiskNone.j0 k l cur x b kd ds fs) true := by
 (have hw := (okW_is hok).2.2);(have o0 : price_Present.f l cur b kd ds fs = some (presV l cur b kd ds fs) := by unfold price_Present.f; rw [if_pos hok]);(have o1 : risk_Ladder.f l cur b kd ds fs 0 = some (ladV l cur b kd ds fs 0) := by unfold risk_Ladder.f; rw [if_pos ⟨hok, by decide⟩]);(have o2 : risk_Delta.f l cur b kd ds fs 0 = some (delV l cur b kd ds fs 0) := by unfold risk_Delta.f; rw [if_pos ⟨hok, by decide⟩]);(have o3 : risk_Gamma.f l cur b kd ds fs 0 = some (0, (presV l cur b kd ds fs).2) := by unfold risk_Gamma.f; rw [if_pos ⟨hok, rfl⟩]);(rw [lad_nothing hw] at o1);(rw [del_nothing hw] at o2);(refine Evt.next (f := fun k => (tenorlaw16_RiskNone.j0 (k + 1) l cur x b kd ds fs)) ?_ (fun k => rfl));(simp only [tenorlaw16_RiskNone.j0, hx, Bool.false_eq_true, if_false, o0, o1, o2, o3, Option.bind_some])
 by_cases c : (presV l cur b kd ds fs).2 = 0
 ·simp only [c, if_true, List.length_replicate]
  (refine Evt.bind (noughts_is ds.length (by omega)) ?_);(simp only [if_true]);(refine Evt.bind (noughts_is 2 (by omega)) ?_);(simp only [if_true, awake16]);(exact Evt.const fun k => rfl)
 ·have z := pres_err c
  (have q : (FloatKind.f64.format.order 0 (0 : Nat) == some .eq) = true := by decide);(simp only [if_neg c, z, q, if_true, awake16, List.length_nil]);(exact Evt.const fun k => rfl)
theorem law (l : List S51) (cur b kd : Int) (ds : List Int) (fs : List Nat) (i : Int) (hwl : ∀ f ∈ l, f.f1 < 18446744073709551616) (hw : ∀ y ∈ fs, y < 18446744073709551616) : ∃ k, tenorlaw16_RiskNone.f k l cur b kd ds fs i = some true := by
 (refine Evt.get ?_);(unfold tenorlaw16_RiskNone.f);(refine Evt.after (small16 l b kd ds fs) ?_)
 by_cases s : l.length ≤ 20 ∧ ds.length ≤ 8 ∧ fs.length ≤ 8
 rotate_left
 ·refine Evt.ifF (by rw [decide_eq_false s]; decide) ?_
  rw [awake16]; exact Evt.const fun k => rfl
 (refine Evt.ifT (decide_eq_true s) ?_);(have hok : okW l fs = true := okW_of (by omega) hwl hw);(have hall : (fs.all fun y => decide (y < 18446744073709551616)) = true := List.all_eq_true.2 fun y hy => decide_eq_true (hw y hy));(have R := fun x hx => rest_is l cur b kd ds fs hok s.2.1 (x := x) hx);(refine Evt.bind (of_is b kd ds fs (by omega)) ?_);(have o1 : risk_Bump.f b kd ds fs i 0 = some (if bumpE b kd ds fs i 0 = 0 then (b, kd, ds, bumpL b ds fs i 0, 0) else (0, 0, [], [], bumpE b kd ds fs i 0)) := by unfold risk_Bump.f; rw [if_pos ⟨hall, by decide⟩]);(have o2 : risk_Parallel.f b kd ds fs 0 = some (if parE b kd ds fs 0 = 0 then (b, kd, ds, parL b ds fs 0, 0) else (0, 0, [], [], parE b kd ds fs 0)) := by unfold risk_Parallel.f; rw [if_pos ⟨hall, by decide⟩]);(refine Evt.after o1 (Evt.after o2 (Evt.bind (check_is b kd ds fs hw) ?_)))
 by_cases c : chkC b kd ds fs = 0
 ·obtain ⟨p1, p2⟩ := par_nothing c hw (.inl rfl : nought 0)
  (simp only [p1, p2, c, if_true]);(refine Evt.bind (same_is b kd ds fs (by omega) (by omega)) ?_);(simp only [if_true])
  by_cases i0 : 0 ≤ i
  ·by_cases i1 : i < (ds.length : Int)
   ·obtain ⟨q1, q2⟩ := one_nothing c hw (.inl rfl : nought 0) i0 i1
    (simp only [q1, q2, if_true]);(refine Evt.bind (same_is b kd ds fs (by omega) (by omega)) ?_);(simp only [if_true]);(refine Evt.ifT i0 (R _ ?_));(rw [decide_eq_true i1]; rfl)
   ·have q : bumpE b kd ds fs i 0 = 1 := by unfold bumpE; rw [if_pos c, if_pos (by omega)]
    (simp only [q, show (1 : Int) ≠ 0 by decide, if_false]);(refine Evt.ifT i0 (R _ ?_));(rw [decide_eq_false i1]; rfl)
  ·have q : bumpE b kd ds fs i 0 = 1 := by unfold bumpE; rw [if_pos c, if_pos (by omega)]
   (simp only [q, show (1 : Int) ≠ 0 by decide, if_false]);(exact Evt.ifF i0 (R _ rfl))
 ·have q1 : bumpE b kd ds fs i 0 = chkC b kd ds fs := by unfold bumpE; rw [if_neg c]
  (have q2 : parE b kd ds fs 0 = chkC b kd ds fs := by unfold parE; rw [if_neg c]);(simp only [q1, q2, if_neg c, if_true]);(exact R false rfl)
end Go.Proofs.Ythkcphdhmkcdkaa.FJn
