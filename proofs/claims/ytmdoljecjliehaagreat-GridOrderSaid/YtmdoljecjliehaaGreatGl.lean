/- GridOrder, the plain law. No walk. -/
import Derived.Test.YtmdoljecjliehaaGreatFGcx2
import Derived.Test.YtmdoljecjliehaaGreatKr
namespace Go.Proofs.YtmdoljecjliehaaGreat.FGc
open Go.RowKit Go.Proofs.YtmdoljecjliehaaGreatW.PrintWords Go.Proofs.YtmdoljecjliehaaGreatW.PrintLast Go.Proofs.YtmdoljecjliehaaGreatW.PrintMore Tn
open Go.Proofs.YtmdoljecjliehaaGreat.FX Go.Proofs.YtmdoljecjliehaaGreat.FB Go.Proofs.YtmdoljecjliehaaGreat.FP Go.Proofs.YtmdoljecjliehaaGreat.FQ Go.Proofs.YtmdoljecjliehaaGreat.EV Go.Proofs.YtmdoljecjliehaaGreat.FK Go.Proofs.YtmdoljecjliehaaGreat.FGa
set_option linter.unusedVariables false
theorem awake25 : law25_awake.f = some true := rfl
theorem bits_at (x : Nat) : api_Bits.f x = some (x : Int) := rfl
theorem small25 (l : List S104) (b kd : Int) (ds : List Int) (fs : List Nat) : tenorlaw25_small.f l b kd ds fs = some (decide (l.length ≤ 20 ∧ ds.length ≤ 8 ∧ fs.length ≤ 8)) := by
 unfold tenorlaw25_small.f
 by_cases c1 : (l.length : Int) ≤ 20
 ·rw [if_pos c1]
  by_cases c2 : (ds.length : Int) ≤ 8
  ·rw [if_pos c2]; congr 1; rw [Bool.eq_iff_iff, decide_eq_true_iff, decide_eq_true_iff]; omega
  ·rw [if_neg c2, decide_eq_false (by omega)]
 ·rw [if_neg c1, decide_eq_false (by omega)]
theorem rds_at {l : List S42} {i : Nat} (hi : i < l.length) : rd_T42 l (i : Int) = l[i] := by
 (unfold rd_T42);(rw [Int.toNat_natCast, List.getD_eq_getElem?_getD, List.getElem?_eq_getElem hi]; rfl)
theorem nought_of {x : Nat} (hx : x < 18446744073709551616) (h : (FloatKind.f64.format.order x (0 : Nat) == some .eq) = true) : nought x := by
 have hn : nan x = false := by
  cases c : nan x
  ·rfl
  ·exfalso
   (have e : FloatKind.f64.format.order x (0 : Nat) = none := order_nan (.inl c));(rw [e] at h; cases h)
 (rw [ord_eq hx (by decide) hn (by decide), decide_eq_true_iff, show rank 0 = 0 by decide] at h);(unfold nought);(unfold rank at h);(rw [hn, if_neg (by decide)] at h)
 by_cases c : sgn x = true
 ·rw [if_pos c] at h
  (unfold sgn at c);(have c2 := of_decide_eq_true c);(unfold mag at h; omega)
 ·rw [if_neg c] at h
  (unfold sgn at c);(have c2 := of_decide_eq_false (Bool.eq_false_iff.2 c));(unfold mag at h; omega)

theorem mul_nought {x y : Nat} (hx : nought x) (hy : y < 18446744073709551616) (fy : fin y = true) : nought (fmulV x y) := by
 (obtain ⟨x1, x2, x3⟩ := nought_fin hx);(have hm : fmulV x y = prodN x y := (fmul_is (mul_fin' x1 hy x2 fy)).2);(rw [hm]; unfold prodN);(rw [x3, show dm 0 = 0 from rfl, Nat.zero_mul, nr_zero]);(exact nought_sg _)
theorem tilt_nothing {b d : Int} {f h : Nat} (h1 : 1 ≤ d - b) (h2 : d - b ≤ 1000000) (hh : nought h) (hf : f < 18446744073709551616) (pf : posf f = true) : tiltV b d f h = f := by
 (have w1 : wrap64 (d - b) = d - b := by unfold wrap64; omega);(obtain ⟨q, hq, mq⟩ := mg_div (a := 63) (b := 8) (foi_mg (n := d - b) (by omega)) (y := 4645128764097822720) (by decide) (by decide) (by decide) (by decide) (by decide) (by decide) (by decide) (by decide) (by decide));(have ht : timeV b d = q := by unfold timeV; rw [w1]; exact (fdiv_is hq).2);(unfold tiltV);(rw [ht, exp_none (nought_neg (mul_nought (mul_nought hh mq.w (mq.fin (by decide))) mq.w (mq.fin (by decide)))), mul_one hf pf])
theorem til_nothing {b kd : Int} {ds : List Int} {fs : List Nat} {n : Int} {h : Nat} (hc : chkC b kd ds fs = 0) (hw : ∀ y ∈ fs, y < 18446744073709551616) (hh : nought h) : tilL b ds fs h = fs := by
 (obtain ⟨c1, c2, c3, c4⟩ := chk_zero.1 hc);(obtain ⟨a1, a2, a3, a4⟩ := asc_pw c4);(unfold tilL);(refine List.ext_getElem (by rw [List.length_map, List.length_range]) fun j h1 h2 => ?_);(have hjd : j < ds.length := by omega);(have q := a1 ds[j] (List.getElem_mem _));(rw [List.getElem_map, List.getElem_range]);(unfold tiltAt);(rw [rdi_at hjd, rdf_at h2]);(exact tilt_nothing (by omega) (by omega) hh (hw _ (List.getElem_mem _)) (a4 _ (List.getElem_mem _)))
theorem tilL_w {b : Int} {ds : List Int} {fs : List Nat} {n : Int} {h : Nat} (hz : tilE b ds fs n h = 0) : ∀ y ∈ tilL b ds fs h, y < 18446744073709551616 := by
 (intro y hy);(obtain ⟨j, hj, rfl⟩ := List.mem_map.1 hy);(unfold tilE at hz)
 by_cases c1 : n = 0
 ·rw [if_pos c1] at hz
  by_cases c2 : fin h = true
  ·rw [if_pos c2] at hz
   by_cases c3 : (List.range fs.length).all (fun j => posf (tiltAt b ds fs h j)) = true
   ·exact posf_w (List.all_eq_true.1 c3 j hj)
   ·rw [if_neg c3] at hz; cases hz
  ·rw [if_neg c2] at hz; cases hz
 ·rw [if_neg c1] at hz; cases hz
noncomputable def apV (b kd : Int) (ds : List Int) (fs : List Nat) (s : S42) : Int × Int × List Int × List Nat × Int :=
 if chkC b kd ds fs = 0 then (if s.f0 < 1 ∨ 3 < s.f0 then (0, 0, [], [], 90) else
  if s.f0 = 1 then (if s.f1 = 0 then (if parE b kd ds fs s.f2 = 0 then (b, kd, ds, parL b ds fs s.f2, 0) else (0, 0, [], [], parE b kd ds fs s.f2)) else (0, 0, [], [], 1))
  else if s.f0 = 2 then (if bumpE b kd ds fs s.f1 s.f2 = 0 then (b, kd, ds, bumpL b ds fs s.f1 s.f2, 0) else (0, 0, [], [], bumpE b kd ds fs s.f1 s.f2))
  else (if tilE b ds fs s.f1 s.f2 = 0 then (b, kd, ds, tilL b ds fs s.f2, 0) else (0, 0, [], [], tilE b ds fs s.f1 s.f2))) else (0, 0, [], [], chkC b kd ds fs)
theorem ap_is {b kd : Int} {ds : List Int} {fs : List Nat} {s : S42} (hw : ∀ y ∈ fs, y < 18446744073709551616) (hs : s.f2 < 18446744073709551616) : grid_Apply.f b kd ds fs s.f0 s.f1 s.f2 = some (apV b kd ds fs s) := by
 (have hall : (fs.all fun y => decide (y < 18446744073709551616)) = true := List.all_eq_true.2 fun y hy => decide_eq_true (hw y hy));(unfold grid_Apply.f apV);(rw [if_pos ⟨hall, hs⟩])
 by_cases c : chkC b kd ds fs = 0
 rotate_left
 ·rw [if_neg c, if_neg c]
 rw [if_pos c, if_pos c]
 by_cases c1 : s.f0 < 1 ∨ 3 < s.f0
 ·rw [if_pos c1, if_pos c1]
 rw [if_neg c1, if_neg c1]
 by_cases c2 : s.f0 = 1
 ·rw [if_pos c2, if_pos c2]
  unfold grid_all.f risk_Parallel.f
  by_cases c3 : s.f1 = 0
  ·rw [if_pos c3, if_pos c3, if_pos ⟨hall, hs⟩]; rfl
  ·rw [if_neg c3, if_neg c3]
 rw [if_neg c2, if_neg c2]
 by_cases c3 : s.f0 = 2
 ·rw [if_pos c3, if_pos c3]
  (unfold grid_node.f risk_Bump.f);(rw [if_pos ⟨hall, hs⟩]; rfl)
 ·rw [if_neg c3, if_neg c3]
  (unfold grid_tilt.f);(rw [if_pos ⟨hall, hs, c⟩])
theorem ap_w {b kd : Int} {ds : List Int} {fs : List Nat} {s : S42} (hw : ∀ y ∈ fs, y < 18446744073709551616) : ∀ y ∈ (apV b kd ds fs s).2.2.2.1, y < 18446744073709551616 := by
 (have z : ∀ y ∈ ([] : List Nat), y < 18446744073709551616 := fun y hy => by cases hy);(unfold apV)
 by_cases c : chkC b kd ds fs = 0
 rotate_left
 ·rw [if_neg c]; exact z
 rw [if_pos c]
 by_cases c1 : s.f0 < 1 ∨ 3 < s.f0
 ·rw [if_pos c1]; exact z
 rw [if_neg c1]
 by_cases c2 : s.f0 = 1
 ·rw [if_pos c2]
  by_cases c3 : s.f1 = 0
  ·rw [if_pos c3]
   by_cases c4 : parE b kd ds fs s.f2 = 0
   ·rw [if_pos c4]; exact parL_w c4
   ·rw [if_neg c4]; exact z
  ·rw [if_neg c3]; exact z
 rw [if_neg c2]
 by_cases c3 : s.f0 = 2
 ·rw [if_pos c3]
  by_cases c4 : bumpE b kd ds fs s.f1 s.f2 = 0
  ·rw [if_pos c4]; exact bumpL_w hw c4
  ·rw [if_neg c4]; exact z
 ·rw [if_neg c3]
  by_cases c4 : tilE b ds fs s.f1 s.f2 = 0
  ·rw [if_pos c4]; exact tilL_w c4
  ·rw [if_neg c4]; exact z
theorem ap_nothing {b kd : Int} {ds : List Int} {fs : List Nat} {s : S42} (hw : ∀ y ∈ fs, y < 18446744073709551616) (hh : nought s.f2) (h0 : (apV b kd ds fs s).2.2.2.2 = 0) : apV b kd ds fs s = (b, kd, ds, fs, 0) := by
 unfold apV at *
 by_cases c : chkC b kd ds fs = 0
 rotate_left
 ·rw [if_neg c] at h0; exact absurd h0 c
 rw [if_pos c] at h0 ⊢
 by_cases c1 : s.f0 < 1 ∨ 3 < s.f0
 ·rw [if_pos c1] at h0; cases h0
 rw [if_neg c1] at h0 ⊢
 by_cases c2 : s.f0 = 1
 ·rw [if_pos c2] at h0 ⊢
  by_cases c3 : s.f1 = 0
  ·rw [if_pos c3, if_pos (par_nothing c hw hh).1, (par_nothing c hw hh).2]
  ·rw [if_neg c3] at h0; cases h0
 rw [if_neg c2] at h0 ⊢
 by_cases c3 : s.f0 = 2
 ·rw [if_pos c3] at h0 ⊢
  by_cases c4 : bumpE b kd ds fs s.f1 s.f2 = 0
  ·rw [if_pos c4]
   have hr : 0 ≤ s.f1 ∧ s.f1 < (ds.length : Int) := by
    (unfold bumpE at c4);(rw [if_pos c] at c4)
    by_cases c5 : s.f1 < 0 ∨ (ds.length : Int) ≤ s.f1
    ·rw [if_pos c5] at c4; cases c4
    ·omega
   rw [(one_nothing c hw hh hr.1 hr.2).2]
  ·rw [if_neg c4] at h0; exact absurd h0 c4
 ·rw [if_neg c3] at h0 ⊢
  by_cases c4 : tilE b ds fs s.f1 s.f2 = 0
  ·rw [if_pos c4, til_nothing (n := s.f1) c hw hh]
  ·rw [if_neg c4] at h0; exact absurd h0 c4
section
variable (l : List S104) (cur b kd : Int) (ds : List Int) (fs : List Nat)
noncomputable def prV (s : S42) : Nat × Int := presV l cur (apV b kd ds fs s).1 (apV b kd ds fs s).2.1 (apV b kd ds fs s).2.2.1 (apV b kd ds fs s).2.2.2.1
noncomputable def dV (s : S42) : Nat := fsubV (prV l cur b kd ds fs s).1 (presV l cur b kd ds fs).1
def good (s : S42) : Prop := (apV b kd ds fs s).2.2.2.2 = 0 ∧ (prV l cur b kd ds fs s).2 = 0 ∧ fin (dV l cur b kd ds fs s) = true
noncomputable def runG : List S42 → List Nat → List Nat × Int
 | [], acc => (acc, 0)
 | s :: t, acc => if (apV b kd ds fs s).2.2.2.2 = 0 then (if (prV l cur b kd ds fs s).2 = 0 then (if fin (dV l cur b kd ds fs s) = true then runG t (acc ++ [dV l cur b kd ds fs s]) else ([], 91)) else ([], (prV l cur b kd ds fs s).2)) else ([], (apV b kd ds fs s).2.2.2.2)
theorem run_good : ∀ (t : List S42) (acc : List Nat), (∀ s ∈ t, good l cur b kd ds fs s) → runG l cur b kd ds fs t acc = (acc ++ t.map (dV l cur b kd ds fs), 0)
 | [], acc, _ => by rw [runG, List.map_nil, List.append_nil]
 | s :: t, acc, h => by
  (obtain ⟨h1, h2, h3⟩ := h s (List.mem_cons_self ..));(rw [runG, if_pos h1, if_pos h2, if_pos h3, run_good t _ (fun x hx => h x (List.mem_cons_of_mem _ hx)), List.append_assoc, List.map_cons]; rfl)
theorem run_bad : ∀ (t : List S42) (acc : List Nat), (runG l cur b kd ds fs t acc).2 = 0 → ∀ s ∈ t, good l cur b kd ds fs s
 | [], acc, _ => fun s hs => by cases hs
 | s :: t, acc, h => fun x hx => by
  rw [runG] at h
  by_cases h1 : (apV b kd ds fs s).2.2.2.2 = 0
  ·rw [if_pos h1] at h
   by_cases h2 : (prV l cur b kd ds fs s).2 = 0
   ·rw [if_pos h2] at h
    by_cases h3 : fin (dV l cur b kd ds fs s) = true
    ·rw [if_pos h3] at h
     rcases List.mem_cons.1 hx with rfl | hx
     ·exact ⟨h1, h2, h3⟩
     ·exact run_bad t _ h x hx
    ·rw [if_neg h3] at h; cases h
   ·rw [if_neg h2] at h; exact absurd h h2
  ·rw [if_neg h1] at h; exact absurd h h1
theorem run_empty : ∀ (t : List S42) (acc : List Nat), (runG l cur b kd ds fs t acc).2 ≠ 0 → (runG l cur b kd ds fs t acc).1 = []
 | [], acc, h => by rw [runG] at h; exact absurd rfl h
 | s :: t, acc, h => by
  rw [runG] at h ⊢
  by_cases h1 : (apV b kd ds fs s).2.2.2.2 = 0
  ·rw [if_pos h1] at h ⊢
   by_cases h2 : (prV l cur b kd ds fs s).2 = 0
   ·rw [if_pos h2] at h ⊢
    by_cases h3 : fin (dV l cur b kd ds fs s) = true
    ·rw [if_pos h3] at h ⊢; exact run_empty t _ h
    ·rw [if_neg h3]
   ·rw [if_neg h2]
  ·rw [if_neg h1]
theorem pres_f {bb kk : Int} {dd : List Int} {ff : List Nat} (hok : okW l fs = true) (hf : ∀ y ∈ ff, y < 18446744073709551616) : price_Present.f l cur bb kk dd ff = some (presV l cur bb kk dd ff) := by
 (unfold price_Present.f);(rw [if_pos (okW_of (okW_is hok).1 (okW_is hok).2.1 hf)])
theorem num_f {x : Nat} (hx : x < 18446744073709551616) : FGa.grid_number.f x = some (fin x) := gnumber_is hx
theorem run_l0 (hok : okW l fs = true) (hp : (presV l cur b kd ds fs).2 = 0) (S : List S42) (hS : ∀ s ∈ S, s.f2 < 18446744073709551616) (hn : S.length ≤ 1000) : ∀ (m i : Nat) (acc : List Nat), i + m = S.length → acc.length = i → Evt (fun k => grid_Run.l0 k l cur (presV l cur b kd ds fs).1 acc S (S.length : Int) (i : Int) b kd ds fs) (runG l cur b kd ds fs (S.drop i) acc)
 | 0, i, acc, h, ha => by
  refine Evt.last fun k => ?_
  rw [grid_Run.l0, if_neg (by omega), List.drop_eq_nil_of_le (by omega), runG]
 | m + 1, i, acc, h, ha => by
  (have hi : i < S.length := by omega);(have ih := run_l0 hok hp S hS hn m (i + 1) (acc ++ [dV l cur b kd ds fs S[i]]) (by omega) (by rw [List.length_append]; simp; omega));(have hs := hS _ (List.getElem_mem hi));(have hw := (okW_is hok).2.2);(have P := pres_f l cur (bb := (apV b kd ds fs S[i]).1) (kk := (apV b kd ds fs S[i]).2.1) (dd := (apV b kd ds fs S[i]).2.2.1) (ff := (apV b kd ds fs S[i]).2.2.2.1) fs hok (ap_w hw));(have hd : S.drop i = S[i] :: S.drop (i + 1) := List.drop_eq_getElem_cons hi);(obtain ⟨n1, n2⟩ := pres_num hp);(rw [hd, runG])
  by_cases h1 : (apV b kd ds fs S[i]).2.2.2.2 = 0
  rotate_left
  ·rw [if_neg h1]
   (refine Evt.last fun k => ?_);(rw [grid_Run.l0, if_pos (by omega), if_pos (by omega), if_pos (by omega), rds_at hi, ap_is hw hs, Option.bind_some, if_neg h1])
  rw [if_pos h1]
  by_cases h2 : (prV l cur b kd ds fs S[i]).2 = 0
  rotate_left
  ·rw [if_neg h2]
   (refine Evt.last fun k => ?_);(rw [grid_Run.l0, if_pos (by omega), if_pos (by omega), if_pos (by omega), rds_at hi, ap_is hw hs, Option.bind_some, if_pos h1, P, Option.bind_some, if_neg (show ¬ (presV l cur (apV b kd ds fs S[i]).1 (apV b kd ds fs S[i]).2.1 (apV b kd ds fs S[i]).2.2.1 (apV b kd ds fs S[i]).2.2.2.1).2 = 0 from h2)]; rfl)
  (rw [if_pos h2]);(obtain ⟨q1, q2⟩ := pres_num (show (presV l cur (apV b kd ds fs S[i]).1 (apV b kd ds fs S[i]).2.1 (apV b kd ds fs S[i]).2.2.1 (apV b kd ds fs S[i]).2.2.2.1).2 = 0 from h2));(obtain ⟨s1, s2, s3⟩ := sub_num q1 n1 q2 n2);(have dd : fsubV (presV l cur (apV b kd ds fs S[i]).1 (apV b kd ds fs S[i]).2.1 (apV b kd ds fs S[i]).2.2.1 (apV b kd ds fs S[i]).2.2.2.1).1 (presV l cur b kd ds fs).1 = dV l cur b kd ds fs S[i] := rfl);(have s4 : dV l cur b kd ds fs S[i] < 18446744073709551616 := s3)
  by_cases h3 : fin (dV l cur b kd ds fs S[i]) = true
  rotate_left
  ·rw [if_neg h3]
   (refine Evt.last fun k => ?_);(rw [grid_Run.l0, if_pos (by omega), if_pos (by omega), if_pos (by omega), rds_at hi, ap_is hw hs, Option.bind_some, if_pos h1, P, Option.bind_some, if_pos (show (presV l cur (apV b kd ds fs S[i]).1 (apV b kd ds fs S[i]).2.1 (apV b kd ds fs S[i]).2.2.1 (apV b kd ds fs S[i]).2.2.2.1).2 = 0 from h2), if_pos s1, dd, num_f s4, Option.bind_some, if_neg h3])
  (rw [if_pos h3]);(refine Evt.next ih fun k => ?_);(rw [grid_Run.l0, if_pos (by omega), if_pos (by omega), if_pos (by omega), rds_at hi, ap_is hw hs, Option.bind_some, if_pos h1, P, Option.bind_some, if_pos (show (presV l cur (apV b kd ds fs S[i]).1 (apV b kd ds fs S[i]).2.1 (apV b kd ds fs S[i]).2.2.1 (apV b kd ds fs S[i]).2.2.2.1).2 = 0 from h2), if_pos s1, dd, num_f s4, Option.bind_some, if_pos h3, if_pos (by omega), wr hi (by omega)])
theorem run_is (hok : okW l fs = true) (S : List S42) (hS : ∀ s ∈ S, s.f2 < 18446744073709551616) (hn : S.length ≤ 256) : Evt (fun k => grid_Run.f k l cur b kd ds fs S) (if (presV l cur b kd ds fs).2 = 0 then runG l cur b kd ds fs S [] else ([], (presV l cur b kd ds fs).2)) := by
 (unfold grid_Run.f);(refine Evt.ifF (by omega) (Evt.after (pres_f l cur fs hok (okW_is hok).2.2) ?_))
 by_cases h : (presV l cur b kd ds fs).2 = 0
 ·rw [if_pos h]
  (refine Evt.ifT h (Evt.ifT (by omega) (Evt.ifT (by rw [Int.toNat_natCast]; omega) ?_)));(exact run_l0 l cur b kd ds fs hok h S hS (by omega) S.length 0 [] (by omega) rfl)
 ·rw [if_neg h]
  refine Evt.ifF h (Evt.const fun k => rfl)
theorem back_l0 (S : List S42) (x9 : List Nat) (r : Bool) (hn : S.length ≤ 1000) (H : Evt (fun k => (grid_Run.f k l cur b kd ds fs S.reverse).bind fun bt138 => (if bt138.2 = 0 then (tenorlaw25_GridOrder.j2 k l cur S x9 bt138.1 ((bt138.1.length : Int) != (x9.length : Int)) b kd ds fs) else (tenorlaw25_GridOrder.j2 k l cur S x9 bt138.1 true b kd ds fs))) r) : ∀ (m : Nat), m ≤ S.length → Evt (fun k => tenorlaw25_GridOrder.l0 k l cur S x9 (S.drop m).reverse ((m : Int) - 1) b kd ds fs) r
 | 0, _ => by
  refine Evt.next H fun k => ?_
  rw [tenorlaw25_GridOrder.l0, if_neg (by omega), List.drop_zero]
 | m + 1, h => by
  (have ih := back_l0 S x9 r hn H m (by omega));(have hm : m < S.length := by omega);(refine Evt.next ih fun k => ?_);(rw [tenorlaw25_GridOrder.l0, if_pos (by omega), if_pos (by omega), if_pos (by omega), if_pos (by rw [List.length_reverse, List.length_drop]; omega)]);(rw [show (((m + 1 : Nat) : Int) - 1) = ((m : Nat) : Int) by omega, rds_at hm])
  have e : (S.drop (m + 1)).reverse ++ [(⟨S[m].f0, S[m].f1, S[m].f2⟩ : S42)] = (S.drop m).reverse := by
   rw [List.drop_eq_getElem_cons hm, List.reverse_cons]
  rw [e, show wrap64 ((m : Int) - 1) = (m : Int) - 1 by unfold wrap64; omega]
theorem each_l1 (hok : okW l fs = true) (hp : (presV l cur b kd ds fs).2 = 0) (S : List S42) (hS : ∀ s ∈ S, s.f2 < 18446744073709551616) (hn : S.length ≤ 1000) (hg : ∀ s ∈ S, good l cur b kd ds fs s) : ∀ (m i : Nat), i + m = S.length → Evt (fun k => tenorlaw25_GridOrder.l1 k l cur S (S.map (dV l cur b kd ds fs)) (S.reverse.map (dV l cur b kd ds fs)) (presV l cur b kd ds fs).1 0 (i : Int) b kd ds fs) true
 | 0, i, h => by
  refine Evt.last fun k => ?_
  rw [tenorlaw25_GridOrder.l1, if_neg (by omega), awake25]; rfl
 | m + 1, i, h => by
  (have hi : i < S.length := by omega);(have ih := each_l1 hok hp S hS hn hg m (i + 1) (by omega));(have hs := hS _ (List.getElem_mem hi));(have hw := (okW_is hok).2.2);(obtain ⟨g1, g2, g3⟩ := hg _ (List.getElem_mem hi));(have P := pres_f l cur (bb := (apV b kd ds fs S[i]).1) (kk := (apV b kd ds fs S[i]).2.1) (dd := (apV b kd ds fs S[i]).2.2.1) (ff := (apV b kd ds fs S[i]).2.2.2.1) fs hok (ap_w hw));(have g2' : (presV l cur (apV b kd ds fs S[i]).1 (apV b kd ds fs S[i]).2.1 (apV b kd ds fs S[i]).2.2.1 (apV b kd ds fs S[i]).2.2.2.1).2 = 0 := g2);(obtain ⟨n1, n2⟩ := pres_num hp);(obtain ⟨q1, q2⟩ := pres_num g2');(obtain ⟨s1, s2, s3⟩ := sub_num q1 n1 q2 n2);(have l1 : i < (S.map (dV l cur b kd ds fs)).length := by rw [List.length_map]; exact hi);(have l2 : S.length - 1 - i < (S.reverse.map (dV l cur b kd ds fs)).length := by rw [List.length_map, List.length_reverse]; omega);(have r1 : rdOf (0 : Nat) (S.map (dV l cur b kd ds fs)) (i : Int) = dV l cur b kd ds fs S[i] := by rw [rdf_at l1, List.getElem_map])
  have r2 : rdOf (0 : Nat) (S.reverse.map (dV l cur b kd ds fs)) ((S.length - 1 - i : Nat) : Int) = dV l cur b kd ds fs S[i] := by
   rw [rdf_at l2, List.getElem_map, List.getElem_reverse]
   congr 2; omega
  (have w1 : wrap64 (wrap64 ((S.length : Int) - 1) - (i : Int)) = ((S.length - 1 - i : Nat) : Int) := by unfold wrap64; omega);(have dd : fsubV (presV l cur (apV b kd ds fs S[i]).1 (apV b kd ds fs S[i]).2.1 (apV b kd ds fs S[i]).2.2.1 (apV b kd ds fs S[i]).2.2.2.1).1 (presV l cur b kd ds fs).1 = dV l cur b kd ds fs S[i] := rfl)
  have J : Evt (fun k => tenorlaw25_GridOrder.j4 k l cur S (S.map (dV l cur b kd ds fs)) (S.reverse.map (dV l cur b kd ds fs)) (presV l cur b kd ds fs).1 0 (i : Int) false b kd ds fs) true := by
   refine Evt.next (f := fun k => if (FloatKind.f64.format.order S[i].f2 (0 : Nat) == some .eq) = true then (if dV l cur b kd ds fs S[i] = 0 then tenorlaw25_GridOrder.l1 k l cur S (S.map (dV l cur b kd ds fs)) (S.reverse.map (dV l cur b kd ds fs)) (presV l cur b kd ds fs).1 0 ((i + 1 : Nat) : Int) b kd ds fs else none) else tenorlaw25_GridOrder.l1 k l cur S (S.map (dV l cur b kd ds fs)) (S.reverse.map (dV l cur b kd ds fs)) (presV l cur b kd ds fs).1 0 ((i + 1 : Nat) : Int) b kd ds fs) ?_ fun k => ?_
   ·by_cases c : (FloatKind.f64.format.order S[i].f2 (0 : Nat) == some .eq) = true
    ·refine Evt.ifT c (Evt.ifT ?_ ih)
     (have hz : nought S[i].f2 := nought_of hs c);(have e := ap_nothing hw hz g1);(unfold dV prV);(rw [e]);(exact fsub_self n1 n2)
    ·exact Evt.ifF c ih
   ·rw [tenorlaw25_GridOrder.j4, if_neg (by decide), if_pos (by omega), if_pos (by omega), rds_at hi, r1, bits_at, Option.bind_some, wr hi (by omega)]
    by_cases c : (FloatKind.f64.format.order S[i].f2 (0 : Nat) == some .eq) = true
    ·rw [if_pos c, if_pos c, if_pos (by rw [List.length_map]; omega)]
     by_cases z : dV l cur b kd ds fs S[i] = 0
     ·rw [if_pos z, if_pos (by omega)]
     ·rw [if_neg z, if_neg (by omega)]
    ·rw [if_neg c, if_neg c]
  (refine Evt.next J fun k => ?_);(rw [tenorlaw25_GridOrder.l1, if_pos (by omega), if_pos (by omega), rds_at hi, ap_is hw hs, Option.bind_some, P, Option.bind_some, if_pos rfl, if_pos g1, if_pos g2', if_pos (by rw [List.length_map]; omega), r1, bits_at, Option.bind_some, if_pos s1, dd, bits_at, Option.bind_some, if_pos rfl, w1, if_pos (by omega), if_pos (by rw [List.length_map, List.length_reverse]; omega), r2, bits_at, Option.bind_some, Option.bind_some]);(simp)
theorem law (S : List S42) (hwl : ∀ f ∈ l, f.f1 < 18446744073709551616) (hw : ∀ y ∈ fs, y < 18446744073709551616) (hS : ∀ s ∈ S, s.f2 < 18446744073709551616) : ∃ k, tenorlaw25_GridOrder.f k l cur b kd ds fs S = some true := by
 (refine Evt.get ?_);(unfold tenorlaw25_GridOrder.f);(refine Evt.after (small25 l b kd ds fs) ?_)
 have A : Evt (fun k => tenorlaw25_GridOrder.j0 k l cur S true b kd ds fs) true := by
  (refine Evt.last fun k => ?_);(rw [tenorlaw25_GridOrder.j0, if_pos rfl, awake25]; rfl)
 by_cases s : l.length ≤ 20 ∧ ds.length ≤ 8 ∧ fs.length ≤ 8
 rotate_left
 ·exact Evt.ifF (by rw [decide_eq_false s]; decide) A
 refine Evt.ifT (decide_eq_true s) ?_
 by_cases n8 : S.length ≤ 8
 rotate_left
 ·rw [decide_eq_true (show (S.length : Int) > 8 by omega)]; exact A
 (rw [decide_eq_false (show ¬ (S.length : Int) > 8 by omega)]);(have hok : okW l fs = true := okW_of (by omega) hwl hw);(have R := run_is l cur b kd ds fs hok S hS (by omega));(have RB := run_is l cur b kd ds fs hok S.reverse (fun x hx => hS x (List.mem_reverse.1 hx)) (by rw [List.length_reverse]; omega));(refine Evt.next (f := fun k => (grid_Run.f k l cur b kd ds fs S).bind fun bt129 => (if bt129.2 = 0 then (if (bt129.1.length : Int) = (S.length : Int) then (tenorlaw25_GridOrder.l0 k l cur S bt129.1 ([] : List (S42)) (wrap64 ((S.length : Int) - 1)) b kd ds fs) else (none)) else (if (bt129.1.length : Int) = 0 then ((law25_awake.f).bind fun t133 => (some t133)) else (none)))) ?_ (fun k => by rw [tenorlaw25_GridOrder.j0, if_neg (by decide)]));(refine Evt.bind R ?_)
 by_cases hp : (presV l cur b kd ds fs).2 = 0
 rotate_left
 ·rw [if_neg hp]
  (refine Evt.ifF hp (Evt.ifT rfl ?_));(rw [awake25]; exact Evt.const fun k => rfl)
 (rw [if_pos hp]);(rw [if_pos hp] at RB)
 by_cases hr : (runG l cur b kd ds fs S []).2 = 0
 rotate_left
 ·refine Evt.ifF hr (Evt.ifT (by rw [run_empty l cur b kd ds fs S [] hr]; rfl) ?_)
  rw [awake25]; exact Evt.const fun k => rfl
 (have hg := run_bad l cur b kd ds fs S [] hr);(rw [run_good l cur b kd ds fs S [] hg, List.nil_append]);(rw [run_good l cur b kd ds fs S.reverse [] (fun x hx => hg x (List.mem_reverse.1 hx)), List.nil_append] at RB);(refine Evt.ifT rfl (Evt.ifT (by rw [List.length_map]) ?_))
 have L := back_l0 l cur b kd ds fs S (S.map (dV l cur b kd ds fs)) true (by omega) (by
  (refine Evt.bind RB ?_);(refine Evt.ifT rfl ?_);(refine Evt.next (f := fun k => tenorlaw25_GridOrder.l1 k l cur S (S.map (dV l cur b kd ds fs)) (S.reverse.map (dV l cur b kd ds fs)) (presV l cur b kd ds fs).1 0 0 b kd ds fs) ?_ (fun k => ?_))
  ·exact each_l1 l cur b kd ds fs hok hp S hS (by omega) hg S.length 0 (by omega)
  ·rw [tenorlaw25_GridOrder.j2, if_neg (by simp), pres_f l cur fs hok (okW_is hok).2.2, Option.bind_some, hp]) S.length (Nat.le_refl _)
 (rw [List.drop_length, List.reverse_nil] at L);(rw [show wrap64 ((S.length : Int) - 1) = (S.length : Int) - 1 by unfold wrap64; omega]);(exact L)
end
end Go.Proofs.YtmdoljecjliehaaGreat.FGc
