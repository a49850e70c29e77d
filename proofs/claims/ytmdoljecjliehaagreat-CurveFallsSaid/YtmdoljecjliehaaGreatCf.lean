/- CurveFalls, the plain law. No walk. -/
import Derived.Test.YtmdoljecjliehaaGreatFXbx1
import Derived.Test.YtmdoljecjliehaaGreatCm
namespace Go.Proofs.YtmdoljecjliehaaGreat.FXb
open Go.RowKit Go.Proofs.YtmdoljecjliehaaGreatW.PrintWords Go.Proofs.YtmdoljecjliehaaGreatW.PrintLast Go.Proofs.YtmdoljecjliehaaGreatW.PrintMore Tn
open Go.Proofs.YtmdoljecjliehaaGreat.FX Go.Proofs.YtmdoljecjliehaaGreat.FP Go.Proofs.YtmdoljecjliehaaGreat.FQ Go.Proofs.YtmdoljecjliehaaGreat.EV Go.Proofs.YtmdoljecjliehaaGreat.FXa
set_option linter.unusedVariables false
theorem aw : law11_awakeX.f = some true := rfl
theorem bits_at (x : Nat) : api_Bits.f x = some (x : Int) := rfl
theorem ge_or {x y : Nat} (hx : x < 18446744073709551616) (hy : y < 18446744073709551616) (nx : nan x = false) (ny : nan y = false) (h : rank y ≤ rank x) : (FloatKind.f64.format.order x y == some .gt || FloatKind.f64.format.order x y == some .eq) = true := by
 rw [ord_gt hx hy nx ny, ord_eq hx hy nx ny, Bool.or_eq_true, decide_eq_true_iff, decide_eq_true_iff]; omega
theorem gt_iff {x y : Nat} (hx : x < 18446744073709551616) (hy : y < 18446744073709551616) (nx : nan x = false) (ny : nan y = false) : (FloatKind.f64.format.order x y == some .gt) = decide (rank y < rank x) := by
 exact ord_gt hx hy nx ny
theorem posf_nan {f : Nat} (h : posf f = true) : nan f = false := fin_nan (posf_is h).1
def chain : Nat → List Nat → Bool
 | _, [] => true
 | x, y :: l => decide (rank y ≤ rank x) && chain y l
theorem chain_falls : ∀ {x : Nat} {l : List Nat}, chain x l = true → FallsY (x :: l)
 | x, [], _ => fun i j hij hj => by
  (have h : j = 0 := by simp at hj; omega);(have h2 : i = 0 := by omega)
  subst h; subst h2; exact Int.le_refl _
 | x, y :: l, h => fun i j hij hj => by
  (unfold chain at h);(rw [Bool.and_eq_true] at h);(have h1 := of_decide_eq_true h.1);(have ih := chain_falls h.2);(have e0 : rdOf (0 : Nat) (x :: y :: l) ((0 : Nat) : Int) = x := rfl)
  have es : ∀ n : Nat, rdOf (0 : Nat) (x :: y :: l) ((n + 1 : Nat) : Int) = rdOf (0 : Nat) (y :: l) (n : Int) := fun n => by
   (unfold rdOf);(rw [Int.toNat_natCast, Int.toNat_natCast]; rfl)
  rcases i with _ | i
  ·rcases j with _ | j
   ·exact Int.le_refl _
   ·rw [e0, es]
    (have a := ih 0 j (by omega) (by simp at hj ⊢; omega));(have b : rdOf (0 : Nat) (y :: l) ((0 : Nat) : Int) = y := rfl);(rw [b] at a; omega)
  ·rcases j with _ | j
   ·omega
   ·rw [es, es]
    exact ih i j (by omega) (by simp at hj ⊢; omega)
theorem falls_l0 (fs : List Nat) (hl : fs.length ≤ 1000) (hp : ∀ y ∈ fs, y < 18446744073709551616 ∧ nan y = false) : ∀ (d i : Nat) (x : Nat), x < 18446744073709551616 → nan x = false → i + d = fs.length → Evt (fun k => curve_Falls.l0 k x fs (fs.length : Int) (i : Int)) (chain x (fs.drop i), 0)
 | 0, i, x, _, _, h => by
  refine Evt.last fun k => ?_
  rw [curve_Falls.l0, if_neg (by omega), List.drop_eq_nil_of_le (by omega)]; rfl
 | d + 1, i, x, hx, nx, h => by
  (have hi : i < fs.length := by omega);(obtain ⟨y1, y2⟩ := hp fs[i] (List.getElem_mem _));(rw [List.drop_eq_getElem_cons hi, chain])
  by_cases c : rank fs[i] ≤ rank x
  ·rw [decide_eq_true c, Bool.true_and]
   (refine Evt.next (falls_l0 fs hl hp d (i + 1) fs[i] y1 y2 (by omega)) fun k => ?_);(rw [curve_Falls.l0, if_pos (by omega), if_pos (by omega), if_pos (by omega), rdf_at hi, gt_iff y1 hx y2 nx, decide_eq_false (by omega), if_neg (by decide), wr hi (by omega)])
  ·rw [decide_eq_false c, Bool.false_and]
   (refine Evt.last fun k => ?_);(rw [curve_Falls.l0, if_pos (by omega), if_pos (by omega), if_pos (by omega), rdf_at hi, gt_iff y1 hx y2 nx, decide_eq_true (by omega), if_pos rfl])
theorem falls_is (b kd : Int) (ds : List Int) (fs : List Nat) (hw : ∀ y ∈ fs, y < 18446744073709551616) : Evt (fun k => curve_Falls.f k b kd ds fs) (if chkC b kd ds fs = 0 then (chain 4607182418800017408 fs, 0) else (false, chkC b kd ds fs)) := by
 (unfold curve_Falls.f);(refine Evt.bind (check_is b kd ds fs hw) ?_)
 by_cases c : chkC b kd ds fs = 0
 ·simp only [c, if_true]
  (obtain ⟨h1, h2, h3, h4⟩ := chk_zero.1 c);(obtain ⟨_, _, _, a4⟩ := asc_pw h4);(exact falls_l0 fs (by omega) (fun y hy => ⟨hw y hy, posf_nan (a4 y hy)⟩) fs.length 0 4607182418800017408 (by decide) (by decide) (by omega))
 ·simp only [if_neg c]
  exact Evt.const fun k => rfl
theorem end_is (b kd : Int) (ds : List Int) (fs : List Nat) (hw : ∀ y ∈ fs, y < 18446744073709551616) (hc : chkC b kd ds fs = 0) (p q : Int) (x : Bool) (hx : x = false → (facV b kd ds fs p).2 = 0 ∧ (facV b kd ds fs q).2 = 0 ∧ p ≤ q) : Evt (fun k => tenorlaw11_CurveFalls.j3 k (chain 4607182418800017408 fs) (facV b kd ds fs p).1 (facV b kd ds fs q).1 x b kd ds fs) true := by
 (refine Evt.next (f := fun k => tenorlaw11_CurveFalls.j3 (k + 1) (chain 4607182418800017408 fs) (facV b kd ds fs p).1 (facV b kd ds fs q).1 x b kd ds fs) ?_ fun k => rfl);(refine Evt.const fun k => ?_);(rw [tenorlaw11_CurveFalls.j3, aw]);(cases x);(rotate_left)
 ·rw [if_pos rfl]; rfl
 (rw [if_neg (by decide)]);(obtain ⟨h1, h2, h3⟩ := hx rfl);(obtain ⟨p1, p2⟩ := factor_pos hw h1);(obtain ⟨q1, q2⟩ := factor_pos hw h2);(have np := posf_nan p2);(have nq := posf_nan q2);(have z := (by decide : rank 0 = 0));(rw [gt_iff p1 (by decide) np (by decide), gt_iff q1 (by decide) nq (by decide), z, if_pos (decide_eq_true (posf_rank p2)), if_pos (decide_eq_true (posf_rank q2))]);(obtain ⟨c1, c2, c3, c4⟩ := chk_zero.1 hc)
 by_cases f : chain 4607182418800017408 fs = true
 rotate_left
 ·rw [if_neg f]; rfl
 (rw [if_pos f]);(have T := tab_of hc hw);(have F := chain_falls f);(have e1 : facV b kd ds fs p = atV kd (b :: ds) (4607182418800017408 :: fs) p := by unfold facV; rw [if_pos hc]);(have e2 : facV b kd ds fs q = atV kd (b :: ds) (4607182418800017408 :: fs) q := by unfold facV; rw [if_pos hc]);(have u1 := at_under T c2.1 c2.2 F (e1 ▸ h1));(have u2 := at_under T c2.1 c2.2 F (e2 ▸ h2));(have e0 : rdOf (0 : Nat) (4607182418800017408 :: fs) 0 = 4607182418800017408 := rfl);(rw [e0] at u1 u2);(rw [← e1] at u1);(rw [← e2] at u2);(rw [gt_iff p1 (by decide) np (by decide), gt_iff q1 (by decide) nq (by decide), if_neg (by rw [decide_eq_false (by omega)]; decide), if_neg (by rw [decide_eq_false (by omega)]; decide)])
 by_cases k4 : kd = 4
 ·rw [if_pos k4]; rfl
 (rw [if_neg k4]);(have m := at_falls T c2.1 (by omega) F h3 (e1 ▸ h1) (e2 ▸ h2));(rw [← e1, ← e2] at m);(rw [if_pos (ge_or p1 q1 np nq m)]; rfl)
theorem loop_is (b kd : Int) (ds : List Int) (fs : List Nat) (hw : ∀ y ∈ fs, y < 18446744073709551616) (hc : chkC b kd ds fs = 0) (p q : Int) : ∀ (d i : Nat), i + d = ds.length → Evt (fun k => tenorlaw11_CurveFalls.l0 k p q (chain 4607182418800017408 fs) (i : Int) b kd ds fs) true
 | 0, i, h => by
  (refine Evt.next (f := fun k => tenorlaw11_CurveFalls.l0 (k + 1) p q (chain 4607182418800017408 fs) (i : Int) b kd ds fs) ?_ fun k => rfl);(unfold tenorlaw11_CurveFalls.l0);(refine Evt.ifF (by omega) (Evt.bind (factor_is b kd ds fs hw p) (Evt.bind (factor_is b kd ds fs hw q) ?_)))
  by_cases z1 : (facV b kd ds fs p).2 = 0
  ·refine Evt.ifT z1 ?_
   by_cases z2 : (facV b kd ds fs q).2 = 0
   ·refine Evt.ifT z2 (end_is b kd ds fs hw hc p q _ fun hx => ⟨z1, z2, ?_⟩)
    (have := of_decide_eq_false hx);(omega)
   ·exact Evt.ifF z2 (end_is b kd ds fs hw hc p q true fun hx => by cases hx)
  ·exact Evt.ifF z1 (end_is b kd ds fs hw hc p q true fun hx => by cases hx)
 | d + 1, i, h => by
  (have hi : i < ds.length := by omega);(obtain ⟨c1, c2, c3, c4⟩ := chk_zero.1 hc);(have T := tab_of hc hw);(refine Evt.next (f := fun k => tenorlaw11_CurveFalls.l0 (k + 1) p q (chain 4607182418800017408 fs) (i : Int) b kd ds fs) ?_ fun k => rfl);(unfold tenorlaw11_CurveFalls.l0);(refine Evt.ifT (by omega) (Evt.ifT (by omega) (Evt.bind (factor_is b kd ds fs hw _) ?_)))
  have e : facV b kd ds fs (rd ds (i : Int)) = (rdOf (0 : Nat) fs (i : Int), 0) := by
   (unfold facV);(rw [if_pos hc]);(have g := at_node T c2.1 c2.2 (i := i + 1) (by simp; omega));(have e3 : rd (b :: ds) ((i + 1 : Nat) : Int) = rd ds (i : Int) := by unfold rd; rw [Int.toNat_natCast, Int.toNat_natCast]; rfl);(have e4 : rdOf (0 : Nat) (4607182418800017408 :: fs) ((i + 1 : Nat) : Int) = rdOf (0 : Nat) fs (i : Int) := by unfold rdOf; rw [Int.toNat_natCast, Int.toNat_natCast]; rfl);(rw [e3, e4] at g; exact g)
  (rw [e]);(refine Evt.ifT rfl (Evt.after (bits_at _) (Evt.ifT (by omega) (Evt.after (bits_at _) (Evt.ifT rfl ?_)))));(rw [wr hi (by omega)]);(exact loop_is b kd ds fs hw hc p q d (i + 1) (by omega))
theorem law (b kd : Int) (ds : List Int) (fs : List Nat) (p q : Int) (hw : ∀ y ∈ fs, y < 18446744073709551616) : ∃ k, tenorlaw11_CurveFalls.f k b kd ds fs p q = some true := by
 (refine Evt.get ?_);(unfold tenorlaw11_CurveFalls.f);(refine Evt.bind (falls_is b kd ds fs hw) ?_)
 have out : ∀ (x : Bool), Evt (fun k => tenorlaw11_CurveFalls.j0 k p q x true b kd ds fs) true := fun x => by
  (refine Evt.last fun k => ?_);(rw [tenorlaw11_CurveFalls.j0, if_pos rfl, aw]; rfl)
 by_cases c : chkC b kd ds fs = 0
 rotate_left
 ·simp only [if_neg c]
  exact out false
 (simp only [c, if_true]);(obtain ⟨c1, c2, c3, c4⟩ := chk_zero.1 c);(refine Evt.ifF (by omega) ?_);(have hb : ((ds.length : Int) != (fs.length : Int)) = false := bne_eq_false_iff_eq.2 (by omega));(rw [hb]);(have T := tab_of c hw);(refine Evt.next (f := fun k => tenorlaw11_CurveFalls.j0 (k + 1) p q (chain 4607182418800017408 fs) false b kd ds fs) ?_ fun k => rfl);(unfold tenorlaw11_CurveFalls.j0);(refine Evt.ifF (by decide) (Evt.bind (factor_is b kd ds fs hw b) ?_))
 have e : facV b kd ds fs b = (4607182418800017408, 0) := by
  (unfold facV);(rw [if_pos c]);(exact at_node T c2.1 c2.2 (i := 0) (by simp))
 (rw [e]);(refine Evt.ifT rfl (Evt.after (bits_at _) (Evt.after (bits_at _) ?_)));(refine Evt.next (f := fun k => tenorlaw11_CurveFalls.j1 (k + 1) p q (chain 4607182418800017408 fs) _ b kd ds fs) ?_ fun k => rfl);(unfold tenorlaw11_CurveFalls.j1);(refine Evt.ifF (by simp) ?_);(exact loop_is b kd ds fs hw c p q ds.length 0 (by omega))
end Go.Proofs.YtmdoljecjliehaaGreat.FXb
