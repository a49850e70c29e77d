/- Texts packed into one: Fac Fb Fc Fd Fe Pa. No condition. -/
import Derived.Test.YtmdoljecjliehaaGreatKin
import Derived.Test.YtmdoljecjliehaaGreatFQx1
import Derived.Test.YtmdoljecjliehaaGreatEv
import Derived.Test.YtmdoljecjliehaaGreatFBx1
section
/- curve.Factor plainly: it always tells (no NaN comes up). -/
namespace Go.Proofs.YtmdoljecjliehaaGreat.FP
open Go.RowKit Go.Proofs.YtmdoljecjliehaaGreatW.PrintWords Go.Proofs.YtmdoljecjliehaaGreat.FX Tn

theorem fsub_is {x y r : Nat} (h : Ieee.double.sub x y = some r) : fsubK x y = true ∧ fsubV x y = r := by unfold fsubK fsubV; rw [h]; exact ⟨rfl, rfl⟩
theorem fadd_is {x y r : Nat} (h : Ieee.double.add x y = some r) : faddK x y = true ∧ faddV x y = r := by unfold faddK faddV; rw [h]; exact ⟨rfl, rfl⟩
theorem fmul_is {x y r : Nat} (h : Ieee.double.mul x y = some r) : fmulK x y = true ∧ fmulV x y = r := by unfold fmulK fmulV; rw [h]; exact ⟨rfl, rfl⟩
theorem fdiv_is {x y r : Nat} (h : Ieee.double.div x y = some r) : fdivK x y = true ∧ fdivV x y = r := by unfold fdivK fdivV; rw [h]; exact ⟨rfl, rfl⟩
theorem foi_pos {n : Int} (h1 : 1 ≤ n) (h2 : n ≤ 9223372036854775807) : floatOfInt .f64 n < 18446744073709551616 ∧ fin (floatOfInt .f64 n) = true ∧ mag (floatOfInt .f64 n) ≠ 0 := by
 (have hm := foi_mg (n := n) (by omega));(refine ⟨hm.w, hm.fin (by decide), ?_⟩)
 have e : floatOfInt .f64 n = sgB (decide (n < 0)) + nr n.natAbs 0 := by
  show Ieee.double.nearest (decide (n < 0)) n.natAbs 0 = _
  rw [nearest_nr]; unfold sgB; rfl
 rw [e, (sgB_mag (nr_le _ _)).1]
 have h3 : rung 0 ≤ nr n.natAbs 0 := rung_le_nr (by decide) (by decide) (by decide) (by
  rw [show (0 : Int) + 2148 = 2148 from rfl]
  exact Nat.le_mul_of_pos_left _ (by omega))
 (have h4 : 0 < rung 0 := by unfold rung; decide);(omega)
theorem rise_some (a0 : Int) {l1 : List Int} {l2 : List Nat} {j : Int} (h0 : 0 ≤ j) (h1 : j + 1 < (l1.length : Int)) (h2 : j + 1 < (l2.length : Int)) (hj : j < 1000000)
  (hx : 1 ≤ rd l1 (j + 1) - rd l1 j) (hx2 : rd l1 (j + 1) - rd l1 j ≤ 1000000) (hy : ∀ i : Int, 0 ≤ i → i < (l2.length : Int) → rdOf (0 : Nat) l2 i < 18446744073709551616 ∧ fin (rdOf (0 : Nat) l2 i) = true) :
  ∃ r, interp_rise.f a0 l1 l2 j = some r ∧ Nn r := by
 (have w1 : wrap64 (j + 1) = j + 1 := by unfold wrap64; omega);(have w2 : wrap64 (rd l1 (j + 1) - rd l1 j) = rd l1 (j + 1) - rd l1 j := by unfold wrap64; omega);(obtain ⟨y1, f1⟩ := hy (j + 1) (by omega) h2);(obtain ⟨y0, f0⟩ := hy j h0 (by omega));(obtain ⟨s, hs, ns⟩ := sub_nn y1 y0 f1 f0);(obtain ⟨n1, n2, n3⟩ := foi_pos hx (by omega));(obtain ⟨q, hq, nq⟩ := div_nn ns n1 n2 n3);(obtain ⟨sK, sV'⟩ := fsub_is hs);(obtain ⟨qK, qV⟩ := fdiv_is hq);(refine ⟨q, ?_, nq⟩);(unfold interp_rise.f);(rw [w1, w2, sV', qV, if_pos (by omega), if_pos h2, if_pos h0, if_pos (by omega), if_pos sK, if_pos h1, if_pos (by omega), if_pos qK])
theorem horner_l0 (cs : List Nat) (x : Nat) (hx : Mg x 15) (hl : cs.length ≤ 60) (hc : ∀ i : Int, 0 ≤ i → i < (cs.length : Int) → Mg (rdOf (0 : Nat) cs i) 0) (k : Nat) :
  ∀ (m : Nat) (p : Nat) (b : Int), m ≤ cs.length → 0 ≤ b → b + 16 * (m : Int) ≤ 1000 → Mg p b → ∃ r, fn_Horner.l0 (m + 1 + k) cs x p ((m : Int) - 1) = some r ∧ Mg r (b + 16 * (m : Int))
 | 0, p, b, _, _, _, hp => by
  refine ⟨p, ?_, by simpa using hp⟩
  rw [show 0 + 1 + k = k + 1 by omega, fn_Horner.l0, if_neg (by omega)]
 | m + 1, p, b, hm, hb, hbb, hp => by
  (obtain ⟨q, hq, mq⟩ := mg_mul hp hx (by omega) (by omega) (by decide) (by decide) (by omega) (by omega));(obtain ⟨s, hs, ms⟩ := mg_add mq (hc (m : Int) (by omega) (by omega)) (by omega) (by decide) (c := b + 16) (by omega) (by omega));(obtain ⟨qK, qV⟩ := fmul_is hq);(obtain ⟨sK, sV'⟩ := fadd_is hs);(obtain ⟨r, hr, mr⟩ := horner_l0 cs x hx hl hc k m s (b + 16) (by omega) (by omega) (by omega) ms);(refine ⟨r, ?_, by rw [show b + 16 * ((m + 1 : Nat) : Int) = b + 16 + 16 * (m : Int) by omega]; exact mr⟩);(have w1 : wrap64 ((m : Int) - 1) = (m : Int) - 1 := by unfold wrap64; omega);(rw [show m + 1 + 1 + k = (m + 1 + k) + 1 by omega, fn_Horner.l0, show (((m + 1 : Nat) : Int) - 1) = (m : Int) by omega, if_pos (by omega), if_pos qK, if_pos (by omega), if_pos (by omega), qV, if_pos sK, sV', w1]);(exact hr)
theorem horner_some (cs : List Nat) (x : Nat) (hx : Mg x 15) (h0 : 1 ≤ cs.length) (hl : cs.length ≤ 60) (hc : ∀ i : Int, 0 ≤ i → i < (cs.length : Int) → Mg (rdOf (0 : Nat) cs i) 0) (k : Nat) :
  ∃ r, fn_Horner.f (cs.length + k) cs x = some r ∧ Mg r 1000 := by
 (obtain ⟨r, hr, mr⟩ := horner_l0 cs x hx hl hc k (cs.length - 1) (rdOf (0 : Nat) cs ((cs.length : Int) - 1)) 0 (by omega) (by decide) (by omega) (hc _ (by omega) (by omega)));(refine ⟨r, ?_, mr.up (by omega)⟩);(have w1 : wrap64 ((cs.length : Int) - 1) = (cs.length : Int) - 1 := by unfold wrap64; omega);(have w2 : wrap64 ((cs.length : Int) - 2) = (cs.length : Int) - 2 := by unfold wrap64; omega);(unfold fn_Horner.f);(rw [if_neg (by omega), w1, if_pos (by omega), if_pos (by omega), w2]);(rw [show cs.length - 1 + 1 + k = cs.length + k by omega, show (((cs.length - 1 : Nat) : Int) - 1) = (cs.length : Int) - 2 by omega] at hr);(exact hr)
def expC : List Nat := [4607182418800017408, 4607182418800017408, 4602678819172646912, 4595172819793696085, 4586165620538955093, 4575957461383581969, 4564047942368979991, 4551452160554016794, 4537941361671905306, 4523617214285662004, 4508805057796939612, 4493156764026750180, 4477122120089393304, 4460272573143870729]
theorem exp_coefs (k x3 x4 : Nat) : fn_Exp.l0 (k + 13) x3 x4 [4607182418800017408, 4607182418800017408] 4607182418800017408 0 = fn_Exp.l0 (k + 1) x3 x4 expC 4753323511810883584 12 := by kernel_rfl
theorem expC_at : ∀ i : Int, 0 ≤ i → i < (expC.length : Int) → Mg (rdOf (0 : Nat) expC i) 0 := by
 (intro i h0 h1);(have hl : expC.length = 14 := rfl);(have h : ∀ j : Fin 14, rdOf (0 : Nat) expC ((j.val : Nat) : Int) < 18446744073709551616 ∧ mag (rdOf (0 : Nat) expC ((j.val : Nat) : Int)) ≤ rung 0 := by decide +kernel);(have h2 := h ⟨i.toNat, by omega⟩);(rw [show (((⟨i.toNat, by omega⟩ : Fin 14).val : Nat) : Int) = i by show ((i.toNat : Nat) : Int) = i; omega] at h2);(exact ⟨h2.1, h2.2⟩)
theorem exp_mid {x : Nat} (hx : Mg x 10) : ∃ y z kf u v s r : Nat, Ieee.double.mul x 4609176140021203710 = some y ∧ Ieee.double.add y 4602678819172646912 = some z ∧ math_Floor.f z = some kf ∧ Ieee.double.mul kf 4604418534311723008 = some u ∧ Ieee.double.sub x u = some s ∧ Ieee.double.mul kf 4461442080421002358 = some v ∧ Ieee.double.sub s v = some r ∧ Mg kf 13 ∧ Mg r 15 := by
 (have m1 : Mg 4609176140021203710 1 := ⟨by decide, by decide⟩);(have m2 : Mg 4602678819172646912 0 := ⟨by decide, by decide⟩);(have m3 : Mg 4604418534311723008 0 := ⟨by decide, by decide⟩);(have m4 : Mg 4461442080421002358 0 := ⟨by decide, by decide⟩);(obtain ⟨y, hy, my⟩ := mg_mul hx m1 (by decide) (by decide) (by decide) (by decide) (by decide) (by decide));(obtain ⟨z, hz, mz⟩ := mg_add my m2 (by decide) (by decide) (c := 12) (by decide) (by decide));(have mk := flr_mg mz (by decide) (by decide));(obtain ⟨u, hu, mu⟩ := mg_mul mk m3 (by decide) (by decide) (by decide) (by decide) (by decide) (by decide));(obtain ⟨s, hs, ms⟩ := mg_sub hx mu (by decide) (by decide) (c := 14) (by decide) (by decide));(obtain ⟨v, hv, mv⟩ := mg_mul mk m4 (by decide) (by decide) (by decide) (by decide) (by decide) (by decide));(obtain ⟨r, hr, mr⟩ := mg_sub ms mv (by decide) (by decide) (c := 15) (by decide) (by decide));(exact ⟨y, z, flr z, u, v, s, r, hy, hz, by unfold math_Floor.f; rw [if_pos ⟨mz.w, mz.fin (by decide)⟩], hu, hs, hv, hr, mk, mr⟩)
theorem cut_zero (s : Bool) (n drop : Nat) : Ieee.Toward.zero.cut s n drop ≤ n / 2 ^ min drop (n.log2 + 2) + 1 := by
 (unfold Ieee.Toward.cut);(simp only [Nat.one_shiftLeft]);(generalize n / 2 ^ min drop (n.log2 + 2) = q);(simp)
theorem ftoi_some {x : Nat} (h : Mg x 13) : ftoiK x = true := by
 (have hc := cut_zero (sgn x) (dm (mag x) <<< (dp (mag x)).toNat) (-dp (mag x)).toNat);(have hb : Ieee.Toward.zero.cut (sgn x) (dm (mag x) <<< (dp (mag x)).toNat) (-dp (mag x)).toNat ≤ 2 ^ 13 + 1 := Nat.le_trans hc (flr_div h (by decide) (by decide)));(unfold ftoiK floatToIntVal)
 have e : (FloatKind.f64.decode x).toInt .zero = some (Ieee.signed (sgn x) (Ieee.Toward.zero.cut (sgn x) (dm (mag x) <<< (dp (mag x)).toNat) (-dp (mag x)).toNat) 0) := by
  (have hr : FloatKind.f64.decode x = _ := read_fin h.w (h.fin (by decide)));(rw [hr]; rfl)
 (rw [e]);(generalize Ieee.Toward.zero.cut (sgn x) (dm (mag x) <<< (dp (mag x)).toNat) (-dp (mag x)).toNat = n at *)
 have hs : -8200 ≤ Ieee.signed (sgn x) n 0 ∧ Ieee.signed (sgn x) n 0 ≤ 8200 := by
  (unfold Ieee.signed);(rw [Nat.shiftLeft_zero])
  split <;> omega
 show (if _ then _ else _ : Option Int).isSome = true
 (rw [if_pos ⟨by have : IntKind.i64.min = -9223372036854775808 := rfl; omega, by have : IntKind.i64.max = 9223372036854775807 := rfl; omega⟩]);(rfl)
theorem scaled_some {p : Nat} (hp : p < 18446744073709551616) (n : Int) : ∃ r, fn_scaled.f p n = some r ∧ Nn r := by
 (obtain ⟨h1, h2⟩ := spm_bd p);(refine ⟨jn (spm p) (wrap64 (spe p + n)), ?_, ?_⟩)
 ·unfold fn_scaled.f ieee_Split.f
  rw [if_pos hp]
  show (ieee_Join.f (spm p) (wrap64 (spe p + n))).bind _ = _
  (unfold ieee_Join.f);(rw [if_pos (by omega)]; rfl)
 ·have e : jn (spm p) (wrap64 (spe p + n)) = sgB (decide (spm p < 0)) + nr (spm p).natAbs (wrap64 (spe p + n)) := by
   unfold jn sgB
   by_cases c : spm p < 0
   ·rw [if_pos c, decide_eq_true c, if_pos rfl]
   ·rw [if_neg c, decide_eq_false c, if_neg (by decide)]
  rw [e]; exact nn_sg _ (nr_le _ _)
theorem exp_some (k : Nat) {x : Nat} (hx : Nn x) : ∃ r, fn_Exp.f (14 + k + 13) x = some r ∧ Nn r := by
 unfold fn_Exp.f
 by_cases c1 : (FloatKind.f64.format.order x x != some .eq) = true
 ·exact ⟨x, if_pos c1, hx⟩
 rw [if_neg c1]
 by_cases c2 : (FloatKind.f64.format.order x (4649456441864749056 : Nat) == some .gt || FloatKind.f64.format.order x (4649456441864749056 : Nat) == some .eq) = true
 ·exact ⟨9218868437227405312, by rw [if_pos c2]; rfl, ⟨by decide, by decide⟩⟩
 rw [if_neg c2]
 by_cases c3 : (FloatKind.f64.format.order x (13873145138068324352 : Nat) == some .lt || FloatKind.f64.format.order x (13873145138068324352 : Nat) == some .eq) = true
 ·exact ⟨0, if_pos c3, ⟨by decide, by decide⟩⟩
 rw [if_neg c3]
 have hm : Mg x 10 := by
  (refine ⟨hx.w, ?_⟩);(rw [Bool.or_eq_true, not_or] at c2 c3);(have g1 := c2.1);(have g2 := c3.1);(rw [ord_gt hx.w (by decide) hx.k (by decide), decide_eq_true_iff] at g1);(rw [ord_lt hx.w (by decide) hx.k (by decide), decide_eq_true_iff] at g2);(rw [show rank 4649456441864749056 = 4649456441864749056 by decide] at g1);(rw [show rank 13873145138068324352 = -4649773101213548544 by decide] at g2);(have r1 := rank_val hx.k);(have h10 : rung 10 = 4652218415073722368 := by decide);(rw [h10])
  split at r1 <;> omega
 (obtain ⟨y, z, kf, u, v, s, r, hy, hz, hk, hu, hs, hv, hr, mk, mr⟩ := exp_mid hm);(obtain ⟨yK, yV⟩ := fmul_is hy);(obtain ⟨zK, zV⟩ := fadd_is hz);(obtain ⟨uK, uV⟩ := fmul_is hu);(obtain ⟨sK, sV'⟩ := fsub_is hs);(obtain ⟨vK, vV⟩ := fmul_is hv);(obtain ⟨rK, rV⟩ := fsub_is hr);(obtain ⟨p, hp, mp⟩ := horner_some expC r mr (by decide) (by decide) expC_at k);(obtain ⟨q, hq, nq⟩ := scaled_some mp.w (ftoiV kf));(refine ⟨q, ?_, nq⟩);(rw [if_pos yK, yV, if_pos zK, zV, hk])
 show (if fmulK kf 4604418534311723008 = true then _ else none) = some q
 (rw [if_pos uK, uV, if_pos sK, sV', if_pos vK, vV, if_pos rK, rV, exp_coefs (14 + k) kf r, fn_Exp.l0, if_neg (by decide)]);(rw [show expC.length + k = 14 + k from rfl] at hp);(rw [hp])
 show (if ftoiK kf = true then _ else none) = some q
 rw [if_pos (ftoi_some mk), hq]; rfl
theorem overV_nn (Z : Int) (n : Nat) : Nn (overV Z false false n) := by
 (unfold overV);(rw [if_neg (by decide), if_neg (by decide), if_neg (by decide)])
 have e : (if Z < 0 then 9223372036854775808 else 0) + nearU (Z.natAbs / n) (decide (Z.natAbs % n ≠ 0)) = sgB (decide (Z < 0)) + nearU (Z.natAbs / n) (decide (Z.natAbs % n ≠ 0)) := by
  unfold sgB
  by_cases c : Z < 0
  ·rw [if_pos c, decide_eq_true c, if_pos rfl]
  ·rw [if_neg c, decide_eq_false c, if_neg (by decide)]
 (rw [e]);(exact nn_sg _ (nr_le _ _))
theorem over_some {n : Int} {ws : List Int} {ys : List Nat} (h : goodW n ws ys = true) : ∃ r, interp_over.f n ws ys = some r ∧ Nn r := by
 refine ⟨_, by unfold interp_over.f; rw [if_pos h], overV_nn _ _⟩
theorem harm_some {a b : Nat} (ha : Nn a) (hb : Nn b) (hs : sgn a = sgn b) : ∃ u v s r : Nat, Ieee.double.div 4607182418800017408 a = some u ∧ Ieee.double.div 4607182418800017408 b = some v ∧ Ieee.double.add u v = some s ∧ Ieee.double.div 4611686018427387904 s = some r ∧ Nn r := by
 (obtain ⟨u, hu, nu, su⟩ := div_by (x := 4607182418800017408) (by decide) (by decide) (by decide) ha);(obtain ⟨v, hv, nv, sv⟩ := div_by (x := 4607182418800017408) (by decide) (by decide) (by decide) hb);(obtain ⟨s, h1, ns⟩ := add_sg nu nv (by rw [su, sv, hs]));(obtain ⟨r, h2, nr', _⟩ := div_by (x := 4611686018427387904) (by decide) (by decide) (by decide) ns);(exact ⟨u, v, s, r, hu, hv, h1, h2, nr'⟩)
theorem gt_zero {a : Nat} (ha : Nn a) (h : (FloatKind.f64.format.order a (0 : Nat) == some .gt) = true) : sgn a = false := by
 (rw [ord_gt ha.w (by decide) ha.k (by decide), decide_eq_true_iff] at h);(have r1 := rank_val ha.k);(rw [show rank 0 = 0 by decide] at h)
 split at r1
 ·omega
 ·rename_i hn; simpa using hn
theorem lt_zero {a : Nat} (ha : Nn a) (h : (FloatKind.f64.format.order a (0 : Nat) == some .lt) = true) : sgn a = true := by
 (rw [ord_lt ha.w (by decide) ha.k (by decide), decide_eq_true_iff] at h);(have r1 := rank_val ha.k);(rw [show rank 0 = 0 by decide] at h)
 split at r1
 ·rename_i hn; exact hn
 ·omega
theorem slopes_l0 (a0 : Int) (l1 : List Int) (l2 : List Nat) (hl2 : l1.length = l2.length) (hn : l1.length ≤ 1000) (hx : ∀ j : Int, 0 ≤ j → j + 1 < (l1.length : Int) → 1 ≤ rd l1 (j + 1) - rd l1 j ∧ rd l1 (j + 1) - rd l1 j ≤ 1000000)
  (hy : ∀ i : Int, 0 ≤ i → i < (l2.length : Int) → rdOf (0 : Nat) l2 i < 18446744073709551616 ∧ fin (rdOf (0 : Nat) l2 i) = true) (k : Nat) :
  ∀ (m : Nat) (x4 : List Nat), m + 2 ≤ l1.length → x4.length = l1.length → (∀ z ∈ x4, Nn z) → ∃ r, interp_slopes.l0 (m + 1 + k) x4 ((l1.length : Int) - 2) ((l1.length : Int) - 2 - (m : Int)) a0 l1 l2 = some r ∧ r.length = l1.length ∧ ∀ z ∈ r, Nn z
 | 0, x4, hm, hlen, hall => by
  refine ⟨x4, ?_, hlen, hall⟩
  rw [show 0 + 1 + k = k + 1 by omega, interp_slopes.l0, if_neg (by omega)]
 | m + 1, x4, hm, hlen, hall => by
  (have ih := fun y hy1 hy2 => slopes_l0 a0 l1 l2 hl2 hn hx hy k m y (by omega) hy1 hy2);(rw [show m + 1 + 1 + k = (m + 1 + k) + 1 by omega, interp_slopes.l0, if_pos (by omega)]);(obtain ⟨t, ht, nt⟩ := rise_some a0 (l1 := l1) (l2 := l2) (j := (l1.length : Int) - 2 - ((m + 1 : Nat) : Int)) (by omega) (by omega) (by omega) (by omega) (hx _ (by omega) (by omega)).1 (hx _ (by omega) (by omega)).2 hy);(have w1 : wrap64 ((l1.length : Int) - 2 - ((m + 1 : Nat) : Int) + 1) = (l1.length : Int) - 2 - (m : Int) := by unfold wrap64; omega);(obtain ⟨t', ht', nt'⟩ := rise_some a0 (l1 := l1) (l2 := l2) (j := (l1.length : Int) - 2 - (m : Int)) (by omega) (by omega) (by omega) (by omega) (hx _ (by omega) (by omega)).1 (hx _ (by omega) (by omega)).2 hy);(rw [w1, ht, ht', Option.bind_some, Option.bind_some])
  by_cases c1 : (FloatKind.f64.format.order t (0 : Nat) == some .gt) = true
  ·rw [if_pos c1]
   by_cases c2 : (FloatKind.f64.format.order t' (0 : Nat) == some .gt) = true
   ·obtain ⟨u, v, s, r, hu, hv, h1, h2, nr'⟩ := harm_some nt nt' (by rw [gt_zero nt c1, gt_zero nt' c2])
    (obtain ⟨uK, uV⟩ := fdiv_is hu);(obtain ⟨vK, vV⟩ := fdiv_is hv);(obtain ⟨sK, sV'⟩ := fadd_is h1);(obtain ⟨rK, rV⟩ := fdiv_is h2);(rw [if_pos c2, if_pos uK, uV, if_pos vK, vV, if_pos sK, sV', if_pos rK, rV, if_pos (by omega), if_pos (by omega)]);(exact ih _ (by rw [List.length_set]; exact hlen) (fun z hz => by rcases List.mem_or_eq_of_mem_set hz with hz | hz; exact hall z hz; rw [hz]; exact nr'))
   ·rw [if_neg c2]
    by_cases c3 : (FloatKind.f64.format.order t (0 : Nat) == some .lt) = true
    ·exact absurd ((gt_zero nt c1).symm.trans (lt_zero nt c3)) (by decide)
    ·rw [if_neg c3]; exact ih x4 hlen hall
  (rw [if_neg c1]);(clear c1)
  by_cases c1 : (FloatKind.f64.format.order t (0 : Nat) == some .lt) = true
  ·rw [if_pos c1]
   by_cases c2 : (FloatKind.f64.format.order t' (0 : Nat) == some .lt) = true
   ·obtain ⟨u, v, s, r, hu, hv, h1, h2, nr'⟩ := harm_some nt nt' (by rw [lt_zero nt c1, lt_zero nt' c2])
    (obtain ⟨uK, uV⟩ := fdiv_is hu);(obtain ⟨vK, vV⟩ := fdiv_is hv);(obtain ⟨sK, sV'⟩ := fadd_is h1);(obtain ⟨rK, rV⟩ := fdiv_is h2);(rw [if_pos c2, if_pos uK, uV, if_pos vK, vV, if_pos sK, sV', if_pos rK, rV, if_pos (by omega), if_pos (by omega)]);(exact ih _ (by rw [List.length_set]; exact hlen) (fun z hz => by rcases List.mem_or_eq_of_mem_set hz with hz | hz; exact hall z hz; rw [hz]; exact nr'))
   ·rw [if_neg c2]; exact ih x4 hlen hall
  ·rw [if_neg c1]; exact ih x4 hlen hall
theorem slopes_some (a0 : Int) (l1 : List Int) (l2 : List Nat) (h1 : 2 ≤ l1.length) (hl2 : l1.length = l2.length) (hn : l1.length ≤ 1000) (hx : ∀ j : Int, 0 ≤ j → j + 1 < (l1.length : Int) → 1 ≤ rd l1 (j + 1) - rd l1 j ∧ rd l1 (j + 1) - rd l1 j ≤ 1000000)
  (hy : ∀ i : Int, 0 ≤ i → i < (l2.length : Int) → rdOf (0 : Nat) l2 i < 18446744073709551616 ∧ fin (rdOf (0 : Nat) l2 i) = true) (k : Nat) :
  ∃ r, interp_slopes.f (l1.length - 1 + k) a0 l1 l2 = some r ∧ r.length = l1.length ∧ ∀ z ∈ r, Nn z := by
 (obtain ⟨t, ht, nt⟩ := rise_some a0 (l1 := l1) (l2 := l2) (j := 0) (by omega) (by omega) (by omega) (by omega) (hx _ (by omega) (by omega)).1 (hx _ (by omega) (by omega)).2 hy);(obtain ⟨t', ht', nt'⟩ := rise_some a0 (l1 := l1) (l2 := l2) (j := (l1.length : Int) - 2) (by omega) (by omega) (by omega) (by omega) (hx _ (by omega) (by omega)).1 (hx _ (by omega) (by omega)).2 hy);(have w1 : wrap64 ((l1.length : Int) - 2) = (l1.length : Int) - 2 := by unfold wrap64; omega);(have w2 : wrap64 ((l1.length : Int) - 1) = (l1.length : Int) - 1 := by unfold wrap64; omega);(unfold interp_slopes.f);(rw [if_pos (by omega), if_pos (by omega), Option.bind_some, if_neg (by omega), ht, Option.bind_some, w1, ht', Option.bind_some, w2]);(rw [List.length_replicate, if_pos (by omega), if_pos (by omega), if_pos (by omega)])
 have h := slopes_l0 a0 l1 l2 hl2 hn hx hy k (l1.length - 2) (((List.replicate ((l1.length : Int) : Int).toNat (0 : Nat)).set (0 : Int).toNat t).set (((l1.length : Int) - 1) : Int).toNat t') (by omega) (by simp) (fun z hz => by
  rcases List.mem_or_eq_of_mem_set hz with hz | hz
  ·rcases List.mem_or_eq_of_mem_set hz with hz | hz
   ·rw [(List.mem_replicate.1 hz).2]; exact ⟨by decide, by decide⟩
   ·rw [hz]; exact nt
  ·rw [hz]; exact nt')
 (rw [show (l1.length : Int) - 2 - ((l1.length - 2 : Nat) : Int) = 0 by omega, show l1.length - 2 + 1 + k = l1.length - 1 + k by omega] at h);(exact h)
theorem rdOf_nn {l : List Nat} (h : ∀ z ∈ l, Nn z) {i : Int} (h0 : 0 ≤ i) (h1 : i < (l.length : Int)) : Nn (rdOf (0 : Nat) l i) := by
 (obtain ⟨n, rfl⟩ := Int.eq_ofNat_of_zero_le h0);(have hn : n < l.length := by omega);(rw [rdfo_at hn]);(exact h _ (List.getElem_mem hn))
theorem goodW_of {n : Int} {ws : List Int} {ys : List Nat} (h1 : 1 ≤ n) (h2 : n < 9223372036854775808) (h3 : ws.length = ys.length) (h4 : ws.length ≤ 1048576) (hw : ∀ a ∈ ws, a.natAbs ≤ 9223372036854775808) (hy : ∀ y ∈ ys, y < 18446744073709551616 ∧ fin y = true) : goodW n ws ys = true := by
 (unfold goodW);(rw [Bool.and_eq_true, Bool.and_eq_true, Bool.and_eq_true, List.all_eq_true, List.all_eq_true]);(refine ⟨⟨⟨decide_eq_true ⟨h1, h2⟩, decide_eq_true ⟨h4, h3⟩⟩, fun a ha => decide_eq_true (hw a ha)⟩, fun y hyy => ?_⟩);(rw [Bool.and_eq_true, decide_eq_true_iff]);(exact hy y hyy)
theorem wrap_abs (z : Int) : (wrap64 z).natAbs ≤ 9223372036854775808 := by unfold wrap64; omega
theorem cube_ok {n : Int} (h1 : 1 ≤ n) (h2 : n ≤ 1000000) : wrap64 (wrap64 (n * n) * n) = n * n * n ∧ 1 ≤ n * n * n ∧ n * n * n < 9223372036854775808 := by
 (have a1 : n * n ≤ 1000000 * 1000000 := Int.mul_le_mul h2 h2 (by omega) (by decide));(have a0 : 1 ≤ n * n := by have := Int.mul_le_mul h1 h1 (by decide) (by omega : (0 : Int) ≤ n); omega);(generalize hs : n * n = s at *);(have e1 : wrap64 s = s := by unfold wrap64; omega);(have b1 : s * n ≤ 1000000 * 1000000 * 1000000 := Int.mul_le_mul a1 h2 (by omega) (by decide));(have b0 : 1 ≤ s * n := by have := Int.mul_le_mul a0 h1 (by decide) (by omega : (0 : Int) ≤ s); omega);(rw [e1]);(generalize s * n = c at *);(refine ⟨by unfold wrap64; omega, b0, by omega⟩)
end Go.Proofs.YtmdoljecjliehaaGreat.FP
end

section
/- The natural logarithm always tells (no NaN comes up); what lies between nodes always tells. -/
namespace Go.Proofs.YtmdoljecjliehaaGreat.FP
open Go.RowKit Go.Proofs.YtmdoljecjliehaaGreatW.PrintWords Go.Proofs.YtmdoljecjliehaaGreat.FX Tn
def lnC : List Nat := [4607182418800017408, 4599676419421066581, 4596373779694328218, 4594314991293244562, 4592670820000712476, 4591215111030249286, 4590207312512236308, 4589468260265693457, 4588638185040256542, 4587745830934523688, 4587023449039406616]
theorem ln_coefs (k : Nat) (x7 : Int) (x8 x9 : Nat) : fn_Ln.l1 (k + 12) x7 x8 x9 [] 0 = fn_Ln.l1 (k + 1) x7 x8 x9 lnC 11 := by kernel_rfl
theorem lnC_at : ∀ i : Int, 0 ≤ i → i < (lnC.length : Int) → Mg (rdOf (0 : Nat) lnC i) 0 := by
 (intro i h0 h1);(have hl : lnC.length = 11 := rfl);(have h : ∀ j : Fin 11, rdOf (0 : Nat) lnC ((j.val : Nat) : Int) < 18446744073709551616 ∧ mag (rdOf (0 : Nat) lnC ((j.val : Nat) : Int)) ≤ rung 0 := by decide +kernel);(have h2 := h ⟨i.toNat, by omega⟩);(rw [show (((⟨i.toNat, by omega⟩ : Fin 11).val : Nat) : Int) = i by show ((i.toNat : Nat) : Int) = i; omega] at h2);(exact ⟨h2.1, h2.2⟩)
theorem ln_l0 (k : Nat) : ∀ (m : Nat) (x e : Int), 1 ≤ x → x < 9007199254740992 → 4503599627370496 ≤ x * 2 ^ m → ∃ (u e' : Int) (j : Nat), 4503599627370496 ≤ u ∧ u < 9007199254740992 ∧ fn_Ln.l0 (k + m + 1) x e = fn_Ln.l0 (k + j + 1) u e'
 | 0, x, e, h0, h1, h2 => ⟨x, e, 0, by rw [Int.pow_zero] at h2; omega, h1, rfl⟩
 | m + 1, x, e, h0, h1, h2 => by
  by_cases c : x < 4503599627370496
  ·have w : wrap64 (x * 2) = x * 2 := by unfold wrap64; omega
   (obtain ⟨u, e', j, a, b, h⟩ := ln_l0 k m (x * 2) (wrap64 (e - 1)) (by omega) (by omega) (by rw [Int.pow_succ', ← Int.mul_assoc] at h2; exact h2));(refine ⟨u, e', j, a, b, ?_⟩);(rw [← h, show k + (m + 1) + 1 = (k + m + 1) + 1 by omega, fn_Ln.l0, if_pos c, w])
  ·exact ⟨x, e, m + 1, by omega, h1, rfl⟩
theorem jn_one {u : Int} (h1 : 4503599627370496 ≤ u) (h2 : u < 9007199254740992) : Mg (jn u (-52)) 1 ∧ sgn (jn u (-52)) = false ∧ mag (jn u (-52)) ≠ 0 := by
 have e : jn u (-52) = sgB (decide (u < 0)) + nr u.natAbs (-52) := by
  (unfold jn sgB);(rw [decide_eq_false (by omega), if_neg (by omega), if_neg (by decide)])
 have h3 : nr u.natAbs (-52) ≤ rung 1 := nr_le_rung (by decide) (by decide) (by decide) (by
  (have : u.natAbs ≤ 2 ^ 53 := by omega);(refine Nat.le_trans (Nat.mul_le_mul_right _ this) (Nat.le_of_eq ?_))
  rw [← Nat.pow_add]; congr 1)
 have h4 : rung 0 ≤ nr u.natAbs (-52) := rung_le_nr (by decide) (by decide) (by decide) (by
  (have : 2 ^ 52 ≤ u.natAbs := by omega);(refine Nat.le_trans (Nat.le_of_eq ?_) (Nat.mul_le_mul_right _ this))
  rw [← Nat.pow_add]; congr 1)
 (have h5 : 0 < rung 0 := by unfold rung; decide);(rw [e]);(refine ⟨Mg.of h3 (by decide), ?_, ?_⟩)
 ·rw [(sgB_mag (nr_le _ _)).2.2]; exact decide_eq_false (by omega)
 ·rw [(sgB_mag (nr_le _ _)).1]; omega
theorem add_one {x : Nat} (hx : Mg x 1) (hs : sgn x = false) : ∃ r, Ieee.double.add x 4607182418800017408 = some r ∧ Mg r 2 ∧ rung 0 ≤ mag r := by
 (have m1 : Mg 4607182418800017408 0 := ⟨by decide, by decide⟩);(obtain ⟨r, hr, mr⟩ := mg_add hx m1 (by decide) (by decide) (c := 2) (by decide) (by decide));(refine ⟨r, hr, mr, ?_⟩);(rw [add_fin' hx.w (by decide) (hx.fin (by decide)) (by decide)] at hr);(rw [← Option.some.inj hr]);(unfold addN);(rw [(sgB_mag (nr_le _ _)).1]);(have hv : (0 : Int) ≤ sV x := by unfold sV; rw [if_neg (by rw [hs]; decide)]; omega)
 have h1 : V (mag 4607182418800017408) = 2 ^ ((0 : Int) + 1074).toNat := by
  (have := V_rung (a := 0) (by decide) (by decide));(rw [← this]; rfl)
 have e1 : sV 4607182418800017408 = ((2 ^ ((0 : Int) + 1074).toNat : Nat) : Int) := by
  rw [← h1]; rfl
 apply rung_le_nr (by decide) (by decide) (by decide)
 (have h2 : 2 ^ ((0 : Int) + 1074).toNat ≤ (sV x + sV 4607182418800017408).natAbs := by rw [e1]; omega);(refine Nat.le_trans (Nat.le_of_eq ?_) (Nat.mul_le_mul_right _ h2));(rw [← Nat.pow_add]; congr 1)
theorem ln_j2 (k : Nat) {x : Nat} (n : Int) (hn : n.natAbs ≤ 9223372036854775808) (hx : Mg x 1) (hs : sgn x = false) : ∃ r, fn_Ln.j2 (k + 11 + 12 + 1) x n = some r ∧ Mg r 1006 := by
 (have m1 : Mg 4607182418800017408 0 := ⟨by decide, by decide⟩);(have m2 : Mg 4611686018427387904 1 := ⟨by decide, by decide⟩);(have m3 : Mg 4604418534311723008 0 := ⟨by decide, by decide⟩);(have m4 : Mg 4461442080421002358 0 := ⟨by decide, by decide⟩);(obtain ⟨a, ha, ma⟩ := mg_sub hx m1 (by decide) (by decide) (c := 2) (by decide) (by decide));(obtain ⟨b, hb, mb, ob⟩ := add_one hx hs);(obtain ⟨s, h1, ms⟩ := mg_div ma mb.w (mb.fin (by decide)) ob (by decide) (by decide) (by decide) (by decide) (by decide) (by decide));(obtain ⟨z, hz, mz⟩ := mg_mul ms ms (by decide) (by decide) (by decide) (by decide) (by decide) (by decide));(obtain ⟨p, hp, mp⟩ := horner_some lnC z (mz.up (by decide)) (by decide) (by decide) lnC_at k);(obtain ⟨t, ht, mt⟩ := mg_mul m2 ms (by decide) (by decide) (by decide) (by decide) (by decide) (by decide));(obtain ⟨v, hv, mv⟩ := mg_mul mt mp (by decide) (by decide) (by decide) (by decide) (by decide) (by decide));(have mn := foi_mg hn);(obtain ⟨c, hc, mc⟩ := mg_mul mn m3 (by decide) (by decide) (by decide) (by decide) (by decide) (by decide));(obtain ⟨d, hd, md⟩ := mg_mul mn m4 (by decide) (by decide) (by decide) (by decide) (by decide) (by decide));(obtain ⟨e, he, me⟩ := mg_add mv md (by decide) (by decide) (c := 1005) (by decide) (by decide));(obtain ⟨r, hr, mr⟩ := mg_add mc me (by decide) (by decide) (c := 1006) (by decide) (by decide));(obtain ⟨aK, aV⟩ := fsub_is ha);(obtain ⟨bK, bV⟩ := fadd_is hb);(obtain ⟨sK, sV'⟩ := fdiv_is h1);(obtain ⟨zK, zV⟩ := fmul_is hz);(obtain ⟨tK, tV⟩ := fmul_is ht);(obtain ⟨vK, vV⟩ := fmul_is hv);(obtain ⟨cK, cV⟩ := fmul_is hc);(obtain ⟨dK, dV⟩ := fmul_is hd);(obtain ⟨eK, eV⟩ := fadd_is he);(obtain ⟨rK, rV⟩ := fadd_is hr);(refine ⟨r, ?_, mr⟩);(rw [fn_Ln.j2, if_pos aK, if_pos bK, aV, bV, if_pos sK, sV', if_pos zK, zV, ln_coefs, fn_Ln.l1, if_neg (by decide), if_pos tK, tV]);(rw [show lnC.length + k = k + 11 by rw [show lnC.length = 11 from rfl]; omega] at hp);(rw [hp, Option.bind_some, if_pos vK, vV, if_pos cK, if_pos dK, cV, dV, if_pos eK, eV, if_pos rK, rV])
theorem ln_some {x : Nat} (hx : x < 18446744073709551616) (fx : fin x = true) (h0 : sgn x = false) (hm : mag x ≠ 0) : ∃ k r, fn_Ln.f k x = some r ∧ r < 18446744073709551616 ∧ fin r = true := by
 have hu := spm_bd x
 have hpos : 1 ≤ spm x ∧ spm x < 9007199254740992 := by
  (have : spm x = (dm (mag x) : Int) := by unfold spm; rw [if_pos fx, if_neg (by rw [h0]; decide)]);(have := dm_ne hm);(omega)
 (obtain ⟨u, e', j, u1, u2, hl⟩ := ln_l0 (11 + 12 + 1) 52 (spm x) (spe x) hpos.1 hpos.2 (by omega));(obtain ⟨jm, js, jz⟩ := jn_one u1 u2)
 obtain ⟨r, hr, mr⟩ : ∃ r, fn_Ln.l0 (11 + 12 + 1 + j + 1) u e' = some r ∧ Mg r 1006 := by
  (rw [fn_Ln.l0, if_neg (by omega)]);(have hj : ieee_Join.f u (-52) = some (jn u (-52)) := by unfold ieee_Join.f; rw [if_pos (by omega)]);(rw [hj, Option.bind_some]);(have wb : ∀ z : Int, (wrap64 z).natAbs ≤ 9223372036854775808 := fun z => wrap_abs z)
  by_cases c : (FloatKind.f64.format.order (jn u (-52)) (4609047870845172685 : Nat) == some .gt) = true
  ·rw [if_pos c]
   (obtain ⟨q, hq, mq⟩ := mg_div (y := 4611686018427387904) (b := 1) jm (by decide) (by decide) (by decide) (by decide) (by decide) (by decide) (by decide) (by decide) (by decide));(obtain ⟨q', hq', _, sq⟩ := div_by (y := 4611686018427387904) jm.w (jm.fin (by decide)) jz ⟨by decide, by decide⟩);(rw [hq] at hq');(obtain rfl := Option.some.inj hq');(obtain ⟨qK, qV⟩ := fdiv_is hq);(rw [if_pos qK, qV]);(have := ln_j2 j (wrap64 ((wrap64 (e' + 52)) + 1)) (wb _) (mq.up (show (1 : Int) - 1 ≤ 1 by decide)) (by rw [sq, js]; rfl));(rw [show j + 11 + 12 + 1 = 11 + 12 + 1 + j by omega] at this);(exact this)
  ·rw [if_neg c]
   (have := ln_j2 j (wrap64 (e' + 52)) (wb _) jm js);(rw [show j + 11 + 12 + 1 = 11 + 12 + 1 + j by omega] at this);(exact this)
 (refine ⟨11 + 12 + 1 + 52 + 1 + 1, r, ?_, mr.w, mr.fin (by decide)⟩);(have nx := fin_nan fx);(have rx := rank_val nx);(rw [h0, if_neg (by decide)] at rx);(have c1 : (FloatKind.f64.format.order x x != some .eq) = false := by rw [ord_self hx, nx])
 have c2 : (FloatKind.f64.format.order x (0 : Nat) == some .lt) = false := by
  rw [ord_lt hx (by decide) nx (by decide), show rank 0 = 0 by decide]; exact decide_eq_false (by omega)
 have c3 : (FloatKind.f64.format.order x (0 : Nat) == some .eq) = false := by
  rw [ord_eq hx (by decide) nx (by decide), show rank 0 = 0 by decide]; exact decide_eq_false (by omega)
 have c4 : (FloatKind.f64.format.order x (9218868437227405311 : Nat) == some .gt) = false := by
  (rw [ord_gt hx (by decide) nx (by decide), show rank 9218868437227405311 = 9218868437227405311 by decide]);(have := of_decide_eq_true fx);(exact decide_eq_false (by omega))
 (unfold fn_Ln.f);(rw [c1, if_neg (by decide), c2, fn_Ln.j0, if_neg (by decide), c3, if_neg (by decide)]);(unfold math_IsInf.f);(rw [if_neg (by decide), if_neg (by decide), c4, Option.bind_some, if_neg (by decide)]);(unfold ieee_Split.f);(rw [if_pos hx, Option.bind_some, hl]);(exact hr)
end Go.Proofs.YtmdoljecjliehaaGreat.FP
end

section
/- What lies between nodes: sums of weights, exactly; held values. -/
namespace Tn
theorem cls_ge (f : Nat) : (cls f ≥ 4) = ¬ fin f = true := by
 refine propext ⟨fun h hf => ?_, fun h => ?_⟩
 ·rw [cls_fin, decide_eq_true_iff] at hf; omega
 ·rw [cls_fin, decide_eq_true_iff] at h; omega
theorem sV_spm {x : Nat} (h : fin x = true) : sV x = spm x * 2 ^ (spe x + 1074).toNat := by
 (unfold sV spm spe);(rw [if_pos h, if_pos h, V_def])
 by_cases c : mag x = 0
 ·rw [c, show dm 0 = 0 from rfl, Nat.zero_mul]; split <;> simp only [Int.natCast_zero, Int.neg_zero, Int.zero_mul]
 ·rw [if_neg c]; split <;> simp only [Int.neg_mul, Int.natCast_mul, Int.natCast_pow] <;> rfl
theorem V_exact {z : Nat} {p : Int} (h0 : 1 ≤ z) (h1 : z < 9007199254740992) (p1 : -1074 ≤ p + z.log2 - 52) (p2 : p + z.log2 - 52 ≤ 971) (p3 : -1074 ≤ p) : V (nr z p) = z * 2 ^ (p + 1074).toNat ∧ nr z p < 9218868437227405312 := by
 (have hl1 := log2_lo (n := z) (by omega));(have hl2 := log2_hi z)
 have hl : z.log2 ≤ 52 := by
  rcases Nat.lt_or_ge 52 z.log2 with h | h
  ·have : 2 ^ 53 ≤ 2 ^ z.log2 := pow_le (by omega)
   omega
  ·exact h
 (obtain ⟨s, hs⟩ : ∃ s, s + z.log2 = 52 := ⟨52 - z.log2, by omega⟩);(have e1 := nr_scale z s p)
 have m1 : 4503599627370496 ≤ z * 2 ^ s := by
  (have := Nat.mul_le_mul_right (2 ^ s) hl1);(rw [← Nat.pow_add, show z.log2 + s = 52 by omega] at this);(exact this)
 have m2 : z * 2 ^ s < 9007199254740992 := by
  (have := Nat.mul_lt_mul_of_pos_right hl2 (Nat.two_pow_pos s));(rw [← Nat.pow_add, show z.log2 + 1 + s = 53 by omega] at this);(exact this)
 (obtain ⟨M, hM⟩ : ∃ M, z * 2 ^ s = M := ⟨_, rfl⟩);(rw [hM] at e1 m1 m2);(rw [← e1, nr_of (by omega) (by omega) (Or.inr m1)]);(obtain ⟨q, hq⟩ : ∃ q : Nat, (p - s + 1074).toNat = q := ⟨_, rfl⟩);(have hq1 : q ≤ 2045 := by omega);(have hq2 : p - s + 1074 = q := by omega);(rw [hq])
 have e2 : min (q * 4503599627370496 + M) 9218868437227405312 = M - 4503599627370496 + (q + 1) * 4503599627370496 ∧ M - 4503599627370496 + (q + 1) * 4503599627370496 < 9218868437227405312 := by
  (clear e1 hM hq hq2 hl hl1 hl2 h0 h1 p1 p2 p3 hs);(omega)
 (rw [e2.1]);(refine ⟨?_, e2.2⟩);(rw [V_def, dm_of m1 m2 (by omega), dp_of m1 m2 (by omega), ← hM, Nat.mul_assoc, ← Nat.pow_add]);(clear e2 e1)
 congr 2; omega
theorem sV_sg (s : Bool) {r : Nat} (h : r ≤ 9218868437227405312) : sV (sgB s + r) = (if s = true then -(V r : Int) else (V r : Int)) := by
 (obtain ⟨h1, _, h3⟩ := sgB_mag (s := s) h);(unfold sV; rw [h1, h3])
theorem foi_sg (n : Int) : Go.floatOfInt .f64 n = sgB (decide (n < 0)) + nr n.natAbs 0 := by
 show Ieee.double.nearest (decide (n < 0)) n.natAbs 0 = _
 rw [nearest_nr]; unfold sgB; rfl
def E74 : Nat := 1074
theorem sV_foi {z : Int} (h0 : 0 ≤ z) (h : z < 9007199254740992) : sV (Go.floatOfInt .f64 z) = z * 2 ^ E74 ∧ fin (Go.floatOfInt .f64 z) = true := by
 rw [foi_sg]
 by_cases c : z = 0
 ·subst c
  rw [show (0 : Int).natAbs = 0 from rfl, nr_zero, Int.zero_mul]; exact ⟨by decide, by decide⟩
 obtain ⟨n, rfl⟩ := Int.eq_ofNat_of_zero_le h0
 have hl : (n : Nat).log2 ≤ 52 := by
  rcases Nat.lt_or_ge 52 n.log2 with h | h
  ·have h2 : 2 ^ 53 ≤ 2 ^ n.log2 := pow_le (by omega)
   (have := log2_lo (n := n) (by omega));(omega)
  ·exact h
 (obtain ⟨e1, e2⟩ := V_exact (z := n) (p := 0) (by omega) (by omega) (by omega) (by omega) (by decide));(rw [show ((n : Int)).natAbs = n from Int.natAbs_natCast n, sV_sg _ (by omega), e1, if_neg (by rw [decide_eq_true_iff]; omega)]);(refine ⟨?_, ?_⟩)
 ·rw [show ((0 : Int) + 1074).toNat = E74 from rfl, Int.natCast_mul, Int.natCast_pow]; rfl
 ·unfold fin
  rw [(sgB_mag (by omega)).1]; exact decide_eq_true e2
theorem units_sV {x : Nat} (h : fin x = true) : units x = sV x * 2 ^ E74 := by
 (have hd := (spe_bd x).1);(rw [sV_spm h, units, Int.mul_assoc, ← Int.pow_add])
 congr 2; unfold E74; omega
theorem rank_fin {x y z : Nat} (hx : fin x = true) (hz : fin z = true) (hy : nan y = false) (h1 : rank x ≤ rank y) (h2 : rank y ≤ rank z) : fin y = true := by
 (have r1 := rank_val (fin_nan hx));(have r2 := rank_val hy);(have r3 := rank_val (fin_nan hz));(have m1 : mag x < 9218868437227405312 := of_decide_eq_true hx);(have m3 : mag z < 9218868437227405312 := of_decide_eq_true hz);(refine decide_eq_true ?_)
 split at r1 <;> split at r2 <;> split at r3 <;> omega
def posf (f : Nat) : Bool := fin f && !sgn f && decide (mag f ≠ 0)
theorem posf_is {f : Nat} (h : posf f = true) : fin f = true ∧ sgn f = false ∧ mag f ≠ 0 := by
 (unfold posf at h);(rw [Bool.and_eq_true, Bool.and_eq_true] at h);(exact ⟨h.1.1, by simpa using h.1.2, of_decide_eq_true h.2⟩)
theorem posf_of {f : Nat} (h1 : fin f = true) (h2 : 0 < rank f) : posf f = true := by
 have r := rank_val (fin_nan h1)
 have hs : sgn f = false := by
  split at r
  ·omega
  ·rename_i c; simpa using c
 (rw [hs, if_neg (by decide)] at r);(unfold posf; rw [h1, hs, decide_eq_true (by omega)]; rfl)
theorem posf_rank {f : Nat} (h : posf f = true) : 0 < rank f := by
 (obtain ⟨h1, h2, h3⟩ := posf_is h);(rw [rank_val (fin_nan h1), h2, if_neg (by decide)]; omega)
theorem gt0 {f : Nat} (hw : f < 18446744073709551616) (hf : fin f = true) : (Go.FloatKind.f64.format.order f (0 : Nat) == some .gt) = posf f := by
 rw [ord_gt hw (by decide) (fin_nan hf) (by decide), show rank 0 = 0 by decide]
 cases c : posf f
 ·refine decide_eq_false fun h => ?_
  rw [posf_of hf h] at c; cases c
 ·exact decide_eq_true (posf_rank c)
def btw (a b r : Nat) : Prop := (rank a ≤ rank r ∧ rank r ≤ rank b) ∨ (rank b ≤ rank r ∧ rank r ≤ rank a)
theorem btw_fin {a b r : Nat} (ha : fin a = true) (hb : fin b = true) (hr : nan r = false) (h : btw a b r) : fin r = true := by
 rcases h with ⟨h1, h2⟩ | ⟨h1, h2⟩
 ·exact rank_fin ha hb hr h1 h2
 ·exact rank_fin hb ha hr h1 h2
theorem btw_pos {a b r : Nat} (ha : posf a = true) (hb : posf b = true) (hr : nan r = false) (h : btw a b r) : posf r = true := by
 (have p1 := posf_rank ha);(have p2 := posf_rank hb);(exact posf_of (btw_fin (posf_is ha).1 (posf_is hb).1 hr h) (by rcases h with ⟨h1, h2⟩ | ⟨h1, h2⟩ <;> omega))
end Tn
namespace Go.Proofs.YtmdoljecjliehaaGreat.FP
open Go.RowKit Go.Proofs.YtmdoljecjliehaaGreatW.PrintWords Go.Proofs.YtmdoljecjliehaaGreat.FX Tn
theorem unitsP_sV {x y : Nat} (hx : fin x = true) (hy : fin y = true) : unitsP x y = sV x * sV y := by
 (have h1 := (spe_bd x).1);(have h2 := (spe_bd y).1);(unfold unitsP);(rw [sV_spm hx, sV_spm hy, show (spe x + spe y + 2148).toNat = (spe x + 1074).toNat + (spe y + 1074).toNat by omega, Int.pow_add]);(simp only [Int.mul_assoc, Int.mul_left_comm, Int.mul_comm])
theorem unitsP_foi {z : Int} {y : Nat} (h0 : 0 ≤ z) (h : z < 9007199254740992) (hy : fin y = true) : unitsP (floatOfInt .f64 z) y = z * units y := by
 (obtain ⟨e1, e2⟩ := sV_foi h0 h);(rw [unitsP_sV e2 hy, e1, units_sV hy, Int.mul_assoc, Int.mul_comm (2 ^ E74 : Int)])
theorem sumW_two {i n : Int} {a b : Nat} (h0 : 0 ≤ i) (h1 : i ≤ n) (h2 : n ≤ 1000000) (ha : fin a = true) (hb : fin b = true) : sumW [wrap64 (n - i), i] [a, b] = (n - i) * units a + i * units b := by
 (have w : wrap64 (n - i) = n - i := by unfold wrap64; omega);(rw [w, sumW, sumW, sumW, unitsP_foi (by omega) (by omega) ha, unitsP_foi h0 (by omega) hb])
 ·rw [Int.add_zero]
 ·intro _ _ _ _ h; cases h
def linV (a b : Nat) (i n : Int) : Nat := overV ((n - i) * units a + i * units b) false false n.toNat
theorem lin_sum {i n x y : Int} (h0 : 0 ≤ i) (h1 : i ≤ n) (h : x ≤ y) : n * x ≤ (n - i) * x + i * y ∧ (n - i) * x + i * y ≤ n * y := by
 (have a : i * x ≤ i * y := Int.mul_le_mul_of_nonneg_left h h0);(have b : (n - i) * x ≤ (n - i) * y := Int.mul_le_mul_of_nonneg_left h (by omega));(rw [Int.sub_mul] at *);(rw [Int.sub_mul] at b);(omega)
theorem lin_sum' {i n x y : Int} (h0 : 0 ≤ i) (h1 : i ≤ n) (h : y ≤ x) : n * y ≤ (n - i) * x + i * y ∧ (n - i) * x + i * y ≤ n * x := by
 (have a : i * y ≤ i * x := Int.mul_le_mul_of_nonneg_left h h0);(have b : (n - i) * y ≤ (n - i) * x := Int.mul_le_mul_of_nonneg_left h (by omega));(rw [Int.sub_mul] at *);(rw [Int.sub_mul] at b);(omega)
theorem linV_btw {a b : Nat} {i n : Int} (h0 : 0 ≤ i) (h1 : i ≤ n) (h2 : 1 ≤ n) (ha : fin a = true) (hb : fin b = true) : btw a b (linV a b i n) := by
 unfold linV
 rcases Int.le_total (rank a) (rank b) with h | h
 ·obtain ⟨l1, l2⟩ := lin_sum h0 h1 (units_mono ha hb h)
  exact .inl ⟨over_above (by omega) ha (by rw [show ((n.toNat : Nat) : Int) = n by omega]; exact l1), over_under (by omega) hb (by rw [show ((n.toNat : Nat) : Int) = n by omega]; exact l2)⟩
 ·obtain ⟨l1, l2⟩ := lin_sum' h0 h1 (units_mono hb ha h)
  exact .inr ⟨over_above (by omega) hb (by rw [show ((n.toNat : Nat) : Int) = n by omega]; exact l1), over_under (by omega) ha (by rw [show ((n.toNat : Nat) : Int) = n by omega]; exact l2)⟩
theorem held_btw {v a b : Nat} (k : Nat) (hv : Nn v) (ha : a < 18446744073709551616) (fa : fin a = true) (hb : b < 18446744073709551616) (fb : fin b = true) :
  ∃ r, interp_held.f (k + 1 + 1) v a b = some r ∧ r < 18446744073709551616 ∧ nan r = false ∧ btw a b r := by
 (have na := fin_nan fa);(have nb := fin_nan fb);(unfold interp_held.f btw);(simp only [interp_held.j0, interp_held.j1]);(rw [ord_lt hb ha nb na, ord_eq ha hb na nb, ord_lt hv.w hb hv.k nb, ord_lt hv.w ha hv.k na, ord_gt hv.w ha hv.k na, ord_gt hv.w hb hv.k nb]);(simp only [decide_eq_true_iff])
 split
 ·split
  ·split
   ·exact ⟨_, rfl, hb, nb, by omega⟩
   ·split
    ·exact ⟨_, rfl, ha, na, by omega⟩
    ·exact ⟨_, rfl, hv.w, hv.k, by omega⟩
  ·split
   ·exact ⟨_, rfl, hb, nb, by omega⟩
   ·split
    ·exact ⟨_, rfl, ha, na, by omega⟩
    ·exact ⟨_, rfl, hv.w, hv.k, by omega⟩
 ·split
  ·split
   ·exact ⟨_, rfl, ha, na, by omega⟩
   ·split
    ·exact ⟨_, rfl, ha, na, by omega⟩
    ·exact ⟨_, rfl, hv.w, hv.k, by omega⟩
  ·split
   ·exact ⟨_, rfl, ha, na, by omega⟩
   ·split
    ·exact ⟨_, rfl, hb, nb, by omega⟩
    ·exact ⟨_, rfl, hv.w, hv.k, by omega⟩
end Go.Proofs.YtmdoljecjliehaaGreat.FP
end

section
/- curve.Factor plainly: what is wrong with a curve; where a day lies; it always tells. -/
namespace Go.Proofs.YtmdoljecjliehaaGreat.FP
open Go.RowKit Go.Proofs.YtmdoljecjliehaaGreatW.PrintWords Go.Proofs.YtmdoljecjliehaaGreat.FX Go.Proofs.YtmdoljecjliehaaGreat.EV Tn
set_option linter.unusedVariables false
def asc : Int → List Int → List Nat → Bool
 | _, [], [] => true
 | last, d :: ds, f :: fs => decide (last < d) && decide (d ≤ 109572) && posf f && asc d ds fs
 | _, _, _ => false
theorem asc_cons {last d : Int} {ds : List Int} {f : Nat} {fs : List Nat} : asc last (d :: ds) (f :: fs) = true ↔ last < d ∧ d ≤ 109572 ∧ posf f = true ∧ asc d ds fs = true := by
 rw [asc, Bool.and_eq_true, Bool.and_eq_true, Bool.and_eq_true, decide_eq_true_iff, decide_eq_true_iff, and_assoc, and_assoc]
theorem check_l0 (b kd : Int) (ds : List Int) (fs : List Nat) (hlen : ds.length = fs.length) (hw : ∀ y ∈ fs, y < 18446744073709551616) (hl : ds.length ≤ 1000000) (k : Nat) :
  ∀ (m i : Nat) (last : Int), i + m = ds.length → curve_Check.l0 (m + 1 + k) last ds (ds.length : Int) (i : Int) b kd ds fs = some (if asc last (ds.drop i) (fs.drop i) = true then 0 else 100)
 | 0, i, last, h => by
  rw [show 0 + 1 + k = k + 1 by omega, curve_Check.l0, if_neg (by omega), List.drop_eq_nil_of_le (by omega), List.drop_eq_nil_of_le (by omega), asc, if_pos rfl]
 | m + 1, i, last, h => by
  (have hi : i < ds.length := by omega);(have hj : i < fs.length := by omega);(have ih := fun d => check_l0 b kd ds fs hlen hw hl k m (i + 1) d (by omega));(have w1 : wrap64 ((i : Int) + 1) = ((i + 1 : Nat) : Int) := by unfold wrap64; omega);(rw [show m + 1 + 1 + k = (m + 1 + k) + 1 by omega, curve_Check.l0, if_pos (by omega), if_pos (by omega), if_pos (by omega), if_pos (by omega), rdio_at hi, rdfo_at hj, w1]);(rw [List.drop_eq_getElem_cons hi, List.drop_eq_getElem_cons hj]);(have hw1 := hw _ (List.getElem_mem hj));(rw [ih]);(generalize ds[i] = d);(generalize fs[i] = f at *)
  by_cases c1 : d ≤ last
  ·rw [if_pos c1, if_neg (fun h => by have := (asc_cons.1 h).1; omega)]
  rw [if_neg c1]
  by_cases c2 : d > 109572
  ·rw [if_pos c2, if_neg (fun h => by have := (asc_cons.1 h).2.1; omega)]
  (rw [if_neg c2]);(unfold ieee_Class.f);(rw [if_pos hw1, Option.bind_some])
  by_cases c3 : fin f = true
  ·rw [if_neg (fun h => (cls_ge f ▸ h) c3), gt0 hw1 c3]
   by_cases c4 : posf f = true
   ·rw [if_pos c4]
    congr 2
    exact propext ⟨fun h => asc_cons.2 ⟨by omega, by omega, c4, h⟩, fun h => (asc_cons.1 h).2.2.2⟩
   ·rw [if_neg c4, if_neg (fun h => c4 (asc_cons.1 h).2.2.1)]
  ·rw [if_pos (show cls f ≥ 4 by rw [cls_ge]; exact c3), if_neg (fun h => c3 (posf_is (asc_cons.1 h).2.2.1).1)]
def chkC (b kd : Int) (ds : List Int) (fs : List Nat) : Int :=
 if b < 0 ∨ 109572 < b then 51 else if kd < 1 ∨ 4 < kd then 90 else if ds.length < 1 ∨ 255 < ds.length ∨ ds.length ≠ fs.length then 100 else if asc b ds fs = true then 0 else 100
theorem check_is (b kd : Int) (ds : List Int) (fs : List Nat) (hw : ∀ y ∈ fs, y < 18446744073709551616) : Evt (fun k => curve_Check.f k b kd ds fs) (chkC b kd ds fs) := by
 (refine evt (curve_Check.mono _ _ _ _) ⟨255 + 1 + 0 + 1 + 1 + 1, ?_⟩);(unfold curve_Check.f chkC)
 by_cases c1 : b < 0
 ·rw [if_pos c1, curve_Check.j0, if_pos rfl, if_pos (by omega)]
 rw [if_neg c1]
 by_cases c2 : b > 109572
 ·rw [decide_eq_true c2, curve_Check.j0, if_pos rfl, if_pos (by omega)]
 rw [decide_eq_false c2, curve_Check.j0, if_neg (by decide), if_neg (show ¬ (b < 0 ∨ 109572 < b) by omega)]
 by_cases c3 : kd < 1
 ·rw [if_pos c3, curve_Check.j1, if_pos rfl, if_pos (by omega)]
 rw [if_neg c3]
 by_cases c4 : kd > 4
 ·rw [decide_eq_true c4, curve_Check.j1, if_pos rfl, if_pos (by omega)]
 rw [decide_eq_false c4, curve_Check.j1, if_neg (by decide), if_neg (show ¬ (kd < 1 ∨ 4 < kd) by omega)]
 by_cases c5 : (ds.length : Int) < 1
 ·rw [if_pos c5, curve_Check.j2, if_pos rfl, if_pos (by omega)]
 rw [if_neg c5]
 by_cases c6 : (ds.length : Int) > 255
 ·rw [if_pos c6, curve_Check.j2, if_pos rfl, if_pos (by omega)]
 rw [if_neg c6]
 by_cases c7 : ds.length = fs.length
 ·rw [show ((ds.length : Int) != (fs.length : Int)) = false from bne_eq_false_iff_eq.2 (by omega), curve_Check.j2, if_neg (by decide), if_neg (show ¬ (ds.length < 1 ∨ 255 < ds.length ∨ ds.length ≠ fs.length) by omega)]
  (have h := check_l0 b kd ds fs c7 hw (by omega) (255 - ds.length) ds.length 0 b (by omega));(rw [List.drop_zero, List.drop_zero, show ds.length + 1 + (255 - ds.length) = 255 + 1 + 0 by omega] at h);(exact h)
 ·rw [show ((ds.length : Int) != (fs.length : Int)) = true from bne_iff_ne.2 (by omega), curve_Check.j2, if_pos rfl, if_pos (by omega)]
theorem chk_zero {b kd : Int} {ds : List Int} {fs : List Nat} : chkC b kd ds fs = 0 ↔ (0 ≤ b ∧ b ≤ 109572) ∧ (1 ≤ kd ∧ kd ≤ 4) ∧ (1 ≤ ds.length ∧ ds.length ≤ 255 ∧ ds.length = fs.length) ∧ asc b ds fs = true := by
 unfold chkC
 split
 ·exact ⟨fun h => (by cases h), fun h => by omega⟩
 split
 ·exact ⟨fun h => (by cases h), fun h => by omega⟩
 split
 ·exact ⟨fun h => (by cases h), fun h => by omega⟩
 split
 ·rename_i h; exact ⟨fun _ => ⟨by omega, by omega, by omega, h⟩, fun _ => rfl⟩
 ·rename_i h; exact ⟨fun h => (by cases h), fun h2 => absurd h2.2.2.2 h⟩
theorem asc_pw : ∀ {last : Int} {ds : List Int} {fs : List Nat}, asc last ds fs = true → (∀ x ∈ ds, last < x ∧ x ≤ 109572) ∧ ds.Pairwise (· < ·) ∧ ds.length = fs.length ∧ ∀ y ∈ fs, posf y = true
 | _, [], [], _ => ⟨by simp, List.Pairwise.nil, rfl, by simp⟩
 | last, d :: ds, f :: fs, h => by
  (obtain ⟨h1, h2, h3, h4⟩ := asc_cons.1 h);(obtain ⟨a, b, c, e⟩ := asc_pw h4);(refine ⟨fun x hx => ?_, List.pairwise_cons.2 ⟨fun x hx => (a x hx).1, b⟩, by rw [List.length_cons, List.length_cons, c], fun y hy => ?_⟩)
  ·rcases List.mem_cons.1 hx with rfl | hx
   ·exact ⟨h1, h2⟩
   ·have := a x hx; omega
  ·rcases List.mem_cons.1 hy with rfl | hy
   ·exact h3
   ·exact e y hy
 | _, [], _ :: _, h => by rw [asc] at h <;> simp_all
 | _, _ :: _, [], h => by rw [asc] at h <;> simp_all
structure Tab (xs : List Int) (ys : List Nat) : Prop where
 n : 1 ≤ xs.length ∧ xs.length ≤ 256
 l : xs.length = ys.length
 p : xs.Pairwise (· < ·)
 x : ∀ x ∈ xs, 0 ≤ x ∧ x ≤ 109572
 y : ∀ y ∈ ys, y < 18446744073709551616 ∧ posf y = true
theorem tab_of {b kd : Int} {ds : List Int} {fs : List Nat} (h : chkC b kd ds fs = 0) (hw : ∀ y ∈ fs, y < 18446744073709551616) : Tab (b :: ds) (4607182418800017408 :: fs) := by
 (obtain ⟨h1, h2, h3, h4⟩ := chk_zero.1 h);(obtain ⟨a, p, c, e⟩ := asc_pw h4);(refine ⟨by rw [List.length_cons]; omega, by rw [List.length_cons, List.length_cons, c], List.pairwise_cons.2 ⟨fun x hx => (a x hx).1, p⟩, fun x hx => ?_, fun y hy => ?_⟩)
 ·rcases List.mem_cons.1 hx with rfl | hx
  ·exact h1
  ·have := a x hx; omega
 ·rcases List.mem_cons.1 hy with rfl | hy
  ·exact ⟨by decide, by decide⟩
  ·exact ⟨hw y hy, e y hy⟩
theorem Tab.at {xs : List Int} {ys : List Nat} (h : Tab xs ys) {j : Int} (h0 : 0 ≤ j) (h1 : j + 1 < (xs.length : Int)) : 1 ≤ rd xs (j + 1) - rd xs j ∧ rd xs (j + 1) - rd xs j ≤ 1000000 := by
 (obtain ⟨i, rfl⟩ := Int.eq_ofNat_of_zero_le h0);(rw [show ((i : Int) + 1) = ((i + 1 : Nat) : Int) by omega, rdio_at (by omega), rdio_at (by omega)]);(have h2 := List.pairwise_iff_getElem.1 h.p i (i + 1) (by omega) (by omega) (by omega));(have h3 := h.x _ (List.getElem_mem (show i < xs.length by omega)));(have h4 := h.x _ (List.getElem_mem (show i + 1 < xs.length by omega)));(omega)
theorem Tab.rx {xs : List Int} {ys : List Nat} (h : Tab xs ys) {i : Int} (h0 : 0 ≤ i) (h1 : i < (xs.length : Int)) : 0 ≤ rd xs i ∧ rd xs i ≤ 109572 := by
 (obtain ⟨i, rfl⟩ := Int.eq_ofNat_of_zero_le h0);(rw [rdio_at (by omega)]);(exact h.x _ (List.getElem_mem (by omega)))
theorem Tab.ry {xs : List Int} {ys : List Nat} (h : Tab xs ys) {i : Int} (h0 : 0 ≤ i) (h1 : i < (ys.length : Int)) : rdOf (0 : Nat) ys i < 18446744073709551616 ∧ posf (rdOf (0 : Nat) ys i) = true := by
 (obtain ⟨i, rfl⟩ := Int.eq_ofNat_of_zero_le h0);(rw [rdfo_at (by omega)]);(exact h.y _ (List.getElem_mem (by omega)))
theorem Tab.fy {xs : List Int} {ys : List Nat} (h : Tab xs ys) : ∀ i : Int, 0 ≤ i → i < (ys.length : Int) → rdOf (0 : Nat) ys i < 18446744073709551616 ∧ fin (rdOf (0 : Nat) ys i) = true :=
 fun i h0 h1 => ⟨(h.ry h0 h1).1, (posf_is (h.ry h0 h1).2).1⟩
theorem Tab.lt {xs : List Int} {ys : List Nat} (h : Tab xs ys) {i j : Int} (h0 : 0 ≤ i) (hij : i < j) (h1 : j < (xs.length : Int)) : rd xs i < rd xs j := by
 (obtain ⟨i, rfl⟩ := Int.eq_ofNat_of_zero_le h0);(obtain ⟨j, rfl⟩ := Int.eq_ofNat_of_zero_le (show 0 ≤ j by omega));(rw [rdio_at (by omega), rdio_at (by omega)]);(exact List.pairwise_iff_getElem.1 h.p i j (by omega) (by omega) (by omega))
theorem icheck_l0 (kd : Int) (xs : List Int) (ys : List Nat) (h : Tab xs ys) (k : Nat) :
  ∀ (m i : Nat) (last : Int), i + m = xs.length → (∀ hi : i < xs.length, last < xs[i]) → interp_Check.l0 (m + 1 + k) last xs (xs.length : Int) (i : Int) kd xs ys = some 0
 | 0, i, last, hm, _ => by
  rw [show 0 + 1 + k = k + 1 by omega, interp_Check.l0, if_neg (by omega)]
 | m + 1, i, last, hm, hlast => by
  (have hn := h.n);(have hi : i < xs.length := by omega);(have hj : i < ys.length := by have := h.l; omega);(have w1 : wrap64 ((i : Int) + 1) = ((i + 1 : Nat) : Int) := by unfold wrap64; omega);(have ih := icheck_l0 kd xs ys h k m (i + 1) xs[i] (by omega) (fun hi2 => List.pairwise_iff_getElem.1 h.p i (i + 1) hi hi2 (by omega)));(have h1 := hlast hi);(have h2 := (h.x _ (List.getElem_mem hi)).2);(obtain ⟨h3, h4⟩ := h.y _ (List.getElem_mem hj));(rw [show m + 1 + 1 + k = (m + 1 + k) + 1 by omega, interp_Check.l0, if_pos (by omega), if_pos (by omega), if_pos (by omega), if_pos (by omega), rdio_at hi, rdfo_at hj, w1]);(rw [if_neg (by omega), if_neg (by omega)]);(unfold ieee_Class.f);(rw [if_pos h3, Option.bind_some, if_neg (fun h => (cls_ge _ ▸ h) (posf_is h4).1), gt0 h3 (posf_is h4).1, if_pos h4, ih])
  split <;> rfl
theorem icheck_is {kd : Int} {xs : List Int} {ys : List Nat} (h : Tab xs ys) (h1 : 1 ≤ kd) (h2 : kd ≤ 4) : Evt (fun k => interp_Check.f k kd xs ys) 0 := by
 (refine evt (interp_Check.mono _ _ _) ⟨256 + 1 + 0 + 1 + 1, ?_⟩);(have hn := h.n);(unfold interp_Check.f);(rw [if_neg (by omega), decide_eq_false (by omega), interp_Check.j0, if_neg (by decide), if_neg (by omega), if_neg (by omega), show ((xs.length : Int) != (ys.length : Int)) = false from bne_eq_false_iff_eq.2 (by have := h.l; omega), interp_Check.j1, if_neg (by decide)]);(have := icheck_l0 kd xs ys h (256 - xs.length) xs.length 0 (-1) (by omega) (fun hi => by have := h.x _ (List.getElem_mem hi); omega));(rw [show xs.length + 1 + (256 - xs.length) = 256 + 1 + 0 by omega] at this);(exact this)
def cnt (xs : List Int) (x : Int) : Nat := xs.countP (fun y => !decide (x + 1 ≤ y))
theorem cnt_iff : ∀ {xs : List Int} (_ : xs.Pairwise (· < ·)) (x : Int) (i : Nat) (hi : i < xs.length), xs[i] ≤ x ↔ i < cnt xs x
 | a :: xs, hp, x, i, hi => by
  (obtain ⟨h1, h2⟩ := List.pairwise_cons.1 hp);(unfold cnt);(rw [List.countP_cons])
  by_cases c : a ≤ x
  ·rw [if_pos (by simp; omega)]
   cases i with
   | zero => simp [c]
   | succ i => have := cnt_iff h2 x i (by simpa using hi); unfold cnt at this; rw [List.getElem_cons_succ, this]; omega
  ·rw [if_neg (by simp; omega)]
   have hz : xs.countP (fun y => !decide (x + 1 ≤ y)) = 0 := by
    (rw [List.countP_eq_zero]);(intro y hy);(have := h1 y hy)
    simp; omega
   rw [hz]
   cases i with
   | zero => simp [c]
   | succ i =>
    (have := h1 _ (List.getElem_mem (show i < xs.length by simpa using hi)));(rw [List.getElem_cons_succ]; omega)
theorem cnt_le (xs : List Int) (x : Int) : cnt xs x ≤ xs.length := List.countP_le_length
theorem place_is {xs : List Int} {ys : List Nat} (h : Tab xs ys) {x : Int} (h1 : rd xs 0 ≤ x) (h2 : x ≤ rd xs ((xs.length : Int) - 1)) :
  ∃ j : Nat, j < xs.length ∧ cnt xs x = j + 1 ∧ rd xs (j : Int) ≤ x ∧ (∀ hj : j + 1 < xs.length, x < rd xs ((j + 1 : Nat) : Int)) ∧ (rd xs (j : Int) ≠ x → j + 1 < xs.length) := by
 (have hn := h.n);(have hc := cnt_le xs x);(have e0 : (0 : Int) = ((0 : Nat) : Int) := rfl);(rw [e0, rdio_at (by omega)] at h1);(have h3 := (cnt_iff h.p x 0 (by omega)).1 h1);(refine ⟨cnt xs x - 1, by omega, by omega, ?_, fun hj => ?_, fun hne => ?_⟩)
 ·rw [rdio_at (by omega)]
  exact (cnt_iff h.p x _ (by omega)).2 (by omega)
 ·rw [rdio_at hj]
  rcases Int.lt_or_le x xs[cnt xs x - 1 + 1] with c | c
  ·exact c
  ·have := (cnt_iff h.p x _ hj).1 c; omega
 ·rcases Nat.lt_or_ge (cnt xs x - 1 + 1) xs.length with c | c
  ·exact c
  ·exfalso
   apply hne
   (have e1 : ((xs.length : Int) - 1) = ((cnt xs x - 1 : Nat) : Int) := by omega);(rw [e1] at h2)
   have h4 : rd xs ((cnt xs x - 1 : Nat) : Int) ≤ x := by
    (rw [rdio_at (by omega)]);(exact (cnt_iff h.p x _ (by omega)).2 (by omega))
   omega
theorem find_in {kd : Int} {xs : List Int} {ys : List Nat} (h : Tab xs ys) {x : Int} (h1 : rd xs 0 ≤ x) (h2 : x ≤ rd xs ((xs.length : Int) - 1)) : interp_find.f kd xs ys x = some (((cnt xs x : Nat) : Int) - 1, 0) := by
 (have hn := h.n);(have r1 := h.rx (i := 0) (by decide) (by omega));(have r2 := h.rx (i := (xs.length : Int) - 1) (by omega) (by omega));(have w1 : wrap64 ((xs.length : Int) - 1) = (xs.length : Int) - 1 := by unfold wrap64; omega);(have w2 : wrap64 (x + 1) = x + 1 := by unfold wrap64; omega);(have hc := cnt_le xs x);(unfold interp_find.f);(rw [if_pos (by omega), if_neg (by omega), w1, if_pos (by omega), if_pos (by omega), if_neg (by omega), w2]);(unfold sort_SearchInts.f);(rw [if_pos ⟨by omega, by omega, h.p.imp (fun h => Int.le_of_lt h)⟩, Option.bind_some]);(have : wrap64 (((cnt xs x : Nat) : Int) - 1) = ((cnt xs x : Nat) : Int) - 1 := by unfold wrap64; omega);(exact congrArg (fun z => some (z, (0 : Int))) this)
theorem find_out {kd : Int} {xs : List Int} {ys : List Nat} (h : Tab xs ys) {x : Int} (h1 : x < rd xs 0 ∨ rd xs ((xs.length : Int) - 1) < x) : interp_find.f kd xs ys x = some (0, 51) := by
 (have hn := h.n);(have w1 : wrap64 ((xs.length : Int) - 1) = (xs.length : Int) - 1 := by unfold wrap64; omega);(unfold interp_find.f);(rw [if_pos (by omega)])
 by_cases c : x < rd xs 0
 ·rw [if_pos c]
 ·rw [if_neg c, w1, if_pos (by omega), if_pos (by omega), if_pos (by omega)]
noncomputable def lim {α : Type} (d : α) (f : Nat → Option α) : α := open Classical in if h : ∃ r, Evt f r then h.choose else d
theorem lim_is {α : Type} {d : α} {f : Nat → Option α} {r : α} (h : Evt f r) : lim d f = r := by
 (unfold lim);(have hx : ∃ r, Evt f r := ⟨r, h⟩);(rw [dif_pos hx]);(exact hx.choose_spec.uniq h)
def logsF (k : Nat) (a b : Nat) (i n : Int) : Option Nat :=
 (fn_Ln.f k a).bind fun u => (fn_Ln.f k b).bind fun v => (interp_over.f n [wrap64 (n - i), i] [u, v]).bind fun t => (fn_Exp.f k t).bind fun e => (interp_held.f k e a b).bind fun r => some r
noncomputable def logV (a b : Nat) (i n : Int) : Nat := lim 0 (fun k => logsF k a b i n)
theorem logs_some {a b : Nat} {i n : Int} (ha : a < 18446744073709551616) (hb : b < 18446744073709551616) (pa : posf a = true) (pb : posf b = true) (h0 : 0 ≤ i) (h1 : i ≤ n) (h2 : 1 ≤ n) (h3 : n ≤ 1000000) :
  ∃ r, Evt (fun k => logsF k a b i n) r ∧ r < 18446744073709551616 ∧ nan r = false ∧ btw a b r := by
 (obtain ⟨fa, sa, ma⟩ := posf_is pa);(obtain ⟨fb, sb, mb⟩ := posf_is pb);(obtain ⟨k1, u, hu, u1, u2⟩ := ln_some ha fa sa ma);(obtain ⟨k2, v, hv, v1, v2⟩ := ln_some hb fb sb mb)
 obtain ⟨t, ht, nt⟩ := over_some (goodW_of (n := n) (ws := [wrap64 (n - i), i]) (ys := [u, v]) h2 (by omega) rfl (by show 2 ≤ 1048576; decide) (fun a ha => by
   simp only [List.mem_cons, List.not_mem_nil, or_false] at ha
   rcases ha with rfl | rfl
   ·exact wrap_abs _
   ·omega) (fun y hyy => by
   simp only [List.mem_cons, List.not_mem_nil, or_false] at hyy
   rcases hyy with rfl | rfl
   ·exact ⟨u1, u2⟩
   ·exact ⟨v1, v2⟩))
 (obtain ⟨e, he, ne⟩ := exp_some 0 nt);(obtain ⟨r, hr, r1, r2, r3⟩ := held_btw 0 ne ha fa hb fb);(refine ⟨r, ?_, r1, r2, r3⟩);(unfold logsF);(refine Evt.bind (evt (fn_Ln.mono _) ⟨k1, hu⟩) (Evt.bind (evt (fn_Ln.mono _) ⟨k2, hv⟩) (Evt.after ht (Evt.bind (evt (fn_Exp.mono _) ⟨_, he⟩) (Evt.bind (evt (interp_held.mono _ _ _) ⟨_, hr⟩) (Evt.const fun _ => rfl))))))
end Go.Proofs.YtmdoljecjliehaaGreat.FP
end

section
/- CURVE.FACTOR ALWAYS TELLS, plainly: what it tells. -/
namespace Go.Proofs.YtmdoljecjliehaaGreat.FP
open Go.RowKit Go.Proofs.YtmdoljecjliehaaGreatW.PrintWords Go.Proofs.YtmdoljecjliehaaGreat.FX Go.Proofs.YtmdoljecjliehaaGreat.EV Tn
set_option linter.unusedVariables false
theorem Tab.at2 {xs : List Int} {ys : List Nat} (h : Tab xs ys) {j : Int} (h0 : 0 ≤ j) (h1 : j + 1 < (xs.length : Int)) : rd xs (j + 1) - rd xs j ≤ 109572 := by
 (have a := h.rx h0 (by omega));(have b := h.rx (i := j + 1) (by omega) h1);(omega)
theorem tri {x y z : Int} (x0 : 0 ≤ x) (x1 : x ≤ 328716) (y0 : 0 ≤ y) (y1 : y ≤ 109572) (z0 : 0 ≤ z) (z1 : z ≤ 109572) : wrap64 (wrap64 (x * y) * z) = x * y * z ∧ 0 ≤ x * y * z ∧ x * y * z < 9007199254740992 := by
 (have a1 : x * y ≤ 328716 * 109572 := Int.mul_le_mul x1 y1 y0 (by decide));(have a0 : 0 ≤ x * y := Int.mul_nonneg x0 y0);(generalize hs : x * y = s at *);(have e1 : wrap64 s = s := by unfold wrap64; omega);(have b1 : s * z ≤ 328716 * 109572 * 109572 := Int.mul_le_mul a1 z1 z0 (by decide));(have b0 : 0 ≤ s * z := Int.mul_nonneg a0 z0);(rw [e1]);(generalize s * z = c at *);(refine ⟨by unfold wrap64; omega, b0, by omega⟩)
def cubS (a c d b : Int) (i n : Int) : Int := (n - i) * (n - i) * (n - i) * a + 3 * (n - i) * (n - i) * i * c + 3 * (n - i) * i * i * d + i * i * i * b
def cubV (a c d b : Nat) (i n : Int) : Nat := overV (cubS (units a) (units c) (units d) (units b) i n) false false (n * n * n).toNat
theorem cub_w (i n : Int) : (n - i) * (n - i) * (n - i) + 3 * (n - i) * (n - i) * i + 3 * (n - i) * i * i + i * i * i = n * n * n := by grind
theorem cub_bd {a c d b i n lo hi : Int} (h0 : 0 ≤ i) (h1 : i ≤ n) (a0 : lo ≤ a) (a1 : a ≤ hi) (c0 : lo ≤ c) (c1 : c ≤ hi) (d0 : lo ≤ d) (d1 : d ≤ hi) (b0 : lo ≤ b) (b1 : b ≤ hi) : n * n * n * lo ≤ cubS a c d b i n ∧ cubS a c d b i n ≤ n * n * n * hi := by
 (have hj : 0 ≤ n - i := by omega);(have w := cub_w i n);(have p0 : 0 ≤ (n - i) * (n - i) * (n - i) := Int.mul_nonneg (Int.mul_nonneg hj hj) hj);(have p1 : 0 ≤ 3 * (n - i) * (n - i) * i := Int.mul_nonneg (Int.mul_nonneg (Int.mul_nonneg (by decide) hj) hj) h0);(have p2 : 0 ≤ 3 * (n - i) * i * i := Int.mul_nonneg (Int.mul_nonneg (Int.mul_nonneg (by decide) hj) h0) h0);(have p3 : 0 ≤ i * i * i := Int.mul_nonneg (Int.mul_nonneg h0 h0) h0);(unfold cubS);(rw [← w]);(generalize (n - i) * (n - i) * (n - i) = w0 at *);(generalize 3 * (n - i) * (n - i) * i = w1 at *);(generalize 3 * (n - i) * i * i = w2 at *);(generalize i * i * i = w3 at *);(rw [Int.add_mul, Int.add_mul, Int.add_mul, Int.add_mul, Int.add_mul, Int.add_mul]);(have q1 := Int.mul_le_mul_of_nonneg_left a0 p0);(have q2 := Int.mul_le_mul_of_nonneg_left c0 p1);(have q3 := Int.mul_le_mul_of_nonneg_left d0 p2);(have q4 := Int.mul_le_mul_of_nonneg_left b0 p3);(have r1 := Int.mul_le_mul_of_nonneg_left a1 p0);(have r2 := Int.mul_le_mul_of_nonneg_left c1 p1);(have r3 := Int.mul_le_mul_of_nonneg_left d1 p2);(have r4 := Int.mul_le_mul_of_nonneg_left b1 p3);(omega)
theorem cubV_btw {a c d b : Nat} {i n : Int} (h0 : 0 ≤ i) (h1 : i ≤ n) (h2 : 1 ≤ n) (fa : fin a = true) (fb : fin b = true) (fc : fin c = true) (fd : fin d = true) (hc : btw a b c) (hd : btw c b d) : btw a b (cubV a c d b i n) := by
 unfold cubV
 have hn : 1 ≤ n * n * n := by
  (have a0 : 1 ≤ n * n := by have := Int.mul_le_mul h2 h2 (by decide) (by omega : (0 : Int) ≤ n); omega);(have := Int.mul_le_mul a0 h2 (by decide) (by omega : (0 : Int) ≤ n * n); omega)
 have e : (((n * n * n).toNat : Nat) : Int) = n * n * n := by omega
 rcases Int.le_total (rank a) (rank b) with h | h
 ·have k1 : rank a ≤ rank c ∧ rank c ≤ rank b := by unfold btw at hc; omega
  (have k2 : rank a ≤ rank d ∧ rank d ≤ rank b := by unfold btw at hd; omega);(obtain ⟨l1, l2⟩ := cub_bd (lo := units a) (hi := units b) (i := i) (n := n) h0 h1 (Int.le_refl _) (units_mono fa fb h) (units_mono fa fc k1.1) (units_mono fc fb k1.2) (units_mono fa fd k2.1) (units_mono fd fb k2.2) (units_mono fa fb h) (Int.le_refl _));(exact .inl ⟨over_above (by omega) fa (by rw [e]; exact l1), over_under (by omega) fb (by rw [e]; exact l2)⟩)
 ·have k1 : rank b ≤ rank c ∧ rank c ≤ rank a := by unfold btw at hc; omega
  (have k2 : rank b ≤ rank d ∧ rank d ≤ rank a := by unfold btw at hd; omega);(obtain ⟨l1, l2⟩ := cub_bd (lo := units b) (hi := units a) (i := i) (n := n) h0 h1 (units_mono fb fa h) (Int.le_refl _) (units_mono fb fc k1.1) (units_mono fc fa k1.2) (units_mono fb fd k2.1) (units_mono fd fa k2.2) (Int.le_refl _) (units_mono fb fa h));(exact .inr ⟨over_above (by omega) fb (by rw [e]; exact l1), over_under (by omega) fa (by rw [e]; exact l2)⟩)
theorem points_btw (a0 : Int) {l1 : List Int} {l2 : List Nat} (T : Tab l1 l2) {j : Int} (j0 : 0 ≤ j) (j1 : j + 1 < (l1.length : Int)) :
  ∃ c d : Nat, Evt (fun k => interp_points.f k a0 l1 l2 j) [rdOf (0 : Nat) l2 j, c, d, rdOf (0 : Nat) l2 (j + 1)] ∧ (c < 18446744073709551616 ∧ nan c = false ∧ btw (rdOf (0 : Nat) l2 j) (rdOf (0 : Nat) l2 (j + 1)) c) ∧ (d < 18446744073709551616 ∧ nan d = false ∧ btw c (rdOf (0 : Nat) l2 (j + 1)) d) := by
 (have h1 : 2 ≤ l1.length := by omega);(have hl2 := T.l);(have hn := T.n);(have hx := fun j h0 h1 => T.at (j := j) h0 h1);(have hy := T.fy);(obtain ⟨sl, hs, hsl, hall⟩ := slopes_some a0 l1 l2 h1 hl2 (by omega) hx hy 2);(obtain ⟨x1, x2⟩ := hx j j0 j1);(obtain ⟨n1, n2, n3⟩ := foi_pos x1 (by omega));(obtain ⟨y0, f0⟩ := hy j j0 (by omega));(obtain ⟨y1, f1⟩ := hy (j + 1) (by omega) (by omega));(have w1 : wrap64 (j + 1) = j + 1 := by unfold wrap64; omega);(have w2 : wrap64 (rd l1 (j + 1) - rd l1 j) = rd l1 (j + 1) - rd l1 j := by unfold wrap64; omega);(obtain ⟨m, hm, nm⟩ := mul_nn (rdOf_nn hall j0 (by omega)) n1 n2 n3);(obtain ⟨q, hq, nq⟩ := div_nn (y := 4613937818241073152) nm (by decide) (by decide) (by decide));(obtain ⟨s, h2, ns⟩ := add_nn y0 f0 nq);(obtain ⟨c, hc, c1, c2, c3⟩ := held_btw (l1.length - 1) ns y0 f0 y1 f1);(have fc := btw_fin f0 f1 c2 c3);(obtain ⟨m', hm', nm'⟩ := mul_nn (rdOf_nn hall (i := j + 1) (by omega) (by omega)) n1 n2 n3);(obtain ⟨q', hq', nq'⟩ := div_nn (y := 4613937818241073152) nm' (by decide) (by decide) (by decide));(obtain ⟨s', h2', ns'⟩ := sub_any y1 f1 nq');(obtain ⟨d, hd, d1, d2, d3⟩ := held_btw (l1.length - 1) ns' c1 fc y1 f1);(obtain ⟨mK, mV⟩ := fmul_is hm);(obtain ⟨qK, qV⟩ := fdiv_is hq);(obtain ⟨sK, sV'⟩ := fadd_is h2);(obtain ⟨mK', mV'⟩ := fmul_is hm');(obtain ⟨qK', qV'⟩ := fdiv_is hq');(obtain ⟨sK', sV''⟩ := fsub_is h2');(refine ⟨c, d, evt (interp_points.mono _ _ _ _) ⟨l1.length - 1 + 2, ?_⟩, ⟨c1, c2, c3⟩, ⟨d1, d2, d3⟩⟩);(unfold interp_points.f);(rw [hs, Option.bind_some, w1, w2, mV, qV, sV', mV', qV', sV'', show l1.length - 1 + 2 = l1.length - 1 + 1 + 1 by omega, hc]);(rw [if_pos (by omega), if_pos j1, if_pos j0, if_pos (by omega), if_pos (by omega), if_pos (by omega), if_pos (by omega), if_pos mK, if_pos qK, if_pos sK, Option.bind_some, if_pos (by omega), if_pos mK', if_pos qK', if_pos sK', hd, Option.bind_some])
theorem cubic_is (a0 : Int) {l1 : List Int} {l2 : List Nat} (T : Tab l1 l2) {j i n : Int} (j0 : 0 ≤ j) (j1 : j + 1 < (l1.length : Int)) (i0 : 0 ≤ i) (i1 : i ≤ n) (n1 : 1 ≤ n) (n2 : n ≤ 109572) :
  ∃ c d : Nat, Evt (fun k => interp_points.f k a0 l1 l2 j) [rdOf (0 : Nat) l2 j, c, d, rdOf (0 : Nat) l2 (j + 1)] ∧ (c < 18446744073709551616 ∧ nan c = false ∧ btw (rdOf (0 : Nat) l2 j) (rdOf (0 : Nat) l2 (j + 1)) c) ∧ (d < 18446744073709551616 ∧ nan d = false ∧ btw c (rdOf (0 : Nat) l2 (j + 1)) d) ∧
   Evt (fun k => interp_cubic.f k a0 l1 l2 j i n) (cubV (rdOf (0 : Nat) l2 j) c d (rdOf (0 : Nat) l2 (j + 1)) i n) := by
 (obtain ⟨c, d, hp, ⟨c1, c2, c3⟩, ⟨d1, d2, d3⟩⟩ := points_btw a0 T j0 j1);(refine ⟨c, d, hp, ⟨c1, c2, c3⟩, ⟨d1, d2, d3⟩, ?_⟩);(have hl2 := T.l);(obtain ⟨y0, f0⟩ := T.fy j j0 (by omega));(obtain ⟨y1, f1⟩ := T.fy (j + 1) (by omega) (by omega));(have fc := btw_fin f0 f1 c2 c3);(have fd := btw_fin fc f1 d2 d3);(generalize rdOf (0 : Nat) l2 j = a at *);(generalize rdOf (0 : Nat) l2 (j + 1) = b at *);(obtain ⟨e, e1, e2⟩ := cube_ok n1 (by omega));(have wj : wrap64 (n - i) = n - i := by unfold wrap64; omega);(have w3 : wrap64 (3 * (n - i)) = 3 * (n - i) := by unfold wrap64; omega);(obtain ⟨t0, u0, v0⟩ := tri (x := n - i) (y := n - i) (z := n - i) (by omega) (by omega) (by omega) (by omega) (by omega) (by omega));(obtain ⟨t1, u1, v1⟩ := tri (x := 3 * (n - i)) (y := n - i) (z := i) (by omega) (by omega) (by omega) (by omega) (by omega) (by omega));(obtain ⟨t2, u2, v2⟩ := tri (x := 3 * (n - i)) (y := i) (z := i) (by omega) (by omega) (by omega) (by omega) (by omega) (by omega));(obtain ⟨t3, u3, v3⟩ := tri (x := i) (y := i) (z := i) (by omega) (by omega) (by omega) (by omega) (by omega) (by omega))
 have hg : goodW (n * n * n) [(n - i) * (n - i) * (n - i), 3 * (n - i) * (n - i) * i, 3 * (n - i) * i * i, i * i * i] [a, c, d, b] = true := goodW_of e1 e2 rfl (by show 4 ≤ 1048576; decide) (fun z hz => by
   simp only [List.mem_cons, List.not_mem_nil, or_false] at hz
   rcases hz with h | h | h | h <;> rw [h] <;> omega) (fun z hz => by
   simp only [List.mem_cons, List.not_mem_nil, or_false] at hz
   rcases hz with rfl | rfl | rfl | rfl
   ·exact ⟨y0, f0⟩
   ·exact ⟨c1, fc⟩
   ·exact ⟨d1, fd⟩
   ·exact ⟨y1, f1⟩)
 have hS : sumW [(n - i) * (n - i) * (n - i), 3 * (n - i) * (n - i) * i, 3 * (n - i) * i * i, i * i * i] [a, c, d, b] = cubS (units a) (units c) (units d) (units b) i n := by
  (simp only [sumW]);(rw [unitsP_foi u0 v0 f0, unitsP_foi u1 v1 fc, unitsP_foi u2 v2 fd, unitsP_foi u3 v3 f1]);(unfold cubS; omega)
 (unfold interp_cubic.f);(refine Evt.bind hp (Evt.const fun _ => ?_));(rw [e, wj, w3, t0, t1, t2, t3]);(unfold interp_over.f);(rw [if_pos hg, hS]; rfl)
noncomputable def wayV (kd : Int) (xs : List Int) (ys : List Nat) (j i n : Int) : Nat :=
 if kd = 1 then rdOf (0 : Nat) ys j else if kd = 2 then linV (rdOf (0 : Nat) ys j) (rdOf (0 : Nat) ys (j + 1)) i n else if kd = 3 then lim 0 (fun k => interp_cubic.f k kd xs ys j i n) else logV (rdOf (0 : Nat) ys j) (rdOf (0 : Nat) ys (j + 1)) i n
theorem pair_at {ys : List Nat} {j : Int} (h0 : 0 ≤ j) (h1 : j + 1 < (ys.length : Int)) : (ys.take (j + 2).toNat).drop j.toNat = [rdOf (0 : Nat) ys j, rdOf (0 : Nat) ys (j + 1)] := by
 (obtain ⟨i, rfl⟩ := Int.eq_ofNat_of_zero_le h0);(rw [show ((i : Int) + 1) = ((i + 1 : Nat) : Int) by omega, rdfo_at (by omega), rdfo_at (by omega), show (((i : Nat) : Int) + 2).toNat = i + 2 by omega, show (((i : Nat) : Int)).toNat = i by omega]);(rw [List.drop_take, show i + 2 - i = 1 + 1 by omega, List.drop_eq_getElem_cons (show i < ys.length by omega), List.take_succ_cons, List.drop_eq_getElem_cons (show i + 1 < ys.length by omega), List.take_succ_cons, List.take_zero])
theorem way_is {kd : Int} {xs : List Int} {ys : List Nat} (T : Tab xs ys) (k1 : 1 ≤ kd) (k2 : kd ≤ 4) {j i n : Int} (j0 : 0 ≤ j) (j1 : j + 1 < (xs.length : Int)) (i0 : 0 ≤ i) (i1 : i ≤ n) (n1 : 1 ≤ n) (n2 : n ≤ 109572) :
  Evt (fun k => interp_way.f k kd xs ys j i n) (wayV kd xs ys j i n) ∧ wayV kd xs ys j i n < 18446744073709551616 ∧ nan (wayV kd xs ys j i n) = false ∧ btw (rdOf (0 : Nat) ys j) (rdOf (0 : Nat) ys (j + 1)) (wayV kd xs ys j i n) := by
 (have hl := T.l);(have hn := T.n);(obtain ⟨y0, p0⟩ := T.ry j0 (by omega));(obtain ⟨y1, p1⟩ := T.ry (i := j + 1) (by omega) (by omega));(obtain ⟨f0, _, _⟩ := posf_is p0);(obtain ⟨f1, _, _⟩ := posf_is p1);(unfold wayV interp_way.f)
 by_cases c1 : kd = 1
 ·simp only [if_pos c1]
  refine ⟨Evt.const fun _ => ?_, y0, fin_nan f0, ?_⟩
  ·unfold interp_flat.f
   rw [if_pos j0, if_pos (by omega)]
  ·unfold btw; omega
 simp only [if_neg c1]
 by_cases c2 : kd = 2
 ·simp only [if_pos c2]
  (refine ⟨Evt.const fun _ => ?_, (overV_nn _ _).w, (overV_nn _ _).k, linV_btw i0 i1 n1 f0 f1⟩);(have w2 : wrap64 (j + 2) = j + 2 := by unfold wrap64; omega);(unfold interp_linear.f);(rw [w2, if_pos j0, if_pos (by omega), if_pos (by omega), pair_at j0 (by omega)]);(unfold interp_over.f)
  rw [if_pos (goodW_of n1 (by omega) rfl (by show 2 ≤ 1048576; decide) (fun a ha => by
   simp only [List.mem_cons, List.not_mem_nil, or_false] at ha
   rcases ha with rfl | rfl
   ·exact wrap_abs _
   ·omega) (fun y hyy => by
   simp only [List.mem_cons, List.not_mem_nil, or_false] at hyy
   rcases hyy with rfl | rfl
   ·exact ⟨y0, f0⟩
   ·exact ⟨y1, f1⟩)), sumW_two i0 i1 (by omega) f0 f1]
  rfl
 simp only [if_neg c2]
 by_cases c3 : kd = 3
 ·simp only [if_pos c3]
  (obtain ⟨c, d, hp, ⟨c1, c2, c3⟩, ⟨d1, d2, d3⟩, hv⟩ := cubic_is kd T j0 j1 i0 i1 n1 n2);(have fc := btw_fin f0 f1 c2 c3);(have fd := btw_fin fc f1 d2 d3);(rw [lim_is hv]);(exact ⟨hv, (overV_nn _ _).w, (overV_nn _ _).k, cubV_btw i0 i1 n1 f0 f1 fc fd c3 d3⟩)
 (simp only [if_neg c3]);(obtain ⟨r, hr, r1, r2, r3⟩ := logs_some y0 y1 p0 p1 i0 i1 n1 (by omega));(have e : logV (rdOf (0 : Nat) ys j) (rdOf (0 : Nat) ys (j + 1)) i n = r := lim_is hr);(rw [e]);(refine ⟨hr.congr fun k => ?_, r1, r2, r3⟩);(have w2 : wrap64 (j + 1) = j + 1 := by unfold wrap64; omega);(unfold interp_logs.f logsF);(rw [if_pos j0, if_pos (by omega), w2]);(simp only [if_pos (show 0 ≤ j + 1 by omega), if_pos (show j + 1 < (ys.length : Int) by omega)])
noncomputable def atV (kd : Int) (xs : List Int) (ys : List Nat) (x : Int) : Nat × Int :=
 if x < rd xs 0 ∨ rd xs ((xs.length : Int) - 1) < x then (0, 51)
 else if rd xs ((cnt xs x : Int) - 1) = x then (rdOf (0 : Nat) ys ((cnt xs x : Int) - 1), 0)
 else (wayV kd xs ys ((cnt xs x : Int) - 1) (x - rd xs ((cnt xs x : Int) - 1)) (rd xs ((cnt xs x : Int) - 1 + 1) - rd xs ((cnt xs x : Int) - 1)), 0)
theorem at_is {kd : Int} {xs : List Int} {ys : List Nat} (T : Tab xs ys) (k1 : 1 ≤ kd) (k2 : kd ≤ 4) (x : Int) : Evt (fun k => interp_At.f k kd xs ys x) (atV kd xs ys x) := by
 (have hl := T.l);(have hn := T.n);(unfold atV interp_At.f interp_Find.f)
 by_cases c : x < rd xs 0 ∨ rd xs ((xs.length : Int) - 1) < x
 ·rw [if_pos c, find_out T c]
  refine Evt.bind (a := ((0 : Int), (51 : Int))) (Evt.bind (icheck_is T k1 k2) (Evt.const fun _ => ?_)) (Evt.const fun _ => ?_)
  ·rw [if_pos rfl]; rfl
  ·rw [if_neg (by decide)]
 (rw [if_neg c, find_in T (by omega) (by omega)]);(obtain ⟨j, j1, j2, j3, j4, j5⟩ := place_is T (x := x) (by omega) (by omega));(rw [j2, show (((j + 1 : Nat) : Int) - 1) = (j : Int) by omega]);(have rx := T.rx (i := (j : Int)) (by omega) (by omega));(refine Evt.bind (a := ((j : Int), 0)) (Evt.bind (icheck_is T k1 k2) (Evt.const fun _ => ?_)) ?_)
 ·rw [if_pos rfl]; rfl
 simp only [if_pos (show (0 : Int) ≤ (j : Int) ∧ (j : Int) < (xs.length : Int) ∧ (j : Int) < (ys.length : Int) by omega), if_true]
 by_cases c2 : rd xs (j : Int) = x
 ·simp only [if_pos c2]
  exact Evt.const fun _ => rfl
 (simp only [if_neg c2]);(have j6 := j5 c2);(have w1 : wrap64 ((j : Int) + 1) = (j : Int) + 1 := by unfold wrap64; omega);(have ra := T.at (j := (j : Int)) (by omega) (by omega));(have rb := T.at2 (j := (j : Int)) (by omega) (by omega));(have j7 := j4 j6);(rw [show ((j + 1 : Nat) : Int) = (j : Int) + 1 by omega] at j7);(have w2 : wrap64 (x - rd xs (j : Int)) = x - rd xs (j : Int) := by unfold wrap64; omega);(have w3 : wrap64 (rd xs ((j : Int) + 1) - rd xs (j : Int)) = rd xs ((j : Int) + 1) - rd xs (j : Int) := by unfold wrap64; omega);(rw [w1, w2, w3]);(simp only [if_pos (show (0 : Int) ≤ (j : Int) + 1 ∧ (j : Int) + 1 < (xs.length : Int) by omega)]);(exact Evt.bind (way_is T k1 k2 (by omega) (by omega) (by omega) (by omega) ra.1 rb).1 (Evt.const fun _ => rfl))
noncomputable def facV (b kd : Int) (ds : List Int) (fs : List Nat) (x : Int) : Nat × Int :=
 if chkC b kd ds fs = 0 then atV kd (b :: ds) (4607182418800017408 :: fs) x else (0, chkC b kd ds fs)
theorem factor_is (b kd : Int) (ds : List Int) (fs : List Nat) (hw : ∀ y ∈ fs, y < 18446744073709551616) (x : Int) : Evt (fun k => FQ.curve_Factor.f k b kd ds fs x) (facV b kd ds fs x) := by
 (unfold FQ.curve_Factor.f facV);(refine Evt.bind (check_is b kd ds fs hw) ?_)
 by_cases c : chkC b kd ds fs = 0
 ·simp only [if_pos c]
  obtain ⟨h1, h2, h3, h4⟩ := chk_zero.1 c
  have ht : curve_table.f b kd ds fs = some (kd, b :: ds, 4607182418800017408 :: fs) := by
   (unfold curve_table.f);(rw [Option.bind_some, if_pos (by show 1 + ds.length < _; omega), Option.bind_some, if_pos (by show 1 + fs.length < _; omega)]; rfl)
  refine Evt.after ht (Evt.bind (at_is (tab_of c hw) h2.1 h2.2 x) (Evt.const fun _ => rfl))
 ·simp only [if_neg c]
  exact Evt.const fun _ => rfl
theorem at_pos {kd : Int} {xs : List Int} {ys : List Nat} (T : Tab xs ys) (k1 : 1 ≤ kd) (k2 : kd ≤ 4) {x : Int} (h0 : (atV kd xs ys x).2 = 0) : (atV kd xs ys x).1 < 18446744073709551616 ∧ posf (atV kd xs ys x).1 = true := by
 (have hl := T.l);(have hn := T.n);(unfold atV at *)
 by_cases c : x < rd xs 0 ∨ rd xs ((xs.length : Int) - 1) < x
 ·rw [if_pos c] at h0; cases h0
 (rw [if_neg c]);(obtain ⟨j, j1, j2, j3, j4, j5⟩ := place_is T (x := x) (by omega) (by omega));(rw [j2, show (((j + 1 : Nat) : Int) - 1) = (j : Int) by omega])
 by_cases c2 : rd xs (j : Int) = x
 ·rw [if_pos c2]; exact T.ry (by omega) (by omega)
 (rw [if_neg c2]);(have j6 := j5 c2);(have ra := T.at (j := (j : Int)) (by omega) (by omega));(have rb := T.at2 (j := (j : Int)) (by omega) (by omega));(have j7 := j4 j6);(rw [show ((j + 1 : Nat) : Int) = (j : Int) + 1 by omega] at j7);(obtain ⟨_, w, nn, bt⟩ := way_is T k1 k2 (j := (j : Int)) (i := x - rd xs (j : Int)) (n := rd xs ((j : Int) + 1) - rd xs (j : Int)) (by omega) (by omega) (by omega) (by omega) ra.1 rb);(exact ⟨w, btw_pos (T.ry (by omega) (by omega)).2 (T.ry (i := (j : Int) + 1) (by omega) (by omega)).2 nn bt⟩)
theorem factor_pos {b kd : Int} {ds : List Int} {fs : List Nat} (hw : ∀ y ∈ fs, y < 18446744073709551616) {x : Int} (h0 : (facV b kd ds fs x).2 = 0) : (facV b kd ds fs x).1 < 18446744073709551616 ∧ posf (facV b kd ds fs x).1 = true := by
 unfold facV at *
 by_cases c : chkC b kd ds fs = 0
 ·rw [if_pos c] at h0 ⊢
  (obtain ⟨h1, h2, h3, h4⟩ := chk_zero.1 c);(exact at_pos (tab_of c hw) h2.1 h2.2 h0)
 ·rw [if_neg c] at h0; exact absurd h0 c
end Go.Proofs.YtmdoljecjliehaaGreat.FP
end

section
/- What flows are worth, plainly: what is wrong with flows, which count, their sum. -/
namespace Go.Proofs.YtmdoljecjliehaaGreat.FB
open Go.RowKit Go.Proofs.YtmdoljecjliehaaGreatW.PrintWords Go.Proofs.YtmdoljecjliehaaGreat.FX Go.Proofs.YtmdoljecjliehaaGreat.EV Go.Proofs.YtmdoljecjliehaaGreat.FP Tn
set_option linter.unusedVariables false
def fchk1 (f : S104) : Int := if f.f0 < 0 ∨ 109572 < f.f0 then 51 else if fin f.f1 = true then (if f.f2 < 1 ∨ 8 < f.f2 then 140 else 0) else 91
def fchkL : List S104 → Int
 | [] => 0
 | f :: l => if fchk1 f = 0 then fchkL l else fchk1 f
def fchk (l : List S104) : Int := if (l.length : Int) > 4096 then 81 else fchkL l
theorem rd_z {l : List S104} {i : Nat} (hi : i < l.length) : rd_T104 l (i : Int) = l[i] := by
 (unfold rd_T104);(rw [Int.toNat_natCast, List.getD_eq_getElem?_getD, List.getElem?_eq_getElem hi]; rfl)
theorem cur_is (x : Int) : flow_currency.f x = some (decide (1 ≤ x ∧ x ≤ 8)) := by
 unfold flow_currency.f
 by_cases c : x ≥ 1
 ·rw [if_pos c]; congr 1; rw [Bool.eq_iff_iff, decide_eq_true_iff, decide_eq_true_iff]; omega
 ·rw [if_neg c, decide_eq_false (by omega)]
theorem fchk_l0 (l : List S104) (hl : l.length ≤ 1000000) (hw : ∀ f ∈ l, f.f1 < 18446744073709551616) (k : Nat) :
  ∀ (m i : Nat), i + m = l.length → ∃ p, flow_Check.l0 (m + m + 1 + k) l (l.length : Int) (i : Int) = some (fchkL (l.drop i), p)
 | 0, i, h => by
  refine ⟨0, ?_⟩
  rw [show 0 + 0 + 1 + k = k + 1 by omega, flow_Check.l0, if_neg (by omega), List.drop_eq_nil_of_le (by omega), fchkL]
 | m + 1, i, h => by
  (have hi : i < l.length := by omega);(obtain ⟨p, ih⟩ := fchk_l0 l hl hw k m (i + 1) (by omega));(have w1 : wrap64 ((i : Int) + 1) = ((i + 1 : Nat) : Int) := by unfold wrap64; omega);(rw [show m + 1 + (m + 1) + 1 + k = (m + m + 1 + k + 1) + 1 by omega, flow_Check.l0, if_pos (by omega), if_pos (by omega), if_pos (by omega), rd_z hi, List.drop_eq_getElem_cons hi, fchkL]);(have hf := hw _ (List.getElem_mem hi))
  have hj1 : ∀ c : Bool, c = decide (l[i].f0 < 0 ∨ 109572 < l[i].f0) → ∃ p, flow_Check.j1 (m + m + 1 + k + 1) (i : Int) l (l.length : Int) (i : Int) c l[i].f0 l[i].f1 l[i].f2 = some (if fchk1 l[i] = 0 then fchkL (l.drop (i + 1)) else fchk1 l[i], p) := by
   (intro c hc);(rw [flow_Check.j1, w1, ih]);(rw [cur_is]);(unfold fchk1 flow_number.f);(generalize l[i] = f at *)
   by_cases c1 : f.f0 < 0 ∨ 109572 < f.f0
   ·rw [hc, decide_eq_true c1, if_pos rfl, if_pos c1, if_neg (by decide)]; exact ⟨_, rfl⟩
   rw [hc, decide_eq_false c1, if_neg (by decide), if_neg c1, if_pos hf, Option.bind_some]
   by_cases c2 : fin f.f1 = true
   ·rw [c2, if_pos rfl, if_pos rfl]
    by_cases c3 : f.f2 < 1 ∨ 8 < f.f2
    ·rw [if_pos c3, decide_eq_false (show ¬ (1 ≤ f.f2 ∧ f.f2 ≤ 8) by omega), Option.bind_some, if_neg (show ¬ false = true by decide), if_neg (show ¬ (140 : Int) = 0 by decide)]; exact ⟨_, rfl⟩
    ·rw [if_neg c3, decide_eq_true (show (1 ≤ f.f2 ∧ f.f2 ≤ 8) by omega), Option.bind_some, if_pos rfl, if_pos rfl]; exact ⟨_, rfl⟩
   ·rw [show fin f.f1 = false by simpa using c2, if_neg (show ¬ false = true by decide), if_neg (show ¬ false = true by decide), if_neg (show ¬ (91 : Int) = 0 by decide)]; exact ⟨_, rfl⟩
  by_cases c1 : l[i].f0 < 0
  ·rw [if_pos c1]; exact hj1 true (decide_eq_true (.inl c1)).symm
  ·rw [if_neg c1]; exact hj1 _ (by rw [Bool.eq_iff_iff, decide_eq_true_iff, decide_eq_true_iff]; omega)
theorem fchk_is (l : List S104) (hw : ∀ f ∈ l, f.f1 < 18446744073709551616) : ∃ p, Evt (fun k => flow_Check.f k l) (fchk l, p) := by
 unfold fchk flow_Check.f
 by_cases c : (l.length : Int) > 4096
 ·simp only [if_pos c]; exact ⟨0, Evt.const fun _ => rfl⟩
 (simp only [if_neg c]);(obtain ⟨p, h⟩ := fchk_l0 l (by omega) hw 0 l.length 0 (by omega));(rw [List.drop_zero] at h);(refine ⟨p, evt (fun k => ?_) ⟨_, h⟩⟩);(have := flow_Check.mono l k);(unfold flow_Check.f at this);(rw [if_neg c, if_neg c] at this);(exact this)
theorem fchkL_zero : ∀ {l : List S104}, fchkL l = 0 → ∀ f ∈ l, fchk1 f = 0
 | [], _, f, hf => by cases hf
 | a :: l, h, f, hf => by
  rw [fchkL] at h
  by_cases c : fchk1 a = 0
  ·rw [if_pos c] at h
   rcases List.mem_cons.1 hf with rfl | hf
   ·exact c
   ·exact fchkL_zero h f hf
  ·rw [if_neg c] at h; exact absurd h c
theorem fchk_zero {l : List S104} (h : fchk l = 0) : l.length ≤ 4096 ∧ ∀ f ∈ l, (0 ≤ f.f0 ∧ f.f0 ≤ 109572) ∧ fin f.f1 = true ∧ 1 ≤ f.f2 ∧ f.f2 ≤ 8 := by
 unfold fchk at h
 by_cases c : (l.length : Int) > 4096
 ·rw [if_pos c] at h; cases h
 (rw [if_neg c] at h);(refine ⟨by omega, fun f hf => ?_⟩);(have h1 := fchkL_zero h f hf);(unfold fchk1 at h1)
 split at h1
 ·cases h1
 split at h1
 ·rename_i hfin
  split at h1
  ·cases h1
  ·exact ⟨by omega, hfin, by omega, by omega⟩
 ·cases h1
def counts (cur b : Int) (f : S104) : Bool := decide (f.f2 = cur) && !decide (f.f0 < b)
noncomputable def firstE (cur b kd : Int) (ds : List Int) (fs : List Nat) : List S104 → Int
 | [] => 0
 | f :: l => if counts cur b f = true then (if (facV b kd ds fs f.f0).2 = 0 then firstE cur b kd ds fs l else (facV b kd ds fs f.f0).2) else firstE cur b kd ds fs l
noncomputable def worth1 (cur b kd : Int) (ds : List Int) (fs : List Nat) (f : S104) : Int := if counts cur b f = true then unitsP f.f1 (facV b kd ds fs f.f0).1 else 0
noncomputable def sumE (cur b kd : Int) (ds : List Int) (fs : List Nat) : List S104 → Int
 | [] => 0
 | f :: l => worth1 cur b kd ds fs f + sumE cur b kd ds fs l
theorem sumE_append (cur b kd : Int) (ds : List Int) (fs : List Nat) : ∀ l m : List S104, sumE cur b kd ds fs (l ++ m) = sumE cur b kd ds fs l + sumE cur b kd ds fs m
 | [], m => by rw [List.nil_append, sumE, Int.zero_add]
 | f :: l, m => by rw [List.cons_append, sumE, sumE, sumE_append, Int.add_assoc]
theorem sumE_next (cur b kd : Int) (ds : List Int) (fs : List Nat) {l : List S104} {i : Nat} (hi : i < l.length) : sumE cur b kd ds fs (l.take (i + 1)) = sumE cur b kd ds fs (l.take i) + worth1 cur b kd ds fs l[i] := by
 rw [List.take_succ_eq_append_getElem hi, sumE_append, sumE, sumE, Int.add_zero]
theorem worth1_bd (cur b kd : Int) (ds : List Int) (fs : List Nat) (f : S104) : (worth1 cur b kd ds fs f).natAbs ≤ B 66 := by
 unfold worth1
 split
 ·exact unitsP_bd _ _
 ·exact Nat.zero_le _
theorem sumE_bd (cur b kd : Int) (ds : List Int) (fs : List Nat) : ∀ l : List S104, (sumE cur b kd ds fs l).natAbs ≤ l.length * B 66
 | [] => by simp [sumE]
 | f :: l => by
  (rw [sumE, List.length_cons, Nat.add_mul, Nat.one_mul]);(have h1 := sumE_bd cur b kd ds fs l);(have h2 := worth1_bd cur b kd ds fs f);(have := Int.natAbs_add_le (worth1 cur b kd ds fs f) (sumE cur b kd ds fs l));(omega)
theorem sumE_lt (cur b kd : Int) (ds : List Int) (fs : List Nat) {l : List S104} (h : l.length ≤ 1048576) : (sumE cur b kd ds fs l).natAbs < B 67 :=
 Nat.lt_of_le_of_lt (sumE_bd cur b kd ds fs l) (few_B h (by decide))
noncomputable def eachE (cur b kd : Int) (ds : List Int) (fs : List Nat) (l : List S104) : Int :=
 if fchk l = 0 then (if cur < 1 ∨ 8 < cur then 140 else if chkC b kd ds fs = 0 then firstE cur b kd ds fs l else chkC b kd ds fs) else fchk l
end Go.Proofs.YtmdoljecjliehaaGreat.FB
end
