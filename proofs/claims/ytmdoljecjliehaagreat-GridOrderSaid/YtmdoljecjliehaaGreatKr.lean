/- A bump by nothing changes nothing; risk.Gamma at 0. -/
import Derived.Test.YtmdoljecjliehaaGreatKp
import Derived.Test.YtmdoljecjliehaaGreatSm
namespace Go.Proofs.YtmdoljecjliehaaGreat.FB
open Go.RowKit Go.Proofs.YtmdoljecjliehaaGreatW.PrintWords Go.Proofs.YtmdoljecjliehaaGreatW.PrintLast Go.Proofs.YtmdoljecjliehaaGreatW.PrintMore Go.Proofs.YtmdoljecjliehaaGreat.FX Go.Proofs.YtmdoljecjliehaaGreat.EV Go.Proofs.YtmdoljecjliehaaGreat.FP Tn
attribute [local go_sem] run_store_float run_neg_float run_fmul run_fadd run_fsub run_fdiv isSome_setCell
set_option linter.unusedVariables false
set_option linter.unusedSimpArgs false
theorem exp_at0 : fn_Exp.f 27 0 = some 4607182418800017408 := by kernel_rfl
theorem exp_atn : fn_Exp.f 27 9223372036854775808 = some 4607182418800017408 := by kernel_rfl
def nought (h : Nat) : Prop := h = 0 ∨ h = 9223372036854775808
theorem exp_none {x : Nat} (h : nought x) : expV x = 4607182418800017408 := by
 refine lim_is (evt (fn_Exp.mono x) ⟨27, ?_⟩)
 rcases h with rfl | rfl
 ·exact exp_at0
 ·exact exp_atn
theorem nought_sg (s : Bool) : nought (sgB s + 0) := by cases s <;> simp [nought, sgB]
theorem nought_neg {x : Nat} (h : nought x) : nought (fneg x) := by
 rcases h with rfl | rfl
 ·exact .inr (by decide)
 ·exact .inl (by decide)
theorem nought_fin {x : Nat} (h : nought x) : x < 18446744073709551616 ∧ fin x = true ∧ mag x = 0 := by
 rcases h with rfl | rfl <;> decide
theorem mul_k (m : Nat) (p : Int) (E : Nat) : nr (m * dm E) (p + dp E) = nr (m * V E) (p + -1074) := by
 (have := dp_ge E);(have g := nr_scale' (m * dm E) (dp E + 1074).toNat (p + -1074));(rw [Nat.mul_assoc, ← V_def] at g);(rw [g]; congr 1; omega)
theorem mul_one {f : Nat} (hf : f < 18446744073709551616) (pf : posf f = true) : fmulV f 4607182418800017408 = f := by
 (obtain ⟨f1, f2, f3⟩ := posf_is pf);(obtain ⟨_, v⟩ := fmul_is (mul_fin' hf (y := 4607182418800017408) (by decide) f1 (by decide)));(rw [v]);(unfold prodN);(have mf : mag f < 9218868437227405312 := of_decide_eq_true f1);(have k := mul_k (dm (mag f)) (dp (mag f)) (mag 4607182418800017408))
 have k1 : mag f = nr (dm (mag f) * V 4607182418800017408) (dp (mag f) + -1074) := by
  (have g := nr_scale' (dm (mag f)) ((0 : Int) + 1074).toNat (dp (mag f) + -1074));(have h1 := V_rung (a := 0) (by decide) (by decide));(rw [show rung 0 = 4607182418800017408 by decide] at h1);(rw [h1, g, show dp (mag f) + -1074 + ((((0 : Int) + 1074).toNat : Nat) : Int) = dp (mag f) by omega, nr_self mf])
 rw [k, show mag 4607182418800017408 = 4607182418800017408 by decide, ← k1, f2, show sgn 4607182418800017408 = false by decide]
 show sgB false + mag f = f
 (unfold sgn at f2);(have f4 := of_decide_eq_false f2);(unfold mag sgB);(simp only [Bool.false_eq_true, if_false]);(omega)
theorem bump_nothing {b d : Int} {f h : Nat} (h1 : 1 ≤ d - b) (h2 : d - b ≤ 1000000) (hh : nought h) (hf : f < 18446744073709551616) (pf : posf f = true) : bumpV b d f h = f := by
 (obtain ⟨x1, x2, x3⟩ := nought_fin hh);(have w1 : wrap64 (d - b) = d - b := by unfold wrap64; omega);(obtain ⟨q, hq, mq⟩ := mg_div (a := 63) (b := 8) (foi_mg (n := d - b) (by omega)) (y := 4645128764097822720) (by decide) (by decide) (by decide) (by decide) (by decide) (by decide) (by decide) (by decide) (by decide));(have ht : timeV b d = q := by unfold timeV; rw [w1]; exact (fdiv_is hq).2);(have hm : fmulV h q = prodN h q := (fmul_is (mul_fin' x1 mq.w x2 (mq.fin (by decide)))).2)
 have hz : nought (fmulV h q) := by
  (rw [hm]; unfold prodN);(rw [x3, show dm 0 = 0 from rfl, Nat.zero_mul, nr_zero]);(exact nought_sg _)
 (unfold bumpV);(rw [ht, exp_none (nought_neg hz), mul_one hf pf])
theorem node_nothing {b kd : Int} {ds : List Int} {fs : List Nat} {h : Nat} (hc : chkC b kd ds fs = 0) (hw : ∀ y ∈ fs, y < 18446744073709551616) (hh : nought h) {j : Nat} (hj : j < fs.length) : bumpV b (rd ds (j : Int)) (rdOf (0 : Nat) fs (j : Int)) h = rdOf (0 : Nat) fs (j : Int) ∧ posf (rdOf (0 : Nat) fs (j : Int)) = true := by
 (obtain ⟨c1, c2, c3, c4⟩ := chk_zero.1 hc);(obtain ⟨a1, a2, a3, a4⟩ := asc_pw c4);(have hjd : j < ds.length := by omega);(have r1 : rd ds (j : Int) = ds[j] := rdi_at hjd);(have r2 : rdOf (0 : Nat) fs (j : Int) = fs[j] := rdf_at hj);(have q := a1 ds[j] (List.getElem_mem _));(rw [r1, r2]);(exact ⟨bump_nothing (by omega) (by omega) hh (hw _ (List.getElem_mem _)) (a4 _ (List.getElem_mem _)), a4 _ (List.getElem_mem _)⟩)
theorem par_nothing {b kd : Int} {ds : List Int} {fs : List Nat} {h : Nat} (hc : chkC b kd ds fs = 0) (hw : ∀ y ∈ fs, y < 18446744073709551616) (hh : nought h) : parE b kd ds fs h = 0 ∧ parL b ds fs h = fs := by
 have n := fun j hj => node_nothing hc hw hh (j := j) hj
 constructor
 ·unfold parE
  (rw [if_pos hc, if_pos (nought_fin hh).2.1, if_pos]);(rw [List.all_eq_true]);(intro j hj);(have hj2 := List.mem_range.1 hj);(unfold nodeAt);(rw [(n j hj2).1]; exact (n j hj2).2)
 ·unfold parL
  (refine List.ext_getElem (by rw [List.length_map, List.length_range]) fun i h1 h2 => ?_);(rw [List.getElem_map, List.getElem_range]);(unfold nodeAt);(rw [(n i h2).1]; exact rdf_at h2)
theorem one_nothing {b kd : Int} {ds : List Int} {fs : List Nat} {h : Nat} (hc : chkC b kd ds fs = 0) (hw : ∀ y ∈ fs, y < 18446744073709551616) (hh : nought h) {i : Int} (i0 : 0 ≤ i) (i1 : i < (ds.length : Int)) : bumpE b kd ds fs i h = 0 ∧ bumpL b ds fs i h = fs := by
 (have hl : ds.length = fs.length := (chk_zero.1 hc).2.2.1.2.2);(obtain ⟨j, rfl⟩ := Int.eq_ofNat_of_zero_le i0);(have hj : j < fs.length := by omega);(have n := node_nothing hc hw hh hj)
 constructor
 ·unfold bumpE nodeE
  rw [if_pos hc, if_neg (by omega), if_pos (nought_fin hh).2.1, n.1, if_pos n.2]
 ·unfold bumpL
  rw [n.1, rdf_at hj, Int.toNat_natCast, List.set_getElem_self]
end Go.Proofs.YtmdoljecjliehaaGreat.FB
