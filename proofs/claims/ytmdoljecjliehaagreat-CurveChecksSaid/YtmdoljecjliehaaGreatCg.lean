/- CurveChecks, the plain law. No walk. -/
import Derived.Test.YtmdoljecjliehaaGreatFXcx4
import Derived.Test.YtmdoljecjliehaaGreatCf
namespace Go.Proofs.YtmdoljecjliehaaGreat.FXc
open Go.RowKit Go.Proofs.YtmdoljecjliehaaGreatW.PrintWords Go.Proofs.YtmdoljecjliehaaGreatW.PrintLast Go.Proofs.YtmdoljecjliehaaGreatW.PrintMore Tn
open Go.Proofs.YtmdoljecjliehaaGreat.FX Go.Proofs.YtmdoljecjliehaaGreat.FP Go.Proofs.YtmdoljecjliehaaGreat.FQ Go.Proofs.YtmdoljecjliehaaGreat.EV Go.Proofs.YtmdoljecjliehaaGreat.FXa
open Go.Proofs.YtmdoljecjliehaaGreat.FXb (aw falls_is chain)
set_option linter.unusedVariables false
theorem bits_at (x : Nat) : api_Bits.f x = some (x : Int) := rfl
theorem of_l0 (b kd : Int) (ds : List Int) (fs : List Nat) (hl : fs.length ≤ 1000) : ∀ (d i : Nat), i + d = fs.length → Evt (fun k => tenorref11_Of.l0 k (i : Int) b kd ds fs b kd ds (bitsL (fs.take i))) (b, kd, ds, bitsL fs)
 | 0, i, h => by
  refine Evt.last fun k => ?_
  rw [tenorref11_Of.l0, if_neg (by omega), List.take_of_length_le (by omega)]
 | d + 1, i, h => by
  (refine Evt.next (of_l0 b kd ds fs hl d (i + 1) (by omega)) fun k => ?_);(have hi : i < fs.length := by omega);(rw [tenorref11_Of.l0, if_pos (by omega), if_pos (by omega), rdf_at hi, bits_at, Option.bind_some, if_pos (by rw [bitsL_len, List.length_take]; omega), wr hi (by omega), List.take_succ_eq_append_getElem hi]);(unfold bitsL; rw [List.map_append]; rfl)
theorem of_is (b kd : Int) (ds : List Int) (fs : List Nat) (hl : fs.length ≤ 1000) : Evt (fun k => tenorref11_Of.f k b kd ds fs) (b, kd, ds, bitsL fs) := of_l0 b kd ds fs hl fs.length 0 (by omega)
theorem andnot_mag {a : Nat} (h : a < 18446744073709551616) : Go.bits .andNot .u64 (a : Int) 9223372036854775808 = ((mag a : Nat) : Int) := andNot_sign a h
theorem num_at {a : Nat} (h : a < 18446744073709551616) : tenorref1_Number.f (a : Int) = some (fin a) := by
 (unfold tenorref1_Number.f);(rw [andnot_mag h]);(exact congrArg some (fin_int a))
theorem nan_at {a : Nat} (h : a < 18446744073709551616) : tenorref1_IsNaN.f (a : Int) = some (nan a) := by
 (unfold tenorref1_IsNaN.f);(rw [andnot_mag h]);(exact congrArg some (nan_int a))
theorem rank_at {a : Nat} (h : a < 18446744073709551616) (hn : nan a = false) : tenorref1_Rank.f (a : Int) = some (rank a, true) := by
 (unfold tenorref1_Rank.f);(rw [nan_at h, hn, Option.bind_some, if_neg (by decide)])
 have hm : mag a ≤ 9218868437227405312 := by
  (unfold nan at hn);(have := of_decide_eq_false hn);(omega)
 (rw [rank_val hn]);(unfold sgn mag at *)
 by_cases c : 9223372036854775808 ≤ a
 ·rw [if_pos (by omega), if_pos (decide_eq_true c)]
  (have e1 : IntKind.u64.wrap ((a : Int) - 9223372036854775808) = (a : Int) - 9223372036854775808 := by rw [IntKind.wrap_u64]; omega);(rw [e1])
  congr 2
  unfold wrap64; omega
 ·rw [if_neg (by omega), if_neg (by simpa using c)]
  congr 2
  unfold wrap64; omega
theorem lt0_at {a : Nat} (h : a < 18446744073709551616) (hf : fin a = true) : tenorref1_Lt.f 0 (a : Int) = some (posf a) := by
 (have r0 : tenorref1_Rank.f 0 = some (0, true) := by decide +kernel);(unfold tenorref1_Lt.f);(rw [r0, rank_at h (fin_nan hf), Option.bind_some, Option.bind_some]);(simp only [if_true])
 congr 1
 cases c : posf a
 ·refine decide_eq_false fun q => ?_
  rw [posf_of hf q] at c; cases c
 ·exact decide_eq_true (posf_rank c)
theorem rchk_l0 (b kd : Int) (ds : List Int) (fs : List Nat) (hl : ds.length = fs.length) (hd : ds.length ≤ 1000) (hw : ∀ y ∈ fs, y < 18446744073709551616) : ∀ (d i : Nat) (last : Int), i + d = ds.length → Evt (fun k => tenorref11_Check.l0 k last (i : Int) b kd ds (bitsL fs)) (if asc last (ds.drop i) (fs.drop i) = true then 0 else 100)
 | 0, i, last, h => by
  refine Evt.last fun k => ?_
  rw [tenorref11_Check.l0, if_neg (by omega), List.drop_eq_nil_of_le (by omega), List.drop_eq_nil_of_le (by omega)]; rfl
 | d + 1, i, last, h => by
  (have hi : i < ds.length := by omega);(have hj : i < fs.length := by omega);(have ih := rchk_l0 b kd ds fs hl hd hw d (i + 1) ds[i] (by omega));(have hy := hw fs[i] (List.getElem_mem _));(rw [List.drop_eq_getElem_cons hi, List.drop_eq_getElem_cons hj]);(refine Evt.next (f := fun k => tenorref11_Check.l0 (k + 1) last (i : Int) b kd ds (bitsL fs)) ?_ fun k => rfl);(unfold tenorref11_Check.l0);(refine Evt.ifT (by omega) (Evt.ifT (by omega) ?_));(rw [rdi_at hi, rdb_at hj, num_at hy])
  by_cases c1 : ds[i] ≤ last
  ·refine Evt.ifT c1 (Evt.const fun k => ?_)
   rw [if_neg]; intro q; exact absurd (asc_cons.1 q).1 (by omega)
  refine Evt.ifF c1 ?_
  by_cases c2 : ds[i] > 109572
  ·refine Evt.ifT c2 (Evt.const fun k => ?_)
   rw [if_neg]; intro q; exact absurd (asc_cons.1 q).2.1 (by omega)
  refine Evt.ifF c2 (Evt.ifT (by rw [bitsL_len]; omega) (Evt.after rfl ?_))
  by_cases c3 : fin fs[i] = true
  rotate_left
  ·refine Evt.ifF c3 (Evt.const fun k => ?_)
   rw [if_neg]; intro q; exact absurd (posf_is (asc_cons.1 q).2.2.1).1 c3
  refine Evt.ifT c3 (Evt.after (lt0_at hy c3) ?_)
  by_cases c4 : posf fs[i] = true
  rotate_left
  ·refine Evt.ifF c4 (Evt.const fun k => ?_)
   rw [if_neg]; intro q; exact absurd (asc_cons.1 q).2.2.1 c4
  (refine Evt.ifT c4 ?_);(rw [wr hi (by omega)])
  have e : (asc last (ds[i] :: ds.drop (i + 1)) (fs[i] :: fs.drop (i + 1)) = true) = (asc ds[i] (ds.drop (i + 1)) (fs.drop (i + 1)) = true) := by
   rw [eq_iff_iff, asc_cons]
   constructor
   ·exact fun q => q.2.2.2
   ·exact fun q => ⟨by omega, by omega, c4, q⟩
  (simp only [e]);(exact ih)
theorem rchk_is (b kd : Int) (ds : List Int) (fs : List Nat) (hd : ds.length ≤ 1000) (hw : ∀ y ∈ fs, y < 18446744073709551616) : Evt (fun k => tenorref11_Check.f k b kd ds (bitsL fs)) (chkC b kd ds fs) := by
 have j2 : ∀ x : Bool, (x = false → ds.length = fs.length) → Evt (fun k => tenorref11_Check.j2 k x b kd ds (bitsL fs)) (if x = true then 100 else if asc b ds fs = true then 0 else 100) := fun x hx => by
  (refine Evt.next (f := fun k => tenorref11_Check.j2 (k + 1) x b kd ds (bitsL fs)) ?_ fun k => rfl);(unfold tenorref11_Check.j2);(cases x)
  ·refine Evt.ifF (by decide) ?_
   (rw [if_neg (by decide)]);(exact rchk_l0 b kd ds fs (hx rfl) hd hw ds.length 0 b (by omega))
  ·exact Evt.ifT rfl (Evt.const fun k => rfl)
 have lenC : Evt (fun k => if (ds.length : Int) < 1 then tenorref11_Check.j2 k true b kd ds (bitsL fs) else if (ds.length : Int) > 255 then tenorref11_Check.j2 k true b kd ds (bitsL fs) else tenorref11_Check.j2 k ((ds.length : Int) != ((bitsL fs).length : Int)) b kd ds (bitsL fs)) (if 1 ≤ ds.length ∧ ds.length ≤ 255 ∧ ds.length = fs.length then (if asc b ds fs = true then 0 else 100) else 100) := by
  by_cases c1 : (ds.length : Int) < 1
  ·refine Evt.ifT c1 ?_
   (rw [if_neg (by omega)]);(exact j2 true (fun h => by cases h))
  refine Evt.ifF c1 ?_
  by_cases c2 : (ds.length : Int) > 255
  ·refine Evt.ifT c2 ?_
   (rw [if_neg (by omega)]);(exact j2 true (fun h => by cases h))
  (refine Evt.ifF c2 ?_);(rw [bitsL_len])
  by_cases c3 : ds.length = fs.length
  ·rw [if_pos (by omega)]
   (have e : ((ds.length : Int) != (fs.length : Int)) = false := bne_eq_false_iff_eq.2 (by omega));(rw [e]);(exact j2 false (fun _ => c3))
  ·rw [if_neg (by omega)]
   (have e : ((ds.length : Int) != (fs.length : Int)) = true := bne_iff_ne.2 (by omega));(rw [e]);(exact j2 true (fun h => by cases h))
 have j1 : ∀ x : Bool, Evt (fun k => tenorref11_Check.j1 k x b kd ds (bitsL fs)) (if x = true then 90 else (if 1 ≤ ds.length ∧ ds.length ≤ 255 ∧ ds.length = fs.length then (if asc b ds fs = true then 0 else 100) else 100)) := fun x => by
  (refine Evt.next (f := fun k => tenorref11_Check.j1 (k + 1) x b kd ds (bitsL fs)) ?_ fun k => rfl);(unfold tenorref11_Check.j1);(cases x)
  ·exact Evt.ifF (by decide) (by rw [if_neg (by decide)]; exact lenC)
  ·exact Evt.ifT rfl (Evt.const fun k => rfl)
 have kdC : Evt (fun k => if kd < 1 then tenorref11_Check.j1 k true b kd ds (bitsL fs) else tenorref11_Check.j1 k (decide (kd > 4)) b kd ds (bitsL fs)) (if 1 ≤ kd ∧ kd ≤ 4 then (if 1 ≤ ds.length ∧ ds.length ≤ 255 ∧ ds.length = fs.length then (if asc b ds fs = true then 0 else 100) else 100) else 90) := by
  by_cases c1 : kd < 1
  ·refine Evt.ifT c1 ?_
   rw [if_neg (by omega)]; exact j1 true
  refine Evt.ifF c1 ?_
  by_cases c2 : kd > 4
  ·rw [if_neg (by omega), decide_eq_true c2]; exact j1 true
  ·rw [if_pos (by omega), decide_eq_false c2]; exact j1 false
 have j0 : ∀ x : Bool, Evt (fun k => tenorref11_Check.j0 k x b kd ds (bitsL fs)) (if x = true then 51 else (if 1 ≤ kd ∧ kd ≤ 4 then (if 1 ≤ ds.length ∧ ds.length ≤ 255 ∧ ds.length = fs.length then (if asc b ds fs = true then 0 else 100) else 100) else 90)) := fun x => by
  (refine Evt.next (f := fun k => tenorref11_Check.j0 (k + 1) x b kd ds (bitsL fs)) ?_ fun k => rfl);(unfold tenorref11_Check.j0);(cases x)
  ·exact Evt.ifF (by decide) (by rw [if_neg (by decide)]; exact kdC)
  ·exact Evt.ifT rfl (Evt.const fun k => rfl)
 have e : chkC b kd ds fs = if 0 ≤ b ∧ b ≤ 109572 then (if 1 ≤ kd ∧ kd ≤ 4 then (if 1 ≤ ds.length ∧ ds.length ≤ 255 ∧ ds.length = fs.length then (if asc b ds fs = true then 0 else 100) else 100) else 90) else 51 := by
  unfold chkC
  (repeat' split) <;> first | rfl | omega
 (rw [e]);(unfold tenorref11_Check.f)
 by_cases c1 : b < 0
 ·refine Evt.ifT c1 ?_
  rw [if_neg (by omega)]; exact j0 true
 refine Evt.ifF c1 ?_
 by_cases c2 : b > 109572
 ·rw [if_neg (by omega), decide_eq_true c2]; exact j0 true
 ·rw [if_pos (by omega), decide_eq_false c2]; exact j0 false
theorem is_zero : tenorlaw1_Is.f 0 0 = some true := by decide +kernel
theorem same_none : Evt (fun k => tenorref11_Same.f k 0 0 ([] : List Int) ([] : List Nat) 0 0 ([] : List Int) ([] : List Int)) true := ⟨5, fun n hn => by
 obtain ⟨m, rfl⟩ : ∃ m, n = m + 5 := ⟨n - 5, by omega⟩
 kernel_rfl⟩
theorem law (b kd : Int) (ds : List Int) (fs : List Nat) (n : Int) (hw : ∀ y ∈ fs, y < 18446744073709551616) : ∃ k, tenorlaw11_CurveChecks.f k b kd ds fs n = some true := by
 refine Evt.get ?_
 have j0 : ∀ x : Bool, (x = false → ds.length ≤ 300 ∧ fs.length ≤ 300) → Evt (fun k => tenorlaw11_CurveChecks.j0 k n x b kd ds fs) true := fun x hx => by
  (refine Evt.next (f := fun k => tenorlaw11_CurveChecks.j0 (k + 1) n x b kd ds fs) ?_ fun k => rfl);(unfold tenorlaw11_CurveChecks.j0);(rw [aw]);(cases x);(rotate_left)
  ·exact Evt.ifT rfl (Evt.const fun k => rfl)
  (obtain ⟨l1, l2⟩ := hx rfl);(have RC := rchk_is b kd ds fs (by omega) hw);(have CK := check_is b kd ds fs hw);(refine Evt.ifF (by decide) (Evt.bind CK (Evt.bind (of_is b kd ds fs (by omega)) (Evt.bind RC (Evt.ifT rfl ?_)))))
  by_cases c : chkC b kd ds fs = 0
  ·obtain ⟨c1, c2, c3, c4⟩ := chk_zero.1 c
   have w1 : wrap64 ((ds.length : Int) - 1) = (ds.length : Int) - 1 := by unfold wrap64; omega
   have LA : Evt (fun k => curve_Last.f k b kd ds fs) (rd ds ((ds.length : Int) - 1), 0) := by
    (unfold curve_Last.f);(refine Evt.bind CK (Evt.ifT c ?_));(rw [w1]);(exact Evt.ifT (by omega) (Evt.ifT (by omega) (Evt.const fun k => rfl)))
   have LB : Evt (fun k => tenorref11_Last.f k b kd ds (bitsL fs)) (rd ds ((ds.length : Int) - 1), 0) := by
    (unfold tenorref11_Last.f);(refine Evt.bind RC (Evt.ifT c ?_));(rw [w1]);(exact Evt.ifT (by omega) (Evt.ifT (by omega) (Evt.const fun k => rfl)))
   refine Evt.bind LA (Evt.bind (of_is b kd ds fs (by omega)) (Evt.bind LB (Evt.ifT rfl (Evt.ifT rfl (Evt.ifT c (Evt.const fun k => rfl))))))
  ·have LA : Evt (fun k => curve_Last.f k b kd ds fs) (0, chkC b kd ds fs) := by
    (unfold curve_Last.f);(exact Evt.bind CK (Evt.ifF c (Evt.const fun k => rfl)))
   have LB : Evt (fun k => tenorref11_Last.f k b kd ds (bitsL fs)) (0, chkC b kd ds fs) := by
    (unfold tenorref11_Last.f);(exact Evt.bind RC (Evt.ifF c (Evt.const fun k => rfl)))
   (have fv : ∀ x, facV b kd ds fs x = (0, chkC b kd ds fs) := fun x => by unfold facV; rw [if_neg c]);(have FA := factor_is b kd ds fs hw n);(rw [fv] at FA)
   have FO : Evt (fun k => curve_Forward.f k b kd ds fs 1 0 ([] : List _) n n) (0, chkC b kd ds fs) := by
    (unfold curve_Forward.f);(exact Evt.bind FA (Evt.ifF c (Evt.const fun k => rfl)))
   have FZ : Evt (fun k => curve_Zero.f k b kd ds fs 1 1 0 ([] : List _) n) (0, chkC b kd ds fs) := by
    (unfold curve_Zero.f);(exact Evt.bind FA (Evt.ifF c (Evt.const fun k => rfl)))
   (have FF := falls_is b kd ds fs hw);(rw [if_neg c] at FF)
   have FS : Evt (fun k => curve_Single.f k b kd ds fs) (0, 0, ([] : List Int), ([] : List Nat), chkC b kd ds fs) := by
    (unfold curve_Single.f);(exact Evt.bind CK (Evt.ifF c (Evt.const fun k => rfl)))
   (refine Evt.bind LA (Evt.bind (of_is b kd ds fs (by omega)) (Evt.bind LB (Evt.ifT rfl (Evt.ifT rfl (Evt.ifF c ?_))))));(refine Evt.bind FA (Evt.bind FO (Evt.bind FZ (Evt.bind FF (Evt.bind FS ?_)))));(refine Evt.after is_zero (Evt.ifT rfl (Evt.after is_zero (Evt.ifT rfl (Evt.after is_zero (Evt.ifT rfl (Evt.ifF (fun h => absurd (show false = true from h) (by decide)) ?_)))))));(exact Evt.bind same_none (Evt.ifT rfl (Evt.ifT rfl (Evt.ifT rfl (Evt.ifT rfl (Evt.ifT rfl (Evt.ifT rfl (Evt.const fun k => rfl))))))))
 unfold tenorlaw11_CurveChecks.f
 by_cases c : (ds.length : Int) > 300
 ·exact Evt.ifT c (j0 true fun h => by cases h)
 ·refine Evt.ifF c (j0 _ fun h => ?_)
  (have := of_decide_eq_false h);(omega)
end Go.Proofs.YtmdoljecjliehaaGreat.FXc
