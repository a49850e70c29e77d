/- A bump by nothing changes nothing; risk.Gamma at 0. -/
import Derived.Test.YthkcphdhmkcdkaaKp
import Derived.Test.YthkcphdhmkcdkaaSm
namespace Go.Proofs.Ythkcphdhmkcdkaa.FB
open Go.RowKit Go.Proofs.YthkcphdhmkcdkaaW.PrintWords Go.Proofs.YthkcphdhmkcdkaaW.PrintLast Go.Proofs.YthkcphdhmkcdkaaW.PrintMore Go.Proofs.Ythkcphdhmkcdkaa.FX Go.Proofs.Ythkcphdhmkcdkaa.EV Go.Proofs.Ythkcphdhmkcdkaa.FP Tn
attribute [local go_sem] run_store_float run_neg_float run_fmul run_fadd run_fsub run_fdiv isSome_setCell
set_option linter.unusedVariables false
set_option linter.unusedSimpArgs false
theorem exp_at0 : fn_Exp.f 27 0 = some 4607182418800017408 := by kernel_rfl
theorem exp_atn : fn_Exp.f 27 9223372036854775808 = some 4607182418800017408 := by kernel_rfl
def nought (h : Nat) : Prop := h = 0 ∨ h = 9223372036854775808
theorem exp_none {x : Nat} (h : nought x) : expV x = 4607182418800017408 := by
 refine lim_is (evt (fn_Exp.mono x) ⟨27, ?_⟩)
 rcases h with rfl | rfl
 ·exact exp_at0
 ·exact exp_atn
theorem nought_sg (s : Bool) : nought (sgB s + 0) := by cases s <;> simp [nought, sgB]
theorem nought_neg {x : Nat} (h : nought x) : nought (fneg x) := by
 rcases h with rfl | rfl
 ·exact .inr (by decide)
 ·exact .inl (by decide)
theorem nought_fin {x : Nat} (h : nought x) : x < 18446744073709551616 ∧ fin x = true ∧ mag x = 0 := by
 rcases h with rfl | rfl <;> decide
theorem mul_k (m : Nat) (p : Int) (E : Nat) : nr (m * dm E) (p + dp E) = nr (m * V E) (p + -1074) := by
 (have := dp_ge E);(have g := nr_scale' (m * dm E) (dp E + 1074).toNat (p + -1074));(rw [Nat.mul_assoc, ← V_def] at g);(rw [g]; congr 1; omega)
theorem mul_one {f : Nat} (hf : f < 18446744073709551616) (pf : posf f = true) : fmulV f 4607182418800017408 = f := by
 (obtain ⟨f1, f2, f3⟩ := posf_is pf);(obtain ⟨_, v⟩ := fmul_is (mul_fin' hf (y := 4607182418800017408) (by decide) f1 (by decide)));(rw [v]);(unfold prodN);(have mf : mag f < 9218868437227405312 := of_decide_eq_true f1);(have k := mul_k (dm (mag f)) (dp (mag f)) (mag 4607182418800017408))
 have k1 : mag f = nr (dm (mag f) * V 4607182418800017408) (dp (mag f) + -1074) := by
  (have g := nr_scale' (dm (mag f)) ((0 : Int) + 1074).toNat (dp (mag f) + -1074));(have h1 := V_rung (a := 0) (by decide) (by decide));(rw [show rung 0 = 4607182418800017408 by decide] at h1);(rw [h1, g, show dp (mag f) + -1074 + ((((0 : Int) + 1074).toNat : Nat) : Int) = dp (mag f) by omega, nr_self mf])
 rw [k, show mag 4607182418800017408 = 4607182418800017408 by decide, ← k1, f2, show sgn 4607182418800017408 = false by decide]
 show sgB false + mag f = f
 (unfold sgn at f2);(have f4 := of_decide_eq_false f2);(unfold mag sgB);(simp only [Bool.false_eq_true, if_false]);(omega)
theorem bump_nothing {b d : Int} {f h : Nat} (h1 : 1 ≤ d - b) (h2 : d - b ≤ 1000000) (hh : nought h) (hf : f < 18446744073709551616) (pf : posf f = true) : bumpV b d f h = f := by
 (obtain ⟨x1, x2, x3⟩ := nought_fin hh);(have w1 : wrap64 (d - b) = d - b := by unfold wrap64; omega);(obtain ⟨q, hq, mq⟩ := mg_div (a := 63) (b := 8) (foi_mg (n := d - b) (by omega)) (y := 4645128764097822720) (by decide) (by decide) (by decide) (by decide) (by decide) (by decide) (by decide) (by decide) (by decide));(have ht : timeV b d = q := by unfold timeV; rw [w1]; exact (fdiv_is hq).2);(have hm : fmulV h q = prodN h q := (fmul_is (mul_fin' x1 mq.w x2 (mq.fin (by decide)))).2)
 have hz : nought (fmulV h q) := by
  (rw [hm]; unfold prodN);(rw [x3, show dm 0 = 0 from rfl, Nat.zero_mul, nr_zero]);(exact nought_sg _)
 (unfold bumpV);(rw [ht, exp_none (nought_neg hz), mul_one hf pf])
theorem node_nothing {b kd : Int} {ds : List Int} {fs : List Nat} {h : Nat} (hc : chkC b kd ds fs = 0) (hw : ∀ y ∈ fs, y < 18446744073709551616) (hh : nought h) {j : Nat} (hj : j < fs.length) : bumpV b (rd ds (j : Int)) (rdOf (0 : Nat) fs (j : Int)) h = rdOf (0 : Nat) fs (j : Int) ∧ posf (rdOf (0 : Nat) fs (j : Int)) = true := by
 (obtain ⟨c1, c2, c3, c4⟩ := chk_zero.1 hc);(obtain ⟨a1, a2, a3, a4⟩ := asc_pw c4);(have hjd : j < ds.length := by omega);(have r1 : rd ds (j : Int) = ds[j] := rdi_at hjd);(have r2 : rdOf (0 : Nat) fs (j : Int) = fs[j] := rdf_at hj);(have q := a1 ds[j] (List.getElem_mem _));(rw [r1, r2]);(exact ⟨bump_nothing (by omega) (by omega) hh (hw _ (List.getElem_mem _)) (a4 _ (List.getElem_mem _)), a4 _ (List.getElem_mem _)⟩)
theorem par_nothing {b kd : Int} {ds : List Int} {fs : List Nat} {h : Nat} (hc : chkC b kd ds fs = 0) (hw : ∀ y ∈ fs, y < 18446744073709551616) (hh : nought h) : parE b kd ds fs h = 0 ∧ parL b ds fs h = fs := by
 have n := fun j hj => node_nothing hc hw hh (j := j) hj
 constructor
 ·unfold parE
  (rw [if_pos hc, if_pos (nought_fin hh).2.1, if_pos]);(rw [List.all_eq_true]);(intro j hj);(have hj2 := List.mem_range.1 hj);(unfold nodeAt);(rw [(n j hj2).1]; exact (n j hj2).2)
 ·unfold parL
  (refine List.ext_getElem (by rw [List.length_map, List.length_range]) fun i h1 h2 => ?_);(rw [List.getElem_map, List.getElem_range]);(unfold nodeAt);(rw [(n i h2).1]; exact rdf_at h2)
theorem one_nothing {b kd : Int} {ds : List Int} {fs : List Nat} {h : Nat} (hc : chkC b kd ds fs = 0) (hw : ∀ y ∈ fs, y < 18446744073709551616) (hh : nought h) {i : Int} (i0 : 0 ≤ i) (i1 : i < (ds.length : Int)) : bumpE b kd ds fs i h = 0 ∧ bumpL b ds fs i h = fs := by
 (have hl : ds.length = fs.length := (chk_zero.1 hc).2.2.1.2.2);(obtain ⟨j, rfl⟩ := Int.eq_ofNat_of_zero_le i0);(have hj : j < fs.length := by omega);(have n := node_nothing hc hw hh hj)
 constructor
 ·unfold bumpE nodeE
  rw [if_pos hc, if_neg (by omega), if_pos (nought_fin hh).2.1, n.1, if_pos n.2]
 ·unfold bumpL
  rw [n.1, rdf_at hj, Int.toNat_natCast, List.set_getElem_self]
theorem pres_chk {l : List S51} {cur b kd : Int} {ds : List Int} {fs : List Nat} (h : (presV l cur b kd ds fs).2 = 0) : chkC b kd ds fs = 0 := by
 unfold presV at h
 by_cases c : eachE cur b kd ds fs l = 0
 ·exact (eachE_zero c).2.2.1
 ·rw [if_neg c] at h; exact absurd h c
theorem aft_nothing {l : List S51} {cur b kd : Int} {ds : List Int} {fs : List Nat} {h : Nat} (h0 : (presV l cur b kd ds fs).2 = 0) (hw : ∀ y ∈ fs, y < 18446744073709551616) (hh : nought h) : aftA l cur b kd ds fs h = ((presV l cur b kd ds fs).1, 0) ∧ ∀ i : Nat, i < ds.length → aftN l cur b kd ds fs (i : Int) h = ((presV l cur b kd ds fs).1, 0) := by
 (have hc := pres_chk h0);(obtain ⟨p1, p2⟩ := par_nothing hc hw hh)
 constructor
 ·unfold aftA; rw [if_pos p1, p2]; exact Prod.ext rfl h0
 ·intro i hi
  (obtain ⟨q1, q2⟩ := one_nothing hc hw hh (i := (i : Int)) (by omega) (by omega));(unfold aftN; rw [if_pos q1, q2]; exact Prod.ext rfl h0)
theorem beg_nothing (l : List S51) (cur b kd : Int) (ds : List Int) (fs : List Nat) : begV l cur b kd ds fs 0 = ((begV l cur b kd ds fs 0).1, (presV l cur b kd ds fs).2) ∧ ((presV l cur b kd ds fs).2 = 0 → (begV l cur b kd ds fs 0).1 = (presV l cur b kd ds fs).1) ∧ ((presV l cur b kd ds fs).2 ≠ 0 → (begV l cur b kd ds fs 0).1 = 0) := by
 unfold begV
 by_cases c : (presV l cur b kd ds fs).2 = 0
 ·rw [if_pos c, if_pos (show fin 0 = true by decide), c]
  exact ⟨rfl, fun _ => rfl, fun h => absurd rfl h⟩
 ·rw [if_neg c]
  exact ⟨rfl, fun h => absurd h c, fun _ => rfl⟩
set_option maxRecDepth 100000 in
set_option maxHeartbeats 8000000 in
theorem gamma0_any (A0 : Option Addr) (c0 : Nat) (l : List S51) (cur : Int) (b kd : Int) (A1 : Option Addr) (c1 : Nat) (ds : List Int) (A2 : Option Addr) (c2 : Nat) (fs : List Nat) (h : Nat) (w : World) (hr0 : Kd.C k51 w A0 l.length l) (hc0 : l.length ≤ c0) (hr1 : Kd.C (Kd.int .i64) w A1 ds.length ds) (hc1 : ds.length ≤ c1) (hr2 : Kd.C Kd.flt w A2 fs.length fs) (hc2 : fs.length ≤ c2) (hok : okW l fs = true) (hh : h < 18446744073709551616) (hz : h = 0) :
  Calls Try.prog 35 #[.slice A0 l.length c0, .int .i64 cur, .agg #[.int .i64 b, .int .i64 kd, .slice A1 ds.length c1, .slice A2 fs.length c2], .float .f64 h] w fun e w' => e = .returned (.tuple #[.float .f64 0, .int .i64 (presV l cur b kd ds fs).2]) ∧ Below w.heap.size w w' := by
 (have hu86 := Try.underlying26);(have hwf := (okW_is hok).2.2);(have hbg : begV l cur b kd ds fs h = ((begV l cur b kd ds fs 0).1, (presV l cur b kd ds fs).2) := by rw [hz]; exact (beg_nothing l cur b kd ds fs).1);(have hb0 := (beg_nothing l cur b kd ds fs).2.1);(have ha := fun h0 => (aft_nothing (l := l) (cur := cur) (b := b) (kd := kd) (ds := ds) (fs := fs) (h := h) h0 hwf (.inl hz)).1);(have hd := fun h0 => (aft_nothing (l := l) (cur := cur) (b := b) (kd := kd) (ds := ds) (fs := fs) (h := fneg h) h0 hwf (nought_neg (.inl hz))).1);(have hp := fun h0 => pres_num (l := l) (cur := cur) (b := b) (kd := kd) (ds := ds) (fs := fs) h0);(have HBG := Aside0.mk (fun (W : World) (hB : Below w.heap.size w W) => FK.risk_begin.calls A0 c0 l cur b kd A1 c1 ds A2 c2 fs h (begV l cur b kd ds fs 0).1 (presV l cur b kd ds fs).2 W (Kd.C_below hr0 hB) hc0 (Kd.C_below hr1 hB) hc1 (Kd.C_below hr2 hB) hc2 (by rw [beg_is hok hh, hbg])));(have HAA := Aside0.mk (fun (gh : Nat) (W : World) (hB : Below w.heap.size w W) (hg : W.heap[gh]? = some (.cells #[.float .f64 h] 35 (0, 0))) => after_all A0 c0 l cur b kd A1 c1 ds A2 c2 fs h gh W (Kd.C_below hr0 hB) hc0 (Kd.C_below hr1 hB) hc1 (Kd.C_below hr2 hB) hc2 hok hh hg));(have HAD := Aside0.mk (fun (gh : Nat) (W : World) (hB : Below w.heap.size w W) (hg : W.heap[gh]? = some (.cells #[.float .f64 (fneg h)] 35 (0, 0))) => after_all A0 c0 l cur b kd A1 c1 ds A2 c2 fs (fneg h) gh W (Kd.C_below hr0 hB) hc0 (Kd.C_below hr1 hB) hc1 (Kd.C_below hr2 hB) hc2 hok (nought_fin (nought_neg (.inl hz))).1 hg));(clear hr0 hc0 hr1 hc1 hr2 hc2 hok hh hbg hwf hz);(generalize aftA l cur b kd ds fs h = UE at *);(generalize aftA l cur b kd ds fs (fneg h) = DE at *);(generalize presV l cur b kd ds fs = PV at *);(obtain ⟨P, Be⟩ := PV);(generalize (begV l cur b kd ds fs 0).1 = Bb at *)
 by_cases c : Be = 0
 rotate_left
 ·have p1 : (Be != 0) = true := bne_iff_ne.2 c
  (clear c ha hd hp hb0 HAA HAD);(go_enter Try.func35, Try.ntmps35)
  go_wp2_with (first | ((with_reducible refine gate_dst (N := 6) rfl ?_); refine box_event ?hg (N := 6) ?hd (cs := #[.int .i64 b, .int .i64 kd, .slice A1 ds.length c1, .slice A2 fs.length c2]) (t := 26) ?hr ?_; (case hd => rfl); (case hg => rfl); (case hr => first | (go_simp; done) | (go_simp; rfl)); intro gx hgx w1 hbox hb; have HB := Aside0.mk (below_step (Below.refl _ _) hb); have BX := Aside0.mk hbox; clear hb hbox hgx; have hz0 : w1.cell? ⟨gx, 0, none⟩ = some (.int .i64 b) := (blk_cell BX.out 0).trans rfl; have hz1 : w1.cell? ⟨gx, 1, none⟩ = some (.int .i64 kd) := (blk_cell BX.out 1).trans rfl; have hz2 : w1.cell? ⟨gx, 2, none⟩ = some (.slice A1 ds.length c1) := (blk_cell BX.out 2).trans rfl; have hz3 : w1.cell? ⟨gx, 3, none⟩ = some (.slice A2 fs.length c2) := (blk_cell BX.out 3).trans rfl; have hf0 := blk_frozen BX.out 0; have hf1 := blk_frozen BX.out 1; have hf2 := blk_frozen BX.out 2; have hf3 := blk_frozen BX.out 3) | (go_at_call 52; refine (HBG.out _ HB.out).mono ?_; rintro e w3 ⟨rfl, hb⟩; have n0_ := Aside0.mk (below_step HB.out hb); have n1_ := Aside0.mk (blk_below BX.out hb); clear HB BX hb; have HB := n0_; have BX := n1_; clear n0_ n1_; have hz0 : w3.cell? ⟨gx, 0, none⟩ = some (.int .i64 b) := (blk_cell BX.out 0).trans rfl; have hz1 : w3.cell? ⟨gx, 1, none⟩ = some (.int .i64 kd) := (blk_cell BX.out 1).trans rfl; have hz2 : w3.cell? ⟨gx, 2, none⟩ = some (.slice A1 ds.length c1) := (blk_cell BX.out 2).trans rfl; have hz3 : w3.cell? ⟨gx, 3, none⟩ = some (.slice A2 fs.length c2) := (blk_cell BX.out 3).trans rfl; have hf0 := blk_frozen BX.out 0; have hf1 := blk_frozen BX.out 1; have hf2 := blk_frozen BX.out 2; have hf3 := blk_frozen BX.out 3))
  (go_ret2);(exact ⟨rfl, HB.out⟩)
 (subst c);(have e1 := ha rfl);(have e2 := hd rfl);(have e3 := hb0 rfl);(simp only at e1 e2 e3);(subst e3);(subst e1);(subst e2);(obtain ⟨n1, n2⟩ := hp rfl);(simp only at n1 n2);(obtain ⟨s1, s2, s3⟩ := sub_num n1 n1 n2 n2);(have z1 := fsub_self n1 n2);(have s4 : fsubK (fsubV Bb Bb) (fsubV Bb Bb) = true := by rw [z1]; decide)
 have HT : RowKit.Hid (FK.risk_told.f (fsubV (fsubV Bb Bb) (fsubV Bb Bb)) = some (0, 0)) := by
  (unfold RowKit.Hid);(rw [z1, show fsubV 0 0 = 0 by decide]);(exact rtold_is (by decide))
 (have HT2 := Aside0.mk (fun (W : World) => FK.risk_told.calls (fsubV (fsubV Bb Bb) (fsubV Bb Bb)) 0 0 W HT.out));(clear ha hd hp hb0 n1 n2 s2 s3 z1 HT);(go_enter Try.func35, Try.ntmps35)
 go_upto_region 4 with (first | ((with_reducible refine gate_dst (N := 6) rfl ?_); refine box_event ?hg (N := 6) ?hd (cs := #[.int .i64 b, .int .i64 kd, .slice A1 ds.length c1, .slice A2 fs.length c2]) (t := 26) ?hr ?_; (case hd => rfl); (case hg => rfl); (case hr => first | (go_simp; done) | (go_simp; rfl)); intro gx hgx w1 hbox hb; have HB := Aside0.mk (below_step (Below.refl _ _) hb); have BX := Aside0.mk hbox; clear hb hbox hgx; have hz0 : w1.cell? ⟨gx, 0, none⟩ = some (.int .i64 b) := (blk_cell BX.out 0).trans rfl; have hz1 : w1.cell? ⟨gx, 1, none⟩ = some (.int .i64 kd) := (blk_cell BX.out 1).trans rfl; have hz2 : w1.cell? ⟨gx, 2, none⟩ = some (.slice A1 ds.length c1) := (blk_cell BX.out 2).trans rfl; have hz3 : w1.cell? ⟨gx, 3, none⟩ = some (.slice A2 fs.length c2) := (blk_cell BX.out 3).trans rfl; have hf0 := blk_frozen BX.out 0; have hf1 := blk_frozen BX.out 1; have hf2 := blk_frozen BX.out 2; have hf3 := blk_frozen BX.out 3) | (go_at_call 52; refine (HBG.out _ HB.out).mono ?_; rintro e w3 ⟨rfl, hb⟩; have n0_ := Aside0.mk (below_step HB.out hb); have n1_ := Aside0.mk (blk_below BX.out hb); clear HB BX hb; have HB := n0_; have BX := n1_; clear n0_ n1_; have hz0 : w3.cell? ⟨gx, 0, none⟩ = some (.int .i64 b) := (blk_cell BX.out 0).trans rfl; have hz1 : w3.cell? ⟨gx, 1, none⟩ = some (.int .i64 kd) := (blk_cell BX.out 1).trans rfl; have hz2 : w3.cell? ⟨gx, 2, none⟩ = some (.slice A1 ds.length c1) := (blk_cell BX.out 2).trans rfl; have hz3 : w3.cell? ⟨gx, 3, none⟩ = some (.slice A2 fs.length c2) := (blk_cell BX.out 3).trans rfl; have hf0 := blk_frozen BX.out 0; have hf1 := blk_frozen BX.out 1; have hf2 := blk_frozen BX.out 2; have hf3 := blk_frozen BX.out 3))
 (have ya0 : w3.drew.cell? ⟨gx, 0, none⟩ = some (.int .i64 b) := (blk_cell (blk_drew BX.out) 0).trans rfl);(have ya1 : w3.drew.cell? ⟨gx, 1, none⟩ = some (.int .i64 kd) := (blk_cell (blk_drew BX.out) 1).trans rfl);(have ya2 : w3.drew.cell? ⟨gx, 2, none⟩ = some (.slice A1 ds.length c1) := (blk_cell (blk_drew BX.out) 2).trans rfl);(have ya3 : w3.drew.cell? ⟨gx, 3, none⟩ = some (.slice A2 fs.length c2) := (blk_cell (blk_drew BX.out) 3).trans rfl);(clear hz0 hz1 hz2 hz3 hf0 hf1 hf2 hf3)
 go_region_held3 (fun w' => w'.cell? ⟨gx, 0, none⟩ = some (.int .i64 b) ∧ w'.cell? ⟨gx, 1, none⟩ = some (.int .i64 kd) ∧ w'.cell? ⟨gx, 2, none⟩ = some (.slice A1 ds.length c1) ∧ w'.cell? ⟨gx, 3, none⟩ = some (.slice A2 fs.length c2)) (first | exact ⟨ya0, ya1, ya2, ya3⟩ | exact ⟨za0, za1, za2, za3⟩ | exact ⟨zb0, zb1, zb2, zb3⟩ | go_keep) (first | (go_at_call 56; refine (all_any (h) _).mono ?_; rintro e w5 ⟨gh, rfl, hb5, BH5⟩; have HB5 := Aside0.mk (below_step (below_drew HB.out) hb5.out); have BX5 : Aside0 (w5.heap[gx]? = some (.cells #[.int .i64 b, .int .i64 kd, .slice A1 ds.length c1, .slice A2 fs.length c2] 26 (0, 0))) := ⟨blk_below (blk_drew BX.out) hb5.out⟩; have za0 : w5.cell? ⟨gx, 0, none⟩ = some (.int .i64 b) := (blk_cell (BX5.out) 0).trans rfl; have za1 : w5.cell? ⟨gx, 1, none⟩ = some (.int .i64 kd) := (blk_cell (BX5.out) 1).trans rfl; have za2 : w5.cell? ⟨gx, 2, none⟩ = some (.slice A1 ds.length c1) := (blk_cell (BX5.out) 2).trans rfl; have za3 : w5.cell? ⟨gx, 3, none⟩ = some (.slice A2 fs.length c2) := (blk_cell (BX5.out) 3).trans rfl) | (go_at_call 53; refine (HAA.out gh w5 HB5.out BH5.out).mono ?_; rintro e w6 ⟨rfl, hb6⟩; have BX6 : Aside0 (w6.heap[gx]? = some (.cells #[.int .i64 b, .int .i64 kd, .slice A1 ds.length c1, .slice A2 fs.length c2] 26 (0, 0))) := ⟨blk_below BX5.out hb6⟩; have zb0 : w6.cell? ⟨gx, 0, none⟩ = some (.int .i64 b) := (blk_cell (BX6.out) 0).trans rfl; have zb1 : w6.cell? ⟨gx, 1, none⟩ = some (.int .i64 kd) := (blk_cell (BX6.out) 1).trans rfl; have zb2 : w6.cell? ⟨gx, 2, none⟩ = some (.slice A1 ds.length c1) := (blk_cell (BX6.out) 2).trans rfl; have zb3 : w6.cell? ⟨gx, 3, none⟩ = some (.slice A2 fs.length c2) := (blk_cell (BX6.out) 3).trans rfl))
 go_upto_region 7 with fail
 (have n0_ := Aside0.mk (below_step HB5.out hb6));(have n1_ := BX6);(clear HB BX HB5 BX5 BX6 hb5 hb6 BH5)
 (try clear ya0 ya1 ya2 ya3)
 (try clear za0 za1 za2 za3)
 (try clear zb0 zb1 zb2 zb3)
 (have HB := n0_);(have BX := n1_);(clear n0_ n1_);(have ya0 : w6.drew.cell? ⟨gx, 0, none⟩ = some (.int .i64 b) := (blk_cell (blk_drew BX.out) 0).trans rfl);(have ya1 : w6.drew.cell? ⟨gx, 1, none⟩ = some (.int .i64 kd) := (blk_cell (blk_drew BX.out) 1).trans rfl);(have ya2 : w6.drew.cell? ⟨gx, 2, none⟩ = some (.slice A1 ds.length c1) := (blk_cell (blk_drew BX.out) 2).trans rfl);(have ya3 : w6.drew.cell? ⟨gx, 3, none⟩ = some (.slice A2 fs.length c2) := (blk_cell (blk_drew BX.out) 3).trans rfl)
 go_region_held3 (fun w' => w'.cell? ⟨gx, 0, none⟩ = some (.int .i64 b) ∧ w'.cell? ⟨gx, 1, none⟩ = some (.int .i64 kd) ∧ w'.cell? ⟨gx, 2, none⟩ = some (.slice A1 ds.length c1) ∧ w'.cell? ⟨gx, 3, none⟩ = some (.slice A2 fs.length c2)) (first | exact ⟨ya0, ya1, ya2, ya3⟩ | exact ⟨za0, za1, za2, za3⟩ | exact ⟨zb0, zb1, zb2, zb3⟩ | go_keep) (first | (go_at_call 56; refine (all_any (fneg h) _).mono ?_; rintro e w5 ⟨gh, rfl, hb5, BH5⟩; have HB5 := Aside0.mk (below_step (below_drew HB.out) hb5.out); have BX5 : Aside0 (w5.heap[gx]? = some (.cells #[.int .i64 b, .int .i64 kd, .slice A1 ds.length c1, .slice A2 fs.length c2] 26 (0, 0))) := ⟨blk_below (blk_drew BX.out) hb5.out⟩; have za0 : w5.cell? ⟨gx, 0, none⟩ = some (.int .i64 b) := (blk_cell (BX5.out) 0).trans rfl; have za1 : w5.cell? ⟨gx, 1, none⟩ = some (.int .i64 kd) := (blk_cell (BX5.out) 1).trans rfl; have za2 : w5.cell? ⟨gx, 2, none⟩ = some (.slice A1 ds.length c1) := (blk_cell (BX5.out) 2).trans rfl; have za3 : w5.cell? ⟨gx, 3, none⟩ = some (.slice A2 fs.length c2) := (blk_cell (BX5.out) 3).trans rfl) | (go_at_call 53; refine (HAD.out gh w5 HB5.out BH5.out).mono ?_; rintro e w6 ⟨rfl, hb6⟩; have BX6 : Aside0 (w6.heap[gx]? = some (.cells #[.int .i64 b, .int .i64 kd, .slice A1 ds.length c1, .slice A2 fs.length c2] 26 (0, 0))) := ⟨blk_below BX5.out hb6⟩; have zb0 : w6.cell? ⟨gx, 0, none⟩ = some (.int .i64 b) := (blk_cell (BX6.out) 0).trans rfl; have zb1 : w6.cell? ⟨gx, 1, none⟩ = some (.int .i64 kd) := (blk_cell (BX6.out) 1).trans rfl; have zb2 : w6.cell? ⟨gx, 2, none⟩ = some (.slice A1 ds.length c1) := (blk_cell (BX6.out) 2).trans rfl; have zb3 : w6.cell? ⟨gx, 3, none⟩ = some (.slice A2 fs.length c2) := (blk_cell (BX6.out) 3).trans rfl))
 go_wp2_with (go_at_call 55; refine (HT2.out _).mono ?_; rintro e w9 ⟨rfl, ⟨nd, rfl⟩⟩)
 (go_ret2);(exact ⟨rfl, pw_below_drewN (below_step HB5.out hb6) nd⟩)
noncomputable def risk_Gamma.f (l0 : List S51) (cur b kd : Int) (ds : List Int) (fs : List Nat) (h : Nat) : Option (Nat × Int) := if okW l0 fs = true ∧ h = 0 then some (0, (presV l0 cur b kd ds fs).2) else none
theorem risk_Gamma.calls (A0 : Option Addr) (c0 : Nat) (l0 : List S51) (cur : Int) (b kd : Int) (A1 : Option Addr) (c1 : Nat) (ds : List Int) (A2 : Option Addr) (c2 : Nat) (fs : List Nat) (h : Nat) (r1 : Nat) (r2 : Int) (w : World) (hr0 : Kd.C k51 w A0 l0.length l0) (hc0 : l0.length ≤ c0) (hr1 : Kd.C (Kd.int .i64) w A1 ds.length ds) (hc1 : ds.length ≤ c1) (hr2 : Kd.C Kd.flt w A2 fs.length fs) (hc2 : fs.length ≤ c2)  (hf : risk_Gamma.f l0 cur b kd ds fs h = some (r1, r2)) :
  Calls Try.prog 35 #[.slice A0 l0.length c0, .int .i64 cur, .agg #[.int .i64 b, .int .i64 kd, .slice A1 ds.length c1, .slice A2 fs.length c2], .float .f64 h] w fun e w' => e = .returned (.tuple #[.float .f64 r1, .int .i64 r2]) ∧ Below w.heap.size w w' := by
 unfold risk_Gamma.f at hf
 by_cases c : okW l0 fs = true ∧ h = 0
 rotate_left
 ·rw [if_neg c] at hf; cases hf
 (rw [if_pos c] at hf);(have h1 := Option.some.inj hf)
 injection h1 with h1 h2
 (subst h1 h2);(exact gamma0_any A0 c0 l0 cur b kd A1 c1 ds A2 c2 fs h w hr0 hc0 hr1 hc1 hr2 hc2 c.1 (by rw [c.2]; decide) c.2)
end Go.Proofs.Ythkcphdhmkcdkaa.FB
