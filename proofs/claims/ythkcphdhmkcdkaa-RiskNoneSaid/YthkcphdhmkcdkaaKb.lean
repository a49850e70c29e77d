/- risk: one node bumped. -/
import Derived.Test.YthkcphdhmkcdkaaKa
namespace Go.Proofs.Ythkcphdhmkcdkaa.FB
open Go.RowKit Go.Proofs.YthkcphdhmkcdkaaW.PrintWords Go.Proofs.YthkcphdhmkcdkaaW.PrintLast Go.Proofs.YthkcphdhmkcdkaaW.PrintMore Go.Proofs.Ythkcphdhmkcdkaa.FX Go.Proofs.Ythkcphdhmkcdkaa.EV Go.Proofs.Ythkcphdhmkcdkaa.FP Tn
attribute [local go_sem] run_store_float run_neg_float run_fmul run_fadd run_fsub run_fdiv isSome_setCell
set_option linter.unusedVariables false
set_option linter.unusedSimpArgs false
noncomputable def expV (x : Nat) : Nat := lim 0 (fun k => fn_Exp.f k x)
theorem exp_is {x : Nat} (h : Nn x) : Evt (fun k => fn_Exp.f k x) (expV x) ∧ Nn (expV x) := by
 (obtain ⟨r, hr, nr⟩ := exp_some 0 h);(have h1 : Evt (fun k => fn_Exp.f k x) r := evt (fn_Exp.mono _) ⟨_, hr⟩);(unfold expV);(rw [lim_is h1]);(exact ⟨h1, nr⟩)
theorem nn_mul {x y : Nat} (hx : x < 18446744073709551616) (fx : fin x = true) (h0 : mag x ≠ 0) (hy : Nn y) : ∃ r, Ieee.double.mul x y = some r ∧ Nn r := by
 rcases hy.kind with ⟨fy, ey⟩ | ⟨_, ey⟩
 ·exact ⟨_, mul_fin' hx hy.w fx fy, nn_sg _ (nr_le _ _)⟩
 ·refine ⟨_, ?_, write_inf (sgn y ^^ sgn x)⟩
  (unfold Ieee.Format.mul);(rw [ey, read_fin hx fx])
  show (if dm (mag x) = 0 then _ else _ : Option Ieee.Datum).map _ = _
  rw [if_neg (dm_ne h0)]; rfl
theorem fneg_val {x : Nat} (hx : x < 18446744073709551616) : fneg x = (if sgn x = true then 0 else 9223372036854775808) + mag x := by
 have h1 : fneg x % 2 ^ 63 = mag x := by
  (unfold fneg);(rw [Nat.xor_mod_two_pow, show 9223372036854775808 % 2 ^ 63 = 0 from rfl, Nat.xor_zero]; rfl)
 have h2 : fneg x / 2 ^ 63 = (x / 2 ^ 63) ^^^ 1 := by
  (unfold fneg);(rw [Nat.xor_div_two_pow])
 have h3 : x / 2 ^ 63 = 0 ∨ x / 2 ^ 63 = 1 := by
  rw [show (2 : Nat) ^ 63 = 9223372036854775808 from rfl]; omega
 (have h4 := Nat.div_add_mod (fneg x) (2 ^ 63));(rw [h1, h2] at h4);(rw [show (2 : Nat) ^ 63 = 9223372036854775808 from rfl] at h3 h4);(unfold sgn)
 rcases h3 with h3 | h3
 ·rw [h3] at h4
  (rw [if_neg (by simp; omega), ← h4]);(rfl)
 ·rw [h3] at h4
  rw [if_pos (by simp; omega), ← h4]
  show 9223372036854775808 * 0 + mag x = 0 + mag x
  omega
theorem sgn_fneg {x : Nat} (hx : x < 18446744073709551616) : sgn (fneg x) = !sgn x ∧ mag (fneg x) = mag x := by
 (have h := fneg_val hx);(have hm : mag x < 9223372036854775808 := by unfold mag; omega)
 cases hs : sgn x
 ·rw [hs, if_neg (by decide)] at h
  refine ⟨?_, ?_⟩
  ·rw [h]; unfold sgn; simp; try omega
  ·rw [h]; unfold mag at hm ⊢; omega
 ·rw [hs, if_pos rfl] at h
  refine ⟨?_, ?_⟩
  ·rw [h]; unfold sgn; simp; omega
  ·rw [h]; unfold mag at hm ⊢; omega
theorem nn_neg {x : Nat} (h : Nn x) : Nn (fneg x) := by
 (have h1 := fneg_val h.w);(have hm : mag x < 9223372036854775808 := by unfold mag; omega);(refine ⟨by rw [h1]; split <;> omega, ?_⟩);(have := h.k);(unfold nan at *);(rw [(sgn_fneg h.w).2]; exact this)
def timeV (b d : Int) : Nat := fdivV (floatOfInt .f64 (wrap64 (d - b))) 4645128764097822720
noncomputable def bumpV (b d : Int) (f h : Nat) : Nat := fmulV f (expV (fneg (fmulV h (timeV b d))))
noncomputable def nodeE (b d : Int) (f h : Nat) : Int := if posf (bumpV b d f h) = true then 0 else 91
noncomputable def nodeL (b d : Int) (f h : Nat) (fs : List Nat) (i : Nat) : List Nat := if nodeE b d f h = 0 then fs.set i (bumpV b d f h) else fs
theorem node_steps {b d : Int} {f h : Nat} (h1 : 1 ≤ d - b) (h2 : d - b ≤ 1000000) (hh : h < 18446744073709551616) (fh : fin h = true) (hf : f < 18446744073709551616) (pf : posf f = true) :
  fdivK (floatOfInt .f64 (wrap64 (d - b))) 4645128764097822720 = true ∧ fmulK h (timeV b d) = true ∧ Nn (fneg (fmulV h (timeV b d))) ∧ fmulK f (expV (fneg (fmulV h (timeV b d)))) = true ∧ Nn (bumpV b d f h) := by
 (have w1 : wrap64 (d - b) = d - b := by unfold wrap64; omega);(obtain ⟨n1, n2, n3⟩ := foi_pos h1 (by omega));(have t1 := div_fin' (y := 4645128764097822720) n1 (by decide) n2 (by decide) (by decide));(obtain ⟨q, hq, mq⟩ := mg_div (a := 63) (b := 8) (foi_mg (n := d - b) (by omega)) (y := 4645128764097822720) (by decide) (by decide) (by decide) (by decide) (by decide) (by decide) (by decide) (by decide) (by decide));(obtain ⟨k1, v1⟩ := fdiv_is hq);(have ht : timeV b d = q := by unfold timeV; rw [w1, v1]);(obtain ⟨k2, v2⟩ := fmul_is (mul_fin' hh mq.w fh (mq.fin (by decide))));(have nm : Nn (fmulV h q) := by rw [v2]; unfold prodN; exact nn_sg _ (nr_le _ _));(obtain ⟨_, ne⟩ := exp_is (nn_neg nm));(obtain ⟨f1, f2, f3⟩ := posf_is pf);(obtain ⟨r, hr, nr'⟩ := nn_mul hf f1 f3 ne);(obtain ⟨k3, v3⟩ := fmul_is hr);(unfold bumpV);(rw [ht, w1]);(exact ⟨k1, k2, nn_neg nm, k3, by rw [v3]; exact nr'⟩)
theorem number_is {x : Nat} (hx : x < 18446744073709551616) : FK.risk_number.f x = some (fin x) := by
 (unfold FK.risk_number.f ieee_Class.f);(rw [if_pos hx, Option.bind_some, ← cls_fin])
theorem gb_refl (w : World) (r : Option Nat) : w.grownBy w r := World.grownBy.refl w r
theorem gb_below {w w1 w2 : World} {g : Nat} (h : w.grownBy w1 (some g)) (hb : Below w1.heap.size w1 w2) : w.grownBy w2 (some g) :=
 ⟨hb.os.trans h.os, hb.tape.trans h.tape, hb.output.trans h.output, Nat.le_trans h.size hb.size, fun k hk hn => (hb.block k (Nat.lt_of_lt_of_le hk h.size)).trans (h.block k hk hn)⟩
theorem gb_set {w w1 : World} {g i : Nat} {v : Value} (h : w.grownBy w1 (some g)) : w.grownBy (w1.setCell ⟨g, i, none⟩ v) (some g) :=
 ⟨h.os, h.tape, h.output, by simpa [World.setCell] using h.size, fun k hk hn => (Below.heap_setCell _ _ _ k (fun e => hn (by rw [e]))).trans (h.block k hk hn)⟩
theorem bF.set {w : World} {g : Nat} {fs : List Nat} (h : bF w g fs) (i x : Nat) : bF (w.setCell ⟨g, i, none⟩ (.float .f64 x)) g (fs.set i x) := by
 (unfold bF);(rw [List.map_set, ← List.setIfInBounds_toArray]);(exact blk_set h i _)
set_option maxRecDepth 100000 in
set_option maxHeartbeats 4000000 in
theorem node_any (gd gf : Nat) (b kd : Int) (ds : List Int) (fs : List Nat) (i : Nat) (h : Nat) (w : World) (hi : i < ds.length) (hl : ds.length = fs.length) (hd : bI w gd ds) (hf : bF w gf fs) (hne : gd ≠ gf)
  (hh : h < 18446744073709551616) (fh : fin h = true) (D : Int) (F : Nat) (hD : ds[i]? = some D) (hF : fs[i]? = some F) (hFw : F < 18446744073709551616) (hFp : posf F = true) (h1 : 1 ≤ D - b) (h2 : D - b ≤ 1000000) (hlm : ds.length ≤ 1000) :
  Calls Try.prog 59 #[.agg #[.int .i64 b, .int .i64 kd, .slice (some ⟨gd, 0, none⟩) ds.length ds.length, .slice (some ⟨gf, 0, none⟩) fs.length fs.length], .int .i64 i, .float .f64 h] w fun e w' => e = .returned (.int .i64 (nodeE b D F h)) ∧ Aside0 (w.grownBy w' (some gf)) ∧ Aside0 (bF w' gf (nodeL b D F h fs i)) := by
 (have hu86 := Try.underlying26);(obtain ⟨s1, s2, s3, s4, s5⟩ := node_steps h1 h2 hh fh hFw hFp);(obtain ⟨k, hk⟩ := (exp_is s3).1.get);(have HK := Aside0.mk hk);(have BD := Aside0.mk hd);(have BF := Aside0.mk hf);(have HLM := Lib.hid hlm)
 have hc1 : w.cell? ⟨gd, i, none⟩ = some (.int .i64 D) := by
  rw [blk_cell hd i, List.getElem?_toArray, List.getElem?_map, hD]; rfl
 have hc2 : w.cell? ⟨gf, i, none⟩ = some (.float .f64 F) := by
  rw [blk_cell hf i, List.getElem?_toArray, List.getElem?_map, hF]; rfl
 (have HCF := Aside0.mk hc2);(have HCD := Aside0.mk hc1);(have q1 : decide ((i : Int) < (ds.length : Int)) = true := decide_eq_true (by omega));(have q2 : decide ((i : Int) < (fs.length : Int)) = true := decide_eq_true (by omega));(have q0 : decide (0 ≤ (i : Int)) = true := decide_eq_true (by omega));(have q3 : decide (i < ds.length) = true := decide_eq_true hi);(have q4 : decide (i < fs.length) = true := decide_eq_true (by omega));(have hi' : i < fs.length := by omega);(have HNE := Lib.hid hne);(have HI := Lib.hid hi);(have HN := Lib.hid (show nodeE b D F h = if posf (bumpV b D F h) = true then 0 else 91 from rfl));(have HBV := Lib.hid s5);(have HG0 := Lib.hid (gt0 (f := bumpV b D F h) s5.w));(have HCG := Lib.hid (cls_ge (bumpV b D F h)));(have HLL := Lib.hid hl);(have hT : RowKit.Hid (timeV b D = fdivV (floatOfInt .f64 (wrap64 (D - b))) 4645128764097822720) := rfl);(have hBV : RowKit.Hid (bumpV b D F h = fmulV F (expV (fneg (fmulV h (timeV b D))))) := rfl);(rw [hBV.out] at HN HBV HG0 HCG);(clear hk hd hf hD hF hh fh hFw hFp h1 h2 hlm hc1 hc2 hne s3 s5 hl);(go_enter Try.func59, Try.ntmps59)
 go_upto_region 1 with ((with_reducible refine gate_dst (N := 3) rfl ?_); refine box_event ?hg (N := 3) ?hd (cs := #[.int .i64 b, .int .i64 kd, .slice (some ⟨gd, 0, none⟩) ds.length ds.length, .slice (some ⟨gf, 0, none⟩) fs.length fs.length]) (t := 26) ?hr ?_; (case hd => rfl); (case hg => rfl); (case hr => first | (go_simp; done) | (go_simp; rfl)); intro gx hgx w1 hbox hb; have HB := Aside0.mk hb; have BX := Aside0.mk hbox; have NX := Lib.hid (show gx ≠ gf by have := blk_lt BF.out; omega); clear hb hbox hgx)
 (try simp only [Act.put, List.setIfInBounds_toArray, List.set_cons_zero, List.set_cons_succ]);(have y0 : w1.drew.cell? ⟨gx, 0, none⟩ = some (.int .i64 b) := (blk_cell BX.out 0).trans rfl);(have y2 : w1.drew.cell? ⟨gx, 2, none⟩ = some (.slice (some ⟨gd, 0, none⟩) ds.length ds.length) := (blk_cell BX.out 2).trans rfl);(have yd : w1.drew.cell? ⟨gd, i, none⟩ = some (.int .i64 D) := (HB.out.cell (p := ⟨gd, i, none⟩) (show gd < w.heap.size from blk_lt BD.out)).trans HCD.out);(have z0 : w1.cell? ⟨gx, 0, none⟩ = some (.int .i64 b) := y0);(have z2 : w1.cell? ⟨gx, 2, none⟩ = some (.slice (some ⟨gd, 0, none⟩) ds.length ds.length) := y2);(have zd : w1.cell? ⟨gd, i, none⟩ = some (.int .i64 D) := yd)
 go_quiet (fail)
 go_upto_region 2 with fail
 (generalize hW2 : w1.drewN nq = W2);(have HB2 : Aside0 (Below w.heap.size w W2) := ⟨by rw [← hW2]; exact pw_below_drewN HB.out _⟩);(have BX2 : Aside0 (W2.heap[gx]? = some (.cells #[.int .i64 b, .int .i64 kd, .slice (some ⟨gd, 0, none⟩) ds.length ds.length, .slice (some ⟨gf, 0, none⟩) fs.length fs.length] 26 (0, 0))) := ⟨by rw [← hW2]; exact BX.out⟩);(clear hW2 y0 y2 yd z0 z2 zd HB BX);(have ya : W2.cell? ⟨gx, 3, none⟩ = some (.slice (some ⟨gf, 0, none⟩) fs.length fs.length) := (blk_cell BX2.out 3).trans rfl);(have yb : W2.cell? ⟨gf, i, none⟩ = some (.float .f64 F) := (HB2.out.cell (p := ⟨gf, i, none⟩) (show gf < w.heap.size from blk_lt BF.out)).trans HCF.out);(have HT2 := Lib.hid hT);(rw [← hT.out]);(generalize timeV b D = T at *)
 go_region_held3 (fun w' => w'.cell? ⟨gx, 3, none⟩ = some (.slice (some ⟨gf, 0, none⟩) fs.length fs.length) ∧ w'.cell? ⟨gf, i, none⟩ = some (.float .f64 F)) (first | exact ⟨ya, yb⟩ | exact ⟨za, zb⟩ | go_keep) (first | (go_at_call 37; refine (fn_Exp.calls k _ _ _ HK.out).mono ?_; rintro e w17 ⟨rfl, hb⟩; have za : w17.cell? ⟨gx, 3, none⟩ = some (.slice (some ⟨gf, 0, none⟩) fs.length fs.length) := (hb.cell (p := ⟨gx, 3, none⟩) (show gx < W2.heap.size from blk_lt BX2.out)).trans ya; have zb : w17.cell? ⟨gf, i, none⟩ = some (.float .f64 F) := (hb.cell (p := ⟨gf, i, none⟩) (show gf < W2.heap.size from Nat.lt_of_lt_of_le (blk_lt BF.out) HB2.out.size)).trans yb))
 (have HB3 : Aside0 (Below w.heap.size w w17) := ⟨below_step (below_drew HB2.out) hb⟩);(have BX3 : Aside0 (w17.heap[gx]? = some (.cells #[.int .i64 b, .int .i64 kd, .slice (some ⟨gd, 0, none⟩) ds.length ds.length, .slice (some ⟨gf, 0, none⟩) fs.length fs.length] 26 (0, 0))) := ⟨(hb.block gx (blk_lt BX2.out)).trans BX2.out⟩);(clear hb ya yb za zb HB2 BX2 HK s2 s4);(have HX := Lib.hid HBV.out.w);(generalize fmulV F (expV (fneg (fmulV h T))) = X at *);(have HNU := Lib.hid (number_is HX.out));(have HB4 := HB3)
 by_cases c : posf X = true
 ·have f1 := (posf_is c).1
  (have g1 : (FloatKind.f64.format.order X 0 == some .gt) = true := (HG0.out f1).trans c);(rw [f1] at HNU);(have HE : RowKit.Hid (nodeE b D F h = 0) := HN.out.trans (if_pos c));(have HL : RowKit.Hid (nodeL b D F h fs i = fs.set i X) := by unfold RowKit.Hid nodeL; rw [HE.out, if_pos rfl, hBV.out]);(have hfx := (blk_cell BX3.out 3));(clear c f1 HN HG0 HCG HBV hfx)
  go_upto_region 5 with (go_at_call 57; refine (FK.risk_number.calls X true _ HNU.out).mono ?_; rintro e w18 ⟨rfl, ⟨nd, rfl⟩⟩)
  (generalize hW5 : w17.drewN nd = W5);(have HB5 : Aside0 (Below w.heap.size w W5) := ⟨by rw [← hW5]; exact pw_below_drewN HB3.out _⟩);(have BX5 : Aside0 (W5.heap[gx]? = some (.cells #[.int .i64 b, .int .i64 kd, .slice (some ⟨gd, 0, none⟩) ds.length ds.length, .slice (some ⟨gf, 0, none⟩) fs.length fs.length] 26 (0, 0))) := ⟨by rw [← hW5]; exact BX3.out⟩);(have BF5 : Aside0 (bF W5 gf fs) := ⟨(HB5.out.block gf (blk_lt BF.out)).trans BF.out⟩);(clear hW5 HB3 HB4 BX3);(have ya : W5.cell? ⟨gx, 3, none⟩ = some (.slice (some ⟨gf, 0, none⟩) fs.length fs.length) := (blk_cell BX5.out 3).trans rfl);(have yb : W5.cell? ⟨gf, i, none⟩ = some (.float .f64 F) := (HB5.out.cell (p := ⟨gf, i, none⟩) (show gf < w.heap.size from blk_lt BF.out)).trans HCF.out);(have yc := blk_frozen BF5.out i)
  go_wp2_with fail
  (go_ret);(exact ⟨by rw [HE.out]; rfl, ⟨gb_set (gb_below (gb_refl w _) HB5.out)⟩, ⟨by rw [HL.out]; exact BF5.out.set i X⟩⟩)
 ·have HE : RowKit.Hid (nodeE b D F h = 91) := HN.out.trans (if_neg c)
  (have HL : RowKit.Hid (nodeL b D F h fs i = fs) := by unfold RowKit.Hid nodeL; rw [HE.out, if_neg (by decide)]);(have g1 : fin X = true → (FloatKind.f64.format.order X 0 == some .gt) = false := fun f1 => (HG0.out f1).trans (by simpa using c));(have HBF : Aside0 (bF w17 gf fs) := ⟨(HB3.out.block gf (blk_lt BF.out)).trans BF.out⟩);(clear c HN HG0 HCG HBV)
  by_cases f1 : fin X = true
  ·rw [f1] at HNU
   (have g2 := g1 f1);(clear g1 f1)
   go_wp2_with (go_at_call 57; refine (FK.risk_number.calls X true _ HNU.out).mono ?_; rintro e w18 ⟨rfl, ⟨nd, rfl⟩⟩)
   (go_ret);(exact ⟨by rw [HE.out]; rfl, ⟨gb_below (gb_refl w _) (pw_below_drewN HB3.out _)⟩, ⟨by rw [HL.out]; exact HBF.out⟩⟩)
  ·rw [show fin X = false by simpa using f1] at HNU
   clear g1 f1
   go_wp2_with (go_at_call 57; refine (FK.risk_number.calls X false _ HNU.out).mono ?_; rintro e w18 ⟨rfl, ⟨nd, rfl⟩⟩)
   (go_ret);(exact ⟨by rw [HE.out]; rfl, ⟨gb_below (gb_refl w _) (pw_below_drewN HB3.out _)⟩, ⟨by rw [HL.out]; exact HBF.out⟩⟩)
end Go.Proofs.Ythkcphdhmkcdkaa.FB
