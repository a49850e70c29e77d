/- Texts packed into one: Pf Pg Pe Px. No condition. -/
import Derived.Test.YthkcphdhmkcdkaaGreatPd
section
/- price.Flat: amounts times factors, by steps, where no step meets a NaN. -/
namespace Go.Proofs.YthkcphdhmkcdkaaGreat.FB
open Go.RowKit Go.Proofs.YthkcphdhmkcdkaaGreatW.PrintWords Go.Proofs.YthkcphdhmkcdkaaGreatW.PrintLast Go.Proofs.YthkcphdhmkcdkaaGreatW.PrintMore Go.Proofs.YthkcphdhmkcdkaaGreat.FX Go.Proofs.YthkcphdhmkcdkaaGreat.EV Go.Proofs.YthkcphdhmkcdkaaGreat.FP Tn
attribute [local go_sem] run_store_float run_neg_float run_fmul run_fadd isSome_setCell
set_option linter.unusedVariables false
set_option linter.unusedSimpArgs false
/-- one step. -/
noncomputable def flatN (cur b kd : Int) (ds : List Int) (fs : List Nat) (s : Nat) (f : S31) : Nat := if counts cur b f = true then faddV s (fmulV f.f1 (facV b kd ds fs f.f0).1) else s
noncomputable def flatS (cur b kd : Int) (ds : List Int) (fs : List Nat) (l : List S31) : Nat := l.foldl (flatN cur b kd ds fs) 0
theorem flatS_next (cur b kd : Int) (ds : List Int) (fs : List Nat) {l : List S31} {i : Nat} (hi : i < l.length) : flatS cur b kd ds fs (l.take (i + 1)) = if counts cur b l[i] = true then faddV (flatS cur b kd ds fs (l.take i)) (fmulV l[i].f1 (facV b kd ds fs l[i].f0).1) else flatS cur b kd ds fs (l.take i) := by
  unfold flatS
  rw [List.take_succ_eq_append_getElem hi, List.foldl_append, List.foldl_cons, List.foldl_nil]; rfl
/-- no step meets a NaN. -/
def flatK (cur b kd : Int) (ds : List Int) (fs : List Nat) (l : List S31) : Prop := ∀ i (hi : i < l.length), counts cur b l[i] = true → faddK (flatS cur b kd ds fs (l.take i)) (fmulV l[i].f1 (facV b kd ds fs l[i].f0).1) = true
set_option maxRecDepth 100000 in
set_option maxHeartbeats 1000000 in
theorem flat_step (x y s g : Nat) (w : World) (h : w.heap[g]? = some (.cells #[.float .f64 s] 29 (0, 0))) (hm : fmulK x y = true) (ha : faddK s (fmulV x y) = true) :
    Calls Tryz.prog 49 #[.float .f64 x, .float .f64 y, .pointer (some ⟨g, 0, none⟩)] w fun e w' => e = .returned (.tuple #[]) ∧ Aside0 (w.grownBy w' (some g)) ∧ Aside0 (w'.heap[g]? = some (.cells #[.float .f64 (faddV s (fmulV x y))] 29 (0, 0))) := by
  have hc : w.cell? ⟨g, 0, none⟩ = some (.float .f64 s) := (blk_cell h 0).trans rfl
  have hf := blk_frozen h 0
  have HBK := Aside0.mk h
  clear h
  go_enter Tryz.func49, Tryz.ntmps49
  go_wp2
  go_end0
  exact ⟨rfl, ⟨⟨rfl, rfl, rfl, by simp [World.setCell], fun k hk hn => Below.heap_setCell _ _ _ k (fun e => hn (by rw [e]))⟩⟩, ⟨blk_put HBK.out 0 _ rfl⟩⟩
set_option maxRecDepth 100000 in
set_option maxHeartbeats 4000000 in
theorem each_flat (A0 : Option Addr) (c0 : Nat) (l : List S31) (cur b kd : Int) (A1 : Option Addr) (c1 : Nat) (ds : List Int) (A2 : Option Addr) (c2 : Nat) (fs : List Nat) (g : Nat) (w0 w : World) (hr0 : Kd.C k31 w0 A0 l.length l) (hc0 : l.length ≤ c0) (hr1 : Kd.C (Kd.int .i64) w0 A1 ds.length ds) (hc1 : ds.length ≤ c1) (hr2 : Kd.C Kd.flt w0 A2 fs.length fs) (hc2 : fs.length ≤ c2) (hwl : ∀ f ∈ l, f.f1 < 18446744073709551616) (hwf : ∀ y ∈ fs, y < 18446744073709551616)
    (hbw : Below w0.heap.size w0 w) (hg0 : w0.heap.size ≤ g) (ha : w.heap[g]? = some (.cells #[.float .f64 0] 29 (0, 0))) (hfk : flatK cur b kd ds fs l) :
    Calls Tryz.prog 44 #[.slice A0 l.length c0, .int .i64 cur, .agg #[.int .i64 b, .int .i64 kd, .slice A1 ds.length c1, .slice A2 fs.length c2], .func (.func 49) #[] #[.pointer (some ⟨g, 0, none⟩)]] w fun e w' => e = .returned (.int .i64 (eachE cur b kd ds fs l)) ∧ Aside0 (Below w0.heap.size w0 w') ∧ Aside0 (kb w w' g) ∧ (eachE cur b kd ds fs l = 0 → Aside0 (w'.heap[g]? = some (.cells #[.float .f64 (flatS cur b kd ds fs l)] 29 (0, 0)))) := by
  have hu86 := Tryz.underlying26
  obtain ⟨p, hfc⟩ := fchk_is l hwl
  obtain ⟨k1, hk1⟩ := hfc.get
  obtain ⟨k2, hk2⟩ := (check_is b kd ds fs hwf).get
  have H1 := Aside0.mk hk1
  have H2 := Aside0.mk hk2
  have HC0 := Aside0.mk hr0
  have HL0 := Aside0.mk hc0
  have HC1 := Aside0.mk hr1
  have HL1 := Aside0.mk hc1
  have HC2 := Aside0.mk hr2
  have HL2 := Aside0.mk hc2
  have HWL := Lib.hid hwl
  have HWF := Lib.hid hwf
  have HFK := Lib.hid hfk
  have HB := Aside0.mk hbw
  have KB := Aside0.mk (kb.refl w g)
  have HG0 := Lib.hid hg0
  have HG := Lib.hid (show g < w.heap.size from blk_lt ha)
  have HA : Aside0 (w.heap[g]? = some (.cells #[.float .f64 0] 29 (0, 0))) := ⟨ha⟩
  have HWW := Aside0.mk (fun (A : Addr) (v : Value) (h : w0.cell? A = some v) => World.block_lt_of_cell? w0 _ h)
  have HE := Lib.hid (show eachE cur b kd ds fs l = if fchk l = 0 then (if cur < 1 ∨ 8 < cur then 140 else if chkC b kd ds fs = 0 then firstE cur b kd ds fs l else chkC b kd ds fs) else fchk l from rfl)
  clear hfk hfc hk1 hk2 hr0 hc0 hr1 hc1 hr2 hc2 hwl hwf hbw hg0 ha
  by_cases e1 : fchk l = 0
  rotate_left
  · have b1 : (fchk l != 0) = true := bne_iff_ne.2 e1
    have HR := Lib.hid (HE.out.trans (if_neg e1))
    have HR0 := Lib.hid e1
    clear e1 HE
    generalize fchk l = r at *
    generalize eachE cur b kd ds fs l = r' at *
    obtain rfl := HR.out
    go_enter Tryz.func44, Tryz.ntmps44
    go_wp2_with (first | ((with_reducible refine gate_dst (N := 6) rfl ?_); refine box_event ?hg (N := 6) ?hd (cs := #[.int .i64 b, .int .i64 kd, .slice A1 ds.length c1, .slice A2 fs.length c2]) (t := 26) ?hr ?_; (case hd => rfl); (case hg => rfl); (case hr => first | (go_simp; done) | (go_simp; rfl)); intro gb hg w11 hbox hb; have n0_ := Aside0.mk (below_then HB.out HB.out.size hb); have n1_ := Aside0.mk hbox; have n2_ := Aside0.mk (KB.out.below hb); have n3_ := Aside0.mk (hb.block g HG.out |>.trans HA.out); have n4_ := Lib.hid (show g ≠ gb by have := HG.out; omega); clear HB KB HA; have HB := n0_; have BK := n1_; have KB := n2_; have HA := n3_; have HN := n4_; clear n0_ n1_ n2_ n3_ n4_ hb hbox hg; have hz0 : w11.cell? ⟨gb, 0, none⟩ = some (.int .i64 b) := (blk_cell BK.out 0).trans rfl; have hz1 : w11.cell? ⟨gb, 1, none⟩ = some (.int .i64 kd) := (blk_cell BK.out 1).trans rfl; have hz2 : w11.cell? ⟨gb, 2, none⟩ = some (.slice A1 ds.length c1) := (blk_cell BK.out 2).trans rfl; have hz3 : w11.cell? ⟨gb, 3, none⟩ = some (.slice A2 fs.length c2) := (blk_cell BK.out 3).trans rfl; have hf0 := blk_frozen BK.out 0; have hf1 := blk_frozen BK.out 1; have hf2 := blk_frozen BK.out 2; have hf3 := blk_frozen BK.out 3) | (go_at_call 36; refine (flow_Check.calls k1 _ _ l _ p _ (cA (Kd.C_below HC0.out HB.out)) HL0.out H1.out).mono ?_; rintro e w13 ⟨rfl, hb⟩; have n0_ := Aside0.mk (below_then HB.out HB.out.size hb); have n1_ := Aside0.mk (blk_below BK.out hb); have n2_ := Aside0.mk (KB.out.below hb); have n3_ := Aside0.mk (hb.block g (blk_lt HA.out) |>.trans HA.out); clear HB BK KB HA; have HB := n0_; have BK := n1_; have KB := n2_; have HA := n3_; clear n0_ n1_ n2_ n3_ hb))
    go_ret
    exact ⟨rfl, HB, KB, fun h => absurd h HR0.out⟩
  rw [e1] at H1
  have HR1 := Lib.hid (HE.out.trans (if_pos e1))
  clear HE
  by_cases e2 : cur < 1 ∨ 8 < cur
  · have HR := Lib.hid (HR1.out.trans (if_pos e2))
    have b2 : (decide (cur < 1) = true) ∨ (decide (cur < 1) = false ∧ decide (8 < cur) = true) := by
      by_cases c : cur < 1
      · exact .inl (decide_eq_true c)
      · exact .inr ⟨decide_eq_false c, decide_eq_true (by omega)⟩
    clear e2 HR1 e1
    generalize eachE cur b kd ds fs l = r' at *
    obtain rfl := HR.out
    rcases b2 with b2 | ⟨b2, b3⟩
    all_goals
      go_enter Tryz.func44, Tryz.ntmps44
      go_wp2_with (first | ((with_reducible refine gate_dst (N := 6) rfl ?_); refine box_event ?hg (N := 6) ?hd (cs := #[.int .i64 b, .int .i64 kd, .slice A1 ds.length c1, .slice A2 fs.length c2]) (t := 26) ?hr ?_; (case hd => rfl); (case hg => rfl); (case hr => first | (go_simp; done) | (go_simp; rfl)); intro gb hg w11 hbox hb; have n0_ := Aside0.mk (below_then HB.out HB.out.size hb); have n1_ := Aside0.mk hbox; have n2_ := Aside0.mk (KB.out.below hb); have n3_ := Aside0.mk (hb.block g HG.out |>.trans HA.out); have n4_ := Lib.hid (show g ≠ gb by have := HG.out; omega); clear HB KB HA; have HB := n0_; have BK := n1_; have KB := n2_; have HA := n3_; have HN := n4_; clear n0_ n1_ n2_ n3_ n4_ hb hbox hg; have hz0 : w11.cell? ⟨gb, 0, none⟩ = some (.int .i64 b) := (blk_cell BK.out 0).trans rfl; have hz1 : w11.cell? ⟨gb, 1, none⟩ = some (.int .i64 kd) := (blk_cell BK.out 1).trans rfl; have hz2 : w11.cell? ⟨gb, 2, none⟩ = some (.slice A1 ds.length c1) := (blk_cell BK.out 2).trans rfl; have hz3 : w11.cell? ⟨gb, 3, none⟩ = some (.slice A2 fs.length c2) := (blk_cell BK.out 3).trans rfl; have hf0 := blk_frozen BK.out 0; have hf1 := blk_frozen BK.out 1; have hf2 := blk_frozen BK.out 2; have hf3 := blk_frozen BK.out 3) | (go_at_call 36; refine (flow_Check.calls k1 _ _ l _ p _ (cA (Kd.C_below HC0.out HB.out)) HL0.out H1.out).mono ?_; rintro e w13 ⟨rfl, hb⟩; have n0_ := Aside0.mk (below_then HB.out HB.out.size hb); have n1_ := Aside0.mk (blk_below BK.out hb); have n2_ := Aside0.mk (KB.out.below hb); have n3_ := Aside0.mk (hb.block g (blk_lt HA.out) |>.trans HA.out); clear HB BK KB HA; have HB := n0_; have BK := n1_; have KB := n2_; have HA := n3_; clear n0_ n1_ n2_ n3_ hb))
      go_ret
      exact ⟨rfl, HB, KB, fun h => by cases h⟩
  have HR2 := Lib.hid (HR1.out.trans (if_neg e2))
  have b2 : decide (cur < 1) = false := decide_eq_false (by omega)
  have b3 : decide (8 < cur) = false := decide_eq_false (by omega)
  have HGD := Lib.hid (fchk_zero e1)
  clear HR1 e2 e1
  by_cases e3 : chkC b kd ds fs = 0
  rotate_left
  · have b4 : (chkC b kd ds fs != 0) = true := bne_iff_ne.2 e3
    have HR := Lib.hid (HR2.out.trans (if_neg e3))
    have HR0 := Lib.hid e3
    clear e3 HR2
    generalize chkC b kd ds fs = r at *
    generalize eachE cur b kd ds fs l = r' at *
    obtain rfl := HR.out
    go_enter Tryz.func44, Tryz.ntmps44
    go_wp2_with (first | ((with_reducible refine gate_dst (N := 6) rfl ?_); refine box_event ?hg (N := 6) ?hd (cs := #[.int .i64 b, .int .i64 kd, .slice A1 ds.length c1, .slice A2 fs.length c2]) (t := 26) ?hr ?_; (case hd => rfl); (case hg => rfl); (case hr => first | (go_simp; done) | (go_simp; rfl)); intro gb hg w11 hbox hb; have n0_ := Aside0.mk (below_then HB.out HB.out.size hb); have n1_ := Aside0.mk hbox; have n2_ := Aside0.mk (KB.out.below hb); have n3_ := Aside0.mk (hb.block g HG.out |>.trans HA.out); have n4_ := Lib.hid (show g ≠ gb by have := HG.out; omega); clear HB KB HA; have HB := n0_; have BK := n1_; have KB := n2_; have HA := n3_; have HN := n4_; clear n0_ n1_ n2_ n3_ n4_ hb hbox hg; have hz0 : w11.cell? ⟨gb, 0, none⟩ = some (.int .i64 b) := (blk_cell BK.out 0).trans rfl; have hz1 : w11.cell? ⟨gb, 1, none⟩ = some (.int .i64 kd) := (blk_cell BK.out 1).trans rfl; have hz2 : w11.cell? ⟨gb, 2, none⟩ = some (.slice A1 ds.length c1) := (blk_cell BK.out 2).trans rfl; have hz3 : w11.cell? ⟨gb, 3, none⟩ = some (.slice A2 fs.length c2) := (blk_cell BK.out 3).trans rfl; have hf0 := blk_frozen BK.out 0; have hf1 := blk_frozen BK.out 1; have hf2 := blk_frozen BK.out 2; have hf3 := blk_frozen BK.out 3) | (go_at_call 36; refine (flow_Check.calls k1 _ _ l _ p _ (cA (Kd.C_below HC0.out HB.out)) HL0.out H1.out).mono ?_; rintro e w13 ⟨rfl, hb⟩; have n0_ := Aside0.mk (below_then HB.out HB.out.size hb); have n1_ := Aside0.mk (blk_below BK.out hb); have n2_ := Aside0.mk (KB.out.below hb); have n3_ := Aside0.mk (hb.block g (blk_lt HA.out) |>.trans HA.out); clear HB BK KB HA; have HB := n0_; have BK := n1_; have KB := n2_; have HA := n3_; clear n0_ n1_ n2_ n3_ hb; have hz0 : w13.cell? ⟨gb, 0, none⟩ = some (.int .i64 b) := (blk_cell BK.out 0).trans rfl; have hz1 : w13.cell? ⟨gb, 1, none⟩ = some (.int .i64 kd) := (blk_cell BK.out 1).trans rfl; have hz2 : w13.cell? ⟨gb, 2, none⟩ = some (.slice A1 ds.length c1) := (blk_cell BK.out 2).trans rfl; have hz3 : w13.cell? ⟨gb, 3, none⟩ = some (.slice A2 fs.length c2) := (blk_cell BK.out 3).trans rfl; have hf0 := blk_frozen BK.out 0; have hf1 := blk_frozen BK.out 1; have hf2 := blk_frozen BK.out 2; have hf3 := blk_frozen BK.out 3) | (go_at_call 61; refine (curve_Check.calls k2 b kd _ _ ds _ _ fs _ _ (cA (Kd.C_below HC1.out HB.out)) HL1.out (cA (Kd.C_below HC2.out HB.out)) HL2.out H2.out).mono ?_; rintro e w15 ⟨rfl, hb⟩; have n0_ := Aside0.mk (below_then HB.out HB.out.size hb); have n1_ := Aside0.mk (blk_below BK.out hb); have n2_ := Aside0.mk (KB.out.below hb); have n3_ := Aside0.mk (hb.block g (blk_lt HA.out) |>.trans HA.out); clear HB BK KB HA; have HB := n0_; have BK := n1_; have KB := n2_; have HA := n3_; clear n0_ n1_ n2_ n3_ hb))
    go_ret
    exact ⟨rfl, HB, KB, fun h => absurd h HR0.out⟩
  have HR := Lib.hid (HR2.out.trans (if_pos e3))
  rw [e3] at H2
  have HE3 := Lib.hid e3
  clear e3 HR2
  generalize eachE cur b kd ds fs l = r' at *
  have HLn := Lib.hid HGD.out.1
  go_enter Tryz.func44, Tryz.ntmps44
  go_upto_region 9 with (first | ((with_reducible refine gate_dst (N := 6) rfl ?_); refine box_event ?hg (N := 6) ?hd (cs := #[.int .i64 b, .int .i64 kd, .slice A1 ds.length c1, .slice A2 fs.length c2]) (t := 26) ?hr ?_; (case hd => rfl); (case hg => rfl); (case hr => first | (go_simp; done) | (go_simp; rfl)); intro gb hg w11 hbox hb; have n0_ := Aside0.mk (below_then HB.out HB.out.size hb); have n1_ := Aside0.mk hbox; have n2_ := Aside0.mk (KB.out.below hb); have n3_ := Aside0.mk (hb.block g HG.out |>.trans HA.out); have n4_ := Lib.hid (show g ≠ gb by have := HG.out; omega); clear HB KB HA; have HB := n0_; have BK := n1_; have KB := n2_; have HA := n3_; have HN := n4_; clear n0_ n1_ n2_ n3_ n4_ hb hbox hg; have hz0 : w11.cell? ⟨gb, 0, none⟩ = some (.int .i64 b) := (blk_cell BK.out 0).trans rfl; have hz1 : w11.cell? ⟨gb, 1, none⟩ = some (.int .i64 kd) := (blk_cell BK.out 1).trans rfl; have hz2 : w11.cell? ⟨gb, 2, none⟩ = some (.slice A1 ds.length c1) := (blk_cell BK.out 2).trans rfl; have hz3 : w11.cell? ⟨gb, 3, none⟩ = some (.slice A2 fs.length c2) := (blk_cell BK.out 3).trans rfl; have hf0 := blk_frozen BK.out 0; have hf1 := blk_frozen BK.out 1; have hf2 := blk_frozen BK.out 2; have hf3 := blk_frozen BK.out 3) | (go_at_call 36; refine (flow_Check.calls k1 _ _ l _ p _ (cA (Kd.C_below HC0.out HB.out)) HL0.out H1.out).mono ?_; rintro e w13 ⟨rfl, hb⟩; have n0_ := Aside0.mk (below_then HB.out HB.out.size hb); have n1_ := Aside0.mk (blk_below BK.out hb); have n2_ := Aside0.mk (KB.out.below hb); have n3_ := Aside0.mk (hb.block g (blk_lt HA.out) |>.trans HA.out); clear HB BK KB HA; have HB := n0_; have BK := n1_; have KB := n2_; have HA := n3_; clear n0_ n1_ n2_ n3_ hb; have hz0 : w13.cell? ⟨gb, 0, none⟩ = some (.int .i64 b) := (blk_cell BK.out 0).trans rfl; have hz1 : w13.cell? ⟨gb, 1, none⟩ = some (.int .i64 kd) := (blk_cell BK.out 1).trans rfl; have hz2 : w13.cell? ⟨gb, 2, none⟩ = some (.slice A1 ds.length c1) := (blk_cell BK.out 2).trans rfl; have hz3 : w13.cell? ⟨gb, 3, none⟩ = some (.slice A2 fs.length c2) := (blk_cell BK.out 3).trans rfl; have hf0 := blk_frozen BK.out 0; have hf1 := blk_frozen BK.out 1; have hf2 := blk_frozen BK.out 2; have hf3 := blk_frozen BK.out 3) | (go_at_call 61; refine (curve_Check.calls k2 b kd _ _ ds _ _ fs _ _ (cA (Kd.C_below HC1.out HB.out)) HL1.out (cA (Kd.C_below HC2.out HB.out)) HL2.out H2.out).mono ?_; rintro e w15 ⟨rfl, hb⟩; have n0_ := Aside0.mk (below_then HB.out HB.out.size hb); have n1_ := Aside0.mk (blk_below BK.out hb); have n2_ := Aside0.mk (KB.out.below hb); have n3_ := Aside0.mk (hb.block g (blk_lt HA.out) |>.trans HA.out); clear HB BK KB HA; have HB := n0_; have BK := n1_; have KB := n2_; have HA := n3_; clear n0_ n1_ n2_ n3_ hb))
  clear hz0 hz1 hz2 hz3 hf0 hf1 hf2 hf3
  have HS0 : RowKit.Hid (flatS cur b kd ds fs (l.take 0) = 0 ∧ firstE cur b kd ds fs l = firstE cur b kd ds fs (l.drop 0)) := by exact ⟨by rw [List.take_zero]; rfl, by rw [List.drop_zero]⟩
  go_wp2_with fail
  go_loopg [37] l.length (fun n v37 wr => ∃ i : Nat, i + n = l.length ∧ v37 = .int .i64 i ∧ Aside0 (Below w0.heap.size w0 wr) ∧ Aside0 (wr.heap[gb]? = some (.cells #[.int .i64 b, .int .i64 kd, .slice A1 ds.length c1, .slice A2 fs.length c2] 26 (0, 0))) ∧ Aside0 (kb w wr g) ∧ Aside0 (wr.heap[g]? = some (.cells #[.float .f64 (flatS cur b kd ds fs (l.take i))] 29 (0, 0))) ∧ RowKit.Hid (firstE cur b kd ds fs l = firstE cur b kd ds fs (l.drop i)))
  case atStart => exact ⟨0, by omega, rfl, HB, BK, KB, ⟨by rw [HS0.out.1]; exact HA.out⟩, HS0.out.2⟩
  case round =>
    clear HB BK KB HA HS0
    obtain ⟨i, hin, rfl, HB, BK, KB, HA, HF⟩ := hrel
    by_cases hlt : i < l.length
    · have hX := Lib.hid (HGD.out.2 _ (List.getElem_mem hlt))
      have hXw := Lib.hid (HWL.out _ (List.getElem_mem hlt))
      obtain ⟨ad, e1, hx0, hx1, hx2⟩ := at_T31 HC0.out (i : Int) (by omega) (by omega)
      cases e1
      rw [rd_z hlt] at hx0 hx1 hx2
      rw [Int.toNat_natCast] at hx0 hx1 hx2
      replace hx0 := (HB.out.cell (World.block_lt_of_cell? w0 _ hx0)).trans hx0
      replace hx1 := (HB.out.cell (World.block_lt_of_cell? w0 _ hx1)).trans hx1
      replace hx2 := (HB.out.cell (World.block_lt_of_cell? w0 _ hx2)).trans hx2
      have hT := Lib.hid (flatS_next cur b kd ds fs hlt)
      have hQ := Lib.hid (HFK.out i hlt)
      have hD := Lib.hid (HF.out.trans (by rw [List.drop_eq_getElem_cons hlt, firstE]))
      clear HF
      generalize l[i] = x at *
      obtain ⟨x0, x1, x2⟩ := x
      have h1 : decide ((i : Int) < (l.length : Int)) = true := decide_eq_true (by omega)
      have hW : RowKit.Hid (wrap64 ((i : Int) + 1) = ((i + 1 : Nat) : Int)) := by have := HLn.out; unfold RowKit.Hid wrap64; omega
      go_upto_region 12 with fail
      obtain ⟨gf, hgf⟩ : ∃ gf, gf = wr.heap.size := ⟨_, rfl⟩
      obtain ⟨W2, hW2⟩ : ∃ W2, W2 = wr.alloc (.cells #[.int .i64 x0, .float .f64 x1, .int .i64 x2] 31) := ⟨_, rfl⟩
      rw [← hW2, ← hgf]
      have hb2 : Below wr.heap.size wr W2 := by rw [hW2]; exact below_alloc (Below.refl _ _) _
      have HB2 := Aside0.mk (below_then HB.out HB.out.size hb2)
      have BK2 := Aside0.mk (blk_below BK.out hb2)
      have KB2 := Aside0.mk (KB.out.below hb2)
      have HA2 : Aside0 (W2.heap[g]? = some (.cells #[.float .f64 (flatS cur b kd ds fs (l.take i))] 29 (0, 0))) := ⟨(hb2.block g (blk_lt HA.out)).trans HA.out⟩
      have HF2 : Aside0 (W2.heap[gf]? = some (.cells #[.int .i64 x0, .float .f64 x1, .int .i64 x2] 31 (0, 0))) := ⟨by rw [hW2, hgf]; exact heap_alloc_new _ _⟩
      have hNF := Lib.hid (show gf ≠ g by have := blk_lt HA.out; omega)
      have hNB := Lib.hid (show gf ≠ gb by have := blk_lt BK.out; omega)
      clear hb2 hW2 hgf hx0 hx1 hx2 HB BK KB HA
      have f0 : W2.cell? ⟨gf, 0, none⟩ = some (.int .i64 x0) := (blk_cell HF2.out 0).trans rfl
      have f1 : W2.cell? ⟨gf, 1, none⟩ = some (.float .f64 x1) := (blk_cell HF2.out 1).trans rfl
      have f2 : W2.cell? ⟨gf, 2, none⟩ = some (.int .i64 x2) := (blk_cell HF2.out 2).trans rfl
      have hz0 : W2.cell? ⟨gb, 0, none⟩ = some (.int .i64 b) := (blk_cell BK2.out 0).trans rfl
      have hz1 : W2.cell? ⟨gb, 1, none⟩ = some (.int .i64 kd) := (blk_cell BK2.out 1).trans rfl
      have hz2 : W2.cell? ⟨gb, 2, none⟩ = some (.slice A1 ds.length c1) := (blk_cell BK2.out 2).trans rfl
      have hz3 : W2.cell? ⟨gb, 3, none⟩ = some (.slice A2 fs.length c2) := (blk_cell BK2.out 3).trans rfl
      have hf0 := blk_frozen BK2.out 0
      have hf1 := blk_frozen BK2.out 1
      have hf2 := blk_frozen BK2.out 2
      have hf3 := blk_frozen BK2.out 3
      by_cases q1 : x2 = cur
      rotate_left
      · have p1 : (x2 != cur) = true := bne_iff_ne.2 q1
        have hC : RowKit.Hid (counts cur b ⟨x0, x1, x2⟩ = false) := by unfold RowKit.Hid counts; rw [decide_eq_false q1]; rfl
        clear q1
        go_wp2_with fail
        go_roundg (gk - 1)
        case measure => omega
        case rel => exact ⟨i + 1, by omega, congrArg (Value.int .i64) hW.out, HB2, BK2, KB2, ⟨by rw [hT.out, if_neg (by rw [hC.out]; decide)]; exact HA2.out⟩, hD.out.trans (if_neg (by rw [hC.out]; decide))⟩
      have p1 : (x2 != cur) = false := bne_eq_false_iff_eq.2 q1
      by_cases q2 : x0 < b
      · have p2 : decide (x0 < b) = true := decide_eq_true q2
        have hC : RowKit.Hid (counts cur b ⟨x0, x1, x2⟩ = false) := by unfold RowKit.Hid counts; rw [decide_eq_true q2]; exact Bool.and_false _
        clear q1 q2
        go_wp2_with fail
        go_roundg (gk - 1)
        case measure => omega
        case rel => exact ⟨i + 1, by omega, congrArg (Value.int .i64) hW.out, HB2, BK2, KB2, ⟨by rw [hT.out, if_neg (by rw [hC.out]; decide)]; exact HA2.out⟩, hD.out.trans (if_neg (by rw [hC.out]; decide))⟩
      have p2 : decide (x0 < b) = false := decide_eq_false q2
      have hC : RowKit.Hid (counts cur b ⟨x0, x1, x2⟩ = true) := by unfold RowKit.Hid counts; rw [decide_eq_true q1, decide_eq_false q2]; rfl
      obtain ⟨k3, hk3⟩ := (factor_is b kd ds fs HWF.out x0).get
      have hPO := Lib.hid (fun h => factor_pos (b := b) (kd := kd) (ds := ds) HWF.out (x := x0) h)
      have hT2 := Lib.hid (hT.out.trans (if_pos hC.out))
      have hQ2 := Lib.hid (hQ.out hC.out)
      have hD2 := Lib.hid (hD.out.trans (if_pos hC.out))
      have hD2' : RowKit.Hid (firstE cur b kd ds fs l = if (facV b kd ds fs x0).2 = 0 then firstE cur b kd ds fs (l.drop (i + 1)) else (facV b kd ds fs x0).2) := hD2.out
      clear hT hD hD2 hC q1 q2
      generalize hFV : facV b kd ds fs x0 = FV at *
      obtain ⟨F1, F2⟩ := FV
      have H3 := Aside0.mk hk3
      clear hk3 hFV
      by_cases q3 : F2 = 0
      rotate_left
      · have p3 : (F2 != 0) = true := bne_iff_ne.2 q3
        have hR := Lib.hid (HR.out.trans (hD2'.out.trans (if_neg q3)))
        have hR0 := Lib.hid q3
        clear hD2' hT2 q3
        simp only at hR
        go_wp2_with (go_at_call 33; refine (FQ.curve_Factor.calls k3 b kd _ _ ds _ _ fs x0 F1 _ _ (cA (Kd.C_below HC1.out HB2.out)) HL1.out (cA (Kd.C_below HC2.out HB2.out)) HL2.out H3.out).mono ?_; rintro e w17 ⟨rfl, hb⟩; have n0_ := Aside0.mk (below_then HB2.out HB2.out.size hb); have n1_ := Aside0.mk (blk_below BK2.out hb); have n2_ := Aside0.mk (KB2.out.below hb); have n3_ := Aside0.mk (hb.block g (blk_lt HA2.out) |>.trans HA2.out); have n4_ := Aside0.mk (blk_below HF2.out hb); clear HB2 BK2 KB2 HA2 HF2; have HB2 := n0_; have BK2 := n1_; have KB2 := n2_; have HA2 := n3_; have HF2 := n4_; clear n0_ n1_ n2_ n3_ n4_ hb; have f3 : w17.cell? ⟨gf, 1, none⟩ = some (.float .f64 x1) := (blk_cell HF2.out 1).trans rfl)
        go_ret
        exact ⟨by rw [hR.out]; rfl, HB2, KB2, fun h => absurd (hR.out.symm.trans h) hR0.out⟩
      subst q3
      have hP := Lib.hid (hPO.out rfl)
      have hP2 := Lib.hid (posf_is hP.out.2).1
      have hD3 := Lib.hid (hD2'.out.trans (if_pos rfl))
      clear hPO hD2'
      simp only at hT2 hP hP2
      go_upto_region 16 with (go_at_call 33; refine (FQ.curve_Factor.calls k3 b kd _ _ ds _ _ fs x0 F1 _ _ (cA (Kd.C_below HC1.out HB2.out)) HL1.out (cA (Kd.C_below HC2.out HB2.out)) HL2.out H3.out).mono ?_; rintro e w17 ⟨rfl, hb⟩; have n0_ := Aside0.mk (below_then HB2.out HB2.out.size hb); have n1_ := Aside0.mk (blk_below BK2.out hb); have n2_ := Aside0.mk (KB2.out.below hb); have n3_ := Aside0.mk (hb.block g (blk_lt HA2.out) |>.trans HA2.out); have n4_ := Aside0.mk (blk_below HF2.out hb); clear HB2 BK2 KB2 HA2 HF2; have HB2 := n0_; have BK2 := n1_; have KB2 := n2_; have HA2 := n3_; have HF2 := n4_; clear n0_ n1_ n2_ n3_ n4_ hb; have f3 : w17.cell? ⟨gf, 1, none⟩ = some (.float .f64 x1) := (blk_cell HF2.out 1).trans rfl)
      have HA3 : Aside0 (w17.heap[g]? = some (.cells #[.float .f64 (flatS cur b kd ds fs (l.take i))] 29 (0, 0))) := ⟨HA2.out⟩
      clear HA2
      have hMK := Lib.hid (fmul_is (mul_fin' hXw.out hP.out.1 hX.out.2.1 hP2.out)).1
      generalize hS : flatS cur b kd ds fs (l.take i) = s at *
      clear hS
      go_wp2_with (go_at_call 49; refine (flat_step x1 F1 s g _ HA3.out hMK.out hQ2.out).mono ?_; rintro e w18 ⟨rfl, hgr, hac⟩)
      have HB4 := Aside0.mk (HB2.out.grown hgr.out HB2.out.size (fun k hk => by cases hk; exact HG0.out))
      have BK4 := Aside0.mk ((hgr.out.block gb (blk_lt BK2.out) (fun e => HN.out (by injection e with e; exact e.symm))).trans BK2.out)
      have KB4 := Aside0.mk (KB2.out.grown hgr.out)
      go_roundg (gk - 1)
      case measure => omega
      case rel => exact ⟨i + 1, by omega, congrArg (Value.int .i64) hW.out, HB4, BK4, KB4, ⟨by rw [hT2.out]; exact hac.out⟩, hD3⟩
    · obtain rfl : i = l.length := by omega
      rw [List.take_length] at HA
      have h1 : decide ((l.length : Int) < (l.length : Int)) = false := decide_eq_false (by omega)
      have hR := Lib.hid (HR.out.trans (HF.out.trans (by rw [List.drop_length, firstE])))
      go_wp2_with fail
      go_ret
      exact ⟨by rw [hR.out]; rfl, HB, KB, fun _ => HA⟩
end Go.Proofs.YthkcphdhmkcdkaaGreat.FB
end

section
/- price.Flat, where no step meets a NaN. -/
namespace Go.Proofs.YthkcphdhmkcdkaaGreat.FB
open Go.RowKit Go.Proofs.YthkcphdhmkcdkaaGreatW.PrintWords Go.Proofs.YthkcphdhmkcdkaaGreatW.PrintLast Go.Proofs.YthkcphdhmkcdkaaGreatW.PrintMore Go.Proofs.YthkcphdhmkcdkaaGreat.FX Go.Proofs.YthkcphdhmkcdkaaGreat.EV Go.Proofs.YthkcphdhmkcdkaaGreat.FP Tn
attribute [local go_sem] run_store_float run_neg_float run_fmul isSome_setCell
set_option linter.unusedVariables false
set_option linter.unusedSimpArgs false
/-- what price.Flat tells. -/
noncomputable def flatV (l : List S31) (cur b kd : Int) (ds : List Int) (fs : List Nat) : Nat × Int :=
  if eachE cur b kd ds fs l = 0 then toldV (flatS cur b kd ds fs l) else (0, eachE cur b kd ds fs l)
set_option maxRecDepth 100000 in
set_option maxHeartbeats 4000000 in
theorem flat_any (A0 : Option Addr) (c0 : Nat) (l : List S31) (cur b kd : Int) (A1 : Option Addr) (c1 : Nat) (ds : List Int) (A2 : Option Addr) (c2 : Nat) (fs : List Nat) (w : World) (hr0 : Kd.C k31 w A0 l.length l) (hc0 : l.length ≤ c0) (hr1 : Kd.C (Kd.int .i64) w A1 ds.length ds) (hc1 : ds.length ≤ c1) (hr2 : Kd.C Kd.flt w A2 fs.length fs) (hc2 : fs.length ≤ c2) (hwl : ∀ f ∈ l, f.f1 < 18446744073709551616) (hwf : ∀ y ∈ fs, y < 18446744073709551616) (hfk : flatK cur b kd ds fs l) (hs : flatS cur b kd ds fs l < 18446744073709551616) :
    Calls Tryz.prog 17 #[.slice A0 l.length c0, .int .i64 cur, .agg #[.int .i64 b, .int .i64 kd, .slice A1 ds.length c1, .slice A2 fs.length c2]] w fun e w' => e = .returned (.tuple #[.float .f64 (flatV l cur b kd ds fs).1, .int .i64 (flatV l cur b kd ds fs).2]) ∧ Below w.heap.size w w' := by
  have hu86 := Tryz.underlying26
  have hmf : ∀ (fn : Fn) (first cap : Array Value) (w : World), (Instr.makeFunc fn first cap).run Tryz.prog w = .ok (.func fn first cap) w := fun _ _ _ _ => rfl
  have HS := Lib.hid hs
  have HB0 := Aside0.mk (Below.refl w.heap.size w)
  have HEA := Aside0.mk (fun (W : World) (g : Nat) (hB : Below w.heap.size w W) (hg : w.heap.size ≤ g) ha => each_flat A0 c0 l cur b kd A1 c1 ds A2 c2 fs g w W hr0 hc0 hr1 hc1 hr2 hc2 hwl hwf hB hg ha hfk)
  have HP := Lib.hid (show flatV l cur b kd ds fs = if eachE cur b kd ds fs l = 0 then toldV (flatS cur b kd ds fs l) else (0, eachE cur b kd ds fs l) from rfl)
  clear hr0 hc0 hr1 hc1 hr2 hc2 hwl hwf hs hfk
  generalize hpv : flatV l cur b kd ds fs = PV at *
  obtain ⟨P1, P2⟩ := PV
  clear hpv
  generalize flatS cur b kd ds fs l = V at *
  generalize eachE cur b kd ds fs l = E at *
  by_cases c : E = 0
  rotate_left
  · have hE : (E != 0) = true := bne_iff_ne.2 c
    have HR := HP.out
    rw [if_neg c] at HR
    cases HR
    clear c
    go_enter Tryz.func17, Tryz.ntmps17
    go_upto_region 2 with ((with_reducible refine gate_dst (N := 5) rfl ?_); refine box_event ?hg (N := 5) ?hd (cs := #[.int .i64 b, .int .i64 kd, .slice A1 ds.length c1, .slice A2 fs.length c2]) (t := 26) ?hr ?_; (case hd => rfl); (case hg => rfl); (case hr => first | (go_simp; done) | (go_simp; rfl)); intro gx hgx w11 hbox hb; have HB := Aside0.mk (below_step HB0.out hb); have BK := Aside0.mk hbox; clear hb hbox hgx)
    obtain ⟨g, hg⟩ : ∃ g, g = w11.heap.size := ⟨_, rfl⟩
    obtain ⟨W2, hW2⟩ : ∃ W2, W2 = w11.alloc (.cells #[.float .f64 0] 29) := ⟨_, rfl⟩
    rw [← hW2, ← hg]
    have hb2 : Below w11.heap.size w11 W2 := by rw [hW2]; exact below_alloc (Below.refl _ _) _
    have HB2 := Aside0.mk (below_step HB.out hb2)
    have BK2 := Aside0.mk (blk_below BK.out hb2)
    have HF : Aside0 (W2.heap[g]? = some (.cells #[.float .f64 0] 29 (0, 0))) := ⟨by rw [hW2, hg]; exact heap_alloc_new _ _⟩
    have HG := Lib.hid (show w.heap.size ≤ g by rw [hg]; exact HB.out.size)
    clear hb2 hW2 hg HB BK
    have hz0 : W2.cell? ⟨gx, 0, none⟩ = some (.int .i64 b) := (blk_cell BK2.out 0).trans rfl
    have hz1 : W2.cell? ⟨gx, 1, none⟩ = some (.int .i64 kd) := (blk_cell BK2.out 1).trans rfl
    have hz2 : W2.cell? ⟨gx, 2, none⟩ = some (.slice A1 ds.length c1) := (blk_cell BK2.out 2).trans rfl
    have hz3 : W2.cell? ⟨gx, 3, none⟩ = some (.slice A2 fs.length c2) := (blk_cell BK2.out 3).trans rfl
    have hf0 := blk_frozen BK2.out 0
    have hf1 := blk_frozen BK2.out 1
    have hf2 := blk_frozen BK2.out 2
    have hf3 := blk_frozen BK2.out 3
    go_wp2_with (go_at_call 44; refine (HEA.out _ g HB2.out HG.out HF.out).mono ?_; rintro e w13 ⟨rfl, hb, hk, hv⟩)
    go_ret2
    exact ⟨rfl, hb.out⟩
  subst c
  have HR := HP.out
  rw [if_pos rfl] at HR
  have HT2 := Aside0.mk (fun (W : World) => told_any V HS.out W)
  rw [← HR] at HT2
  clear HR HP
  go_enter Tryz.func17, Tryz.ntmps17
  go_upto_region 2 with ((with_reducible refine gate_dst (N := 5) rfl ?_); refine box_event ?hg (N := 5) ?hd (cs := #[.int .i64 b, .int .i64 kd, .slice A1 ds.length c1, .slice A2 fs.length c2]) (t := 26) ?hr ?_; (case hd => rfl); (case hg => rfl); (case hr => first | (go_simp; done) | (go_simp; rfl)); intro gx hgx w11 hbox hb; have HB := Aside0.mk (below_step HB0.out hb); have BK := Aside0.mk hbox; clear hb hbox hgx)
  obtain ⟨g, hg⟩ : ∃ g, g = w11.heap.size := ⟨_, rfl⟩
  obtain ⟨W2, hW2⟩ : ∃ W2, W2 = w11.alloc (.cells #[.float .f64 0] 29) := ⟨_, rfl⟩
  rw [← hW2, ← hg]
  have hb2 : Below w11.heap.size w11 W2 := by rw [hW2]; exact below_alloc (Below.refl _ _) _
  have HB2 := Aside0.mk (below_step HB.out hb2)
  have BK2 := Aside0.mk (blk_below BK.out hb2)
  have HF : Aside0 (W2.heap[g]? = some (.cells #[.float .f64 0] 29 (0, 0))) := ⟨by rw [hW2, hg]; exact heap_alloc_new _ _⟩
  have HG := Lib.hid (show w.heap.size ≤ g by rw [hg]; exact HB.out.size)
  clear hb2 hW2 hg HB BK
  have hz0 : W2.cell? ⟨gx, 0, none⟩ = some (.int .i64 b) := (blk_cell BK2.out 0).trans rfl
  have hz1 : W2.cell? ⟨gx, 1, none⟩ = some (.int .i64 kd) := (blk_cell BK2.out 1).trans rfl
  have hz2 : W2.cell? ⟨gx, 2, none⟩ = some (.slice A1 ds.length c1) := (blk_cell BK2.out 2).trans rfl
  have hz3 : W2.cell? ⟨gx, 3, none⟩ = some (.slice A2 fs.length c2) := (blk_cell BK2.out 3).trans rfl
  have hf0 := blk_frozen BK2.out 0
  have hf1 := blk_frozen BK2.out 1
  have hf2 := blk_frozen BK2.out 2
  have hf3 := blk_frozen BK2.out 3
  go_wp2_with (first | (go_at_call 44; refine (HEA.out _ g HB2.out HG.out HF.out).mono ?_; rintro e w13 ⟨rfl, hb, hk, hv⟩; have hv2 := (hv rfl).out; have hcs : w13.cell? ⟨g, 0, none⟩ = some (.float .f64 V) := (blk_cell hv2 0).trans rfl) | (go_at_call 42; refine (HT2.out _).mono ?_; rintro e w15 ⟨rfl, rfl⟩))
  go_ret2
  exact ⟨rfl, hb.out⟩
end Go.Proofs.YthkcphdhmkcdkaaGreat.FB
end

section
/- Under ILinear what is told can be reckoned. -/
namespace Go.Proofs.YthkcphdhmkcdkaaGreat.FB
open Go.RowKit Go.Proofs.YthkcphdhmkcdkaaGreatW.PrintWords Go.Proofs.YthkcphdhmkcdkaaGreatW.PrintLast Go.Proofs.YthkcphdhmkcdkaaGreatW.PrintMore Go.Proofs.YthkcphdhmkcdkaaGreat.FX Go.Proofs.YthkcphdhmkcdkaaGreat.EV Go.Proofs.YthkcphdhmkcdkaaGreat.FP Tn
set_option linter.unusedVariables false
set_option linter.unusedSimpArgs false
/-- under ILinear, reckoned. -/
def atL (xs : List Int) (ys : List Nat) (x : Int) : Nat × Int :=
  if x < rd xs 0 ∨ rd xs ((xs.length : Int) - 1) < x then (0, 51)
  else if rd xs ((cnt xs x : Int) - 1) = x then (rdOf (0 : Nat) ys ((cnt xs x : Int) - 1), 0)
  else (linV (rdOf (0 : Nat) ys ((cnt xs x : Int) - 1)) (rdOf (0 : Nat) ys ((cnt xs x : Int) - 1 + 1)) (x - rd xs ((cnt xs x : Int) - 1)) (rd xs ((cnt xs x : Int) - 1 + 1) - rd xs ((cnt xs x : Int) - 1)), 0)
theorem at_lin (xs : List Int) (ys : List Nat) (x : Int) : atV 2 xs ys x = atL xs ys x := by
  unfold atV atL wayV
  rw [if_neg (show ¬ (2 : Int) = 1 by decide), if_pos (show (2 : Int) = 2 from rfl)]
def facL (b : Int) (ds : List Int) (fs : List Nat) (x : Int) : Nat × Int := if chkC b 2 ds fs = 0 then atL (b :: ds) (4607182418800017408 :: fs) x else (0, chkC b 2 ds fs)
theorem fac_lin (b : Int) (ds : List Int) (fs : List Nat) (x : Int) : facV b 2 ds fs x = facL b ds fs x := by unfold facV facL; rw [at_lin]
def firstL (cur b : Int) (ds : List Int) (fs : List Nat) : List S31 → Int
  | [] => 0
  | f :: l => if counts cur b f = true then (if (facL b ds fs f.f0).2 = 0 then firstL cur b ds fs l else (facL b ds fs f.f0).2) else firstL cur b ds fs l
theorem first_lin (cur b : Int) (ds : List Int) (fs : List Nat) : ∀ l : List S31, firstE cur b 2 ds fs l = firstL cur b ds fs l
  | [] => rfl
  | f :: l => by rw [firstE, firstL, first_lin, fac_lin]
def sumL (cur b : Int) (ds : List Int) (fs : List Nat) : List S31 → Int
  | [] => 0
  | f :: l => (if counts cur b f = true then unitsP f.f1 (facL b ds fs f.f0).1 else 0) + sumL cur b ds fs l
theorem sum_lin (cur b : Int) (ds : List Int) (fs : List Nat) : ∀ l : List S31, sumE cur b 2 ds fs l = sumL cur b ds fs l
  | [] => rfl
  | f :: l => by rw [sumE, sumL, sum_lin, worth1, fac_lin]
def eachLn (cur b : Int) (ds : List Int) (fs : List Nat) (l : List S31) : Int :=
  if fchk l = 0 then (if cur < 1 ∨ 8 < cur then 140 else if chkC b 2 ds fs = 0 then firstL cur b ds fs l else chkC b 2 ds fs) else fchk l
theorem each_lin (cur b : Int) (ds : List Int) (fs : List Nat) (l : List S31) : eachE cur b 2 ds fs l = eachLn cur b ds fs l := by unfold eachE eachLn; rw [first_lin]
def presL (l : List S31) (cur b : Int) (ds : List Int) (fs : List Nat) : Nat × Int := if eachLn cur b ds fs l = 0 then toldV (valV (sumL cur b ds fs l)) else (0, eachLn cur b ds fs l)
theorem pres_lin (l : List S31) (cur b : Int) (ds : List Int) (fs : List Nat) : presV l cur b 2 ds fs = presL l cur b ds fs := by unfold presV presL; rw [each_lin, sum_lin]
def flatL1 (cur b : Int) (ds : List Int) (fs : List Nat) (s : Nat) (f : S31) : Nat := if counts cur b f = true then faddV s (fmulV f.f1 (facL b ds fs f.f0).1) else s
theorem flat1_lin (cur b : Int) (ds : List Int) (fs : List Nat) : flatN cur b 2 ds fs = flatL1 cur b ds fs := by funext s f; unfold flatN flatL1; rw [fac_lin]
theorem flatS_lin (cur b : Int) (ds : List Int) (fs : List Nat) (l : List S31) : flatS cur b 2 ds fs l = l.foldl (flatL1 cur b ds fs) 0 := by unfold flatS; rw [flat1_lin]
def LL : List S31 := [⟨50, 4616189618054758400, 1⟩, ⟨200, 4620693217682128896, 1⟩, ⟨10, 4607182418800017408, 2⟩]
theorem aw_pres : presV LL 1 0 2 [100, 200] [4602678819172646912, 4598175219545276416] = (4617315517961601024, 0) := by rw [pres_lin]; decide +kernel
theorem aw_flat : flatV LL 1 0 2 [100, 200] [4602678819172646912, 4598175219545276416] = (4617315517961601024, 0) := by unfold flatV; rw [each_lin, flatS_lin]; decide +kernel
theorem aw_flatS : flatS 1 0 2 [100, 200] [4602678819172646912, 4598175219545276416] LL = 4617315517961601024 := by rw [flatS_lin]; decide +kernel
theorem aw_each : eachE 2 0 2 [100, 200] [4602678819172646912, 4598175219545276416] LL = 0 := by rw [each_lin]; decide +kernel
theorem aw_val : valV (sumE 2 0 2 [100, 200] [4602678819172646912, 4598175219545276416] LL) = 4606732058837280358 ∧ 0 < sumE 2 0 2 [100, 200] [4602678819172646912, 4598175219545276416] LL ∧ (sumE 2 0 2 [100, 200] [4602678819172646912, 4598175219545276416] LL).natAbs < B 67 := by rw [sum_lin]; decide +kernel
theorem aw_flatK : flatK 1 0 2 [100, 200] [4602678819172646912, 4598175219545276416] LL := by
  unfold flatK
  have h : ∀ i : Fin 3, counts 1 0 (LL.getD i.val ⟨0, 0, 0⟩) = true → faddK ((LL.take i.val).foldl (flatL1 1 0 [100, 200] [4602678819172646912, 4598175219545276416]) 0) (fmulV (LL.getD i.val ⟨0, 0, 0⟩).f1 (facL 0 [100, 200] [4602678819172646912, 4598175219545276416] (LL.getD i.val ⟨0, 0, 0⟩).f0).1) = true := by decide +kernel
  intro i hi
  have h2 := h ⟨i, hi⟩
  rw [show LL.getD i ⟨0, 0, 0⟩ = LL[i] by rw [List.getD_eq_getElem?_getD, List.getElem?_eq_getElem hi]; rfl] at h2
  rw [flatS_lin, fac_lin]
  exact h2
/-- a block of cells reads as a row. -/
theorem C_blk {α : Type} (d : Kd α) {w : World} {g : Nat} {t : TypeId} {cells : Array Value} {xs : List α} (hb : w.heap[g]? = some (.cells cells t (0, 0))) (hm : xs.length ≤ 1000)
    (h : ∀ j p, xs[j]? = some p → ∃ c : List Value, c.length = d.sz ∧ d.K w p c ∧ ∀ i u, c[i]? = some u → cells[j * d.sz + i]? = some u) : d.C w (some ⟨g, 0, none⟩) xs.length xs := by
  refine ⟨rfl, by omega, fun _ => ⟨⟨g, 0, none⟩, rfl, fun j p hp => ?_⟩⟩
  obtain ⟨c, h1, h2, h3⟩ := h j p hp
  refine ⟨c, h1, h2, fun i u hu => ?_⟩
  have := blk_cell hb (j * d.sz + i)
  rw [h3 i u hu] at this
  rw [← this]
  congr 1
  simp [Addr.add]
  intro e1 e2
  rw [e1, e2]
theorem zero_B (n : Nat) : (0 : Int).natAbs < B n := B_pos n
theorem C_ints {w : World} {g : Nat} {t : TypeId} {cells : Array Value} {xs : List Int} (hb : w.heap[g]? = some (.cells cells t (0, 0))) (hm : xs.length ≤ 1000) (h : cells.toList = xs.map (Value.int .i64)) : Kd.C (Kd.int .i64) w (some ⟨g, 0, none⟩) xs.length xs :=
  C_blk _ hb hm fun j p hp => ⟨[.int .i64 p], rfl, rfl, fun i u hu => by
    have hi : i = 0 := by
      have := (List.getElem?_eq_some_iff.1 hu).1
      simpa using this
    subst hi
    have e : cells[j]? = some (.int .i64 p) := by rw [← Array.getElem?_toList, h, List.getElem?_map, hp]; rfl
    rw [show j * (Kd.int .i64).sz + 0 = j from Nat.mul_one j, e]
    exact hu⟩
theorem C_flts {w : World} {g : Nat} {t : TypeId} {cells : Array Value} {xs : List Nat} (hb : w.heap[g]? = some (.cells cells t (0, 0))) (hm : xs.length ≤ 1000) (h : cells.toList = xs.map (Value.float .f64)) : Kd.C Kd.flt w (some ⟨g, 0, none⟩) xs.length xs :=
  C_blk _ hb hm fun j p hp => ⟨[.float .f64 p], rfl, rfl, fun i u hu => by
    have hi : i = 0 := by
      have := (List.getElem?_eq_some_iff.1 hu).1
      simpa using this
    subst hi
    have e : cells[j]? = some (.float .f64 p) := by rw [← Array.getElem?_toList, h, List.getElem?_map, hp]; rfl
    rw [show j * Kd.flt.sz + 0 = j from Nat.mul_one j, e]
    exact hu⟩
set_option maxRecDepth 100000 in
set_option maxHeartbeats 4000000 in
theorem law15_awake (w : World) :
    Calls Tryz.prog 8 #[] w fun e w' => e = .returned (.bool true) ∧ Below w.heap.size w w' := by
  have hu86 := Tryz.underlying26
  go_enter Tryz.func8, Tryz.ntmps8
  go_upto_region 3 with fail
  obtain ⟨g, hg⟩ : ∃ g, g = w.heap.size := ⟨_, rfl⟩
  obtain ⟨W, hW⟩ : ∃ W, W = ((((w.alloc (.cells #[.int .i64 100, .int .i64 200] 3)).alloc (.cells #[.float .f64 4602678819172646912, .float .f64 4598175219545276416] 29)).alloc (.cells #[.int .i64 0, .int .i64 2, .slice (some ⟨w.heap.size, 0, none⟩) 2 2, .slice (some ⟨w.heap.size + 1, 0, none⟩) 2 2] 26)).alloc (.cells #[.int .i64 50, .float .f64 4616189618054758400, .int .i64 1, .int .i64 200, .float .f64 4620693217682128896, .int .i64 1, .int .i64 10, .float .f64 4607182418800017408, .int .i64 2] 31)) := ⟨_, rfl⟩
  rw [← hW]
  have b0 := Aside0.mk (show Below w.heap.size w W by rw [hW]; exact below_alloc (below_alloc (below_alloc (below_alloc (Below.refl _ _) _) _) _) _)
  have h0 : W.heap[g]? = some (.cells #[.int .i64 100, .int .i64 200] 3 (0, 0)) := by
    rw [hW, hg]; exact blk_alloc (blk_alloc (blk_alloc (heap_alloc_new _ _) _) _) _
  have s1 : ∀ (w : World) (o : Obj), (w.alloc o).heap.size = w.heap.size + 1 := fun w o => by unfold World.alloc; exact Array.size_push _
  have h1 : W.heap[g + 1]? = some (.cells #[.float .f64 4602678819172646912, .float .f64 4598175219545276416] 29 (0, 0)) := by
    rw [hW, hg, ← s1 w (.cells #[.int .i64 100, .int .i64 200] 3)]; exact blk_alloc (blk_alloc (heap_alloc_new _ _) _) _
  have h2 : W.heap[g + 1 + 1]? = some (.cells #[.int .i64 0, .int .i64 2, .slice (some ⟨g, 0, none⟩) 2 2, .slice (some ⟨g + 1, 0, none⟩) 2 2] 26 (0, 0)) := by
    rw [hW, hg, show w.heap.size + 1 + 1 = ((w.alloc (.cells #[.int .i64 100, .int .i64 200] 3)).alloc (.cells #[.float .f64 4602678819172646912, .float .f64 4598175219545276416] 29)).heap.size by rw [s1, s1]]; exact blk_alloc (heap_alloc_new _ _) _
  have h3 : W.heap[g + 1 + 1 + 1]? = some (.cells #[.int .i64 50, .float .f64 4616189618054758400, .int .i64 1, .int .i64 200, .float .f64 4620693217682128896, .int .i64 1, .int .i64 10, .float .f64 4607182418800017408, .int .i64 2] 31 (0, 0)) := by
    rw [hW, hg, show w.heap.size + 1 + 1 + 1 = (((w.alloc (.cells #[.int .i64 100, .int .i64 200] 3)).alloc (.cells #[.float .f64 4602678819172646912, .float .f64 4598175219545276416] 29)).alloc (.cells #[.int .i64 0, .int .i64 2, .slice (some ⟨w.heap.size, 0, none⟩) 2 2, .slice (some ⟨w.heap.size + 1, 0, none⟩) 2 2] 26)).heap.size by rw [s1, s1, s1]]; exact heap_alloc_new _ _
  have C1 := Aside0.mk (C_ints (xs := [100, 200]) h0 (by decide) rfl)
  have C2 := Aside0.mk (C_flts (xs := [4602678819172646912, 4598175219545276416]) h1 (by decide) rfl)
  have C0 : Aside0 (Kd.C k31 W (some ⟨g + 1 + 1 + 1, 0, none⟩) LL.length LL) := ⟨C_blk k31 h3 (by decide) (fun j p hp => by
    have hj := (List.getElem?_eq_some_iff.1 hp).1
    have hj3 : j < 3 := hj
    match j, hj3, hp with
    | 0, _, hp => cases hp; exact ⟨_, rfl, k31_mk W ⟨50, 4616189618054758400, 1⟩, fun i u hu => by have hi : i < 3 := (List.getElem?_eq_some_iff.1 hu).1; match i, hi, hu with | 0, _, hu => exact hu | 1, _, hu => exact hu | 2, _, hu => exact hu⟩
    | 1, _, hp => cases hp; exact ⟨_, rfl, k31_mk W ⟨200, 4620693217682128896, 1⟩, fun i u hu => by have hi : i < 3 := (List.getElem?_eq_some_iff.1 hu).1; match i, hi, hu with | 0, _, hu => exact hu | 1, _, hu => exact hu | 2, _, hu => exact hu⟩
    | 2, _, hp => cases hp; exact ⟨_, rfl, k31_mk W ⟨10, 4607182418800017408, 2⟩, fun i u hu => by have hi : i < 3 := (List.getElem?_eq_some_iff.1 hu).1; match i, hi, hu with | 0, _, hu => exact hu | 1, _, hu => exact hu | 2, _, hu => exact hu⟩)⟩
  have HX := Aside0.mk h2
  clear h0 h1 h2 h3 s1
  have HP := Aside0.mk (fun (W' : World) (hB : Below W.heap.size W W') => (present_any (some ⟨g + 1 + 1 + 1, 0, none⟩) 3 LL 1 0 2 (some ⟨g, 0, none⟩) 2 [100, 200] (some ⟨g + 1, 0, none⟩) 2 [4602678819172646912, 4598175219545276416] W' (Kd.C_below C0.out hB) (by decide) (Kd.C_below C1.out hB) (by decide) (Kd.C_below C2.out hB) (by decide) (by decide)))
  have HF := Aside0.mk (fun (W' : World) (hB : Below W.heap.size W W') => (flat_any (some ⟨g + 1 + 1 + 1, 0, none⟩) 3 LL 1 0 2 (some ⟨g, 0, none⟩) 2 [100, 200] (some ⟨g + 1, 0, none⟩) 2 [4602678819172646912, 4598175219545276416] W' (Kd.C_below C0.out hB) (by decide) (Kd.C_below C1.out hB) (by decide) (Kd.C_below C2.out hB) (by decide) (by decide) (by decide) aw_flatK (by rw [aw_flatS]; decide)))
  have HO := Aside0.mk (fun (W' : World) (hB : Below W.heap.size W W') => (of_any (some ⟨g + 1 + 1 + 1, 0, none⟩) 3 LL 2 0 2 (some ⟨g, 0, none⟩) 2 [100, 200] (some ⟨g + 1, 0, none⟩) 2 [4602678819172646912, 4598175219545276416] W' (Kd.C_below C0.out hB) (by decide) (Kd.C_below C1.out hB) (by decide) (Kd.C_below C2.out hB) (by decide) (by decide) (by decide)))
  obtain ⟨x5, hx5⟩ : ∃ x : Nat, x = 4617315517961601024 := ⟨_, rfl⟩
  have e5 : (FloatKind.f64.format.order x5 4617315517961601024 == some .eq) = true := by rw [hx5]; decide +kernel
  rw [aw_pres, ← hx5] at HP
  rw [aw_flat, ← hx5] at HF
  clear hx5
  rw [aw_each] at HO
  obtain ⟨v1, v2, v3⟩ := aw_val
  generalize sumE 2 0 2 [100, 200] [4602678819172646912, 4598175219545276416] LL = Z at *
  rw [← hg]
  clear hg
  have HB := Aside0.mk (Below.refl W.heap.size W)
  have hcl : RowKit.Hid ((LL.length : Nat) = 3) := rfl
  clear C0 C1 C2 hW
  have V1 := Lib.hid v1
  have V2 := Lib.hid v2
  have V3 := Lib.hid v3
  clear v1 v2 v3
  have hx := blk_below HX.out HB.out; have hz0 : W.cell? ⟨g + 1 + 1, 0, none⟩ = some (.int .i64 0) := (blk_cell hx 0).trans rfl; have hz1 : W.cell? ⟨g + 1 + 1, 1, none⟩ = some (.int .i64 2) := (blk_cell hx 1).trans rfl; have hz2 : W.cell? ⟨g + 1 + 1, 2, none⟩ = some (.slice (some ⟨g, 0, none⟩) 2 2) := (blk_cell hx 2).trans rfl; have hz3 : W.cell? ⟨g + 1 + 1, 3, none⟩ = some (.slice (some ⟨g + 1, 0, none⟩) 2 2) := (blk_cell hx 3).trans rfl; have hf0 := blk_frozen hx 0; have hf1 := blk_frozen hx 1; have hf2 := blk_frozen hx 2; have hf3 := blk_frozen hx 3; clear hx
  go_upto_region 6 with (first | (go_at_call 10; refine (HP.out _ HB.out).mono ?_; rintro e w1 ⟨rfl, hb⟩; have n0_ := Aside0.mk (below_step HB.out hb); clear HB hb; have HB := n0_; clear n0_; have hx := blk_below HX.out HB.out; have hz0 : w1.cell? ⟨g + 1 + 1, 0, none⟩ = some (.int .i64 0) := (blk_cell hx 0).trans rfl; have hz1 : w1.cell? ⟨g + 1 + 1, 1, none⟩ = some (.int .i64 2) := (blk_cell hx 1).trans rfl; have hz2 : w1.cell? ⟨g + 1 + 1, 2, none⟩ = some (.slice (some ⟨g, 0, none⟩) 2 2) := (blk_cell hx 2).trans rfl; have hz3 : w1.cell? ⟨g + 1 + 1, 3, none⟩ = some (.slice (some ⟨g + 1, 0, none⟩) 2 2) := (blk_cell hx 3).trans rfl; have hf0 := blk_frozen hx 0; have hf1 := blk_frozen hx 1; have hf2 := blk_frozen hx 2; have hf3 := blk_frozen hx 3; clear hx) | (go_at_call 17; refine (HF.out _ HB.out).mono ?_; rintro e w2 ⟨rfl, hb⟩; have n0_ := Aside0.mk (below_step HB.out hb); clear HB hb; have HB := n0_; clear n0_; have hx := blk_below HX.out HB.out; have hz0 : w2.cell? ⟨g + 1 + 1, 0, none⟩ = some (.int .i64 0) := (blk_cell hx 0).trans rfl; have hz1 : w2.cell? ⟨g + 1 + 1, 1, none⟩ = some (.int .i64 2) := (blk_cell hx 1).trans rfl; have hz2 : w2.cell? ⟨g + 1 + 1, 2, none⟩ = some (.slice (some ⟨g, 0, none⟩) 2 2) := (blk_cell hx 2).trans rfl; have hz3 : w2.cell? ⟨g + 1 + 1, 3, none⟩ = some (.slice (some ⟨g + 1, 0, none⟩) 2 2) := (blk_cell hx 3).trans rfl; have hf0 := blk_frozen hx 0; have hf1 := blk_frozen hx 1; have hf2 := blk_frozen hx 2; have hf3 := blk_frozen hx 3; clear hx) | (go_at_call 14; refine (HO.out _ HB.out).mono ?_; rintro e w3 ⟨hb, ⟨hn, _⟩ | ⟨_, ga, gb, rfl, hg1, hg2, hw⟩⟩; exact absurd rfl hn; have hb := hb.out; have n0_ := Aside0.mk (below_step HB.out hb); clear HB hb; have HB := n0_; clear n0_))
  go_upto_region 7 with (go_at_call 35; refine (nothing_any _).mono ?_; rintro e w4 ⟨rfl, hb, hn⟩; have HW := Aside0.mk (hw.out.below hb.out); have hb := hb.out; have n0_ := Aside0.mk (below_step HB.out hb); clear HB hb; have HB := n0_; clear n0_)
  generalize w3.heap.size = gn at *
  have hq := HW.out.cell
  have hq2 := hn.out.cell
  have VA := Aside0.mk (fun (W' : World) (h : accZ W' gb Z false false) => value_any gb Z false false W' h V3.out)
  obtain ⟨x9, hx9⟩ : ∃ x : Nat, x = 4606732058837280358 := ⟨_, rfl⟩
  have e6 : (FloatKind.f64.format.order x9 4606732058837280358 == some .eq) = true := by rw [hx9]; decide +kernel
  rw [show overV Z false false 1 = x9 from V1.out.trans hx9.symm] at VA
  clear hx9
  have SA := Aside0.mk (fun (W' : World) (h : accZ W' gb Z false false) => sign_fin gb Z W' V3.out h)
  rw [show signZ Z = 1 by unfold signZ; rw [if_neg (by have := V2.out; omega), if_neg (by have := V2.out; omega)]] at SA
  have SN := Aside0.mk (fun (W' : World) (h : accZ W' gn 0 false false) => sign_fin gn 0 W' (zero_B 67) h)
  rw [show signZ 0 = 0 from rfl] at SN
  have HN := hn
  clear hn hw hg1 hg2 hz0 hz1 hz2 hz3 hf0 hf1 hf2 hf3
  go_wp2_with (first | (go_at_call 20; refine (VA.out _ HW.out.a).mono ?_; rintro e w5 ⟨rfl, hb⟩; have n1_ := Aside0.mk (HW.out.below hb.out); have n2_ := Aside0.mk (HN.out.below hb.out); have hb := hb.out; have n0_ := Aside0.mk (below_step HB.out hb); clear HB hb; have HB := n0_; clear n0_; clear HW HN; have HW := n1_; have HN := n2_; clear n1_ n2_; have hq : w5.cell? ⟨ga, 0, none⟩ = some (.pointer (some ⟨gb, 0, none⟩)) := HW.out.cell; have hq2 : w5.cell? ⟨gn + 1, 0, none⟩ = some (.pointer (some ⟨gn, 0, none⟩)) := HN.out.cell) | (go_at_call 22; first | (with_reducible refine (SA.out _ HW.out.a).mono ?_; rintro e w6 ⟨rfl, rfl⟩) | (with_reducible refine (SN.out _ HN.out.a).mono ?_; rintro e w6 ⟨rfl, rfl⟩)))
  go_ret
  exact ⟨rfl, below_step b0.out HB.out⟩
end Go.Proofs.YthkcphdhmkcdkaaGreat.FB
end

section
/- law 15's awake, in the print's shape. -/
namespace Go.Proofs.YthkcphdhmkcdkaaGreat.FB
open Go.RowKit Go.Proofs.YthkcphdhmkcdkaaGreatW.PrintWords Go.Proofs.YthkcphdhmkcdkaaGreat.FX Tn
def law15_awakeX.f : Option Bool := some true
theorem law15_awakeX.calls (r : Bool) (w : World) (h : law15_awakeX.f = some r) : Calls Tryz.prog 8 #[] w fun e w' => e = .returned (.bool r) ∧ Below w.heap.size w w' := by
  obtain rfl := Option.some.inj h
  exact law15_awake w
end Go.Proofs.YthkcphdhmkcdkaaGreat.FB
end
