/- Texts packed into one: Pb Pc Pd. No condition. -/
import Derived.Test.YthkcphdhmkcdkaaGreatPa
import Derived.Test.YthkcphdhmkcdkaaGreatAl
section
/- price.each: the flows that count, each handed on with its factor: to a sum's Prod. -/
namespace Go.Proofs.YthkcphdhmkcdkaaGreat.FB
open Go.RowKit Go.Proofs.YthkcphdhmkcdkaaGreatW.PrintWords Go.Proofs.YthkcphdhmkcdkaaGreatW.PrintLast Go.Proofs.YthkcphdhmkcdkaaGreatW.PrintMore Go.Proofs.YthkcphdhmkcdkaaGreat.FX Go.Proofs.YthkcphdhmkcdkaaGreat.EV Go.Proofs.YthkcphdhmkcdkaaGreat.FP Tn
attribute [local go_sem] run_store_float run_neg_float run_fmul isSome_setCell
set_option linter.unusedVariables false
set_option linter.unusedSimpArgs false
/-- all but the block g stays. -/
def kb (w w' : World) (g : Nat) : Prop := w.heap.size ≤ w'.heap.size ∧ ∀ k, k < w.heap.size → k ≠ g → w'.heap[k]? = w.heap[k]?
theorem kb.refl (w : World) (g : Nat) : kb w w g := ⟨Nat.le_refl _, fun _ _ _ => rfl⟩
theorem kb.below {w w1 w2 : World} {g : Nat} (h : kb w w1 g) (hb : Below w1.heap.size w1 w2) : kb w w2 g := ⟨Nat.le_trans h.1 hb.size, fun k hk hn => (hb.block k (Nat.lt_of_lt_of_le hk h.1)).trans (h.2 k hk hn)⟩
theorem kb.grown {w w1 w2 : World} {g : Nat} (h : kb w w1 g) (hg : w1.grownBy w2 (some g)) : kb w w2 g := ⟨Nat.le_trans h.1 hg.size, fun k hk hn => (hg.block k (Nat.lt_of_lt_of_le hk h.1) (fun e => hn (by injection e))).trans (h.2 k hk hn)⟩
set_option maxRecDepth 100000 in
set_option maxHeartbeats 4000000 in
theorem each_prod (A0 : Option Addr) (c0 : Nat) (l : List S31) (cur b kd : Int) (A1 : Option Addr) (c1 : Nat) (ds : List Int) (A2 : Option Addr) (c2 : Nat) (fs : List Nat) (g : Nat) (w0 w : World) (hr0 : Kd.C k31 w0 A0 l.length l) (hc0 : l.length ≤ c0) (hr1 : Kd.C (Kd.int .i64) w0 A1 ds.length ds) (hc1 : ds.length ≤ c1) (hr2 : Kd.C Kd.flt w0 A2 fs.length fs) (hc2 : fs.length ≤ c2) (hwl : ∀ f ∈ l, f.f1 < 18446744073709551616) (hwf : ∀ y ∈ fs, y < 18446744073709551616)
    (hbw : Below w0.heap.size w0 w) (hg0 : w0.heap.size ≤ g) (ha : accZ w g 0 false false) :
    Calls Tryz.prog 44 #[.slice A0 l.length c0, .int .i64 cur, .agg #[.int .i64 b, .int .i64 kd, .slice A1 ds.length c1, .slice A2 fs.length c2], .func (.func 45) #[.pointer (some ⟨g, 0, none⟩)] #[]] w fun e w' => e = .returned (.int .i64 (eachE cur b kd ds fs l)) ∧ Aside0 (Below w0.heap.size w0 w') ∧ Aside0 (kb w w' g) ∧ (eachE cur b kd ds fs l = 0 → Aside0 (accZ w' g (sumE cur b kd ds fs l) false false)) := by
  have hu86 := Tryz.underlying26
  obtain ⟨p, hfc⟩ := fchk_is l hwl
  obtain ⟨k1, hk1⟩ := hfc.get
  obtain ⟨k2, hk2⟩ := (check_is b kd ds fs hwf).get
  have H1 := Aside0.mk hk1
  have H2 := Aside0.mk hk2
  have HC0 := Aside0.mk hr0
  have HL0 := Aside0.mk hc0
  have HC1 := Aside0.mk hr1
  have HL1 := Aside0.mk hc1
  have HC2 := Aside0.mk hr2
  have HL2 := Aside0.mk hc2
  have HWL := Lib.hid hwl
  have HWF := Lib.hid hwf
  have HB := Aside0.mk hbw
  have KB := Aside0.mk (kb.refl w g)
  have HG0 := Lib.hid hg0
  have HG := Lib.hid (show g < w.heap.size from blk_lt ha)
  have HA : Aside0 (w.heap[g]? = some (.cells (cellsF (wd (modB 0)) false false) 106 (0, 0))) := ⟨ha⟩
  have HWW := Aside0.mk (fun (A : Addr) (v : Value) (h : w0.cell? A = some v) => World.block_lt_of_cell? w0 _ h)
  have HE := Lib.hid (show eachE cur b kd ds fs l = if fchk l = 0 then (if cur < 1 ∨ 8 < cur then 140 else if chkC b kd ds fs = 0 then firstE cur b kd ds fs l else chkC b kd ds fs) else fchk l from rfl)
  clear hfc hk1 hk2 hr0 hc0 hr1 hc1 hr2 hc2 hwl hwf hbw hg0 ha
  by_cases e1 : fchk l = 0
  rotate_left
  · have b1 : (fchk l != 0) = true := bne_iff_ne.2 e1
    have HR := Lib.hid (HE.out.trans (if_neg e1))
    have HR0 := Lib.hid e1
    clear e1 HE
    generalize fchk l = r at *
    generalize eachE cur b kd ds fs l = r' at *
    obtain rfl := HR.out
    go_enter Tryz.func44, Tryz.ntmps44
    go_wp2_with (first | ((with_reducible refine gate_dst (N := 6) rfl ?_); refine box_event ?hg (N := 6) ?hd (cs := #[.int .i64 b, .int .i64 kd, .slice A1 ds.length c1, .slice A2 fs.length c2]) (t := 26) ?hr ?_; (case hd => rfl); (case hg => rfl); (case hr => first | (go_simp; done) | (go_simp; rfl)); intro gb hg w11 hbox hb; have n0_ := Aside0.mk (below_then HB.out HB.out.size hb); have n1_ := Aside0.mk hbox; have n2_ := Aside0.mk (KB.out.below hb); have n3_ := Aside0.mk (hb.block g HG.out |>.trans HA.out); have n4_ := Lib.hid (show g ≠ gb by have := HG.out; omega); clear HB KB HA; have HB := n0_; have BK := n1_; have KB := n2_; have HA := n3_; have HN := n4_; clear n0_ n1_ n2_ n3_ n4_ hb hbox hg; have hz0 : w11.cell? ⟨gb, 0, none⟩ = some (.int .i64 b) := (blk_cell BK.out 0).trans rfl; have hz1 : w11.cell? ⟨gb, 1, none⟩ = some (.int .i64 kd) := (blk_cell BK.out 1).trans rfl; have hz2 : w11.cell? ⟨gb, 2, none⟩ = some (.slice A1 ds.length c1) := (blk_cell BK.out 2).trans rfl; have hz3 : w11.cell? ⟨gb, 3, none⟩ = some (.slice A2 fs.length c2) := (blk_cell BK.out 3).trans rfl; have hf0 := blk_frozen BK.out 0; have hf1 := blk_frozen BK.out 1; have hf2 := blk_frozen BK.out 2; have hf3 := blk_frozen BK.out 3) | (go_at_call 36; refine (flow_Check.calls k1 _ _ l _ p _ (cA (Kd.C_below HC0.out HB.out)) HL0.out H1.out).mono ?_; rintro e w13 ⟨rfl, hb⟩; have n0_ := Aside0.mk (below_then HB.out HB.out.size hb); have n1_ := Aside0.mk (blk_below BK.out hb); have n2_ := Aside0.mk (KB.out.below hb); have n3_ := Aside0.mk (hb.block g (blk_lt HA.out) |>.trans HA.out); clear HB BK KB HA; have HB := n0_; have BK := n1_; have KB := n2_; have HA := n3_; clear n0_ n1_ n2_ n3_ hb))
    go_ret
    exact ⟨rfl, HB, KB, fun h => absurd h HR0.out⟩
  rw [e1] at H1
  have HR1 := Lib.hid (HE.out.trans (if_pos e1))
  clear HE
  by_cases e2 : cur < 1 ∨ 8 < cur
  · have HR := Lib.hid (HR1.out.trans (if_pos e2))
    have b2 : (decide (cur < 1) = true) ∨ (decide (cur < 1) = false ∧ decide (8 < cur) = true) := by
      by_cases c : cur < 1
      · exact .inl (decide_eq_true c)
      · exact .inr ⟨decide_eq_false c, decide_eq_true (by omega)⟩
    clear e2 HR1 e1
    generalize eachE cur b kd ds fs l = r' at *
    obtain rfl := HR.out
    rcases b2 with b2 | ⟨b2, b3⟩
    all_goals
      go_enter Tryz.func44, Tryz.ntmps44
      go_wp2_with (first | ((with_reducible refine gate_dst (N := 6) rfl ?_); refine box_event ?hg (N := 6) ?hd (cs := #[.int .i64 b, .int .i64 kd, .slice A1 ds.length c1, .slice A2 fs.length c2]) (t := 26) ?hr ?_; (case hd => rfl); (case hg => rfl); (case hr => first | (go_simp; done) | (go_simp; rfl)); intro gb hg w11 hbox hb; have n0_ := Aside0.mk (below_then HB.out HB.out.size hb); have n1_ := Aside0.mk hbox; have n2_ := Aside0.mk (KB.out.below hb); have n3_ := Aside0.mk (hb.block g HG.out |>.trans HA.out); have n4_ := Lib.hid (show g ≠ gb by have := HG.out; omega); clear HB KB HA; have HB := n0_; have BK := n1_; have KB := n2_; have HA := n3_; have HN := n4_; clear n0_ n1_ n2_ n3_ n4_ hb hbox hg; have hz0 : w11.cell? ⟨gb, 0, none⟩ = some (.int .i64 b) := (blk_cell BK.out 0).trans rfl; have hz1 : w11.cell? ⟨gb, 1, none⟩ = some (.int .i64 kd) := (blk_cell BK.out 1).trans rfl; have hz2 : w11.cell? ⟨gb, 2, none⟩ = some (.slice A1 ds.length c1) := (blk_cell BK.out 2).trans rfl; have hz3 : w11.cell? ⟨gb, 3, none⟩ = some (.slice A2 fs.length c2) := (blk_cell BK.out 3).trans rfl; have hf0 := blk_frozen BK.out 0; have hf1 := blk_frozen BK.out 1; have hf2 := blk_frozen BK.out 2; have hf3 := blk_frozen BK.out 3) | (go_at_call 36; refine (flow_Check.calls k1 _ _ l _ p _ (cA (Kd.C_below HC0.out HB.out)) HL0.out H1.out).mono ?_; rintro e w13 ⟨rfl, hb⟩; have n0_ := Aside0.mk (below_then HB.out HB.out.size hb); have n1_ := Aside0.mk (blk_below BK.out hb); have n2_ := Aside0.mk (KB.out.below hb); have n3_ := Aside0.mk (hb.block g (blk_lt HA.out) |>.trans HA.out); clear HB BK KB HA; have HB := n0_; have BK := n1_; have KB := n2_; have HA := n3_; clear n0_ n1_ n2_ n3_ hb))
      go_ret
      exact ⟨rfl, HB, KB, fun h => by cases h⟩
  have HR2 := Lib.hid (HR1.out.trans (if_neg e2))
  have b2 : decide (cur < 1) = false := decide_eq_false (by omega)
  have b3 : decide (8 < cur) = false := decide_eq_false (by omega)
  have HGD := Lib.hid (fchk_zero e1)
  clear HR1 e2 e1
  by_cases e3 : chkC b kd ds fs = 0
  rotate_left
  · have b4 : (chkC b kd ds fs != 0) = true := bne_iff_ne.2 e3
    have HR := Lib.hid (HR2.out.trans (if_neg e3))
    have HR0 := Lib.hid e3
    clear e3 HR2
    generalize chkC b kd ds fs = r at *
    generalize eachE cur b kd ds fs l = r' at *
    obtain rfl := HR.out
    go_enter Tryz.func44, Tryz.ntmps44
    go_wp2_with (first | ((with_reducible refine gate_dst (N := 6) rfl ?_); refine box_event ?hg (N := 6) ?hd (cs := #[.int .i64 b, .int .i64 kd, .slice A1 ds.length c1, .slice A2 fs.length c2]) (t := 26) ?hr ?_; (case hd => rfl); (case hg => rfl); (case hr => first | (go_simp; done) | (go_simp; rfl)); intro gb hg w11 hbox hb; have n0_ := Aside0.mk (below_then HB.out HB.out.size hb); have n1_ := Aside0.mk hbox; have n2_ := Aside0.mk (KB.out.below hb); have n3_ := Aside0.mk (hb.block g HG.out |>.trans HA.out); have n4_ := Lib.hid (show g ≠ gb by have := HG.out; omega); clear HB KB HA; have HB := n0_; have BK := n1_; have KB := n2_; have HA := n3_; have HN := n4_; clear n0_ n1_ n2_ n3_ n4_ hb hbox hg; have hz0 : w11.cell? ⟨gb, 0, none⟩ = some (.int .i64 b) := (blk_cell BK.out 0).trans rfl; have hz1 : w11.cell? ⟨gb, 1, none⟩ = some (.int .i64 kd) := (blk_cell BK.out 1).trans rfl; have hz2 : w11.cell? ⟨gb, 2, none⟩ = some (.slice A1 ds.length c1) := (blk_cell BK.out 2).trans rfl; have hz3 : w11.cell? ⟨gb, 3, none⟩ = some (.slice A2 fs.length c2) := (blk_cell BK.out 3).trans rfl; have hf0 := blk_frozen BK.out 0; have hf1 := blk_frozen BK.out 1; have hf2 := blk_frozen BK.out 2; have hf3 := blk_frozen BK.out 3) | (go_at_call 36; refine (flow_Check.calls k1 _ _ l _ p _ (cA (Kd.C_below HC0.out HB.out)) HL0.out H1.out).mono ?_; rintro e w13 ⟨rfl, hb⟩; have n0_ := Aside0.mk (below_then HB.out HB.out.size hb); have n1_ := Aside0.mk (blk_below BK.out hb); have n2_ := Aside0.mk (KB.out.below hb); have n3_ := Aside0.mk (hb.block g (blk_lt HA.out) |>.trans HA.out); clear HB BK KB HA; have HB := n0_; have BK := n1_; have KB := n2_; have HA := n3_; clear n0_ n1_ n2_ n3_ hb; have hz0 : w13.cell? ⟨gb, 0, none⟩ = some (.int .i64 b) := (blk_cell BK.out 0).trans rfl; have hz1 : w13.cell? ⟨gb, 1, none⟩ = some (.int .i64 kd) := (blk_cell BK.out 1).trans rfl; have hz2 : w13.cell? ⟨gb, 2, none⟩ = some (.slice A1 ds.length c1) := (blk_cell BK.out 2).trans rfl; have hz3 : w13.cell? ⟨gb, 3, none⟩ = some (.slice A2 fs.length c2) := (blk_cell BK.out 3).trans rfl; have hf0 := blk_frozen BK.out 0; have hf1 := blk_frozen BK.out 1; have hf2 := blk_frozen BK.out 2; have hf3 := blk_frozen BK.out 3) | (go_at_call 61; refine (curve_Check.calls k2 b kd _ _ ds _ _ fs _ _ (cA (Kd.C_below HC1.out HB.out)) HL1.out (cA (Kd.C_below HC2.out HB.out)) HL2.out H2.out).mono ?_; rintro e w15 ⟨rfl, hb⟩; have n0_ := Aside0.mk (below_then HB.out HB.out.size hb); have n1_ := Aside0.mk (blk_below BK.out hb); have n2_ := Aside0.mk (KB.out.below hb); have n3_ := Aside0.mk (hb.block g (blk_lt HA.out) |>.trans HA.out); clear HB BK KB HA; have HB := n0_; have BK := n1_; have KB := n2_; have HA := n3_; clear n0_ n1_ n2_ n3_ hb))
    go_ret
    exact ⟨rfl, HB, KB, fun h => absurd h HR0.out⟩
  have HR := Lib.hid (HR2.out.trans (if_pos e3))
  rw [e3] at H2
  have HE3 := Lib.hid e3
  clear e3 HR2
  generalize eachE cur b kd ds fs l = r' at *
  have HLn := Lib.hid HGD.out.1
  go_enter Tryz.func44, Tryz.ntmps44
  go_upto_region 9 with (first | ((with_reducible refine gate_dst (N := 6) rfl ?_); refine box_event ?hg (N := 6) ?hd (cs := #[.int .i64 b, .int .i64 kd, .slice A1 ds.length c1, .slice A2 fs.length c2]) (t := 26) ?hr ?_; (case hd => rfl); (case hg => rfl); (case hr => first | (go_simp; done) | (go_simp; rfl)); intro gb hg w11 hbox hb; have n0_ := Aside0.mk (below_then HB.out HB.out.size hb); have n1_ := Aside0.mk hbox; have n2_ := Aside0.mk (KB.out.below hb); have n3_ := Aside0.mk (hb.block g HG.out |>.trans HA.out); have n4_ := Lib.hid (show g ≠ gb by have := HG.out; omega); clear HB KB HA; have HB := n0_; have BK := n1_; have KB := n2_; have HA := n3_; have HN := n4_; clear n0_ n1_ n2_ n3_ n4_ hb hbox hg; have hz0 : w11.cell? ⟨gb, 0, none⟩ = some (.int .i64 b) := (blk_cell BK.out 0).trans rfl; have hz1 : w11.cell? ⟨gb, 1, none⟩ = some (.int .i64 kd) := (blk_cell BK.out 1).trans rfl; have hz2 : w11.cell? ⟨gb, 2, none⟩ = some (.slice A1 ds.length c1) := (blk_cell BK.out 2).trans rfl; have hz3 : w11.cell? ⟨gb, 3, none⟩ = some (.slice A2 fs.length c2) := (blk_cell BK.out 3).trans rfl; have hf0 := blk_frozen BK.out 0; have hf1 := blk_frozen BK.out 1; have hf2 := blk_frozen BK.out 2; have hf3 := blk_frozen BK.out 3) | (go_at_call 36; refine (flow_Check.calls k1 _ _ l _ p _ (cA (Kd.C_below HC0.out HB.out)) HL0.out H1.out).mono ?_; rintro e w13 ⟨rfl, hb⟩; have n0_ := Aside0.mk (below_then HB.out HB.out.size hb); have n1_ := Aside0.mk (blk_below BK.out hb); have n2_ := Aside0.mk (KB.out.below hb); have n3_ := Aside0.mk (hb.block g (blk_lt HA.out) |>.trans HA.out); clear HB BK KB HA; have HB := n0_; have BK := n1_; have KB := n2_; have HA := n3_; clear n0_ n1_ n2_ n3_ hb; have hz0 : w13.cell? ⟨gb, 0, none⟩ = some (.int .i64 b) := (blk_cell BK.out 0).trans rfl; have hz1 : w13.cell? ⟨gb, 1, none⟩ = some (.int .i64 kd) := (blk_cell BK.out 1).trans rfl; have hz2 : w13.cell? ⟨gb, 2, none⟩ = some (.slice A1 ds.length c1) := (blk_cell BK.out 2).trans rfl; have hz3 : w13.cell? ⟨gb, 3, none⟩ = some (.slice A2 fs.length c2) := (blk_cell BK.out 3).trans rfl; have hf0 := blk_frozen BK.out 0; have hf1 := blk_frozen BK.out 1; have hf2 := blk_frozen BK.out 2; have hf3 := blk_frozen BK.out 3) | (go_at_call 61; refine (curve_Check.calls k2 b kd _ _ ds _ _ fs _ _ (cA (Kd.C_below HC1.out HB.out)) HL1.out (cA (Kd.C_below HC2.out HB.out)) HL2.out H2.out).mono ?_; rintro e w15 ⟨rfl, hb⟩; have n0_ := Aside0.mk (below_then HB.out HB.out.size hb); have n1_ := Aside0.mk (blk_below BK.out hb); have n2_ := Aside0.mk (KB.out.below hb); have n3_ := Aside0.mk (hb.block g (blk_lt HA.out) |>.trans HA.out); clear HB BK KB HA; have HB := n0_; have BK := n1_; have KB := n2_; have HA := n3_; clear n0_ n1_ n2_ n3_ hb))
  clear hz0 hz1 hz2 hz3 hf0 hf1 hf2 hf3
  have HS0 : RowKit.Hid (sumE cur b kd ds fs (l.take 0) = 0 ∧ firstE cur b kd ds fs l = firstE cur b kd ds fs (l.drop 0)) := by exact ⟨by rw [List.take_zero]; rfl, by rw [List.drop_zero]⟩
  go_wp2_with fail
  go_loopg [37] l.length (fun n v37 wr => ∃ i : Nat, i + n = l.length ∧ v37 = .int .i64 i ∧ Aside0 (Below w0.heap.size w0 wr) ∧ Aside0 (wr.heap[gb]? = some (.cells #[.int .i64 b, .int .i64 kd, .slice A1 ds.length c1, .slice A2 fs.length c2] 26 (0, 0))) ∧ Aside0 (kb w wr g) ∧ Aside0 (accZ wr g (sumE cur b kd ds fs (l.take i)) false false) ∧ RowKit.Hid (firstE cur b kd ds fs l = firstE cur b kd ds fs (l.drop i)))
  case atStart => exact ⟨0, by omega, rfl, HB, BK, KB, ⟨by rw [HS0.out.1]; exact HA.out⟩, HS0.out.2⟩
  case round =>
    clear HB BK KB HA HS0
    obtain ⟨i, hin, rfl, HB, BK, KB, HA, HF⟩ := hrel
    by_cases hlt : i < l.length
    · have hX := Lib.hid (HGD.out.2 _ (List.getElem_mem hlt))
      have hXw := Lib.hid (HWL.out _ (List.getElem_mem hlt))
      obtain ⟨ad, e1, hx0, hx1, hx2⟩ := at_T31 HC0.out (i : Int) (by omega) (by omega)
      cases e1
      rw [rd_z hlt] at hx0 hx1 hx2
      rw [Int.toNat_natCast] at hx0 hx1 hx2
      replace hx0 := (HB.out.cell (World.block_lt_of_cell? w0 _ hx0)).trans hx0
      replace hx1 := (HB.out.cell (World.block_lt_of_cell? w0 _ hx1)).trans hx1
      replace hx2 := (HB.out.cell (World.block_lt_of_cell? w0 _ hx2)).trans hx2
      have hT := Lib.hid (sumE_next cur b kd ds fs hlt)
      have hD := Lib.hid (HF.out.trans (by rw [List.drop_eq_getElem_cons hlt, firstE]))
      clear HF
      generalize l[i] = x at *
      obtain ⟨x0, x1, x2⟩ := x
      have h1 : decide ((i : Int) < (l.length : Int)) = true := decide_eq_true (by omega)
      have hW : RowKit.Hid (wrap64 ((i : Int) + 1) = ((i + 1 : Nat) : Int)) := by have := HLn.out; unfold RowKit.Hid wrap64; omega
      go_upto_region 12 with fail
      obtain ⟨gf, hgf⟩ : ∃ gf, gf = wr.heap.size := ⟨_, rfl⟩
      obtain ⟨W2, hW2⟩ : ∃ W2, W2 = wr.alloc (.cells #[.int .i64 x0, .float .f64 x1, .int .i64 x2] 31) := ⟨_, rfl⟩
      rw [← hW2, ← hgf]
      have hb2 : Below wr.heap.size wr W2 := by rw [hW2]; exact below_alloc (Below.refl _ _) _
      have HB2 := Aside0.mk (below_then HB.out HB.out.size hb2)
      have BK2 := Aside0.mk (blk_below BK.out hb2)
      have KB2 := Aside0.mk (KB.out.below hb2)
      have HA2 : Aside0 (accZ W2 g (sumE cur b kd ds fs (l.take i)) false false) := ⟨(hb2.block g (blk_lt HA.out)).trans HA.out⟩
      have HF2 : Aside0 (W2.heap[gf]? = some (.cells #[.int .i64 x0, .float .f64 x1, .int .i64 x2] 31 (0, 0))) := ⟨by rw [hW2, hgf]; exact heap_alloc_new _ _⟩
      have hNF := Lib.hid (show gf ≠ g by have := blk_lt HA.out; omega)
      have hNB := Lib.hid (show gf ≠ gb by have := blk_lt BK.out; omega)
      clear hb2 hW2 hgf hx0 hx1 hx2 HB BK KB HA
      have f0 : W2.cell? ⟨gf, 0, none⟩ = some (.int .i64 x0) := (blk_cell HF2.out 0).trans rfl
      have f1 : W2.cell? ⟨gf, 1, none⟩ = some (.float .f64 x1) := (blk_cell HF2.out 1).trans rfl
      have f2 : W2.cell? ⟨gf, 2, none⟩ = some (.int .i64 x2) := (blk_cell HF2.out 2).trans rfl
      have hz0 : W2.cell? ⟨gb, 0, none⟩ = some (.int .i64 b) := (blk_cell BK2.out 0).trans rfl
      have hz1 : W2.cell? ⟨gb, 1, none⟩ = some (.int .i64 kd) := (blk_cell BK2.out 1).trans rfl
      have hz2 : W2.cell? ⟨gb, 2, none⟩ = some (.slice A1 ds.length c1) := (blk_cell BK2.out 2).trans rfl
      have hz3 : W2.cell? ⟨gb, 3, none⟩ = some (.slice A2 fs.length c2) := (blk_cell BK2.out 3).trans rfl
      have hf0 := blk_frozen BK2.out 0
      have hf1 := blk_frozen BK2.out 1
      have hf2 := blk_frozen BK2.out 2
      have hf3 := blk_frozen BK2.out 3
      by_cases q1 : x2 = cur
      rotate_left
      · have p1 : (x2 != cur) = true := bne_iff_ne.2 q1
        have hC : RowKit.Hid (counts cur b ⟨x0, x1, x2⟩ = false) := by unfold RowKit.Hid counts; rw [decide_eq_false q1]; rfl
        clear q1
        go_wp2_with fail
        go_roundg (gk - 1)
        case measure => omega
        case rel => exact ⟨i + 1, by omega, congrArg (Value.int .i64) hW.out, HB2, BK2, KB2, ⟨by rw [hT.out, worth1, if_neg (by rw [hC.out]; decide), Int.add_zero]; exact HA2.out⟩, hD.out.trans (if_neg (by rw [hC.out]; decide))⟩
      have p1 : (x2 != cur) = false := bne_eq_false_iff_eq.2 q1
      by_cases q2 : x0 < b
      · have p2 : decide (x0 < b) = true := decide_eq_true q2
        have hC : RowKit.Hid (counts cur b ⟨x0, x1, x2⟩ = false) := by unfold RowKit.Hid counts; rw [decide_eq_true q2]; exact Bool.and_false _
        clear q1 q2
        go_wp2_with fail
        go_roundg (gk - 1)
        case measure => omega
        case rel => exact ⟨i + 1, by omega, congrArg (Value.int .i64) hW.out, HB2, BK2, KB2, ⟨by rw [hT.out, worth1, if_neg (by rw [hC.out]; decide), Int.add_zero]; exact HA2.out⟩, hD.out.trans (if_neg (by rw [hC.out]; decide))⟩
      have p2 : decide (x0 < b) = false := decide_eq_false q2
      have hC : RowKit.Hid (counts cur b ⟨x0, x1, x2⟩ = true) := by unfold RowKit.Hid counts; rw [decide_eq_true q1, decide_eq_false q2]; rfl
      obtain ⟨k3, hk3⟩ := (factor_is b kd ds fs HWF.out x0).get
      have hPO := Lib.hid (fun h => factor_pos (b := b) (kd := kd) (ds := ds) HWF.out (x := x0) h)
      have hT2 := Lib.hid (hT.out.trans (congrArg (fun z => sumE cur b kd ds fs (l.take i) + z) (show worth1 cur b kd ds fs ⟨x0, x1, x2⟩ = unitsP x1 (facV b kd ds fs x0).1 by unfold worth1; rw [if_pos hC.out])))
      have hD2 := Lib.hid (hD.out.trans (if_pos hC.out))
      have hD2' : RowKit.Hid (firstE cur b kd ds fs l = if (facV b kd ds fs x0).2 = 0 then firstE cur b kd ds fs (l.drop (i + 1)) else (facV b kd ds fs x0).2) := hD2.out
      clear hT hD hD2 hC q1 q2
      generalize hFV : facV b kd ds fs x0 = FV at *
      obtain ⟨F1, F2⟩ := FV
      have H3 := Aside0.mk hk3
      clear hk3 hFV
      by_cases q3 : F2 = 0
      rotate_left
      · have p3 : (F2 != 0) = true := bne_iff_ne.2 q3
        have hR := Lib.hid (HR.out.trans (hD2'.out.trans (if_neg q3)))
        have hR0 := Lib.hid q3
        clear hD2' hT2 q3
        simp only at hR
        go_wp2_with (go_at_call 33; refine (FQ.curve_Factor.calls k3 b kd _ _ ds _ _ fs x0 F1 _ _ (cA (Kd.C_below HC1.out HB2.out)) HL1.out (cA (Kd.C_below HC2.out HB2.out)) HL2.out H3.out).mono ?_; rintro e w17 ⟨rfl, hb⟩; have n0_ := Aside0.mk (below_then HB2.out HB2.out.size hb); have n1_ := Aside0.mk (blk_below BK2.out hb); have n2_ := Aside0.mk (KB2.out.below hb); have n3_ := Aside0.mk (hb.block g (blk_lt HA2.out) |>.trans HA2.out); have n4_ := Aside0.mk (blk_below HF2.out hb); clear HB2 BK2 KB2 HA2 HF2; have HB2 := n0_; have BK2 := n1_; have KB2 := n2_; have HA2 := n3_; have HF2 := n4_; clear n0_ n1_ n2_ n3_ n4_ hb; have f3 : w17.cell? ⟨gf, 1, none⟩ = some (.float .f64 x1) := (blk_cell HF2.out 1).trans rfl)
        go_ret
        exact ⟨by rw [hR.out]; rfl, HB2, KB2, fun h => absurd (hR.out.symm.trans h) hR0.out⟩
      subst q3
      have hP := Lib.hid (hPO.out rfl)
      have hP2 := Lib.hid (posf_is hP.out.2).1
      have hD3 := Lib.hid (hD2'.out.trans (if_pos rfl))
      clear hPO hD2'
      simp only at hT2 hP hP2
      go_upto_region 16 with (go_at_call 33; refine (FQ.curve_Factor.calls k3 b kd _ _ ds _ _ fs x0 F1 _ _ (cA (Kd.C_below HC1.out HB2.out)) HL1.out (cA (Kd.C_below HC2.out HB2.out)) HL2.out H3.out).mono ?_; rintro e w17 ⟨rfl, hb⟩; have n0_ := Aside0.mk (below_then HB2.out HB2.out.size hb); have n1_ := Aside0.mk (blk_below BK2.out hb); have n2_ := Aside0.mk (KB2.out.below hb); have n3_ := Aside0.mk (hb.block g (blk_lt HA2.out) |>.trans HA2.out); have n4_ := Aside0.mk (blk_below HF2.out hb); clear HB2 BK2 KB2 HA2 HF2; have HB2 := n0_; have BK2 := n1_; have KB2 := n2_; have HA2 := n3_; have HF2 := n4_; clear n0_ n1_ n2_ n3_ n4_ hb; have f3 : w17.cell? ⟨gf, 1, none⟩ = some (.float .f64 x1) := (blk_cell HF2.out 1).trans rfl)
      have HA3 : Aside0 (accZ w17 g (sumE cur b kd ds fs (l.take i)) false false) := ⟨HA2.out⟩
      clear HA2
      go_wp2_with (go_at_call 45; refine (prod_fin g x1 F1 _ false false _ HA3.out hXw.out hP.out.1 hX.out.2.1 hP2.out).mono ?_; rintro e w18 ⟨rfl, hgr, hac⟩)
      have HB4 := Aside0.mk (HB2.out.grown hgr.out HB2.out.size (fun k hk => by cases hk; exact HG0.out))
      have BK4 := Aside0.mk ((hgr.out.block gb (blk_lt BK2.out) (fun e => HN.out (by injection e with e; exact e.symm))).trans BK2.out)
      have KB4 := Aside0.mk (KB2.out.grown hgr.out)
      go_roundg (gk - 1)
      case measure => omega
      case rel => exact ⟨i + 1, by omega, congrArg (Value.int .i64) hW.out, HB4, BK4, KB4, ⟨by rw [hT2.out]; exact hac.out⟩, hD3⟩
    · obtain rfl : i = l.length := by omega
      rw [List.take_length] at HA
      have h1 : decide ((l.length : Int) < (l.length : Int)) = false := decide_eq_false (by omega)
      have hR := Lib.hid (HR.out.trans (HF.out.trans (by rw [List.drop_length, firstE])))
      go_wp2_with fail
      go_ret
      exact ⟨by rw [hR.out]; rfl, HB, KB, fun _ => HA⟩
end Go.Proofs.YthkcphdhmkcdkaaGreat.FB
end

section
/- price.Of, Present: what flows are worth. -/
namespace Go.Proofs.YthkcphdhmkcdkaaGreat.FB
open Go.RowKit Go.Proofs.YthkcphdhmkcdkaaGreatW.PrintWords Go.Proofs.YthkcphdhmkcdkaaGreatW.PrintLast Go.Proofs.YthkcphdhmkcdkaaGreatW.PrintMore Go.Proofs.YthkcphdhmkcdkaaGreat.FX Go.Proofs.YthkcphdhmkcdkaaGreat.EV Go.Proofs.YthkcphdhmkcdkaaGreat.FP Tn
attribute [local go_sem] run_store_float run_neg_float run_fmul isSome_setCell
set_option linter.unusedVariables false
set_option linter.unusedSimpArgs false
theorem _root_.Go.Proofs.YthkcphdhmkcdkaaGreat.worth.kb {w w' : World} {g b : Nat} {Z Y : Int} (h : worth w g b Z) (hk : kb w w' b) (ha : accZ w' b Y false false) : worth w' g b Y := ⟨(hk.2 g h.lt.1 h.ne).trans h.p, ha⟩
set_option maxRecDepth 100000 in
set_option maxHeartbeats 4000000 in
theorem of_any (A0 : Option Addr) (c0 : Nat) (l : List S31) (cur b kd : Int) (A1 : Option Addr) (c1 : Nat) (ds : List Int) (A2 : Option Addr) (c2 : Nat) (fs : List Nat) (w : World) (hr0 : Kd.C k31 w A0 l.length l) (hc0 : l.length ≤ c0) (hr1 : Kd.C (Kd.int .i64) w A1 ds.length ds) (hc1 : ds.length ≤ c1) (hr2 : Kd.C Kd.flt w A2 fs.length fs) (hc2 : fs.length ≤ c2) (hwl : ∀ f ∈ l, f.f1 < 18446744073709551616) (hwf : ∀ y ∈ fs, y < 18446744073709551616) :
    Calls Tryz.prog 14 #[.slice A0 l.length c0, .int .i64 cur, .agg #[.int .i64 b, .int .i64 kd, .slice A1 ds.length c1, .slice A2 fs.length c2]] w fun e w' => Aside0 (Below w.heap.size w w') ∧ ((eachE cur b kd ds fs l ≠ 0 ∧ e = .returned (.tuple #[.pointer none, .int .i64 (eachE cur b kd ds fs l)])) ∨ (eachE cur b kd ds fs l = 0 ∧ ∃ g gb : Nat, e = .returned (.tuple #[.pointer (some ⟨g, 0, none⟩), .int .i64 0]) ∧ w.heap.size ≤ g ∧ w.heap.size ≤ gb ∧ Aside0 (worth w' g gb (sumE cur b kd ds fs l)))) := by
  have hu86 := Tryz.underlying26
  have hmf : ∀ (fn : Fn) (first cap : Array Value) (w : World), (Instr.makeFunc fn first cap).run Tryz.prog w = .ok (.func fn first cap) w := fun _ _ _ _ => rfl
  have HC0 := Aside0.mk hr0
  have HL0 := Aside0.mk hc0
  have HC1 := Aside0.mk hr1
  have HL1 := Aside0.mk hc1
  have HC2 := Aside0.mk hr2
  have HL2 := Aside0.mk hc2
  have HWL := Lib.hid hwl
  have HWF := Lib.hid hwf
  clear hr0 hc0 hr1 hc1 hr2 hc2 hwl hwf
  go_enter Tryz.func14, Tryz.ntmps14
  go_upto_region 2 with (first | ((with_reducible refine gate_dst (N := 5) rfl ?_); refine box_event ?hg (N := 5) ?hd (cs := #[.int .i64 b, .int .i64 kd, .slice A1 ds.length c1, .slice A2 fs.length c2]) (t := 26) ?hr ?_; (case hd => rfl); (case hg => rfl); (case hr => first | (go_simp; done) | (go_simp; rfl)); intro gx hgx w11 hbox hb; have HB := Aside0.mk (below_step (Below.refl _ _) hb); have BK := Aside0.mk hbox; clear hb hbox hgx) | (go_at_call 35; refine (nothing_any _).mono ?_; rintro e w12 ⟨rfl, hb, hw⟩; have n0_ := Aside0.mk (below_step HB.out hb.out); have n1_ := Aside0.mk (blk_below BK.out hb.out); have n2_ := Lib.hid HB.out.size; clear HB BK; have HB := n0_; have BK := n1_; have HS := n2_; have HW := hw; clear n0_ n1_ n2_ hb hw))
  generalize w11.heap.size = gb at *
  have HB1 := Aside0.mk (show Below w.heap.size w w12.drew from below_drew HB.out)
  have BK1 := Aside0.mk (show w12.drew.heap[gx]? = some (.cells #[.int .i64 b, .int .i64 kd, .slice A1 ds.length c1, .slice A2 fs.length c2] 26 (0, 0)) from BK.out)
  have HW1 := Aside0.mk (show worth w12.drew (gb + 1) gb 0 from ⟨HW.out.p, HW.out.a⟩)
  have hz0 : w12.drew.cell? ⟨gx, 0, none⟩ = some (.int .i64 b) := (blk_cell BK1.out 0).trans rfl
  have hz1 : w12.drew.cell? ⟨gx, 1, none⟩ = some (.int .i64 kd) := (blk_cell BK1.out 1).trans rfl
  have hz2 : w12.drew.cell? ⟨gx, 2, none⟩ = some (.slice A1 ds.length c1) := (blk_cell BK1.out 2).trans rfl
  have hz3 : w12.drew.cell? ⟨gx, 3, none⟩ = some (.slice A2 fs.length c2) := (blk_cell BK1.out 3).trans rfl
  have hf0 := blk_frozen BK1.out 0
  have hf1 := blk_frozen BK1.out 1
  have hf2 := blk_frozen BK1.out 2
  have hf3 := blk_frozen BK1.out 3
  have hq : w12.drew.cell? ⟨gb + 1, 0, none⟩ = some (.pointer (some ⟨gb, 0, none⟩)) := HW1.out.cell
  refine wp_region_still_tail 8 (by kernel_rfl) (by kernel_rfl) ?_
  simp only [List.take_succ_cons, List.take_zero, List.drop_succ_cons, List.drop_zero]
  change wpStill _ _ (World.drew w12) (fun a' => wpList _ _ _ _ a' (World.drew w12)) _ _
  generalize World.drew w12 = w14 at *
  iterate 8 still_step
  refine wpStill_nil ?_
  have HEA := Aside0.mk (each_prod _ _ l cur b kd _ _ ds _ _ fs gb w w14 HC0.out HL0.out HC1.out HL1.out HC2.out HL2.out HWL.out HWF.out HB1.out HS.out HW1.out.a)
  by_cases c : eachE cur b kd ds fs l = 0
  · have C0 := Lib.hid c
    rw [c] at HEA
    clear c
    go_wp2_with (go_at_call 44; refine HEA.out.mono ?_; rintro e w13 ⟨rfl, hb, hk, hv⟩)
    go_ret2
    exact ⟨hb, .inr ⟨C0.out, gb + 1, gb, rfl, by have := HS.out; omega, HS.out, ⟨HW1.out.kb hk.out (hv trivial).out⟩⟩⟩
  · have hc : (eachE cur b kd ds fs l != 0) = true := bne_iff_ne.2 c
    have C0 := Lib.hid c
    clear c
    go_wp2_with (go_at_call 44; refine HEA.out.mono ?_; rintro e w13 ⟨rfl, hb, hk, hv⟩)
    go_ret2
    exact ⟨hb, .inl ⟨C0.out, rfl⟩⟩
end Go.Proofs.YthkcphdhmkcdkaaGreat.FB
end

section
/- price.Present: what it tells, in the print's shape. -/
namespace Go.Proofs.YthkcphdhmkcdkaaGreat.FB
open Go.RowKit Go.Proofs.YthkcphdhmkcdkaaGreatW.PrintWords Go.Proofs.YthkcphdhmkcdkaaGreatW.PrintLast Go.Proofs.YthkcphdhmkcdkaaGreatW.PrintMore Go.Proofs.YthkcphdhmkcdkaaGreat.FX Go.Proofs.YthkcphdhmkcdkaaGreat.EV Go.Proofs.YthkcphdhmkcdkaaGreat.FP Tn
attribute [local go_sem] run_store_float run_neg_float run_fmul isSome_setCell
set_option linter.unusedVariables false
set_option linter.unusedSimpArgs false
/-- x, if it is a number. -/
def toldV (x : Nat) : Nat × Int := if fin x = true then (x, 0) else (0, 91)
set_option maxRecDepth 100000 in
set_option maxHeartbeats 1000000 in
theorem told_any (x : Nat) (hx : x < 18446744073709551616) (w : World) :
    Calls Tryz.prog 42 #[.float .f64 x] w fun e w' => e = .returned (.tuple #[.float .f64 (toldV x).1, .int .i64 (toldV x).2]) ∧ w = w' := by
  have H := Lib.hid hx
  clear hx
  by_cases c : fin x = true
  · have h1 : decide (4 ≤ cls x) = false := decide_eq_false (fun h => (cls_ge x ▸ (show cls x ≥ 4 from h)) c)
    have hT : RowKit.Hid (toldV x = (x, 0)) := by unfold RowKit.Hid toldV; rw [if_pos c]
    clear c
    go_enter Tryz.func42, Tryz.ntmps42
    go_wp2_with (go_at_call 82; refine (class_any x H.out _).mono ?_; rintro e w' ⟨rfl, rfl⟩)
    go_ret2
    exact ⟨by rw [hT.out]; rfl, rfl⟩
  · have h1 : decide (4 ≤ cls x) = true := decide_eq_true (show cls x ≥ 4 by rw [cls_ge]; exact c)
    have hT : RowKit.Hid (toldV x = (0, 91)) := by unfold RowKit.Hid toldV; rw [if_neg c]
    clear c
    go_enter Tryz.func42, Tryz.ntmps42
    go_wp2_with (go_at_call 82; refine (class_any x H.out _).mono ?_; rintro e w' ⟨rfl, rfl⟩)
    go_ret2
    exact ⟨by rw [hT.out]; rfl, rfl⟩
/-- the value of a worth. -/
def valV (Z : Int) : Nat := overV Z false false 1
/-- WHAT PRICE.PRESENT TELLS. -/
noncomputable def presV (l : List S31) (cur b kd : Int) (ds : List Int) (fs : List Nat) : Nat × Int :=
  if eachE cur b kd ds fs l = 0 then toldV (valV (sumE cur b kd ds fs l)) else (0, eachE cur b kd ds fs l)
/-- floats of 64 bits; few flows. -/
def okW (l : List S31) (fs : List Nat) : Bool := decide (l.length ≤ 1048576) && l.all (fun f => decide (f.f1 < 18446744073709551616)) && fs.all fun y => decide (y < 18446744073709551616)
theorem okW_is {l : List S31} {fs : List Nat} (h : okW l fs = true) : l.length ≤ 1048576 ∧ (∀ f ∈ l, f.f1 < 18446744073709551616) ∧ ∀ y ∈ fs, y < 18446744073709551616 := by
  unfold okW at h
  rw [Bool.and_eq_true, Bool.and_eq_true, List.all_eq_true, List.all_eq_true, decide_eq_true_iff] at h
  exact ⟨h.1.1, fun f hf => of_decide_eq_true (h.1.2 f hf), fun y hy => of_decide_eq_true (h.2 y hy)⟩
theorem okW_of {l : List S31} {fs : List Nat} (h0 : l.length ≤ 1048576) (h1 : ∀ f ∈ l, f.f1 < 18446744073709551616) (h2 : ∀ y ∈ fs, y < 18446744073709551616) : okW l fs = true := by
  unfold okW
  rw [Bool.and_eq_true, Bool.and_eq_true, List.all_eq_true, List.all_eq_true, decide_eq_true_iff]
  exact ⟨⟨h0, fun f hf => decide_eq_true (h1 f hf)⟩, fun y hy => decide_eq_true (h2 y hy)⟩
noncomputable def price_Present.f (l0 : List S31) (a1 a2_0 a2_1 : Int) (l2_2 : List Int) (l2_3 : List Nat) : Option (Nat × Int) := if okW l0 l2_3 = true then some (presV l0 a1 a2_0 a2_1 l2_2 l2_3) else none
set_option maxRecDepth 100000 in
set_option maxHeartbeats 4000000 in
theorem present_any (A0 : Option Addr) (c0 : Nat) (l : List S31) (cur b kd : Int) (A1 : Option Addr) (c1 : Nat) (ds : List Int) (A2 : Option Addr) (c2 : Nat) (fs : List Nat) (w : World) (hr0 : Kd.C k31 w A0 l.length l) (hc0 : l.length ≤ c0) (hr1 : Kd.C (Kd.int .i64) w A1 ds.length ds) (hc1 : ds.length ≤ c1) (hr2 : Kd.C Kd.flt w A2 fs.length fs) (hc2 : fs.length ≤ c2) (hok : okW l fs = true) :
    Calls Tryz.prog 10 #[.slice A0 l.length c0, .int .i64 cur, .agg #[.int .i64 b, .int .i64 kd, .slice A1 ds.length c1, .slice A2 fs.length c2]] w fun e w' => e = .returned (.tuple #[.float .f64 (presV l cur b kd ds fs).1, .int .i64 (presV l cur b kd ds fs).2]) ∧ Below w.heap.size w w' := by
  have hu86 := Tryz.underlying26
  obtain ⟨hl, hwl, hwf⟩ := okW_is hok
  have HC0 := Aside0.mk hr0
  have HL0 := Aside0.mk hc0
  have HC1 := Aside0.mk hr1
  have HL1 := Aside0.mk hc1
  have HC2 := Aside0.mk hr2
  have HL2 := Aside0.mk hc2
  have HWL := Lib.hid hwl
  have HWF := Lib.hid hwf
  have HB0 := Aside0.mk (Below.refl w.heap.size w)
  have HZ := Lib.hid (sumE_lt cur b kd ds fs hl)
  have HOF := Aside0.mk (fun (W : World) (hB : Below w.heap.size w W) => of_any A0 c0 l cur b kd A1 c1 ds A2 c2 fs W (Kd.C_below hr0 hB) hc0 (Kd.C_below hr1 hB) hc1 (Kd.C_below hr2 hB) hc2 hwl hwf)
  have HP := Lib.hid (show presV l cur b kd ds fs = if eachE cur b kd ds fs l = 0 then toldV (valV (sumE cur b kd ds fs l)) else (0, eachE cur b kd ds fs l) from rfl)
  have HVV := Lib.hid (show valV (sumE cur b kd ds fs l) = overV (sumE cur b kd ds fs l) false false 1 from rfl)
  have HVL := Lib.hid (over_lt (sumE cur b kd ds fs l) 1)
  clear hr0 hc0 hr1 hc1 hr2 hc2 hwl hwf hok hl
  generalize hpv : presV l cur b kd ds fs = PV at *
  obtain ⟨P1, P2⟩ := PV
  clear hpv
  generalize sumE cur b kd ds fs l = Z at *
  generalize eachE cur b kd ds fs l = E at *
  by_cases c : E = 0
  rotate_left
  · have hE : (E != 0) = true := bne_iff_ne.2 c
    have HE := Lib.hid c
    have HR := HP.out
    rw [if_neg c] at HR
    cases HR
    clear c
    go_enter Tryz.func10, Tryz.ntmps10
    go_wp2_with (first | ((with_reducible refine gate_dst (N := 5) rfl ?_); refine box_event ?hg (N := 5) ?hd (cs := #[.int .i64 b, .int .i64 kd, .slice A1 ds.length c1, .slice A2 fs.length c2]) (t := 26) ?hr ?_; (case hd => rfl); (case hg => rfl); (case hr => first | (go_simp; done) | (go_simp; rfl)); intro gx hgx w11 hbox hb; have HB := Aside0.mk (below_step HB0.out hb); have BK := Aside0.mk hbox; clear hb hbox hgx; have hz0 : w11.cell? ⟨gx, 0, none⟩ = some (.int .i64 b) := (blk_cell BK.out 0).trans rfl; have hz1 : w11.cell? ⟨gx, 1, none⟩ = some (.int .i64 kd) := (blk_cell BK.out 1).trans rfl; have hz2 : w11.cell? ⟨gx, 2, none⟩ = some (.slice A1 ds.length c1) := (blk_cell BK.out 2).trans rfl; have hz3 : w11.cell? ⟨gx, 3, none⟩ = some (.slice A2 fs.length c2) := (blk_cell BK.out 3).trans rfl; have hf0 := blk_frozen BK.out 0; have hf1 := blk_frozen BK.out 1; have hf2 := blk_frozen BK.out 2; have hf3 := blk_frozen BK.out 3) | (go_at_call 14; refine (HOF.out _ HB.out).mono ?_; rintro e w13 ⟨hb, ⟨_, rfl⟩ | ⟨hn, _⟩⟩; rotate_left; exact absurd hn HE.out))
    go_ret2
    exact ⟨rfl, below_step HB.out hb.out⟩
  subst c
  have HR := HP.out
  rw [if_pos rfl] at HR
  have HR2 := Lib.hid HR
  clear HR HP
  generalize valV Z = V at *
  go_enter Tryz.func10, Tryz.ntmps10
  go_upto_region 4 with (first | ((with_reducible refine gate_dst (N := 5) rfl ?_); refine box_event ?hg (N := 5) ?hd (cs := #[.int .i64 b, .int .i64 kd, .slice A1 ds.length c1, .slice A2 fs.length c2]) (t := 26) ?hr ?_; (case hd => rfl); (case hg => rfl); (case hr => first | (go_simp; done) | (go_simp; rfl)); intro gx hgx w11 hbox hb; have HB := Aside0.mk (below_step HB0.out hb); have BK := Aside0.mk hbox; clear hb hbox hgx; have hz0 : w11.cell? ⟨gx, 0, none⟩ = some (.int .i64 b) := (blk_cell BK.out 0).trans rfl; have hz1 : w11.cell? ⟨gx, 1, none⟩ = some (.int .i64 kd) := (blk_cell BK.out 1).trans rfl; have hz2 : w11.cell? ⟨gx, 2, none⟩ = some (.slice A1 ds.length c1) := (blk_cell BK.out 2).trans rfl; have hz3 : w11.cell? ⟨gx, 3, none⟩ = some (.slice A2 fs.length c2) := (blk_cell BK.out 3).trans rfl; have hf0 := blk_frozen BK.out 0; have hf1 := blk_frozen BK.out 1; have hf2 := blk_frozen BK.out 2; have hf3 := blk_frozen BK.out 3) | (go_at_call 14; refine (HOF.out _ HB.out).mono ?_; rintro e w13 ⟨hb, ⟨hn, _⟩ | ⟨_, g, gb, rfl, hg1, hg2, hw⟩⟩; exact absurd rfl hn))
  have HB2 := Aside0.mk (below_step HB.out hb.out)
  have HV := Aside0.mk (fun (W : World) (h : accZ W gb Z false false) => value_any gb Z false false W h HZ.out)
  rw [← HVV.out] at HV
  have HT := Lib.hid (show toldV V = (P1, P2) from HR2.out.symm)
  have HT2 := Aside0.mk (fun (W : World) => told_any V (by rw [HVV.out]; exact HVL.out) W)
  rw [HT.out] at HT2
  have hq : w13.cell? ⟨g, 0, none⟩ = some (.pointer (some ⟨gb, 0, none⟩)) := hw.out.cell
  have HW3 := hw
  clear hb hg1 hg2 hw HR2 HT HVV
  go_wp2_with (first | (go_at_call 20; refine (HV.out _ HW3.out.a).mono ?_; rintro e w14 ⟨rfl, hb⟩) | (go_at_call 42; refine (HT2.out _).mono ?_; rintro e w15 ⟨rfl, rfl⟩))
  go_ret2
  exact ⟨rfl, below_step HB2.out hb.out⟩
theorem price_Present.calls (A0 : Option Addr) (c0 : Nat) (l0 : List S31) (a1 a2_0 a2_1 : Int) (A2_2 : Option Addr) (c2_2 : Nat) (l2_2 : List Int) (A2_3 : Option Addr) (c2_3 : Nat) (l2_3 : List Nat) (r1 : Nat) (r2 : Int) (w : World) (hr0 : Kd.C k31 w A0 l0.length l0) (hc0 : l0.length ≤ c0) (hr2_2 : Kd.C (Kd.int .i64) w A2_2 l2_2.length l2_2) (hc2_2 : l2_2.length ≤ c2_2) (hr2_3 : Kd.C Kd.flt w A2_3 l2_3.length l2_3) (hc2_3 : l2_3.length ≤ c2_3) (h : price_Present.f l0 a1 a2_0 a2_1 l2_2 l2_3 = some (r1, r2)) :
    Calls Tryz.prog 10 #[.slice A0 l0.length c0, .int .i64 a1, .agg #[.int .i64 a2_0, .int .i64 a2_1, .slice A2_2 l2_2.length c2_2, .slice A2_3 l2_3.length c2_3]] w fun e w' => e = .returned (.tuple #[.float .f64 r1, .int .i64 r2]) ∧ Below w.heap.size w w' := by
  unfold price_Present.f at h
  split at h
  · rename_i hok
    have h1 := Option.some.inj h
    have h2 := present_any A0 c0 l0 a1 a2_0 a2_1 A2_2 c2_2 l2_2 A2_3 c2_3 l2_3 w hr0 hc0 hr2_2 hc2_2 hr2_3 hc2_3 hok
    rw [h1] at h2
    exact h2
  · cases h
end Go.Proofs.YthkcphdhmkcdkaaGreat.FB
end
