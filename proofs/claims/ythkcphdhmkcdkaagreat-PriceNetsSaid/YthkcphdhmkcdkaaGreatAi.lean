/- interp.At: its way is a function value: by its kind. -/
import Derived.Test.YthkcphdhmkcdkaaGreatFPx2
import Derived.Test.YthkcphdhmkcdkaaGreatFPx5
import Derived.Test.YthkcphdhmkcdkaaGreatFPx7
import Derived.StillTailTactics
namespace Go.Proofs.YthkcphdhmkcdkaaGreat.FX
open Go.RowKit Go.Proofs.YthkcphdhmkcdkaaGreatW.PrintWords Go.Proofs.YthkcphdhmkcdkaaGreatW.PrintLast Go.Proofs.YthkcphdhmkcdkaaGreatW.PrintMore Go.Proofs.YthkcphdhmkcdkaaGreat.FP
attribute [local go_sem] run_store_float run_neg_float run_fmul isSome_setCell
set_option linter.unusedVariables false
set_option linter.unusedSimpArgs false

/-- the value at i of n steps behind the node j, by the kind. -/
def interp_way.f (k : Nat) (kind : Int) (l1 : List Int) (l2 : List Nat) (j i n : Int) : Option Nat :=
  if kind = 1 then interp_flat.f kind l1 l2 j i n else if kind = 2 then interp_linear.f kind l1 l2 j i n else if kind = 3 then interp_cubic.f k kind l1 l2 j i n else interp_logs.f k kind l1 l2 j i n
def interp_At.f (k : Nat) (kind : Int) (l1 : List Int) (l2 : List Nat) (x : Int) : Option (Nat × Int) :=
  (interp_Find.f k kind l1 l2 x).bind fun b => if b.2 = 0 then (if 0 ≤ b.1 ∧ b.1 < (l1.length : Int) ∧ b.1 < (l2.length : Int) then (if rd l1 b.1 = x then some (rdOf (0 : Nat) l2 b.1, 0) else (if 0 ≤ wrap64 (b.1 + 1) ∧ wrap64 (b.1 + 1) < (l1.length : Int) then (interp_way.f k kind l1 l2 b.1 (wrap64 (x - rd l1 b.1)) (wrap64 (rd l1 (wrap64 (b.1 + 1)) - rd l1 b.1))).bind fun r => some (r, 0) else none)) else none) else some (0, b.2)
set_option maxRecDepth 100000 in
set_option maxHeartbeats 8000000 in
theorem interp_At.calls (k : Nat) (kind : Int) (A1 : Option Addr) (c1 : Nat) (l1 : List Int) (A2 : Option Addr) (c2 : Nat) (l2 : List Nat) (x : Int) (r1 : Nat) (r2 : Int) (w : World) (hr1 : Kd.C (Kd.int .i64) w A1 l1.length l1) (hc1 : l1.length ≤ c1) (hr2 : Kd.C Kd.flt w A2 l2.length l2) (hc2 : l2.length ≤ c2) (h : interp_At.f k kind l1 l2 x = some (r1, r2)) :
    Calls Tryz.prog 71 #[.agg #[.int .i64 kind, .slice A1 l1.length c1, .slice A2 l2.length c2], .int .i64 x] w fun e w' => e = .returned (.tuple #[.float .f64 r1, .int .i64 r2]) ∧ Below w.heap.size w w' := by
  have hu86 := Tryz.underlying128
  unfold interp_At.f at h
  obtain ⟨⟨t1, t2⟩, A30, H⟩ := Option.bind_eq_some_iff.mp h
  clear h
  have A3 := Aside0.mk A30
  have HC1 := Aside0.mk hr1
  have HL1 := Aside0.mk hc1
  have HC2 := Aside0.mk hr2
  have HL2 := Aside0.mk hc2
  clear A30 hr1 hc1 hr2 hc2
  have HB := Aside0.mk (Below.refl w.heap.size w)
  have HWW := Aside0.mk (fun (A : Addr) (v : Value) (h : w.cell? A = some v) => World.block_lt_of_cell? w _ h)
  by_cases c0 : t2 = 0
  rotate_left
  · rw [if_neg c0] at H
    have b0 : (t2 == 0) = false := beq_eq_false_iff_ne.mpr c0
    have b1 : (t2 != 0) = true := bne_iff_ne.mpr c0
    simp only [Option.some.injEq, Prod.mk.injEq] at H
    obtain ⟨rfl, rfl⟩ := H
    clear c0
    go_enter Tryz.func71, Tryz.ntmps71
    go_wp2_with (first | ((with_reducible refine gate_dst (N := 2) rfl ?_); refine box_event ?hg (N := 2) ?hd (cs := #[.int .i64 kind, .slice A1 l1.length c1, .slice A2 l2.length c2]) (t := 128) ?hr ?_; (case hd => rfl); (case hg => rfl); (case hr => first | (go_simp; done) | (go_simp; rfl)); intro gb hg w11 hbox hb; have n0_ := Aside0.mk (below_step (bA HB.out) hb); have n1_ := Aside0.mk (hbox); clear HB; have HB := n0_; have BK := n1_; clear n0_ n1_ hb hbox hg; have hcz12_0 : w11.cell? ⟨gb, 0, none⟩ = some (.int .i64 kind) := (blk_cell BK.out 0).trans rfl; have hcz12_1 : w11.cell? ⟨gb, 1, none⟩ = some (.slice A1 l1.length c1) := (blk_cell BK.out 1).trans rfl; have hcz12_2 : w11.cell? ⟨gb, 2, none⟩ = some (.slice A2 l2.length c2) := (blk_cell BK.out 2).trans rfl; have hfz12_0 := blk_frozen BK.out 0; have hfz12_1 := blk_frozen BK.out 1; have hfz12_2 := blk_frozen BK.out 2) | (go_at_call 114; refine (interp_Find.calls k kind _ _ l1 _ _ l2 x _ _ _ (cA (Kd.C_below HC1.out HB.out)) HL1.out (cA (Kd.C_below HC2.out HB.out)) HL2.out A3.out).mono ?_; rintro e w13 ⟨rfl, hb⟩; have n0_ := Aside0.mk (blk_below (g := gb) (o := .cells #[.int .i64 kind, .slice A1 l1.length c1, .slice A2 l2.length c2] 128 (0, 0)) (kA BK.out) hb); have n1_ := Aside0.mk (below_step (bG HB.out) hb); clear BK HB hb; have BK := n0_; have HB := n1_; clear n0_ n1_))
    go_ret2
    exact ⟨rfl, bG HB.out⟩
  rw [if_pos c0] at H
  subst c0
  by_cases cb : 0 ≤ t1 ∧ t1 < (l1.length : Int) ∧ t1 < (l2.length : Int)
  rotate_left
  · rw [if_neg cb] at H; cases H
  rw [if_pos cb] at H
  obtain ⟨p0, p1, p2⟩ := cb
  obtain ⟨ad, e1, hx⟩ := Kd.at_int HC1.out t1 p0 p1
  cases e1
  obtain ⟨ae, e2, hy⟩ := Kd.at_flt HC2.out t1 p0 p2
  cases e2
  obtain ⟨X, hX⟩ : ∃ X, rd l1 t1 = X := ⟨_, rfl⟩
  obtain ⟨Y, hY⟩ : ∃ Y, rdOf (0 : Nat) l2 t1 = Y := ⟨_, rfl⟩
  rw [hX] at H hx
  rw [hY] at H hy
  have HX := Lib.hid hX
  clear hX hY
  have q0 : decide (0 ≤ t1) = true := decide_eq_true p0
  have q1 : decide (t1 < (l1.length : Int)) = true := decide_eq_true p1
  have q2 : decide (t1 < (l2.length : Int)) = true := decide_eq_true p2
  by_cases cx : X = x
  · rw [if_pos cx] at H
    have b3 : (X == x) = true := beq_iff_eq.mpr cx
    simp only [Option.some.injEq, Prod.mk.injEq] at H
    obtain ⟨rfl, rfl⟩ := H
    clear cx
    go_enter Tryz.func71, Tryz.ntmps71
    go_wp2_with (first | ((with_reducible refine gate_dst (N := 2) rfl ?_); refine box_event ?hg (N := 2) ?hd (cs := #[.int .i64 kind, .slice (some ad) l1.length c1, .slice (some ae) l2.length c2]) (t := 128) ?hr ?_; (case hd => rfl); (case hg => rfl); (case hr => first | (go_simp; done) | (go_simp; rfl)); intro gb hg w11 hbox hb; have n0_ := Aside0.mk (below_step (bA HB.out) hb); have n1_ := Aside0.mk (hbox); clear HB; have HB := n0_; have BK := n1_; clear n0_ n1_ hb hbox hg; have hcz12_0 : w11.cell? ⟨gb, 0, none⟩ = some (.int .i64 kind) := (blk_cell BK.out 0).trans rfl; have hcz12_1 : w11.cell? ⟨gb, 1, none⟩ = some (.slice (some ad) l1.length c1) := (blk_cell BK.out 1).trans rfl; have hcz12_2 : w11.cell? ⟨gb, 2, none⟩ = some (.slice (some ae) l2.length c2) := (blk_cell BK.out 2).trans rfl; have hfz12_0 := blk_frozen BK.out 0; have hfz12_1 := blk_frozen BK.out 1; have hfz12_2 := blk_frozen BK.out 2) | (go_at_call 114; refine (interp_Find.calls k kind _ _ l1 _ _ l2 x _ _ _ (cA (Kd.C_below HC1.out HB.out)) HL1.out (cA (Kd.C_below HC2.out HB.out)) HL2.out A3.out).mono ?_; rintro e w13 ⟨rfl, hb⟩; have n0_ := Aside0.mk (blk_below (g := gb) (o := .cells #[.int .i64 kind, .slice (some ad) l1.length c1, .slice (some ae) l2.length c2] 128 (0, 0)) (kA BK.out) hb); have n1_ := Aside0.mk (below_step (bG HB.out) hb); clear BK HB hb; have BK := n0_; have HB := n1_; clear n0_ n1_; have hcz9_0 : w13.cell? ⟨gb, 0, none⟩ = some (.int .i64 kind) := (blk_cell BK.out 0).trans rfl; have hcz9_1 : w13.cell? ⟨gb, 1, none⟩ = some (.slice (some ad) l1.length c1) := (blk_cell BK.out 1).trans rfl; have hcz9_2 : w13.cell? ⟨gb, 2, none⟩ = some (.slice (some ae) l2.length c2) := (blk_cell BK.out 2).trans rfl; have hx0 := (HB.out.cell (HWW.out _ _ hx)).trans hx; have hy0 := (HB.out.cell (HWW.out _ _ hy)).trans hy; have hfz9_0 := blk_frozen BK.out 0; have hfz9_1 := blk_frozen BK.out 1; have hfz9_2 := blk_frozen BK.out 2))
    go_ret2
    exact ⟨rfl, bG HB.out⟩
  rw [if_neg cx] at H
  have b3 : (X == x) = false := beq_eq_false_iff_ne.mpr cx
  clear cx
  by_cases cj : 0 ≤ wrap64 (t1 + 1) ∧ wrap64 (t1 + 1) < (l1.length : Int)
  rotate_left
  · rw [if_neg cj] at H; cases H
  rw [if_pos cj] at H
  obtain ⟨p3, p4⟩ := cj
  obtain ⟨J, hJ⟩ : ∃ J, wrap64 (t1 + 1) = J := ⟨_, rfl⟩
  rw [hJ] at H p3 p4
  obtain ⟨ad', e3, hz⟩ := Kd.at_int HC1.out J p3 p4
  cases e3
  obtain ⟨Z, hZ⟩ : ∃ Z, rd l1 J = Z := ⟨_, rfl⟩
  rw [hZ] at H hz
  have q3 : decide (0 ≤ J) = true := decide_eq_true p3
  have q4 : decide (J < (l1.length : Int)) = true := decide_eq_true p4
  clear hZ HX
  obtain ⟨I, hI⟩ : ∃ I, wrap64 (x - X) = I := ⟨_, rfl⟩
  obtain ⟨N, hN⟩ : ∃ N, wrap64 (Z - X) = N := ⟨_, rfl⟩
  rw [hI, hN] at H
  have hJ' : IntKind.i64.wrap (t1 + 1) = J := (Tn.i64_wrap _).trans hJ
  have hI' : IntKind.i64.wrap (x - X) = I := (Tn.i64_wrap _).trans hI
  have hN' : IntKind.i64.wrap (Z - X) = N := (Tn.i64_wrap _).trans hN
  obtain ⟨r, A40, H⟩ := Option.bind_eq_some_iff.mp H
  simp only [Option.some.injEq, Prod.mk.injEq] at H
  obtain ⟨rfl, rfl⟩ := H
  unfold interp_way.f at A40
  by_cases ck1 : kind = 1
  · rw [if_pos ck1] at A40
    have A4 := Aside0.mk A40
    have k1 : (kind == 1) = true := beq_iff_eq.mpr ck1
    clear A40 ck1
    go_enter Tryz.func71, Tryz.ntmps71
    go_upto_region 15 with (first | ((with_reducible refine gate_dst (N := 2) rfl ?_); refine box_event ?hg (N := 2) ?hd (cs := #[.int .i64 kind, .slice (some ad) l1.length c1, .slice (some ae) l2.length c2]) (t := 128) ?hr ?_; (case hd => rfl); (case hg => rfl); (case hr => first | (go_simp; done) | (go_simp; rfl)); intro gb hg w11 hbox hb; have n0_ := Aside0.mk (below_step (bA HB.out) hb); have n1_ := Aside0.mk (hbox); clear HB; have HB := n0_; have BK := n1_; clear n0_ n1_ hb hbox hg; have hcz12_0 : w11.cell? ⟨gb, 0, none⟩ = some (.int .i64 kind) := (blk_cell BK.out 0).trans rfl; have hcz12_1 : w11.cell? ⟨gb, 1, none⟩ = some (.slice (some ad) l1.length c1) := (blk_cell BK.out 1).trans rfl; have hcz12_2 : w11.cell? ⟨gb, 2, none⟩ = some (.slice (some ae) l2.length c2) := (blk_cell BK.out 2).trans rfl; have hfz12_0 := blk_frozen BK.out 0; have hfz12_1 := blk_frozen BK.out 1; have hfz12_2 := blk_frozen BK.out 2) | (go_at_call 114; refine (interp_Find.calls k kind _ _ l1 _ _ l2 x _ _ _ (cA (Kd.C_below HC1.out HB.out)) HL1.out (cA (Kd.C_below HC2.out HB.out)) HL2.out A3.out).mono ?_; rintro e w13 ⟨rfl, hb⟩; have n0_ := Aside0.mk (blk_below (g := gb) (o := .cells #[.int .i64 kind, .slice (some ad) l1.length c1, .slice (some ae) l2.length c2] 128 (0, 0)) (kA BK.out) hb); have n1_ := Aside0.mk (below_step (bG HB.out) hb); clear BK HB hb; have BK := n0_; have HB := n1_; clear n0_ n1_; have hcz9_0 : w13.cell? ⟨gb, 0, none⟩ = some (.int .i64 kind) := (blk_cell BK.out 0).trans rfl; have hcz9_1 : w13.cell? ⟨gb, 1, none⟩ = some (.slice (some ad) l1.length c1) := (blk_cell BK.out 1).trans rfl; have hcz9_2 : w13.cell? ⟨gb, 2, none⟩ = some (.slice (some ae) l2.length c2) := (blk_cell BK.out 2).trans rfl; have hx0 := (HB.out.cell (HWW.out _ _ hx)).trans hx; have hy0 := (HB.out.cell (HWW.out _ _ hy)).trans hy; have hfz9_0 := blk_frozen BK.out 0; have hfz9_1 := blk_frozen BK.out 1; have hfz9_2 := blk_frozen BK.out 2; have hz0 := (HB.out.cell (HWW.out _ _ hz)).trans hz))
    have HBr := Aside0.mk (show Below w.heap.size w w13.drew from below_drew HB.out)
    have d0 : w13.drew.cell? ⟨gb, 0, none⟩ = some (.int .i64 kind) := hcz9_0
    have d1 : w13.drew.cell? ⟨gb, 1, none⟩ = some (.slice (some ad) l1.length c1) := hcz9_1
    have d2 : w13.drew.cell? ⟨gb, 2, none⟩ = some (.slice (some ae) l2.length c2) := hcz9_2
    have e0 : w13.drew.frozen? ⟨gb, 0, none⟩ = false := hfz9_0
    have e1 : w13.drew.frozen? ⟨gb, 1, none⟩ = false := hfz9_1
    have e2 : w13.drew.frozen? ⟨gb, 2, none⟩ = false := hfz9_2
    have dx : w13.drew.cell? (ad.add t1.toNat) = some (.int .i64 X) := hx0
    have dz : w13.drew.cell? (ad.add J.toNat) = some (.int .i64 Z) := hz0
    clear hcz12_0 hcz12_1 hcz12_2 hfz12_0 hfz12_1 hfz12_2 hcz9_0 hcz9_1 hcz9_2 hfz9_0 hfz9_1 hfz9_2 hx0 hy0 hz0
    refine wp_region_still_tail 22 (by kernel_rfl) (by kernel_rfl) ?_
    simp only [List.take_succ_cons, List.take_zero, List.drop_succ_cons, List.drop_zero]
    change wpStill _ _ (World.drew w13) (fun a' => wpList _ _ _ _ a' (World.drew w13)) _ _
    generalize World.drew w13 = w14 at *
    iterate 22 still_step
    refine wpStill_nil ?_
    go_wp2_with (go_at_call 115; refine (interp_flat.calls kind _ _ l1 _ _ l2 t1 _ _ _ _ (cA (Kd.C_below HC1.out HBr.out)) HL1.out (cA (Kd.C_below HC2.out HBr.out)) HL2.out A4.out).mono ?_; rintro e w15 ⟨rfl, hb⟩; have n1_ := Aside0.mk (below_step HBr.out hb); have HB9 := n1_; clear n1_)
    go_ret2
    exact ⟨rfl, bG HB9.out⟩

  rw [if_neg ck1] at A40
  have k1 : (kind == 1) = false := beq_eq_false_iff_ne.mpr ck1
  clear ck1
  by_cases ck2 : kind = 2
  · rw [if_pos ck2] at A40
    have A4 := Aside0.mk A40
    have k2 : (kind == 2) = true := beq_iff_eq.mpr ck2
    clear A40 ck2
    go_enter Tryz.func71, Tryz.ntmps71
    go_upto_region 15 with (first | ((with_reducible refine gate_dst (N := 2) rfl ?_); refine box_event ?hg (N := 2) ?hd (cs := #[.int .i64 kind, .slice (some ad) l1.length c1, .slice (some ae) l2.length c2]) (t := 128) ?hr ?_; (case hd => rfl); (case hg => rfl); (case hr => first | (go_simp; done) | (go_simp; rfl)); intro gb hg w11 hbox hb; have n0_ := Aside0.mk (below_step (bA HB.out) hb); have n1_ := Aside0.mk (hbox); clear HB; have HB := n0_; have BK := n1_; clear n0_ n1_ hb hbox hg; have hcz12_0 : w11.cell? ⟨gb, 0, none⟩ = some (.int .i64 kind) := (blk_cell BK.out 0).trans rfl; have hcz12_1 : w11.cell? ⟨gb, 1, none⟩ = some (.slice (some ad) l1.length c1) := (blk_cell BK.out 1).trans rfl; have hcz12_2 : w11.cell? ⟨gb, 2, none⟩ = some (.slice (some ae) l2.length c2) := (blk_cell BK.out 2).trans rfl; have hfz12_0 := blk_frozen BK.out 0; have hfz12_1 := blk_frozen BK.out 1; have hfz12_2 := blk_frozen BK.out 2) | (go_at_call 114; refine (interp_Find.calls k kind _ _ l1 _ _ l2 x _ _ _ (cA (Kd.C_below HC1.out HB.out)) HL1.out (cA (Kd.C_below HC2.out HB.out)) HL2.out A3.out).mono ?_; rintro e w13 ⟨rfl, hb⟩; have n0_ := Aside0.mk (blk_below (g := gb) (o := .cells #[.int .i64 kind, .slice (some ad) l1.length c1, .slice (some ae) l2.length c2] 128 (0, 0)) (kA BK.out) hb); have n1_ := Aside0.mk (below_step (bG HB.out) hb); clear BK HB hb; have BK := n0_; have HB := n1_; clear n0_ n1_; have hcz9_0 : w13.cell? ⟨gb, 0, none⟩ = some (.int .i64 kind) := (blk_cell BK.out 0).trans rfl; have hcz9_1 : w13.cell? ⟨gb, 1, none⟩ = some (.slice (some ad) l1.length c1) := (blk_cell BK.out 1).trans rfl; have hcz9_2 : w13.cell? ⟨gb, 2, none⟩ = some (.slice (some ae) l2.length c2) := (blk_cell BK.out 2).trans rfl; have hx0 := (HB.out.cell (HWW.out _ _ hx)).trans hx; have hy0 := (HB.out.cell (HWW.out _ _ hy)).trans hy; have hfz9_0 := blk_frozen BK.out 0; have hfz9_1 := blk_frozen BK.out 1; have hfz9_2 := blk_frozen BK.out 2; have hz0 := (HB.out.cell (HWW.out _ _ hz)).trans hz))
    have HBr := Aside0.mk (show Below w.heap.size w w13.drew from below_drew HB.out)
    have d0 : w13.drew.cell? ⟨gb, 0, none⟩ = some (.int .i64 kind) := hcz9_0
    have d1 : w13.drew.cell? ⟨gb, 1, none⟩ = some (.slice (some ad) l1.length c1) := hcz9_1
    have d2 : w13.drew.cell? ⟨gb, 2, none⟩ = some (.slice (some ae) l2.length c2) := hcz9_2
    have e0 : w13.drew.frozen? ⟨gb, 0, none⟩ = false := hfz9_0
    have e1 : w13.drew.frozen? ⟨gb, 1, none⟩ = false := hfz9_1
    have e2 : w13.drew.frozen? ⟨gb, 2, none⟩ = false := hfz9_2
    have dx : w13.drew.cell? (ad.add t1.toNat) = some (.int .i64 X) := hx0
    have dz : w13.drew.cell? (ad.add J.toNat) = some (.int .i64 Z) := hz0
    clear hcz12_0 hcz12_1 hcz12_2 hfz12_0 hfz12_1 hfz12_2 hcz9_0 hcz9_1 hcz9_2 hfz9_0 hfz9_1 hfz9_2 hx0 hy0 hz0
    refine wp_region_still_tail 22 (by kernel_rfl) (by kernel_rfl) ?_
    simp only [List.take_succ_cons, List.take_zero, List.drop_succ_cons, List.drop_zero]
    change wpStill _ _ (World.drew w13) (fun a' => wpList _ _ _ _ a' (World.drew w13)) _ _
    generalize World.drew w13 = w14 at *
    iterate 22 still_step
    refine wpStill_nil ?_
    go_wp2_with (go_at_call 116; refine (interp_linear.calls kind _ _ l1 _ _ l2 t1 _ _ _ _ (cA (Kd.C_below HC1.out HBr.out)) HL1.out (cA (Kd.C_below HC2.out HBr.out)) HL2.out A4.out).mono ?_; rintro e w15 ⟨rfl, hb⟩; have n1_ := Aside0.mk (below_step HBr.out hb); have HB9 := n1_; clear n1_)
    go_ret2
    exact ⟨rfl, bG HB9.out⟩

  rw [if_neg ck2] at A40
  have k2 : (kind == 2) = false := beq_eq_false_iff_ne.mpr ck2
  clear ck2
  by_cases ck3 : kind = 3
  · rw [if_pos ck3] at A40
    have A4 := Aside0.mk A40
    have k3 : (kind == 3) = true := beq_iff_eq.mpr ck3
    clear A40 ck3
    go_enter Tryz.func71, Tryz.ntmps71
    go_upto_region 15 with (first | ((with_reducible refine gate_dst (N := 2) rfl ?_); refine box_event ?hg (N := 2) ?hd (cs := #[.int .i64 kind, .slice (some ad) l1.length c1, .slice (some ae) l2.length c2]) (t := 128) ?hr ?_; (case hd => rfl); (case hg => rfl); (case hr => first | (go_simp; done) | (go_simp; rfl)); intro gb hg w11 hbox hb; have n0_ := Aside0.mk (below_step (bA HB.out) hb); have n1_ := Aside0.mk (hbox); clear HB; have HB := n0_; have BK := n1_; clear n0_ n1_ hb hbox hg; have hcz12_0 : w11.cell? ⟨gb, 0, none⟩ = some (.int .i64 kind) := (blk_cell BK.out 0).trans rfl; have hcz12_1 : w11.cell? ⟨gb, 1, none⟩ = some (.slice (some ad) l1.length c1) := (blk_cell BK.out 1).trans rfl; have hcz12_2 : w11.cell? ⟨gb, 2, none⟩ = some (.slice (some ae) l2.length c2) := (blk_cell BK.out 2).trans rfl; have hfz12_0 := blk_frozen BK.out 0; have hfz12_1 := blk_frozen BK.out 1; have hfz12_2 := blk_frozen BK.out 2) | (go_at_call 114; refine (interp_Find.calls k kind _ _ l1 _ _ l2 x _ _ _ (cA (Kd.C_below HC1.out HB.out)) HL1.out (cA (Kd.C_below HC2.out HB.out)) HL2.out A3.out).mono ?_; rintro e w13 ⟨rfl, hb⟩; have n0_ := Aside0.mk (blk_below (g := gb) (o := .cells #[.int .i64 kind, .slice (some ad) l1.length c1, .slice (some ae) l2.length c2] 128 (0, 0)) (kA BK.out) hb); have n1_ := Aside0.mk (below_step (bG HB.out) hb); clear BK HB hb; have BK := n0_; have HB := n1_; clear n0_ n1_; have hcz9_0 : w13.cell? ⟨gb, 0, none⟩ = some (.int .i64 kind) := (blk_cell BK.out 0).trans rfl; have hcz9_1 : w13.cell? ⟨gb, 1, none⟩ = some (.slice (some ad) l1.length c1) := (blk_cell BK.out 1).trans rfl; have hcz9_2 : w13.cell? ⟨gb, 2, none⟩ = some (.slice (some ae) l2.length c2) := (blk_cell BK.out 2).trans rfl; have hx0 := (HB.out.cell (HWW.out _ _ hx)).trans hx; have hy0 := (HB.out.cell (HWW.out _ _ hy)).trans hy; have hfz9_0 := blk_frozen BK.out 0; have hfz9_1 := blk_frozen BK.out 1; have hfz9_2 := blk_frozen BK.out 2; have hz0 := (HB.out.cell (HWW.out _ _ hz)).trans hz))
    have HBr := Aside0.mk (show Below w.heap.size w w13.drew from below_drew HB.out)
    have d0 : w13.drew.cell? ⟨gb, 0, none⟩ = some (.int .i64 kind) := hcz9_0
    have d1 : w13.drew.cell? ⟨gb, 1, none⟩ = some (.slice (some ad) l1.length c1) := hcz9_1
    have d2 : w13.drew.cell? ⟨gb, 2, none⟩ = some (.slice (some ae) l2.length c2) := hcz9_2
    have e0 : w13.drew.frozen? ⟨gb, 0, none⟩ = false := hfz9_0
    have e1 : w13.drew.frozen? ⟨gb, 1, none⟩ = false := hfz9_1
    have e2 : w13.drew.frozen? ⟨gb, 2, none⟩ = false := hfz9_2
    have dx : w13.drew.cell? (ad.add t1.toNat) = some (.int .i64 X) := hx0
    have dz : w13.drew.cell? (ad.add J.toNat) = some (.int .i64 Z) := hz0
    clear hcz12_0 hcz12_1 hcz12_2 hfz12_0 hfz12_1 hfz12_2 hcz9_0 hcz9_1 hcz9_2 hfz9_0 hfz9_1 hfz9_2 hx0 hy0 hz0
    refine wp_region_still_tail 22 (by kernel_rfl) (by kernel_rfl) ?_
    simp only [List.take_succ_cons, List.take_zero, List.drop_succ_cons, List.drop_zero]
    change wpStill _ _ (World.drew w13) (fun a' => wpList _ _ _ _ a' (World.drew w13)) _ _
    generalize World.drew w13 = w14 at *
    iterate 22 still_step
    refine wpStill_nil ?_
    go_wp2_with (go_at_call 117; refine (interp_cubic.calls k kind _ _ l1 _ _ l2 t1 _ _ _ _ (cA (Kd.C_below HC1.out HBr.out)) HL1.out (cA (Kd.C_below HC2.out HBr.out)) HL2.out A4.out).mono ?_; rintro e w15 ⟨rfl, hb⟩; have n1_ := Aside0.mk (below_step HBr.out hb); have HB9 := n1_; clear n1_)
    go_ret2
    exact ⟨rfl, bG HB9.out⟩

  rw [if_neg ck3] at A40
  have k3 : (kind == 3) = false := beq_eq_false_iff_ne.mpr ck3
  clear ck3
  have A4 := Aside0.mk A40
  clear A40
  go_enter Tryz.func71, Tryz.ntmps71
  go_upto_region 15 with (first | ((with_reducible refine gate_dst (N := 2) rfl ?_); refine box_event ?hg (N := 2) ?hd (cs := #[.int .i64 kind, .slice (some ad) l1.length c1, .slice (some ae) l2.length c2]) (t := 128) ?hr ?_; (case hd => rfl); (case hg => rfl); (case hr => first | (go_simp; done) | (go_simp; rfl)); intro gb hg w11 hbox hb; have n0_ := Aside0.mk (below_step (bA HB.out) hb); have n1_ := Aside0.mk (hbox); clear HB; have HB := n0_; have BK := n1_; clear n0_ n1_ hb hbox hg; have hcz12_0 : w11.cell? ⟨gb, 0, none⟩ = some (.int .i64 kind) := (blk_cell BK.out 0).trans rfl; have hcz12_1 : w11.cell? ⟨gb, 1, none⟩ = some (.slice (some ad) l1.length c1) := (blk_cell BK.out 1).trans rfl; have hcz12_2 : w11.cell? ⟨gb, 2, none⟩ = some (.slice (some ae) l2.length c2) := (blk_cell BK.out 2).trans rfl; have hfz12_0 := blk_frozen BK.out 0; have hfz12_1 := blk_frozen BK.out 1; have hfz12_2 := blk_frozen BK.out 2) | (go_at_call 114; refine (interp_Find.calls k kind _ _ l1 _ _ l2 x _ _ _ (cA (Kd.C_below HC1.out HB.out)) HL1.out (cA (Kd.C_below HC2.out HB.out)) HL2.out A3.out).mono ?_; rintro e w13 ⟨rfl, hb⟩; have n0_ := Aside0.mk (blk_below (g := gb) (o := .cells #[.int .i64 kind, .slice (some ad) l1.length c1, .slice (some ae) l2.length c2] 128 (0, 0)) (kA BK.out) hb); have n1_ := Aside0.mk (below_step (bG HB.out) hb); clear BK HB hb; have BK := n0_; have HB := n1_; clear n0_ n1_; have hcz9_0 : w13.cell? ⟨gb, 0, none⟩ = some (.int .i64 kind) := (blk_cell BK.out 0).trans rfl; have hcz9_1 : w13.cell? ⟨gb, 1, none⟩ = some (.slice (some ad) l1.length c1) := (blk_cell BK.out 1).trans rfl; have hcz9_2 : w13.cell? ⟨gb, 2, none⟩ = some (.slice (some ae) l2.length c2) := (blk_cell BK.out 2).trans rfl; have hx0 := (HB.out.cell (HWW.out _ _ hx)).trans hx; have hy0 := (HB.out.cell (HWW.out _ _ hy)).trans hy; have hfz9_0 := blk_frozen BK.out 0; have hfz9_1 := blk_frozen BK.out 1; have hfz9_2 := blk_frozen BK.out 2; have hz0 := (HB.out.cell (HWW.out _ _ hz)).trans hz))
  have HBr := Aside0.mk (show Below w.heap.size w w13.drew from below_drew HB.out)
  have d0 : w13.drew.cell? ⟨gb, 0, none⟩ = some (.int .i64 kind) := hcz9_0
  have d1 : w13.drew.cell? ⟨gb, 1, none⟩ = some (.slice (some ad) l1.length c1) := hcz9_1
  have d2 : w13.drew.cell? ⟨gb, 2, none⟩ = some (.slice (some ae) l2.length c2) := hcz9_2
  have e0 : w13.drew.frozen? ⟨gb, 0, none⟩ = false := hfz9_0
  have e1 : w13.drew.frozen? ⟨gb, 1, none⟩ = false := hfz9_1
  have e2 : w13.drew.frozen? ⟨gb, 2, none⟩ = false := hfz9_2
  have dx : w13.drew.cell? (ad.add t1.toNat) = some (.int .i64 X) := hx0
  have dz : w13.drew.cell? (ad.add J.toNat) = some (.int .i64 Z) := hz0
  clear hcz12_0 hcz12_1 hcz12_2 hfz12_0 hfz12_1 hfz12_2 hcz9_0 hcz9_1 hcz9_2 hfz9_0 hfz9_1 hfz9_2 hx0 hy0 hz0
  refine wp_region_still_tail 22 (by kernel_rfl) (by kernel_rfl) ?_
  simp only [List.take_succ_cons, List.take_zero, List.drop_succ_cons, List.drop_zero]
  change wpStill _ _ (World.drew w13) (fun a' => wpList _ _ _ _ a' (World.drew w13)) _ _
  generalize World.drew w13 = w14 at *
  iterate 22 still_step
  refine wpStill_nil ?_
  go_wp2_with (go_at_call 118; refine (interp_logs.calls k kind _ _ l1 _ _ l2 t1 _ _ _ _ (cA (Kd.C_below HC1.out HBr.out)) HL1.out (cA (Kd.C_below HC2.out HBr.out)) HL2.out A4.out).mono ?_; rintro e w15 ⟨rfl, hb⟩; have n1_ := Aside0.mk (below_step HBr.out hb); have HB9 := n1_; clear n1_)
  go_ret2
  exact ⟨rfl, bG HB9.out⟩

end Go.Proofs.YthkcphdhmkcdkaaGreat.FX
