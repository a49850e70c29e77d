/- Written by the session's fprint.py out of the translation. -/
import Derived.Test.YthkcphdhmkcdkaaFPx0
namespace Go.Proofs.Ythkcphdhmkcdkaa.FP
open Go.RowKit Go.Proofs.YthkcphdhmkcdkaaW.PrintWords Go.Proofs.YthkcphdhmkcdkaaW.PrintLast Go.Proofs.YthkcphdhmkcdkaaW.PrintMore
attribute [local go_sem] max2_int min2_int max_two min_two max_three min_three max_four min_four   -- for this text's walks alone
open Go.Proofs.Ythkcphdhmkcdkaa.FX
attribute [local go_sem] run_store_float run_neg_float run_fmul run_fadd run_fsub run_fdiv run_ftoi isSome_setCell 
set_option linter.unusedVariables false
set_option linter.unusedSimpArgs false

mutual
def interp_Check.j0 : Nat → Bool → Int → List Int → List Nat → Option (Int)
 | 0, _, _, _, _ => none
 | k + 1, x14, x106000, x106001, x106002 => if x14 = true then (some 90) else (if (x106001.length : Int) < 1 then (interp_Check.j1 k true x106000 x106001 x106002) else (if (x106001.length : Int) > 256 then (interp_Check.j1 k true x106000 x106001 x106002) else (interp_Check.j1 k ((x106001.length : Int) != (x106002.length : Int)) x106000 x106001 x106002)))
def interp_Check.j1 : Nat → Bool → Int → List Int → List Nat → Option (Int)
 | 0, _, _, _, _ => none
 | k + 1, x33, x106000, x106001, x106002 => if x33 = true then (some 100) else (interp_Check.l0 k (-1) x106001 (x106001.length : Int) 0 x106000 x106001 x106002)
def interp_Check.l0 : Nat → Int → List Int → Int → Int → Int → List Int → List Nat → Option (Int)
 | 0, _, _, _, _, _, _, _ => none
 | k + 1, x3, x35, x36, x37, x106000, x106001, x106002 => if x37 < x36 then (if 0 ≤ x37 then (if x37 < (x35.length : Int) then (if x37 < (x106002.length : Int) then (if (rd x35 x37) ≤ x3 then (some 100) else (if (rd x35 x37) > 109572 then (some 100) else ((ieee_Class.f (rdOf (0 : Nat) x106002 x37)).bind fun t108 => (if t108 ≥ 4 then (some 100) else (if x106000 = 4 then (if ((FloatKind.f64.format.order (rdOf (0 : Nat) x106002 x37) (0 : Nat) == some .gt) = true) then (interp_Check.l0 k (rd x35 x37) x35 x36 (wrap64 (x37 + 1)) x106000 x106001 x106002) else (some 100)) else (interp_Check.l0 k (rd x35 x37) x35 x36 (wrap64 (x37 + 1)) x106000 x106001 x106002)))))) else (none)) else (none)) else (none)) else (some 0)
end
def interp_Check.f (k : Nat) (a0_0 : Int) (l0_1 : List Int) (l0_2 : List Nat) : Option (Int) := if a0_0 < 1 then (interp_Check.j0 k true a0_0 l0_1 l0_2) else (interp_Check.j0 k (decide (a0_0 > 4)) a0_0 l0_1 l0_2)
theorem interp_Check.mono_l : ∀ k, (∀ y0 y1 y2 y3, LeO (interp_Check.j0 k y0 y1 y2 y3) (interp_Check.j0 (k + 1) y0 y1 y2 y3)) ∧ (∀ y0 y1 y2 y3, LeO (interp_Check.j1 k y0 y1 y2 y3) (interp_Check.j1 (k + 1) y0 y1 y2 y3)) ∧ (∀ y0 y1 y2 y3 y4 y5 y6, LeO (interp_Check.l0 k y0 y1 y2 y3 y4 y5 y6) (interp_Check.l0 (k + 1) y0 y1 y2 y3 y4 y5 y6))
 | 0 => ⟨fun _ _ _ _ r h => by simp [interp_Check.j0] at h, fun _ _ _ _ r h => by simp [interp_Check.j1] at h, fun _ _ _ _ _ _ _ r h => by simp [interp_Check.l0] at h⟩
 | k + 1 => by
  (obtain ⟨ih0, ih1, ih2⟩ := interp_Check.mono_l k);(refine ⟨?_, ?_, ?_⟩)
  ·intro y0 y1 y2 y3
   unfold interp_Check.j0
   repeat' first
   | (with_reducible exact ih0 _ _ _ _)
   | (with_reducible exact ih1 _ _ _ _)
   | (with_reducible exact ih2 _ _ _ _ _ _ _)
   | (with_reducible exact LeO.refl _)
   | (with_reducible exact LeO.none _)
   | (with_reducible refine LeO.ite ?_ ?_)
   | (with_reducible refine LeO.bind ?_ (fun _ => ?_))
   | exact ih0 _ _ _ _
   | exact ih1 _ _ _ _
   | exact ih2 _ _ _ _ _ _ _
   | exact LeO.none _
   | refine LeO.ite ?_ ?_
   | refine LeO.bind ?_ (fun _ => ?_)
  ·intro y0 y1 y2 y3
   unfold interp_Check.j1
   repeat' first
   | (with_reducible exact ih0 _ _ _ _)
   | (with_reducible exact ih1 _ _ _ _)
   | (with_reducible exact ih2 _ _ _ _ _ _ _)
   | (with_reducible exact LeO.refl _)
   | (with_reducible exact LeO.none _)
   | (with_reducible refine LeO.ite ?_ ?_)
   | (with_reducible refine LeO.bind ?_ (fun _ => ?_))
   | exact ih0 _ _ _ _
   | exact ih1 _ _ _ _
   | exact ih2 _ _ _ _ _ _ _
   | exact LeO.none _
   | refine LeO.ite ?_ ?_
   | refine LeO.bind ?_ (fun _ => ?_)
  ·intro y0 y1 y2 y3 y4 y5 y6
   unfold interp_Check.l0
   repeat' first
   | (with_reducible exact ih0 _ _ _ _)
   | (with_reducible exact ih1 _ _ _ _)
   | (with_reducible exact ih2 _ _ _ _ _ _ _)
   | (with_reducible exact LeO.refl _)
   | (with_reducible exact LeO.none _)
   | (with_reducible refine LeO.ite ?_ ?_)
   | (with_reducible refine LeO.bind ?_ (fun _ => ?_))
   | exact ih0 _ _ _ _
   | exact ih1 _ _ _ _
   | exact ih2 _ _ _ _ _ _ _
   | exact LeO.none _
   | refine LeO.ite ?_ ?_
   | refine LeO.bind ?_ (fun _ => ?_)
theorem interp_Check.mono : ∀ a0 a1 a2 k, LeO (interp_Check.f k a0 a1 a2) (interp_Check.f (k + 1) a0 a1 a2) := by
 (intro a0 a1 a2 k);(obtain ⟨ih0, ih1, ih2⟩ := interp_Check.mono_l k);(unfold interp_Check.f)
 repeat' first
  | (with_reducible exact ih0 _ _ _ _)
  | (with_reducible exact ih1 _ _ _ _)
  | (with_reducible exact ih2 _ _ _ _ _ _ _)
  | (with_reducible exact LeO.refl _)
  | (with_reducible exact LeO.none _)
  | (with_reducible refine LeO.ite ?_ ?_)
  | (with_reducible refine LeO.bind ?_ (fun _ => ?_))
  | exact ih0 _ _ _ _
  | exact ih1 _ _ _ _
  | exact ih2 _ _ _ _ _ _ _
  | exact LeO.none _
  | refine LeO.ite ?_ ?_
  | refine LeO.bind ?_ (fun _ => ?_)
set_option maxHeartbeats 8000000 in
set_option maxRecDepth 100000 in
theorem interp_Check.calls (k : Nat) (a0_0 : Int) (A0_1 : Option Addr) (c0_1 : Nat) (l0_1 : List Int) (A0_2 : Option Addr) (c0_2 : Nat) (l0_2 : List Nat) (r : Int) (w : World) (hr0_1 : Kd.C (Kd.int .i64) w A0_1 l0_1.length l0_1) (hc0_1 : l0_1.length ≤ c0_1) (hr0_2 : Kd.C Kd.flt w A0_2 l0_2.length l0_2) (hc0_2 : l0_2.length ≤ c0_2) (h : interp_Check.f k a0_0 l0_1 l0_2 = some r) :
  Calls Try.prog 96 #[.agg #[.int .i64 a0_0, .slice A0_1 l0_1.length c0_1, .slice A0_2 l0_2.length c0_2]] w fun e w' => e = .returned (.int .i64 r) ∧ Below w.heap.size w w' := by
 (have hu86 := Try.underlying86);(have HR0_1 := Aside0.mk hr0_1);(have HC0_1 := Aside0.mk hc0_1);(clear hr0_1 hc0_1);(have HR0_2 := Aside0.mk hr0_2);(have HC0_2 := Aside0.mk hc0_2);(clear hr0_2 hc0_2);(have HB := Aside0.mk (Below.refl w.heap.size w));(have H : (if a0_0 < 1 then (interp_Check.j0 k true a0_0 l0_1 l0_2) else (interp_Check.j0 k (decide (a0_0 > 4)) a0_0 l0_1 l0_2)) = some r := h);(clear h);(have HC2 := Aside0.mk H);(clear H);(go_enter Try.func96, Try.ntmps96)
 go_upto_region 1 with (first | ((with_reducible refine gate_dst (N := 1) rfl ?_); (try (refine gate_guard (by rfl) ?_; dsimp only)); refine box_event ?hg (N := 1) ?hd (cs := #[.int .i64 a0_0, .slice A0_1 l0_1.length c0_1, .slice A0_2 l0_2.length c0_2]) (t := 86) ?hr ?_; (case hd => rfl); (case hg => rfl); (case hr => first | (go_simp; done) | (go_simp; rfl)); intro gb105 hg w3 hbox hb; have n0_ := Aside0.mk (below_step (bA HB.out) hb); have n1_ := Aside0.mk (hbox); have n2_ := Aside0.mk ((by rw [hg]; exact (below_size (bA HB.out)) : w.heap.size ≤ gb105)); have n3_ := Aside0.mk ((by rw [hg]; exact (below_size (bA HB.out)) : w.heap.size ≤ gb105)); clear HB; have HB := n0_; have BK105 := n1_; have GW105 := n2_; have GE105 := n3_; clear n0_ n1_ n2_ n3_; clear hb hbox hg))
 (try simp only [Act.put, List.setIfInBounds_toArray, List.set_cons_zero, List.set_cons_succ])
 go_cut [14] (fun v14 wc => ∃ (kq : Nat) (x14_1 : Bool), v14 = .bool x14_1 ∧ Aside0 (interp_Check.j0 kq x14_1 a0_0 l0_1 l0_2 = some r) ∧ Aside0 (kq ≤ k) ∧ Aside0 (wc.heap[gb105]? = some (.cells #[.int .i64 a0_0, (.slice A0_1 l0_1.length c0_1), (.slice A0_2 l0_2.length c0_2)] 86 (0, 0))) ∧ Aside0 (Below w.heap.size w wc))
 case first =>
  (have H := HC2.out);(clear HC2)
  by_cases c4 : a0_0 < 1
  ·rw [if_pos c4] at H
   (have c4b0 : decide (a0_0 < 1) = true := decide_eq_true c4);(clear c4)
   (first | rw [c4b0] | (simp only [i64_w, i32_w]; rw [c4b0]) | skip)
   (have H' := Aside0.mk H);(clear H);(have hcz5_0 : w3.cell? ⟨gb105, 0, none⟩ = some (.int .i64 a0_0) := (blk_cell BK105.out 0).trans rfl);(have hcz5_1 : w3.cell? ⟨gb105, 1, none⟩ = some (.slice A0_1 l0_1.length c0_1) := (blk_cell BK105.out 1).trans rfl);(have hcz5_2 : w3.cell? ⟨gb105, 2, none⟩ = some (.slice A0_2 l0_2.length c0_2) := (blk_cell BK105.out 2).trans rfl);(have hfz5_0 := blk_frozen BK105.out 0);(have hfz5_1 := blk_frozen BK105.out 1);(have hfz5_2 := blk_frozen BK105.out 2);(go_wp2);(go_meet)
   case rel => exact ⟨_, (true), (by first | rfl | (simp; done) | (simp [*]; done)), H', ⟨by first | omega | exact Nat.le_refl _⟩, ⟨kA BK105.out⟩, ⟨bG HB.out⟩⟩
  (rw [if_neg c4] at H);(have c4b0 : decide (a0_0 < 1) = false := decide_eq_false c4);(clear c4)
  (first | rw [c4b0] | (simp only [i64_w, i32_w]; rw [c4b0]) | skip)
  (have H' := Aside0.mk H);(clear H);(have hcz6_0 : w3.cell? ⟨gb105, 0, none⟩ = some (.int .i64 a0_0) := (blk_cell BK105.out 0).trans rfl);(have hcz6_1 : w3.cell? ⟨gb105, 1, none⟩ = some (.slice A0_1 l0_1.length c0_1) := (blk_cell BK105.out 1).trans rfl);(have hcz6_2 : w3.cell? ⟨gb105, 2, none⟩ = some (.slice A0_2 l0_2.length c0_2) := (blk_cell BK105.out 2).trans rfl);(have hfz6_0 := blk_frozen BK105.out 0);(have hfz6_1 := blk_frozen BK105.out 1);(have hfz6_2 := blk_frozen BK105.out 2);(go_wp2);(go_meet)
  case rel => exact ⟨_, (decide (a0_0 > 4)), (by first | rfl | (simp; done) | (simp [*]; done)), H', ⟨by first | omega | exact Nat.le_refl _⟩, ⟨kA BK105.out⟩, ⟨bG HB.out⟩⟩
 case rest =>
  (clear HC2);(try clear p2);(try clear c4);(try clear c4b0);(try clear hcz5_0);(try clear hcz5_1);(try clear hcz5_2);(try clear hcz6_0);(try clear hcz6_1);(try clear hcz6_2);(try clear hfz5_0);(try clear hfz5_1);(try clear hfz5_2);(try clear hfz6_0);(try clear hfz6_1);(try clear hfz6_2);(obtain ⟨kq, x14_1, rfl, HA, HJ1, BK105, HB⟩ := hcut)
  cases kq with
  | zero => exact absurd HA.out (by simp [interp_Check.j0])
  | succ kj1 =>
   (have H := HA.out);(clear HA);(simp only [interp_Check.j0] at H)
   by_cases c7 : x14_1 = true
   ·subst c7
    (have H1 : (some 90) = some r := by rw [if_pos rfl] at H; exact H);(clear H);(have H := H1);(clear H1);(obtain rfl := Option.some.inj H);(go_wp2);(go_ret);(exact ⟨by first | rfl | (simp [errW_none, errW_some] <;> rfl) | (simp [*, errW_none, errW_some] <;> rfl), bG HB.out⟩)
   (replace c7 := Bool.eq_false_iff.mpr c7);(subst c7);(have H1 : (if (l0_1.length : Int) < 1 then (interp_Check.j1 kj1 true a0_0 l0_1 l0_2) else (if (l0_1.length : Int) > 256 then (interp_Check.j1 kj1 true a0_0 l0_1 l0_2) else (interp_Check.j1 kj1 ((l0_1.length : Int) != (l0_2.length : Int)) a0_0 l0_1 l0_2))) = some r := by rw [if_neg (show ¬ (false = true) by decide)] at H; exact H);(clear H);(have H := H1);(clear H1);(have HC8 := Aside0.mk H);(clear H)
   go_upto_region 3 with (fail)
   go_cut [33] (fun v33 wc => ∃ (kq : Nat) (x33_7 : Bool), v33 = .bool x33_7 ∧ Aside0 (interp_Check.j1 kq x33_7 a0_0 l0_1 l0_2 = some r) ∧ Aside0 (kq ≤ kj1) ∧ Aside0 (wc.heap[gb105]? = some (.cells #[.int .i64 a0_0, (.slice A0_1 l0_1.length c0_1), (.slice A0_2 l0_2.length c0_2)] 86 (0, 0))) ∧ Aside0 (Below w.heap.size w wc))
   case first =>
    (have H := HC8.out);(clear HC8)
    by_cases c9 : (l0_1.length : Int) < 1
    ·rw [if_pos c9] at H
     (have c9b0 : decide ((l0_1.length : Int) < 1) = true := decide_eq_true c9);(have c9b1 : decide (l0_1.length < 1) = true := decide_eq_true (by omega));(clear c9)
     (first | rw [c9b0] | (simp only [i64_w, i32_w]; rw [c9b0]) | skip)
     (have H' := Aside0.mk H);(clear H);(have hcz10_0 : wc.cell? ⟨gb105, 0, none⟩ = some (.int .i64 a0_0) := (blk_cell BK105.out 0).trans rfl);(have hcz10_1 : wc.cell? ⟨gb105, 1, none⟩ = some (.slice A0_1 l0_1.length c0_1) := (blk_cell BK105.out 1).trans rfl);(have hcz10_2 : wc.cell? ⟨gb105, 2, none⟩ = some (.slice A0_2 l0_2.length c0_2) := (blk_cell BK105.out 2).trans rfl);(have hfz10_0 := blk_frozen BK105.out 0);(have hfz10_1 := blk_frozen BK105.out 1);(have hfz10_2 := blk_frozen BK105.out 2);(go_wp2);(go_meet)
     case rel => exact ⟨_, (true), (by first | rfl | (simp; done) | (simp [*]; done)), H', ⟨by have := HJ1.out; first | omega | exact Nat.le_refl _⟩, ⟨kA BK105.out⟩, ⟨bG HB.out⟩⟩
    (rw [if_neg c9] at H);(have c9b0 : decide ((l0_1.length : Int) < 1) = false := decide_eq_false c9);(have c9b1 : decide (l0_1.length < 1) = false := decide_eq_false (by omega));(clear c9)
    (first | rw [c9b0] | (simp only [i64_w, i32_w]; rw [c9b0]) | skip)
    by_cases c11 : (l0_1.length : Int) > 256
    ·rw [if_pos c11] at H
     (have c11b0 : decide (256 < (l0_1.length : Int)) = true := decide_eq_true c11);(have c11b1 : decide (256 < l0_1.length) = true := decide_eq_true (by omega));(clear c11);(have H' := Aside0.mk H);(clear H);(have hcz12_0 : wc.cell? ⟨gb105, 0, none⟩ = some (.int .i64 a0_0) := (blk_cell BK105.out 0).trans rfl);(have hcz12_1 : wc.cell? ⟨gb105, 1, none⟩ = some (.slice A0_1 l0_1.length c0_1) := (blk_cell BK105.out 1).trans rfl);(have hcz12_2 : wc.cell? ⟨gb105, 2, none⟩ = some (.slice A0_2 l0_2.length c0_2) := (blk_cell BK105.out 2).trans rfl);(have hfz12_0 := blk_frozen BK105.out 0);(have hfz12_1 := blk_frozen BK105.out 1);(have hfz12_2 := blk_frozen BK105.out 2);(go_wp2);(go_meet)
     case rel => exact ⟨_, (true), (by first | rfl | (simp; done) | (simp [*]; done)), H', ⟨by have := HJ1.out; first | omega | exact Nat.le_refl _⟩, ⟨kA BK105.out⟩, ⟨bG HB.out⟩⟩
    (rw [if_neg c11] at H);(have c11b0 : decide (256 < (l0_1.length : Int)) = false := decide_eq_false c11);(have c11b1 : decide (256 < l0_1.length) = false := decide_eq_false (by omega));(clear c11);(have H' := Aside0.mk H);(clear H);(have hcz13_0 : wc.cell? ⟨gb105, 0, none⟩ = some (.int .i64 a0_0) := (blk_cell BK105.out 0).trans rfl);(have hcz13_1 : wc.cell? ⟨gb105, 1, none⟩ = some (.slice A0_1 l0_1.length c0_1) := (blk_cell BK105.out 1).trans rfl);(have hcz13_2 : wc.cell? ⟨gb105, 2, none⟩ = some (.slice A0_2 l0_2.length c0_2) := (blk_cell BK105.out 2).trans rfl);(have hfz13_0 := blk_frozen BK105.out 0);(have hfz13_1 := blk_frozen BK105.out 1);(have hfz13_2 := blk_frozen BK105.out 2);(go_wp2);(go_meet)
    case rel => exact ⟨_, (((l0_1.length : Int) != (l0_2.length : Int))), (by first | rfl | (simp; done) | (simp [*]; done)), H', ⟨by have := HJ1.out; first | omega | exact Nat.le_refl _⟩, ⟨kA BK105.out⟩, ⟨bG HB.out⟩⟩
   case rest =>
    (clear HC8);(try clear c1);(try clear p2);(try clear c4);(try clear c4b0);(try clear c7);(try clear c9);(try clear c9b0);(try clear c9b1);(try clear c11);(try clear c11b0);(try clear c11b1);(try clear hcz10_0);(try clear hcz10_1);(try clear hcz10_2);(try clear hcz12_0);(try clear hcz12_1);(try clear hcz12_2);(try clear hcz13_0);(try clear hcz13_1);(try clear hcz13_2);(try clear hcz5_0);(try clear hcz5_1);(try clear hcz5_2);(try clear hcz6_0);(try clear hcz6_1);(try clear hcz6_2);(try clear hfz10_0);(try clear hfz10_1);(try clear hfz10_2);(try clear hfz12_0);(try clear hfz12_1);(try clear hfz12_2);(try clear hfz13_0);(try clear hfz13_1);(try clear hfz13_2);(try clear hfz5_0);(try clear hfz5_1);(try clear hfz5_2);(try clear hfz6_0);(try clear hfz6_1);(try clear hfz6_2);(try clear p2);(obtain ⟨kq, x33_7, rfl, HA, HJ7, BK105, HB⟩ := hcut)
    cases kq with
    | zero => exact absurd HA.out (by simp [interp_Check.j1])
    | succ kj7 =>
     (have H := HA.out);(clear HA);(simp only [interp_Check.j1] at H)
     by_cases c14 : x33_7 = true
     ·subst c14
      (have H1 : (some 100) = some r := by rw [if_pos rfl] at H; exact H);(clear H);(have H := H1);(clear H1);(obtain rfl := Option.some.inj H);(go_wp2);(go_ret);(exact ⟨by first | rfl | (simp [errW_none, errW_some] <;> rfl) | (simp [*, errW_none, errW_some] <;> rfl), bG HB.out⟩)
     (replace c14 := Bool.eq_false_iff.mpr c14);(subst c14);(have H1 : (interp_Check.l0 kj7 (-1) l0_1 (l0_1.length : Int) 0 a0_0 l0_1 l0_2) = some r := by rw [if_neg (show ¬ (false = true) by decide)] at H; exact H);(clear H);(have H := H1);(clear H1);(have H' := Aside0.mk H);(clear H);(have hcz15_0 : wc.cell? ⟨gb105, 0, none⟩ = some (.int .i64 a0_0) := (blk_cell BK105.out 0).trans rfl);(have hcz15_1 : wc.cell? ⟨gb105, 1, none⟩ = some (.slice A0_1 l0_1.length c0_1) := (blk_cell BK105.out 1).trans rfl);(have hcz15_2 : wc.cell? ⟨gb105, 2, none⟩ = some (.slice A0_2 l0_2.length c0_2) := (blk_cell BK105.out 2).trans rfl);(have hfz15_0 := blk_frozen BK105.out 0);(have hfz15_1 := blk_frozen BK105.out 1);(have hfz15_2 := blk_frozen BK105.out 2);(go_wp2)
     go_loopg [3, 37] kj7 (fun kq v3 v37 w' => ∃ (x3_3 : Int) (x37_3 : Int), v3 = .int .i64 x3_3 ∧ v37 = .int .i64 x37_3 ∧ Aside0 (interp_Check.l0 kq x3_3 l0_1 (l0_1.length : Int) x37_3 a0_0 l0_1 l0_2 = some r) ∧ Aside0 (kq ≤ kj7) ∧ Aside0 (w'.heap[gb105]? = some (.cells #[.int .i64 a0_0, (.slice A0_1 l0_1.length c0_1), (.slice A0_2 l0_2.length c0_2)] 86 (0, 0))) ∧ Aside0 (Below w.heap.size w w'))
     case atStart => exact ⟨((-1)), (0), (by first | rfl | (simp; done) | (simp [*]; done)), (by first | rfl | (simp; done) | (simp [*]; done)), H', ⟨Nat.le_refl _⟩, ⟨kA BK105.out⟩, ⟨bG HB.out⟩⟩
     case round =>
      (clear H');(try clear c1);(try clear p2);(try clear c4);(try clear c4b0);(try clear c7);(try clear c9);(try clear c9b0);(try clear c9b1);(try clear c11);(try clear c11b0);(try clear c11b1);(try clear c14);(try clear hcz10_0);(try clear hcz10_1);(try clear hcz10_2);(try clear hcz12_0);(try clear hcz12_1);(try clear hcz12_2);(try clear hcz13_0);(try clear hcz13_1);(try clear hcz13_2);(try clear hcz15_0);(try clear hcz15_1);(try clear hcz15_2);(try clear hcz5_0);(try clear hcz5_1);(try clear hcz5_2);(try clear hcz6_0);(try clear hcz6_1);(try clear hcz6_2);(try clear hfz10_0);(try clear hfz10_1);(try clear hfz10_2);(try clear hfz12_0);(try clear hfz12_1);(try clear hfz12_2);(try clear hfz13_0);(try clear hfz13_1);(try clear hfz13_2);(try clear hfz15_0);(try clear hfz15_1);(try clear hfz15_2);(try clear hfz5_0);(try clear hfz5_1);(try clear hfz5_2);(try clear hfz6_0);(try clear hfz6_1);(try clear hfz6_2);(try clear p2);(obtain ⟨x3_3, x37_3, rfl, rfl, HA, HK3, BK105, HB⟩ := hrel)
      cases gk with
      | zero => exact absurd HA.out (by simp [interp_Check.l0])
      | succ k3 =>
       (have H := HA.out);(clear HA);(simp only [interp_Check.l0] at H)
       by_cases c16 : x37_3 < (l0_1.length : Int)
       rotate_left
       ·rw [if_neg c16] at H
        (have c16b0 : decide (x37_3 < (l0_1.length : Int)) = false := decide_eq_false c16);(clear c16);(obtain rfl := Option.some.inj H);(go_wp2);(go_ret);(exact ⟨by first | rfl | (simp [errW_none, errW_some] <;> rfl) | (simp [*, errW_none, errW_some] <;> rfl), bG HB.out⟩)
       (rw [if_pos c16] at H);(have c16b0 : decide (x37_3 < (l0_1.length : Int)) = true := decide_eq_true c16);(clear c16)
       by_cases c17 : 0 ≤ x37_3
       rotate_left
       ·rw [if_neg c17] at H
        exact absurd H (by simp)
       (rw [if_pos c17] at H);(have c17b0 : decide (0 ≤ x37_3) = true := decide_eq_true c17);(clear c17)
       by_cases c18 : x37_3 < (l0_1.length : Int)
       rotate_left
       ·rw [if_neg c18] at H
        exact absurd H (by simp)
       (rw [if_pos c18] at H);(have c18b0 : decide (x37_3 < (l0_1.length : Int)) = true := decide_eq_true c18);(clear c18)
       by_cases c19 : x37_3 < (l0_2.length : Int)
       rotate_left
       ·rw [if_neg c19] at H
        exact absurd H (by simp)
       (rw [if_pos c19] at H);(have c19b0 : decide (x37_3 < (l0_2.length : Int)) = true := decide_eq_true c19);(clear c19)
       by_cases c20 : (rd l0_1 x37_3) ≤ x3_3
       ·rw [if_pos c20] at H
        (have c20b0 : decide ((rd l0_1 x37_3) ≤ x3_3) = true := decide_eq_true c20);(clear c20);(obtain rfl := Option.some.inj H);(have p106 : 0 ≤ (x37_3 : Int) := of_decide_eq_true asA);(have q106 : x37_3 < (l0_1.length : Int) := of_decide_eq_true asA);(obtain ⟨ad106, e106, hx106_0⟩ := Kd.at_int HR0_1.out x37_3 p106 q106);(cases e106);(replace hx106_0 := (HB.out.cell (World.block_lt_of_cell? w _ hx106_0)).trans hx106_0);(replace p106 := eq_true p106);(replace q106 := eq_true q106);(have hcz21_0 : wr.cell? ⟨gb105, 0, none⟩ = some (.int .i64 a0_0) := (blk_cell BK105.out 0).trans rfl);(have hcz21_1 : wr.cell? ⟨gb105, 1, none⟩ = some (.slice (some ad106) l0_1.length c0_1) := (blk_cell BK105.out 1).trans rfl);(have hcz21_2 : wr.cell? ⟨gb105, 2, none⟩ = some (.slice A0_2 l0_2.length c0_2) := (blk_cell BK105.out 2).trans rfl);(have hfz21_0 := blk_frozen BK105.out 0);(have hfz21_1 := blk_frozen BK105.out 1);(have hfz21_2 := blk_frozen BK105.out 2);(have p107 : 0 ≤ (x37_3 : Int) := of_decide_eq_true asA);(have q107 : x37_3 < (l0_2.length : Int) := of_decide_eq_true asA);(obtain ⟨ad107, e107, hx107_0⟩ := Kd.at_flt HR0_2.out x37_3 p107 q107);(cases e107);(replace hx107_0 := (HB.out.cell (World.block_lt_of_cell? w _ hx107_0)).trans hx107_0);(replace p107 := eq_true p107);(replace q107 := eq_true q107);(go_wp2);(go_ret);(exact ⟨by first | rfl | (simp [errW_none, errW_some] <;> rfl) | (simp [*, errW_none, errW_some] <;> rfl), bG HB.out⟩)
       (rw [if_neg c20] at H);(have c20b0 : decide ((rd l0_1 x37_3) ≤ x3_3) = false := decide_eq_false c20);(clear c20)
       by_cases c22 : (rd l0_1 x37_3) > 109572
       ·rw [if_pos c22] at H
        (have c22b0 : decide (109572 < (rd l0_1 x37_3)) = true := decide_eq_true c22);(clear c22);(obtain rfl := Option.some.inj H);(have p106 : 0 ≤ (x37_3 : Int) := of_decide_eq_true asA);(have q106 : x37_3 < (l0_1.length : Int) := of_decide_eq_true asA);(obtain ⟨ad106, e106, hx106_0⟩ := Kd.at_int HR0_1.out x37_3 p106 q106);(cases e106);(replace hx106_0 := (HB.out.cell (World.block_lt_of_cell? w _ hx106_0)).trans hx106_0);(replace p106 := eq_true p106);(replace q106 := eq_true q106);(have hcz23_0 : wr.cell? ⟨gb105, 0, none⟩ = some (.int .i64 a0_0) := (blk_cell BK105.out 0).trans rfl);(have hcz23_1 : wr.cell? ⟨gb105, 1, none⟩ = some (.slice (some ad106) l0_1.length c0_1) := (blk_cell BK105.out 1).trans rfl);(have hcz23_2 : wr.cell? ⟨gb105, 2, none⟩ = some (.slice A0_2 l0_2.length c0_2) := (blk_cell BK105.out 2).trans rfl);(have hfz23_0 := blk_frozen BK105.out 0);(have hfz23_1 := blk_frozen BK105.out 1);(have hfz23_2 := blk_frozen BK105.out 2);(have p107 : 0 ≤ (x37_3 : Int) := of_decide_eq_true asA);(have q107 : x37_3 < (l0_2.length : Int) := of_decide_eq_true asA);(obtain ⟨ad107, e107, hx107_0⟩ := Kd.at_flt HR0_2.out x37_3 p107 q107);(cases e107);(replace hx107_0 := (HB.out.cell (World.block_lt_of_cell? w _ hx107_0)).trans hx107_0);(replace p107 := eq_true p107);(replace q107 := eq_true q107);(go_wp2);(go_ret);(exact ⟨by first | rfl | (simp [errW_none, errW_some] <;> rfl) | (simp [*, errW_none, errW_some] <;> rfl), bG HB.out⟩)
       (rw [if_neg c22] at H);(have c22b0 : decide (109572 < (rd l0_1 x37_3)) = false := decide_eq_false c22);(clear c22);(replace H := Option.bind_eq_some_iff.mp H);(obtain ⟨t108, A240, H⟩ := H);(have A24 := Aside0.mk A240);(clear A240)
       by_cases c25 : t108 ≥ 4
       ·rw [if_pos c25] at H
        (have c25b0 : decide (4 ≤ t108) = true := decide_eq_true c25);(clear c25);(obtain rfl := Option.some.inj H);(have p106 : 0 ≤ (x37_3 : Int) := of_decide_eq_true asA);(have q106 : x37_3 < (l0_1.length : Int) := of_decide_eq_true asA);(obtain ⟨ad106, e106, hx106_0⟩ := Kd.at_int HR0_1.out x37_3 p106 q106);(cases e106);(replace hx106_0 := (HB.out.cell (World.block_lt_of_cell? w _ hx106_0)).trans hx106_0);(replace p106 := eq_true p106);(replace q106 := eq_true q106);(have hcz26_0 : wr.cell? ⟨gb105, 0, none⟩ = some (.int .i64 a0_0) := (blk_cell BK105.out 0).trans rfl);(have hcz26_1 : wr.cell? ⟨gb105, 1, none⟩ = some (.slice (some ad106) l0_1.length c0_1) := (blk_cell BK105.out 1).trans rfl);(have hcz26_2 : wr.cell? ⟨gb105, 2, none⟩ = some (.slice A0_2 l0_2.length c0_2) := (blk_cell BK105.out 2).trans rfl);(have hfz26_0 := blk_frozen BK105.out 0);(have hfz26_1 := blk_frozen BK105.out 1);(have hfz26_2 := blk_frozen BK105.out 2);(have p107 : 0 ≤ (x37_3 : Int) := of_decide_eq_true asA);(have q107 : x37_3 < (l0_2.length : Int) := of_decide_eq_true asA);(obtain ⟨ad107, e107, hx107_0⟩ := Kd.at_flt HR0_2.out x37_3 p107 q107);(cases e107);(replace hx107_0 := (HB.out.cell (World.block_lt_of_cell? w _ hx107_0)).trans hx107_0);(replace p107 := eq_true p107);(replace q107 := eq_true q107)
        go_wp2_with (first | (go_at_call 60; (with_reducible refine (ieee_Class.calls (rdOf (0 : Nat) l0_2 x37_3) t108 _ A24.out).mono ?_); rintro e w' ⟨rfl, ⟨nd, rfl⟩⟩))
        (go_ret);(exact ⟨by first | rfl | (simp [errW_none, errW_some] <;> rfl) | (simp [*, errW_none, errW_some] <;> rfl), bG HB.out⟩)
       (rw [if_neg c25] at H);(have c25b0 : decide (4 ≤ t108) = false := decide_eq_false c25);(clear c25)
       by_cases c27 : a0_0 = 4
       rotate_left
       ·rw [if_neg c27] at H
        (have c27b0 : (a0_0 == 4) = false := beq_eq_false_iff_ne.mpr c27);(have c27b1 : (a0_0 != 4) = true := bne_iff_ne.mpr c27);(have H' := Aside0.mk H);(clear H);(have p106 : 0 ≤ (x37_3 : Int) := of_decide_eq_true asA);(have q106 : x37_3 < (l0_1.length : Int) := of_decide_eq_true asA);(obtain ⟨ad106, e106, hx106_0⟩ := Kd.at_int HR0_1.out x37_3 p106 q106);(cases e106);(replace hx106_0 := (HB.out.cell (World.block_lt_of_cell? w _ hx106_0)).trans hx106_0);(replace p106 := eq_true p106);(replace q106 := eq_true q106);(have hcz31_0 : wr.cell? ⟨gb105, 0, none⟩ = some (.int .i64 a0_0) := (blk_cell BK105.out 0).trans rfl);(have hcz31_1 : wr.cell? ⟨gb105, 1, none⟩ = some (.slice (some ad106) l0_1.length c0_1) := (blk_cell BK105.out 1).trans rfl);(have hcz31_2 : wr.cell? ⟨gb105, 2, none⟩ = some (.slice A0_2 l0_2.length c0_2) := (blk_cell BK105.out 2).trans rfl);(have hfz31_0 := blk_frozen BK105.out 0);(have hfz31_1 := blk_frozen BK105.out 1);(have hfz31_2 := blk_frozen BK105.out 2);(have p107 : 0 ≤ (x37_3 : Int) := of_decide_eq_true asA);(have q107 : x37_3 < (l0_2.length : Int) := of_decide_eq_true asA);(obtain ⟨ad107, e107, hx107_0⟩ := Kd.at_flt HR0_2.out x37_3 p107 q107);(cases e107);(replace hx107_0 := (HB.out.cell (World.block_lt_of_cell? w _ hx107_0)).trans hx107_0);(replace p107 := eq_true p107);(replace q107 := eq_true q107)
        go_wp2_with (first | (go_at_call 60; (with_reducible refine (ieee_Class.calls (rdOf (0 : Nat) l0_2 x37_3) t108 _ A24.out).mono ?_); rintro e w' ⟨rfl, ⟨nd, rfl⟩⟩))
        go_roundg k3
        case measure => have := HJ1.out; have := HJ7.out; have := HK3.out; omega
        case rel => exact ⟨(rd l0_1 x37_3), (wrap64 (x37_3 + 1)), (by first | rfl | (simp; done) | (simp [*]; done)), (by first | rfl | (simp; done) | (simp [*]; done)), H', ⟨by have := HJ1.out; have := HJ7.out; have := HK3.out; omega⟩, ⟨kA BK105.out⟩, ⟨bG HB.out⟩⟩
       (rw [if_pos c27] at H);(have c27b0 : (a0_0 == 4) = true := beq_iff_eq.mpr c27);(have c27b1 : (a0_0 != 4) = false := bne_eq_false_iff_eq.mpr c27);(clear c27)
       by_cases c28 : ((FloatKind.f64.format.order (rdOf (0 : Nat) l0_2 x37_3) (0 : Nat) == some .gt) = true)
       rotate_left
       ·rw [if_neg c28] at H
        have c28b0 : (FloatKind.f64.format.order (rdOf (0 : Nat) l0_2 x37_3) (0 : Nat) == some .gt) = false := by simpa using c28
        (try (have c28b1 : decide (FloatKind.f64.format.order (rdOf (0 : Nat) l0_2 x37_3) (0 : Nat) = some .gt) = false := by simpa using c28))
        (try (have c28b2 : (FloatKind.f64.format.order (rdOf (0 : Nat) l0_2 x37_3) (0 : Nat) == some .gt) = false := by simpa using c28))
        (try (have c28b3 : ¬ (FloatKind.f64.format.order (rdOf (0 : Nat) l0_2 x37_3) (0 : Nat) = some .gt) := by simpa using c28))
        (clear c28);(obtain rfl := Option.some.inj H);(have p106 : 0 ≤ (x37_3 : Int) := of_decide_eq_true asA);(have q106 : x37_3 < (l0_1.length : Int) := of_decide_eq_true asA);(obtain ⟨ad106, e106, hx106_0⟩ := Kd.at_int HR0_1.out x37_3 p106 q106);(cases e106);(replace hx106_0 := (HB.out.cell (World.block_lt_of_cell? w _ hx106_0)).trans hx106_0);(replace p106 := eq_true p106);(replace q106 := eq_true q106);(have hcz30_0 : wr.cell? ⟨gb105, 0, none⟩ = some (.int .i64 a0_0) := (blk_cell BK105.out 0).trans rfl);(have hcz30_1 : wr.cell? ⟨gb105, 1, none⟩ = some (.slice (some ad106) l0_1.length c0_1) := (blk_cell BK105.out 1).trans rfl);(have hcz30_2 : wr.cell? ⟨gb105, 2, none⟩ = some (.slice A0_2 l0_2.length c0_2) := (blk_cell BK105.out 2).trans rfl);(have hfz30_0 := blk_frozen BK105.out 0);(have hfz30_1 := blk_frozen BK105.out 1);(have hfz30_2 := blk_frozen BK105.out 2);(have p107 : 0 ≤ (x37_3 : Int) := of_decide_eq_true asA);(have q107 : x37_3 < (l0_2.length : Int) := of_decide_eq_true asA);(obtain ⟨ad107, e107, hx107_0⟩ := Kd.at_flt HR0_2.out x37_3 p107 q107);(cases e107);(replace hx107_0 := (HB.out.cell (World.block_lt_of_cell? w _ hx107_0)).trans hx107_0);(replace p107 := eq_true p107);(replace q107 := eq_true q107)
        go_wp2_with (first | (go_at_call 60; (with_reducible refine (ieee_Class.calls (rdOf (0 : Nat) l0_2 x37_3) t108 _ A24.out).mono ?_); rintro e w' ⟨rfl, ⟨nd, rfl⟩⟩))
        (go_ret);(exact ⟨by first | rfl | (simp [errW_none, errW_some] <;> rfl) | (simp [*, errW_none, errW_some] <;> rfl), bG HB.out⟩)
       (rw [if_pos c28] at H);(have c28b0 : (FloatKind.f64.format.order (rdOf (0 : Nat) l0_2 x37_3) (0 : Nat) == some .gt) = true := c28)
       (try (have c28b1 : decide (FloatKind.f64.format.order (rdOf (0 : Nat) l0_2 x37_3) (0 : Nat) = some .gt) = true := by simpa using c28))
       (try (have c28b2 : (FloatKind.f64.format.order (rdOf (0 : Nat) l0_2 x37_3) (0 : Nat) == some .gt) = true := by simpa using c28))
       (clear c28);(have H' := Aside0.mk H);(clear H);(have p106 : 0 ≤ (x37_3 : Int) := of_decide_eq_true asA);(have q106 : x37_3 < (l0_1.length : Int) := of_decide_eq_true asA);(obtain ⟨ad106, e106, hx106_0⟩ := Kd.at_int HR0_1.out x37_3 p106 q106);(cases e106);(replace hx106_0 := (HB.out.cell (World.block_lt_of_cell? w _ hx106_0)).trans hx106_0);(replace p106 := eq_true p106);(replace q106 := eq_true q106);(have hcz29_0 : wr.cell? ⟨gb105, 0, none⟩ = some (.int .i64 a0_0) := (blk_cell BK105.out 0).trans rfl);(have hcz29_1 : wr.cell? ⟨gb105, 1, none⟩ = some (.slice (some ad106) l0_1.length c0_1) := (blk_cell BK105.out 1).trans rfl);(have hcz29_2 : wr.cell? ⟨gb105, 2, none⟩ = some (.slice A0_2 l0_2.length c0_2) := (blk_cell BK105.out 2).trans rfl);(have hfz29_0 := blk_frozen BK105.out 0);(have hfz29_1 := blk_frozen BK105.out 1);(have hfz29_2 := blk_frozen BK105.out 2);(have p107 : 0 ≤ (x37_3 : Int) := of_decide_eq_true asA);(have q107 : x37_3 < (l0_2.length : Int) := of_decide_eq_true asA);(obtain ⟨ad107, e107, hx107_0⟩ := Kd.at_flt HR0_2.out x37_3 p107 q107);(cases e107);(replace hx107_0 := (HB.out.cell (World.block_lt_of_cell? w _ hx107_0)).trans hx107_0);(replace p107 := eq_true p107);(replace q107 := eq_true q107)
       go_wp2_with (first | (go_at_call 60; (with_reducible refine (ieee_Class.calls (rdOf (0 : Nat) l0_2 x37_3) t108 _ A24.out).mono ?_); rintro e w' ⟨rfl, ⟨nd, rfl⟩⟩))
       go_roundg k3
       case measure => have := HJ1.out; have := HJ7.out; have := HK3.out; omega
       case rel => exact ⟨(rd l0_1 x37_3), (wrap64 (x37_3 + 1)), (by first | rfl | (simp; done) | (simp [*]; done)), (by first | rfl | (simp; done) | (simp [*]; done)), H', ⟨by have := HJ1.out; have := HJ7.out; have := HK3.out; omega⟩, ⟨kA BK105.out⟩, ⟨bG HB.out⟩⟩

def interp_find.f (a0_0 : Int) (l0_1 : List Int) (l0_2 : List Nat) (a1 : Int) : Option (Int × Int) := if 0 < (l0_1.length : Int) then (if a1 < (rd l0_1 0) then (some (0, 51)) else (if 0 ≤ (wrap64 ((l0_1.length : Int) - 1)) then (if (wrap64 ((l0_1.length : Int) - 1)) < (l0_1.length : Int) then (if a1 > (rd l0_1 (wrap64 ((l0_1.length : Int) - 1))) then (some (0, 51)) else ((sort_SearchInts.f l0_1 (wrap64 (a1 + 1))).bind fun t112 => (some (wrap64 (t112 - 1), 0)))) else (none)) else (none))) else (none)
set_option maxHeartbeats 8000000 in
set_option maxRecDepth 100000 in
theorem interp_find.calls (a0_0 : Int) (A0_1 : Option Addr) (c0_1 : Nat) (l0_1 : List Int) (A0_2 : Option Addr) (c0_2 : Nat) (l0_2 : List Nat) (a1 : Int) (r1 : Int) (r2 : Int) (w : World) (hr0_1 : Kd.C (Kd.int .i64) w A0_1 l0_1.length l0_1) (hc0_1 : l0_1.length ≤ c0_1) (hr0_2 : Kd.C Kd.flt w A0_2 l0_2.length l0_2) (hc0_2 : l0_2.length ≤ c0_2) (h : interp_find.f a0_0 l0_1 l0_2 a1 = some (r1, r2)) :
  Calls Try.prog 97 #[.agg #[.int .i64 a0_0, .slice A0_1 l0_1.length c0_1, .slice A0_2 l0_2.length c0_2], .int .i64 a1] w fun e w' => e = .returned (.tuple #[.int .i64 r1, .int .i64 r2]) ∧ Below w.heap.size w w' := by
 (have hu86 := Try.underlying86);(have HR0_1 := Aside0.mk hr0_1);(have HC0_1 := Aside0.mk hc0_1);(clear hr0_1 hc0_1);(have HR0_2 := Aside0.mk hr0_2);(have HC0_2 := Aside0.mk hc0_2);(clear hr0_2 hc0_2);(have HB := Aside0.mk (Below.refl w.heap.size w));(have H : (if 0 < (l0_1.length : Int) then (if a1 < (rd l0_1 0) then (some (0, 51)) else (if 0 ≤ (wrap64 ((l0_1.length : Int) - 1)) then (if (wrap64 ((l0_1.length : Int) - 1)) < (l0_1.length : Int) then (if a1 > (rd l0_1 (wrap64 ((l0_1.length : Int) - 1))) then (some (0, 51)) else ((sort_SearchInts.f l0_1 (wrap64 (a1 + 1))).bind fun t112 => (some (wrap64 (t112 - 1), 0)))) else (none)) else (none))) else (none)) = some (r1, r2) := h);(clear h)
 by_cases c3 : 0 < (l0_1.length : Int)
 rotate_left
 ·rw [if_neg c3] at H
  exact absurd H (by simp)
 (rw [if_pos c3] at H);(have c3b0 : decide (0 < (l0_1.length : Int)) = true := decide_eq_true c3);(have c3b1 : decide (0 < l0_1.length) = true := decide_eq_true (by omega));(clear c3)
 by_cases c4 : a1 < (rd l0_1 0)
 ·rw [if_pos c4] at H
  (have c4b0 : decide (a1 < (rd l0_1 0)) = true := decide_eq_true c4);(clear c4);(simp only [Option.some.injEq, Prod.mk.injEq] at H);(obtain ⟨rfl, rfl⟩ := H);(go_enter Try.func97, Try.ntmps97)
  go_wp2_with (first | ((with_reducible refine gate_dst (N := 2) rfl ?_); (try (refine gate_guard (by rfl) ?_; dsimp only)); refine box_event ?hg (N := 2) ?hd (cs := #[.int .i64 a0_0, .slice A0_1 l0_1.length c0_1, .slice A0_2 l0_2.length c0_2]) (t := 86) ?hr ?_; (case hd => rfl); (case hg => rfl); (case hr => first | (go_simp; done) | (go_simp; rfl)); intro gb109 hg w5 hbox hb; have n0_ := Aside0.mk (below_step (bA HB.out) hb); have n1_ := Aside0.mk (hbox); have n2_ := Aside0.mk ((by rw [hg]; exact (below_size (bA HB.out)) : w.heap.size ≤ gb109)); have n3_ := Aside0.mk ((by rw [hg]; exact (below_size (bA HB.out)) : w.heap.size ≤ gb109)); clear HB; have HB := n0_; have BK109 := n1_; have GW109 := n2_; have GE109 := n3_; clear n0_ n1_ n2_ n3_; clear hb hbox hg; have hcz6_0 : w5.cell? ⟨gb109, 0, none⟩ = some (.int .i64 a0_0) := (blk_cell BK109.out 0).trans rfl; have hcz6_1 : w5.cell? ⟨gb109, 1, none⟩ = some (.slice A0_1 l0_1.length c0_1) := (blk_cell BK109.out 1).trans rfl; have hcz6_2 : w5.cell? ⟨gb109, 2, none⟩ = some (.slice A0_2 l0_2.length c0_2) := (blk_cell BK109.out 2).trans rfl; have hfz6_0 := blk_frozen BK109.out 0; have hfz6_1 := blk_frozen BK109.out 1; have hfz6_2 := blk_frozen BK109.out 2; have p110 : 0 ≤ (0 : Int) := (by omega); have q110 : 0 < (l0_1.length : Int) := of_decide_eq_true asA; obtain ⟨ad110, e110, hx110_0⟩ := Kd.at_int HR0_1.out 0 p110 q110; cases e110; have qi110 : (0 < l0_1.length) = True := eq_true (by omega); (try rw [show ((0 : Int)).toNat = 0 from rfl] at hx110_0); (try rw [Addr.add_zero'] at hx110_0); replace hx110_0 := (HB.out.cell (World.block_lt_of_cell? w _ hx110_0)).trans hx110_0; replace p110 := eq_true p110; replace q110 := eq_true q110))
  (go_ret2);(exact ⟨by first | rfl | (simp [errW_none, errW_some] <;> rfl) | (simp [*, errW_none, errW_some] <;> rfl), bG HB.out⟩)
 (rw [if_neg c4] at H);(have c4b0 : decide (a1 < (rd l0_1 0)) = false := decide_eq_false c4);(clear c4);(obtain ⟨ji7, hji7⟩ : ∃ j_ : Int, (wrap64 ((l0_1.length : Int) - 1)) = j_ := ⟨_, rfl⟩);(replace H : (if 0 ≤ (ji7) then (if (ji7) < (l0_1.length : Int) then (if a1 > (rd l0_1 (ji7)) then (some (0, 51)) else ((sort_SearchInts.f l0_1 (wrap64 (a1 + 1))).bind fun t112 => (some (wrap64 (t112 - 1), 0)))) else (none)) else (none)) = some (r1, r2) := by first | (rw [hji7] at H; exact H) | (simp only [hji7] at H ⊢; exact H));(have hji7w : (IntKind.i64.wrap ((l0_1.length : Int) - 1)) = ji7 := (i64_w _).trans hji7)
 by_cases c8 : 0 ≤ (ji7)
 rotate_left
 ·rw [if_neg c8] at H
  exact absurd H (by simp)
 (rw [if_pos c8] at H);(have c8b0 : decide (0 ≤ (ji7)) = true := decide_eq_true c8);(clear c8)
 by_cases c9 : (ji7) < (l0_1.length : Int)
 rotate_left
 ·rw [if_neg c9] at H
  exact absurd H (by simp)
 (rw [if_pos c9] at H);(have c9b0 : decide ((ji7) < (l0_1.length : Int)) = true := decide_eq_true c9);(clear c9)
 by_cases c10 : a1 > (rd l0_1 (ji7))
 ·rw [if_pos c10] at H
  (have c10b0 : decide ((rd l0_1 (ji7)) < a1) = true := decide_eq_true c10);(clear c10);(simp only [Option.some.injEq, Prod.mk.injEq] at H);(obtain ⟨rfl, rfl⟩ := H);(go_enter Try.func97, Try.ntmps97)
  go_wp2_with (first | ((with_reducible refine gate_dst (N := 2) rfl ?_); (try (refine gate_guard (by rfl) ?_; dsimp only)); refine box_event ?hg (N := 2) ?hd (cs := #[.int .i64 a0_0, .slice A0_1 l0_1.length c0_1, .slice A0_2 l0_2.length c0_2]) (t := 86) ?hr ?_; (case hd => rfl); (case hg => rfl); (case hr => first | (go_simp; done) | (go_simp; rfl)); intro gb109 hg w11 hbox hb; have n0_ := Aside0.mk (below_step (bA HB.out) hb); have n1_ := Aside0.mk (hbox); have n2_ := Aside0.mk ((by rw [hg]; exact (below_size (bA HB.out)) : w.heap.size ≤ gb109)); have n3_ := Aside0.mk ((by rw [hg]; exact (below_size (bA HB.out)) : w.heap.size ≤ gb109)); clear HB; have HB := n0_; have BK109 := n1_; have GW109 := n2_; have GE109 := n3_; clear n0_ n1_ n2_ n3_; clear hb hbox hg; have hcz12_0 : w11.cell? ⟨gb109, 0, none⟩ = some (.int .i64 a0_0) := (blk_cell BK109.out 0).trans rfl; have hcz12_1 : w11.cell? ⟨gb109, 1, none⟩ = some (.slice A0_1 l0_1.length c0_1) := (blk_cell BK109.out 1).trans rfl; have hcz12_2 : w11.cell? ⟨gb109, 2, none⟩ = some (.slice A0_2 l0_2.length c0_2) := (blk_cell BK109.out 2).trans rfl; have hfz12_0 := blk_frozen BK109.out 0; have hfz12_1 := blk_frozen BK109.out 1; have hfz12_2 := blk_frozen BK109.out 2; have p110 : 0 ≤ (0 : Int) := (by omega); have q110 : 0 < (l0_1.length : Int) := of_decide_eq_true asA; obtain ⟨ad110, e110, hx110_0⟩ := Kd.at_int HR0_1.out 0 p110 q110; cases e110; have qi110 : (0 < l0_1.length) = True := eq_true (by omega); (try rw [show ((0 : Int)).toNat = 0 from rfl] at hx110_0); (try rw [Addr.add_zero'] at hx110_0); replace hx110_0 := (HB.out.cell (World.block_lt_of_cell? w _ hx110_0)).trans hx110_0; replace p110 := eq_true p110; replace q110 := eq_true q110; have p111 : 0 ≤ ((ji7) : Int) := of_decide_eq_true asA; have q111 : (ji7) < (l0_1.length : Int) := of_decide_eq_true asA; obtain ⟨ad111, e111, hx111_0⟩ := Kd.at_int HR0_1.out (ji7) p111 q111; obtain rfl : ad110 = ad111 := (by injection e111); replace hx111_0 := (HB.out.cell (World.block_lt_of_cell? w _ hx111_0)).trans hx111_0; replace p111 := eq_true p111; replace q111 := eq_true q111))
  (go_ret2);(exact ⟨by first | rfl | (simp [errW_none, errW_some] <;> rfl) | (simp only [← hji7]; first | rfl | (simp [errW_none, errW_some] <;> rfl)) | (simp [*, errW_none, errW_some] <;> rfl), bG HB.out⟩)
 (rw [if_neg c10] at H);(have c10b0 : decide ((rd l0_1 (ji7)) < a1) = false := decide_eq_false c10);(clear c10);(replace H := Option.bind_eq_some_iff.mp H);(obtain ⟨t112, A130, H⟩ := H);(have A13 := Aside0.mk A130);(clear A130);(simp only [Option.some.injEq, Prod.mk.injEq] at H);(obtain ⟨rfl, rfl⟩ := H);(go_enter Try.func97, Try.ntmps97)
 go_wp2_with (first | ((with_reducible refine gate_dst (N := 2) rfl ?_); (try (refine gate_guard (by rfl) ?_; dsimp only)); refine box_event ?hg (N := 2) ?hd (cs := #[.int .i64 a0_0, .slice A0_1 l0_1.length c0_1, .slice A0_2 l0_2.length c0_2]) (t := 86) ?hr ?_; (case hd => rfl); (case hg => rfl); (case hr => first | (go_simp; done) | (go_simp; rfl)); intro gb109 hg w14 hbox hb; have n0_ := Aside0.mk (below_step (bA HB.out) hb); have n1_ := Aside0.mk (hbox); have n2_ := Aside0.mk ((by rw [hg]; exact (below_size (bA HB.out)) : w.heap.size ≤ gb109)); have n3_ := Aside0.mk ((by rw [hg]; exact (below_size (bA HB.out)) : w.heap.size ≤ gb109)); clear HB; have HB := n0_; have BK109 := n1_; have GW109 := n2_; have GE109 := n3_; clear n0_ n1_ n2_ n3_; clear hb hbox hg; have hcz15_0 : w14.cell? ⟨gb109, 0, none⟩ = some (.int .i64 a0_0) := (blk_cell BK109.out 0).trans rfl; have hcz15_1 : w14.cell? ⟨gb109, 1, none⟩ = some (.slice A0_1 l0_1.length c0_1) := (blk_cell BK109.out 1).trans rfl; have hcz15_2 : w14.cell? ⟨gb109, 2, none⟩ = some (.slice A0_2 l0_2.length c0_2) := (blk_cell BK109.out 2).trans rfl; have hfz15_0 := blk_frozen BK109.out 0; have hfz15_1 := blk_frozen BK109.out 1; have hfz15_2 := blk_frozen BK109.out 2; have p110 : 0 ≤ (0 : Int) := (by omega); have q110 : 0 < (l0_1.length : Int) := of_decide_eq_true asA; obtain ⟨ad110, e110, hx110_0⟩ := Kd.at_int HR0_1.out 0 p110 q110; cases e110; have qi110 : (0 < l0_1.length) = True := eq_true (by omega); (try rw [show ((0 : Int)).toNat = 0 from rfl] at hx110_0); (try rw [Addr.add_zero'] at hx110_0); replace hx110_0 := (HB.out.cell (World.block_lt_of_cell? w _ hx110_0)).trans hx110_0; replace p110 := eq_true p110; replace q110 := eq_true q110; have p111 : 0 ≤ ((ji7) : Int) := of_decide_eq_true asA; have q111 : (ji7) < (l0_1.length : Int) := of_decide_eq_true asA; obtain ⟨ad111, e111, hx111_0⟩ := Kd.at_int HR0_1.out (ji7) p111 q111; obtain rfl : ad110 = ad111 := (by injection e111); replace hx111_0 := (HB.out.cell (World.block_lt_of_cell? w _ hx111_0)).trans hx111_0; replace p111 := eq_true p111; replace q111 := eq_true q111) | ((with_reducible refine gate_callee (f := 109) rfl ?_); refine goesL_ (some 28) rfl rfl Try.func109 (by kernel_rfl) rfl #[.slice (some ad110) l0_1.length c0_1, .int .i64 (wrap64 (a1 + 1))] rfl mA ?_; (with_reducible refine (sort_SearchInts.calls _ _ l0_1 (wrap64 (a1 + 1)) t112 _ ?side1 ?side2 A13.out).mono ?_); (case side1 => exact cA (Kd.C_below HR0_1.out HB.out)); (case side2 => exact HC0_1.out); rintro e w16 ⟨rfl, hb⟩; refine ⟨_, rfl, ?_⟩; have n0_ := Aside0.mk (blk_below (g := gb109) (o := .cells #[.int .i64 a0_0, .slice (some ad110) l0_1.length c0_1, .slice A0_2 l0_2.length c0_2] 86 (0, 0)) (kA BK109.out) hb); have n1_ := Aside0.mk (below_step (bG HB.out) hb); clear BK109; clear HB; have BK109 := n0_; have HB := n1_; clear n0_ n1_; (try clear hb); (try clear hb2); (try clear hk); (try clear hi)))
 (go_ret2);(exact ⟨by first | rfl | (simp [errW_none, errW_some] <;> rfl) | (simp only [← hji7]; first | rfl | (simp [errW_none, errW_some] <;> rfl)) | (simp [*, errW_none, errW_some] <;> rfl), bG HB.out⟩)

def interp_Find.f (k : Nat) (a0_0 : Int) (l0_1 : List Int) (l0_2 : List Nat) (a1 : Int) : Option (Int × Int) := (interp_Check.f k a0_0 l0_1 l0_2).bind fun t114 => (if t114 = 0 then ((interp_find.f a0_0 l0_1 l0_2 a1).bind fun bt115 => (some (bt115.1, bt115.2))) else (some (0, t114)))
set_option maxHeartbeats 8000000 in
set_option maxRecDepth 100000 in
theorem interp_Find.calls (k : Nat) (a0_0 : Int) (A0_1 : Option Addr) (c0_1 : Nat) (l0_1 : List Int) (A0_2 : Option Addr) (c0_2 : Nat) (l0_2 : List Nat) (a1 : Int) (r1 : Int) (r2 : Int) (w : World) (hr0_1 : Kd.C (Kd.int .i64) w A0_1 l0_1.length l0_1) (hc0_1 : l0_1.length ≤ c0_1) (hr0_2 : Kd.C Kd.flt w A0_2 l0_2.length l0_2) (hc0_2 : l0_2.length ≤ c0_2) (h : interp_Find.f k a0_0 l0_1 l0_2 a1 = some (r1, r2)) :
  Calls Try.prog 77 #[.agg #[.int .i64 a0_0, .slice A0_1 l0_1.length c0_1, .slice A0_2 l0_2.length c0_2], .int .i64 a1] w fun e w' => e = .returned (.tuple #[.int .i64 r1, .int .i64 r2]) ∧ Below w.heap.size w w' := by
 (have hu86 := Try.underlying86);(have HR0_1 := Aside0.mk hr0_1);(have HC0_1 := Aside0.mk hc0_1);(clear hr0_1 hc0_1);(have HR0_2 := Aside0.mk hr0_2);(have HC0_2 := Aside0.mk hc0_2);(clear hr0_2 hc0_2);(have HB := Aside0.mk (Below.refl w.heap.size w));(have H : ((interp_Check.f k a0_0 l0_1 l0_2).bind fun t114 => (if t114 = 0 then ((interp_find.f a0_0 l0_1 l0_2 a1).bind fun bt115 => (some (bt115.1, bt115.2))) else (some (0, t114)))) = some (r1, r2) := h);(clear h);(replace H := Option.bind_eq_some_iff.mp H);(obtain ⟨t114, A30, H⟩ := H);(have A3 := Aside0.mk A30);(clear A30)
 by_cases c4 : t114 = 0
 rotate_left
 ·rw [if_neg c4] at H
  (have c4b0 : (t114 == 0) = false := beq_eq_false_iff_ne.mpr c4);(have c4b1 : (t114 != 0) = true := bne_iff_ne.mpr c4);(simp only [Option.some.injEq, Prod.mk.injEq] at H);(obtain ⟨rfl, rfl⟩ := H);(go_enter Try.func77, Try.ntmps77)
  go_wp2_with (first | ((with_reducible refine gate_dst (N := 2) rfl ?_); refine box_event ?hg (N := 2) ?hd (cs := #[.int .i64 a0_0, .slice A0_1 l0_1.length c0_1, .slice A0_2 l0_2.length c0_2]) (t := 86) ?hr ?_; (case hd => rfl); (case hg => rfl); (case hr => first | (go_simp; done) | (go_simp; rfl)); intro gb113 hg w11 hbox hb; have n0_ := Aside0.mk (below_step (bA HB.out) hb); have n1_ := Aside0.mk (hbox); have n2_ := Aside0.mk ((by rw [hg]; exact (below_size (bA HB.out)) : w.heap.size ≤ gb113)); have n3_ := Aside0.mk ((by rw [hg]; exact (below_size (bA HB.out)) : w.heap.size ≤ gb113)); clear HB; have HB := n0_; have BK113 := n1_; have GW113 := n2_; have GE113 := n3_; clear n0_ n1_ n2_ n3_; clear hb hbox hg; have hcz12_0 : w11.cell? ⟨gb113, 0, none⟩ = some (.int .i64 a0_0) := (blk_cell BK113.out 0).trans rfl; have hcz12_1 : w11.cell? ⟨gb113, 1, none⟩ = some (.slice A0_1 l0_1.length c0_1) := (blk_cell BK113.out 1).trans rfl; have hcz12_2 : w11.cell? ⟨gb113, 2, none⟩ = some (.slice A0_2 l0_2.length c0_2) := (blk_cell BK113.out 2).trans rfl; have hfz12_0 := blk_frozen BK113.out 0; have hfz12_1 := blk_frozen BK113.out 1; have hfz12_2 := blk_frozen BK113.out 2) | ((with_reducible refine gate_callee (f := 96) rfl ?_); refine goesL_ (some 8) rfl rfl Try.func96 (by kernel_rfl) rfl #[.agg #[.int .i64 a0_0, .slice A0_1 l0_1.length c0_1, .slice A0_2 l0_2.length c0_2]] rfl mA ?_; (with_reducible refine (interp_Check.calls k a0_0 _ _ l0_1 _ _ l0_2 t114 _ ?side1 ?side2 ?side3 ?side4 A3.out).mono ?_); (case side1 => exact cA (Kd.C_below HR0_1.out HB.out)); (case side2 => exact HC0_1.out); (case side3 => exact cA (Kd.C_below HR0_2.out HB.out)); (case side4 => exact HC0_2.out); rintro e w13 ⟨rfl, hb⟩; refine ⟨_, rfl, ?_⟩; have n0_ := Aside0.mk (blk_below (g := gb113) (o := .cells #[.int .i64 a0_0, .slice A0_1 l0_1.length c0_1, .slice A0_2 l0_2.length c0_2] 86 (0, 0)) (kA BK113.out) hb); have n1_ := Aside0.mk (below_step (bG HB.out) hb); clear BK113; clear HB; have BK113 := n0_; have HB := n1_; clear n0_ n1_; (try clear hb); (try clear hb2); (try clear hk); (try clear hi)))
  (go_ret2);(exact ⟨by first | rfl | (simp [errW_none, errW_some] <;> rfl) | (simp [*, errW_none, errW_some] <;> rfl), bG HB.out⟩)
 (rw [if_pos c4] at H);(have c4b0 : (t114 == 0) = true := beq_iff_eq.mpr c4);(have c4b1 : (t114 != 0) = false := bne_eq_false_iff_eq.mpr c4);(clear c4);(replace H := Option.bind_eq_some_iff.mp H);(obtain ⟨⟨t115, t116⟩, A50, H⟩ := H);(have A5 := Aside0.mk A50);(clear A50);(simp only [Option.some.injEq, Prod.mk.injEq] at H);(obtain ⟨rfl, rfl⟩ := H);(go_enter Try.func77, Try.ntmps77)
 go_wp2_with (first | ((with_reducible refine gate_dst (N := 2) rfl ?_); refine box_event ?hg (N := 2) ?hd (cs := #[.int .i64 a0_0, .slice A0_1 l0_1.length c0_1, .slice A0_2 l0_2.length c0_2]) (t := 86) ?hr ?_; (case hd => rfl); (case hg => rfl); (case hr => first | (go_simp; done) | (go_simp; rfl)); intro gb113 hg w6 hbox hb; have n0_ := Aside0.mk (below_step (bA HB.out) hb); have n1_ := Aside0.mk (hbox); have n2_ := Aside0.mk ((by rw [hg]; exact (below_size (bA HB.out)) : w.heap.size ≤ gb113)); have n3_ := Aside0.mk ((by rw [hg]; exact (below_size (bA HB.out)) : w.heap.size ≤ gb113)); clear HB; have HB := n0_; have BK113 := n1_; have GW113 := n2_; have GE113 := n3_; clear n0_ n1_ n2_ n3_; clear hb hbox hg; have hcz7_0 : w6.cell? ⟨gb113, 0, none⟩ = some (.int .i64 a0_0) := (blk_cell BK113.out 0).trans rfl; have hcz7_1 : w6.cell? ⟨gb113, 1, none⟩ = some (.slice A0_1 l0_1.length c0_1) := (blk_cell BK113.out 1).trans rfl; have hcz7_2 : w6.cell? ⟨gb113, 2, none⟩ = some (.slice A0_2 l0_2.length c0_2) := (blk_cell BK113.out 2).trans rfl; have hfz7_0 := blk_frozen BK113.out 0; have hfz7_1 := blk_frozen BK113.out 1; have hfz7_2 := blk_frozen BK113.out 2) | ((with_reducible refine gate_callee (f := 96) rfl ?_); refine goesL_ (some 8) rfl rfl Try.func96 (by kernel_rfl) rfl #[.agg #[.int .i64 a0_0, .slice A0_1 l0_1.length c0_1, .slice A0_2 l0_2.length c0_2]] rfl mA ?_; (with_reducible refine (interp_Check.calls k a0_0 _ _ l0_1 _ _ l0_2 t114 _ ?side1 ?side2 ?side3 ?side4 A3.out).mono ?_); (case side1 => exact cA (Kd.C_below HR0_1.out HB.out)); (case side2 => exact HC0_1.out); (case side3 => exact cA (Kd.C_below HR0_2.out HB.out)); (case side4 => exact HC0_2.out); rintro e w8 ⟨rfl, hb⟩; refine ⟨_, rfl, ?_⟩; have n0_ := Aside0.mk (blk_below (g := gb113) (o := .cells #[.int .i64 a0_0, .slice A0_1 l0_1.length c0_1, .slice A0_2 l0_2.length c0_2] 86 (0, 0)) (kA BK113.out) hb); have n1_ := Aside0.mk (below_step (bG HB.out) hb); clear BK113; clear HB; have BK113 := n0_; have HB := n1_; clear n0_ n1_; (try clear hb); (try clear hb2); (try clear hk); (try clear hi); have hcz9_0 : w8.cell? ⟨gb113, 0, none⟩ = some (.int .i64 a0_0) := (blk_cell BK113.out 0).trans rfl; have hcz9_1 : w8.cell? ⟨gb113, 1, none⟩ = some (.slice A0_1 l0_1.length c0_1) := (blk_cell BK113.out 1).trans rfl; have hcz9_2 : w8.cell? ⟨gb113, 2, none⟩ = some (.slice A0_2 l0_2.length c0_2) := (blk_cell BK113.out 2).trans rfl; have hfz9_0 := blk_frozen BK113.out 0; have hfz9_1 := blk_frozen BK113.out 1; have hfz9_2 := blk_frozen BK113.out 2) | ((with_reducible refine gate_callee (f := 97) rfl ?_); refine goesL_ (some 14) rfl rfl Try.func97 (by kernel_rfl) rfl #[.agg #[.int .i64 a0_0, .slice A0_1 l0_1.length c0_1, .slice A0_2 l0_2.length c0_2], .int .i64 a1] rfl mA ?_; (with_reducible refine (interp_find.calls a0_0 _ _ l0_1 _ _ l0_2 a1 t115 t116 _ ?side1 ?side2 ?side3 ?side4 A5.out).mono ?_); (case side1 => exact cA (Kd.C_below HR0_1.out HB.out)); (case side2 => exact HC0_1.out); (case side3 => exact cA (Kd.C_below HR0_2.out HB.out)); (case side4 => exact HC0_2.out); rintro e w10 ⟨rfl, hb⟩; refine ⟨_, rfl, ?_⟩; have n0_ := Aside0.mk (blk_below (g := gb113) (o := .cells #[.int .i64 a0_0, .slice A0_1 l0_1.length c0_1, .slice A0_2 l0_2.length c0_2] 86 (0, 0)) (kA BK113.out) hb); have n1_ := Aside0.mk (below_step (bG HB.out) hb); clear BK113; clear HB; have BK113 := n0_; have HB := n1_; clear n0_ n1_; (try clear hb); (try clear hb2); (try clear hk); (try clear hi)))
 (go_ret2);(exact ⟨by first | rfl | (simp [errW_none, errW_some] <;> rfl) | (simp [*, errW_none, errW_some] <;> rfl), bG HB.out⟩)

end Go.Proofs.Ythkcphdhmkcdkaa.FP
