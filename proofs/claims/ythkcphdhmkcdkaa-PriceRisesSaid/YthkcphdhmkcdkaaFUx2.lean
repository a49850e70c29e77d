/- Written by the session's fprint.py out of the translation. -/
import Derived.Test.YthkcphdhmkcdkaaFUx1
namespace Go.Proofs.Ythkcphdhmkcdkaa.FU
noncomputable section
open Go.RowKit Go.Proofs.YthkcphdhmkcdkaaW.PrintWords Go.Proofs.YthkcphdhmkcdkaaW.PrintLast Go.Proofs.YthkcphdhmkcdkaaW.PrintMore
attribute [local go_sem] max2_int min2_int max_two min_two max_three min_three max_four min_four   -- for this text's walks alone
open Go.Proofs.Ythkcphdhmkcdkaa.FX Go.Proofs.Ythkcphdhmkcdkaa.FB Go.Proofs.Ythkcphdhmkcdkaa.FP Go.Proofs.Ythkcphdhmkcdkaa.FQ
attribute [local go_sem] run_store_float run_neg_float run_fmul run_fadd run_fsub run_fdiv run_ftoi isSome_setCell 
set_option linter.unusedVariables false
set_option linter.unusedSimpArgs false

/-! ### tenorlaw15_PriceRises: function 5 -/
mutual
def tenorlaw15_PriceRises.j0 : Nat → List (S51) → Int → Bool → Int → Int → List Int → List Nat → Int → Int → List Int → List Nat → Option (Bool)
  | 0, _, _, _, _, _, _, _, _, _, _, _ => none
  | k + 1, x0, x1, x28, x103000, x103001, x103002, x103003, x104000, x104001, x104002, x104003 => if x28 = true then ((law15_awakeX.f).bind fun t106 => (some t106)) else ((price_Present.f x0 x1 x103000 x103001 x103002 x103003).bind fun bt107 => ((price_Present.f x0 x1 x104000 x104001 x104002 x104003).bind fun bt109 => (if bt107.2 = 0 then (if bt109.2 = 0 then (tenorlaw15_PriceRises.j1 k x0 x1 bt107.1 bt109.1 (x103000 != x104000) x103000 x103001 x103002 x103003 x104000 x104001 x104002 x104003) else (tenorlaw15_PriceRises.j1 k x0 x1 bt107.1 bt109.1 true x103000 x103001 x103002 x103003 x104000 x104001 x104002 x104003)) else (tenorlaw15_PriceRises.j1 k x0 x1 bt107.1 bt109.1 true x103000 x103001 x103002 x103003 x104000 x104001 x104002 x104003))))
def tenorlaw15_PriceRises.j1 : Nat → List (S51) → Int → Nat → Nat → Bool → Int → Int → List Int → List Nat → Int → Int → List Int → List Nat → Option (Bool)
  | 0, _, _, _, _, _, _, _, _, _, _, _, _, _ => none
  | k + 1, x0, x1, x9, x11, x56, x103000, x103001, x103002, x103003, x104000, x104001, x104002, x104003 => if x56 = true then ((law15_awakeX.f).bind fun t111 => (some t111)) else (tenorlaw15_PriceRises.l0 k x0 x1 x9 x11 true 0 x103000 x103001 x103002 x103003 x104000 x104001 x104002 x104003)
def tenorlaw15_PriceRises.l0 : Nat → List (S51) → Int → Nat → Nat → Bool → Int → Int → Int → List Int → List Nat → Int → Int → List Int → List Nat → Option (Bool)
  | 0, _, _, _, _, _, _, _, _, _, _, _, _, _, _ => none
  | k + 1, x0, x1, x9, x11, x13, x14, x103000, x103001, x103002, x103003, x104000, x104001, x104002, x104003 => if x14 < (x0.length : Int) then (if 0 ≤ x14 then (if (FloatKind.f64.format.order ((rd_T51 x0 x14).f1) (0 : Nat) == some .lt) = true then ((law15_awakeX.f).bind fun t115 => (some t115)) else (if ((rd_T51 x0 x14).f2) = x1 then (tenorlaw15_PriceRises.j3 k x0 x1 x9 x11 x13 x14 (decide (((rd_T51 x0 x14).f0) ≥ x103000)) x103000 x103001 x103002 x103003 x104000 x104001 x104002 x104003) else (tenorlaw15_PriceRises.j3 k x0 x1 x9 x11 x13 x14 false x103000 x103001 x103002 x103003 x104000 x104001 x104002 x104003))) else (none)) else (if (FloatKind.f64.format.order x9 (0 : Nat) == some .gt || FloatKind.f64.format.order x9 (0 : Nat) == some .eq) = true then (if (FloatKind.f64.format.order x11 (0 : Nat) == some .gt || FloatKind.f64.format.order x11 (0 : Nat) == some .eq) = true then (if x13 = true then (if (FloatKind.f64.format.order x9 x11 == some .lt || FloatKind.f64.format.order x9 x11 == some .eq) = true then ((law15_awakeX.f).bind fun t112 => (some t112)) else (some false)) else ((law15_awakeX.f).bind fun t113 => (some t113))) else (some false)) else (some false))
def tenorlaw15_PriceRises.j3 : Nat → List (S51) → Int → Nat → Nat → Bool → Int → Bool → Int → Int → List Int → List Nat → Int → Int → List Int → List Nat → Option (Bool)
  | 0, _, _, _, _, _, _, _, _, _, _, _, _, _, _, _ => none
  | k + 1, x0, x1, x9, x11, x13, x14, x87, x103000, x103001, x103002, x103003, x104000, x104001, x104002, x104003 => if x87 = true then (if 0 ≤ x14 then (if x14 < (x0.length : Int) then ((curve_Factor.f k x103000 x103001 x103002 x103003 ((rd_T51 x0 x14).f0)).bind fun bt119 => ((curve_Factor.f k x104000 x104001 x104002 x104003 ((rd_T51 x0 x14).f0)).bind fun bt122 => (if bt119.2 = 0 then (if bt122.2 = 0 then (if x13 = true then (tenorlaw15_PriceRises.l0 k x0 x1 x9 x11 (FloatKind.f64.format.order bt119.1 bt122.1 == some .lt || FloatKind.f64.format.order bt119.1 bt122.1 == some .eq) (wrap64 (x14 + 1)) x103000 x103001 x103002 x103003 x104000 x104001 x104002 x104003) else (tenorlaw15_PriceRises.l0 k x0 x1 x9 x11 false (wrap64 (x14 + 1)) x103000 x103001 x103002 x103003 x104000 x104001 x104002 x104003)) else (some false)) else (some false)))) else (none)) else (none)) else (tenorlaw15_PriceRises.l0 k x0 x1 x9 x11 x13 (wrap64 (x14 + 1)) x103000 x103001 x103002 x103003 x104000 x104001 x104002 x104003)
end
def tenorlaw15_PriceRises.f (k : Nat) (l0 : List (S51)) (a1 : Int) (a2_0 : Int) (a2_1 : Int) (l2_2 : List Int) (l2_3 : List Nat) (a3_0 : Int) (a3_1 : Int) (l3_2 : List Int) (l3_3 : List Nat) : Option (Bool) := (tenorlaw15_small.f l0 a2_0 a2_1 l2_2 l2_3).bind fun t104 => (if t104 = true then ((tenorlaw15_small.f l0 a3_0 a3_1 l3_2 l3_3).bind fun t105 => (tenorlaw15_PriceRises.j0 k l0 a1 (!t105) a2_0 a2_1 l2_2 l2_3 a3_0 a3_1 l3_2 l3_3)) else (tenorlaw15_PriceRises.j0 k l0 a1 true a2_0 a2_1 l2_2 l2_3 a3_0 a3_1 l3_2 l3_3))
def tenorlaw15_PriceRises.T13 : Bool × List (List Nat × List Nat) := (true, [([], []), ([], []), ([0, 1], [0, 1]), ([2], [2]), ([3], [3]), ([], []), ([4, 5], [4, 5]), ([6], [6]), ([7], [7]), ([7], [7]), ([8, 9, 7], [7, 8, 9]), ([10, 7], [7, 10]), ([11, 7], [7, 11]), ([7], [7]), ([13, 7], [7, 13]), ([12, 14, 7], [7, 12, 14]), ([7, 15], [7, 15])])
def tenorlaw15_PriceRises.B13 : List Nat := [0, 0, 3, 7, 15, 0, 63, 127, 255, 255, 1023, 2047, 4095, 255, 8447, 32767, 65535]
theorem tenorlaw15_PriceRises.tab13 : rtab .any (opsOf Try.f5 13) = tenorlaw15_PriceRises.T13 := by kernel_rfl
theorem tenorlaw15_PriceRises.bits13 : waitsOk tenorlaw15_PriceRises.T13.2 tenorlaw15_PriceRises.B13 = true := by kernel_rfl
def tenorlaw15_PriceRises.T14 : Bool × List (List Nat × List Nat) := (true, [([], []), ([], []), ([], []), ([1, 2], [1, 2]), ([3], [3]), ([4], [4]), ([0, 5], [0, 5]), ([6], [6]), ([7], [7]), ([7], [7]), ([8, 6, 0, 1, 2, 3, 4, 5, 6, 7, 8], [8]), ([9, 10, 0, 1, 2, 3, 4, 5, 6, 7, 8, 9, 10], [9])])
def tenorlaw15_PriceRises.B14 : List Nat := [0, 0, 0, 6, 14, 30, 63, 127, 255, 255, 511, 2047]
theorem tenorlaw15_PriceRises.tab14 : rtab .any (opsOf Try.f5 14) = tenorlaw15_PriceRises.T14 := by kernel_rfl
theorem tenorlaw15_PriceRises.bits14 : waitsOk tenorlaw15_PriceRises.T14.2 tenorlaw15_PriceRises.B14 = true := by kernel_rfl
def tenorlaw15_PriceRises.T15 : Bool × List (List Nat × List Nat) := (true, [([], []), ([], []), ([], []), ([1, 2], [1, 2]), ([3], [3]), ([4], [4]), ([0, 5], [0, 5]), ([6], [6]), ([7], [7]), ([7], [7]), ([8, 6, 0, 1, 2, 3, 4, 5, 6, 7, 8], [8]), ([9, 10, 0, 1, 2, 3, 4, 5, 6, 7, 8, 9, 10], [9])])
def tenorlaw15_PriceRises.B15 : List Nat := [0, 0, 0, 6, 14, 30, 63, 127, 255, 255, 511, 2047]
theorem tenorlaw15_PriceRises.tab15 : rtab .any (opsOf Try.f5 15) = tenorlaw15_PriceRises.T15 := by kernel_rfl
theorem tenorlaw15_PriceRises.bits15 : waitsOk tenorlaw15_PriceRises.T15.2 tenorlaw15_PriceRises.B15 = true := by kernel_rfl
set_option maxHeartbeats 8000000 in
set_option maxRecDepth 100000 in
theorem tenorlaw15_PriceRises.calls (k : Nat) (A0 : Option Addr) (c0 : Nat) (l0 : List (S51)) (a1 : Int) (a2_0 : Int) (a2_1 : Int) (A2_2 : Option Addr) (c2_2 : Nat) (l2_2 : List Int) (A2_3 : Option Addr) (c2_3 : Nat) (l2_3 : List Nat) (a3_0 : Int) (a3_1 : Int) (A3_2 : Option Addr) (c3_2 : Nat) (l3_2 : List Int) (A3_3 : Option Addr) (c3_3 : Nat) (l3_3 : List Nat) (r : Bool) (w : World) (hr0 : Kd.C k51 w A0 l0.length l0) (hc0 : l0.length ≤ c0) (hr2_2 : Kd.C (Kd.int .i64) w A2_2 l2_2.length l2_2) (hc2_2 : l2_2.length ≤ c2_2) (hr2_3 : Kd.C Kd.flt w A2_3 l2_3.length l2_3) (hc2_3 : l2_3.length ≤ c2_3) (hr3_2 : Kd.C (Kd.int .i64) w A3_2 l3_2.length l3_2) (hc3_2 : l3_2.length ≤ c3_2) (hr3_3 : Kd.C Kd.flt w A3_3 l3_3.length l3_3) (hc3_3 : l3_3.length ≤ c3_3) (h : tenorlaw15_PriceRises.f k l0 a1 a2_0 a2_1 l2_2 l2_3 a3_0 a3_1 l3_2 l3_3 = some r) :
    Calls Try.prog 5 #[.slice A0 l0.length c0, .int .i64 a1, .agg #[.int .i64 a2_0, .int .i64 a2_1, .slice A2_2 l2_2.length c2_2, .slice A2_3 l2_3.length c2_3], .agg #[.int .i64 a3_0, .int .i64 a3_1, .slice A3_2 l3_2.length c3_2, .slice A3_3 l3_3.length c3_3]] w fun e w' => e = .returned (.bool r) ∧ Below w.heap.size w w' := by
  have hu26 := Try.underlying26
  have HR0 := Aside0.mk hr0
  have HC0 := Aside0.mk hc0
  clear hr0 hc0
  have HR2_2 := Aside0.mk hr2_2
  have HC2_2 := Aside0.mk hc2_2
  clear hr2_2 hc2_2
  have HR2_3 := Aside0.mk hr2_3
  have HC2_3 := Aside0.mk hc2_3
  clear hr2_3 hc2_3
  have HR3_2 := Aside0.mk hr3_2
  have HC3_2 := Aside0.mk hc3_2
  clear hr3_2 hc3_2
  have HR3_3 := Aside0.mk hr3_3
  have HC3_3 := Aside0.mk hc3_3
  clear hr3_3 hc3_3
  have HB := Aside0.mk (Below.refl w.heap.size w)
  have H : ((tenorlaw15_small.f l0 a2_0 a2_1 l2_2 l2_3).bind fun t104 => (if t104 = true then ((tenorlaw15_small.f l0 a3_0 a3_1 l3_2 l3_3).bind fun t105 => (tenorlaw15_PriceRises.j0 k l0 a1 (!t105) a2_0 a2_1 l2_2 l2_3 a3_0 a3_1 l3_2 l3_3)) else (tenorlaw15_PriceRises.j0 k l0 a1 true a2_0 a2_1 l2_2 l2_3 a3_0 a3_1 l3_2 l3_3))) = some r := h
  clear h
  have HC5 := Aside0.mk H
  clear H
  go_enter Try.func5, Try.ntmps5
  go_upto_region 1 with (first | ((with_reducible refine gate_dst (N := 6) rfl ?_); refine box_event ?hg (N := 6) ?hd (cs := #[.int .i64 a2_0, .int .i64 a2_1, .slice A2_2 l2_2.length c2_2, .slice A2_3 l2_3.length c2_3]) (t := 26) ?hr ?_; (case hd => rfl); (case hg => rfl); (case hr => first | (go_simp; done) | (go_simp; rfl)); intro gb102 hg w6 hbox hb; have n0_ := Aside0.mk (below_step (bA HB.out) hb); have n1_ := Aside0.mk (hbox); have n2_ := Aside0.mk ((by rw [hg]; exact (below_size (bA HB.out)) : w.heap.size ≤ gb102)); have n3_ := Aside0.mk ((by rw [hg]; exact (below_size (bA HB.out)) : w.heap.size ≤ gb102)); clear HB; have HB := n0_; have BK102 := n1_; have GW102 := n2_; have GE102 := n3_; clear n0_ n1_ n2_ n3_; clear hb hbox hg) | ((with_reducible refine gate_dst (N := 7) rfl ?_); refine box_event ?hg (N := 7) ?hd (cs := #[.int .i64 a3_0, .int .i64 a3_1, .slice A3_2 l3_2.length c3_2, .slice A3_3 l3_3.length c3_3]) (t := 26) ?hr ?_; (case hd => rfl); (case hg => rfl); (case hr => first | (go_simp; done) | (go_simp; rfl)); intro gb103 hg w7 hbox hb; have n0_ := Aside0.mk (blk_below (g := gb102) (o := .cells #[.int .i64 a2_0, .int .i64 a2_1, .slice A2_2 l2_2.length c2_2, .slice A2_3 l2_3.length c2_3] 26 (0, 0)) (kA BK102.out) hb); have n1_ := Aside0.mk (below_step (bG HB.out) hb); have n2_ := Aside0.mk (hbox); have n3_ := Aside0.mk ((by rw [hg]; exact (below_size (bG HB.out)) : w.heap.size ≤ gb103)); have n4_ := Aside0.mk ((by rw [hg]; exact (below_size (bG HB.out)) : w.heap.size ≤ gb103)); have n5_ := Aside0.mk ((by rw [hg]; exact Nat.ne_of_lt (blk_lt (g := gb102) (o := .cells #[.int .i64 a2_0, .int .i64 a2_1, .slice A2_2 l2_2.length c2_2, .slice A2_3 l2_3.length c2_3] 26 (0, 0)) (kA BK102.out)) : gb102 ≠ gb103)); have n6_ := Aside0.mk ((by rw [hg]; exact Nat.ne_of_gt (blk_lt (g := gb102) (o := .cells #[.int .i64 a2_0, .int .i64 a2_1, .slice A2_2 l2_2.length c2_2, .slice A2_3 l2_3.length c2_3] 26 (0, 0)) (kA BK102.out)) : gb103 ≠ gb102)); clear BK102; clear HB; have BK102 := n0_; have HB := n1_; have BK103 := n2_; have GW103 := n3_; have GE103 := n4_; have NB102_103 := n5_; have NB103_102 := n6_; clear n0_ n1_ n2_ n3_ n4_ n5_ n6_; clear hb hbox hg))
  (try simp only [Act.put, List.setIfInBounds_toArray, List.set_cons_zero, List.set_cons_succ])
  go_cut [28] (fun v28 wc => ∃ (kq : Nat) (x28_4 : Bool), v28 = .bool x28_4 ∧ Aside0 (tenorlaw15_PriceRises.j0 kq l0 a1 x28_4 a2_0 a2_1 l2_2 l2_3 a3_0 a3_1 l3_2 l3_3 = some r) ∧ Aside0 (kq ≤ k) ∧ Aside0 (wc.heap[gb102]? = some (.cells #[.int .i64 a2_0, .int .i64 a2_1, (.slice A2_2 l2_2.length c2_2), (.slice A2_3 l2_3.length c2_3)] 26 (0, 0))) ∧ Aside0 (wc.heap[gb103]? = some (.cells #[.int .i64 a3_0, .int .i64 a3_1, (.slice A3_2 l3_2.length c3_2), (.slice A3_3 l3_3.length c3_3)] 26 (0, 0))) ∧ Aside0 (Below w.heap.size w wc))
  case first =>
    have H := HC5.out
    clear HC5
    replace H := Option.bind_eq_some_iff.mp H
    obtain ⟨t104, A80, H⟩ := H
    have A8 := Aside0.mk A80
    clear A80
    by_cases c9 : t104 = true
    rotate_left
    · replace c9 := Bool.eq_false_iff.mpr c9
      subst c9
      have H1 : (tenorlaw15_PriceRises.j0 k l0 a1 true a2_0 a2_1 l2_2 l2_3 a3_0 a3_1 l3_2 l3_3) = some r := by rw [if_neg (show ¬ (false = true) by decide)] at H; exact H
      clear H
      have H := H1
      clear H1
      have H' := Aside0.mk H
      clear H
      have hnb16 := NB102_103.out
      have hnc16 := NB103_102.out
      have hcz17_0 : w7.cell? ⟨gb102, 0, none⟩ = some (.int .i64 a2_0) := (blk_cell BK102.out 0).trans rfl
      have hcz17_1 : w7.cell? ⟨gb102, 1, none⟩ = some (.int .i64 a2_1) := (blk_cell BK102.out 1).trans rfl
      have hcz17_2 : w7.cell? ⟨gb102, 2, none⟩ = some (.slice A2_2 l2_2.length c2_2) := (blk_cell BK102.out 2).trans rfl
      have hcz17_3 : w7.cell? ⟨gb102, 3, none⟩ = some (.slice A2_3 l2_3.length c2_3) := (blk_cell BK102.out 3).trans rfl
      have hfz17_0 := blk_frozen BK102.out 0
      have hfz17_1 := blk_frozen BK102.out 1
      have hfz17_2 := blk_frozen BK102.out 2
      have hfz17_3 := blk_frozen BK102.out 3
      go_wp2_with (first | ((with_reducible refine gate_callee (f := 11) rfl ?_); refine goesL_ (some 21) rfl rfl Try.func11 (by kernel_rfl) rfl #[.slice A0 l0.length c0, .agg #[.int .i64 a2_0, .int .i64 a2_1, .slice A2_2 l2_2.length c2_2, .slice A2_3 l2_3.length c2_3]] rfl mA ?_; (with_reducible refine (tenorlaw15_small.calls _ _ l0 a2_0 a2_1 _ _ l2_2 _ _ l2_3 false _ ?side1 ?side2 ?side3 ?side4 ?side5 ?side6 A8.out).mono ?_); (case side1 => exact cA (Kd.C_below HR0.out HB.out)); (case side2 => exact HC0.out); (case side3 => exact cA (Kd.C_below HR2_2.out HB.out)); (case side4 => exact HC2_2.out); (case side5 => exact cA (Kd.C_below HR2_3.out HB.out)); (case side6 => exact HC2_3.out); rintro e w18 ⟨rfl, hb⟩; refine ⟨_, rfl, ?_⟩; have n0_ := Aside0.mk (blk_below (g := gb102) (o := .cells #[.int .i64 a2_0, .int .i64 a2_1, .slice A2_2 l2_2.length c2_2, .slice A2_3 l2_3.length c2_3] 26 (0, 0)) (kA BK102.out) hb); have n1_ := Aside0.mk (blk_below (g := gb103) (o := .cells #[.int .i64 a3_0, .int .i64 a3_1, .slice A3_2 l3_2.length c3_2, .slice A3_3 l3_3.length c3_3] 26 (0, 0)) (kA BK103.out) hb); have n2_ := Aside0.mk (below_step (bG HB.out) hb); clear BK102; clear BK103; clear HB; have BK102 := n0_; have BK103 := n1_; have HB := n2_; clear n0_ n1_ n2_; (try clear hb); (try clear hb2); (try clear hk); (try clear hi)))
      go_meet
      case rel => exact ⟨_, (true), (by first | rfl | (simp; done) | (simp [*]; done)), H', ⟨by first | omega | exact Nat.le_refl _⟩, ⟨kA BK102.out⟩, ⟨kA BK103.out⟩, ⟨bG HB.out⟩⟩
    subst c9
    have H1 : ((tenorlaw15_small.f l0 a3_0 a3_1 l3_2 l3_3).bind fun t105 => (tenorlaw15_PriceRises.j0 k l0 a1 (!t105) a2_0 a2_1 l2_2 l2_3 a3_0 a3_1 l3_2 l3_3)) = some r := by rw [if_pos rfl] at H; exact H
    clear H
    have H := H1
    clear H1
    replace H := Option.bind_eq_some_iff.mp H
    obtain ⟨t105, A100, H⟩ := H
    have A10 := Aside0.mk A100
    clear A100
    have H' := Aside0.mk H
    clear H
    have hnb11 := NB102_103.out
    have hnc11 := NB103_102.out
    have hcz12_0 : w7.cell? ⟨gb102, 0, none⟩ = some (.int .i64 a2_0) := (blk_cell BK102.out 0).trans rfl
    have hcz12_1 : w7.cell? ⟨gb102, 1, none⟩ = some (.int .i64 a2_1) := (blk_cell BK102.out 1).trans rfl
    have hcz12_2 : w7.cell? ⟨gb102, 2, none⟩ = some (.slice A2_2 l2_2.length c2_2) := (blk_cell BK102.out 2).trans rfl
    have hcz12_3 : w7.cell? ⟨gb102, 3, none⟩ = some (.slice A2_3 l2_3.length c2_3) := (blk_cell BK102.out 3).trans rfl
    have hfz12_0 := blk_frozen BK102.out 0
    have hfz12_1 := blk_frozen BK102.out 1
    have hfz12_2 := blk_frozen BK102.out 2
    have hfz12_3 := blk_frozen BK102.out 3
    go_wp2_with (first | ((with_reducible refine gate_callee (f := 11) rfl ?_); refine goesL_ (some 21) rfl rfl Try.func11 (by kernel_rfl) rfl #[.slice A0 l0.length c0, .agg #[.int .i64 a2_0, .int .i64 a2_1, .slice A2_2 l2_2.length c2_2, .slice A2_3 l2_3.length c2_3]] rfl mA ?_; (with_reducible refine (tenorlaw15_small.calls _ _ l0 a2_0 a2_1 _ _ l2_2 _ _ l2_3 true _ ?side1 ?side2 ?side3 ?side4 ?side5 ?side6 A8.out).mono ?_); (case side1 => exact cA (Kd.C_below HR0.out HB.out)); (case side2 => exact HC0.out); (case side3 => exact cA (Kd.C_below HR2_2.out HB.out)); (case side4 => exact HC2_2.out); (case side5 => exact cA (Kd.C_below HR2_3.out HB.out)); (case side6 => exact HC2_3.out); rintro e w13 ⟨rfl, hb⟩; refine ⟨_, rfl, ?_⟩; have n0_ := Aside0.mk (blk_below (g := gb102) (o := .cells #[.int .i64 a2_0, .int .i64 a2_1, .slice A2_2 l2_2.length c2_2, .slice A2_3 l2_3.length c2_3] 26 (0, 0)) (kA BK102.out) hb); have n1_ := Aside0.mk (blk_below (g := gb103) (o := .cells #[.int .i64 a3_0, .int .i64 a3_1, .slice A3_2 l3_2.length c3_2, .slice A3_3 l3_3.length c3_3] 26 (0, 0)) (kA BK103.out) hb); have n2_ := Aside0.mk (below_step (bG HB.out) hb); clear BK102; clear BK103; clear HB; have BK102 := n0_; have BK103 := n1_; have HB := n2_; clear n0_ n1_ n2_; (try clear hb); (try clear hb2); (try clear hk); (try clear hi); have hcz14_0 : w13.cell? ⟨gb103, 0, none⟩ = some (.int .i64 a3_0) := (blk_cell BK103.out 0).trans rfl; have hcz14_1 : w13.cell? ⟨gb103, 1, none⟩ = some (.int .i64 a3_1) := (blk_cell BK103.out 1).trans rfl; have hcz14_2 : w13.cell? ⟨gb103, 2, none⟩ = some (.slice A3_2 l3_2.length c3_2) := (blk_cell BK103.out 2).trans rfl; have hcz14_3 : w13.cell? ⟨gb103, 3, none⟩ = some (.slice A3_3 l3_3.length c3_3) := (blk_cell BK103.out 3).trans rfl; have hfz14_0 := blk_frozen BK103.out 0; have hfz14_1 := blk_frozen BK103.out 1; have hfz14_2 := blk_frozen BK103.out 2; have hfz14_3 := blk_frozen BK103.out 3) | (go_at_call 11; (with_reducible refine (tenorlaw15_small.calls _ _ l0 a3_0 a3_1 _ _ l3_2 _ _ l3_3 t105 _ ?side1 ?side2 ?side3 ?side4 ?side5 ?side6 A10.out).mono ?_); (case side1 => exact cA (Kd.C_below HR0.out HB.out)); (case side2 => exact HC0.out); (case side3 => exact cA (Kd.C_below HR3_2.out HB.out)); (case side4 => exact HC3_2.out); (case side5 => exact cA (Kd.C_below HR3_3.out HB.out)); (case side6 => exact HC3_3.out); rintro e w15 ⟨rfl, hb⟩; have n0_ := Aside0.mk (blk_below (g := gb102) (o := .cells #[.int .i64 a2_0, .int .i64 a2_1, .slice A2_2 l2_2.length c2_2, .slice A2_3 l2_3.length c2_3] 26 (0, 0)) (kA BK102.out) hb); have n1_ := Aside0.mk (blk_below (g := gb103) (o := .cells #[.int .i64 a3_0, .int .i64 a3_1, .slice A3_2 l3_2.length c3_2, .slice A3_3 l3_3.length c3_3] 26 (0, 0)) (kA BK103.out) hb); have n2_ := Aside0.mk (below_step (bG HB.out) hb); clear BK102; clear BK103; clear HB; have BK102 := n0_; have BK103 := n1_; have HB := n2_; clear n0_ n1_ n2_; (try clear hb); (try clear hb2); (try clear hk); (try clear hi)))
    go_meet
    case rel => exact ⟨_, (!t105), (by first | rfl | (simp; done) | (simp [*]; done)), H', ⟨by first | omega | exact Nat.le_refl _⟩, ⟨kA BK102.out⟩, ⟨kA BK103.out⟩, ⟨bG HB.out⟩⟩
  case rest =>
    clear HC5
    try clear c1
    try clear c2
    try clear p2
    try clear c3
    try clear c5
    try clear c9
    try clear c11
    try clear c16
    try clear hcz12_0
    try clear hcz12_1
    try clear hcz12_2
    try clear hcz12_3
    try clear hcz14_0
    try clear hcz14_1
    try clear hcz14_2
    try clear hcz14_3
    try clear hcz17_0
    try clear hcz17_1
    try clear hcz17_2
    try clear hcz17_3
    try clear hfz12_0
    try clear hfz12_1
    try clear hfz12_2
    try clear hfz12_3
    try clear hfz14_0
    try clear hfz14_1
    try clear hfz14_2
    try clear hfz14_3
    try clear hfz17_0
    try clear hfz17_1
    try clear hfz17_2
    try clear hfz17_3
    obtain ⟨kq, x28_4, rfl, HA, HJ4, BK102, BK103, HB⟩ := hcut
    cases kq with
    | zero => exact absurd HA.out (by simp [tenorlaw15_PriceRises.j0])
    | succ kj4 =>
      have H := HA.out
      clear HA
      simp only [tenorlaw15_PriceRises.j0] at H
      by_cases c19 : x28_4 = true
      · subst c19
        have H1 : ((law15_awakeX.f).bind fun t106 => (some t106)) = some r := by rw [if_pos rfl] at H; exact H
        clear H
        have H := H1
        clear H1
        replace H := Option.bind_eq_some_iff.mp H
        obtain ⟨t106, A200, H⟩ := H
        have A20 := Aside0.mk A200
        clear A200
        obtain rfl := Option.some.inj H
        go_wp2_with (first | ((with_reducible refine gate_callee (f := 12) rfl ?_); refine goesL_ (some 29) rfl rfl Try.func12 (by kernel_rfl) rfl #[] rfl mA ?_; (with_reducible refine (law15_awakeX.calls  t106 _ A20.out).mono ?_); rintro e w21 ⟨rfl, hb⟩; refine ⟨_, rfl, ?_⟩; have n0_ := Aside0.mk (blk_below (g := gb102) (o := .cells #[.int .i64 a2_0, .int .i64 a2_1, .slice A2_2 l2_2.length c2_2, .slice A2_3 l2_3.length c2_3] 26 (0, 0)) (kA BK102.out) hb); have n1_ := Aside0.mk (blk_below (g := gb103) (o := .cells #[.int .i64 a3_0, .int .i64 a3_1, .slice A3_2 l3_2.length c3_2, .slice A3_3 l3_3.length c3_3] 26 (0, 0)) (kA BK103.out) hb); have n2_ := Aside0.mk (below_step (bG HB.out) hb); clear BK102; clear BK103; clear HB; have BK102 := n0_; have BK103 := n1_; have HB := n2_; clear n0_ n1_ n2_; (try clear hb); (try clear hb2); (try clear hk); (try clear hi)))
        go_ret
        exact ⟨by first | rfl | (simp [errW_none, errW_some] <;> rfl) | (simp [*, errW_none, errW_some] <;> rfl), bG HB.out⟩
      replace c19 := Bool.eq_false_iff.mpr c19
      subst c19
      have H1 : ((price_Present.f l0 a1 a2_0 a2_1 l2_2 l2_3).bind fun bt107 => ((price_Present.f l0 a1 a3_0 a3_1 l3_2 l3_3).bind fun bt109 => (if bt107.2 = 0 then (if bt109.2 = 0 then (tenorlaw15_PriceRises.j1 kj4 l0 a1 bt107.1 bt109.1 (a2_0 != a3_0) a2_0 a2_1 l2_2 l2_3 a3_0 a3_1 l3_2 l3_3) else (tenorlaw15_PriceRises.j1 kj4 l0 a1 bt107.1 bt109.1 true a2_0 a2_1 l2_2 l2_3 a3_0 a3_1 l3_2 l3_3)) else (tenorlaw15_PriceRises.j1 kj4 l0 a1 bt107.1 bt109.1 true a2_0 a2_1 l2_2 l2_3 a3_0 a3_1 l3_2 l3_3)))) = some r := by rw [if_neg (show ¬ (false = true) by decide)] at H; exact H
      clear H
      have H := H1
      clear H1
      replace H := Option.bind_eq_some_iff.mp H
      obtain ⟨⟨t107, t108⟩, A220, H⟩ := H
      have A22 := Aside0.mk A220
      clear A220
      replace H := Option.bind_eq_some_iff.mp H
      obtain ⟨⟨t109, t110⟩, A230, H⟩ := H
      have A23 := Aside0.mk A230
      clear A230
      have HC24 := Aside0.mk H
      clear H
      have hnb25 := NB102_103.out
      have hnc25 := NB103_102.out
      have hcz26_0 : wc.cell? ⟨gb102, 0, none⟩ = some (.int .i64 a2_0) := (blk_cell BK102.out 0).trans rfl
      have hcz26_1 : wc.cell? ⟨gb102, 1, none⟩ = some (.int .i64 a2_1) := (blk_cell BK102.out 1).trans rfl
      have hcz26_2 : wc.cell? ⟨gb102, 2, none⟩ = some (.slice A2_2 l2_2.length c2_2) := (blk_cell BK102.out 2).trans rfl
      have hcz26_3 : wc.cell? ⟨gb102, 3, none⟩ = some (.slice A2_3 l2_3.length c2_3) := (blk_cell BK102.out 3).trans rfl
      have hfz26_0 := blk_frozen BK102.out 0
      have hfz26_1 := blk_frozen BK102.out 1
      have hfz26_2 := blk_frozen BK102.out 2
      have hfz26_3 := blk_frozen BK102.out 3
      go_upto_region 5 with (first | ((with_reducible refine gate_callee (f := 21) rfl ?_); refine goesL_ (some 34) rfl rfl Try.func21 (by kernel_rfl) rfl #[.slice A0 l0.length c0, .int .i64 a1, .agg #[.int .i64 a2_0, .int .i64 a2_1, .slice A2_2 l2_2.length c2_2, .slice A2_3 l2_3.length c2_3]] rfl mA ?_; (with_reducible refine (price_Present.calls _ _ l0 a1 a2_0 a2_1 _ _ l2_2 _ _ l2_3 t107 t108 _ ?side1 ?side2 ?side3 ?side4 ?side5 ?side6 A22.out).mono ?_); (case side1 => exact cA (Kd.C_below HR0.out HB.out)); (case side2 => exact HC0.out); (case side3 => exact cA (Kd.C_below HR2_2.out HB.out)); (case side4 => exact HC2_2.out); (case side5 => exact cA (Kd.C_below HR2_3.out HB.out)); (case side6 => exact HC2_3.out); rintro e w27 ⟨rfl, hb⟩; refine ⟨_, rfl, ?_⟩; have n0_ := Aside0.mk (blk_below (g := gb102) (o := .cells #[.int .i64 a2_0, .int .i64 a2_1, .slice A2_2 l2_2.length c2_2, .slice A2_3 l2_3.length c2_3] 26 (0, 0)) (kA BK102.out) hb); have n1_ := Aside0.mk (blk_below (g := gb103) (o := .cells #[.int .i64 a3_0, .int .i64 a3_1, .slice A3_2 l3_2.length c3_2, .slice A3_3 l3_3.length c3_3] 26 (0, 0)) (kA BK103.out) hb); have n2_ := Aside0.mk (below_step (bG HB.out) hb); clear BK102; clear BK103; clear HB; have BK102 := n0_; have BK103 := n1_; have HB := n2_; clear n0_ n1_ n2_; (try clear hb); (try clear hb2); (try clear hk); (try clear hi); have hcz28_0 : w27.cell? ⟨gb103, 0, none⟩ = some (.int .i64 a3_0) := (blk_cell BK103.out 0).trans rfl; have hcz28_1 : w27.cell? ⟨gb103, 1, none⟩ = some (.int .i64 a3_1) := (blk_cell BK103.out 1).trans rfl; have hcz28_2 : w27.cell? ⟨gb103, 2, none⟩ = some (.slice A3_2 l3_2.length c3_2) := (blk_cell BK103.out 2).trans rfl; have hcz28_3 : w27.cell? ⟨gb103, 3, none⟩ = some (.slice A3_3 l3_3.length c3_3) := (blk_cell BK103.out 3).trans rfl; have hfz28_0 := blk_frozen BK103.out 0; have hfz28_1 := blk_frozen BK103.out 1; have hfz28_2 := blk_frozen BK103.out 2; have hfz28_3 := blk_frozen BK103.out 3) | ((with_reducible refine gate_callee (f := 21) rfl ?_); refine goesL_ (some 41) rfl rfl Try.func21 (by kernel_rfl) rfl #[.slice A0 l0.length c0, .int .i64 a1, .agg #[.int .i64 a3_0, .int .i64 a3_1, .slice A3_2 l3_2.length c3_2, .slice A3_3 l3_3.length c3_3]] rfl mA ?_; (with_reducible refine (price_Present.calls _ _ l0 a1 a3_0 a3_1 _ _ l3_2 _ _ l3_3 t109 t110 _ ?side1 ?side2 ?side3 ?side4 ?side5 ?side6 A23.out).mono ?_); (case side1 => exact cA (Kd.C_below HR0.out HB.out)); (case side2 => exact HC0.out); (case side3 => exact cA (Kd.C_below HR3_2.out HB.out)); (case side4 => exact HC3_2.out); (case side5 => exact cA (Kd.C_below HR3_3.out HB.out)); (case side6 => exact HC3_3.out); rintro e w29 ⟨rfl, hb⟩; refine ⟨_, rfl, ?_⟩; have n0_ := Aside0.mk (blk_below (g := gb102) (o := .cells #[.int .i64 a2_0, .int .i64 a2_1, .slice A2_2 l2_2.length c2_2, .slice A2_3 l2_3.length c2_3] 26 (0, 0)) (kA BK102.out) hb); have n1_ := Aside0.mk (blk_below (g := gb103) (o := .cells #[.int .i64 a3_0, .int .i64 a3_1, .slice A3_2 l3_2.length c3_2, .slice A3_3 l3_3.length c3_3] 26 (0, 0)) (kA BK103.out) hb); have n2_ := Aside0.mk (below_step (bG HB.out) hb); clear BK102; clear BK103; clear HB; have BK102 := n0_; have BK103 := n1_; have HB := n2_; clear n0_ n1_ n2_; (try clear hb); (try clear hb2); (try clear hk); (try clear hi)))
      (try simp only [Act.put, List.setIfInBounds_toArray, List.set_cons_zero, List.set_cons_succ])
      go_cut [56] (fun v56 wc => ∃ (kq : Nat) (x56_23 : Bool), v56 = .bool x56_23 ∧ Aside0 (tenorlaw15_PriceRises.j1 kq l0 a1 t107 t109 x56_23 a2_0 a2_1 l2_2 l2_3 a3_0 a3_1 l3_2 l3_3 = some r) ∧ Aside0 (kq ≤ kj4) ∧ Aside0 (wc.heap[gb102]? = some (.cells #[.int .i64 a2_0, .int .i64 a2_1, (.slice A2_2 l2_2.length c2_2), (.slice A2_3 l2_3.length c2_3)] 26 (0, 0))) ∧ Aside0 (wc.heap[gb103]? = some (.cells #[.int .i64 a3_0, .int .i64 a3_1, (.slice A3_2 l3_2.length c3_2), (.slice A3_3 l3_3.length c3_3)] 26 (0, 0))) ∧ Aside0 (Below w.heap.size w wc))
      case first =>
        have H := HC24.out
        clear HC24
        by_cases c30 : t108 = 0
        rotate_left
        · rw [if_neg c30] at H
          have c30b0 : (t108 == 0) = false := beq_eq_false_iff_ne.mpr c30
          have c30b1 : (t108 != 0) = true := bne_iff_ne.mpr c30
          (first | rw [c30b0] | (simp only [i64_w, i32_w]; rw [c30b0]) | skip)
          have H' := Aside0.mk H
          clear H
          go_wp2
          go_meet
          case rel => exact ⟨_, (true), (by first | rfl | (simp; done) | (simp [*]; done)), H', ⟨by have := HJ4.out; first | omega | exact Nat.le_refl _⟩, ⟨kA BK102.out⟩, ⟨kA BK103.out⟩, ⟨bG HB.out⟩⟩
        rw [if_pos c30] at H
        have c30b0 : (t108 == 0) = true := beq_iff_eq.mpr c30
        have c30b1 : (t108 != 0) = false := bne_eq_false_iff_eq.mpr c30
        clear c30
        (first | rw [c30b0] | (simp only [i64_w, i32_w]; rw [c30b0]) | skip)
        by_cases c31 : t110 = 0
        rotate_left
        · rw [if_neg c31] at H
          have c31b0 : (t110 == 0) = false := beq_eq_false_iff_ne.mpr c31
          have c31b1 : (t110 != 0) = true := bne_iff_ne.mpr c31
          have H' := Aside0.mk H
          clear H
          go_wp2
          go_meet
          case rel => exact ⟨_, (true), (by first | rfl | (simp; done) | (simp [*]; done)), H', ⟨by have := HJ4.out; first | omega | exact Nat.le_refl _⟩, ⟨kA BK102.out⟩, ⟨kA BK103.out⟩, ⟨bG HB.out⟩⟩
        rw [if_pos c31] at H
        have c31b0 : (t110 == 0) = true := beq_iff_eq.mpr c31
        have c31b1 : (t110 != 0) = false := bne_eq_false_iff_eq.mpr c31
        clear c31
        have H' := Aside0.mk H
        clear H
        have hnb32 := NB102_103.out
        have hnc32 := NB103_102.out
        have hcz33_0 : w29.cell? ⟨gb102, 0, none⟩ = some (.int .i64 a2_0) := (blk_cell BK102.out 0).trans rfl
        have hcz33_1 : w29.cell? ⟨gb102, 1, none⟩ = some (.int .i64 a2_1) := (blk_cell BK102.out 1).trans rfl
        have hcz33_2 : w29.cell? ⟨gb102, 2, none⟩ = some (.slice A2_2 l2_2.length c2_2) := (blk_cell BK102.out 2).trans rfl
        have hcz33_3 : w29.cell? ⟨gb102, 3, none⟩ = some (.slice A2_3 l2_3.length c2_3) := (blk_cell BK102.out 3).trans rfl
        have hfz33_0 := blk_frozen BK102.out 0
        have hfz33_1 := blk_frozen BK102.out 1
        have hfz33_2 := blk_frozen BK102.out 2
        have hfz33_3 := blk_frozen BK102.out 3
        have hcz34_0 : w29.cell? ⟨gb103, 0, none⟩ = some (.int .i64 a3_0) := (blk_cell BK103.out 0).trans rfl
        have hcz34_1 : w29.cell? ⟨gb103, 1, none⟩ = some (.int .i64 a3_1) := (blk_cell BK103.out 1).trans rfl
        have hcz34_2 : w29.cell? ⟨gb103, 2, none⟩ = some (.slice A3_2 l3_2.length c3_2) := (blk_cell BK103.out 2).trans rfl
        have hcz34_3 : w29.cell? ⟨gb103, 3, none⟩ = some (.slice A3_3 l3_3.length c3_3) := (blk_cell BK103.out 3).trans rfl
        have hfz34_0 := blk_frozen BK103.out 0
        have hfz34_1 := blk_frozen BK103.out 1
        have hfz34_2 := blk_frozen BK103.out 2
        have hfz34_3 := blk_frozen BK103.out 3
        go_wp2
        go_meet
        case rel => exact ⟨_, ((a2_0 != a3_0)), (by first | rfl | (simp; done) | (simp [*]; done)), H', ⟨by have := HJ4.out; first | omega | exact Nat.le_refl _⟩, ⟨kA BK102.out⟩, ⟨kA BK103.out⟩, ⟨bG HB.out⟩⟩
      case rest =>
        clear HC24
        try clear c1
        try clear c2
        try clear p2
        try clear c3
        try clear c5
        try clear c9
        try clear c11
        try clear c12
        try clear c16
        try clear c19
        try clear c21
        try clear c25
        try clear c30
        try clear c30b0
        try clear c30b1
        try clear c31
        try clear c31b0
        try clear c31b1
        try clear c32
        try clear hcz12_0
        try clear hcz12_1
        try clear hcz12_2
        try clear hcz12_3
        try clear hcz14_0
        try clear hcz14_1
        try clear hcz14_2
        try clear hcz14_3
        try clear hcz17_0
        try clear hcz17_1
        try clear hcz17_2
        try clear hcz17_3
        try clear hcz26_0
        try clear hcz26_1
        try clear hcz26_2
        try clear hcz26_3
        try clear hcz28_0
        try clear hcz28_1
        try clear hcz28_2
        try clear hcz28_3
        try clear hcz33_0
        try clear hcz33_1
        try clear hcz33_2
        try clear hcz33_3
        try clear hcz34_0
        try clear hcz34_1
        try clear hcz34_2
        try clear hcz34_3
        try clear hfz12_0
        try clear hfz12_1
        try clear hfz12_2
        try clear hfz12_3
        try clear hfz14_0
        try clear hfz14_1
        try clear hfz14_2
        try clear hfz14_3
        try clear hfz17_0
        try clear hfz17_1
        try clear hfz17_2
        try clear hfz17_3
        try clear hfz26_0
        try clear hfz26_1
        try clear hfz26_2
        try clear hfz26_3
        try clear hfz28_0
        try clear hfz28_1
        try clear hfz28_2
        try clear hfz28_3
        try clear hfz33_0
        try clear hfz33_1
        try clear hfz33_2
        try clear hfz33_3
        try clear hfz34_0
        try clear hfz34_1
        try clear hfz34_2
        try clear hfz34_3
        try clear p2
        obtain ⟨kq, x56_23, rfl, HA, HJ23, BK102, BK103, HB⟩ := hcut
        cases kq with
        | zero => exact absurd HA.out (by simp [tenorlaw15_PriceRises.j1])
        | succ kj23 =>
          have H := HA.out
          clear HA
          simp only [tenorlaw15_PriceRises.j1] at H
          by_cases c35 : x56_23 = true
          · subst c35
            have H1 : ((law15_awakeX.f).bind fun t111 => (some t111)) = some r := by rw [if_pos rfl] at H; exact H
            clear H
            have H := H1
            clear H1
            replace H := Option.bind_eq_some_iff.mp H
            obtain ⟨t111, A360, H⟩ := H
            have A36 := Aside0.mk A360
            clear A360
            obtain rfl := Option.some.inj H
            go_wp2_with (first | ((with_reducible refine gate_callee (f := 12) rfl ?_); refine goesL_ (some 57) rfl rfl Try.func12 (by kernel_rfl) rfl #[] rfl mA ?_; (with_reducible refine (law15_awakeX.calls  t111 _ A36.out).mono ?_); rintro e w37 ⟨rfl, hb⟩; refine ⟨_, rfl, ?_⟩; have n0_ := Aside0.mk (blk_below (g := gb102) (o := .cells #[.int .i64 a2_0, .int .i64 a2_1, .slice A2_2 l2_2.length c2_2, .slice A2_3 l2_3.length c2_3] 26 (0, 0)) (kA BK102.out) hb); have n1_ := Aside0.mk (blk_below (g := gb103) (o := .cells #[.int .i64 a3_0, .int .i64 a3_1, .slice A3_2 l3_2.length c3_2, .slice A3_3 l3_3.length c3_3] 26 (0, 0)) (kA BK103.out) hb); have n2_ := Aside0.mk (below_step (bG HB.out) hb); clear BK102; clear BK103; clear HB; have BK102 := n0_; have BK103 := n1_; have HB := n2_; clear n0_ n1_ n2_; (try clear hb); (try clear hb2); (try clear hk); (try clear hi)))
            go_ret
            exact ⟨by first | rfl | (simp [errW_none, errW_some] <;> rfl) | (simp [*, errW_none, errW_some] <;> rfl), bG HB.out⟩
          replace c35 := Bool.eq_false_iff.mpr c35
          subst c35
          have H1 : (tenorlaw15_PriceRises.l0 kj23 l0 a1 t107 t109 true 0 a2_0 a2_1 l2_2 l2_3 a3_0 a3_1 l3_2 l3_3) = some r := by rw [if_neg (show ¬ (false = true) by decide)] at H; exact H
          clear H
          have H := H1
          clear H1
          have H' := Aside0.mk H
          clear H
          go_wp2
          go_loopg [13, 14] kj23 (fun kq v13 v14 w' => ∃ (x13_3 : Bool) (x14_3 : Int), v13 = .bool x13_3 ∧ v14 = .int .i64 x14_3 ∧ Aside0 (tenorlaw15_PriceRises.l0 kq l0 a1 t107 t109 x13_3 x14_3 a2_0 a2_1 l2_2 l2_3 a3_0 a3_1 l3_2 l3_3 = some r) ∧ Aside0 (kq ≤ kj23) ∧ Aside0 (w'.heap[gb102]? = some (.cells #[.int .i64 a2_0, .int .i64 a2_1, (.slice A2_2 l2_2.length c2_2), (.slice A2_3 l2_3.length c2_3)] 26 (0, 0))) ∧ Aside0 (w'.heap[gb103]? = some (.cells #[.int .i64 a3_0, .int .i64 a3_1, (.slice A3_2 l3_2.length c3_2), (.slice A3_3 l3_3.length c3_3)] 26 (0, 0))) ∧ Aside0 (Below w.heap.size w w'))
          case atStart => exact ⟨(true), (0), (by first | rfl | (simp; done) | (simp [*]; done)), (by first | rfl | (simp; done) | (simp [*]; done)), H', ⟨Nat.le_refl _⟩, ⟨kA BK102.out⟩, ⟨kA BK103.out⟩, ⟨bG HB.out⟩⟩
          case round =>
            clear H'
            try clear c1
            try clear c2
            try clear p2
            try clear c3
            try clear c5
            try clear c9
            try clear c11
            try clear c12
            try clear c16
            try clear c19
            try clear c21
            try clear c25
            try clear c30
            try clear c30b0
            try clear c30b1
            try clear c31
            try clear c31b0
            try clear c31b1
            try clear c32
            try clear c35
            try clear hcz12_0
            try clear hcz12_1
            try clear hcz12_2
            try clear hcz12_3
            try clear hcz14_0
            try clear hcz14_1
            try clear hcz14_2
            try clear hcz14_3
            try clear hcz17_0
            try clear hcz17_1
            try clear hcz17_2
            try clear hcz17_3
            try clear hcz26_0
            try clear hcz26_1
            try clear hcz26_2
            try clear hcz26_3
            try clear hcz28_0
            try clear hcz28_1
            try clear hcz28_2
            try clear hcz28_3
            try clear hcz33_0
            try clear hcz33_1
            try clear hcz33_2
            try clear hcz33_3
            try clear hcz34_0
            try clear hcz34_1
            try clear hcz34_2
            try clear hcz34_3
            try clear hfz12_0
            try clear hfz12_1
            try clear hfz12_2
            try clear hfz12_3
            try clear hfz14_0
            try clear hfz14_1
            try clear hfz14_2
            try clear hfz14_3
            try clear hfz17_0
            try clear hfz17_1
            try clear hfz17_2
            try clear hfz17_3
            try clear hfz26_0
            try clear hfz26_1
            try clear hfz26_2
            try clear hfz26_3
            try clear hfz28_0
            try clear hfz28_1
            try clear hfz28_2
            try clear hfz28_3
            try clear hfz33_0
            try clear hfz33_1
            try clear hfz33_2
            try clear hfz33_3
            try clear hfz34_0
            try clear hfz34_1
            try clear hfz34_2
            try clear hfz34_3
            try clear p2
            obtain ⟨x13_3, x14_3, rfl, rfl, HA, HK3, BK102, BK103, HB⟩ := hrel
            cases gk with
            | zero => exact absurd HA.out (by simp [tenorlaw15_PriceRises.l0])
            | succ k3 =>
              have H := HA.out
              clear HA
              simp only [tenorlaw15_PriceRises.l0] at H
              by_cases c38 : x14_3 < (l0.length : Int)
              rotate_left
              · rw [if_neg c38] at H
                have c38b0 : decide (x14_3 < (l0.length : Int)) = false := decide_eq_false c38
                clear c38
                by_cases c71 : (FloatKind.f64.format.order t107 (0 : Nat) == some .gt || FloatKind.f64.format.order t107 (0 : Nat) == some .eq) = true
                rotate_left
                · rw [if_neg c71] at H
                  have c71b0 : (FloatKind.f64.format.order t107 (0 : Nat) == some .gt || FloatKind.f64.format.order t107 (0 : Nat) == some .eq) = false := by simpa using c71
                  (try (have c71b1 : decide (FloatKind.f64.format.order t107 (0 : Nat) = some .gt || FloatKind.f64.format.order t107 (0 : Nat) == some .eq) = false := by simpa using c71))
                  (try (have c71b2 : (FloatKind.f64.format.order t107 (0 : Nat) == some .gt || FloatKind.f64.format.order t107 (0 : Nat) == some .eq) = false := by simpa using c71))
                  (try (have c71b3 : ¬ (FloatKind.f64.format.order t107 (0 : Nat) = some .gt || FloatKind.f64.format.order t107 (0 : Nat) == some .eq) := by simpa using c71))
                  clear c71
                  obtain rfl := Option.some.inj H
                  go_wp2
                  go_ret
                  exact ⟨by first | rfl | (simp [errW_none, errW_some] <;> rfl) | (simp [*, errW_none, errW_some] <;> rfl), bG HB.out⟩
                rw [if_pos c71] at H
                have c71b0 : (FloatKind.f64.format.order t107 (0 : Nat) == some .gt || FloatKind.f64.format.order t107 (0 : Nat) == some .eq) = true := c71
                (try (have c71b1 : decide (FloatKind.f64.format.order t107 (0 : Nat) = some .gt || FloatKind.f64.format.order t107 (0 : Nat) == some .eq) = true := by simpa using c71))
                (try (have c71b2 : (FloatKind.f64.format.order t107 (0 : Nat) == some .gt || FloatKind.f64.format.order t107 (0 : Nat) == some .eq) = true := by simpa using c71))
                clear c71
                by_cases c72 : (FloatKind.f64.format.order t109 (0 : Nat) == some .gt || FloatKind.f64.format.order t109 (0 : Nat) == some .eq) = true
                rotate_left
                · rw [if_neg c72] at H
                  have c72b0 : (FloatKind.f64.format.order t109 (0 : Nat) == some .gt || FloatKind.f64.format.order t109 (0 : Nat) == some .eq) = false := by simpa using c72
                  (try (have c72b1 : decide (FloatKind.f64.format.order t109 (0 : Nat) = some .gt || FloatKind.f64.format.order t109 (0 : Nat) == some .eq) = false := by simpa using c72))
                  (try (have c72b2 : (FloatKind.f64.format.order t109 (0 : Nat) == some .gt || FloatKind.f64.format.order t109 (0 : Nat) == some .eq) = false := by simpa using c72))
                  (try (have c72b3 : ¬ (FloatKind.f64.format.order t109 (0 : Nat) = some .gt || FloatKind.f64.format.order t109 (0 : Nat) == some .eq) := by simpa using c72))
                  clear c72
                  obtain rfl := Option.some.inj H
                  go_wp2
                  go_ret
                  exact ⟨by first | rfl | (simp [errW_none, errW_some] <;> rfl) | (simp [*, errW_none, errW_some] <;> rfl), bG HB.out⟩
                rw [if_pos c72] at H
                have c72b0 : (FloatKind.f64.format.order t109 (0 : Nat) == some .gt || FloatKind.f64.format.order t109 (0 : Nat) == some .eq) = true := c72
                (try (have c72b1 : decide (FloatKind.f64.format.order t109 (0 : Nat) = some .gt || FloatKind.f64.format.order t109 (0 : Nat) == some .eq) = true := by simpa using c72))
                (try (have c72b2 : (FloatKind.f64.format.order t109 (0 : Nat) == some .gt || FloatKind.f64.format.order t109 (0 : Nat) == some .eq) = true := by simpa using c72))
                clear c72
                by_cases c73 : x13_3 = true
                rotate_left
                · replace c73 := Bool.eq_false_iff.mpr c73
                  subst c73
                  have H1 : ((law15_awakeX.f).bind fun t113 => (some t113)) = some r := by rw [if_neg (show ¬ (false = true) by decide)] at H; exact H
                  clear H
                  have H := H1
                  clear H1
                  replace H := Option.bind_eq_some_iff.mp H
                  obtain ⟨t113, A770, H⟩ := H
                  have A77 := Aside0.mk A770
                  clear A770
                  obtain rfl := Option.some.inj H
                  go_wp2_with (first | (go_at_call 12; (with_reducible refine (law15_awakeX.calls  t113 _ A77.out).mono ?_); rintro e w78 ⟨rfl, hb⟩; have n0_ := Aside0.mk (blk_below (g := gb102) (o := .cells #[.int .i64 a2_0, .int .i64 a2_1, .slice A2_2 l2_2.length c2_2, .slice A2_3 l2_3.length c2_3] 26 (0, 0)) (kA BK102.out) hb); have n1_ := Aside0.mk (blk_below (g := gb103) (o := .cells #[.int .i64 a3_0, .int .i64 a3_1, .slice A3_2 l3_2.length c3_2, .slice A3_3 l3_3.length c3_3] 26 (0, 0)) (kA BK103.out) hb); have n2_ := Aside0.mk (below_step (bG HB.out) hb); clear BK102; clear BK103; clear HB; have BK102 := n0_; have BK103 := n1_; have HB := n2_; clear n0_ n1_ n2_; (try clear hb); (try clear hb2); (try clear hk); (try clear hi)))
                  go_ret
                  exact ⟨by first | rfl | (simp [errW_none, errW_some] <;> rfl) | (simp [*, errW_none, errW_some] <;> rfl), bG HB.out⟩
                subst c73
                have H1 : (if (FloatKind.f64.format.order t107 t109 == some .lt || FloatKind.f64.format.order t107 t109 == some .eq) = true then ((law15_awakeX.f).bind fun t112 => (some t112)) else (some false)) = some r := by rw [if_pos rfl] at H; exact H
                clear H
                have H := H1
                clear H1
                by_cases c74 : (FloatKind.f64.format.order t107 t109 == some .lt || FloatKind.f64.format.order t107 t109 == some .eq) = true
                rotate_left
                · rw [if_neg c74] at H
                  have c74b0 : (FloatKind.f64.format.order t107 t109 == some .lt || FloatKind.f64.format.order t107 t109 == some .eq) = false := by simpa using c74
                  (try (have c74b1 : decide (FloatKind.f64.format.order t107 t109 = some .lt || FloatKind.f64.format.order t107 t109 == some .eq) = false := by simpa using c74))
                  (try (have c74b2 : (FloatKind.f64.format.order t107 t109 == some .lt || FloatKind.f64.format.order t107 t109 == some .eq) = false := by simpa using c74))
                  (try (have c74b3 : ¬ (FloatKind.f64.format.order t107 t109 = some .lt || FloatKind.f64.format.order t107 t109 == some .eq) := by simpa using c74))
                  clear c74
                  obtain rfl := Option.some.inj H
                  go_wp2
                  go_ret
                  exact ⟨by first | rfl | (simp [errW_none, errW_some] <;> rfl) | (simp [*, errW_none, errW_some] <;> rfl), bG HB.out⟩
                rw [if_pos c74] at H
                have c74b0 : (FloatKind.f64.format.order t107 t109 == some .lt || FloatKind.f64.format.order t107 t109 == some .eq) = true := c74
                (try (have c74b1 : decide (FloatKind.f64.format.order t107 t109 = some .lt || FloatKind.f64.format.order t107 t109 == some .eq) = true := by simpa using c74))
                (try (have c74b2 : (FloatKind.f64.format.order t107 t109 == some .lt || FloatKind.f64.format.order t107 t109 == some .eq) = true := by simpa using c74))
                clear c74
                replace H := Option.bind_eq_some_iff.mp H
                obtain ⟨t112, A750, H⟩ := H
                have A75 := Aside0.mk A750
                clear A750
                obtain rfl := Option.some.inj H
                go_wp2_with (first | (go_at_call 12; (with_reducible refine (law15_awakeX.calls  t112 _ A75.out).mono ?_); rintro e w76 ⟨rfl, hb⟩; have n0_ := Aside0.mk (blk_below (g := gb102) (o := .cells #[.int .i64 a2_0, .int .i64 a2_1, .slice A2_2 l2_2.length c2_2, .slice A2_3 l2_3.length c2_3] 26 (0, 0)) (kA BK102.out) hb); have n1_ := Aside0.mk (blk_below (g := gb103) (o := .cells #[.int .i64 a3_0, .int .i64 a3_1, .slice A3_2 l3_2.length c3_2, .slice A3_3 l3_3.length c3_3] 26 (0, 0)) (kA BK103.out) hb); have n2_ := Aside0.mk (below_step (bG HB.out) hb); clear BK102; clear BK103; clear HB; have BK102 := n0_; have BK103 := n1_; have HB := n2_; clear n0_ n1_ n2_; (try clear hb); (try clear hb2); (try clear hk); (try clear hi)))
                go_ret
                exact ⟨by first | rfl | (simp [errW_none, errW_some] <;> rfl) | (simp [*, errW_none, errW_some] <;> rfl), bG HB.out⟩
              rw [if_pos c38] at H
              have c38b0 : decide (x14_3 < (l0.length : Int)) = true := decide_eq_true c38
              clear c38
              by_cases c39 : 0 ≤ x14_3
              rotate_left
              · rw [if_neg c39] at H
                exact absurd H (by simp)
              rw [if_pos c39] at H
              have c39b0 : decide (0 ≤ x14_3) = true := decide_eq_true c39
              clear c39
              by_cases c40 : (FloatKind.f64.format.order ((rd_T51 l0 x14_3).f1) (0 : Nat) == some .lt) = true
              · rw [if_pos c40] at H
                have c40b0 : (FloatKind.f64.format.order ((rd_T51 l0 x14_3).f1) (0 : Nat) == some .lt) = true := c40
                (try (have c40b1 : decide (FloatKind.f64.format.order ((rd_T51 l0 x14_3).f1) (0 : Nat) = some .lt) = true := by simpa using c40))
                (try (have c40b2 : (FloatKind.f64.format.order ((rd_T51 l0 x14_3).f1) (0 : Nat) == some .lt) = true := by simpa using c40))
                clear c40
                replace H := Option.bind_eq_some_iff.mp H
                obtain ⟨t115, A410, H⟩ := H
                have A41 := Aside0.mk A410
                clear A410
                obtain rfl := Option.some.inj H
                have p114 : 0 ≤ (x14_3 : Int) := of_decide_eq_true asA
                have q114 : x14_3 < (l0.length : Int) := of_decide_eq_true asA
                obtain ⟨ad114, e114, hx114_0, hx114_1, hx114_2⟩ := at_T51 HR0.out x14_3 p114 q114
                cases e114
                replace hx114_0 := (HB.out.cell (World.block_lt_of_cell? w _ hx114_0)).trans hx114_0
                replace hx114_1 := (HB.out.cell (World.block_lt_of_cell? w _ hx114_1)).trans hx114_1
                replace hx114_2 := (HB.out.cell (World.block_lt_of_cell? w _ hx114_2)).trans hx114_2
                replace p114 := eq_true p114
                replace q114 := eq_true q114
                go_wp2_with (first | ((with_reducible refine gate_callee (f := 12) rfl ?_); refine goesL_ (some 70) rfl rfl Try.func12 (by kernel_rfl) rfl #[] rfl mA ?_; (with_reducible refine (law15_awakeX.calls  t115 _ A41.out).mono ?_); rintro e w42 ⟨rfl, hb⟩; refine ⟨_, rfl, ?_⟩; have n0_ := Aside0.mk (blk_below (g := gb102) (o := .cells #[.int .i64 a2_0, .int .i64 a2_1, .slice A2_2 l2_2.length c2_2, .slice A2_3 l2_3.length c2_3] 26 (0, 0)) (kA BK102.out) hb); have n1_ := Aside0.mk (blk_below (g := gb103) (o := .cells #[.int .i64 a3_0, .int .i64 a3_1, .slice A3_2 l3_2.length c3_2, .slice A3_3 l3_3.length c3_3] 26 (0, 0)) (kA BK103.out) hb); have n2_ := Aside0.mk (below_step (bG HB.out) hb); clear BK102; clear BK103; clear HB; have BK102 := n0_; have BK103 := n1_; have HB := n2_; clear n0_ n1_ n2_; (try clear hb); (try clear hb2); (try clear hk); (try clear hi)))
                go_ret
                exact ⟨by first | rfl | (simp [errW_none, errW_some] <;> rfl) | (simp [*, errW_none, errW_some] <;> rfl), bG HB.out⟩
              rw [if_neg c40] at H
              have c40b0 : (FloatKind.f64.format.order ((rd_T51 l0 x14_3).f1) (0 : Nat) == some .lt) = false := by simpa using c40
              (try (have c40b1 : decide (FloatKind.f64.format.order ((rd_T51 l0 x14_3).f1) (0 : Nat) = some .lt) = false := by simpa using c40))
              (try (have c40b2 : (FloatKind.f64.format.order ((rd_T51 l0 x14_3).f1) (0 : Nat) == some .lt) = false := by simpa using c40))
              (try (have c40b3 : ¬ (FloatKind.f64.format.order ((rd_T51 l0 x14_3).f1) (0 : Nat) = some .lt) := by simpa using c40))
              clear c40
              have HC43 := Aside0.mk H
              clear H
              have p114 : 0 ≤ (x14_3 : Int) := of_decide_eq_true asA
              have q114 : x14_3 < (l0.length : Int) := of_decide_eq_true asA
              obtain ⟨ad114, e114, hx114_0, hx114_1, hx114_2⟩ := at_T51 HR0.out x14_3 p114 q114
              cases e114
              replace hx114_0 := (HB.out.cell (World.block_lt_of_cell? w _ hx114_0)).trans hx114_0
              replace hx114_1 := (HB.out.cell (World.block_lt_of_cell? w _ hx114_1)).trans hx114_1
              replace hx114_2 := (HB.out.cell (World.block_lt_of_cell? w _ hx114_2)).trans hx114_2
              replace p114 := eq_true p114
              replace q114 := eq_true q114
              go_upto_region 13 with (fail)
              go_cut [87] (fun v87 wc => ∃ (kq : Nat) (x87_42 : Bool), v87 = .bool x87_42 ∧ Aside0 (tenorlaw15_PriceRises.j3 kq l0 a1 t107 t109 x13_3 x14_3 x87_42 a2_0 a2_1 l2_2 l2_3 a3_0 a3_1 l3_2 l3_3 = some r) ∧ Aside0 (kq ≤ k3) ∧ Aside0 (wc.heap[gb102]? = some (.cells #[.int .i64 a2_0, .int .i64 a2_1, (.slice A2_2 l2_2.length c2_2), (.slice A2_3 l2_3.length c2_3)] 26 (0, 0))) ∧ Aside0 (wc.heap[gb103]? = some (.cells #[.int .i64 a3_0, .int .i64 a3_1, (.slice A3_2 l3_2.length c3_2), (.slice A3_3 l3_3.length c3_3)] 26 (0, 0))) ∧ Aside0 (Below w.heap.size w wc))
              case first =>
                have H := HC43.out
                clear HC43
                by_cases c44 : ((rd_T51 l0 x14_3).f2) = a1
                rotate_left
                · rw [if_neg c44] at H
                  have c44b0 : (((rd_T51 l0 x14_3).f2) == a1) = false := beq_eq_false_iff_ne.mpr c44
                  have c44b1 : (((rd_T51 l0 x14_3).f2) != a1) = true := bne_iff_ne.mpr c44
                  (first | rw [c44b0] | (simp only [i64_w, i32_w]; rw [c44b0]) | skip)
                  have H' := Aside0.mk H
                  clear H
                  try go_wp2
                  have n0_ := Aside0.mk (blk_drew BK102.out)
                  have n1_ := Aside0.mk (blk_drew BK103.out)
                  have n2_ := Aside0.mk (below_drew1 HB.out)
                  clear BK102
                  clear BK103
                  clear HB
                  have BK102 := n0_
                  have BK103 := n1_
                  have HB := n2_
                  clear n0_ n1_ n2_
                  have p116 : 0 ≤ (x14_3 : Int) := of_decide_eq_true asA
                  have q116 : x14_3 < (l0.length : Int) := of_decide_eq_true asA
                  obtain ⟨ad116, e116, hx116_0, hx116_1, hx116_2⟩ := at_T51 HR0.out x14_3 p116 q116
                  have hw116_2 := hx116_2
                  have hw116_1 := hx116_1
                  have hw116_0 := hx116_0
                  obtain rfl : ad114 = ad116 := (by injection e116)
                  replace hx116_0 := (HB.out.cell (World.block_lt_of_cell? w _ hx116_0)).trans hx116_0
                  replace hx116_1 := (HB.out.cell (World.block_lt_of_cell? w _ hx116_1)).trans hx116_1
                  replace hx116_2 := (HB.out.cell (World.block_lt_of_cell? w _ hx116_2)).trans hx116_2
                  replace p116 := eq_true p116
                  replace q116 := eq_true q116
                  refine start_ (n := 17) (S := fun w' => w'.cell? (ad114.add ((x14_3).toNat * 3)) = some (.int .i64 ((rd_T51 l0 x14_3).f0)) ∧ w'.cell? ⟨(ad114.add ((x14_3).toNat * 3)).block, (ad114.add ((x14_3).toNat * 3)).off + 1, none⟩ = some (.float .f64 ((rd_T51 l0 x14_3).f1)) ∧ w'.cell? ⟨(ad114.add ((x14_3).toNat * 3)).block, (ad114.add ((x14_3).toNat * 3)).off + 2, none⟩ = some (.int .i64 ((rd_T51 l0 x14_3).f2))) (ds := []) (dnA 17 0) (by kernel_rfl) rfl rfl ⟨((HB.out.cell (World.block_lt_of_cell? w _ hw116_0)).trans hw116_0), ((HB.out.cell (World.block_lt_of_cell? w _ hw116_1)).trans hw116_1), ((HB.out.cell (World.block_lt_of_cell? w _ hw116_2)).trans hw116_2)⟩ (fun hHeld => ?_); refine with_tabW tenorlaw15_PriceRises.tab13 tenorlaw15_PriceRises.bits13 (fun HT_ HW_ => ?_)
                  generalize wr.drew = w46 at BK102 BK103 HB hx116_0 hx116_1 hx116_2 hHeld ⊢
                  refine pure_ (i := 0) (N := some 71) (v := ?_) (a' := ?_) (dnA 17 1) rfl rfl (any_of HT_.out (by kernel_rfl)) (fun _ _ _ h => h) (Or.inl ⟨by rfl, ?_⟩) ?_ ?_
                  rotate_left
                  · intro w'
                    go_simp
                    with_reducible rfl
                  rotate_left
                  · simp only [Act.put, List.setIfInBounds_toArray, List.set_cons_zero, List.set_cons_succ, i64_w, i32_w]
                    rfl
                  refine pure_ (i := 1) (N := some 72) (v := ?_) (a' := ?_) (dnA 17 3) rfl rfl (any_of HT_.out (by kernel_rfl)) (fun _ _ _ h => h) (Or.inl ⟨by rfl, ?_⟩) ?_ ?_
                  rotate_left
                  · intro w'
                    go_simp
                    with_reducible rfl
                  rotate_left
                  · simp only [Act.put, List.setIfInBounds_toArray, List.set_cons_zero, List.set_cons_succ, i64_w, i32_w]
                    rfl
                  refine pure_ (i := 2) (N := some 73) (v := ?_) (a' := ?_) (dnA 17 7) rfl rfl (any_of HT_.out (by kernel_rfl)) (fun _ _ _ h => h) (Or.inl ⟨by rfl, ?_⟩) ?_ ?_
                  rotate_left
                  · intro w'
                    go_simp
                    with_reducible rfl
                  rotate_left
                  · simp only [Act.put, List.setIfInBounds_toArray, List.set_cons_zero, List.set_cons_succ, i64_w, i32_w]
                    rfl
                  refine pure_ (i := 3) (N := some 74) (v := ?_) (a' := ?_) (dnA 17 15) rfl rfl (any_of HT_.out (by kernel_rfl)) (fun _ _ _ h => h) (Or.inl ⟨by rfl, ?_⟩) ?_ ?_
                  rotate_left
                  · intro w'
                    go_simp
                    with_reducible rfl
                  rotate_left
                  · simp only [Act.put, List.setIfInBounds_toArray, List.set_cons_zero, List.set_cons_succ, i64_w, i32_w]
                    rfl
                  refine pure_ (i := 5) (N := some 76) (v := ?_) (a' := ?_) (dnA 17 47) rfl rfl (any_of HT_.out (by kernel_rfl)) (fun _ _ _ h => h) (Or.inl ⟨by rfl, ?_⟩) ?_ ?_
                  rotate_left
                  · intro w'
                    go_simp
                    with_reducible rfl
                  rotate_left
                  · simp only [Act.put, List.setIfInBounds_toArray, List.set_cons_zero, List.set_cons_succ, i64_w, i32_w]
                    rfl
                  refine take_ (i := 4) (N := some 75) (v := ?_) (a' := ?_) (dnA 17 63) rfl rfl (take_ofW HT_.out HW_.out (by kernel_rfl)) (fun _ _ _ h => h) (Or.inl ⟨by rfl, ?_⟩) hHeld ?_ ?_
                  rotate_left
                  · rintro w' ⟨s0, s1, s2⟩
                    go_simp
                    with_reducible rfl
                  rotate_left
                  · simp only [Act.put, List.setIfInBounds_toArray, List.set_cons_zero, List.set_cons_succ, i64_w, i32_w]
                    rfl
                  refine pure_ (i := 6) (N := some 77) (v := ?_) (a' := ?_) (dnA 17 127) rfl rfl (any_of HT_.out (by kernel_rfl)) (fun _ _ _ h => h) (Or.inl ⟨by rfl, ?_⟩) ?_ ?_
                  rotate_left
                  · intro w'
                    go_simp
                    with_reducible rfl
                  rotate_left
                  · simp only [Act.put, List.setIfInBounds_toArray, List.set_cons_zero, List.set_cons_succ, i64_w, i32_w]
                    rfl
                  refine pure_ (i := 7) (N := some 78) (v := ?_) (a' := ?_) (dnA 17 255) rfl rfl (any_of HT_.out (by kernel_rfl)) (fun _ _ _ h => h) (Or.inl ⟨by rfl, ?_⟩) ?_ ?_
                  rotate_left
                  · intro w'
                    go_simp
                    with_reducible rfl
                  rotate_left
                  · simp only [Act.put, List.setIfInBounds_toArray, List.set_cons_zero, List.set_cons_succ, i64_w, i32_w]
                    rfl
                  refine pure_ (i := 8) (N := some 79) (v := undef) (a' := ?_) (dnA 17 511) rfl rfl (any_of HT_.out (by kernel_rfl)) (fun _ _ _ h => h) (Or.inr ⟨by rfl, rfl⟩) ?_ ?_
                  rotate_left
                  · simp only [Act.put, List.setIfInBounds_toArray, List.set_cons_zero, List.set_cons_succ, i64_w, i32_w]
                    rfl
                  refine pure_ (i := 9) (N := some 80) (v := undef) (a' := ?_) (dnA 17 1023) rfl rfl (any_of HT_.out (by kernel_rfl)) (fun _ _ _ h => h) (Or.inr ⟨by rfl, rfl⟩) ?_ ?_
                  rotate_left
                  · simp only [Act.put, List.setIfInBounds_toArray, List.set_cons_zero, List.set_cons_succ, i64_w, i32_w]
                    rfl
                  refine pure_ (i := 10) (N := some 81) (v := undef) (a' := ?_) (dnA 17 2047) rfl rfl (any_of HT_.out (by kernel_rfl)) (fun _ _ _ h => h) (Or.inr ⟨by rfl, rfl⟩) ?_ ?_
                  rotate_left
                  · simp only [Act.put, List.setIfInBounds_toArray, List.set_cons_zero, List.set_cons_succ, i64_w, i32_w]
                    rfl
                  refine pure_ (i := 11) (N := some 82) (v := undef) (a' := ?_) (dnA 17 4095) rfl rfl (any_of HT_.out (by kernel_rfl)) (fun _ _ _ h => h) (Or.inr ⟨by rfl, rfl⟩) ?_ ?_
                  rotate_left
                  · simp only [Act.put, List.setIfInBounds_toArray, List.set_cons_zero, List.set_cons_succ, i64_w, i32_w]
                    rfl
                  refine pure_ (i := 12) (N := some 83) (v := undef) (a' := ?_) (dnA 17 8191) rfl rfl (any_of HT_.out (by kernel_rfl)) (fun _ _ _ h => h) (Or.inr ⟨by rfl, rfl⟩) ?_ ?_
                  rotate_left
                  · simp only [Act.put, List.setIfInBounds_toArray, List.set_cons_zero, List.set_cons_succ, i64_w, i32_w]
                    rfl
                  refine pure_ (i := 13) (N := some 84) (v := undef) (a' := ?_) (dnA 17 16383) rfl rfl (any_of HT_.out (by kernel_rfl)) (fun _ _ _ h => h) (Or.inr ⟨by rfl, rfl⟩) ?_ ?_
                  rotate_left
                  · simp only [Act.put, List.setIfInBounds_toArray, List.set_cons_zero, List.set_cons_succ, i64_w, i32_w]
                    rfl
                  refine pure_ (i := 14) (N := some 85) (v := undef) (a' := ?_) (dnA 17 32767) rfl rfl (any_of HT_.out (by kernel_rfl)) (fun _ _ _ h => h) (Or.inr ⟨by rfl, rfl⟩) ?_ ?_
                  rotate_left
                  · simp only [Act.put, List.setIfInBounds_toArray, List.set_cons_zero, List.set_cons_succ, i64_w, i32_w]
                    rfl
                  refine pure_ (i := 15) (N := some 86) (v := undef) (a' := ?_) (dnA 17 65535) rfl rfl (any_of HT_.out (by kernel_rfl)) (fun _ _ _ h => h) (Or.inr ⟨by rfl, rfl⟩) ?_ ?_
                  rotate_left
                  · simp only [Act.put, List.setIfInBounds_toArray, List.set_cons_zero, List.set_cons_succ, i64_w, i32_w]
                    rfl
                  refine pure_ (i := 16) (N := some 87) (v := ?_) (a' := ?_) (dnA 17 131071) rfl rfl (any_of HT_.out (by kernel_rfl)) (fun _ _ _ h => h) (Or.inl ⟨by rfl, ?_⟩) ?_ ?_
                  rotate_left
                  · intro w'
                    go_simp
                    with_reducible rfl
                  rotate_left
                  · simp only [Act.put, List.setIfInBounds_toArray, List.set_cons_zero, List.set_cons_succ, i64_w, i32_w]
                    rfl
                  refine done_ (done_of HT_.out (by kernel_rfl)) ?_
                  try go_wp2
                  go_meet
                  case rel => exact ⟨_, (false), (by first | rfl | (simp; done) | (simp [*]; done)), H', ⟨by have := HJ4.out; have := HJ23.out; have := HK3.out; first | omega | exact Nat.le_refl _⟩, ⟨kA BK102.out⟩, ⟨kA BK103.out⟩, ⟨bG HB.out⟩⟩
                rw [if_pos c44] at H
                have c44b0 : (((rd_T51 l0 x14_3).f2) == a1) = true := beq_iff_eq.mpr c44
                have c44b1 : (((rd_T51 l0 x14_3).f2) != a1) = false := bne_eq_false_iff_eq.mpr c44
                clear c44
                (first | rw [c44b0] | (simp only [i64_w, i32_w]; rw [c44b0]) | skip)
                have H' := Aside0.mk H
                clear H
                try go_wp2
                have n0_ := Aside0.mk (blk_drew BK102.out)
                have n1_ := Aside0.mk (blk_drew BK103.out)
                have n2_ := Aside0.mk (below_drew1 HB.out)
                clear BK102
                clear BK103
                clear HB
                have BK102 := n0_
                have BK103 := n1_
                have HB := n2_
                clear n0_ n1_ n2_
                have p116 : 0 ≤ (x14_3 : Int) := of_decide_eq_true asA
                have q116 : x14_3 < (l0.length : Int) := of_decide_eq_true asA
                obtain ⟨ad116, e116, hx116_0, hx116_1, hx116_2⟩ := at_T51 HR0.out x14_3 p116 q116
                have hw116_2 := hx116_2
                have hw116_1 := hx116_1
                have hw116_0 := hx116_0
                obtain rfl : ad114 = ad116 := (by injection e116)
                replace hx116_0 := (HB.out.cell (World.block_lt_of_cell? w _ hx116_0)).trans hx116_0
                replace hx116_1 := (HB.out.cell (World.block_lt_of_cell? w _ hx116_1)).trans hx116_1
                replace hx116_2 := (HB.out.cell (World.block_lt_of_cell? w _ hx116_2)).trans hx116_2
                replace p116 := eq_true p116
                replace q116 := eq_true q116
                have p117 : 0 ≤ (x14_3 : Int) := of_decide_eq_true asA
                have q117 : x14_3 < (l0.length : Int) := of_decide_eq_true asA
                obtain ⟨ad117, e117, hx117_0, hx117_1, hx117_2⟩ := at_T51 HR0.out x14_3 p117 q117
                have hw117_2 := hx117_2
                have hw117_1 := hx117_1
                have hw117_0 := hx117_0
                obtain rfl : ad114 = ad117 := (by injection e117)
                replace hx117_0 := (HB.out.cell (World.block_lt_of_cell? w _ hx117_0)).trans hx117_0
                replace hx117_1 := (HB.out.cell (World.block_lt_of_cell? w _ hx117_1)).trans hx117_1
                replace hx117_2 := (HB.out.cell (World.block_lt_of_cell? w _ hx117_2)).trans hx117_2
                replace p117 := eq_true p117
                replace q117 := eq_true q117
                refine start_ (n := 17) (S := fun w' => w'.cell? ⟨gb102, 0, none⟩ = some (.int .i64 a2_0) ∧ w'.cell? ⟨gb102, 1, none⟩ = some (.int .i64 a2_1) ∧ w'.cell? ⟨gb102, 2, none⟩ = some (.slice A2_2 l2_2.length c2_2) ∧ w'.cell? ⟨gb102, 3, none⟩ = some (.slice A2_3 l2_3.length c2_3) ∧ w'.cell? (ad114.add ((x14_3).toNat * 3)) = some (.int .i64 ((rd_T51 l0 x14_3).f0)) ∧ w'.cell? ⟨(ad114.add ((x14_3).toNat * 3)).block, (ad114.add ((x14_3).toNat * 3)).off + 1, none⟩ = some (.float .f64 ((rd_T51 l0 x14_3).f1)) ∧ w'.cell? ⟨(ad114.add ((x14_3).toNat * 3)).block, (ad114.add ((x14_3).toNat * 3)).off + 2, none⟩ = some (.int .i64 ((rd_T51 l0 x14_3).f2)) ∧ w'.cell? (ad114.add ((x14_3).toNat * 3)) = some (.int .i64 ((rd_T51 l0 x14_3).f0)) ∧ w'.cell? ⟨(ad114.add ((x14_3).toNat * 3)).block, (ad114.add ((x14_3).toNat * 3)).off + 1, none⟩ = some (.float .f64 ((rd_T51 l0 x14_3).f1)) ∧ w'.cell? ⟨(ad114.add ((x14_3).toNat * 3)).block, (ad114.add ((x14_3).toNat * 3)).off + 2, none⟩ = some (.int .i64 ((rd_T51 l0 x14_3).f2))) (ds := []) (dnA 17 0) (by kernel_rfl) rfl rfl ⟨(blk_cell BK102.out 0).trans rfl, (blk_cell BK102.out 1).trans rfl, (blk_cell BK102.out 2).trans rfl, (blk_cell BK102.out 3).trans rfl, ((HB.out.cell (World.block_lt_of_cell? w _ hw116_0)).trans hw116_0), ((HB.out.cell (World.block_lt_of_cell? w _ hw116_1)).trans hw116_1), ((HB.out.cell (World.block_lt_of_cell? w _ hw116_2)).trans hw116_2), ((HB.out.cell (World.block_lt_of_cell? w _ hw117_0)).trans hw117_0), ((HB.out.cell (World.block_lt_of_cell? w _ hw117_1)).trans hw117_1), ((HB.out.cell (World.block_lt_of_cell? w _ hw117_2)).trans hw117_2)⟩ (fun hHeld => ?_); refine with_tabW tenorlaw15_PriceRises.tab13 tenorlaw15_PriceRises.bits13 (fun HT_ HW_ => ?_)
                generalize wr.drew = w45 at BK102 BK103 HB hx116_0 hx116_1 hx116_2 hx117_0 hx117_1 hx117_2 hHeld ⊢
                refine pure_ (i := 0) (N := some 71) (v := ?_) (a' := ?_) (dnA 17 1) rfl rfl (any_of HT_.out (by kernel_rfl)) (fun _ _ _ h => h) (Or.inl ⟨by rfl, ?_⟩) ?_ ?_
                rotate_left
                · intro w'
                  go_simp
                  with_reducible rfl
                rotate_left
                · simp only [Act.put, List.setIfInBounds_toArray, List.set_cons_zero, List.set_cons_succ, i64_w, i32_w]
                  rfl
                refine pure_ (i := 1) (N := some 72) (v := ?_) (a' := ?_) (dnA 17 3) rfl rfl (any_of HT_.out (by kernel_rfl)) (fun _ _ _ h => h) (Or.inl ⟨by rfl, ?_⟩) ?_ ?_
                rotate_left
                · intro w'
                  go_simp
                  with_reducible rfl
                rotate_left
                · simp only [Act.put, List.setIfInBounds_toArray, List.set_cons_zero, List.set_cons_succ, i64_w, i32_w]
                  rfl
                refine pure_ (i := 2) (N := some 73) (v := ?_) (a' := ?_) (dnA 17 7) rfl rfl (any_of HT_.out (by kernel_rfl)) (fun _ _ _ h => h) (Or.inl ⟨by rfl, ?_⟩) ?_ ?_
                rotate_left
                · intro w'
                  go_simp
                  with_reducible rfl
                rotate_left
                · simp only [Act.put, List.setIfInBounds_toArray, List.set_cons_zero, List.set_cons_succ, i64_w, i32_w]
                  rfl
                refine pure_ (i := 3) (N := some 74) (v := ?_) (a' := ?_) (dnA 17 15) rfl rfl (any_of HT_.out (by kernel_rfl)) (fun _ _ _ h => h) (Or.inl ⟨by rfl, ?_⟩) ?_ ?_
                rotate_left
                · intro w'
                  go_simp
                  with_reducible rfl
                rotate_left
                · simp only [Act.put, List.setIfInBounds_toArray, List.set_cons_zero, List.set_cons_succ, i64_w, i32_w]
                  rfl
                refine pure_ (i := 5) (N := some 76) (v := ?_) (a' := ?_) (dnA 17 47) rfl rfl (any_of HT_.out (by kernel_rfl)) (fun _ _ _ h => h) (Or.inl ⟨by rfl, ?_⟩) ?_ ?_
                rotate_left
                · intro w'
                  go_simp
                  with_reducible rfl
                rotate_left
                · simp only [Act.put, List.setIfInBounds_toArray, List.set_cons_zero, List.set_cons_succ, i64_w, i32_w]
                  rfl
                refine take_ (i := 4) (N := some 75) (v := ?_) (a' := ?_) (dnA 17 63) rfl rfl (take_ofW HT_.out HW_.out (by kernel_rfl)) (fun _ _ _ h => h) (Or.inl ⟨by rfl, ?_⟩) hHeld ?_ ?_
                rotate_left
                · rintro w' ⟨s0, s1, s2, s3, s4, s5, s6, s7, s8, s9⟩
                  go_simp
                  with_reducible rfl
                rotate_left
                · simp only [Act.put, List.setIfInBounds_toArray, List.set_cons_zero, List.set_cons_succ, i64_w, i32_w]
                  rfl
                refine pure_ (i := 6) (N := some 77) (v := ?_) (a' := ?_) (dnA 17 127) rfl rfl (any_of HT_.out (by kernel_rfl)) (fun _ _ _ h => h) (Or.inl ⟨by rfl, ?_⟩) ?_ ?_
                rotate_left
                · intro w'
                  go_simp
                  with_reducible rfl
                rotate_left
                · simp only [Act.put, List.setIfInBounds_toArray, List.set_cons_zero, List.set_cons_succ, i64_w, i32_w]
                  rfl
                refine pure_ (i := 7) (N := some 78) (v := ?_) (a' := ?_) (dnA 17 255) rfl rfl (any_of HT_.out (by kernel_rfl)) (fun _ _ _ h => h) (Or.inl ⟨by rfl, ?_⟩) ?_ ?_
                rotate_left
                · intro w'
                  go_simp
                  with_reducible rfl
                rotate_left
                · simp only [Act.put, List.setIfInBounds_toArray, List.set_cons_zero, List.set_cons_succ, i64_w, i32_w]
                  rfl
                refine pure_ (i := 8) (N := some 79) (v := ?_) (a' := ?_) (dnA 17 511) rfl rfl (any_of HT_.out (by kernel_rfl)) (fun _ _ _ h => h) (Or.inl ⟨by rfl, ?_⟩) ?_ ?_
                rotate_left
                · intro w'
                  go_simp
                  with_reducible rfl
                rotate_left
                · simp only [Act.put, List.setIfInBounds_toArray, List.set_cons_zero, List.set_cons_succ, i64_w, i32_w]
                  rfl
                refine pure_ (i := 9) (N := some 80) (v := ?_) (a' := ?_) (dnA 17 1023) rfl rfl (any_of HT_.out (by kernel_rfl)) (fun _ _ _ h => h) (Or.inl ⟨by rfl, ?_⟩) ?_ ?_
                rotate_left
                · intro w'
                  go_simp
                  with_reducible rfl
                rotate_left
                · simp only [Act.put, List.setIfInBounds_toArray, List.set_cons_zero, List.set_cons_succ, i64_w, i32_w]
                  rfl
                refine pure_ (i := 10) (N := some 81) (v := ?_) (a' := ?_) (dnA 17 2047) rfl rfl (any_of HT_.out (by kernel_rfl)) (fun _ _ _ h => h) (Or.inl ⟨by rfl, ?_⟩) ?_ ?_
                rotate_left
                · intro w'
                  go_simp
                  with_reducible rfl
                rotate_left
                · simp only [Act.put, List.setIfInBounds_toArray, List.set_cons_zero, List.set_cons_succ, i64_w, i32_w]
                  rfl
                refine pure_ (i := 11) (N := some 82) (v := ?_) (a' := ?_) (dnA 17 4095) rfl rfl (any_of HT_.out (by kernel_rfl)) (fun _ _ _ h => h) (Or.inl ⟨by rfl, ?_⟩) ?_ ?_
                rotate_left
                · intro w'
                  go_simp
                  with_reducible rfl
                rotate_left
                · simp only [Act.put, List.setIfInBounds_toArray, List.set_cons_zero, List.set_cons_succ, i64_w, i32_w]
                  rfl
                refine pure_ (i := 13) (N := some 84) (v := ?_) (a' := ?_) (dnA 17 12287) rfl rfl (any_of HT_.out (by kernel_rfl)) (fun _ _ _ h => h) (Or.inl ⟨by rfl, ?_⟩) ?_ ?_
                rotate_left
                · intro w'
                  go_simp
                  with_reducible rfl
                rotate_left
                · simp only [Act.put, List.setIfInBounds_toArray, List.set_cons_zero, List.set_cons_succ, i64_w, i32_w]
                  rfl
                refine take_ (i := 12) (N := some 83) (v := ?_) (a' := ?_) (dnA 17 16383) rfl rfl (take_ofW HT_.out HW_.out (by kernel_rfl)) (fun _ _ _ h => h) (Or.inl ⟨by rfl, ?_⟩) hHeld ?_ ?_
                rotate_left
                · rintro w' ⟨s0, s1, s2, s3, s4, s5, s6, s7, s8, s9⟩
                  go_simp
                  with_reducible rfl
                rotate_left
                · simp only [Act.put, List.setIfInBounds_toArray, List.set_cons_zero, List.set_cons_succ, i64_w, i32_w]
                  rfl
                refine take_ (i := 14) (N := some 85) (v := ?_) (a' := ?_) (dnA 17 32767) rfl rfl (take_ofW HT_.out HW_.out (by kernel_rfl)) (fun _ _ _ h => h) (Or.inl ⟨by rfl, ?_⟩) hHeld ?_ ?_
                rotate_left
                · rintro w' ⟨s0, s1, s2, s3, s4, s5, s6, s7, s8, s9⟩
                  go_simp
                  with_reducible rfl
                rotate_left
                · simp only [Act.put, List.setIfInBounds_toArray, List.set_cons_zero, List.set_cons_succ, i64_w, i32_w]
                  rfl
                refine pure_ (i := 15) (N := some 86) (v := ?_) (a' := ?_) (dnA 17 65535) rfl rfl (any_of HT_.out (by kernel_rfl)) (fun _ _ _ h => h) (Or.inl ⟨by rfl, ?_⟩) ?_ ?_
                rotate_left
                · intro w'
                  go_simp
                  with_reducible rfl
                rotate_left
                · simp only [Act.put, List.setIfInBounds_toArray, List.set_cons_zero, List.set_cons_succ, i64_w, i32_w]
                  rfl
                refine pure_ (i := 16) (N := some 87) (v := ?_) (a' := ?_) (dnA 17 131071) rfl rfl (any_of HT_.out (by kernel_rfl)) (fun _ _ _ h => h) (Or.inl ⟨by rfl, ?_⟩) ?_ ?_
                rotate_left
                · intro w'
                  go_simp
                  with_reducible rfl
                rotate_left
                · simp only [Act.put, List.setIfInBounds_toArray, List.set_cons_zero, List.set_cons_succ, i64_w, i32_w]
                  rfl
                refine done_ (done_of HT_.out (by kernel_rfl)) ?_
                try go_wp2
                go_meet
                case rel => exact ⟨_, (decide (((rd_T51 l0 x14_3).f0) ≥ a2_0)), (by first | rfl | (simp; done) | (simp [*]; done)), H', ⟨by have := HJ4.out; have := HJ23.out; have := HK3.out; first | omega | exact Nat.le_refl _⟩, ⟨kA BK102.out⟩, ⟨kA BK103.out⟩, ⟨bG HB.out⟩⟩
              case rest =>
                clear HC43
                try clear c1
                try clear p1
                try clear q1
                try clear hx1
                try clear c2
                try clear p2
                try clear c3
                try clear c4
                try clear c5
                try clear c9
                try clear c11
                try clear p11
                try clear q11
                try clear hx11
                try clear c12
                try clear c16
                try clear c19
                try clear c21
                try clear c25
                try clear c30
                try clear c30b0
                try clear c30b1
                try clear c31
                try clear c31b0
                try clear c31b1
                try clear c32
                try clear c35
                try clear c38
                try clear c38b0
                try clear c39
                try clear c39b0
                try clear c40
                try clear c40b0
                try clear c40b1
                try clear c40b2
                try clear c44
                try clear c44b0
                try clear c44b1
                try clear hcz12_0
                try clear hcz12_1
                try clear hcz12_2
                try clear hcz12_3
                try clear hcz14_0
                try clear hcz14_1
                try clear hcz14_2
                try clear hcz14_3
                try clear hcz17_0
                try clear hcz17_1
                try clear hcz17_2
                try clear hcz17_3
                try clear hcz26_0
                try clear hcz26_1
                try clear hcz26_2
                try clear hcz26_3
                try clear hcz28_0
                try clear hcz28_1
                try clear hcz28_2
                try clear hcz28_3
                try clear hcz33_0
                try clear hcz33_1
                try clear hcz33_2
                try clear hcz33_3
                try clear hcz34_0
                try clear hcz34_1
                try clear hcz34_2
                try clear hcz34_3
                try clear hfz12_0
                try clear hfz12_1
                try clear hfz12_2
                try clear hfz12_3
                try clear hfz14_0
                try clear hfz14_1
                try clear hfz14_2
                try clear hfz14_3
                try clear hfz17_0
                try clear hfz17_1
                try clear hfz17_2
                try clear hfz17_3
                try clear hfz26_0
                try clear hfz26_1
                try clear hfz26_2
                try clear hfz26_3
                try clear hfz28_0
                try clear hfz28_1
                try clear hfz28_2
                try clear hfz28_3
                try clear hfz33_0
                try clear hfz33_1
                try clear hfz33_2
                try clear hfz33_3
                try clear hfz34_0
                try clear hfz34_1
                try clear hfz34_2
                try clear hfz34_3
                try clear hx114_0
                try clear hx114_1
                try clear hx114_2
                try clear hx116_0
                try clear hx116_1
                try clear hx116_2
                try clear hx117_0
                try clear hx117_1
                try clear hx117_2
                try clear p114
                try clear p116
                try clear p117
                try clear p2
                try clear q114
                try clear q116
                try clear q117
                obtain ⟨kq, x87_42, rfl, HA, HJ42, BK102, BK103, HB⟩ := hcut
                cases kq with
                | zero => exact absurd HA.out (by simp [tenorlaw15_PriceRises.j3])
                | succ kj42 =>
                  have H := HA.out
                  clear HA
                  simp only [tenorlaw15_PriceRises.j3] at H
                  by_cases c47 : x87_42 = true
                  rotate_left
                  · replace c47 := Bool.eq_false_iff.mpr c47
                    subst c47
                    have H1 : (tenorlaw15_PriceRises.l0 kj42 l0 a1 t107 t109 x13_3 (wrap64 (x14_3 + 1)) a2_0 a2_1 l2_2 l2_3 a3_0 a3_1 l3_2 l3_3) = some r := by rw [if_neg (show ¬ (false = true) by decide)] at H; exact H
                    clear H
                    have H := H1
                    clear H1
                    have H' := Aside0.mk H
                    clear H
                    go_wp2
                    go_roundg kj42
                    case measure => have := HJ4.out; have := HJ23.out; have := HK3.out; have := HJ42.out; omega
                    case rel => exact ⟨(x13_3), (wrap64 (x14_3 + 1)), (by first | rfl | (simp; done) | (simp [*]; done)), (by first | rfl | (simp; done) | (simp [*]; done)), H', ⟨by have := HJ4.out; have := HJ23.out; have := HK3.out; have := HJ42.out; omega⟩, ⟨kA BK102.out⟩, ⟨kA BK103.out⟩, ⟨bG HB.out⟩⟩
                  subst c47
                  have H1 : (if 0 ≤ x14_3 then (if x14_3 < (l0.length : Int) then ((curve_Factor.f kj42 a2_0 a2_1 l2_2 l2_3 ((rd_T51 l0 x14_3).f0)).bind fun bt119 => ((curve_Factor.f kj42 a3_0 a3_1 l3_2 l3_3 ((rd_T51 l0 x14_3).f0)).bind fun bt122 => (if bt119.2 = 0 then (if bt122.2 = 0 then (if x13_3 = true then (tenorlaw15_PriceRises.l0 kj42 l0 a1 t107 t109 (FloatKind.f64.format.order bt119.1 bt122.1 == some .lt || FloatKind.f64.format.order bt119.1 bt122.1 == some .eq) (wrap64 (x14_3 + 1)) a2_0 a2_1 l2_2 l2_3 a3_0 a3_1 l3_2 l3_3) else (tenorlaw15_PriceRises.l0 kj42 l0 a1 t107 t109 false (wrap64 (x14_3 + 1)) a2_0 a2_1 l2_2 l2_3 a3_0 a3_1 l3_2 l3_3)) else (some false)) else (some false)))) else (none)) else (none)) = some r := by rw [if_pos rfl] at H; exact H
                  clear H
                  have H := H1
                  clear H1
                  by_cases c48 : 0 ≤ x14_3
                  rotate_left
                  · rw [if_neg c48] at H
                    exact absurd H (by simp)
                  rw [if_pos c48] at H
                  have c48b0 : decide (0 ≤ x14_3) = true := decide_eq_true c48
                  clear c48
                  by_cases c49 : x14_3 < (l0.length : Int)
                  rotate_left
                  · rw [if_neg c49] at H
                    exact absurd H (by simp)
                  rw [if_pos c49] at H
                  have c49b0 : decide (x14_3 < (l0.length : Int)) = true := decide_eq_true c49
                  clear c49
                  replace H := Option.bind_eq_some_iff.mp H
                  obtain ⟨⟨t119, t120⟩, A500, H⟩ := H
                  have A50 := Aside0.mk A500
                  clear A500
                  replace H := Option.bind_eq_some_iff.mp H
                  obtain ⟨⟨t122, t123⟩, A510, H⟩ := H
                  have A51 := Aside0.mk A510
                  clear A510
                  by_cases c52 : t120 = 0
                  rotate_left
                  · rw [if_neg c52] at H
                    have c52b0 : (t120 == 0) = false := beq_eq_false_iff_ne.mpr c52
                    have c52b1 : (t120 != 0) = true := bne_iff_ne.mpr c52
                    obtain rfl := Option.some.inj H
                    try go_wp2
                    have n0_ := Aside0.mk (blk_drew BK102.out)
                    have n1_ := Aside0.mk (blk_drew BK103.out)
                    have n2_ := Aside0.mk (below_drew1 HB.out)
                    clear BK102
                    clear BK103
                    clear HB
                    have BK102 := n0_
                    have BK103 := n1_
                    have HB := n2_
                    clear n0_ n1_ n2_
                    have p118 : 0 ≤ (x14_3 : Int) := of_decide_eq_true asA
                    have q118 : x14_3 < (l0.length : Int) := of_decide_eq_true asA
                    obtain ⟨ad118, e118, hx118_0, hx118_1, hx118_2⟩ := at_T51 HR0.out x14_3 p118 q118
                    have hw118_2 := hx118_2
                    have hw118_1 := hx118_1
                    have hw118_0 := hx118_0
                    obtain rfl : ad114 = ad118 := (by injection e118)
                    replace hx118_0 := (HB.out.cell (World.block_lt_of_cell? w _ hx118_0)).trans hx118_0
                    replace hx118_1 := (HB.out.cell (World.block_lt_of_cell? w _ hx118_1)).trans hx118_1
                    replace hx118_2 := (HB.out.cell (World.block_lt_of_cell? w _ hx118_2)).trans hx118_2
                    replace p118 := eq_true p118
                    replace q118 := eq_true q118
                    refine start_ (n := 12) (S := fun w' => w'.cell? ⟨gb102, 0, none⟩ = some (.int .i64 a2_0) ∧ w'.cell? ⟨gb102, 1, none⟩ = some (.int .i64 a2_1) ∧ w'.cell? ⟨gb102, 2, none⟩ = some (.slice A2_2 l2_2.length c2_2) ∧ w'.cell? ⟨gb102, 3, none⟩ = some (.slice A2_3 l2_3.length c2_3) ∧ w'.cell? (ad114.add ((x14_3).toNat * 3)) = some (.int .i64 ((rd_T51 l0 x14_3).f0)) ∧ w'.cell? ⟨(ad114.add ((x14_3).toNat * 3)).block, (ad114.add ((x14_3).toNat * 3)).off + 1, none⟩ = some (.float .f64 ((rd_T51 l0 x14_3).f1)) ∧ w'.cell? ⟨(ad114.add ((x14_3).toNat * 3)).block, (ad114.add ((x14_3).toNat * 3)).off + 2, none⟩ = some (.int .i64 ((rd_T51 l0 x14_3).f2))) (ds := []) (dnA 12 0) (by kernel_rfl) rfl rfl ⟨(blk_cell BK102.out 0).trans rfl, (blk_cell BK102.out 1).trans rfl, (blk_cell BK102.out 2).trans rfl, (blk_cell BK102.out 3).trans rfl, ((HB.out.cell (World.block_lt_of_cell? w _ hw118_0)).trans hw118_0), ((HB.out.cell (World.block_lt_of_cell? w _ hw118_1)).trans hw118_1), ((HB.out.cell (World.block_lt_of_cell? w _ hw118_2)).trans hw118_2)⟩ (fun hHeld => ?_); refine with_tabW tenorlaw15_PriceRises.tab14 tenorlaw15_PriceRises.bits14 (fun HT_ HW_ => ?_)
                    generalize wc.drew = w67 at BK102 BK103 HB hx118_0 hx118_1 hx118_2 hHeld ⊢
                    refine pure_ (i := 1) (N := some 90) (v := ?_) (a' := ?_) (dnA 12 2) rfl rfl (any_of HT_.out (by kernel_rfl)) (fun _ _ _ h => h) (Or.inl ⟨by rfl, ?_⟩) ?_ ?_
                    rotate_left
                    · intro w'
                      go_simp
                      with_reducible rfl
                    rotate_left
                    · simp only [Act.put, List.setIfInBounds_toArray, List.set_cons_zero, List.set_cons_succ, i64_w, i32_w]
                      rfl
                    refine pure_ (i := 2) (N := some 91) (v := ?_) (a' := ?_) (dnA 12 6) rfl rfl (any_of HT_.out (by kernel_rfl)) (fun _ _ _ h => h) (Or.inl ⟨by rfl, ?_⟩) ?_ ?_
                    rotate_left
                    · intro w'
                      go_simp
                      with_reducible rfl
                    rotate_left
                    · simp only [Act.put, List.setIfInBounds_toArray, List.set_cons_zero, List.set_cons_succ, i64_w, i32_w]
                      rfl
                    refine pure_ (i := 3) (N := some 92) (v := ?_) (a' := ?_) (dnA 12 14) rfl rfl (any_of HT_.out (by kernel_rfl)) (fun _ _ _ h => h) (Or.inl ⟨by rfl, ?_⟩) ?_ ?_
                    rotate_left
                    · intro w'
                      go_simp
                      with_reducible rfl
                    rotate_left
                    · simp only [Act.put, List.setIfInBounds_toArray, List.set_cons_zero, List.set_cons_succ, i64_w, i32_w]
                      rfl
                    refine pure_ (i := 4) (N := some 93) (v := ?_) (a' := ?_) (dnA 12 30) rfl rfl (any_of HT_.out (by kernel_rfl)) (fun _ _ _ h => h) (Or.inl ⟨by rfl, ?_⟩) ?_ ?_
                    rotate_left
                    · intro w'
                      go_simp
                      with_reducible rfl
                    rotate_left
                    · simp only [Act.put, List.setIfInBounds_toArray, List.set_cons_zero, List.set_cons_succ, i64_w, i32_w]
                      rfl
                    refine take_ (i := 0) (N := some 89) (v := ?_) (a' := ?_) (dnA 12 31) rfl rfl (take_ofW HT_.out HW_.out (by kernel_rfl)) (fun _ _ _ h => h) (Or.inl ⟨by rfl, ?_⟩) hHeld ?_ ?_
                    rotate_left
                    · rintro w' ⟨s0, s1, s2, s3, s4, s5, s6⟩
                      go_simp
                      with_reducible rfl
                    rotate_left
                    · simp only [Act.put, List.setIfInBounds_toArray, List.set_cons_zero, List.set_cons_succ, i64_w, i32_w]
                      rfl
                    refine take_ (i := 5) (N := some 94) (v := ?_) (a' := ?_) (dnA 12 63) rfl rfl (take_ofW HT_.out HW_.out (by kernel_rfl)) (fun _ _ _ h => h) (Or.inl ⟨by rfl, ?_⟩) hHeld ?_ ?_
                    rotate_left
                    · rintro w' ⟨s0, s1, s2, s3, s4, s5, s6⟩
                      go_simp
                      with_reducible rfl
                    rotate_left
                    · simp only [Act.put, List.setIfInBounds_toArray, List.set_cons_zero, List.set_cons_succ, i64_w, i32_w]
                      rfl
                    refine one_ (i := 6) (N := some 95) (dnA 12 127) rfl rfl (one_of HT_.out (by kernel_rfl)) (by decide) (fun K hK => ?_)
                    refine goes_ Try.func24 (by kernel_rfl) rfl #[.agg #[.int .i64 a2_0, .int .i64 a2_1, .slice A2_2 l2_2.length c2_2, .slice A2_3 l2_3.length c2_3], .int .i64 ((rd_T51 l0 x14_3).f0)] (by rfl) rfl rfl mA ?_
                    with_reducible refine (curve_Factor.calls kj42 a2_0 a2_1 _ _ l2_2 _ _ l2_3 ((rd_T51 l0 x14_3).f0) t119 t120 _ ?side1 ?side2 ?side3 ?side4 A50.out).mono ?_
                    (case side1 => exact cA (Kd.C_below HR2_2.out HB.out))
                    (case side2 => exact HC2_2.out)
                    (case side3 => exact cA (Kd.C_below HR2_3.out HB.out))
                    (case side4 => exact HC2_3.out)
                    rintro e w68 ⟨rfl, hb⟩
                    refine ⟨_, rfl, ?_⟩
                    have n0_ := Aside0.mk (blk_below (g := gb102) (o := .cells #[.int .i64 a2_0, .int .i64 a2_1, .slice A2_2 l2_2.length c2_2, .slice A2_3 l2_3.length c2_3] 26 (0, 0)) (kA BK102.out) hb)
                    have n1_ := Aside0.mk (blk_below (g := gb103) (o := .cells #[.int .i64 a3_0, .int .i64 a3_1, .slice A3_2 l3_2.length c3_2, .slice A3_3 l3_3.length c3_3] 26 (0, 0)) (kA BK103.out) hb)
                    have n2_ := Aside0.mk (below_step (bG HB.out) hb)
                    clear BK102
                    clear BK103
                    clear HB
                    have BK102 := n0_
                    have BK103 := n1_
                    have HB := n2_
                    clear n0_ n1_ n2_
                    (try clear hb)
                    (try clear hb2)
                    (try clear hk)
                    (try clear hi)
                    refine hK.out _ _ ⟨(blk_cell BK102.out 0).trans rfl, (blk_cell BK102.out 1).trans rfl, (blk_cell BK102.out 2).trans rfl, (blk_cell BK102.out 3).trans rfl, ((HB.out.cell (World.block_lt_of_cell? w _ hw118_0)).trans hw118_0), ((HB.out.cell (World.block_lt_of_cell? w _ hw118_1)).trans hw118_1), ((HB.out.cell (World.block_lt_of_cell? w _ hw118_2)).trans hw118_2)⟩ (fun hHeld => ?_)
                    clear hK K
                    refine norm_ (a' := ?_) ?_ ?_
                    rotate_left
                    · show Act.put _ (some 95) _ = _
                      simp only [Act.put, List.setIfInBounds_toArray, List.set_cons_zero, List.set_cons_succ, i64_w, i32_w]
                      rfl
                    refine pure_ (i := 7) (N := some 88) (v := ?_) (a' := ?_) (dnA 12 255) rfl rfl (any_of HT_.out (by kernel_rfl)) (fun _ _ _ h => h) (Or.inl ⟨by rfl, ?_⟩) ?_ ?_
                    rotate_left
                    · intro w'
                      go_simp
                      with_reducible rfl
                    rotate_left
                    · simp only [Act.put, List.setIfInBounds_toArray, List.set_cons_zero, List.set_cons_succ, i64_w, i32_w]
                      rfl
                    refine pure_ (i := 8) (N := some 96) (v := ?_) (a' := ?_) (dnA 12 511) rfl rfl (any_of HT_.out (by kernel_rfl)) (fun _ _ _ h => h) (Or.inl ⟨by rfl, ?_⟩) ?_ ?_
                    rotate_left
                    · intro w'
                      go_simp
                      with_reducible rfl
                    rotate_left
                    · simp only [Act.put, List.setIfInBounds_toArray, List.set_cons_zero, List.set_cons_succ, i64_w, i32_w]
                      rfl
                    refine pure_ (i := 9) (N := some 97) (v := ?_) (a' := ?_) (dnA 12 1023) rfl rfl (any_of HT_.out (by kernel_rfl)) (fun _ _ _ h => h) (Or.inl ⟨by rfl, ?_⟩) ?_ ?_
                    rotate_left
                    · intro w'
                      go_simp
                      with_reducible rfl
                    rotate_left
                    · simp only [Act.put, List.setIfInBounds_toArray, List.set_cons_zero, List.set_cons_succ, i64_w, i32_w]
                      rfl
                    refine pure_ (i := 10) (N := some 15) (v := ?_) (a' := ?_) (dnA 12 2047) rfl rfl (any_of HT_.out (by kernel_rfl)) (fun _ _ _ h => h) (Or.inl ⟨by rfl, ?_⟩) ?_ ?_
                    rotate_left
                    · intro w'
                      go_simp
                      with_reducible rfl
                    rotate_left
                    · simp only [Act.put, List.setIfInBounds_toArray, List.set_cons_zero, List.set_cons_succ, i64_w, i32_w]
                      rfl
                    refine pure_ (i := 11) (N := some 16) (v := ?_) (a' := ?_) (dnA 12 4095) rfl rfl (any_of HT_.out (by kernel_rfl)) (fun _ _ _ h => h) (Or.inl ⟨by rfl, ?_⟩) ?_ ?_
                    rotate_left
                    · intro w'
                      go_simp
                      with_reducible rfl
                    rotate_left
                    · simp only [Act.put, List.setIfInBounds_toArray, List.set_cons_zero, List.set_cons_succ, i64_w, i32_w]
                      rfl
                    refine done_ (done_of HT_.out (by kernel_rfl)) ?_
                    try go_wp2
                    have n0_ := Aside0.mk (blk_drew BK102.out)
                    have n1_ := Aside0.mk (blk_drew BK103.out)
                    have n2_ := Aside0.mk (below_drew1 HB.out)
                    clear BK102
                    clear BK103
                    clear HB
                    have BK102 := n0_
                    have BK103 := n1_
                    have HB := n2_
                    clear n0_ n1_ n2_
                    have p121 : 0 ≤ (x14_3 : Int) := of_decide_eq_true asA
                    have q121 : x14_3 < (l0.length : Int) := of_decide_eq_true asA
                    obtain ⟨ad121, e121, hx121_0, hx121_1, hx121_2⟩ := at_T51 HR0.out x14_3 p121 q121
                    have hw121_2 := hx121_2
                    have hw121_1 := hx121_1
                    have hw121_0 := hx121_0
                    obtain rfl : ad114 = ad121 := (by injection e121)
                    replace hx121_0 := (HB.out.cell (World.block_lt_of_cell? w _ hx121_0)).trans hx121_0
                    replace hx121_1 := (HB.out.cell (World.block_lt_of_cell? w _ hx121_1)).trans hx121_1
                    replace hx121_2 := (HB.out.cell (World.block_lt_of_cell? w _ hx121_2)).trans hx121_2
                    replace p121 := eq_true p121
                    replace q121 := eq_true q121
                    refine start_ (n := 12) (S := fun w' => w'.cell? ⟨gb103, 0, none⟩ = some (.int .i64 a3_0) ∧ w'.cell? ⟨gb103, 1, none⟩ = some (.int .i64 a3_1) ∧ w'.cell? ⟨gb103, 2, none⟩ = some (.slice A3_2 l3_2.length c3_2) ∧ w'.cell? ⟨gb103, 3, none⟩ = some (.slice A3_3 l3_3.length c3_3) ∧ w'.cell? (ad114.add ((x14_3).toNat * 3)) = some (.int .i64 ((rd_T51 l0 x14_3).f0)) ∧ w'.cell? ⟨(ad114.add ((x14_3).toNat * 3)).block, (ad114.add ((x14_3).toNat * 3)).off + 1, none⟩ = some (.float .f64 ((rd_T51 l0 x14_3).f1)) ∧ w'.cell? ⟨(ad114.add ((x14_3).toNat * 3)).block, (ad114.add ((x14_3).toNat * 3)).off + 2, none⟩ = some (.int .i64 ((rd_T51 l0 x14_3).f2))) (ds := []) (dnA 12 0) (by kernel_rfl) rfl rfl ⟨(blk_cell BK103.out 0).trans rfl, (blk_cell BK103.out 1).trans rfl, (blk_cell BK103.out 2).trans rfl, (blk_cell BK103.out 3).trans rfl, ((HB.out.cell (World.block_lt_of_cell? w _ hw121_0)).trans hw121_0), ((HB.out.cell (World.block_lt_of_cell? w _ hw121_1)).trans hw121_1), ((HB.out.cell (World.block_lt_of_cell? w _ hw121_2)).trans hw121_2)⟩ (fun hHeld => ?_); refine with_tabW tenorlaw15_PriceRises.tab15 tenorlaw15_PriceRises.bits15 (fun HT_ HW_ => ?_)
                    generalize w68.drew = w69 at BK102 BK103 HB hx121_0 hx121_1 hx121_2 hHeld ⊢
                    refine pure_ (i := 1) (N := some 100) (v := ?_) (a' := ?_) (dnA 12 2) rfl rfl (any_of HT_.out (by kernel_rfl)) (fun _ _ _ h => h) (Or.inl ⟨by rfl, ?_⟩) ?_ ?_
                    rotate_left
                    · intro w'
                      go_simp
                      with_reducible rfl
                    rotate_left
                    · simp only [Act.put, List.setIfInBounds_toArray, List.set_cons_zero, List.set_cons_succ, i64_w, i32_w]
                      rfl
                    refine pure_ (i := 2) (N := some 101) (v := ?_) (a' := ?_) (dnA 12 6) rfl rfl (any_of HT_.out (by kernel_rfl)) (fun _ _ _ h => h) (Or.inl ⟨by rfl, ?_⟩) ?_ ?_
                    rotate_left
                    · intro w'
                      go_simp
                      with_reducible rfl
                    rotate_left
                    · simp only [Act.put, List.setIfInBounds_toArray, List.set_cons_zero, List.set_cons_succ, i64_w, i32_w]
                      rfl
                    refine pure_ (i := 3) (N := some 102) (v := ?_) (a' := ?_) (dnA 12 14) rfl rfl (any_of HT_.out (by kernel_rfl)) (fun _ _ _ h => h) (Or.inl ⟨by rfl, ?_⟩) ?_ ?_
                    rotate_left
                    · intro w'
                      go_simp
                      with_reducible rfl
                    rotate_left
                    · simp only [Act.put, List.setIfInBounds_toArray, List.set_cons_zero, List.set_cons_succ, i64_w, i32_w]
                      rfl
                    refine pure_ (i := 4) (N := some 103) (v := ?_) (a' := ?_) (dnA 12 30) rfl rfl (any_of HT_.out (by kernel_rfl)) (fun _ _ _ h => h) (Or.inl ⟨by rfl, ?_⟩) ?_ ?_
                    rotate_left
                    · intro w'
                      go_simp
                      with_reducible rfl
                    rotate_left
                    · simp only [Act.put, List.setIfInBounds_toArray, List.set_cons_zero, List.set_cons_succ, i64_w, i32_w]
                      rfl
                    refine take_ (i := 0) (N := some 99) (v := ?_) (a' := ?_) (dnA 12 31) rfl rfl (take_ofW HT_.out HW_.out (by kernel_rfl)) (fun _ _ _ h => h) (Or.inl ⟨by rfl, ?_⟩) hHeld ?_ ?_
                    rotate_left
                    · rintro w' ⟨s0, s1, s2, s3, s4, s5, s6⟩
                      go_simp
                      with_reducible rfl
                    rotate_left
                    · simp only [Act.put, List.setIfInBounds_toArray, List.set_cons_zero, List.set_cons_succ, i64_w, i32_w]
                      rfl
                    refine take_ (i := 5) (N := some 104) (v := ?_) (a' := ?_) (dnA 12 63) rfl rfl (take_ofW HT_.out HW_.out (by kernel_rfl)) (fun _ _ _ h => h) (Or.inl ⟨by rfl, ?_⟩) hHeld ?_ ?_
                    rotate_left
                    · rintro w' ⟨s0, s1, s2, s3, s4, s5, s6⟩
                      go_simp
                      with_reducible rfl
                    rotate_left
                    · simp only [Act.put, List.setIfInBounds_toArray, List.set_cons_zero, List.set_cons_succ, i64_w, i32_w]
                      rfl
                    refine one_ (i := 6) (N := some 105) (dnA 12 127) rfl rfl (one_of HT_.out (by kernel_rfl)) (by decide) (fun K hK => ?_)
                    refine goes_ Try.func24 (by kernel_rfl) rfl #[.agg #[.int .i64 a3_0, .int .i64 a3_1, .slice A3_2 l3_2.length c3_2, .slice A3_3 l3_3.length c3_3], .int .i64 ((rd_T51 l0 x14_3).f0)] (by rfl) rfl rfl mA ?_
                    with_reducible refine (curve_Factor.calls kj42 a3_0 a3_1 _ _ l3_2 _ _ l3_3 ((rd_T51 l0 x14_3).f0) t122 t123 _ ?side1 ?side2 ?side3 ?side4 A51.out).mono ?_
                    (case side1 => exact cA (Kd.C_below HR3_2.out HB.out))
                    (case side2 => exact HC3_2.out)
                    (case side3 => exact cA (Kd.C_below HR3_3.out HB.out))
                    (case side4 => exact HC3_3.out)
                    rintro e w70 ⟨rfl, hb⟩
                    refine ⟨_, rfl, ?_⟩
                    have n0_ := Aside0.mk (blk_below (g := gb102) (o := .cells #[.int .i64 a2_0, .int .i64 a2_1, .slice A2_2 l2_2.length c2_2, .slice A2_3 l2_3.length c2_3] 26 (0, 0)) (kA BK102.out) hb)
                    have n1_ := Aside0.mk (blk_below (g := gb103) (o := .cells #[.int .i64 a3_0, .int .i64 a3_1, .slice A3_2 l3_2.length c3_2, .slice A3_3 l3_3.length c3_3] 26 (0, 0)) (kA BK103.out) hb)
                    have n2_ := Aside0.mk (below_step (bG HB.out) hb)
                    clear BK102
                    clear BK103
                    clear HB
                    have BK102 := n0_
                    have BK103 := n1_
                    have HB := n2_
                    clear n0_ n1_ n2_
                    (try clear hb)
                    (try clear hb2)
                    (try clear hk)
                    (try clear hi)
                    refine hK.out _ _ ⟨(blk_cell BK103.out 0).trans rfl, (blk_cell BK103.out 1).trans rfl, (blk_cell BK103.out 2).trans rfl, (blk_cell BK103.out 3).trans rfl, ((HB.out.cell (World.block_lt_of_cell? w _ hw121_0)).trans hw121_0), ((HB.out.cell (World.block_lt_of_cell? w _ hw121_1)).trans hw121_1), ((HB.out.cell (World.block_lt_of_cell? w _ hw121_2)).trans hw121_2)⟩ (fun hHeld => ?_)
                    clear hK K
                    refine norm_ (a' := ?_) ?_ ?_
                    rotate_left
                    · show Act.put _ (some 105) _ = _
                      simp only [Act.put, List.setIfInBounds_toArray, List.set_cons_zero, List.set_cons_succ, i64_w, i32_w]
                      rfl
                    refine pure_ (i := 7) (N := some 98) (v := ?_) (a' := ?_) (dnA 12 255) rfl rfl (any_of HT_.out (by kernel_rfl)) (fun _ _ _ h => h) (Or.inl ⟨by rfl, ?_⟩) ?_ ?_
                    rotate_left
                    · intro w'
                      go_simp
                      with_reducible rfl
                    rotate_left
                    · simp only [Act.put, List.setIfInBounds_toArray, List.set_cons_zero, List.set_cons_succ, i64_w, i32_w]
                      rfl
                    refine pure_ (i := 8) (N := some 106) (v := ?_) (a' := ?_) (dnA 12 511) rfl rfl (any_of HT_.out (by kernel_rfl)) (fun _ _ _ h => h) (Or.inl ⟨by rfl, ?_⟩) ?_ ?_
                    rotate_left
                    · intro w'
                      go_simp
                      with_reducible rfl
                    rotate_left
                    · simp only [Act.put, List.setIfInBounds_toArray, List.set_cons_zero, List.set_cons_succ, i64_w, i32_w]
                      rfl
                    refine pure_ (i := 9) (N := some 107) (v := ?_) (a' := ?_) (dnA 12 1023) rfl rfl (any_of HT_.out (by kernel_rfl)) (fun _ _ _ h => h) (Or.inl ⟨by rfl, ?_⟩) ?_ ?_
                    rotate_left
                    · intro w'
                      go_simp
                      with_reducible rfl
                    rotate_left
                    · simp only [Act.put, List.setIfInBounds_toArray, List.set_cons_zero, List.set_cons_succ, i64_w, i32_w]
                      rfl
                    refine pure_ (i := 10) (N := some 17) (v := ?_) (a' := ?_) (dnA 12 2047) rfl rfl (any_of HT_.out (by kernel_rfl)) (fun _ _ _ h => h) (Or.inl ⟨by rfl, ?_⟩) ?_ ?_
                    rotate_left
                    · intro w'
                      go_simp
                      with_reducible rfl
                    rotate_left
                    · simp only [Act.put, List.setIfInBounds_toArray, List.set_cons_zero, List.set_cons_succ, i64_w, i32_w]
                      rfl
                    refine pure_ (i := 11) (N := some 18) (v := ?_) (a' := ?_) (dnA 12 4095) rfl rfl (any_of HT_.out (by kernel_rfl)) (fun _ _ _ h => h) (Or.inl ⟨by rfl, ?_⟩) ?_ ?_
                    rotate_left
                    · intro w'
                      go_simp
                      with_reducible rfl
                    rotate_left
                    · simp only [Act.put, List.setIfInBounds_toArray, List.set_cons_zero, List.set_cons_succ, i64_w, i32_w]
                      rfl
                    refine done_ (done_of HT_.out (by kernel_rfl)) ?_
                    try go_wp2
                    go_ret
                    exact ⟨by first | rfl | (simp [errW_none, errW_some] <;> rfl) | (simp [*, errW_none, errW_some] <;> rfl), bG HB.out⟩
                  rw [if_pos c52] at H
                  have c52b0 : (t120 == 0) = true := beq_iff_eq.mpr c52
                  have c52b1 : (t120 != 0) = false := bne_eq_false_iff_eq.mpr c52
                  clear c52
                  by_cases c53 : t123 = 0
                  rotate_left
                  · rw [if_neg c53] at H
                    have c53b0 : (t123 == 0) = false := beq_eq_false_iff_ne.mpr c53
                    have c53b1 : (t123 != 0) = true := bne_iff_ne.mpr c53
                    obtain rfl := Option.some.inj H
                    try go_wp2
                    have n0_ := Aside0.mk (blk_drew BK102.out)
                    have n1_ := Aside0.mk (blk_drew BK103.out)
                    have n2_ := Aside0.mk (below_drew1 HB.out)
                    clear BK102
                    clear BK103
                    clear HB
                    have BK102 := n0_
                    have BK103 := n1_
                    have HB := n2_
                    clear n0_ n1_ n2_
                    have p118 : 0 ≤ (x14_3 : Int) := of_decide_eq_true asA
                    have q118 : x14_3 < (l0.length : Int) := of_decide_eq_true asA
                    obtain ⟨ad118, e118, hx118_0, hx118_1, hx118_2⟩ := at_T51 HR0.out x14_3 p118 q118
                    have hw118_2 := hx118_2
                    have hw118_1 := hx118_1
                    have hw118_0 := hx118_0
                    obtain rfl : ad114 = ad118 := (by injection e118)
                    replace hx118_0 := (HB.out.cell (World.block_lt_of_cell? w _ hx118_0)).trans hx118_0
                    replace hx118_1 := (HB.out.cell (World.block_lt_of_cell? w _ hx118_1)).trans hx118_1
                    replace hx118_2 := (HB.out.cell (World.block_lt_of_cell? w _ hx118_2)).trans hx118_2
                    replace p118 := eq_true p118
                    replace q118 := eq_true q118
                    refine start_ (n := 12) (S := fun w' => w'.cell? ⟨gb102, 0, none⟩ = some (.int .i64 a2_0) ∧ w'.cell? ⟨gb102, 1, none⟩ = some (.int .i64 a2_1) ∧ w'.cell? ⟨gb102, 2, none⟩ = some (.slice A2_2 l2_2.length c2_2) ∧ w'.cell? ⟨gb102, 3, none⟩ = some (.slice A2_3 l2_3.length c2_3) ∧ w'.cell? (ad114.add ((x14_3).toNat * 3)) = some (.int .i64 ((rd_T51 l0 x14_3).f0)) ∧ w'.cell? ⟨(ad114.add ((x14_3).toNat * 3)).block, (ad114.add ((x14_3).toNat * 3)).off + 1, none⟩ = some (.float .f64 ((rd_T51 l0 x14_3).f1)) ∧ w'.cell? ⟨(ad114.add ((x14_3).toNat * 3)).block, (ad114.add ((x14_3).toNat * 3)).off + 2, none⟩ = some (.int .i64 ((rd_T51 l0 x14_3).f2))) (ds := []) (dnA 12 0) (by kernel_rfl) rfl rfl ⟨(blk_cell BK102.out 0).trans rfl, (blk_cell BK102.out 1).trans rfl, (blk_cell BK102.out 2).trans rfl, (blk_cell BK102.out 3).trans rfl, ((HB.out.cell (World.block_lt_of_cell? w _ hw118_0)).trans hw118_0), ((HB.out.cell (World.block_lt_of_cell? w _ hw118_1)).trans hw118_1), ((HB.out.cell (World.block_lt_of_cell? w _ hw118_2)).trans hw118_2)⟩ (fun hHeld => ?_); refine with_tabW tenorlaw15_PriceRises.tab14 tenorlaw15_PriceRises.bits14 (fun HT_ HW_ => ?_)
                    generalize wc.drew = w63 at BK102 BK103 HB hx118_0 hx118_1 hx118_2 hHeld ⊢
                    refine pure_ (i := 1) (N := some 90) (v := ?_) (a' := ?_) (dnA 12 2) rfl rfl (any_of HT_.out (by kernel_rfl)) (fun _ _ _ h => h) (Or.inl ⟨by rfl, ?_⟩) ?_ ?_
                    rotate_left
                    · intro w'
                      go_simp
                      with_reducible rfl
                    rotate_left
                    · simp only [Act.put, List.setIfInBounds_toArray, List.set_cons_zero, List.set_cons_succ, i64_w, i32_w]
                      rfl
                    refine pure_ (i := 2) (N := some 91) (v := ?_) (a' := ?_) (dnA 12 6) rfl rfl (any_of HT_.out (by kernel_rfl)) (fun _ _ _ h => h) (Or.inl ⟨by rfl, ?_⟩) ?_ ?_
                    rotate_left
                    · intro w'
                      go_simp
                      with_reducible rfl
                    rotate_left
                    · simp only [Act.put, List.setIfInBounds_toArray, List.set_cons_zero, List.set_cons_succ, i64_w, i32_w]
                      rfl
                    refine pure_ (i := 3) (N := some 92) (v := ?_) (a' := ?_) (dnA 12 14) rfl rfl (any_of HT_.out (by kernel_rfl)) (fun _ _ _ h => h) (Or.inl ⟨by rfl, ?_⟩) ?_ ?_
                    rotate_left
                    · intro w'
                      go_simp
                      with_reducible rfl
                    rotate_left
                    · simp only [Act.put, List.setIfInBounds_toArray, List.set_cons_zero, List.set_cons_succ, i64_w, i32_w]
                      rfl
                    refine pure_ (i := 4) (N := some 93) (v := ?_) (a' := ?_) (dnA 12 30) rfl rfl (any_of HT_.out (by kernel_rfl)) (fun _ _ _ h => h) (Or.inl ⟨by rfl, ?_⟩) ?_ ?_
                    rotate_left
                    · intro w'
                      go_simp
                      with_reducible rfl
                    rotate_left
                    · simp only [Act.put, List.setIfInBounds_toArray, List.set_cons_zero, List.set_cons_succ, i64_w, i32_w]
                      rfl
                    refine take_ (i := 0) (N := some 89) (v := ?_) (a' := ?_) (dnA 12 31) rfl rfl (take_ofW HT_.out HW_.out (by kernel_rfl)) (fun _ _ _ h => h) (Or.inl ⟨by rfl, ?_⟩) hHeld ?_ ?_
                    rotate_left
                    · rintro w' ⟨s0, s1, s2, s3, s4, s5, s6⟩
                      go_simp
                      with_reducible rfl
                    rotate_left
                    · simp only [Act.put, List.setIfInBounds_toArray, List.set_cons_zero, List.set_cons_succ, i64_w, i32_w]
                      rfl
                    refine take_ (i := 5) (N := some 94) (v := ?_) (a' := ?_) (dnA 12 63) rfl rfl (take_ofW HT_.out HW_.out (by kernel_rfl)) (fun _ _ _ h => h) (Or.inl ⟨by rfl, ?_⟩) hHeld ?_ ?_
                    rotate_left
                    · rintro w' ⟨s0, s1, s2, s3, s4, s5, s6⟩
                      go_simp
                      with_reducible rfl
                    rotate_left
                    · simp only [Act.put, List.setIfInBounds_toArray, List.set_cons_zero, List.set_cons_succ, i64_w, i32_w]
                      rfl
                    refine one_ (i := 6) (N := some 95) (dnA 12 127) rfl rfl (one_of HT_.out (by kernel_rfl)) (by decide) (fun K hK => ?_)
                    refine goes_ Try.func24 (by kernel_rfl) rfl #[.agg #[.int .i64 a2_0, .int .i64 a2_1, .slice A2_2 l2_2.length c2_2, .slice A2_3 l2_3.length c2_3], .int .i64 ((rd_T51 l0 x14_3).f0)] (by rfl) rfl rfl mA ?_
                    with_reducible refine (curve_Factor.calls kj42 a2_0 a2_1 _ _ l2_2 _ _ l2_3 ((rd_T51 l0 x14_3).f0) t119 t120 _ ?side1 ?side2 ?side3 ?side4 A50.out).mono ?_
                    (case side1 => exact cA (Kd.C_below HR2_2.out HB.out))
                    (case side2 => exact HC2_2.out)
                    (case side3 => exact cA (Kd.C_below HR2_3.out HB.out))
                    (case side4 => exact HC2_3.out)
                    rintro e w64 ⟨rfl, hb⟩
                    refine ⟨_, rfl, ?_⟩
                    have n0_ := Aside0.mk (blk_below (g := gb102) (o := .cells #[.int .i64 a2_0, .int .i64 a2_1, .slice A2_2 l2_2.length c2_2, .slice A2_3 l2_3.length c2_3] 26 (0, 0)) (kA BK102.out) hb)
                    have n1_ := Aside0.mk (blk_below (g := gb103) (o := .cells #[.int .i64 a3_0, .int .i64 a3_1, .slice A3_2 l3_2.length c3_2, .slice A3_3 l3_3.length c3_3] 26 (0, 0)) (kA BK103.out) hb)
                    have n2_ := Aside0.mk (below_step (bG HB.out) hb)
                    clear BK102
                    clear BK103
                    clear HB
                    have BK102 := n0_
                    have BK103 := n1_
                    have HB := n2_
                    clear n0_ n1_ n2_
                    (try clear hb)
                    (try clear hb2)
                    (try clear hk)
                    (try clear hi)
                    refine hK.out _ _ ⟨(blk_cell BK102.out 0).trans rfl, (blk_cell BK102.out 1).trans rfl, (blk_cell BK102.out 2).trans rfl, (blk_cell BK102.out 3).trans rfl, ((HB.out.cell (World.block_lt_of_cell? w _ hw118_0)).trans hw118_0), ((HB.out.cell (World.block_lt_of_cell? w _ hw118_1)).trans hw118_1), ((HB.out.cell (World.block_lt_of_cell? w _ hw118_2)).trans hw118_2)⟩ (fun hHeld => ?_)
                    clear hK K
                    refine norm_ (a' := ?_) ?_ ?_
                    rotate_left
                    · show Act.put _ (some 95) _ = _
                      simp only [Act.put, List.setIfInBounds_toArray, List.set_cons_zero, List.set_cons_succ, i64_w, i32_w]
                      rfl
                    refine pure_ (i := 7) (N := some 88) (v := ?_) (a' := ?_) (dnA 12 255) rfl rfl (any_of HT_.out (by kernel_rfl)) (fun _ _ _ h => h) (Or.inl ⟨by rfl, ?_⟩) ?_ ?_
                    rotate_left
                    · intro w'
                      go_simp
                      with_reducible rfl
                    rotate_left
                    · simp only [Act.put, List.setIfInBounds_toArray, List.set_cons_zero, List.set_cons_succ, i64_w, i32_w]
                      rfl
                    refine pure_ (i := 8) (N := some 96) (v := ?_) (a' := ?_) (dnA 12 511) rfl rfl (any_of HT_.out (by kernel_rfl)) (fun _ _ _ h => h) (Or.inl ⟨by rfl, ?_⟩) ?_ ?_
                    rotate_left
                    · intro w'
                      go_simp
                      with_reducible rfl
                    rotate_left
                    · simp only [Act.put, List.setIfInBounds_toArray, List.set_cons_zero, List.set_cons_succ, i64_w, i32_w]
                      rfl
                    refine pure_ (i := 9) (N := some 97) (v := ?_) (a' := ?_) (dnA 12 1023) rfl rfl (any_of HT_.out (by kernel_rfl)) (fun _ _ _ h => h) (Or.inl ⟨by rfl, ?_⟩) ?_ ?_
                    rotate_left
                    · intro w'
                      go_simp
                      with_reducible rfl
                    rotate_left
                    · simp only [Act.put, List.setIfInBounds_toArray, List.set_cons_zero, List.set_cons_succ, i64_w, i32_w]
                      rfl
                    refine pure_ (i := 10) (N := some 15) (v := ?_) (a' := ?_) (dnA 12 2047) rfl rfl (any_of HT_.out (by kernel_rfl)) (fun _ _ _ h => h) (Or.inl ⟨by rfl, ?_⟩) ?_ ?_
                    rotate_left
                    · intro w'
                      go_simp
                      with_reducible rfl
                    rotate_left
                    · simp only [Act.put, List.setIfInBounds_toArray, List.set_cons_zero, List.set_cons_succ, i64_w, i32_w]
                      rfl
                    refine pure_ (i := 11) (N := some 16) (v := ?_) (a' := ?_) (dnA 12 4095) rfl rfl (any_of HT_.out (by kernel_rfl)) (fun _ _ _ h => h) (Or.inl ⟨by rfl, ?_⟩) ?_ ?_
                    rotate_left
                    · intro w'
                      go_simp
                      with_reducible rfl
                    rotate_left
                    · simp only [Act.put, List.setIfInBounds_toArray, List.set_cons_zero, List.set_cons_succ, i64_w, i32_w]
                      rfl
                    refine done_ (done_of HT_.out (by kernel_rfl)) ?_
                    try go_wp2
                    have n0_ := Aside0.mk (blk_drew BK102.out)
                    have n1_ := Aside0.mk (blk_drew BK103.out)
                    have n2_ := Aside0.mk (below_drew1 HB.out)
                    clear BK102
                    clear BK103
                    clear HB
                    have BK102 := n0_
                    have BK103 := n1_
                    have HB := n2_
                    clear n0_ n1_ n2_
                    have p121 : 0 ≤ (x14_3 : Int) := of_decide_eq_true asA
                    have q121 : x14_3 < (l0.length : Int) := of_decide_eq_true asA
                    obtain ⟨ad121, e121, hx121_0, hx121_1, hx121_2⟩ := at_T51 HR0.out x14_3 p121 q121
                    have hw121_2 := hx121_2
                    have hw121_1 := hx121_1
                    have hw121_0 := hx121_0
                    obtain rfl : ad114 = ad121 := (by injection e121)
                    replace hx121_0 := (HB.out.cell (World.block_lt_of_cell? w _ hx121_0)).trans hx121_0
                    replace hx121_1 := (HB.out.cell (World.block_lt_of_cell? w _ hx121_1)).trans hx121_1
                    replace hx121_2 := (HB.out.cell (World.block_lt_of_cell? w _ hx121_2)).trans hx121_2
                    replace p121 := eq_true p121
                    replace q121 := eq_true q121
                    refine start_ (n := 12) (S := fun w' => w'.cell? ⟨gb103, 0, none⟩ = some (.int .i64 a3_0) ∧ w'.cell? ⟨gb103, 1, none⟩ = some (.int .i64 a3_1) ∧ w'.cell? ⟨gb103, 2, none⟩ = some (.slice A3_2 l3_2.length c3_2) ∧ w'.cell? ⟨gb103, 3, none⟩ = some (.slice A3_3 l3_3.length c3_3) ∧ w'.cell? (ad114.add ((x14_3).toNat * 3)) = some (.int .i64 ((rd_T51 l0 x14_3).f0)) ∧ w'.cell? ⟨(ad114.add ((x14_3).toNat * 3)).block, (ad114.add ((x14_3).toNat * 3)).off + 1, none⟩ = some (.float .f64 ((rd_T51 l0 x14_3).f1)) ∧ w'.cell? ⟨(ad114.add ((x14_3).toNat * 3)).block, (ad114.add ((x14_3).toNat * 3)).off + 2, none⟩ = some (.int .i64 ((rd_T51 l0 x14_3).f2))) (ds := []) (dnA 12 0) (by kernel_rfl) rfl rfl ⟨(blk_cell BK103.out 0).trans rfl, (blk_cell BK103.out 1).trans rfl, (blk_cell BK103.out 2).trans rfl, (blk_cell BK103.out 3).trans rfl, ((HB.out.cell (World.block_lt_of_cell? w _ hw121_0)).trans hw121_0), ((HB.out.cell (World.block_lt_of_cell? w _ hw121_1)).trans hw121_1), ((HB.out.cell (World.block_lt_of_cell? w _ hw121_2)).trans hw121_2)⟩ (fun hHeld => ?_); refine with_tabW tenorlaw15_PriceRises.tab15 tenorlaw15_PriceRises.bits15 (fun HT_ HW_ => ?_)
                    generalize w64.drew = w65 at BK102 BK103 HB hx121_0 hx121_1 hx121_2 hHeld ⊢
                    refine pure_ (i := 1) (N := some 100) (v := ?_) (a' := ?_) (dnA 12 2) rfl rfl (any_of HT_.out (by kernel_rfl)) (fun _ _ _ h => h) (Or.inl ⟨by rfl, ?_⟩) ?_ ?_
                    rotate_left
                    · intro w'
                      go_simp
                      with_reducible rfl
                    rotate_left
                    · simp only [Act.put, List.setIfInBounds_toArray, List.set_cons_zero, List.set_cons_succ, i64_w, i32_w]
                      rfl
                    refine pure_ (i := 2) (N := some 101) (v := ?_) (a' := ?_) (dnA 12 6) rfl rfl (any_of HT_.out (by kernel_rfl)) (fun _ _ _ h => h) (Or.inl ⟨by rfl, ?_⟩) ?_ ?_
                    rotate_left
                    · intro w'
                      go_simp
                      with_reducible rfl
                    rotate_left
                    · simp only [Act.put, List.setIfInBounds_toArray, List.set_cons_zero, List.set_cons_succ, i64_w, i32_w]
                      rfl
                    refine pure_ (i := 3) (N := some 102) (v := ?_) (a' := ?_) (dnA 12 14) rfl rfl (any_of HT_.out (by kernel_rfl)) (fun _ _ _ h => h) (Or.inl ⟨by rfl, ?_⟩) ?_ ?_
                    rotate_left
                    · intro w'
                      go_simp
                      with_reducible rfl
                    rotate_left
                    · simp only [Act.put, List.setIfInBounds_toArray, List.set_cons_zero, List.set_cons_succ, i64_w, i32_w]
                      rfl
                    refine pure_ (i := 4) (N := some 103) (v := ?_) (a' := ?_) (dnA 12 30) rfl rfl (any_of HT_.out (by kernel_rfl)) (fun _ _ _ h => h) (Or.inl ⟨by rfl, ?_⟩) ?_ ?_
                    rotate_left
                    · intro w'
                      go_simp
                      with_reducible rfl
                    rotate_left
                    · simp only [Act.put, List.setIfInBounds_toArray, List.set_cons_zero, List.set_cons_succ, i64_w, i32_w]
                      rfl
                    refine take_ (i := 0) (N := some 99) (v := ?_) (a' := ?_) (dnA 12 31) rfl rfl (take_ofW HT_.out HW_.out (by kernel_rfl)) (fun _ _ _ h => h) (Or.inl ⟨by rfl, ?_⟩) hHeld ?_ ?_
                    rotate_left
                    · rintro w' ⟨s0, s1, s2, s3, s4, s5, s6⟩
                      go_simp
                      with_reducible rfl
                    rotate_left
                    · simp only [Act.put, List.setIfInBounds_toArray, List.set_cons_zero, List.set_cons_succ, i64_w, i32_w]
                      rfl
                    refine take_ (i := 5) (N := some 104) (v := ?_) (a' := ?_) (dnA 12 63) rfl rfl (take_ofW HT_.out HW_.out (by kernel_rfl)) (fun _ _ _ h => h) (Or.inl ⟨by rfl, ?_⟩) hHeld ?_ ?_
                    rotate_left
                    · rintro w' ⟨s0, s1, s2, s3, s4, s5, s6⟩
                      go_simp
                      with_reducible rfl
                    rotate_left
                    · simp only [Act.put, List.setIfInBounds_toArray, List.set_cons_zero, List.set_cons_succ, i64_w, i32_w]
                      rfl
                    refine one_ (i := 6) (N := some 105) (dnA 12 127) rfl rfl (one_of HT_.out (by kernel_rfl)) (by decide) (fun K hK => ?_)
                    refine goes_ Try.func24 (by kernel_rfl) rfl #[.agg #[.int .i64 a3_0, .int .i64 a3_1, .slice A3_2 l3_2.length c3_2, .slice A3_3 l3_3.length c3_3], .int .i64 ((rd_T51 l0 x14_3).f0)] (by rfl) rfl rfl mA ?_
                    with_reducible refine (curve_Factor.calls kj42 a3_0 a3_1 _ _ l3_2 _ _ l3_3 ((rd_T51 l0 x14_3).f0) t122 t123 _ ?side1 ?side2 ?side3 ?side4 A51.out).mono ?_
                    (case side1 => exact cA (Kd.C_below HR3_2.out HB.out))
                    (case side2 => exact HC3_2.out)
                    (case side3 => exact cA (Kd.C_below HR3_3.out HB.out))
                    (case side4 => exact HC3_3.out)
                    rintro e w66 ⟨rfl, hb⟩
                    refine ⟨_, rfl, ?_⟩
                    have n0_ := Aside0.mk (blk_below (g := gb102) (o := .cells #[.int .i64 a2_0, .int .i64 a2_1, .slice A2_2 l2_2.length c2_2, .slice A2_3 l2_3.length c2_3] 26 (0, 0)) (kA BK102.out) hb)
                    have n1_ := Aside0.mk (blk_below (g := gb103) (o := .cells #[.int .i64 a3_0, .int .i64 a3_1, .slice A3_2 l3_2.length c3_2, .slice A3_3 l3_3.length c3_3] 26 (0, 0)) (kA BK103.out) hb)
                    have n2_ := Aside0.mk (below_step (bG HB.out) hb)
                    clear BK102
                    clear BK103
                    clear HB
                    have BK102 := n0_
                    have BK103 := n1_
                    have HB := n2_
                    clear n0_ n1_ n2_
                    (try clear hb)
                    (try clear hb2)
                    (try clear hk)
                    (try clear hi)
                    refine hK.out _ _ ⟨(blk_cell BK103.out 0).trans rfl, (blk_cell BK103.out 1).trans rfl, (blk_cell BK103.out 2).trans rfl, (blk_cell BK103.out 3).trans rfl, ((HB.out.cell (World.block_lt_of_cell? w _ hw121_0)).trans hw121_0), ((HB.out.cell (World.block_lt_of_cell? w _ hw121_1)).trans hw121_1), ((HB.out.cell (World.block_lt_of_cell? w _ hw121_2)).trans hw121_2)⟩ (fun hHeld => ?_)
                    clear hK K
                    refine norm_ (a' := ?_) ?_ ?_
                    rotate_left
                    · show Act.put _ (some 105) _ = _
                      simp only [Act.put, List.setIfInBounds_toArray, List.set_cons_zero, List.set_cons_succ, i64_w, i32_w]
                      rfl
                    refine pure_ (i := 7) (N := some 98) (v := ?_) (a' := ?_) (dnA 12 255) rfl rfl (any_of HT_.out (by kernel_rfl)) (fun _ _ _ h => h) (Or.inl ⟨by rfl, ?_⟩) ?_ ?_
                    rotate_left
                    · intro w'
                      go_simp
                      with_reducible rfl
                    rotate_left
                    · simp only [Act.put, List.setIfInBounds_toArray, List.set_cons_zero, List.set_cons_succ, i64_w, i32_w]
                      rfl
                    refine pure_ (i := 8) (N := some 106) (v := ?_) (a' := ?_) (dnA 12 511) rfl rfl (any_of HT_.out (by kernel_rfl)) (fun _ _ _ h => h) (Or.inl ⟨by rfl, ?_⟩) ?_ ?_
                    rotate_left
                    · intro w'
                      go_simp
                      with_reducible rfl
                    rotate_left
                    · simp only [Act.put, List.setIfInBounds_toArray, List.set_cons_zero, List.set_cons_succ, i64_w, i32_w]
                      rfl
                    refine pure_ (i := 9) (N := some 107) (v := ?_) (a' := ?_) (dnA 12 1023) rfl rfl (any_of HT_.out (by kernel_rfl)) (fun _ _ _ h => h) (Or.inl ⟨by rfl, ?_⟩) ?_ ?_
                    rotate_left
                    · intro w'
                      go_simp
                      with_reducible rfl
                    rotate_left
                    · simp only [Act.put, List.setIfInBounds_toArray, List.set_cons_zero, List.set_cons_succ, i64_w, i32_w]
                      rfl
                    refine pure_ (i := 10) (N := some 17) (v := ?_) (a' := ?_) (dnA 12 2047) rfl rfl (any_of HT_.out (by kernel_rfl)) (fun _ _ _ h => h) (Or.inl ⟨by rfl, ?_⟩) ?_ ?_
                    rotate_left
                    · intro w'
                      go_simp
                      with_reducible rfl
                    rotate_left
                    · simp only [Act.put, List.setIfInBounds_toArray, List.set_cons_zero, List.set_cons_succ, i64_w, i32_w]
                      rfl
                    refine pure_ (i := 11) (N := some 18) (v := ?_) (a' := ?_) (dnA 12 4095) rfl rfl (any_of HT_.out (by kernel_rfl)) (fun _ _ _ h => h) (Or.inl ⟨by rfl, ?_⟩) ?_ ?_
                    rotate_left
                    · intro w'
                      go_simp
                      with_reducible rfl
                    rotate_left
                    · simp only [Act.put, List.setIfInBounds_toArray, List.set_cons_zero, List.set_cons_succ, i64_w, i32_w]
                      rfl
                    refine done_ (done_of HT_.out (by kernel_rfl)) ?_
                    try go_wp2
                    go_ret
                    exact ⟨by first | rfl | (simp [errW_none, errW_some] <;> rfl) | (simp [*, errW_none, errW_some] <;> rfl), bG HB.out⟩
                  rw [if_pos c53] at H
                  have c53b0 : (t123 == 0) = true := beq_iff_eq.mpr c53
                  have c53b1 : (t123 != 0) = false := bne_eq_false_iff_eq.mpr c53
                  clear c53
                  by_cases c54 : x13_3 = true
                  rotate_left
                  · replace c54 := Bool.eq_false_iff.mpr c54
                    subst c54
                    have H1 : (tenorlaw15_PriceRises.l0 kj42 l0 a1 t107 t109 false (wrap64 (x14_3 + 1)) a2_0 a2_1 l2_2 l2_3 a3_0 a3_1 l3_2 l3_3) = some r := by rw [if_neg (show ¬ (false = true) by decide)] at H; exact H
                    clear H
                    have H := H1
                    clear H1
                    have H' := Aside0.mk H
                    clear H
                    try go_wp2
                    have n0_ := Aside0.mk (blk_drew BK102.out)
                    have n1_ := Aside0.mk (blk_drew BK103.out)
                    have n2_ := Aside0.mk (below_drew1 HB.out)
                    clear BK102
                    clear BK103
                    clear HB
                    have BK102 := n0_
                    have BK103 := n1_
                    have HB := n2_
                    clear n0_ n1_ n2_
                    have p118 : 0 ≤ (x14_3 : Int) := of_decide_eq_true asA
                    have q118 : x14_3 < (l0.length : Int) := of_decide_eq_true asA
                    obtain ⟨ad118, e118, hx118_0, hx118_1, hx118_2⟩ := at_T51 HR0.out x14_3 p118 q118
                    have hw118_2 := hx118_2
                    have hw118_1 := hx118_1
                    have hw118_0 := hx118_0
                    obtain rfl : ad114 = ad118 := (by injection e118)
                    replace hx118_0 := (HB.out.cell (World.block_lt_of_cell? w _ hx118_0)).trans hx118_0
                    replace hx118_1 := (HB.out.cell (World.block_lt_of_cell? w _ hx118_1)).trans hx118_1
                    replace hx118_2 := (HB.out.cell (World.block_lt_of_cell? w _ hx118_2)).trans hx118_2
                    replace p118 := eq_true p118
                    replace q118 := eq_true q118
                    refine start_ (n := 12) (S := fun w' => w'.cell? ⟨gb102, 0, none⟩ = some (.int .i64 a2_0) ∧ w'.cell? ⟨gb102, 1, none⟩ = some (.int .i64 a2_1) ∧ w'.cell? ⟨gb102, 2, none⟩ = some (.slice A2_2 l2_2.length c2_2) ∧ w'.cell? ⟨gb102, 3, none⟩ = some (.slice A2_3 l2_3.length c2_3) ∧ w'.cell? (ad114.add ((x14_3).toNat * 3)) = some (.int .i64 ((rd_T51 l0 x14_3).f0)) ∧ w'.cell? ⟨(ad114.add ((x14_3).toNat * 3)).block, (ad114.add ((x14_3).toNat * 3)).off + 1, none⟩ = some (.float .f64 ((rd_T51 l0 x14_3).f1)) ∧ w'.cell? ⟨(ad114.add ((x14_3).toNat * 3)).block, (ad114.add ((x14_3).toNat * 3)).off + 2, none⟩ = some (.int .i64 ((rd_T51 l0 x14_3).f2))) (ds := []) (dnA 12 0) (by kernel_rfl) rfl rfl ⟨(blk_cell BK102.out 0).trans rfl, (blk_cell BK102.out 1).trans rfl, (blk_cell BK102.out 2).trans rfl, (blk_cell BK102.out 3).trans rfl, ((HB.out.cell (World.block_lt_of_cell? w _ hw118_0)).trans hw118_0), ((HB.out.cell (World.block_lt_of_cell? w _ hw118_1)).trans hw118_1), ((HB.out.cell (World.block_lt_of_cell? w _ hw118_2)).trans hw118_2)⟩ (fun hHeld => ?_); refine with_tabW tenorlaw15_PriceRises.tab14 tenorlaw15_PriceRises.bits14 (fun HT_ HW_ => ?_)
                    generalize wc.drew = w59 at BK102 BK103 HB hx118_0 hx118_1 hx118_2 hHeld ⊢
                    refine pure_ (i := 1) (N := some 90) (v := ?_) (a' := ?_) (dnA 12 2) rfl rfl (any_of HT_.out (by kernel_rfl)) (fun _ _ _ h => h) (Or.inl ⟨by rfl, ?_⟩) ?_ ?_
                    rotate_left
                    · intro w'
                      go_simp
                      with_reducible rfl
                    rotate_left
                    · simp only [Act.put, List.setIfInBounds_toArray, List.set_cons_zero, List.set_cons_succ, i64_w, i32_w]
                      rfl
                    refine pure_ (i := 2) (N := some 91) (v := ?_) (a' := ?_) (dnA 12 6) rfl rfl (any_of HT_.out (by kernel_rfl)) (fun _ _ _ h => h) (Or.inl ⟨by rfl, ?_⟩) ?_ ?_
                    rotate_left
                    · intro w'
                      go_simp
                      with_reducible rfl
                    rotate_left
                    · simp only [Act.put, List.setIfInBounds_toArray, List.set_cons_zero, List.set_cons_succ, i64_w, i32_w]
                      rfl
                    refine pure_ (i := 3) (N := some 92) (v := ?_) (a' := ?_) (dnA 12 14) rfl rfl (any_of HT_.out (by kernel_rfl)) (fun _ _ _ h => h) (Or.inl ⟨by rfl, ?_⟩) ?_ ?_
                    rotate_left
                    · intro w'
                      go_simp
                      with_reducible rfl
                    rotate_left
                    · simp only [Act.put, List.setIfInBounds_toArray, List.set_cons_zero, List.set_cons_succ, i64_w, i32_w]
                      rfl
                    refine pure_ (i := 4) (N := some 93) (v := ?_) (a' := ?_) (dnA 12 30) rfl rfl (any_of HT_.out (by kernel_rfl)) (fun _ _ _ h => h) (Or.inl ⟨by rfl, ?_⟩) ?_ ?_
                    rotate_left
                    · intro w'
                      go_simp
                      with_reducible rfl
                    rotate_left
                    · simp only [Act.put, List.setIfInBounds_toArray, List.set_cons_zero, List.set_cons_succ, i64_w, i32_w]
                      rfl
                    refine take_ (i := 0) (N := some 89) (v := ?_) (a' := ?_) (dnA 12 31) rfl rfl (take_ofW HT_.out HW_.out (by kernel_rfl)) (fun _ _ _ h => h) (Or.inl ⟨by rfl, ?_⟩) hHeld ?_ ?_
                    rotate_left
                    · rintro w' ⟨s0, s1, s2, s3, s4, s5, s6⟩
                      go_simp
                      with_reducible rfl
                    rotate_left
                    · simp only [Act.put, List.setIfInBounds_toArray, List.set_cons_zero, List.set_cons_succ, i64_w, i32_w]
                      rfl
                    refine take_ (i := 5) (N := some 94) (v := ?_) (a' := ?_) (dnA 12 63) rfl rfl (take_ofW HT_.out HW_.out (by kernel_rfl)) (fun _ _ _ h => h) (Or.inl ⟨by rfl, ?_⟩) hHeld ?_ ?_
                    rotate_left
                    · rintro w' ⟨s0, s1, s2, s3, s4, s5, s6⟩
                      go_simp
                      with_reducible rfl
                    rotate_left
                    · simp only [Act.put, List.setIfInBounds_toArray, List.set_cons_zero, List.set_cons_succ, i64_w, i32_w]
                      rfl
                    refine one_ (i := 6) (N := some 95) (dnA 12 127) rfl rfl (one_of HT_.out (by kernel_rfl)) (by decide) (fun K hK => ?_)
                    refine goes_ Try.func24 (by kernel_rfl) rfl #[.agg #[.int .i64 a2_0, .int .i64 a2_1, .slice A2_2 l2_2.length c2_2, .slice A2_3 l2_3.length c2_3], .int .i64 ((rd_T51 l0 x14_3).f0)] (by rfl) rfl rfl mA ?_
                    with_reducible refine (curve_Factor.calls kj42 a2_0 a2_1 _ _ l2_2 _ _ l2_3 ((rd_T51 l0 x14_3).f0) t119 t120 _ ?side1 ?side2 ?side3 ?side4 A50.out).mono ?_
                    (case side1 => exact cA (Kd.C_below HR2_2.out HB.out))
                    (case side2 => exact HC2_2.out)
                    (case side3 => exact cA (Kd.C_below HR2_3.out HB.out))
                    (case side4 => exact HC2_3.out)
                    rintro e w60 ⟨rfl, hb⟩
                    refine ⟨_, rfl, ?_⟩
                    have n0_ := Aside0.mk (blk_below (g := gb102) (o := .cells #[.int .i64 a2_0, .int .i64 a2_1, .slice A2_2 l2_2.length c2_2, .slice A2_3 l2_3.length c2_3] 26 (0, 0)) (kA BK102.out) hb)
                    have n1_ := Aside0.mk (blk_below (g := gb103) (o := .cells #[.int .i64 a3_0, .int .i64 a3_1, .slice A3_2 l3_2.length c3_2, .slice A3_3 l3_3.length c3_3] 26 (0, 0)) (kA BK103.out) hb)
                    have n2_ := Aside0.mk (below_step (bG HB.out) hb)
                    clear BK102
                    clear BK103
                    clear HB
                    have BK102 := n0_
                    have BK103 := n1_
                    have HB := n2_
                    clear n0_ n1_ n2_
                    (try clear hb)
                    (try clear hb2)
                    (try clear hk)
                    (try clear hi)
                    refine hK.out _ _ ⟨(blk_cell BK102.out 0).trans rfl, (blk_cell BK102.out 1).trans rfl, (blk_cell BK102.out 2).trans rfl, (blk_cell BK102.out 3).trans rfl, ((HB.out.cell (World.block_lt_of_cell? w _ hw118_0)).trans hw118_0), ((HB.out.cell (World.block_lt_of_cell? w _ hw118_1)).trans hw118_1), ((HB.out.cell (World.block_lt_of_cell? w _ hw118_2)).trans hw118_2)⟩ (fun hHeld => ?_)
                    clear hK K
                    refine norm_ (a' := ?_) ?_ ?_
                    rotate_left
                    · show Act.put _ (some 95) _ = _
                      simp only [Act.put, List.setIfInBounds_toArray, List.set_cons_zero, List.set_cons_succ, i64_w, i32_w]
                      rfl
                    refine pure_ (i := 7) (N := some 88) (v := ?_) (a' := ?_) (dnA 12 255) rfl rfl (any_of HT_.out (by kernel_rfl)) (fun _ _ _ h => h) (Or.inl ⟨by rfl, ?_⟩) ?_ ?_
                    rotate_left
                    · intro w'
                      go_simp
                      with_reducible rfl
                    rotate_left
                    · simp only [Act.put, List.setIfInBounds_toArray, List.set_cons_zero, List.set_cons_succ, i64_w, i32_w]
                      rfl
                    refine pure_ (i := 8) (N := some 96) (v := ?_) (a' := ?_) (dnA 12 511) rfl rfl (any_of HT_.out (by kernel_rfl)) (fun _ _ _ h => h) (Or.inl ⟨by rfl, ?_⟩) ?_ ?_
                    rotate_left
                    · intro w'
                      go_simp
                      with_reducible rfl
                    rotate_left
                    · simp only [Act.put, List.setIfInBounds_toArray, List.set_cons_zero, List.set_cons_succ, i64_w, i32_w]
                      rfl
                    refine pure_ (i := 9) (N := some 97) (v := ?_) (a' := ?_) (dnA 12 1023) rfl rfl (any_of HT_.out (by kernel_rfl)) (fun _ _ _ h => h) (Or.inl ⟨by rfl, ?_⟩) ?_ ?_
                    rotate_left
                    · intro w'
                      go_simp
                      with_reducible rfl
                    rotate_left
                    · simp only [Act.put, List.setIfInBounds_toArray, List.set_cons_zero, List.set_cons_succ, i64_w, i32_w]
                      rfl
                    refine pure_ (i := 10) (N := some 15) (v := ?_) (a' := ?_) (dnA 12 2047) rfl rfl (any_of HT_.out (by kernel_rfl)) (fun _ _ _ h => h) (Or.inl ⟨by rfl, ?_⟩) ?_ ?_
                    rotate_left
                    · intro w'
                      go_simp
                      with_reducible rfl
                    rotate_left
                    · simp only [Act.put, List.setIfInBounds_toArray, List.set_cons_zero, List.set_cons_succ, i64_w, i32_w]
                      rfl
                    refine pure_ (i := 11) (N := some 16) (v := ?_) (a' := ?_) (dnA 12 4095) rfl rfl (any_of HT_.out (by kernel_rfl)) (fun _ _ _ h => h) (Or.inl ⟨by rfl, ?_⟩) ?_ ?_
                    rotate_left
                    · intro w'
                      go_simp
                      with_reducible rfl
                    rotate_left
                    · simp only [Act.put, List.setIfInBounds_toArray, List.set_cons_zero, List.set_cons_succ, i64_w, i32_w]
                      rfl
                    refine done_ (done_of HT_.out (by kernel_rfl)) ?_
                    try go_wp2
                    have n0_ := Aside0.mk (blk_drew BK102.out)
                    have n1_ := Aside0.mk (blk_drew BK103.out)
                    have n2_ := Aside0.mk (below_drew1 HB.out)
                    clear BK102
                    clear BK103
                    clear HB
                    have BK102 := n0_
                    have BK103 := n1_
                    have HB := n2_
                    clear n0_ n1_ n2_
                    have p121 : 0 ≤ (x14_3 : Int) := of_decide_eq_true asA
                    have q121 : x14_3 < (l0.length : Int) := of_decide_eq_true asA
                    obtain ⟨ad121, e121, hx121_0, hx121_1, hx121_2⟩ := at_T51 HR0.out x14_3 p121 q121
                    have hw121_2 := hx121_2
                    have hw121_1 := hx121_1
                    have hw121_0 := hx121_0
                    obtain rfl : ad114 = ad121 := (by injection e121)
                    replace hx121_0 := (HB.out.cell (World.block_lt_of_cell? w _ hx121_0)).trans hx121_0
                    replace hx121_1 := (HB.out.cell (World.block_lt_of_cell? w _ hx121_1)).trans hx121_1
                    replace hx121_2 := (HB.out.cell (World.block_lt_of_cell? w _ hx121_2)).trans hx121_2
                    replace p121 := eq_true p121
                    replace q121 := eq_true q121
                    refine start_ (n := 12) (S := fun w' => w'.cell? ⟨gb103, 0, none⟩ = some (.int .i64 a3_0) ∧ w'.cell? ⟨gb103, 1, none⟩ = some (.int .i64 a3_1) ∧ w'.cell? ⟨gb103, 2, none⟩ = some (.slice A3_2 l3_2.length c3_2) ∧ w'.cell? ⟨gb103, 3, none⟩ = some (.slice A3_3 l3_3.length c3_3) ∧ w'.cell? (ad114.add ((x14_3).toNat * 3)) = some (.int .i64 ((rd_T51 l0 x14_3).f0)) ∧ w'.cell? ⟨(ad114.add ((x14_3).toNat * 3)).block, (ad114.add ((x14_3).toNat * 3)).off + 1, none⟩ = some (.float .f64 ((rd_T51 l0 x14_3).f1)) ∧ w'.cell? ⟨(ad114.add ((x14_3).toNat * 3)).block, (ad114.add ((x14_3).toNat * 3)).off + 2, none⟩ = some (.int .i64 ((rd_T51 l0 x14_3).f2))) (ds := []) (dnA 12 0) (by kernel_rfl) rfl rfl ⟨(blk_cell BK103.out 0).trans rfl, (blk_cell BK103.out 1).trans rfl, (blk_cell BK103.out 2).trans rfl, (blk_cell BK103.out 3).trans rfl, ((HB.out.cell (World.block_lt_of_cell? w _ hw121_0)).trans hw121_0), ((HB.out.cell (World.block_lt_of_cell? w _ hw121_1)).trans hw121_1), ((HB.out.cell (World.block_lt_of_cell? w _ hw121_2)).trans hw121_2)⟩ (fun hHeld => ?_); refine with_tabW tenorlaw15_PriceRises.tab15 tenorlaw15_PriceRises.bits15 (fun HT_ HW_ => ?_)
                    generalize w60.drew = w61 at BK102 BK103 HB hx121_0 hx121_1 hx121_2 hHeld ⊢
                    refine pure_ (i := 1) (N := some 100) (v := ?_) (a' := ?_) (dnA 12 2) rfl rfl (any_of HT_.out (by kernel_rfl)) (fun _ _ _ h => h) (Or.inl ⟨by rfl, ?_⟩) ?_ ?_
                    rotate_left
                    · intro w'
                      go_simp
                      with_reducible rfl
                    rotate_left
                    · simp only [Act.put, List.setIfInBounds_toArray, List.set_cons_zero, List.set_cons_succ, i64_w, i32_w]
                      rfl
                    refine pure_ (i := 2) (N := some 101) (v := ?_) (a' := ?_) (dnA 12 6) rfl rfl (any_of HT_.out (by kernel_rfl)) (fun _ _ _ h => h) (Or.inl ⟨by rfl, ?_⟩) ?_ ?_
                    rotate_left
                    · intro w'
                      go_simp
                      with_reducible rfl
                    rotate_left
                    · simp only [Act.put, List.setIfInBounds_toArray, List.set_cons_zero, List.set_cons_succ, i64_w, i32_w]
                      rfl
                    refine pure_ (i := 3) (N := some 102) (v := ?_) (a' := ?_) (dnA 12 14) rfl rfl (any_of HT_.out (by kernel_rfl)) (fun _ _ _ h => h) (Or.inl ⟨by rfl, ?_⟩) ?_ ?_
                    rotate_left
                    · intro w'
                      go_simp
                      with_reducible rfl
                    rotate_left
                    · simp only [Act.put, List.setIfInBounds_toArray, List.set_cons_zero, List.set_cons_succ, i64_w, i32_w]
                      rfl
                    refine pure_ (i := 4) (N := some 103) (v := ?_) (a' := ?_) (dnA 12 30) rfl rfl (any_of HT_.out (by kernel_rfl)) (fun _ _ _ h => h) (Or.inl ⟨by rfl, ?_⟩) ?_ ?_
                    rotate_left
                    · intro w'
                      go_simp
                      with_reducible rfl
                    rotate_left
                    · simp only [Act.put, List.setIfInBounds_toArray, List.set_cons_zero, List.set_cons_succ, i64_w, i32_w]
                      rfl
                    refine take_ (i := 0) (N := some 99) (v := ?_) (a' := ?_) (dnA 12 31) rfl rfl (take_ofW HT_.out HW_.out (by kernel_rfl)) (fun _ _ _ h => h) (Or.inl ⟨by rfl, ?_⟩) hHeld ?_ ?_
                    rotate_left
                    · rintro w' ⟨s0, s1, s2, s3, s4, s5, s6⟩
                      go_simp
                      with_reducible rfl
                    rotate_left
                    · simp only [Act.put, List.setIfInBounds_toArray, List.set_cons_zero, List.set_cons_succ, i64_w, i32_w]
                      rfl
                    refine take_ (i := 5) (N := some 104) (v := ?_) (a' := ?_) (dnA 12 63) rfl rfl (take_ofW HT_.out HW_.out (by kernel_rfl)) (fun _ _ _ h => h) (Or.inl ⟨by rfl, ?_⟩) hHeld ?_ ?_
                    rotate_left
                    · rintro w' ⟨s0, s1, s2, s3, s4, s5, s6⟩
                      go_simp
                      with_reducible rfl
                    rotate_left
                    · simp only [Act.put, List.setIfInBounds_toArray, List.set_cons_zero, List.set_cons_succ, i64_w, i32_w]
                      rfl
                    refine one_ (i := 6) (N := some 105) (dnA 12 127) rfl rfl (one_of HT_.out (by kernel_rfl)) (by decide) (fun K hK => ?_)
                    refine goes_ Try.func24 (by kernel_rfl) rfl #[.agg #[.int .i64 a3_0, .int .i64 a3_1, .slice A3_2 l3_2.length c3_2, .slice A3_3 l3_3.length c3_3], .int .i64 ((rd_T51 l0 x14_3).f0)] (by rfl) rfl rfl mA ?_
                    with_reducible refine (curve_Factor.calls kj42 a3_0 a3_1 _ _ l3_2 _ _ l3_3 ((rd_T51 l0 x14_3).f0) t122 t123 _ ?side1 ?side2 ?side3 ?side4 A51.out).mono ?_
                    (case side1 => exact cA (Kd.C_below HR3_2.out HB.out))
                    (case side2 => exact HC3_2.out)
                    (case side3 => exact cA (Kd.C_below HR3_3.out HB.out))
                    (case side4 => exact HC3_3.out)
                    rintro e w62 ⟨rfl, hb⟩
                    refine ⟨_, rfl, ?_⟩
                    have n0_ := Aside0.mk (blk_below (g := gb102) (o := .cells #[.int .i64 a2_0, .int .i64 a2_1, .slice A2_2 l2_2.length c2_2, .slice A2_3 l2_3.length c2_3] 26 (0, 0)) (kA BK102.out) hb)
                    have n1_ := Aside0.mk (blk_below (g := gb103) (o := .cells #[.int .i64 a3_0, .int .i64 a3_1, .slice A3_2 l3_2.length c3_2, .slice A3_3 l3_3.length c3_3] 26 (0, 0)) (kA BK103.out) hb)
                    have n2_ := Aside0.mk (below_step (bG HB.out) hb)
                    clear BK102
                    clear BK103
                    clear HB
                    have BK102 := n0_
                    have BK103 := n1_
                    have HB := n2_
                    clear n0_ n1_ n2_
                    (try clear hb)
                    (try clear hb2)
                    (try clear hk)
                    (try clear hi)
                    refine hK.out _ _ ⟨(blk_cell BK103.out 0).trans rfl, (blk_cell BK103.out 1).trans rfl, (blk_cell BK103.out 2).trans rfl, (blk_cell BK103.out 3).trans rfl, ((HB.out.cell (World.block_lt_of_cell? w _ hw121_0)).trans hw121_0), ((HB.out.cell (World.block_lt_of_cell? w _ hw121_1)).trans hw121_1), ((HB.out.cell (World.block_lt_of_cell? w _ hw121_2)).trans hw121_2)⟩ (fun hHeld => ?_)
                    clear hK K
                    refine norm_ (a' := ?_) ?_ ?_
                    rotate_left
                    · show Act.put _ (some 105) _ = _
                      simp only [Act.put, List.setIfInBounds_toArray, List.set_cons_zero, List.set_cons_succ, i64_w, i32_w]
                      rfl
                    refine pure_ (i := 7) (N := some 98) (v := ?_) (a' := ?_) (dnA 12 255) rfl rfl (any_of HT_.out (by kernel_rfl)) (fun _ _ _ h => h) (Or.inl ⟨by rfl, ?_⟩) ?_ ?_
                    rotate_left
                    · intro w'
                      go_simp
                      with_reducible rfl
                    rotate_left
                    · simp only [Act.put, List.setIfInBounds_toArray, List.set_cons_zero, List.set_cons_succ, i64_w, i32_w]
                      rfl
                    refine pure_ (i := 8) (N := some 106) (v := ?_) (a' := ?_) (dnA 12 511) rfl rfl (any_of HT_.out (by kernel_rfl)) (fun _ _ _ h => h) (Or.inl ⟨by rfl, ?_⟩) ?_ ?_
                    rotate_left
                    · intro w'
                      go_simp
                      with_reducible rfl
                    rotate_left
                    · simp only [Act.put, List.setIfInBounds_toArray, List.set_cons_zero, List.set_cons_succ, i64_w, i32_w]
                      rfl
                    refine pure_ (i := 9) (N := some 107) (v := ?_) (a' := ?_) (dnA 12 1023) rfl rfl (any_of HT_.out (by kernel_rfl)) (fun _ _ _ h => h) (Or.inl ⟨by rfl, ?_⟩) ?_ ?_
                    rotate_left
                    · intro w'
                      go_simp
                      with_reducible rfl
                    rotate_left
                    · simp only [Act.put, List.setIfInBounds_toArray, List.set_cons_zero, List.set_cons_succ, i64_w, i32_w]
                      rfl
                    refine pure_ (i := 10) (N := some 17) (v := ?_) (a' := ?_) (dnA 12 2047) rfl rfl (any_of HT_.out (by kernel_rfl)) (fun _ _ _ h => h) (Or.inl ⟨by rfl, ?_⟩) ?_ ?_
                    rotate_left
                    · intro w'
                      go_simp
                      with_reducible rfl
                    rotate_left
                    · simp only [Act.put, List.setIfInBounds_toArray, List.set_cons_zero, List.set_cons_succ, i64_w, i32_w]
                      rfl
                    refine pure_ (i := 11) (N := some 18) (v := ?_) (a' := ?_) (dnA 12 4095) rfl rfl (any_of HT_.out (by kernel_rfl)) (fun _ _ _ h => h) (Or.inl ⟨by rfl, ?_⟩) ?_ ?_
                    rotate_left
                    · intro w'
                      go_simp
                      with_reducible rfl
                    rotate_left
                    · simp only [Act.put, List.setIfInBounds_toArray, List.set_cons_zero, List.set_cons_succ, i64_w, i32_w]
                      rfl
                    refine done_ (done_of HT_.out (by kernel_rfl)) ?_
                    try go_wp2
                    go_roundg kj42
                    case measure => have := HJ4.out; have := HJ23.out; have := HK3.out; have := HJ42.out; omega
                    case rel => exact ⟨(false), (wrap64 (x14_3 + 1)), (by first | rfl | (simp; done) | (simp [*]; done)), (by first | rfl | (simp; done) | (simp [*]; done)), H', ⟨by have := HJ4.out; have := HJ23.out; have := HK3.out; have := HJ42.out; omega⟩, ⟨kA BK102.out⟩, ⟨kA BK103.out⟩, ⟨bG HB.out⟩⟩
                  subst c54
                  have H1 : (tenorlaw15_PriceRises.l0 kj42 l0 a1 t107 t109 (FloatKind.f64.format.order t119 t122 == some .lt || FloatKind.f64.format.order t119 t122 == some .eq) (wrap64 (x14_3 + 1)) a2_0 a2_1 l2_2 l2_3 a3_0 a3_1 l3_2 l3_3) = some r := by rw [if_pos rfl] at H; exact H
                  clear H
                  have H := H1
                  clear H1
                  have H' := Aside0.mk H
                  clear H
                  try go_wp2
                  have n0_ := Aside0.mk (blk_drew BK102.out)
                  have n1_ := Aside0.mk (blk_drew BK103.out)
                  have n2_ := Aside0.mk (below_drew1 HB.out)
                  clear BK102
                  clear BK103
                  clear HB
                  have BK102 := n0_
                  have BK103 := n1_
                  have HB := n2_
                  clear n0_ n1_ n2_
                  have p118 : 0 ≤ (x14_3 : Int) := of_decide_eq_true asA
                  have q118 : x14_3 < (l0.length : Int) := of_decide_eq_true asA
                  obtain ⟨ad118, e118, hx118_0, hx118_1, hx118_2⟩ := at_T51 HR0.out x14_3 p118 q118
                  have hw118_2 := hx118_2
                  have hw118_1 := hx118_1
                  have hw118_0 := hx118_0
                  obtain rfl : ad114 = ad118 := (by injection e118)
                  replace hx118_0 := (HB.out.cell (World.block_lt_of_cell? w _ hx118_0)).trans hx118_0
                  replace hx118_1 := (HB.out.cell (World.block_lt_of_cell? w _ hx118_1)).trans hx118_1
                  replace hx118_2 := (HB.out.cell (World.block_lt_of_cell? w _ hx118_2)).trans hx118_2
                  replace p118 := eq_true p118
                  replace q118 := eq_true q118
                  refine start_ (n := 12) (S := fun w' => w'.cell? ⟨gb102, 0, none⟩ = some (.int .i64 a2_0) ∧ w'.cell? ⟨gb102, 1, none⟩ = some (.int .i64 a2_1) ∧ w'.cell? ⟨gb102, 2, none⟩ = some (.slice A2_2 l2_2.length c2_2) ∧ w'.cell? ⟨gb102, 3, none⟩ = some (.slice A2_3 l2_3.length c2_3) ∧ w'.cell? (ad114.add ((x14_3).toNat * 3)) = some (.int .i64 ((rd_T51 l0 x14_3).f0)) ∧ w'.cell? ⟨(ad114.add ((x14_3).toNat * 3)).block, (ad114.add ((x14_3).toNat * 3)).off + 1, none⟩ = some (.float .f64 ((rd_T51 l0 x14_3).f1)) ∧ w'.cell? ⟨(ad114.add ((x14_3).toNat * 3)).block, (ad114.add ((x14_3).toNat * 3)).off + 2, none⟩ = some (.int .i64 ((rd_T51 l0 x14_3).f2))) (ds := []) (dnA 12 0) (by kernel_rfl) rfl rfl ⟨(blk_cell BK102.out 0).trans rfl, (blk_cell BK102.out 1).trans rfl, (blk_cell BK102.out 2).trans rfl, (blk_cell BK102.out 3).trans rfl, ((HB.out.cell (World.block_lt_of_cell? w _ hw118_0)).trans hw118_0), ((HB.out.cell (World.block_lt_of_cell? w _ hw118_1)).trans hw118_1), ((HB.out.cell (World.block_lt_of_cell? w _ hw118_2)).trans hw118_2)⟩ (fun hHeld => ?_); refine with_tabW tenorlaw15_PriceRises.tab14 tenorlaw15_PriceRises.bits14 (fun HT_ HW_ => ?_)
                  generalize wc.drew = w55 at BK102 BK103 HB hx118_0 hx118_1 hx118_2 hHeld ⊢
                  refine pure_ (i := 1) (N := some 90) (v := ?_) (a' := ?_) (dnA 12 2) rfl rfl (any_of HT_.out (by kernel_rfl)) (fun _ _ _ h => h) (Or.inl ⟨by rfl, ?_⟩) ?_ ?_
                  rotate_left
                  · intro w'
                    go_simp
                    with_reducible rfl
                  rotate_left
                  · simp only [Act.put, List.setIfInBounds_toArray, List.set_cons_zero, List.set_cons_succ, i64_w, i32_w]
                    rfl
                  refine pure_ (i := 2) (N := some 91) (v := ?_) (a' := ?_) (dnA 12 6) rfl rfl (any_of HT_.out (by kernel_rfl)) (fun _ _ _ h => h) (Or.inl ⟨by rfl, ?_⟩) ?_ ?_
                  rotate_left
                  · intro w'
                    go_simp
                    with_reducible rfl
                  rotate_left
                  · simp only [Act.put, List.setIfInBounds_toArray, List.set_cons_zero, List.set_cons_succ, i64_w, i32_w]
                    rfl
                  refine pure_ (i := 3) (N := some 92) (v := ?_) (a' := ?_) (dnA 12 14) rfl rfl (any_of HT_.out (by kernel_rfl)) (fun _ _ _ h => h) (Or.inl ⟨by rfl, ?_⟩) ?_ ?_
                  rotate_left
                  · intro w'
                    go_simp
                    with_reducible rfl
                  rotate_left
                  · simp only [Act.put, List.setIfInBounds_toArray, List.set_cons_zero, List.set_cons_succ, i64_w, i32_w]
                    rfl
                  refine pure_ (i := 4) (N := some 93) (v := ?_) (a' := ?_) (dnA 12 30) rfl rfl (any_of HT_.out (by kernel_rfl)) (fun _ _ _ h => h) (Or.inl ⟨by rfl, ?_⟩) ?_ ?_
                  rotate_left
                  · intro w'
                    go_simp
                    with_reducible rfl
                  rotate_left
                  · simp only [Act.put, List.setIfInBounds_toArray, List.set_cons_zero, List.set_cons_succ, i64_w, i32_w]
                    rfl
                  refine take_ (i := 0) (N := some 89) (v := ?_) (a' := ?_) (dnA 12 31) rfl rfl (take_ofW HT_.out HW_.out (by kernel_rfl)) (fun _ _ _ h => h) (Or.inl ⟨by rfl, ?_⟩) hHeld ?_ ?_
                  rotate_left
                  · rintro w' ⟨s0, s1, s2, s3, s4, s5, s6⟩
                    go_simp
                    with_reducible rfl
                  rotate_left
                  · simp only [Act.put, List.setIfInBounds_toArray, List.set_cons_zero, List.set_cons_succ, i64_w, i32_w]
                    rfl
                  refine take_ (i := 5) (N := some 94) (v := ?_) (a' := ?_) (dnA 12 63) rfl rfl (take_ofW HT_.out HW_.out (by kernel_rfl)) (fun _ _ _ h => h) (Or.inl ⟨by rfl, ?_⟩) hHeld ?_ ?_
                  rotate_left
                  · rintro w' ⟨s0, s1, s2, s3, s4, s5, s6⟩
                    go_simp
                    with_reducible rfl
                  rotate_left
                  · simp only [Act.put, List.setIfInBounds_toArray, List.set_cons_zero, List.set_cons_succ, i64_w, i32_w]
                    rfl
                  refine one_ (i := 6) (N := some 95) (dnA 12 127) rfl rfl (one_of HT_.out (by kernel_rfl)) (by decide) (fun K hK => ?_)
                  refine goes_ Try.func24 (by kernel_rfl) rfl #[.agg #[.int .i64 a2_0, .int .i64 a2_1, .slice A2_2 l2_2.length c2_2, .slice A2_3 l2_3.length c2_3], .int .i64 ((rd_T51 l0 x14_3).f0)] (by rfl) rfl rfl mA ?_
                  with_reducible refine (curve_Factor.calls kj42 a2_0 a2_1 _ _ l2_2 _ _ l2_3 ((rd_T51 l0 x14_3).f0) t119 t120 _ ?side1 ?side2 ?side3 ?side4 A50.out).mono ?_
                  (case side1 => exact cA (Kd.C_below HR2_2.out HB.out))
                  (case side2 => exact HC2_2.out)
                  (case side3 => exact cA (Kd.C_below HR2_3.out HB.out))
                  (case side4 => exact HC2_3.out)
                  rintro e w56 ⟨rfl, hb⟩
                  refine ⟨_, rfl, ?_⟩
                  have n0_ := Aside0.mk (blk_below (g := gb102) (o := .cells #[.int .i64 a2_0, .int .i64 a2_1, .slice A2_2 l2_2.length c2_2, .slice A2_3 l2_3.length c2_3] 26 (0, 0)) (kA BK102.out) hb)
                  have n1_ := Aside0.mk (blk_below (g := gb103) (o := .cells #[.int .i64 a3_0, .int .i64 a3_1, .slice A3_2 l3_2.length c3_2, .slice A3_3 l3_3.length c3_3] 26 (0, 0)) (kA BK103.out) hb)
                  have n2_ := Aside0.mk (below_step (bG HB.out) hb)
                  clear BK102
                  clear BK103
                  clear HB
                  have BK102 := n0_
                  have BK103 := n1_
                  have HB := n2_
                  clear n0_ n1_ n2_
                  (try clear hb)
                  (try clear hb2)
                  (try clear hk)
                  (try clear hi)
                  refine hK.out _ _ ⟨(blk_cell BK102.out 0).trans rfl, (blk_cell BK102.out 1).trans rfl, (blk_cell BK102.out 2).trans rfl, (blk_cell BK102.out 3).trans rfl, ((HB.out.cell (World.block_lt_of_cell? w _ hw118_0)).trans hw118_0), ((HB.out.cell (World.block_lt_of_cell? w _ hw118_1)).trans hw118_1), ((HB.out.cell (World.block_lt_of_cell? w _ hw118_2)).trans hw118_2)⟩ (fun hHeld => ?_)
                  clear hK K
                  refine norm_ (a' := ?_) ?_ ?_
                  rotate_left
                  · show Act.put _ (some 95) _ = _
                    simp only [Act.put, List.setIfInBounds_toArray, List.set_cons_zero, List.set_cons_succ, i64_w, i32_w]
                    rfl
                  refine pure_ (i := 7) (N := some 88) (v := ?_) (a' := ?_) (dnA 12 255) rfl rfl (any_of HT_.out (by kernel_rfl)) (fun _ _ _ h => h) (Or.inl ⟨by rfl, ?_⟩) ?_ ?_
                  rotate_left
                  · intro w'
                    go_simp
                    with_reducible rfl
                  rotate_left
                  · simp only [Act.put, List.setIfInBounds_toArray, List.set_cons_zero, List.set_cons_succ, i64_w, i32_w]
                    rfl
                  refine pure_ (i := 8) (N := some 96) (v := ?_) (a' := ?_) (dnA 12 511) rfl rfl (any_of HT_.out (by kernel_rfl)) (fun _ _ _ h => h) (Or.inl ⟨by rfl, ?_⟩) ?_ ?_
                  rotate_left
                  · intro w'
                    go_simp
                    with_reducible rfl
                  rotate_left
                  · simp only [Act.put, List.setIfInBounds_toArray, List.set_cons_zero, List.set_cons_succ, i64_w, i32_w]
                    rfl
                  refine pure_ (i := 9) (N := some 97) (v := ?_) (a' := ?_) (dnA 12 1023) rfl rfl (any_of HT_.out (by kernel_rfl)) (fun _ _ _ h => h) (Or.inl ⟨by rfl, ?_⟩) ?_ ?_
                  rotate_left
                  · intro w'
                    go_simp
                    with_reducible rfl
                  rotate_left
                  · simp only [Act.put, List.setIfInBounds_toArray, List.set_cons_zero, List.set_cons_succ, i64_w, i32_w]
                    rfl
                  refine pure_ (i := 10) (N := some 15) (v := ?_) (a' := ?_) (dnA 12 2047) rfl rfl (any_of HT_.out (by kernel_rfl)) (fun _ _ _ h => h) (Or.inl ⟨by rfl, ?_⟩) ?_ ?_
                  rotate_left
                  · intro w'
                    go_simp
                    with_reducible rfl
                  rotate_left
                  · simp only [Act.put, List.setIfInBounds_toArray, List.set_cons_zero, List.set_cons_succ, i64_w, i32_w]
                    rfl
                  refine pure_ (i := 11) (N := some 16) (v := ?_) (a' := ?_) (dnA 12 4095) rfl rfl (any_of HT_.out (by kernel_rfl)) (fun _ _ _ h => h) (Or.inl ⟨by rfl, ?_⟩) ?_ ?_
                  rotate_left
                  · intro w'
                    go_simp
                    with_reducible rfl
                  rotate_left
                  · simp only [Act.put, List.setIfInBounds_toArray, List.set_cons_zero, List.set_cons_succ, i64_w, i32_w]
                    rfl
                  refine done_ (done_of HT_.out (by kernel_rfl)) ?_
                  try go_wp2
                  have n0_ := Aside0.mk (blk_drew BK102.out)
                  have n1_ := Aside0.mk (blk_drew BK103.out)
                  have n2_ := Aside0.mk (below_drew1 HB.out)
                  clear BK102
                  clear BK103
                  clear HB
                  have BK102 := n0_
                  have BK103 := n1_
                  have HB := n2_
                  clear n0_ n1_ n2_
                  have p121 : 0 ≤ (x14_3 : Int) := of_decide_eq_true asA
                  have q121 : x14_3 < (l0.length : Int) := of_decide_eq_true asA
                  obtain ⟨ad121, e121, hx121_0, hx121_1, hx121_2⟩ := at_T51 HR0.out x14_3 p121 q121
                  have hw121_2 := hx121_2
                  have hw121_1 := hx121_1
                  have hw121_0 := hx121_0
                  obtain rfl : ad114 = ad121 := (by injection e121)
                  replace hx121_0 := (HB.out.cell (World.block_lt_of_cell? w _ hx121_0)).trans hx121_0
                  replace hx121_1 := (HB.out.cell (World.block_lt_of_cell? w _ hx121_1)).trans hx121_1
                  replace hx121_2 := (HB.out.cell (World.block_lt_of_cell? w _ hx121_2)).trans hx121_2
                  replace p121 := eq_true p121
                  replace q121 := eq_true q121
                  refine start_ (n := 12) (S := fun w' => w'.cell? ⟨gb103, 0, none⟩ = some (.int .i64 a3_0) ∧ w'.cell? ⟨gb103, 1, none⟩ = some (.int .i64 a3_1) ∧ w'.cell? ⟨gb103, 2, none⟩ = some (.slice A3_2 l3_2.length c3_2) ∧ w'.cell? ⟨gb103, 3, none⟩ = some (.slice A3_3 l3_3.length c3_3) ∧ w'.cell? (ad114.add ((x14_3).toNat * 3)) = some (.int .i64 ((rd_T51 l0 x14_3).f0)) ∧ w'.cell? ⟨(ad114.add ((x14_3).toNat * 3)).block, (ad114.add ((x14_3).toNat * 3)).off + 1, none⟩ = some (.float .f64 ((rd_T51 l0 x14_3).f1)) ∧ w'.cell? ⟨(ad114.add ((x14_3).toNat * 3)).block, (ad114.add ((x14_3).toNat * 3)).off + 2, none⟩ = some (.int .i64 ((rd_T51 l0 x14_3).f2))) (ds := []) (dnA 12 0) (by kernel_rfl) rfl rfl ⟨(blk_cell BK103.out 0).trans rfl, (blk_cell BK103.out 1).trans rfl, (blk_cell BK103.out 2).trans rfl, (blk_cell BK103.out 3).trans rfl, ((HB.out.cell (World.block_lt_of_cell? w _ hw121_0)).trans hw121_0), ((HB.out.cell (World.block_lt_of_cell? w _ hw121_1)).trans hw121_1), ((HB.out.cell (World.block_lt_of_cell? w _ hw121_2)).trans hw121_2)⟩ (fun hHeld => ?_); refine with_tabW tenorlaw15_PriceRises.tab15 tenorlaw15_PriceRises.bits15 (fun HT_ HW_ => ?_)
                  generalize w56.drew = w57 at BK102 BK103 HB hx121_0 hx121_1 hx121_2 hHeld ⊢
                  refine pure_ (i := 1) (N := some 100) (v := ?_) (a' := ?_) (dnA 12 2) rfl rfl (any_of HT_.out (by kernel_rfl)) (fun _ _ _ h => h) (Or.inl ⟨by rfl, ?_⟩) ?_ ?_
                  rotate_left
                  · intro w'
                    go_simp
                    with_reducible rfl
                  rotate_left
                  · simp only [Act.put, List.setIfInBounds_toArray, List.set_cons_zero, List.set_cons_succ, i64_w, i32_w]
                    rfl
                  refine pure_ (i := 2) (N := some 101) (v := ?_) (a' := ?_) (dnA 12 6) rfl rfl (any_of HT_.out (by kernel_rfl)) (fun _ _ _ h => h) (Or.inl ⟨by rfl, ?_⟩) ?_ ?_
                  rotate_left
                  · intro w'
                    go_simp
                    with_reducible rfl
                  rotate_left
                  · simp only [Act.put, List.setIfInBounds_toArray, List.set_cons_zero, List.set_cons_succ, i64_w, i32_w]
                    rfl
                  refine pure_ (i := 3) (N := some 102) (v := ?_) (a' := ?_) (dnA 12 14) rfl rfl (any_of HT_.out (by kernel_rfl)) (fun _ _ _ h => h) (Or.inl ⟨by rfl, ?_⟩) ?_ ?_
                  rotate_left
                  · intro w'
                    go_simp
                    with_reducible rfl
                  rotate_left
                  · simp only [Act.put, List.setIfInBounds_toArray, List.set_cons_zero, List.set_cons_succ, i64_w, i32_w]
                    rfl
                  refine pure_ (i := 4) (N := some 103) (v := ?_) (a' := ?_) (dnA 12 30) rfl rfl (any_of HT_.out (by kernel_rfl)) (fun _ _ _ h => h) (Or.inl ⟨by rfl, ?_⟩) ?_ ?_
                  rotate_left
                  · intro w'
                    go_simp
                    with_reducible rfl
                  rotate_left
                  · simp only [Act.put, List.setIfInBounds_toArray, List.set_cons_zero, List.set_cons_succ, i64_w, i32_w]
                    rfl
                  refine take_ (i := 0) (N := some 99) (v := ?_) (a' := ?_) (dnA 12 31) rfl rfl (take_ofW HT_.out HW_.out (by kernel_rfl)) (fun _ _ _ h => h) (Or.inl ⟨by rfl, ?_⟩) hHeld ?_ ?_
                  rotate_left
                  · rintro w' ⟨s0, s1, s2, s3, s4, s5, s6⟩
                    go_simp
                    with_reducible rfl
                  rotate_left
                  · simp only [Act.put, List.setIfInBounds_toArray, List.set_cons_zero, List.set_cons_succ, i64_w, i32_w]
                    rfl
                  refine take_ (i := 5) (N := some 104) (v := ?_) (a' := ?_) (dnA 12 63) rfl rfl (take_ofW HT_.out HW_.out (by kernel_rfl)) (fun _ _ _ h => h) (Or.inl ⟨by rfl, ?_⟩) hHeld ?_ ?_
                  rotate_left
                  · rintro w' ⟨s0, s1, s2, s3, s4, s5, s6⟩
                    go_simp
                    with_reducible rfl
                  rotate_left
                  · simp only [Act.put, List.setIfInBounds_toArray, List.set_cons_zero, List.set_cons_succ, i64_w, i32_w]
                    rfl
                  refine one_ (i := 6) (N := some 105) (dnA 12 127) rfl rfl (one_of HT_.out (by kernel_rfl)) (by decide) (fun K hK => ?_)
                  refine goes_ Try.func24 (by kernel_rfl) rfl #[.agg #[.int .i64 a3_0, .int .i64 a3_1, .slice A3_2 l3_2.length c3_2, .slice A3_3 l3_3.length c3_3], .int .i64 ((rd_T51 l0 x14_3).f0)] (by rfl) rfl rfl mA ?_
                  with_reducible refine (curve_Factor.calls kj42 a3_0 a3_1 _ _ l3_2 _ _ l3_3 ((rd_T51 l0 x14_3).f0) t122 t123 _ ?side1 ?side2 ?side3 ?side4 A51.out).mono ?_
                  (case side1 => exact cA (Kd.C_below HR3_2.out HB.out))
                  (case side2 => exact HC3_2.out)
                  (case side3 => exact cA (Kd.C_below HR3_3.out HB.out))
                  (case side4 => exact HC3_3.out)
                  rintro e w58 ⟨rfl, hb⟩
                  refine ⟨_, rfl, ?_⟩
                  have n0_ := Aside0.mk (blk_below (g := gb102) (o := .cells #[.int .i64 a2_0, .int .i64 a2_1, .slice A2_2 l2_2.length c2_2, .slice A2_3 l2_3.length c2_3] 26 (0, 0)) (kA BK102.out) hb)
                  have n1_ := Aside0.mk (blk_below (g := gb103) (o := .cells #[.int .i64 a3_0, .int .i64 a3_1, .slice A3_2 l3_2.length c3_2, .slice A3_3 l3_3.length c3_3] 26 (0, 0)) (kA BK103.out) hb)
                  have n2_ := Aside0.mk (below_step (bG HB.out) hb)
                  clear BK102
                  clear BK103
                  clear HB
                  have BK102 := n0_
                  have BK103 := n1_
                  have HB := n2_
                  clear n0_ n1_ n2_
                  (try clear hb)
                  (try clear hb2)
                  (try clear hk)
                  (try clear hi)
                  refine hK.out _ _ ⟨(blk_cell BK103.out 0).trans rfl, (blk_cell BK103.out 1).trans rfl, (blk_cell BK103.out 2).trans rfl, (blk_cell BK103.out 3).trans rfl, ((HB.out.cell (World.block_lt_of_cell? w _ hw121_0)).trans hw121_0), ((HB.out.cell (World.block_lt_of_cell? w _ hw121_1)).trans hw121_1), ((HB.out.cell (World.block_lt_of_cell? w _ hw121_2)).trans hw121_2)⟩ (fun hHeld => ?_)
                  clear hK K
                  refine norm_ (a' := ?_) ?_ ?_
                  rotate_left
                  · show Act.put _ (some 105) _ = _
                    simp only [Act.put, List.setIfInBounds_toArray, List.set_cons_zero, List.set_cons_succ, i64_w, i32_w]
                    rfl
                  refine pure_ (i := 7) (N := some 98) (v := ?_) (a' := ?_) (dnA 12 255) rfl rfl (any_of HT_.out (by kernel_rfl)) (fun _ _ _ h => h) (Or.inl ⟨by rfl, ?_⟩) ?_ ?_
                  rotate_left
                  · intro w'
                    go_simp
                    with_reducible rfl
                  rotate_left
                  · simp only [Act.put, List.setIfInBounds_toArray, List.set_cons_zero, List.set_cons_succ, i64_w, i32_w]
                    rfl
                  refine pure_ (i := 8) (N := some 106) (v := ?_) (a' := ?_) (dnA 12 511) rfl rfl (any_of HT_.out (by kernel_rfl)) (fun _ _ _ h => h) (Or.inl ⟨by rfl, ?_⟩) ?_ ?_
                  rotate_left
                  · intro w'
                    go_simp
                    with_reducible rfl
                  rotate_left
                  · simp only [Act.put, List.setIfInBounds_toArray, List.set_cons_zero, List.set_cons_succ, i64_w, i32_w]
                    rfl
                  refine pure_ (i := 9) (N := some 107) (v := ?_) (a' := ?_) (dnA 12 1023) rfl rfl (any_of HT_.out (by kernel_rfl)) (fun _ _ _ h => h) (Or.inl ⟨by rfl, ?_⟩) ?_ ?_
                  rotate_left
                  · intro w'
                    go_simp
                    with_reducible rfl
                  rotate_left
                  · simp only [Act.put, List.setIfInBounds_toArray, List.set_cons_zero, List.set_cons_succ, i64_w, i32_w]
                    rfl
                  refine pure_ (i := 10) (N := some 17) (v := ?_) (a' := ?_) (dnA 12 2047) rfl rfl (any_of HT_.out (by kernel_rfl)) (fun _ _ _ h => h) (Or.inl ⟨by rfl, ?_⟩) ?_ ?_
                  rotate_left
                  · intro w'
                    go_simp
                    with_reducible rfl
                  rotate_left
                  · simp only [Act.put, List.setIfInBounds_toArray, List.set_cons_zero, List.set_cons_succ, i64_w, i32_w]
                    rfl
                  refine pure_ (i := 11) (N := some 18) (v := ?_) (a' := ?_) (dnA 12 4095) rfl rfl (any_of HT_.out (by kernel_rfl)) (fun _ _ _ h => h) (Or.inl ⟨by rfl, ?_⟩) ?_ ?_
                  rotate_left
                  · intro w'
                    go_simp
                    with_reducible rfl
                  rotate_left
                  · simp only [Act.put, List.setIfInBounds_toArray, List.set_cons_zero, List.set_cons_succ, i64_w, i32_w]
                    rfl
                  refine done_ (done_of HT_.out (by kernel_rfl)) ?_
                  try go_wp2
                  go_roundg kj42
                  case measure => have := HJ4.out; have := HJ23.out; have := HK3.out; have := HJ42.out; omega
                  case rel => exact ⟨((FloatKind.f64.format.order t119 t122 == some .lt || FloatKind.f64.format.order t119 t122 == some .eq)), (wrap64 (x14_3 + 1)), (by first | rfl | (simp; done) | (simp [*]; done)), (by first | rfl | (simp; done) | (simp [*]; done)), H', ⟨by have := HJ4.out; have := HJ23.out; have := HK3.out; have := HJ42.out; omega⟩, ⟨kA BK102.out⟩, ⟨kA BK103.out⟩, ⟨bG HB.out⟩⟩

end
end Go.Proofs.Ythkcphdhmkcdkaa.FU
