/- Written by the session's fprint.py out of the translation. -/
import Derived.Test.YtepcegiciecogaaGreatFRx0
import Derived.Test.YtepcegiciecogaaGreatFRx5
import Derived.Test.YtepcegiciecogaaGreatFRx6
namespace Go.Proofs.YtepcegiciecogaaGreat.FR
open Go.RowKit Go.Proofs.YtepcegiciecogaaGreatW.PrintWords Go.Proofs.YtepcegiciecogaaGreatW.PrintLast Go.Proofs.YtepcegiciecogaaGreatW.PrintMore
attribute [local go_sem] max2_int min2_int max_two min_two max_three min_three max_four min_four   -- for this text's walks alone
open Go.Proofs.YtepcegiciecogaaGreat.FX
attribute [local go_sem] run_store_float run_neg_float run_fmul isSome_setCell 
set_option linter.unusedVariables false
set_option linter.unusedSimpArgs false

/-! ### tenorref1_Plus: function 72 -/
def tenorref1_Plus.j0 : Nat → Int → List Int → List Int → Bool → Bool → List Int → Int → Bool → List Int → Int → Option (Bool × List Int × Int)
  | 0, _, _, _, _, _, _, _, _, _, _ => none
  | k + 1, x5, x6, x7, x33, x254000, x254001, x254002, x255000, x255001, x255002 => if x33 = true then (if (x6.length : Int) = 0 then (if x255000 = true then ((tenorref1_AddDigits.f k x6 x7).bind fun t263 => (some (decide ((wrap64 ((x6.length : Int) + (x7.length : Int))) > 0), t263, x5))) else ((tenorref1_AddDigits.f k x6 x7).bind fun t266 => (some (false, t266, x5)))) else (if x254000 = true then ((tenorref1_AddDigits.f k x6 x7).bind fun t269 => (some (decide ((wrap64 ((x6.length : Int) + (x7.length : Int))) > 0), t269, x5))) else ((tenorref1_AddDigits.f k x6 x7).bind fun t272 => (some (false, t272, x5))))) else ((tenorref1_CmpDigits.f k x6 x7).bind fun t275 => (if t275 = 0 then (some (false, ([] : List Int), 0)) else (if t275 > 0 then ((tenorref1_SubDigits.f k x6 x7).bind fun t276 => (some (x254000, t276, x5))) else ((tenorref1_SubDigits.f k x7 x6).bind fun t279 => (some (x255000, t279, x5))))))
def tenorref1_Plus.f (k : Nat) (a0_0 : Bool) (l0_1 : List Int) (a0_2 : Int) (a1_0 : Bool) (l1_1 : List Int) (a1_2 : Int) : Option (Bool × List Int × Int) := (tenorref1_both.f a0_0 l0_1 a0_2 a1_0 l1_1 a1_2).bind fun t256 => ((tenorref1_low.f k a0_0 l0_1 a0_2 t256).bind fun t257 => ((tenorref1_low.f k a1_0 l1_1 a1_2 t256).bind fun t260 => (if (a0_0 == a1_0) = true then (tenorref1_Plus.j0 k t256 t257 t260 true a0_0 l0_1 a0_2 a1_0 l1_1 a1_2) else (if (t257.length : Int) = 0 then (tenorref1_Plus.j0 k t256 t257 t260 true a0_0 l0_1 a0_2 a1_0 l1_1 a1_2) else (tenorref1_Plus.j0 k t256 t257 t260 ((t260.length : Int) == 0) a0_0 l0_1 a0_2 a1_0 l1_1 a1_2)))))
def tenorref1_Plus.T13 : Bool × List (List Nat × List Nat) := (true, [([], []), ([0], [0]), ([], []), ([], []), ([2, 3], [2, 3]), ([], []), ([1, 4, 5], [1, 4, 5]), ([6, 4, 0, 1, 2, 3, 4, 5, 6], [6])])
def tenorref1_Plus.B13 : List Nat := [0, 1, 0, 0, 12, 0, 63, 127]
theorem tenorref1_Plus.tab13 : rtab .any (opsOf Tryz.f72 13) = tenorref1_Plus.T13 := by kernel_rfl
theorem tenorref1_Plus.bits13 : waitsOk tenorref1_Plus.T13.2 tenorref1_Plus.B13 = true := by kernel_rfl
def tenorref1_Plus.T14 : Bool × List (List Nat × List Nat) := (true, [([], []), ([0], [0]), ([], []), ([], []), ([2, 3], [2, 3]), ([], []), ([1, 4, 5], [1, 4, 5]), ([6, 4, 0, 1, 2, 3, 4, 5, 6], [6])])
def tenorref1_Plus.B14 : List Nat := [0, 1, 0, 0, 12, 0, 63, 127]
theorem tenorref1_Plus.tab14 : rtab .any (opsOf Tryz.f72 14) = tenorref1_Plus.T14 := by kernel_rfl
theorem tenorref1_Plus.bits14 : waitsOk tenorref1_Plus.T14.2 tenorref1_Plus.B14 = true := by kernel_rfl
set_option maxHeartbeats 8000000 in
set_option maxRecDepth 100000 in
theorem tenorref1_Plus.calls (k : Nat) (a0_0 : Bool) (A0_1 : Option Addr) (c0_1 : Nat) (l0_1 : List Int) (a0_2 : Int) (a1_0 : Bool) (A1_1 : Option Addr) (c1_1 : Nat) (l1_1 : List Int) (a1_2 : Int) (r1 : Bool) (r2 : List Int) (r3 : Int) (w : World) (hr0_1 : Kd.C (Kd.int .u64) w A0_1 l0_1.length l0_1) (hc0_1 : l0_1.length ≤ c0_1) (hr1_1 : Kd.C (Kd.int .u64) w A1_1 l1_1.length l1_1) (hc1_1 : l1_1.length ≤ c1_1) (h : tenorref1_Plus.f k a0_0 l0_1 a0_2 a1_0 l1_1 a1_2 = some (r1, r2, r3)) :
    Calls Tryz.prog 72 #[.agg #[.bool a0_0, .slice A0_1 l0_1.length c0_1, .int .i64 a0_2], .agg #[.bool a1_0, .slice A1_1 l1_1.length c1_1, .int .i64 a1_2]] w fun e w' => ∃ v1_ : Value, e = .returned (.agg #[.bool r1, v1_, .int .i64 r3]) ∧ Kd.R (Kd.int .u64) 36 w' w.heap.size (fun _ => True) v1_ r2 ∧ Below w.heap.size w w' := by
  have hu82 := Tryz.underlying82
  have HR0_1 := Aside0.mk hr0_1
  have HC0_1 := Aside0.mk hc0_1
  clear hr0_1 hc0_1
  have HR1_1 := Aside0.mk hr1_1
  have HC1_1 := Aside0.mk hc1_1
  clear hr1_1 hc1_1
  have HB := Aside0.mk (Below.refl w.heap.size w)
  have H : ((tenorref1_both.f a0_0 l0_1 a0_2 a1_0 l1_1 a1_2).bind fun t256 => ((tenorref1_low.f k a0_0 l0_1 a0_2 t256).bind fun t257 => ((tenorref1_low.f k a1_0 l1_1 a1_2 t256).bind fun t260 => (if (a0_0 == a1_0) = true then (tenorref1_Plus.j0 k t256 t257 t260 true a0_0 l0_1 a0_2 a1_0 l1_1 a1_2) else (if (t257.length : Int) = 0 then (tenorref1_Plus.j0 k t256 t257 t260 true a0_0 l0_1 a0_2 a1_0 l1_1 a1_2) else (tenorref1_Plus.j0 k t256 t257 t260 ((t260.length : Int) == 0) a0_0 l0_1 a0_2 a1_0 l1_1 a1_2)))))) = some (r1, r2, r3) := h
  clear h
  replace H := Option.bind_eq_some_iff.mp H
  obtain ⟨t256, A30, H⟩ := H
  have A3 := Aside0.mk A30
  clear A30
  replace H := Option.bind_eq_some_iff.mp H
  obtain ⟨t257, A40, H⟩ := H
  have A4 := Aside0.mk A40
  clear A40
  replace H := Option.bind_eq_some_iff.mp H
  obtain ⟨t260, A50, H⟩ := H
  have A5 := Aside0.mk A50
  clear A50
  have HC6 := Aside0.mk H
  clear H
  go_enter Tryz.func72, Tryz.ntmps72
  go_upto_region 4 with (first | ((with_reducible refine gate_dst (N := 2) rfl ?_); (try (refine gate_guard (by rfl) ?_; dsimp only)); refine box_event ?hg (N := 2) ?hd (cs := #[.bool a0_0, .slice A0_1 l0_1.length c0_1, .int .i64 a0_2]) (t := 82) ?hr ?_; (case hd => rfl); (case hg => rfl); (case hr => first | (go_simp; done) | (go_simp; rfl)); intro gb253 hg w7 hbox hb; have n0_ := Aside0.mk (below_step (bA HB.out) hb); have n1_ := Aside0.mk (hbox); have n2_ := Aside0.mk ((by rw [hg]; exact (below_size (bA HB.out)) : w.heap.size ≤ gb253)); have n3_ := Aside0.mk ((by rw [hg]; exact (below_size (bA HB.out)) : w.heap.size ≤ gb253)); clear HB; have HB := n0_; have BK253 := n1_; have GW253 := n2_; have GE253 := n3_; clear n0_ n1_ n2_ n3_; clear hb hbox hg) | ((with_reducible refine gate_dst (N := 3) rfl ?_); (try (refine gate_guard (by rfl) ?_; dsimp only)); refine box_event ?hg (N := 3) ?hd (cs := #[.bool a1_0, .slice A1_1 l1_1.length c1_1, .int .i64 a1_2]) (t := 82) ?hr ?_; (case hd => rfl); (case hg => rfl); (case hr => first | (go_simp; done) | (go_simp; rfl)); intro gb254 hg w8 hbox hb; have n0_ := Aside0.mk (blk_below (g := gb253) (o := .cells #[.bool a0_0, .slice A0_1 l0_1.length c0_1, .int .i64 a0_2] 82 (0, 0)) (kA BK253.out) hb); have n1_ := Aside0.mk (below_step (bG HB.out) hb); have n2_ := Aside0.mk (hbox); have n3_ := Aside0.mk ((by rw [hg]; exact (below_size (bG HB.out)) : w.heap.size ≤ gb254)); have n4_ := Aside0.mk ((by rw [hg]; exact (below_size (bG HB.out)) : w.heap.size ≤ gb254)); have n5_ := Aside0.mk ((by rw [hg]; exact Nat.ne_of_lt (blk_lt (g := gb253) (o := .cells #[.bool a0_0, .slice A0_1 l0_1.length c0_1, .int .i64 a0_2] 82 (0, 0)) (kA BK253.out)) : gb253 ≠ gb254)); have n6_ := Aside0.mk ((by rw [hg]; exact Nat.ne_of_gt (blk_lt (g := gb253) (o := .cells #[.bool a0_0, .slice A0_1 l0_1.length c0_1, .int .i64 a0_2] 82 (0, 0)) (kA BK253.out)) : gb254 ≠ gb253)); clear BK253; clear HB; have BK253 := n0_; have HB := n1_; have BK254 := n2_; have GW254 := n3_; have GE254 := n4_; have NB253_254 := n5_; have NB254_253 := n6_; clear n0_ n1_ n2_ n3_ n4_ n5_ n6_; clear hb hbox hg) | ((with_reducible refine gate_dst (N := 4) rfl ?_); (try (refine gate_guard (by rfl) ?_; dsimp only)); refine box_event ?hg (N := 4) ?hd (cs := #[.bool false, .slice none 0 0, .int .i64 0]) (t := 82) ?hr ?_; (case hd => rfl); (case hg => rfl); (case hr => first | (go_simp; done) | (go_simp; rfl)); intro gb255 hg w9 hbox hb; have n0_ := Aside0.mk (blk_below (g := gb253) (o := .cells #[.bool a0_0, .slice A0_1 l0_1.length c0_1, .int .i64 a0_2] 82 (0, 0)) (kA BK253.out) hb); have n1_ := Aside0.mk (blk_below (g := gb254) (o := .cells #[.bool a1_0, .slice A1_1 l1_1.length c1_1, .int .i64 a1_2] 82 (0, 0)) (kA BK254.out) hb); have n2_ := Aside0.mk (below_step (bG HB.out) hb); have n3_ := Aside0.mk (hbox); have n4_ := Aside0.mk ((by rw [hg]; exact (below_size (bG HB.out)) : w.heap.size ≤ gb255)); have n5_ := Aside0.mk ((by rw [hg]; exact (below_size (bG HB.out)) : w.heap.size ≤ gb255)); have n6_ := Aside0.mk ((by rw [hg]; exact Nat.ne_of_lt (blk_lt (g := gb253) (o := .cells #[.bool a0_0, .slice A0_1 l0_1.length c0_1, .int .i64 a0_2] 82 (0, 0)) (kA BK253.out)) : gb253 ≠ gb255)); have n7_ := Aside0.mk ((by rw [hg]; exact Nat.ne_of_gt (blk_lt (g := gb253) (o := .cells #[.bool a0_0, .slice A0_1 l0_1.length c0_1, .int .i64 a0_2] 82 (0, 0)) (kA BK253.out)) : gb255 ≠ gb253)); have n8_ := Aside0.mk ((by rw [hg]; exact Nat.ne_of_lt (blk_lt (g := gb254) (o := .cells #[.bool a1_0, .slice A1_1 l1_1.length c1_1, .int .i64 a1_2] 82 (0, 0)) (kA BK254.out)) : gb254 ≠ gb255)); have n9_ := Aside0.mk ((by rw [hg]; exact Nat.ne_of_gt (blk_lt (g := gb254) (o := .cells #[.bool a1_0, .slice A1_1 l1_1.length c1_1, .int .i64 a1_2] 82 (0, 0)) (kA BK254.out)) : gb255 ≠ gb254)); clear BK253; clear BK254; clear HB; have BK253 := n0_; have BK254 := n1_; have HB := n2_; have BK255 := n3_; have GW255 := n4_; have GE255 := n5_; have NB253_255 := n6_; have NB255_253 := n7_; have NB254_255 := n8_; have NB255_254 := n9_; clear n0_ n1_ n2_ n3_ n4_ n5_ n6_ n7_ n8_ n9_; clear hb hbox hg; have hnb10 := NB253_254.out; have hnc10 := NB254_253.out; have hnb11 := NB253_255.out; have hnc11 := NB255_253.out; have hcz12_0 : w9.cell? ⟨gb253, 0, none⟩ = some (.bool a0_0) := (blk_cell BK253.out 0).trans rfl; have hcz12_1 : w9.cell? ⟨gb253, 1, none⟩ = some (.slice A0_1 l0_1.length c0_1) := (blk_cell BK253.out 1).trans rfl; have hcz12_2 : w9.cell? ⟨gb253, 2, none⟩ = some (.int .i64 a0_2) := (blk_cell BK253.out 2).trans rfl; have hfz12_0 := blk_frozen BK253.out 0; have hfz12_1 := blk_frozen BK253.out 1; have hfz12_2 := blk_frozen BK253.out 2; have hnb13 := NB254_255.out; have hnc13 := NB255_254.out; have hcz14_0 : w9.cell? ⟨gb254, 0, none⟩ = some (.bool a1_0) := (blk_cell BK254.out 0).trans rfl; have hcz14_1 : w9.cell? ⟨gb254, 1, none⟩ = some (.slice A1_1 l1_1.length c1_1) := (blk_cell BK254.out 1).trans rfl; have hcz14_2 : w9.cell? ⟨gb254, 2, none⟩ = some (.int .i64 a1_2) := (blk_cell BK254.out 2).trans rfl; have hfz14_0 := blk_frozen BK254.out 0; have hfz14_1 := blk_frozen BK254.out 1; have hfz14_2 := blk_frozen BK254.out 2) | ((with_reducible refine gate_callee (f := 113) rfl ?_); refine goesL_ (some 12) rfl rfl Tryz.func113 (by kernel_rfl) rfl #[.agg #[.bool a0_0, .slice A0_1 l0_1.length c0_1, .int .i64 a0_2], .agg #[.bool a1_0, .slice A1_1 l1_1.length c1_1, .int .i64 a1_2]] rfl mA ?_; (with_reducible refine (tenorref1_both.calls a0_0 _ _ l0_1 a0_2 a1_0 _ _ l1_1 a1_2 t256 _ ?side1 ?side2 ?side3 ?side4 A3.out).mono ?_); (case side1 => exact cA (Kd.C_below HR0_1.out HB.out)); (case side2 => exact HC0_1.out); (case side3 => exact cA (Kd.C_below HR1_1.out HB.out)); (case side4 => exact HC1_1.out); rintro e w15 ⟨rfl, hb⟩; refine ⟨_, rfl, ?_⟩; have n0_ := Aside0.mk (blk_below (g := gb253) (o := .cells #[.bool a0_0, .slice A0_1 l0_1.length c0_1, .int .i64 a0_2] 82 (0, 0)) (kA BK253.out) hb); have n1_ := Aside0.mk (blk_below (g := gb254) (o := .cells #[.bool a1_0, .slice A1_1 l1_1.length c1_1, .int .i64 a1_2] 82 (0, 0)) (kA BK254.out) hb); have n2_ := Aside0.mk (blk_below (g := gb255) (o := .cells #[.bool false, .slice none 0 0, .int .i64 0] 82 (0, 0)) (kA BK255.out) hb); have n3_ := Aside0.mk (below_step (bG HB.out) hb); clear BK253; clear BK254; clear BK255; clear HB; have BK253 := n0_; have BK254 := n1_; have BK255 := n2_; have HB := n3_; clear n0_ n1_ n2_ n3_; (try clear hb); (try clear hb2); (try clear hk); (try clear hi); have hcz16_0 : w15.cell? ⟨gb253, 0, none⟩ = some (.bool a0_0) := (blk_cell BK253.out 0).trans rfl; have hcz16_1 : w15.cell? ⟨gb253, 1, none⟩ = some (.slice A0_1 l0_1.length c0_1) := (blk_cell BK253.out 1).trans rfl; have hcz16_2 : w15.cell? ⟨gb253, 2, none⟩ = some (.int .i64 a0_2) := (blk_cell BK253.out 2).trans rfl; have hfz16_0 := blk_frozen BK253.out 0; have hfz16_1 := blk_frozen BK253.out 1; have hfz16_2 := blk_frozen BK253.out 2) | ((with_reducible refine gate_callee (f := 114) rfl ?_); refine goesL_ (some 15) rfl rfl Tryz.func114 (by kernel_rfl) rfl #[.agg #[.bool a0_0, .slice A0_1 l0_1.length c0_1, .int .i64 a0_2], .int .i64 t256] rfl mA ?_; (with_reducible refine (tenorref1_low.calls k a0_0 _ _ l0_1 a0_2 t256 t257 _ ?side1 ?side2 A4.out).mono ?_); (case side1 => exact cA (Kd.C_below HR0_1.out HB.out)); (case side2 => exact HC0_1.out); rintro e w17 ⟨v258, rfl, ho0, hb⟩; refine ⟨_, rfl, ?_⟩; have n0_ := Aside0.mk (Kd.R_lower ho0 (below_size (bG HB.out))); have n1_ := Aside0.mk (blk_below (g := gb253) (o := .cells #[.bool a0_0, .slice A0_1 l0_1.length c0_1, .int .i64 a0_2] 82 (0, 0)) (kA BK253.out) hb); have n2_ := Aside0.mk (blk_below (g := gb254) (o := .cells #[.bool a1_0, .slice A1_1 l1_1.length c1_1, .int .i64 a1_2] 82 (0, 0)) (kA BK254.out) hb); have n3_ := Aside0.mk (blk_below (g := gb255) (o := .cells #[.bool false, .slice none 0 0, .int .i64 0] 82 (0, 0)) (kA BK255.out) hb); have n4_ := Aside0.mk (below_step (bG HB.out) hb); clear BK253; clear BK254; clear BK255; clear HB; have HO259 := n0_; have BK253 := n1_; have BK254 := n2_; have BK255 := n3_; have HB := n4_; clear n0_ n1_ n2_ n3_ n4_; (try clear hb); (try clear hb2); (try clear hk); (try clear hi); (try clear ho0); have hcz18_0 : w17.cell? ⟨gb254, 0, none⟩ = some (.bool a1_0) := (blk_cell BK254.out 0).trans rfl; have hcz18_1 : w17.cell? ⟨gb254, 1, none⟩ = some (.slice A1_1 l1_1.length c1_1) := (blk_cell BK254.out 1).trans rfl; have hcz18_2 : w17.cell? ⟨gb254, 2, none⟩ = some (.int .i64 a1_2) := (blk_cell BK254.out 2).trans rfl; have hfz18_0 := blk_frozen BK254.out 0; have hfz18_1 := blk_frozen BK254.out 1; have hfz18_2 := blk_frozen BK254.out 2) | ((with_reducible refine gate_callee (f := 114) rfl ?_); refine goesL_ (some 18) rfl rfl Tryz.func114 (by kernel_rfl) rfl #[.agg #[.bool a1_0, .slice A1_1 l1_1.length c1_1, .int .i64 a1_2], .int .i64 t256] rfl mA ?_; (with_reducible refine (tenorref1_low.calls k a1_0 _ _ l1_1 a1_2 t256 t260 _ ?side1 ?side2 A5.out).mono ?_); (case side1 => exact cA (Kd.C_below HR1_1.out HB.out)); (case side2 => exact HC1_1.out); rintro e w19 ⟨v261, rfl, ho0, hb⟩; refine ⟨_, rfl, ?_⟩; have n0_ := Aside0.mk (Kd.R_elder' (rA HO259.out) (Kd.R_base ho0) hb); have n1_ := Aside0.mk (Kd.R_lower (Kd.R_new' ho0 (Kd.R_lt (rA HO259.out))) (below_size (bG HB.out))); have n2_ := Aside0.mk (blk_below (g := gb253) (o := .cells #[.bool a0_0, .slice A0_1 l0_1.length c0_1, .int .i64 a0_2] 82 (0, 0)) (kA BK253.out) hb); have n3_ := Aside0.mk (blk_below (g := gb254) (o := .cells #[.bool a1_0, .slice A1_1 l1_1.length c1_1, .int .i64 a1_2] 82 (0, 0)) (kA BK254.out) hb); have n4_ := Aside0.mk (blk_below (g := gb255) (o := .cells #[.bool false, .slice none 0 0, .int .i64 0] 82 (0, 0)) (kA BK255.out) hb); have n5_ := Aside0.mk (below_step (bG HB.out) hb); clear HO259; clear BK253; clear BK254; clear BK255; clear HB; have HO259 := n0_; have HO262 := n1_; have BK253 := n2_; have BK254 := n3_; have BK255 := n4_; have HB := n5_; clear n0_ n1_ n2_ n3_ n4_ n5_; (try clear hb); (try clear hb2); (try clear hk); (try clear hi); (try clear ho0)))
  (try simp only [Act.put, List.setIfInBounds_toArray, List.set_cons_zero, List.set_cons_succ])
  go_cut [33] (fun v33 wc => ∃ (kq : Nat) (x33_5 : Bool), v33 = .bool x33_5 ∧ Aside0 (tenorref1_Plus.j0 kq t256 t257 t260 x33_5 a0_0 l0_1 a0_2 a1_0 l1_1 a1_2 = some (r1, r2, r3)) ∧ Aside0 (kq ≤ k) ∧ Aside0 (Kd.R (Kd.int .u64) 36 wc w.heap.size (fun k_ => some k_ ≠ (v261 : Value).ownBlock) v258 t257) ∧ Aside0 (Kd.R (Kd.int .u64) 36 wc w.heap.size (fun k_ => some k_ ≠ (v258 : Value).ownBlock) v261 t260) ∧ Aside0 (wc.heap[gb253]? = some (.cells #[.bool a0_0, (.slice A0_1 l0_1.length c0_1), .int .i64 a0_2] 82 (0, 0))) ∧ Aside0 (wc.heap[gb254]? = some (.cells #[.bool a1_0, (.slice A1_1 l1_1.length c1_1), .int .i64 a1_2] 82 (0, 0))) ∧ Aside0 (wc.heap[gb255]? = some (.cells #[.bool false, (.slice none 0 0), .int .i64 0] 82 (0, 0))) ∧ Aside0 (Below w.heap.size w wc))
  case first =>
    have H := HC6.out
    clear HC6
    by_cases c20 : (a0_0 == a1_0) = true
    · rw [if_pos c20] at H
      have c20b0 : (a0_0 == a1_0) = true := c20
      (try (have c20b1 : decide (a0_0 = a1_0) = true := by simpa using c20))
      (try (have c20b2 : (a0_0 == a1_0) = true := by simpa using c20))
      clear c20
      (first | rw [c20b0] | (simp only [i64_w, i32_w]; rw [c20b0]) | skip)
      have H' := Aside0.mk H
      clear H
      have hnb21 := NB253_254.out
      have hnc21 := NB254_253.out
      have hnb22 := NB253_255.out
      have hnc22 := NB255_253.out
      have hcz23_0 : w19.cell? ⟨gb253, 0, none⟩ = some (.bool a0_0) := (blk_cell BK253.out 0).trans rfl
      have hcz23_1 : w19.cell? ⟨gb253, 1, none⟩ = some (.slice A0_1 l0_1.length c0_1) := (blk_cell BK253.out 1).trans rfl
      have hcz23_2 : w19.cell? ⟨gb253, 2, none⟩ = some (.int .i64 a0_2) := (blk_cell BK253.out 2).trans rfl
      have hfz23_0 := blk_frozen BK253.out 0
      have hfz23_1 := blk_frozen BK253.out 1
      have hfz23_2 := blk_frozen BK253.out 2
      have hnb24 := NB254_255.out
      have hnc24 := NB255_254.out
      have hcz25_0 : w19.cell? ⟨gb254, 0, none⟩ = some (.bool a1_0) := (blk_cell BK254.out 0).trans rfl
      have hcz25_1 : w19.cell? ⟨gb254, 1, none⟩ = some (.slice A1_1 l1_1.length c1_1) := (blk_cell BK254.out 1).trans rfl
      have hcz25_2 : w19.cell? ⟨gb254, 2, none⟩ = some (.int .i64 a1_2) := (blk_cell BK254.out 2).trans rfl
      have hfz25_0 := blk_frozen BK254.out 0
      have hfz25_1 := blk_frozen BK254.out 1
      have hfz25_2 := blk_frozen BK254.out 2
      go_wp2
      go_meet
      case rel => exact ⟨_, (true), (by first | (with_reducible rfl) | (simp; done) | (simp [*]; done) | rfl), H', ⟨by first | omega | exact Nat.le_refl _⟩, ⟨rA (Kd.R_mono HO259.out (fun _ hk => hk.2))⟩, ⟨rA (Kd.R_mono HO262.out (fun _ hk => hk.2))⟩, ⟨kA BK253.out⟩, ⟨kA BK254.out⟩, ⟨kA BK255.out⟩, ⟨bG HB.out⟩⟩
    rw [if_neg c20] at H
    have c20b0 : (a0_0 == a1_0) = false := by simpa using c20
    (try (have c20b1 : decide (a0_0 = a1_0) = false := by simpa using c20))
    (try (have c20b2 : (a0_0 == a1_0) = false := by simpa using c20))
    (try (have c20b3 : ¬ (a0_0 = a1_0) := by simpa using c20))
    clear c20
    (first | rw [c20b0] | (simp only [i64_w, i32_w]; rw [c20b0]) | skip)
    by_cases c26 : (t257.length : Int) = 0
    · rw [if_pos c26] at H
      have c26b0 : ((t257.length : Int) == 0) = true := beq_iff_eq.mpr c26
      have c26b1 : ((t257.length : Int) != 0) = false := bne_eq_false_iff_eq.mpr c26
      clear c26
      have H' := Aside0.mk H
      clear H
      have hnb27 := NB253_254.out
      have hnc27 := NB254_253.out
      have hnb28 := NB253_255.out
      have hnc28 := NB255_253.out
      have hcz29_0 : w19.cell? ⟨gb253, 0, none⟩ = some (.bool a0_0) := (blk_cell BK253.out 0).trans rfl
      have hcz29_1 : w19.cell? ⟨gb253, 1, none⟩ = some (.slice A0_1 l0_1.length c0_1) := (blk_cell BK253.out 1).trans rfl
      have hcz29_2 : w19.cell? ⟨gb253, 2, none⟩ = some (.int .i64 a0_2) := (blk_cell BK253.out 2).trans rfl
      have hfz29_0 := blk_frozen BK253.out 0
      have hfz29_1 := blk_frozen BK253.out 1
      have hfz29_2 := blk_frozen BK253.out 2
      have hnb30 := NB254_255.out
      have hnc30 := NB255_254.out
      have hcz31_0 : w19.cell? ⟨gb254, 0, none⟩ = some (.bool a1_0) := (blk_cell BK254.out 0).trans rfl
      have hcz31_1 : w19.cell? ⟨gb254, 1, none⟩ = some (.slice A1_1 l1_1.length c1_1) := (blk_cell BK254.out 1).trans rfl
      have hcz31_2 : w19.cell? ⟨gb254, 2, none⟩ = some (.int .i64 a1_2) := (blk_cell BK254.out 2).trans rfl
      have hfz31_0 := blk_frozen BK254.out 0
      have hfz31_1 := blk_frozen BK254.out 1
      have hfz31_2 := blk_frozen BK254.out 2
      obtain ⟨Ao32, co32, eo32⟩ := Kd.R_slice HO259.out
      subst eo32
      go_wp2
      go_meet
      case rel => exact ⟨_, (true), (by first | (with_reducible rfl) | (simp; done) | (simp [*]; done) | rfl), H', ⟨by first | omega | exact Nat.le_refl _⟩, ⟨rA (Kd.R_mono HO259.out (fun _ hk => hk.2))⟩, ⟨rA (Kd.R_mono HO262.out (fun _ hk => hk.2))⟩, ⟨kA BK253.out⟩, ⟨kA BK254.out⟩, ⟨kA BK255.out⟩, ⟨bG HB.out⟩⟩
    rw [if_neg c26] at H
    have c26b0 : ((t257.length : Int) == 0) = false := beq_eq_false_iff_ne.mpr c26
    have c26b1 : ((t257.length : Int) != 0) = true := bne_iff_ne.mpr c26
    have c26b2 : ¬ (t257 = []) := fun h_ => c26 (by rw [h_]; rfl)
    have H' := Aside0.mk H
    clear H
    have hnb33 := NB253_254.out
    have hnc33 := NB254_253.out
    have hnb34 := NB253_255.out
    have hnc34 := NB255_253.out
    have hcz35_0 : w19.cell? ⟨gb253, 0, none⟩ = some (.bool a0_0) := (blk_cell BK253.out 0).trans rfl
    have hcz35_1 : w19.cell? ⟨gb253, 1, none⟩ = some (.slice A0_1 l0_1.length c0_1) := (blk_cell BK253.out 1).trans rfl
    have hcz35_2 : w19.cell? ⟨gb253, 2, none⟩ = some (.int .i64 a0_2) := (blk_cell BK253.out 2).trans rfl
    have hfz35_0 := blk_frozen BK253.out 0
    have hfz35_1 := blk_frozen BK253.out 1
    have hfz35_2 := blk_frozen BK253.out 2
    have hnb36 := NB254_255.out
    have hnc36 := NB255_254.out
    have hcz37_0 : w19.cell? ⟨gb254, 0, none⟩ = some (.bool a1_0) := (blk_cell BK254.out 0).trans rfl
    have hcz37_1 : w19.cell? ⟨gb254, 1, none⟩ = some (.slice A1_1 l1_1.length c1_1) := (blk_cell BK254.out 1).trans rfl
    have hcz37_2 : w19.cell? ⟨gb254, 2, none⟩ = some (.int .i64 a1_2) := (blk_cell BK254.out 2).trans rfl
    have hfz37_0 := blk_frozen BK254.out 0
    have hfz37_1 := blk_frozen BK254.out 1
    have hfz37_2 := blk_frozen BK254.out 2
    obtain ⟨Ao38, co38, eo38⟩ := Kd.R_slice HO259.out
    subst eo38
    obtain ⟨Ao39, co39, eo39⟩ := Kd.R_slice HO262.out
    subst eo39
    go_wp2
    go_meet
    case rel => exact ⟨_, (((t260.length : Int) == 0)), (by first | (with_reducible rfl) | (simp; done) | (simp [*]; done) | rfl), H', ⟨by first | omega | exact Nat.le_refl _⟩, ⟨rA (Kd.R_mono HO259.out (fun _ hk => hk.2))⟩, ⟨rA (Kd.R_mono HO262.out (fun _ hk => hk.2))⟩, ⟨kA BK253.out⟩, ⟨kA BK254.out⟩, ⟨kA BK255.out⟩, ⟨bG HB.out⟩⟩
  case rest =>
    clear HC6
    try clear c1
    try clear c2
    try clear p2
    try clear c3
    try clear c7
    try clear c10
    try clear c11
    try clear c13
    try clear c20
    try clear c20b0
    try clear c20b1
    try clear c20b2
    try clear c21
    try clear c22
    try clear c24
    try clear c26
    try clear c26b0
    try clear c26b1
    try clear c26b2
    try clear c27
    try clear c28
    try clear c30
    try clear c33
    try clear c34
    try clear c36
    try clear hcz12_0
    try clear hcz12_1
    try clear hcz12_2
    try clear hcz14_0
    try clear hcz14_1
    try clear hcz14_2
    try clear hcz16_0
    try clear hcz16_1
    try clear hcz16_2
    try clear hcz18_0
    try clear hcz18_1
    try clear hcz18_2
    try clear hcz23_0
    try clear hcz23_1
    try clear hcz23_2
    try clear hcz25_0
    try clear hcz25_1
    try clear hcz25_2
    try clear hcz29_0
    try clear hcz29_1
    try clear hcz29_2
    try clear hcz31_0
    try clear hcz31_1
    try clear hcz31_2
    try clear hcz35_0
    try clear hcz35_1
    try clear hcz35_2
    try clear hcz37_0
    try clear hcz37_1
    try clear hcz37_2
    try clear hfz12_0
    try clear hfz12_1
    try clear hfz12_2
    try clear hfz14_0
    try clear hfz14_1
    try clear hfz14_2
    try clear hfz16_0
    try clear hfz16_1
    try clear hfz16_2
    try clear hfz18_0
    try clear hfz18_1
    try clear hfz18_2
    try clear hfz23_0
    try clear hfz23_1
    try clear hfz23_2
    try clear hfz25_0
    try clear hfz25_1
    try clear hfz25_2
    try clear hfz29_0
    try clear hfz29_1
    try clear hfz29_2
    try clear hfz31_0
    try clear hfz31_1
    try clear hfz31_2
    try clear hfz35_0
    try clear hfz35_1
    try clear hfz35_2
    try clear hfz37_0
    try clear hfz37_1
    try clear hfz37_2
    obtain ⟨kq, x33_5, rfl, HA, HJ5, HO_6, HO_7, BK253, BK254, BK255, HB⟩ := hcut
    cases kq with
    | zero => exact absurd HA.out (by simp [tenorref1_Plus.j0])
    | succ kj5 =>
      have H := HA.out
      clear HA
      simp only [tenorref1_Plus.j0] at H
      by_cases c40 : x33_5 = true
      · subst c40
        have H1 : (if (t257.length : Int) = 0 then (if a1_0 = true then ((tenorref1_AddDigits.f kj5 t257 t260).bind fun t263 => (some (decide ((wrap64 ((t257.length : Int) + (t260.length : Int))) > 0), t263, t256))) else ((tenorref1_AddDigits.f kj5 t257 t260).bind fun t266 => (some (false, t266, t256)))) else (if a0_0 = true then ((tenorref1_AddDigits.f kj5 t257 t260).bind fun t269 => (some (decide ((wrap64 ((t257.length : Int) + (t260.length : Int))) > 0), t269, t256))) else ((tenorref1_AddDigits.f kj5 t257 t260).bind fun t272 => (some (false, t272, t256))))) = some (r1, r2, r3) := by rw [if_pos rfl] at H; exact H
        clear H
        have H := H1
        clear H1
        by_cases c41 : (t257.length : Int) = 0
        rotate_left
        · rw [if_neg c41] at H
          have c41b0 : ((t257.length : Int) == 0) = false := beq_eq_false_iff_ne.mpr c41
          have c41b1 : ((t257.length : Int) != 0) = true := bne_iff_ne.mpr c41
          have c41b2 : ¬ (t257 = []) := fun h_ => c41 (by rw [h_]; rfl)
          by_cases c65 : a0_0 = true
          rotate_left
          · replace c65 := Bool.eq_false_iff.mpr c65
            subst c65
            have H1 : ((tenorref1_AddDigits.f kj5 t257 t260).bind fun t272 => (some (false, t272, t256))) = some (r1, r2, r3) := by rw [if_neg (show ¬ (false = true) by decide)] at H; exact H
            clear H
            have H := H1
            clear H1
            replace H := Option.bind_eq_some_iff.mp H
            obtain ⟨t272, A760, H⟩ := H
            have A76 := Aside0.mk A760
            clear A760
            simp only [Option.some.injEq, Prod.mk.injEq] at H
            obtain ⟨rfl, rfl, rfl⟩ := H
            have hnb77 := NB253_254.out
            have hnc77 := NB254_253.out
            have hnb78 := NB253_255.out
            have hnc78 := NB255_253.out
            have hcz79_0 : wc.cell? ⟨gb253, 0, none⟩ = some (.bool false) := (blk_cell BK253.out 0).trans rfl
            have hcz79_1 : wc.cell? ⟨gb253, 1, none⟩ = some (.slice A0_1 l0_1.length c0_1) := (blk_cell BK253.out 1).trans rfl
            have hcz79_2 : wc.cell? ⟨gb253, 2, none⟩ = some (.int .i64 a0_2) := (blk_cell BK253.out 2).trans rfl
            have hfz79_0 := blk_frozen BK253.out 0
            have hfz79_1 := blk_frozen BK253.out 1
            have hfz79_2 := blk_frozen BK253.out 2
            obtain ⟨Ao80, co80, eo80⟩ := Kd.R_slice HO_6.out
            subst eo80
            obtain ⟨Ao81, co81, eo81⟩ := Kd.R_slice HO_7.out
            subst eo81
            go_wp2_with (first | ((with_reducible refine gate_callee (f := 115) rfl ?_); refine goesL_ (some 52) rfl rfl Tryz.func115 (by kernel_rfl) rfl #[.slice Ao80 t257.length co80, .slice Ao81 t260.length co81] rfl mA ?_; (with_reducible refine (tenorref1_AddDigits.calls kj5 _ _ t257 _ _ t260 t272 _ ?side1 ?side2 ?side3 ?side4 A76.out).mono ?_); (case side1 => exact cA ((Kd.R_reads' HO_6.out).2.2)); (case side2 => exact (Kd.R_reads' HO_6.out).2.1); (case side3 => exact cA ((Kd.R_reads' HO_7.out).2.2)); (case side4 => exact (Kd.R_reads' HO_7.out).2.1); rintro e w82 ⟨v273, rfl, ho0, hb⟩; refine ⟨_, rfl, ?_⟩; have n0_ := Aside0.mk (Kd.R_elder' (rA HO_6.out) (Kd.R_base ho0) hb); have n1_ := Aside0.mk (Kd.R_elder' (rA HO_7.out) (Kd.R_base ho0) hb); have n2_ := Aside0.mk (Kd.R_lower (Kd.R_new' (Kd.R_new' ho0 (Kd.R_lt (rA HO_6.out))) (Kd.R_lt (rA HO_7.out))) (below_size (bG HB.out))); have n3_ := Aside0.mk (blk_below (g := gb253) (o := .cells #[.bool false, .slice A0_1 l0_1.length c0_1, .int .i64 a0_2] 82 (0, 0)) (kA BK253.out) hb); have n4_ := Aside0.mk (blk_below (g := gb254) (o := .cells #[.bool a1_0, .slice A1_1 l1_1.length c1_1, .int .i64 a1_2] 82 (0, 0)) (kA BK254.out) hb); have n5_ := Aside0.mk (blk_below (g := gb255) (o := .cells #[.bool false, .slice none 0 0, .int .i64 0] 82 (0, 0)) (kA BK255.out) hb); have n6_ := Aside0.mk (below_step (bG HB.out) hb); clear HO_6; clear HO_7; clear BK253; clear BK254; clear BK255; clear HB; have HO_6 := n0_; have HO_7 := n1_; have HO274 := n2_; have BK253 := n3_; have BK254 := n4_; have BK255 := n5_; have HB := n6_; clear n0_ n1_ n2_ n3_ n4_ n5_ n6_; (try clear hb); (try clear hb2); (try clear hk); (try clear hi); (try clear ho0); obtain ⟨Ao83, co83, eo83⟩ := Kd.R_slice HO274.out; subst eo83; have hnb84 := NB255_254.out; have hnc84 := NB254_255.out; have hcz85_0 : w82.cell? ⟨gb255, 0, none⟩ = some (.bool false) := (blk_cell BK255.out 0).trans rfl; have hcz85_1 : w82.cell? ⟨gb255, 1, none⟩ = some (.slice none 0 0) := (blk_cell BK255.out 1).trans rfl; have hcz85_2 : w82.cell? ⟨gb255, 2, none⟩ = some (.int .i64 0) := (blk_cell BK255.out 2).trans rfl; have hfz85_0 := blk_frozen BK255.out 0; have hfz85_1 := blk_frozen BK255.out 1; have hfz85_2 := blk_frozen BK255.out 2))
            refine bodyPost_ret (results_cell_row rfl _ _ gb255 82 #[.bool false, .slice Ao83 t272.length co83, .int .i64 t256] (0, 0) _ rfl (by (with_reducible repeat (first | refine blk_drewN ?_ _ | refine blk_drew ?_ | refine blk_alloc ?_ _)); refine blk_put (cs := #[.bool false, .slice Ao83 t272.length co83, .int .i64 0]) ?_ 2 _ rfl; (with_reducible repeat (first | refine blk_drewN ?_ _ | refine blk_drew ?_ | refine blk_alloc ?_ _)); refine blk_put (cs := #[.bool false, .slice none 0 0, .int .i64 0]) ?_ 1 _ rfl; (with_reducible repeat (first | refine blk_drewN ?_ _ | refine blk_drew ?_ | refine blk_alloc ?_ _)); refine blk_put (cs := #[.bool false, .slice none 0 0, .int .i64 0]) ?_ 0 _ rfl; (with_reducible repeat (first | refine blk_drewN ?_ _ | refine blk_drew ?_ | refine blk_alloc ?_ _)); exact BK255.out) Tryz.underlying82 rfl (by kernel_rfl)) rfl ?_
            exact ⟨_, by first | rfl | (simp [errW_none, errW_some] <;> rfl) | (simp [*, errW_none, errW_some] <;> rfl), by (with_reducible repeat (first | apply Kd.R_alloc | apply Kd.R_drewN | apply Kd.R_drew)); exact Kd.R_mono (Kd.R_far (p := ⟨gb255, 2, none⟩) (Kd.R_far (p := ⟨gb255, 1, none⟩) (Kd.R_far (p := ⟨gb255, 0, none⟩) (Kd.R_types HO274.out BK255.out (by decide)) (fun _ hk => hk.2) (.bool false)) (fun _ hk => hk.2) (.slice Ao83 t272.length co83)) (fun _ hk => hk.2) (.int .i64 t256)) (fun _ hk => trivial), bG HB.out⟩
          subst c65
          have H1 : ((tenorref1_AddDigits.f kj5 t257 t260).bind fun t269 => (some (decide ((wrap64 ((t257.length : Int) + (t260.length : Int))) > 0), t269, t256))) = some (r1, r2, r3) := by rw [if_pos rfl] at H; exact H
          clear H
          have H := H1
          clear H1
          replace H := Option.bind_eq_some_iff.mp H
          obtain ⟨t269, A660, H⟩ := H
          have A66 := Aside0.mk A660
          clear A660
          simp only [Option.some.injEq, Prod.mk.injEq] at H
          obtain ⟨rfl, rfl, rfl⟩ := H
          have hnb67 := NB253_254.out
          have hnc67 := NB254_253.out
          have hnb68 := NB253_255.out
          have hnc68 := NB255_253.out
          have hcz69_0 : wc.cell? ⟨gb253, 0, none⟩ = some (.bool true) := (blk_cell BK253.out 0).trans rfl
          have hcz69_1 : wc.cell? ⟨gb253, 1, none⟩ = some (.slice A0_1 l0_1.length c0_1) := (blk_cell BK253.out 1).trans rfl
          have hcz69_2 : wc.cell? ⟨gb253, 2, none⟩ = some (.int .i64 a0_2) := (blk_cell BK253.out 2).trans rfl
          have hfz69_0 := blk_frozen BK253.out 0
          have hfz69_1 := blk_frozen BK253.out 1
          have hfz69_2 := blk_frozen BK253.out 2
          obtain ⟨Ao70, co70, eo70⟩ := Kd.R_slice HO_6.out
          subst eo70
          obtain ⟨Ao71, co71, eo71⟩ := Kd.R_slice HO_7.out
          subst eo71
          go_wp2_with (first | ((with_reducible refine gate_callee (f := 115) rfl ?_); refine goesL_ (some 52) rfl rfl Tryz.func115 (by kernel_rfl) rfl #[.slice Ao70 t257.length co70, .slice Ao71 t260.length co71] rfl mA ?_; (with_reducible refine (tenorref1_AddDigits.calls kj5 _ _ t257 _ _ t260 t269 _ ?side1 ?side2 ?side3 ?side4 A66.out).mono ?_); (case side1 => exact cA ((Kd.R_reads' HO_6.out).2.2)); (case side2 => exact (Kd.R_reads' HO_6.out).2.1); (case side3 => exact cA ((Kd.R_reads' HO_7.out).2.2)); (case side4 => exact (Kd.R_reads' HO_7.out).2.1); rintro e w72 ⟨v270, rfl, ho0, hb⟩; refine ⟨_, rfl, ?_⟩; have n0_ := Aside0.mk (Kd.R_elder' (rA HO_6.out) (Kd.R_base ho0) hb); have n1_ := Aside0.mk (Kd.R_elder' (rA HO_7.out) (Kd.R_base ho0) hb); have n2_ := Aside0.mk (Kd.R_lower (Kd.R_new' (Kd.R_new' ho0 (Kd.R_lt (rA HO_6.out))) (Kd.R_lt (rA HO_7.out))) (below_size (bG HB.out))); have n3_ := Aside0.mk (blk_below (g := gb253) (o := .cells #[.bool true, .slice A0_1 l0_1.length c0_1, .int .i64 a0_2] 82 (0, 0)) (kA BK253.out) hb); have n4_ := Aside0.mk (blk_below (g := gb254) (o := .cells #[.bool a1_0, .slice A1_1 l1_1.length c1_1, .int .i64 a1_2] 82 (0, 0)) (kA BK254.out) hb); have n5_ := Aside0.mk (blk_below (g := gb255) (o := .cells #[.bool false, .slice none 0 0, .int .i64 0] 82 (0, 0)) (kA BK255.out) hb); have n6_ := Aside0.mk (below_step (bG HB.out) hb); clear HO_6; clear HO_7; clear BK253; clear BK254; clear BK255; clear HB; have HO_6 := n0_; have HO_7 := n1_; have HO271 := n2_; have BK253 := n3_; have BK254 := n4_; have BK255 := n5_; have HB := n6_; clear n0_ n1_ n2_ n3_ n4_ n5_ n6_; (try clear hb); (try clear hb2); (try clear hk); (try clear hi); (try clear ho0); obtain ⟨Ao73, co73, eo73⟩ := Kd.R_slice HO271.out; subst eo73; have hnb74 := NB255_254.out; have hnc74 := NB254_255.out; have hcz75_0 : w72.cell? ⟨gb255, 0, none⟩ = some (.bool false) := (blk_cell BK255.out 0).trans rfl; have hcz75_1 : w72.cell? ⟨gb255, 1, none⟩ = some (.slice none 0 0) := (blk_cell BK255.out 1).trans rfl; have hcz75_2 : w72.cell? ⟨gb255, 2, none⟩ = some (.int .i64 0) := (blk_cell BK255.out 2).trans rfl; have hfz75_0 := blk_frozen BK255.out 0; have hfz75_1 := blk_frozen BK255.out 1; have hfz75_2 := blk_frozen BK255.out 2))
          refine bodyPost_ret (results_cell_row rfl _ _ gb255 82 #[.bool (decide ((wrap64 ((t257.length : Int) + (t260.length : Int))) > 0)), .slice Ao73 t269.length co73, .int .i64 t256] (0, 0) _ rfl (by (with_reducible repeat (first | refine blk_drewN ?_ _ | refine blk_drew ?_ | refine blk_alloc ?_ _)); refine blk_put (cs := #[.bool (decide ((wrap64 ((t257.length : Int) + (t260.length : Int))) > 0)), .slice Ao73 t269.length co73, .int .i64 0]) ?_ 2 _ rfl; (with_reducible repeat (first | refine blk_drewN ?_ _ | refine blk_drew ?_ | refine blk_alloc ?_ _)); refine blk_put (cs := #[.bool (decide ((wrap64 ((t257.length : Int) + (t260.length : Int))) > 0)), .slice none 0 0, .int .i64 0]) ?_ 1 _ rfl; (with_reducible repeat (first | refine blk_drewN ?_ _ | refine blk_drew ?_ | refine blk_alloc ?_ _)); refine blk_put (cs := #[.bool false, .slice none 0 0, .int .i64 0]) ?_ 0 _ rfl; (with_reducible repeat (first | refine blk_drewN ?_ _ | refine blk_drew ?_ | refine blk_alloc ?_ _)); exact BK255.out) Tryz.underlying82 rfl (by kernel_rfl)) rfl ?_
          exact ⟨_, by first | rfl | (simp [errW_none, errW_some] <;> rfl) | (simp [*, errW_none, errW_some] <;> rfl), by (with_reducible repeat (first | apply Kd.R_alloc | apply Kd.R_drewN | apply Kd.R_drew)); exact Kd.R_mono (Kd.R_far (p := ⟨gb255, 2, none⟩) (Kd.R_far (p := ⟨gb255, 1, none⟩) (Kd.R_far (p := ⟨gb255, 0, none⟩) (Kd.R_types HO271.out BK255.out (by decide)) (fun _ hk => hk.2) (.bool (decide ((wrap64 ((t257.length : Int) + (t260.length : Int))) > 0)))) (fun _ hk => hk.2) (.slice Ao73 t269.length co73)) (fun _ hk => hk.2) (.int .i64 t256)) (fun _ hk => trivial), bG HB.out⟩
        rw [if_pos c41] at H
        have c41b0 : ((t257.length : Int) == 0) = true := beq_iff_eq.mpr c41
        have c41b1 : ((t257.length : Int) != 0) = false := bne_eq_false_iff_eq.mpr c41
        clear c41
        by_cases c42 : a1_0 = true
        rotate_left
        · replace c42 := Bool.eq_false_iff.mpr c42
          subst c42
          have H1 : ((tenorref1_AddDigits.f kj5 t257 t260).bind fun t266 => (some (false, t266, t256))) = some (r1, r2, r3) := by rw [if_neg (show ¬ (false = true) by decide)] at H; exact H
          clear H
          have H := H1
          clear H1
          replace H := Option.bind_eq_some_iff.mp H
          obtain ⟨t266, A540, H⟩ := H
          have A54 := Aside0.mk A540
          clear A540
          simp only [Option.some.injEq, Prod.mk.injEq] at H
          obtain ⟨rfl, rfl, rfl⟩ := H
          have hnb55 := NB253_254.out
          have hnc55 := NB254_253.out
          have hnb56 := NB253_255.out
          have hnc56 := NB255_253.out
          have hcz57_0 : wc.cell? ⟨gb253, 0, none⟩ = some (.bool a0_0) := (blk_cell BK253.out 0).trans rfl
          have hcz57_1 : wc.cell? ⟨gb253, 1, none⟩ = some (.slice A0_1 l0_1.length c0_1) := (blk_cell BK253.out 1).trans rfl
          have hcz57_2 : wc.cell? ⟨gb253, 2, none⟩ = some (.int .i64 a0_2) := (blk_cell BK253.out 2).trans rfl
          have hfz57_0 := blk_frozen BK253.out 0
          have hfz57_1 := blk_frozen BK253.out 1
          have hfz57_2 := blk_frozen BK253.out 2
          obtain ⟨Ao58, co58, eo58⟩ := Kd.R_slice HO_6.out
          subst eo58
          have hnb59 := NB254_255.out
          have hnc59 := NB255_254.out
          have hcz60_0 : wc.cell? ⟨gb254, 0, none⟩ = some (.bool false) := (blk_cell BK254.out 0).trans rfl
          have hcz60_1 : wc.cell? ⟨gb254, 1, none⟩ = some (.slice A1_1 l1_1.length c1_1) := (blk_cell BK254.out 1).trans rfl
          have hcz60_2 : wc.cell? ⟨gb254, 2, none⟩ = some (.int .i64 a1_2) := (blk_cell BK254.out 2).trans rfl
          have hfz60_0 := blk_frozen BK254.out 0
          have hfz60_1 := blk_frozen BK254.out 1
          have hfz60_2 := blk_frozen BK254.out 2
          obtain ⟨Ao61, co61, eo61⟩ := Kd.R_slice HO_7.out
          subst eo61
          go_wp2_with (first | ((with_reducible refine gate_callee (f := 115) rfl ?_); refine goesL_ (some 52) rfl rfl Tryz.func115 (by kernel_rfl) rfl #[.slice Ao58 t257.length co58, .slice Ao61 t260.length co61] rfl mA ?_; (with_reducible refine (tenorref1_AddDigits.calls kj5 _ _ t257 _ _ t260 t266 _ ?side1 ?side2 ?side3 ?side4 A54.out).mono ?_); (case side1 => exact cA ((Kd.R_reads' HO_6.out).2.2)); (case side2 => exact (Kd.R_reads' HO_6.out).2.1); (case side3 => exact cA ((Kd.R_reads' HO_7.out).2.2)); (case side4 => exact (Kd.R_reads' HO_7.out).2.1); rintro e w62 ⟨v267, rfl, ho0, hb⟩; refine ⟨_, rfl, ?_⟩; have n0_ := Aside0.mk (Kd.R_elder' (rA HO_6.out) (Kd.R_base ho0) hb); have n1_ := Aside0.mk (Kd.R_elder' (rA HO_7.out) (Kd.R_base ho0) hb); have n2_ := Aside0.mk (Kd.R_lower (Kd.R_new' (Kd.R_new' ho0 (Kd.R_lt (rA HO_6.out))) (Kd.R_lt (rA HO_7.out))) (below_size (bG HB.out))); have n3_ := Aside0.mk (blk_below (g := gb253) (o := .cells #[.bool a0_0, .slice A0_1 l0_1.length c0_1, .int .i64 a0_2] 82 (0, 0)) (kA BK253.out) hb); have n4_ := Aside0.mk (blk_below (g := gb254) (o := .cells #[.bool false, .slice A1_1 l1_1.length c1_1, .int .i64 a1_2] 82 (0, 0)) (kA BK254.out) hb); have n5_ := Aside0.mk (blk_below (g := gb255) (o := .cells #[.bool false, .slice none 0 0, .int .i64 0] 82 (0, 0)) (kA BK255.out) hb); have n6_ := Aside0.mk (below_step (bG HB.out) hb); clear HO_6; clear HO_7; clear BK253; clear BK254; clear BK255; clear HB; have HO_6 := n0_; have HO_7 := n1_; have HO268 := n2_; have BK253 := n3_; have BK254 := n4_; have BK255 := n5_; have HB := n6_; clear n0_ n1_ n2_ n3_ n4_ n5_ n6_; (try clear hb); (try clear hb2); (try clear hk); (try clear hi); (try clear ho0); obtain ⟨Ao63, co63, eo63⟩ := Kd.R_slice HO268.out; subst eo63; have hcz64_0 : w62.cell? ⟨gb255, 0, none⟩ = some (.bool false) := (blk_cell BK255.out 0).trans rfl; have hcz64_1 : w62.cell? ⟨gb255, 1, none⟩ = some (.slice none 0 0) := (blk_cell BK255.out 1).trans rfl; have hcz64_2 : w62.cell? ⟨gb255, 2, none⟩ = some (.int .i64 0) := (blk_cell BK255.out 2).trans rfl; have hfz64_0 := blk_frozen BK255.out 0; have hfz64_1 := blk_frozen BK255.out 1; have hfz64_2 := blk_frozen BK255.out 2))
          refine bodyPost_ret (results_cell_row rfl _ _ gb255 82 #[.bool false, .slice Ao63 t266.length co63, .int .i64 t256] (0, 0) _ rfl (by (with_reducible repeat (first | refine blk_drewN ?_ _ | refine blk_drew ?_ | refine blk_alloc ?_ _)); refine blk_put (cs := #[.bool false, .slice Ao63 t266.length co63, .int .i64 0]) ?_ 2 _ rfl; (with_reducible repeat (first | refine blk_drewN ?_ _ | refine blk_drew ?_ | refine blk_alloc ?_ _)); refine blk_put (cs := #[.bool false, .slice none 0 0, .int .i64 0]) ?_ 1 _ rfl; (with_reducible repeat (first | refine blk_drewN ?_ _ | refine blk_drew ?_ | refine blk_alloc ?_ _)); refine blk_put (cs := #[.bool false, .slice none 0 0, .int .i64 0]) ?_ 0 _ rfl; (with_reducible repeat (first | refine blk_drewN ?_ _ | refine blk_drew ?_ | refine blk_alloc ?_ _)); exact BK255.out) Tryz.underlying82 rfl (by kernel_rfl)) rfl ?_
          exact ⟨_, by first | rfl | (simp [errW_none, errW_some] <;> rfl) | (simp [*, errW_none, errW_some] <;> rfl), by (with_reducible repeat (first | apply Kd.R_alloc | apply Kd.R_drewN | apply Kd.R_drew)); exact Kd.R_mono (Kd.R_far (p := ⟨gb255, 2, none⟩) (Kd.R_far (p := ⟨gb255, 1, none⟩) (Kd.R_far (p := ⟨gb255, 0, none⟩) (Kd.R_types HO268.out BK255.out (by decide)) (fun _ hk => hk.2) (.bool false)) (fun _ hk => hk.2) (.slice Ao63 t266.length co63)) (fun _ hk => hk.2) (.int .i64 t256)) (fun _ hk => trivial), bG HB.out⟩
        subst c42
        have H1 : ((tenorref1_AddDigits.f kj5 t257 t260).bind fun t263 => (some (decide ((wrap64 ((t257.length : Int) + (t260.length : Int))) > 0), t263, t256))) = some (r1, r2, r3) := by rw [if_pos rfl] at H; exact H
        clear H
        have H := H1
        clear H1
        replace H := Option.bind_eq_some_iff.mp H
        obtain ⟨t263, A430, H⟩ := H
        have A43 := Aside0.mk A430
        clear A430
        simp only [Option.some.injEq, Prod.mk.injEq] at H
        obtain ⟨rfl, rfl, rfl⟩ := H
        have hnb44 := NB253_254.out
        have hnc44 := NB254_253.out
        have hnb45 := NB253_255.out
        have hnc45 := NB255_253.out
        have hcz46_0 : wc.cell? ⟨gb253, 0, none⟩ = some (.bool a0_0) := (blk_cell BK253.out 0).trans rfl
        have hcz46_1 : wc.cell? ⟨gb253, 1, none⟩ = some (.slice A0_1 l0_1.length c0_1) := (blk_cell BK253.out 1).trans rfl
        have hcz46_2 : wc.cell? ⟨gb253, 2, none⟩ = some (.int .i64 a0_2) := (blk_cell BK253.out 2).trans rfl
        have hfz46_0 := blk_frozen BK253.out 0
        have hfz46_1 := blk_frozen BK253.out 1
        have hfz46_2 := blk_frozen BK253.out 2
        obtain ⟨Ao47, co47, eo47⟩ := Kd.R_slice HO_6.out
        subst eo47
        have hnb48 := NB254_255.out
        have hnc48 := NB255_254.out
        have hcz49_0 : wc.cell? ⟨gb254, 0, none⟩ = some (.bool true) := (blk_cell BK254.out 0).trans rfl
        have hcz49_1 : wc.cell? ⟨gb254, 1, none⟩ = some (.slice A1_1 l1_1.length c1_1) := (blk_cell BK254.out 1).trans rfl
        have hcz49_2 : wc.cell? ⟨gb254, 2, none⟩ = some (.int .i64 a1_2) := (blk_cell BK254.out 2).trans rfl
        have hfz49_0 := blk_frozen BK254.out 0
        have hfz49_1 := blk_frozen BK254.out 1
        have hfz49_2 := blk_frozen BK254.out 2
        obtain ⟨Ao50, co50, eo50⟩ := Kd.R_slice HO_7.out
        subst eo50
        go_wp2_with (first | ((with_reducible refine gate_callee (f := 115) rfl ?_); refine goesL_ (some 52) rfl rfl Tryz.func115 (by kernel_rfl) rfl #[.slice Ao47 t257.length co47, .slice Ao50 t260.length co50] rfl mA ?_; (with_reducible refine (tenorref1_AddDigits.calls kj5 _ _ t257 _ _ t260 t263 _ ?side1 ?side2 ?side3 ?side4 A43.out).mono ?_); (case side1 => exact cA ((Kd.R_reads' HO_6.out).2.2)); (case side2 => exact (Kd.R_reads' HO_6.out).2.1); (case side3 => exact cA ((Kd.R_reads' HO_7.out).2.2)); (case side4 => exact (Kd.R_reads' HO_7.out).2.1); rintro e w51 ⟨v264, rfl, ho0, hb⟩; refine ⟨_, rfl, ?_⟩; have n0_ := Aside0.mk (Kd.R_elder' (rA HO_6.out) (Kd.R_base ho0) hb); have n1_ := Aside0.mk (Kd.R_elder' (rA HO_7.out) (Kd.R_base ho0) hb); have n2_ := Aside0.mk (Kd.R_lower (Kd.R_new' (Kd.R_new' ho0 (Kd.R_lt (rA HO_6.out))) (Kd.R_lt (rA HO_7.out))) (below_size (bG HB.out))); have n3_ := Aside0.mk (blk_below (g := gb253) (o := .cells #[.bool a0_0, .slice A0_1 l0_1.length c0_1, .int .i64 a0_2] 82 (0, 0)) (kA BK253.out) hb); have n4_ := Aside0.mk (blk_below (g := gb254) (o := .cells #[.bool true, .slice A1_1 l1_1.length c1_1, .int .i64 a1_2] 82 (0, 0)) (kA BK254.out) hb); have n5_ := Aside0.mk (blk_below (g := gb255) (o := .cells #[.bool false, .slice none 0 0, .int .i64 0] 82 (0, 0)) (kA BK255.out) hb); have n6_ := Aside0.mk (below_step (bG HB.out) hb); clear HO_6; clear HO_7; clear BK253; clear BK254; clear BK255; clear HB; have HO_6 := n0_; have HO_7 := n1_; have HO265 := n2_; have BK253 := n3_; have BK254 := n4_; have BK255 := n5_; have HB := n6_; clear n0_ n1_ n2_ n3_ n4_ n5_ n6_; (try clear hb); (try clear hb2); (try clear hk); (try clear hi); (try clear ho0); obtain ⟨Ao52, co52, eo52⟩ := Kd.R_slice HO265.out; subst eo52; have hcz53_0 : w51.cell? ⟨gb255, 0, none⟩ = some (.bool false) := (blk_cell BK255.out 0).trans rfl; have hcz53_1 : w51.cell? ⟨gb255, 1, none⟩ = some (.slice none 0 0) := (blk_cell BK255.out 1).trans rfl; have hcz53_2 : w51.cell? ⟨gb255, 2, none⟩ = some (.int .i64 0) := (blk_cell BK255.out 2).trans rfl; have hfz53_0 := blk_frozen BK255.out 0; have hfz53_1 := blk_frozen BK255.out 1; have hfz53_2 := blk_frozen BK255.out 2))
        refine bodyPost_ret (results_cell_row rfl _ _ gb255 82 #[.bool (decide ((wrap64 ((t257.length : Int) + (t260.length : Int))) > 0)), .slice Ao52 t263.length co52, .int .i64 t256] (0, 0) _ rfl (by (with_reducible repeat (first | refine blk_drewN ?_ _ | refine blk_drew ?_ | refine blk_alloc ?_ _)); refine blk_put (cs := #[.bool (decide ((wrap64 ((t257.length : Int) + (t260.length : Int))) > 0)), .slice Ao52 t263.length co52, .int .i64 0]) ?_ 2 _ rfl; (with_reducible repeat (first | refine blk_drewN ?_ _ | refine blk_drew ?_ | refine blk_alloc ?_ _)); refine blk_put (cs := #[.bool (decide ((wrap64 ((t257.length : Int) + (t260.length : Int))) > 0)), .slice none 0 0, .int .i64 0]) ?_ 1 _ rfl; (with_reducible repeat (first | refine blk_drewN ?_ _ | refine blk_drew ?_ | refine blk_alloc ?_ _)); refine blk_put (cs := #[.bool false, .slice none 0 0, .int .i64 0]) ?_ 0 _ rfl; (with_reducible repeat (first | refine blk_drewN ?_ _ | refine blk_drew ?_ | refine blk_alloc ?_ _)); exact BK255.out) Tryz.underlying82 rfl (by kernel_rfl)) rfl ?_
        exact ⟨_, by first | rfl | (simp [errW_none, errW_some] <;> rfl) | (simp [*, errW_none, errW_some] <;> rfl), by (with_reducible repeat (first | apply Kd.R_alloc | apply Kd.R_drewN | apply Kd.R_drew)); exact Kd.R_mono (Kd.R_far (p := ⟨gb255, 2, none⟩) (Kd.R_far (p := ⟨gb255, 1, none⟩) (Kd.R_far (p := ⟨gb255, 0, none⟩) (Kd.R_types HO265.out BK255.out (by decide)) (fun _ hk => hk.2) (.bool (decide ((wrap64 ((t257.length : Int) + (t260.length : Int))) > 0)))) (fun _ hk => hk.2) (.slice Ao52 t263.length co52)) (fun _ hk => hk.2) (.int .i64 t256)) (fun _ hk => trivial), bG HB.out⟩
      replace c40 := Bool.eq_false_iff.mpr c40
      subst c40
      have H1 : ((tenorref1_CmpDigits.f kj5 t257 t260).bind fun t275 => (if t275 = 0 then (some (false, ([] : List Int), 0)) else (if t275 > 0 then ((tenorref1_SubDigits.f kj5 t257 t260).bind fun t276 => (some (a0_0, t276, t256))) else ((tenorref1_SubDigits.f kj5 t260 t257).bind fun t279 => (some (a1_0, t279, t256)))))) = some (r1, r2, r3) := by rw [if_neg (show ¬ (false = true) by decide)] at H; exact H
      clear H
      have H := H1
      clear H1
      replace H := Option.bind_eq_some_iff.mp H
      obtain ⟨t275, A860, H⟩ := H
      have A86 := Aside0.mk A860
      clear A860
      by_cases c87 : t275 = 0
      · rw [if_pos c87] at H
        have c87b0 : (t275 == 0) = true := beq_iff_eq.mpr c87
        have c87b1 : (t275 != 0) = false := bne_eq_false_iff_eq.mpr c87
        clear c87
        simp only [Option.some.injEq, Prod.mk.injEq] at H
        obtain ⟨rfl, rfl, rfl⟩ := H
        obtain ⟨Ao88, co88, eo88⟩ := Kd.R_slice HO_6.out
        subst eo88
        obtain ⟨Ao89, co89, eo89⟩ := Kd.R_slice HO_7.out
        subst eo89
        go_wp2_with (first | ((with_reducible refine gate_callee (f := 116) rfl ?_); refine goesL_ (some 57) rfl rfl Tryz.func116 (by kernel_rfl) rfl #[.slice Ao88 t257.length co88, .slice Ao89 t260.length co89] rfl mA ?_; (with_reducible refine (tenorref1_CmpDigits.calls kj5 _ _ t257 _ _ t260 t275 _ ?side1 ?side2 ?side3 ?side4 A86.out).mono ?_); (case side1 => exact cA ((Kd.R_reads' HO_6.out).2.2)); (case side2 => exact (Kd.R_reads' HO_6.out).2.1); (case side3 => exact cA ((Kd.R_reads' HO_7.out).2.2)); (case side4 => exact (Kd.R_reads' HO_7.out).2.1); rintro e w' ⟨rfl, ⟨nd, rfl⟩⟩; refine ⟨_, rfl, ?_⟩; (try rw [World.drewN_drewN]); (try (rw [drewN_self wc]; generalize hq_ : World.drewN wc _ = wc; have n0_ : Aside0 (Kd.R (Kd.int .u64) 36 wc w.heap.size (fun k_ => some k_ ≠ (.slice Ao89 t260.length co89 : Value).ownBlock) (.slice Ao88 t257.length co88) t257) := ⟨by rw [← hq_]; exact (rA HO_6.out)⟩; have n1_ : Aside0 (Kd.R (Kd.int .u64) 36 wc w.heap.size (fun k_ => some k_ ≠ (.slice Ao88 t257.length co88 : Value).ownBlock) (.slice Ao89 t260.length co89) t260) := ⟨by rw [← hq_]; exact (rA HO_7.out)⟩; have n2_ : Aside0 (wc.heap[gb253]? = some (.cells #[.bool a0_0, .slice A0_1 l0_1.length c0_1, .int .i64 a0_2] 82 (0, 0))) := ⟨by rw [← hq_]; exact (kA BK253.out)⟩; have n3_ : Aside0 (wc.heap[gb254]? = some (.cells #[.bool a1_0, .slice A1_1 l1_1.length c1_1, .int .i64 a1_2] 82 (0, 0))) := ⟨by rw [← hq_]; exact (kA BK254.out)⟩; have n4_ : Aside0 (wc.heap[gb255]? = some (.cells #[.bool false, .slice none 0 0, .int .i64 0] 82 (0, 0))) := ⟨by rw [← hq_]; exact (kA BK255.out)⟩; have n5_ : Aside0 (Below w.heap.size w wc) := ⟨by rw [← hq_]; exact (bG HB.out)⟩; clear HO_6 HO_7 BK253 BK254 BK255 HB hq_; have HO_6 := n0_; have HO_7 := n1_; have BK253 := n2_; have BK254 := n3_; have BK255 := n4_; have HB := n5_; clear n0_ n1_ n2_ n3_ n4_ n5_)); have hnb90 := NB255_253.out; have hnc90 := NB253_255.out; have hnb91 := NB255_254.out; have hnc91 := NB254_255.out; have hcz92_0 : wc.cell? ⟨gb255, 0, none⟩ = some (.bool false) := (blk_cell BK255.out 0).trans rfl; have hcz92_1 : wc.cell? ⟨gb255, 1, none⟩ = some (.slice none 0 0) := (blk_cell BK255.out 1).trans rfl; have hcz92_2 : wc.cell? ⟨gb255, 2, none⟩ = some (.int .i64 0) := (blk_cell BK255.out 2).trans rfl; have hfz92_0 := blk_frozen BK255.out 0; have hfz92_1 := blk_frozen BK255.out 1; have hfz92_2 := blk_frozen BK255.out 2))
        refine bodyPost_ret (results_cell_row rfl _ _ gb255 82 #[.bool false, .slice none 0 0, .int .i64 0] (0, 0) _ rfl (by (with_reducible repeat (first | refine blk_drewN ?_ _ | refine blk_drew ?_ | refine blk_alloc ?_ _)); refine blk_put (cs := #[.bool false, .slice none 0 0, .int .i64 0]) ?_ 2 _ rfl; (with_reducible repeat (first | refine blk_drewN ?_ _ | refine blk_drew ?_ | refine blk_alloc ?_ _)); refine blk_put (cs := #[.bool false, .slice none 0 0, .int .i64 0]) ?_ 1 _ rfl; (with_reducible repeat (first | refine blk_drewN ?_ _ | refine blk_drew ?_ | refine blk_alloc ?_ _)); refine blk_put (cs := #[.bool false, .slice none 0 0, .int .i64 0]) ?_ 0 _ rfl; (with_reducible repeat (first | refine blk_drewN ?_ _ | refine blk_drew ?_ | refine blk_alloc ?_ _)); exact BK255.out) Tryz.underlying82 rfl (by kernel_rfl)) rfl ?_
        exact ⟨_, by first | rfl | (simp [errW_none, errW_some] <;> rfl) | (simp [*, errW_none, errW_some] <;> rfl), by first | exact Kd.R_nil _ _ _ _ _ | exact Kd.N_nil _ _ _ _ _ | exact Kd.V_nil _ _ _ _ _ | exact Kd.Q_nil _ _ _ _ _ | exact Kd.S_nil _ _ _ _ _, bG HB.out⟩
      rw [if_neg c87] at H
      have c87b0 : (t275 == 0) = false := beq_eq_false_iff_ne.mpr c87
      have c87b1 : (t275 != 0) = true := bne_iff_ne.mpr c87
      by_cases c93 : t275 > 0
      · rw [if_pos c93] at H
        have c93b0 : decide (0 < t275) = true := decide_eq_true c93
        clear c93
        replace H := Option.bind_eq_some_iff.mp H
        obtain ⟨t276, A940, H⟩ := H
        have A94 := Aside0.mk A940
        clear A940
        simp only [Option.some.injEq, Prod.mk.injEq] at H
        obtain ⟨rfl, rfl, rfl⟩ := H
        obtain ⟨Ao95, co95, eo95⟩ := Kd.R_slice HO_6.out
        subst eo95
        obtain ⟨Ao96, co96, eo96⟩ := Kd.R_slice HO_7.out
        subst eo96
        try go_wp2_with (first | ((with_reducible refine gate_callee (f := 116) rfl ?_); refine goesL_ (some 57) rfl rfl Tryz.func116 (by kernel_rfl) rfl #[.slice Ao95 t257.length co95, .slice Ao96 t260.length co96] rfl mA ?_; (with_reducible refine (tenorref1_CmpDigits.calls kj5 _ _ t257 _ _ t260 t275 _ ?side1 ?side2 ?side3 ?side4 A86.out).mono ?_); (case side1 => exact cA ((Kd.R_reads' HO_6.out).2.2)); (case side2 => exact (Kd.R_reads' HO_6.out).2.1); (case side3 => exact cA ((Kd.R_reads' HO_7.out).2.2)); (case side4 => exact (Kd.R_reads' HO_7.out).2.1); rintro e w' ⟨rfl, ⟨nd, rfl⟩⟩; refine ⟨_, rfl, ?_⟩; (try rw [World.drewN_drewN]); (try (rw [drewN_self wc]; generalize hq_ : World.drewN wc _ = wc; have n0_ : Aside0 (Kd.R (Kd.int .u64) 36 wc w.heap.size (fun k_ => some k_ ≠ (.slice Ao96 t260.length co96 : Value).ownBlock) (.slice Ao95 t257.length co95) t257) := ⟨by rw [← hq_]; exact (rA HO_6.out)⟩; have n1_ : Aside0 (Kd.R (Kd.int .u64) 36 wc w.heap.size (fun k_ => some k_ ≠ (.slice Ao95 t257.length co95 : Value).ownBlock) (.slice Ao96 t260.length co96) t260) := ⟨by rw [← hq_]; exact (rA HO_7.out)⟩; have n2_ : Aside0 (wc.heap[gb253]? = some (.cells #[.bool a0_0, .slice A0_1 l0_1.length c0_1, .int .i64 a0_2] 82 (0, 0))) := ⟨by rw [← hq_]; exact (kA BK253.out)⟩; have n3_ : Aside0 (wc.heap[gb254]? = some (.cells #[.bool a1_0, .slice A1_1 l1_1.length c1_1, .int .i64 a1_2] 82 (0, 0))) := ⟨by rw [← hq_]; exact (kA BK254.out)⟩; have n4_ : Aside0 (wc.heap[gb255]? = some (.cells #[.bool false, .slice none 0 0, .int .i64 0] 82 (0, 0))) := ⟨by rw [← hq_]; exact (kA BK255.out)⟩; have n5_ : Aside0 (Below w.heap.size w wc) := ⟨by rw [← hq_]; exact (bG HB.out)⟩; clear HO_6 HO_7 BK253 BK254 BK255 HB hq_; have HO_6 := n0_; have HO_7 := n1_; have BK253 := n2_; have BK254 := n3_; have BK255 := n4_; have HB := n5_; clear n0_ n1_ n2_ n3_ n4_ n5_))))
        have n0_ := Aside0.mk (Kd.R_drew HO_6.out)
        have n1_ := Aside0.mk (Kd.R_drew HO_7.out)
        have n2_ := Aside0.mk (blk_drew BK253.out)
        have n3_ := Aside0.mk (blk_drew BK254.out)
        have n4_ := Aside0.mk (blk_drew BK255.out)
        have n5_ := Aside0.mk (below_drew1 HB.out)
        clear HO_6
        clear HO_7
        clear BK253
        clear BK254
        clear BK255
        clear HB
        have HO_6 := n0_
        have HO_7 := n1_
        have BK253 := n2_
        have BK254 := n3_
        have BK255 := n4_
        have HB := n5_
        clear n0_ n1_ n2_ n3_ n4_ n5_
        refine start_ (n := 8) (S := fun w' => w'.cell? ⟨gb253, 0, none⟩ = some (.bool a0_0) ∧ w'.cell? ⟨gb253, 1, none⟩ = some (.slice A0_1 l0_1.length c0_1) ∧ w'.cell? ⟨gb253, 2, none⟩ = some (.int .i64 a0_2)) (ds := []) #[false, false, false, false, false, false, false, false] (by kernel_rfl) rfl rfl ⟨(blk_cell BK253.out 0).trans rfl, (blk_cell BK253.out 1).trans rfl, (blk_cell BK253.out 2).trans rfl⟩ (fun hHeld => ?_); refine with_tabW tenorref1_Plus.tab13 tenorref1_Plus.bits13 (fun HT_ HW_ => ?_)
        generalize wc.drew = w97 at HO_6 HO_7 BK253 BK254 BK255 HB hHeld ⊢
        refine pure_ (i := 0) (N := some 63) (v := ?_) (a' := ?_) #[true, false, false, false, false, false, false, false] rfl rfl (any_of HT_.out (by kernel_rfl)) (fun _ _ _ h => h) (Or.inl ⟨by rfl, ?_⟩) ?_ ?_
        rotate_left
        · intro w'
          go_simp
          with_reducible rfl
        rotate_left
        · simp only [Act.put, List.setIfInBounds_toArray, List.set_cons_zero, List.set_cons_succ, i64_w, i32_w]
          rfl
        refine pure_ (i := 2) (N := some 65) (v := ?_) (a' := ?_) #[true, false, true, false, false, false, false, false] rfl rfl (any_of HT_.out (by kernel_rfl)) (fun _ _ _ h => h) (Or.inl ⟨by rfl, ?_⟩) ?_ ?_
        rotate_left
        · intro w'
          go_simp
          with_reducible rfl
        rotate_left
        · simp only [Act.put, List.setIfInBounds_toArray, List.set_cons_zero, List.set_cons_succ, i64_w, i32_w]
          rfl
        refine pure_ (i := 3) (N := some 66) (v := ?_) (a' := ?_) #[true, false, true, true, false, false, false, false] rfl rfl (any_of HT_.out (by kernel_rfl)) (fun _ _ _ h => h) (Or.inl ⟨by rfl, ?_⟩) ?_ ?_
        rotate_left
        · intro w'
          go_simp
          with_reducible rfl
        rotate_left
        · simp only [Act.put, List.setIfInBounds_toArray, List.set_cons_zero, List.set_cons_succ, i64_w, i32_w]
          rfl
        refine pure_ (i := 5) (N := some 68) (v := ?_) (a' := ?_) #[true, false, true, true, false, true, false, false] rfl rfl (any_of HT_.out (by kernel_rfl)) (fun _ _ _ h => h) (Or.inl ⟨by rfl, ?_⟩) ?_ ?_
        rotate_left
        · intro w'
          go_simp
          with_reducible rfl
        rotate_left
        · simp only [Act.put, List.setIfInBounds_toArray, List.set_cons_zero, List.set_cons_succ, i64_w, i32_w]
          rfl
        refine take_ (i := 1) (N := some 64) (v := ?_) (a' := ?_) #[true, true, true, true, false, true, false, false] rfl rfl (take_ofW HT_.out HW_.out (by kernel_rfl)) (fun _ _ _ h => h) (Or.inl ⟨by rfl, ?_⟩) hHeld ?_ ?_
        rotate_left
        · rintro w' ⟨s0, s1, s2⟩
          go_simp
          with_reducible rfl
        rotate_left
        · simp only [Act.put, List.setIfInBounds_toArray, List.set_cons_zero, List.set_cons_succ, i64_w, i32_w]
          rfl
        refine one_ (i := 4) (N := some 67) #[true, true, true, true, true, true, false, false] rfl rfl (one_of HT_.out (by kernel_rfl)) (by decide) (fun K hK => ?_)
        refine goes_ Tryz.func117 (by kernel_rfl) rfl #[.slice Ao95 t257.length co95, .slice Ao96 t260.length co96] (by rfl) rfl rfl mA ?_
        with_reducible refine (tenorref1_SubDigits.calls kj5 _ _ t257 _ _ t260 t276 _ ?side1 ?side2 ?side3 ?side4 A94.out).mono ?_
        (case side1 => exact cA ((Kd.R_reads' HO_6.out).2.2))
        (case side2 => exact (Kd.R_reads' HO_6.out).2.1)
        (case side3 => exact cA ((Kd.R_reads' HO_7.out).2.2))
        (case side4 => exact (Kd.R_reads' HO_7.out).2.1)
        rintro e w98 ⟨v277, rfl, ho0, hb⟩
        refine ⟨_, rfl, ?_⟩
        have n0_ := Aside0.mk (Kd.R_elder' (rA HO_6.out) (Kd.R_base ho0) hb)
        have n1_ := Aside0.mk (Kd.R_elder' (rA HO_7.out) (Kd.R_base ho0) hb)
        have n2_ := Aside0.mk (Kd.R_lower (Kd.R_new' (Kd.R_new' ho0 (Kd.R_lt (rA HO_6.out))) (Kd.R_lt (rA HO_7.out))) (below_size (bG HB.out)))
        have n3_ := Aside0.mk (blk_below (g := gb253) (o := .cells #[.bool a0_0, .slice A0_1 l0_1.length c0_1, .int .i64 a0_2] 82 (0, 0)) (kA BK253.out) hb)
        have n4_ := Aside0.mk (blk_below (g := gb254) (o := .cells #[.bool a1_0, .slice A1_1 l1_1.length c1_1, .int .i64 a1_2] 82 (0, 0)) (kA BK254.out) hb)
        have n5_ := Aside0.mk (blk_below (g := gb255) (o := .cells #[.bool false, .slice none 0 0, .int .i64 0] 82 (0, 0)) (kA BK255.out) hb)
        have n6_ := Aside0.mk (below_step (bG HB.out) hb)
        clear HO_6
        clear HO_7
        clear BK253
        clear BK254
        clear BK255
        clear HB
        have HO_6 := n0_
        have HO_7 := n1_
        have HO278 := n2_
        have BK253 := n3_
        have BK254 := n4_
        have BK255 := n5_
        have HB := n6_
        clear n0_ n1_ n2_ n3_ n4_ n5_ n6_
        (try clear hb)
        (try clear hb2)
        (try clear hk)
        (try clear hi)
        (try clear ho0)
        obtain ⟨Ao99, co99, eo99⟩ := Kd.R_slice HO278.out
        (first | subst eo99 | (injection eo99 with f1_ f2_ f3_; have f4_ := f1_.symm; have f5_ := f3_.symm; clear f1_ f2_ f3_; subst f4_; subst f5_))
        refine hK.out _ _ ⟨(blk_cell BK253.out 0).trans rfl, (blk_cell BK253.out 1).trans rfl, (blk_cell BK253.out 2).trans rfl⟩ (fun hHeld => ?_)
        clear hK K
        refine norm_ (a' := ?_) ?_ ?_
        rotate_left
        · show Act.put _ (some 67) _ = _
          simp only [Act.put, List.setIfInBounds_toArray, List.set_cons_zero, List.set_cons_succ, i64_w, i32_w]
          rfl
        refine pure_ (i := 6) (N := some 69) (v := ?_) (a' := ?_) #[true, true, true, true, true, true, true, false] rfl rfl (any_of HT_.out (by kernel_rfl)) (fun _ _ _ h => h) (Or.inl ⟨by rfl, ?_⟩) ?_ ?_
        rotate_left
        · intro w'
          go_simp
          with_reducible rfl
        rotate_left
        · simp only [Act.put, List.setIfInBounds_toArray, List.set_cons_zero, List.set_cons_succ, i64_w, i32_w]
          rfl
        refine one_ (i := 7) (N := none) #[true, true, true, true, true, true, true, true] rfl rfl (one_of HT_.out (by kernel_rfl)) (by decide) (fun K hK => ?_)
        have hs100 : w98.cell? ⟨gb255, 0, none⟩ = some (.bool false) := (blk_cell BK255.out 0).trans rfl
        have hfs100 := blk_frozen BK255.out 0
        have hns100_0 := NB253_255.out
        have hns100_1 := NB254_255.out
        have hms100_0 := NB255_253.out
        have hms100_1 := NB255_254.out
        have hs101 : w98.cell? ⟨gb255, 1, none⟩ = some (.slice none 0 0) := (blk_cell BK255.out 1).trans rfl
        have hfs101 := blk_frozen BK255.out 1
        have hns101_0 := NB253_255.out
        have hns101_1 := NB254_255.out
        have hms101_0 := NB255_253.out
        have hms101_1 := NB255_254.out
        have hs102 : w98.cell? ⟨gb255, 2, none⟩ = some (.int .i64 0) := (blk_cell BK255.out 2).trans rfl
        have hfs102 := blk_frozen BK255.out 2
        have hns102_0 := NB253_255.out
        have hns102_1 := NB254_255.out
        have hms102_0 := NB255_253.out
        have hms102_1 := NB255_254.out
        refine skip_ (w1 := ?_) (by rfl) rfl ?_ ?_
        rotate_left
        · go_simp
          rfl
        refine hK.out _ _ ⟨((cell_far (p := ⟨gb255, _, none⟩) NB253_255.out _).trans (((cell_far (p := ⟨gb255, _, none⟩) NB253_255.out _).trans (((cell_far (p := ⟨gb255, _, none⟩) NB253_255.out _).trans (hHeld.1)))))), ((cell_far (p := ⟨gb255, _, none⟩) NB253_255.out _).trans (((cell_far (p := ⟨gb255, _, none⟩) NB253_255.out _).trans (((cell_far (p := ⟨gb255, _, none⟩) NB253_255.out _).trans (hHeld.2.1)))))), ((cell_far (p := ⟨gb255, _, none⟩) NB253_255.out _).trans (((cell_far (p := ⟨gb255, _, none⟩) NB253_255.out _).trans (((cell_far (p := ⟨gb255, _, none⟩) NB253_255.out _).trans (hHeld.2.2))))))⟩ (fun hHeld => ?_)
        clear hK K
        refine done_ (done_of HT_.out (by kernel_rfl)) ?_
        try go_wp2
        refine bodyPost_ret (results_cell_row rfl _ _ gb255 82 #[.bool a0_0, .slice Ao99 t276.length co99, .int .i64 t256] (0, 0) _ rfl (by (with_reducible repeat (first | refine blk_drewN ?_ _ | refine blk_drew ?_ | refine blk_alloc ?_ _)); refine blk_put (cs := #[.bool a0_0, .slice Ao99 t276.length co99, .int .i64 0]) ?_ 2 _ rfl; (with_reducible repeat (first | refine blk_drewN ?_ _ | refine blk_drew ?_ | refine blk_alloc ?_ _)); refine blk_put (cs := #[.bool a0_0, .slice none 0 0, .int .i64 0]) ?_ 1 _ rfl; (with_reducible repeat (first | refine blk_drewN ?_ _ | refine blk_drew ?_ | refine blk_alloc ?_ _)); refine blk_put (cs := #[.bool false, .slice none 0 0, .int .i64 0]) ?_ 0 _ rfl; (with_reducible repeat (first | refine blk_drewN ?_ _ | refine blk_drew ?_ | refine blk_alloc ?_ _)); exact BK255.out) Tryz.underlying82 rfl (by kernel_rfl)) rfl ?_
        exact ⟨_, by first | rfl | (simp [errW_none, errW_some] <;> rfl) | (simp [*, errW_none, errW_some] <;> rfl), by (with_reducible repeat (first | apply Kd.R_alloc | apply Kd.R_drewN | apply Kd.R_drew)); exact Kd.R_mono (Kd.R_far (p := ⟨gb255, 2, none⟩) (Kd.R_far (p := ⟨gb255, 1, none⟩) (Kd.R_far (p := ⟨gb255, 0, none⟩) (Kd.R_types HO278.out BK255.out (by decide)) (fun _ hk => hk.2) (.bool a0_0)) (fun _ hk => hk.2) (.slice Ao99 t276.length co99)) (fun _ hk => hk.2) (.int .i64 t256)) (fun _ hk => trivial), bG HB.out⟩
      rw [if_neg c93] at H
      have c93b0 : decide (0 < t275) = false := decide_eq_false c93
      clear c93
      replace H := Option.bind_eq_some_iff.mp H
      obtain ⟨t279, A1030, H⟩ := H
      have A103 := Aside0.mk A1030
      clear A1030
      simp only [Option.some.injEq, Prod.mk.injEq] at H
      obtain ⟨rfl, rfl, rfl⟩ := H
      obtain ⟨Ao104, co104, eo104⟩ := Kd.R_slice HO_6.out
      subst eo104
      obtain ⟨Ao105, co105, eo105⟩ := Kd.R_slice HO_7.out
      subst eo105
      try go_wp2_with (first | ((with_reducible refine gate_callee (f := 116) rfl ?_); refine goesL_ (some 57) rfl rfl Tryz.func116 (by kernel_rfl) rfl #[.slice Ao104 t257.length co104, .slice Ao105 t260.length co105] rfl mA ?_; (with_reducible refine (tenorref1_CmpDigits.calls kj5 _ _ t257 _ _ t260 t275 _ ?side1 ?side2 ?side3 ?side4 A86.out).mono ?_); (case side1 => exact cA ((Kd.R_reads' HO_6.out).2.2)); (case side2 => exact (Kd.R_reads' HO_6.out).2.1); (case side3 => exact cA ((Kd.R_reads' HO_7.out).2.2)); (case side4 => exact (Kd.R_reads' HO_7.out).2.1); rintro e w' ⟨rfl, ⟨nd, rfl⟩⟩; refine ⟨_, rfl, ?_⟩; (try rw [World.drewN_drewN]); (try (rw [drewN_self wc]; generalize hq_ : World.drewN wc _ = wc; have n0_ : Aside0 (Kd.R (Kd.int .u64) 36 wc w.heap.size (fun k_ => some k_ ≠ (.slice Ao105 t260.length co105 : Value).ownBlock) (.slice Ao104 t257.length co104) t257) := ⟨by rw [← hq_]; exact (rA HO_6.out)⟩; have n1_ : Aside0 (Kd.R (Kd.int .u64) 36 wc w.heap.size (fun k_ => some k_ ≠ (.slice Ao104 t257.length co104 : Value).ownBlock) (.slice Ao105 t260.length co105) t260) := ⟨by rw [← hq_]; exact (rA HO_7.out)⟩; have n2_ : Aside0 (wc.heap[gb253]? = some (.cells #[.bool a0_0, .slice A0_1 l0_1.length c0_1, .int .i64 a0_2] 82 (0, 0))) := ⟨by rw [← hq_]; exact (kA BK253.out)⟩; have n3_ : Aside0 (wc.heap[gb254]? = some (.cells #[.bool a1_0, .slice A1_1 l1_1.length c1_1, .int .i64 a1_2] 82 (0, 0))) := ⟨by rw [← hq_]; exact (kA BK254.out)⟩; have n4_ : Aside0 (wc.heap[gb255]? = some (.cells #[.bool false, .slice none 0 0, .int .i64 0] 82 (0, 0))) := ⟨by rw [← hq_]; exact (kA BK255.out)⟩; have n5_ : Aside0 (Below w.heap.size w wc) := ⟨by rw [← hq_]; exact (bG HB.out)⟩; clear HO_6 HO_7 BK253 BK254 BK255 HB hq_; have HO_6 := n0_; have HO_7 := n1_; have BK253 := n2_; have BK254 := n3_; have BK255 := n4_; have HB := n5_; clear n0_ n1_ n2_ n3_ n4_ n5_))))
      have n0_ := Aside0.mk (Kd.R_drew HO_6.out)
      have n1_ := Aside0.mk (Kd.R_drew HO_7.out)
      have n2_ := Aside0.mk (blk_drew BK253.out)
      have n3_ := Aside0.mk (blk_drew BK254.out)
      have n4_ := Aside0.mk (blk_drew BK255.out)
      have n5_ := Aside0.mk (below_drew1 HB.out)
      clear HO_6
      clear HO_7
      clear BK253
      clear BK254
      clear BK255
      clear HB
      have HO_6 := n0_
      have HO_7 := n1_
      have BK253 := n2_
      have BK254 := n3_
      have BK255 := n4_
      have HB := n5_
      clear n0_ n1_ n2_ n3_ n4_ n5_
      refine start_ (n := 8) (S := fun w' => w'.cell? ⟨gb254, 0, none⟩ = some (.bool a1_0) ∧ w'.cell? ⟨gb254, 1, none⟩ = some (.slice A1_1 l1_1.length c1_1) ∧ w'.cell? ⟨gb254, 2, none⟩ = some (.int .i64 a1_2)) (ds := []) #[false, false, false, false, false, false, false, false] (by kernel_rfl) rfl rfl ⟨(blk_cell BK254.out 0).trans rfl, (blk_cell BK254.out 1).trans rfl, (blk_cell BK254.out 2).trans rfl⟩ (fun hHeld => ?_); refine with_tabW tenorref1_Plus.tab14 tenorref1_Plus.bits14 (fun HT_ HW_ => ?_)
      generalize wc.drew = w106 at HO_6 HO_7 BK253 BK254 BK255 HB hHeld ⊢
      refine pure_ (i := 0) (N := some 70) (v := ?_) (a' := ?_) #[true, false, false, false, false, false, false, false] rfl rfl (any_of HT_.out (by kernel_rfl)) (fun _ _ _ h => h) (Or.inl ⟨by rfl, ?_⟩) ?_ ?_
      rotate_left
      · intro w'
        go_simp
        with_reducible rfl
      rotate_left
      · simp only [Act.put, List.setIfInBounds_toArray, List.set_cons_zero, List.set_cons_succ, i64_w, i32_w]
        rfl
      refine pure_ (i := 2) (N := some 72) (v := ?_) (a' := ?_) #[true, false, true, false, false, false, false, false] rfl rfl (any_of HT_.out (by kernel_rfl)) (fun _ _ _ h => h) (Or.inl ⟨by rfl, ?_⟩) ?_ ?_
      rotate_left
      · intro w'
        go_simp
        with_reducible rfl
      rotate_left
      · simp only [Act.put, List.setIfInBounds_toArray, List.set_cons_zero, List.set_cons_succ, i64_w, i32_w]
        rfl
      refine pure_ (i := 3) (N := some 73) (v := ?_) (a' := ?_) #[true, false, true, true, false, false, false, false] rfl rfl (any_of HT_.out (by kernel_rfl)) (fun _ _ _ h => h) (Or.inl ⟨by rfl, ?_⟩) ?_ ?_
      rotate_left
      · intro w'
        go_simp
        with_reducible rfl
      rotate_left
      · simp only [Act.put, List.setIfInBounds_toArray, List.set_cons_zero, List.set_cons_succ, i64_w, i32_w]
        rfl
      refine pure_ (i := 5) (N := some 75) (v := ?_) (a' := ?_) #[true, false, true, true, false, true, false, false] rfl rfl (any_of HT_.out (by kernel_rfl)) (fun _ _ _ h => h) (Or.inl ⟨by rfl, ?_⟩) ?_ ?_
      rotate_left
      · intro w'
        go_simp
        with_reducible rfl
      rotate_left
      · simp only [Act.put, List.setIfInBounds_toArray, List.set_cons_zero, List.set_cons_succ, i64_w, i32_w]
        rfl
      refine take_ (i := 1) (N := some 71) (v := ?_) (a' := ?_) #[true, true, true, true, false, true, false, false] rfl rfl (take_ofW HT_.out HW_.out (by kernel_rfl)) (fun _ _ _ h => h) (Or.inl ⟨by rfl, ?_⟩) hHeld ?_ ?_
      rotate_left
      · rintro w' ⟨s0, s1, s2⟩
        go_simp
        with_reducible rfl
      rotate_left
      · simp only [Act.put, List.setIfInBounds_toArray, List.set_cons_zero, List.set_cons_succ, i64_w, i32_w]
        rfl
      refine one_ (i := 4) (N := some 74) #[true, true, true, true, true, true, false, false] rfl rfl (one_of HT_.out (by kernel_rfl)) (by decide) (fun K hK => ?_)
      refine goes_ Tryz.func117 (by kernel_rfl) rfl #[.slice Ao105 t260.length co105, .slice Ao104 t257.length co104] (by rfl) rfl rfl mA ?_
      with_reducible refine (tenorref1_SubDigits.calls kj5 _ _ t260 _ _ t257 t279 _ ?side1 ?side2 ?side3 ?side4 A103.out).mono ?_
      (case side1 => exact cA ((Kd.R_reads' HO_7.out).2.2))
      (case side2 => exact (Kd.R_reads' HO_7.out).2.1)
      (case side3 => exact cA ((Kd.R_reads' HO_6.out).2.2))
      (case side4 => exact (Kd.R_reads' HO_6.out).2.1)
      rintro e w107 ⟨v280, rfl, ho0, hb⟩
      refine ⟨_, rfl, ?_⟩
      have n0_ := Aside0.mk (Kd.R_elder' (rA HO_6.out) (Kd.R_base ho0) hb)
      have n1_ := Aside0.mk (Kd.R_elder' (rA HO_7.out) (Kd.R_base ho0) hb)
      have n2_ := Aside0.mk (Kd.R_lower (Kd.R_new' (Kd.R_new' ho0 (Kd.R_lt (rA HO_6.out))) (Kd.R_lt (rA HO_7.out))) (below_size (bG HB.out)))
      have n3_ := Aside0.mk (blk_below (g := gb253) (o := .cells #[.bool a0_0, .slice A0_1 l0_1.length c0_1, .int .i64 a0_2] 82 (0, 0)) (kA BK253.out) hb)
      have n4_ := Aside0.mk (blk_below (g := gb254) (o := .cells #[.bool a1_0, .slice A1_1 l1_1.length c1_1, .int .i64 a1_2] 82 (0, 0)) (kA BK254.out) hb)
      have n5_ := Aside0.mk (blk_below (g := gb255) (o := .cells #[.bool false, .slice none 0 0, .int .i64 0] 82 (0, 0)) (kA BK255.out) hb)
      have n6_ := Aside0.mk (below_step (bG HB.out) hb)
      clear HO_6
      clear HO_7
      clear BK253
      clear BK254
      clear BK255
      clear HB
      have HO_6 := n0_
      have HO_7 := n1_
      have HO281 := n2_
      have BK253 := n3_
      have BK254 := n4_
      have BK255 := n5_
      have HB := n6_
      clear n0_ n1_ n2_ n3_ n4_ n5_ n6_
      (try clear hb)
      (try clear hb2)
      (try clear hk)
      (try clear hi)
      (try clear ho0)
      obtain ⟨Ao108, co108, eo108⟩ := Kd.R_slice HO281.out
      (first | subst eo108 | (injection eo108 with f1_ f2_ f3_; have f4_ := f1_.symm; have f5_ := f3_.symm; clear f1_ f2_ f3_; subst f4_; subst f5_))
      refine hK.out _ _ ⟨(blk_cell BK254.out 0).trans rfl, (blk_cell BK254.out 1).trans rfl, (blk_cell BK254.out 2).trans rfl⟩ (fun hHeld => ?_)
      clear hK K
      refine norm_ (a' := ?_) ?_ ?_
      rotate_left
      · show Act.put _ (some 74) _ = _
        simp only [Act.put, List.setIfInBounds_toArray, List.set_cons_zero, List.set_cons_succ, i64_w, i32_w]
        rfl
      refine pure_ (i := 6) (N := some 76) (v := ?_) (a' := ?_) #[true, true, true, true, true, true, true, false] rfl rfl (any_of HT_.out (by kernel_rfl)) (fun _ _ _ h => h) (Or.inl ⟨by rfl, ?_⟩) ?_ ?_
      rotate_left
      · intro w'
        go_simp
        with_reducible rfl
      rotate_left
      · simp only [Act.put, List.setIfInBounds_toArray, List.set_cons_zero, List.set_cons_succ, i64_w, i32_w]
        rfl
      refine one_ (i := 7) (N := none) #[true, true, true, true, true, true, true, true] rfl rfl (one_of HT_.out (by kernel_rfl)) (by decide) (fun K hK => ?_)
      have hs109 : w107.cell? ⟨gb255, 0, none⟩ = some (.bool false) := (blk_cell BK255.out 0).trans rfl
      have hfs109 := blk_frozen BK255.out 0
      have hns109_0 := NB253_255.out
      have hns109_1 := NB254_255.out
      have hms109_0 := NB255_253.out
      have hms109_1 := NB255_254.out
      have hs110 : w107.cell? ⟨gb255, 1, none⟩ = some (.slice none 0 0) := (blk_cell BK255.out 1).trans rfl
      have hfs110 := blk_frozen BK255.out 1
      have hns110_0 := NB253_255.out
      have hns110_1 := NB254_255.out
      have hms110_0 := NB255_253.out
      have hms110_1 := NB255_254.out
      have hs111 : w107.cell? ⟨gb255, 2, none⟩ = some (.int .i64 0) := (blk_cell BK255.out 2).trans rfl
      have hfs111 := blk_frozen BK255.out 2
      have hns111_0 := NB253_255.out
      have hns111_1 := NB254_255.out
      have hms111_0 := NB255_253.out
      have hms111_1 := NB255_254.out
      refine skip_ (w1 := ?_) (by rfl) rfl ?_ ?_
      rotate_left
      · go_simp
        rfl
      refine hK.out _ _ ⟨((cell_far (p := ⟨gb255, _, none⟩) NB254_255.out _).trans (((cell_far (p := ⟨gb255, _, none⟩) NB254_255.out _).trans (((cell_far (p := ⟨gb255, _, none⟩) NB254_255.out _).trans (hHeld.1)))))), ((cell_far (p := ⟨gb255, _, none⟩) NB254_255.out _).trans (((cell_far (p := ⟨gb255, _, none⟩) NB254_255.out _).trans (((cell_far (p := ⟨gb255, _, none⟩) NB254_255.out _).trans (hHeld.2.1)))))), ((cell_far (p := ⟨gb255, _, none⟩) NB254_255.out _).trans (((cell_far (p := ⟨gb255, _, none⟩) NB254_255.out _).trans (((cell_far (p := ⟨gb255, _, none⟩) NB254_255.out _).trans (hHeld.2.2))))))⟩ (fun hHeld => ?_)
      clear hK K
      refine done_ (done_of HT_.out (by kernel_rfl)) ?_
      try go_wp2
      refine bodyPost_ret (results_cell_row rfl _ _ gb255 82 #[.bool a1_0, .slice Ao108 t279.length co108, .int .i64 t256] (0, 0) _ rfl (by (with_reducible repeat (first | refine blk_drewN ?_ _ | refine blk_drew ?_ | refine blk_alloc ?_ _)); refine blk_put (cs := #[.bool a1_0, .slice Ao108 t279.length co108, .int .i64 0]) ?_ 2 _ rfl; (with_reducible repeat (first | refine blk_drewN ?_ _ | refine blk_drew ?_ | refine blk_alloc ?_ _)); refine blk_put (cs := #[.bool a1_0, .slice none 0 0, .int .i64 0]) ?_ 1 _ rfl; (with_reducible repeat (first | refine blk_drewN ?_ _ | refine blk_drew ?_ | refine blk_alloc ?_ _)); refine blk_put (cs := #[.bool false, .slice none 0 0, .int .i64 0]) ?_ 0 _ rfl; (with_reducible repeat (first | refine blk_drewN ?_ _ | refine blk_drew ?_ | refine blk_alloc ?_ _)); exact BK255.out) Tryz.underlying82 rfl (by kernel_rfl)) rfl ?_
      exact ⟨_, by first | rfl | (simp [errW_none, errW_some] <;> rfl) | (simp [*, errW_none, errW_some] <;> rfl), by (with_reducible repeat (first | apply Kd.R_alloc | apply Kd.R_drewN | apply Kd.R_drew)); exact Kd.R_mono (Kd.R_far (p := ⟨gb255, 2, none⟩) (Kd.R_far (p := ⟨gb255, 1, none⟩) (Kd.R_far (p := ⟨gb255, 0, none⟩) (Kd.R_types HO281.out BK255.out (by decide)) (fun _ hk => hk.2) (.bool a1_0)) (fun _ hk => hk.2) (.slice Ao108 t279.length co108)) (fun _ hk => hk.2) (.int .i64 t256)) (fun _ hk => trivial), bG HB.out⟩

end Go.Proofs.YtepcegiciecogaaGreat.FR
