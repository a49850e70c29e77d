/- Written by the session's fprint.py out of the translation. -/
import Derived.Test.YtepcegiciecogaaGreatFRx0
import Derived.Test.YtepcegiciecogaaGreatFRx1
import Derived.Test.YtepcegiciecogaaGreatFRx3
import Derived.Test.YtepcegiciecogaaGreatFRx8
namespace Go.Proofs.YtepcegiciecogaaGreat.FR
open Go.RowKit Go.Proofs.YtepcegiciecogaaGreatW.PrintWords Go.Proofs.YtepcegiciecogaaGreatW.PrintLast Go.Proofs.YtepcegiciecogaaGreatW.PrintMore
attribute [local go_sem] max2_int min2_int max_two min_two max_three min_three max_four min_four   -- for this text's walks alone
open Go.Proofs.YtepcegiciecogaaGreat.FX
attribute [local go_sem] run_store_float run_neg_float run_fmul isSome_setCell 
set_option linter.unusedVariables false
set_option linter.unusedSimpArgs false

/-! ### tenorref1_NearOver: function 97 -/
def tenorref1_NearOver.f (k : Nat) (a0_0 : Bool) (l0_1 : List Int) (a0_2 : Int) (a1_0 : Bool) (l1_1 : List Int) (a1_2 : Int) : Option (Int) := (tenorref1_Zero.f a0_0 l0_1 a0_2).bind fun t307 => (if t307 = true then (some 0) else ((tenorref1_Len.f k l0_1).bind fun t308 => ((tenorref1_Len.f k l1_1).bind fun t309 => ((tenorref1_ShiftUp.f k l0_1 (mx 0 (wrap64 ((wrap64 (70 - t308)) + t309)))).bind fun t310 => ((tenorref1_DivDigits.f k t310 l1_1).bind fun bt313 => ((tenorref1_NearMore.f k a0_0 bt313.1 (wrap64 ((wrap64 (a0_2 - (mx 0 (wrap64 ((wrap64 (70 - t308)) + t309))))) - a1_2)) (decide (0 < bt313.2.length))).bind fun t319 => (some t319)))))))
def tenorref1_NearOver.T3 : Bool × List (List Nat × List Nat) := (true, [([], []), ([0], [0]), ([1], [1]), ([2], [2]), ([], []), ([4], [4]), ([5, 2], [5]), ([3, 6], [3, 6]), ([7], [7]), ([8, 6, 0, 1, 2, 3, 4, 5, 6, 7, 8], [8])])
def tenorref1_NearOver.B3 : List Nat := [0, 1, 3, 7, 0, 16, 55, 127, 255, 511]
theorem tenorref1_NearOver.tab3 : rtab .any (opsOf Tryz.f97 3) = tenorref1_NearOver.T3 := by kernel_rfl
theorem tenorref1_NearOver.bits3 : waitsOk tenorref1_NearOver.T3.2 tenorref1_NearOver.B3 = true := by kernel_rfl
def tenorref1_NearOver.T4 : Bool × List (List Nat × List Nat) := (true, [([], []), ([0], [0]), ([], []), ([1, 2], [1, 2]), ([], []), ([4], [4]), ([3, 5, 3], [3, 5]), ([6], [6]), ([7], [7]), ([7], [7]), ([8, 6, 0, 1, 2, 3, 4, 5, 6, 7, 8], [8]), ([9, 10, 0, 1, 2, 3, 4, 5, 6, 7, 8, 9, 10], [9])])
def tenorref1_NearOver.B4 : List Nat := [0, 1, 0, 7, 0, 16, 63, 127, 255, 255, 511, 2047]
theorem tenorref1_NearOver.tab4 : rtab .any (opsOf Tryz.f97 4) = tenorref1_NearOver.T4 := by kernel_rfl
theorem tenorref1_NearOver.bits4 : waitsOk tenorref1_NearOver.T4.2 tenorref1_NearOver.B4 = true := by kernel_rfl
set_option maxHeartbeats 8000000 in
set_option maxRecDepth 100000 in
theorem tenorref1_NearOver.calls (k : Nat) (a0_0 : Bool) (A0_1 : Option Addr) (c0_1 : Nat) (l0_1 : List Int) (a0_2 : Int) (a1_0 : Bool) (A1_1 : Option Addr) (c1_1 : Nat) (l1_1 : List Int) (a1_2 : Int) (r : Int) (w : World) (hr0_1 : Kd.C (Kd.int .u64) w A0_1 l0_1.length l0_1) (hc0_1 : l0_1.length ≤ c0_1) (hr1_1 : Kd.C (Kd.int .u64) w A1_1 l1_1.length l1_1) (hc1_1 : l1_1.length ≤ c1_1) (h : tenorref1_NearOver.f k a0_0 l0_1 a0_2 a1_0 l1_1 a1_2 = some r) :
    Calls Tryz.prog 97 #[.agg #[.bool a0_0, .slice A0_1 l0_1.length c0_1, .int .i64 a0_2], .agg #[.bool a1_0, .slice A1_1 l1_1.length c1_1, .int .i64 a1_2]] w fun e w' => e = .returned (.int .u64 r) ∧ Below w.heap.size w w' := by
  have hu82 := Tryz.underlying82
  have HR0_1 := Aside0.mk hr0_1
  have HC0_1 := Aside0.mk hc0_1
  clear hr0_1 hc0_1
  have HR1_1 := Aside0.mk hr1_1
  have HC1_1 := Aside0.mk hc1_1
  clear hr1_1 hc1_1
  have HB := Aside0.mk (Below.refl w.heap.size w)
  have H : ((tenorref1_Zero.f a0_0 l0_1 a0_2).bind fun t307 => (if t307 = true then (some 0) else ((tenorref1_Len.f k l0_1).bind fun t308 => ((tenorref1_Len.f k l1_1).bind fun t309 => ((tenorref1_ShiftUp.f k l0_1 (mx 0 (wrap64 ((wrap64 (70 - t308)) + t309)))).bind fun t310 => ((tenorref1_DivDigits.f k t310 l1_1).bind fun bt313 => ((tenorref1_NearMore.f k a0_0 bt313.1 (wrap64 ((wrap64 (a0_2 - (mx 0 (wrap64 ((wrap64 (70 - t308)) + t309))))) - a1_2)) (decide (0 < bt313.2.length))).bind fun t319 => (some t319)))))))) = some r := h
  clear h
  replace H := Option.bind_eq_some_iff.mp H
  obtain ⟨t307, A30, H⟩ := H
  have A3 := Aside0.mk A30
  clear A30
  by_cases c4 : t307 = true
  · subst c4
    have H1 : (some 0) = some r := by rw [if_pos rfl] at H; exact H
    clear H
    have H := H1
    clear H1
    obtain rfl := Option.some.inj H
    go_enter Tryz.func97, Tryz.ntmps97
    go_wp2_with (first | ((with_reducible refine gate_dst (N := 2) rfl ?_); refine box_event ?hg (N := 2) ?hd (cs := #[.bool a0_0, .slice A0_1 l0_1.length c0_1, .int .i64 a0_2]) (t := 82) ?hr ?_; (case hd => rfl); (case hg => rfl); (case hr => first | (go_simp; done) | (go_simp; rfl)); intro gb305 hg w5 hbox hb; have n0_ := Aside0.mk (below_step (bA HB.out) hb); have n1_ := Aside0.mk (hbox); have n2_ := Aside0.mk ((by rw [hg]; exact (below_size (bA HB.out)) : w.heap.size ≤ gb305)); have n3_ := Aside0.mk ((by rw [hg]; exact (below_size (bA HB.out)) : w.heap.size ≤ gb305)); clear HB; have HB := n0_; have BK305 := n1_; have GW305 := n2_; have GE305 := n3_; clear n0_ n1_ n2_ n3_; clear hb hbox hg) | ((with_reducible refine gate_dst (N := 3) rfl ?_); refine box_event ?hg (N := 3) ?hd (cs := #[.bool a1_0, .slice A1_1 l1_1.length c1_1, .int .i64 a1_2]) (t := 82) ?hr ?_; (case hd => rfl); (case hg => rfl); (case hr => first | (go_simp; done) | (go_simp; rfl)); intro gb306 hg w6 hbox hb; have n0_ := Aside0.mk (blk_below (g := gb305) (o := .cells #[.bool a0_0, .slice A0_1 l0_1.length c0_1, .int .i64 a0_2] 82 (0, 0)) (kA BK305.out) hb); have n1_ := Aside0.mk (below_step (bG HB.out) hb); have n2_ := Aside0.mk (hbox); have n3_ := Aside0.mk ((by rw [hg]; exact (below_size (bG HB.out)) : w.heap.size ≤ gb306)); have n4_ := Aside0.mk ((by rw [hg]; exact (below_size (bG HB.out)) : w.heap.size ≤ gb306)); have n5_ := Aside0.mk ((by rw [hg]; exact Nat.ne_of_lt (blk_lt (g := gb305) (o := .cells #[.bool a0_0, .slice A0_1 l0_1.length c0_1, .int .i64 a0_2] 82 (0, 0)) (kA BK305.out)) : gb305 ≠ gb306)); have n6_ := Aside0.mk ((by rw [hg]; exact Nat.ne_of_gt (blk_lt (g := gb305) (o := .cells #[.bool a0_0, .slice A0_1 l0_1.length c0_1, .int .i64 a0_2] 82 (0, 0)) (kA BK305.out)) : gb306 ≠ gb305)); clear BK305; clear HB; have BK305 := n0_; have HB := n1_; have BK306 := n2_; have GW306 := n3_; have GE306 := n4_; have NB305_306 := n5_; have NB306_305 := n6_; clear n0_ n1_ n2_ n3_ n4_ n5_ n6_; clear hb hbox hg; have hnb7 := NB305_306.out; have hnc7 := NB306_305.out; have hcz8_0 : w6.cell? ⟨gb305, 0, none⟩ = some (.bool a0_0) := (blk_cell BK305.out 0).trans rfl; have hcz8_1 : w6.cell? ⟨gb305, 1, none⟩ = some (.slice A0_1 l0_1.length c0_1) := (blk_cell BK305.out 1).trans rfl; have hcz8_2 : w6.cell? ⟨gb305, 2, none⟩ = some (.int .i64 a0_2) := (blk_cell BK305.out 2).trans rfl; have hfz8_0 := blk_frozen BK305.out 0; have hfz8_1 := blk_frozen BK305.out 1; have hfz8_2 := blk_frozen BK305.out 2) | ((with_reducible refine gate_callee (f := 120) rfl ?_); refine goesL_ (some 9) rfl rfl Tryz.func120 (by kernel_rfl) rfl #[.agg #[.bool a0_0, .slice A0_1 l0_1.length c0_1, .int .i64 a0_2]] rfl mA ?_; (with_reducible refine (tenorref1_Zero.calls a0_0 _ _ l0_1 a0_2 true _ ?side1 ?side2 A3.out).mono ?_); (case side1 => exact cA (Kd.C_below HR0_1.out HB.out)); (case side2 => exact HC0_1.out); rintro e w9 ⟨rfl, hb⟩; refine ⟨_, rfl, ?_⟩; have n0_ := Aside0.mk (blk_below (g := gb305) (o := .cells #[.bool a0_0, .slice A0_1 l0_1.length c0_1, .int .i64 a0_2] 82 (0, 0)) (kA BK305.out) hb); have n1_ := Aside0.mk (blk_below (g := gb306) (o := .cells #[.bool a1_0, .slice A1_1 l1_1.length c1_1, .int .i64 a1_2] 82 (0, 0)) (kA BK306.out) hb); have n2_ := Aside0.mk (below_step (bG HB.out) hb); clear BK305; clear BK306; clear HB; have BK305 := n0_; have BK306 := n1_; have HB := n2_; clear n0_ n1_ n2_; (try clear hb); (try clear hb2); (try clear hk); (try clear hi)))
    go_ret
    exact ⟨by first | rfl | (simp [errW_none, errW_some] <;> rfl) | (simp [*, errW_none, errW_some] <;> rfl), bG HB.out⟩
  replace c4 := Bool.eq_false_iff.mpr c4
  subst c4
  have H1 : ((tenorref1_Len.f k l0_1).bind fun t308 => ((tenorref1_Len.f k l1_1).bind fun t309 => ((tenorref1_ShiftUp.f k l0_1 (mx 0 (wrap64 ((wrap64 (70 - t308)) + t309)))).bind fun t310 => ((tenorref1_DivDigits.f k t310 l1_1).bind fun bt313 => ((tenorref1_NearMore.f k a0_0 bt313.1 (wrap64 ((wrap64 (a0_2 - (mx 0 (wrap64 ((wrap64 (70 - t308)) + t309))))) - a1_2)) (decide (0 < bt313.2.length))).bind fun t319 => (some t319)))))) = some r := by rw [if_neg (show ¬ (false = true) by decide)] at H; exact H
  clear H
  have H := H1
  clear H1
  replace H := Option.bind_eq_some_iff.mp H
  obtain ⟨t308, A100, H⟩ := H
  have A10 := Aside0.mk A100
  clear A100
  replace H := Option.bind_eq_some_iff.mp H
  obtain ⟨t309, A110, H⟩ := H
  have A11 := Aside0.mk A110
  clear A110
  obtain ⟨ji12, hji12⟩ : ∃ j_ : Int, (mx 0 (wrap64 ((wrap64 (70 - t308)) + t309))) = j_ := ⟨_, rfl⟩
  replace H : ((tenorref1_ShiftUp.f k l0_1 (ji12)).bind fun t310 => ((tenorref1_DivDigits.f k t310 l1_1).bind fun bt313 => ((tenorref1_NearMore.f k a0_0 bt313.1 (wrap64 ((wrap64 (a0_2 - (ji12))) - a1_2)) (decide (0 < bt313.2.length))).bind fun t319 => (some t319)))) = some r := by first | (rw [hji12] at H; exact H) | (simp only [hji12] at H ⊢; exact H)
  (try rw [hji12] at A3)
  (try rw [hji12] at A10)
  (try rw [hji12] at A11)
  (try (have hji12l : 0 ≤ ji12 := by (rw [← hji12]; unfold mx; (repeat' split) <;> omega)))
  (try (have hji12m : 0 ≤ ji12 := by omega))
  have hji12_ : (if 0 < (wrap64 ((wrap64 (70 - t308)) + t309)) then (wrap64 ((wrap64 (70 - t308)) + t309)) else 0) = ji12 := hji12
  replace H := Option.bind_eq_some_iff.mp H
  obtain ⟨t310, A130, H⟩ := H
  have A13 := Aside0.mk A130
  clear A130
  replace H := Option.bind_eq_some_iff.mp H
  obtain ⟨⟨t313, t314⟩, A140, H⟩ := H
  have A14 := Aside0.mk A140
  clear A140
  replace H := Option.bind_eq_some_iff.mp H
  obtain ⟨t319, A150, H⟩ := H
  have A15 := Aside0.mk A150
  clear A150
  obtain rfl := Option.some.inj H
  go_enter Tryz.func97, Tryz.ntmps97
  try go_wp2_with (first | ((with_reducible refine gate_dst (N := 2) rfl ?_); refine box_event ?hg (N := 2) ?hd (cs := #[.bool a0_0, .slice A0_1 l0_1.length c0_1, .int .i64 a0_2]) (t := 82) ?hr ?_; (case hd => rfl); (case hg => rfl); (case hr => first | (go_simp; done) | (go_simp; rfl)); intro gb305 hg w16 hbox hb; have n0_ := Aside0.mk (below_step (bA HB.out) hb); have n1_ := Aside0.mk (hbox); have n2_ := Aside0.mk ((by rw [hg]; exact (below_size (bA HB.out)) : w.heap.size ≤ gb305)); have n3_ := Aside0.mk ((by rw [hg]; exact (below_size (bA HB.out)) : w.heap.size ≤ gb305)); clear HB; have HB := n0_; have BK305 := n1_; have GW305 := n2_; have GE305 := n3_; clear n0_ n1_ n2_ n3_; clear hb hbox hg) | ((with_reducible refine gate_dst (N := 3) rfl ?_); refine box_event ?hg (N := 3) ?hd (cs := #[.bool a1_0, .slice A1_1 l1_1.length c1_1, .int .i64 a1_2]) (t := 82) ?hr ?_; (case hd => rfl); (case hg => rfl); (case hr => first | (go_simp; done) | (go_simp; rfl)); intro gb306 hg w17 hbox hb; have n0_ := Aside0.mk (blk_below (g := gb305) (o := .cells #[.bool a0_0, .slice A0_1 l0_1.length c0_1, .int .i64 a0_2] 82 (0, 0)) (kA BK305.out) hb); have n1_ := Aside0.mk (below_step (bG HB.out) hb); have n2_ := Aside0.mk (hbox); have n3_ := Aside0.mk ((by rw [hg]; exact (below_size (bG HB.out)) : w.heap.size ≤ gb306)); have n4_ := Aside0.mk ((by rw [hg]; exact (below_size (bG HB.out)) : w.heap.size ≤ gb306)); have n5_ := Aside0.mk ((by rw [hg]; exact Nat.ne_of_lt (blk_lt (g := gb305) (o := .cells #[.bool a0_0, .slice A0_1 l0_1.length c0_1, .int .i64 a0_2] 82 (0, 0)) (kA BK305.out)) : gb305 ≠ gb306)); have n6_ := Aside0.mk ((by rw [hg]; exact Nat.ne_of_gt (blk_lt (g := gb305) (o := .cells #[.bool a0_0, .slice A0_1 l0_1.length c0_1, .int .i64 a0_2] 82 (0, 0)) (kA BK305.out)) : gb306 ≠ gb305)); clear BK305; clear HB; have BK305 := n0_; have HB := n1_; have BK306 := n2_; have GW306 := n3_; have GE306 := n4_; have NB305_306 := n5_; have NB306_305 := n6_; clear n0_ n1_ n2_ n3_ n4_ n5_ n6_; clear hb hbox hg; have hnb18 := NB305_306.out; have hnc18 := NB306_305.out; have hcz19_0 : w17.cell? ⟨gb305, 0, none⟩ = some (.bool a0_0) := (blk_cell BK305.out 0).trans rfl; have hcz19_1 : w17.cell? ⟨gb305, 1, none⟩ = some (.slice A0_1 l0_1.length c0_1) := (blk_cell BK305.out 1).trans rfl; have hcz19_2 : w17.cell? ⟨gb305, 2, none⟩ = some (.int .i64 a0_2) := (blk_cell BK305.out 2).trans rfl; have hfz19_0 := blk_frozen BK305.out 0; have hfz19_1 := blk_frozen BK305.out 1; have hfz19_2 := blk_frozen BK305.out 2) | ((with_reducible refine gate_callee (f := 120) rfl ?_); refine goesL_ (some 9) rfl rfl Tryz.func120 (by kernel_rfl) rfl #[.agg #[.bool a0_0, .slice A0_1 l0_1.length c0_1, .int .i64 a0_2]] rfl mA ?_; (with_reducible refine (tenorref1_Zero.calls a0_0 _ _ l0_1 a0_2 false _ ?side1 ?side2 A3.out).mono ?_); (case side1 => exact cA (Kd.C_below HR0_1.out HB.out)); (case side2 => exact HC0_1.out); rintro e w20 ⟨rfl, hb⟩; refine ⟨_, rfl, ?_⟩; have n0_ := Aside0.mk (blk_below (g := gb305) (o := .cells #[.bool a0_0, .slice A0_1 l0_1.length c0_1, .int .i64 a0_2] 82 (0, 0)) (kA BK305.out) hb); have n1_ := Aside0.mk (blk_below (g := gb306) (o := .cells #[.bool a1_0, .slice A1_1 l1_1.length c1_1, .int .i64 a1_2] 82 (0, 0)) (kA BK306.out) hb); have n2_ := Aside0.mk (below_step (bG HB.out) hb); clear BK305; clear BK306; clear HB; have BK305 := n0_; have BK306 := n1_; have HB := n2_; clear n0_ n1_ n2_; (try clear hb); (try clear hb2); (try clear hk); (try clear hi)))
  have n0_ := Aside0.mk (blk_drew BK305.out)
  have n1_ := Aside0.mk (blk_drew BK306.out)
  have n2_ := Aside0.mk (below_drew1 HB.out)
  clear BK305
  clear BK306
  clear HB
  have BK305 := n0_
  have BK306 := n1_
  have HB := n2_
  clear n0_ n1_ n2_
  refine start_ (n := 10) (S := fun w' => w'.cell? ⟨gb305, 0, none⟩ = some (.bool a0_0) ∧ w'.cell? ⟨gb305, 1, none⟩ = some (.slice A0_1 l0_1.length c0_1) ∧ w'.cell? ⟨gb305, 2, none⟩ = some (.int .i64 a0_2) ∧ w'.cell? ⟨gb306, 0, none⟩ = some (.bool a1_0) ∧ w'.cell? ⟨gb306, 1, none⟩ = some (.slice A1_1 l1_1.length c1_1) ∧ w'.cell? ⟨gb306, 2, none⟩ = some (.int .i64 a1_2)) (ds := []) #[false, false, false, false, false, false, false, false, false, false] (by kernel_rfl) rfl rfl ⟨(blk_cell BK305.out 0).trans rfl, (blk_cell BK305.out 1).trans rfl, (blk_cell BK305.out 2).trans rfl, (blk_cell BK306.out 0).trans rfl, (blk_cell BK306.out 1).trans rfl, (blk_cell BK306.out 2).trans rfl⟩ (fun hHeld => ?_); refine with_tabW tenorref1_NearOver.tab3 tenorref1_NearOver.bits3 (fun HT_ HW_ => ?_)
  generalize w20.drew = w21 at BK305 BK306 HB hHeld ⊢
  refine pure_ (i := 0) (N := some 10) (v := ?_) (a' := ?_) #[true, false, false, false, false, false, false, false, false, false] rfl rfl (any_of HT_.out (by kernel_rfl)) (fun _ _ _ h => h) (Or.inl ⟨by rfl, ?_⟩) ?_ ?_
  rotate_left
  · intro w'
    go_simp
    with_reducible rfl
  rotate_left
  · simp only [Act.put, List.setIfInBounds_toArray, List.set_cons_zero, List.set_cons_succ, i64_w, i32_w]
    rfl
  refine pure_ (i := 4) (N := some 14) (v := ?_) (a' := ?_) #[true, false, false, false, true, false, false, false, false, false] rfl rfl (any_of HT_.out (by kernel_rfl)) (fun _ _ _ h => h) (Or.inl ⟨by rfl, ?_⟩) ?_ ?_
  rotate_left
  · intro w'
    go_simp
    with_reducible rfl
  rotate_left
  · simp only [Act.put, List.setIfInBounds_toArray, List.set_cons_zero, List.set_cons_succ, i64_w, i32_w]
    rfl
  refine take_ (i := 1) (N := some 11) (v := ?_) (a' := ?_) #[true, true, false, false, true, false, false, false, false, false] rfl rfl (take_ofW HT_.out HW_.out (by kernel_rfl)) (fun _ _ _ h => h) (Or.inl ⟨by rfl, ?_⟩) hHeld ?_ ?_
  rotate_left
  · rintro w' ⟨s0, s1, s2, s3, s4, s5⟩
    go_simp
    with_reducible rfl
  rotate_left
  · simp only [Act.put, List.setIfInBounds_toArray, List.set_cons_zero, List.set_cons_succ, i64_w, i32_w]
    rfl
  refine take_ (i := 5) (N := some 15) (v := ?_) (a' := ?_) #[true, true, false, false, true, true, false, false, false, false] rfl rfl (take_ofW HT_.out HW_.out (by kernel_rfl)) (fun _ _ _ h => h) (Or.inl ⟨by rfl, ?_⟩) hHeld ?_ ?_
  rotate_left
  · rintro w' ⟨s0, s1, s2, s3, s4, s5⟩
    go_simp
    with_reducible rfl
  rotate_left
  · simp only [Act.put, List.setIfInBounds_toArray, List.set_cons_zero, List.set_cons_succ, i64_w, i32_w]
    rfl
  refine one_ (i := 2) (N := some 12) #[true, true, true, false, true, true, false, false, false, false] rfl rfl (one_of HT_.out (by kernel_rfl)) (by decide) (fun K hK => ?_)
  refine goes_ Tryz.func132 (by kernel_rfl) rfl #[.slice A0_1 l0_1.length c0_1] (by rfl) rfl rfl mA ?_
  with_reducible refine (tenorref1_Len.calls k _ _ l0_1 t308 _ ?side1 ?side2 A10.out).mono ?_
  (case side1 => exact cA (Kd.C_below HR0_1.out HB.out))
  (case side2 => exact HC0_1.out)
  rintro e w' ⟨rfl, ⟨nd, rfl⟩⟩
  refine ⟨_, rfl, ?_⟩
  refine hK.out _ _ ⟨(blk_cell BK305.out 0).trans rfl, (blk_cell BK305.out 1).trans rfl, (blk_cell BK305.out 2).trans rfl, (blk_cell BK306.out 0).trans rfl, (blk_cell BK306.out 1).trans rfl, (blk_cell BK306.out 2).trans rfl⟩ (fun hHeld => ?_)
  clear hK K
  refine norm_ (a' := ?_) ?_ ?_
  rotate_left
  · show Act.put _ (some 12) _ = _
    simp only [Act.put, List.setIfInBounds_toArray, List.set_cons_zero, List.set_cons_succ, i64_w, i32_w]
    rfl
  refine pure_ (i := 3) (N := some 13) (v := ?_) (a' := ?_) #[true, true, true, true, true, true, false, false, false, false] rfl rfl (any_of HT_.out (by kernel_rfl)) (fun _ _ _ h => h) (Or.inl ⟨by rfl, ?_⟩) ?_ ?_
  rotate_left
  · intro w'
    go_simp
    with_reducible rfl
  rotate_left
  · simp only [Act.put, List.setIfInBounds_toArray, List.set_cons_zero, List.set_cons_succ, i64_w, i32_w]
    rfl
  refine one_ (i := 6) (N := some 16) #[true, true, true, true, true, true, true, false, false, false] rfl rfl (one_of HT_.out (by kernel_rfl)) (by decide) (fun K hK => ?_)
  refine goes_ Tryz.func132 (by kernel_rfl) rfl #[.slice A1_1 l1_1.length c1_1] (by rfl) rfl rfl mA ?_
  with_reducible refine (tenorref1_Len.calls k _ _ l1_1 t309 _ ?side1 ?side2 A11.out).mono ?_
  (case side1 => repeat (first | exact (Kd.C_below HR1_1.out (bG HB.out)) | (with_reducible refine Kd.C_alloc ?_ _) | (with_reducible refine Kd.C_drewN ?_ _) | (with_reducible refine Kd.C_drew ?_)))
  (case side2 => exact HC1_1.out)
  rintro e w' ⟨rfl, ⟨nd, rfl⟩⟩
  refine ⟨_, rfl, ?_⟩
  refine hK.out _ _ ⟨(blk_cell BK305.out 0).trans rfl, (blk_cell BK305.out 1).trans rfl, (blk_cell BK305.out 2).trans rfl, (blk_cell BK306.out 0).trans rfl, (blk_cell BK306.out 1).trans rfl, (blk_cell BK306.out 2).trans rfl⟩ (fun hHeld => ?_)
  clear hK K
  refine norm_ (a' := ?_) ?_ ?_
  rotate_left
  · show Act.put _ (some 16) _ = _
    simp only [Act.put, List.setIfInBounds_toArray, List.set_cons_zero, List.set_cons_succ, i64_w, i32_w]
    rfl
  refine pure_ (i := 7) (N := some 17) (v := ?_) (a' := ?_) #[true, true, true, true, true, true, true, true, false, false] rfl rfl (any_of HT_.out (by kernel_rfl)) (fun _ _ _ h => h) (Or.inl ⟨by rfl, ?_⟩) ?_ ?_
  rotate_left
  · intro w'
    go_simp
    with_reducible rfl
  rotate_left
  · simp only [Act.put, List.setIfInBounds_toArray, List.set_cons_zero, List.set_cons_succ, i64_w, i32_w]
    rfl
  refine pure_ (i := 8) (N := some 18) (v := ?_) (a' := ?_) #[true, true, true, true, true, true, true, true, true, false] rfl rfl (any_of HT_.out (by kernel_rfl)) (fun _ _ _ h => h) (Or.inl ⟨by rfl, ?_⟩) ?_ ?_
  rotate_left
  · intro w'
    go_simp
    with_reducible rfl
  rotate_left
  · simp only [Act.put, List.setIfInBounds_toArray, List.set_cons_zero, List.set_cons_succ, i64_w, i32_w]
    rfl
  refine pure_ (i := 9) (N := some 5) (v := ?_) (a' := ?_) #[true, true, true, true, true, true, true, true, true, true] rfl rfl (any_of HT_.out (by kernel_rfl)) (fun _ _ _ h => h) (Or.inl ⟨by rfl, ?_⟩) ?_ ?_
  rotate_left
  · intro w'
    go_simp
    with_reducible rfl
  rotate_left
  · simp only [Act.put, List.setIfInBounds_toArray, List.set_cons_zero, List.set_cons_succ, i64_w, i32_w]
    rfl
  refine done_ (done_of HT_.out (by kernel_rfl)) ?_
  try go_wp2
  (try rw [World.drewN_drewN]); (try (rw [drewN_self w21]; generalize hq_ : World.drewN w21 _ = w21; have n0_ : Aside0 (w21.heap[gb305]? = some (.cells #[.bool a0_0, .slice A0_1 l0_1.length c0_1, .int .i64 a0_2] 82 (0, 0))) := ⟨by rw [← hq_]; exact (kA BK305.out)⟩; have n1_ : Aside0 (w21.heap[gb306]? = some (.cells #[.bool a1_0, .slice A1_1 l1_1.length c1_1, .int .i64 a1_2] 82 (0, 0))) := ⟨by rw [← hq_]; exact (kA BK306.out)⟩; have n2_ : Aside0 (Below w.heap.size w w21) := ⟨by rw [← hq_]; exact (bG HB.out)⟩; clear BK305 BK306 HB hq_; have BK305 := n0_; have BK306 := n1_; have HB := n2_; clear n0_ n1_ n2_))
  have n0_ := Aside0.mk (blk_drew BK305.out)
  have n1_ := Aside0.mk (blk_drew BK306.out)
  have n2_ := Aside0.mk (below_drew1 HB.out)
  clear BK305
  clear BK306
  clear HB
  have BK305 := n0_
  have BK306 := n1_
  have HB := n2_
  clear n0_ n1_ n2_
  refine start_ (n := 12) (S := fun w' => w'.cell? ⟨gb305, 0, none⟩ = some (.bool a0_0) ∧ w'.cell? ⟨gb305, 1, none⟩ = some (.slice A0_1 l0_1.length c0_1) ∧ w'.cell? ⟨gb305, 2, none⟩ = some (.int .i64 a0_2) ∧ w'.cell? ⟨gb306, 0, none⟩ = some (.bool a1_0) ∧ w'.cell? ⟨gb306, 1, none⟩ = some (.slice A1_1 l1_1.length c1_1) ∧ w'.cell? ⟨gb306, 2, none⟩ = some (.int .i64 a1_2)) (ds := []) (dnA 12 0) (by kernel_rfl) rfl rfl ⟨(blk_cell BK305.out 0).trans rfl, (blk_cell BK305.out 1).trans rfl, (blk_cell BK305.out 2).trans rfl, (blk_cell BK306.out 0).trans rfl, (blk_cell BK306.out 1).trans rfl, (blk_cell BK306.out 2).trans rfl⟩ (fun hHeld => ?_); refine with_tabW tenorref1_NearOver.tab4 tenorref1_NearOver.bits4 (fun HT_ HW_ => ?_)
  generalize w21.drew = w22 at BK305 BK306 HB hHeld ⊢
  refine pure_ (i := 0) (N := some 20) (v := ?_) (a' := ?_) (dnA 12 1) rfl rfl (any_of HT_.out (by kernel_rfl)) (fun _ _ _ h => h) (Or.inl ⟨by rfl, ?_⟩) ?_ ?_
  rotate_left
  · intro w'
    go_simp
    with_reducible rfl
  rotate_left
  · simp only [Act.put, List.setIfInBounds_toArray, List.set_cons_zero, List.set_cons_succ, i64_w, i32_w]
    rfl
  refine pure_ (i := 2) (N := some 22) (v := ?_) (a' := ?_) (dnA 12 5) rfl rfl (any_of HT_.out (by kernel_rfl)) (fun _ _ _ h => h) (Or.inl ⟨by rfl, ?_⟩) ?_ ?_
  rotate_left
  · intro w'
    go_simp
    with_reducible rfl
  rotate_left
  · simp only [Act.put, List.setIfInBounds_toArray, List.set_cons_zero, List.set_cons_succ, i64_w, i32_w]
    rfl
  refine pure_ (i := 4) (N := some 24) (v := ?_) (a' := ?_) (dnA 12 21) rfl rfl (any_of HT_.out (by kernel_rfl)) (fun _ _ _ h => h) (Or.inl ⟨by rfl, ?_⟩) ?_ ?_
  rotate_left
  · intro w'
    go_simp
    with_reducible rfl
  rotate_left
  · simp only [Act.put, List.setIfInBounds_toArray, List.set_cons_zero, List.set_cons_succ, i64_w, i32_w]
    rfl
  refine take_ (i := 1) (N := some 21) (v := ?_) (a' := ?_) (dnA 12 23) rfl rfl (take_ofW HT_.out HW_.out (by kernel_rfl)) (fun _ _ _ h => h) (Or.inl ⟨by rfl, ?_⟩) hHeld ?_ ?_
  rotate_left
  · rintro w' ⟨s0, s1, s2, s3, s4, s5⟩
    go_simp
    with_reducible rfl
  rotate_left
  · simp only [Act.put, List.setIfInBounds_toArray, List.set_cons_zero, List.set_cons_succ, i64_w, i32_w]
    rfl
  refine take_ (i := 5) (N := some 25) (v := ?_) (a' := ?_) (dnA 12 55) rfl rfl (take_ofW HT_.out HW_.out (by kernel_rfl)) (fun _ _ _ h => h) (Or.inl ⟨by rfl, ?_⟩) hHeld ?_ ?_
  rotate_left
  · rintro w' ⟨s0, s1, s2, s3, s4, s5⟩
    go_simp
    with_reducible rfl
  rotate_left
  · simp only [Act.put, List.setIfInBounds_toArray, List.set_cons_zero, List.set_cons_succ, i64_w, i32_w]
    rfl
  refine one_ (i := 3) (N := some 23) (dnA 12 63) rfl rfl (one_of HT_.out (by kernel_rfl)) (by decide) (fun K hK => ?_)
  refine goes_ Tryz.func134 (by kernel_rfl) rfl #[.slice A0_1 l0_1.length c0_1, .int .i64 ji12] (by rfl) rfl rfl (by (try simp only [List.map_toArray, List.map_cons, List.map_nil]); first | done | (simp only [hji12]; rfl) | rfl | (simp only [List.length_drop, List.length_take]; rfl)) ?_
  with_reducible refine (tenorref1_ShiftUp.calls k _ _ l0_1 ji12 t310 _ ?side1 ?side2 A13.out).mono ?_
  (case side1 => exact cA (Kd.C_below HR0_1.out HB.out))
  (case side2 => exact HC0_1.out)
  rintro e w23 ⟨v311, rfl, ho0, hb⟩
  refine ⟨_, rfl, ?_⟩
  have n0_ := Aside0.mk (Kd.R_lower ho0 (below_size (bG HB.out)))
  have n1_ := Aside0.mk (blk_below (g := gb305) (o := .cells #[.bool a0_0, .slice A0_1 l0_1.length c0_1, .int .i64 a0_2] 82 (0, 0)) (kA BK305.out) hb)
  have n2_ := Aside0.mk (blk_below (g := gb306) (o := .cells #[.bool a1_0, .slice A1_1 l1_1.length c1_1, .int .i64 a1_2] 82 (0, 0)) (kA BK306.out) hb)
  have n3_ := Aside0.mk (below_step (bG HB.out) hb)
  clear BK305
  clear BK306
  clear HB
  have HO312 := n0_
  have BK305 := n1_
  have BK306 := n2_
  have HB := n3_
  clear n0_ n1_ n2_ n3_
  (try clear hb)
  (try clear hb2)
  (try clear hk)
  (try clear hi)
  (try clear ho0)
  obtain ⟨Ao24, co24, eo24⟩ := Kd.R_slice HO312.out
  (first | subst eo24 | (injection eo24 with f1_ f2_ f3_; have f4_ := f1_.symm; have f5_ := f3_.symm; clear f1_ f2_ f3_; subst f4_; subst f5_))
  refine hK.out _ _ ⟨(blk_cell BK305.out 0).trans rfl, (blk_cell BK305.out 1).trans rfl, (blk_cell BK305.out 2).trans rfl, (blk_cell BK306.out 0).trans rfl, (blk_cell BK306.out 1).trans rfl, (blk_cell BK306.out 2).trans rfl⟩ (fun hHeld => ?_)
  clear hK K
  refine norm_ (a' := ?_) ?_ ?_
  rotate_left
  · show Act.put _ (some 23) _ = _
    simp only [Act.put, List.setIfInBounds_toArray, List.set_cons_zero, List.set_cons_succ, i64_w, i32_w]
    rfl
  refine one_ (i := 6) (N := some 26) (dnA 12 127) rfl rfl (one_of HT_.out (by kernel_rfl)) (by decide) (fun K hK => ?_)
  refine goes_ Tryz.func133 (by kernel_rfl) rfl #[.slice Ao24 t310.length co24, .slice A1_1 l1_1.length c1_1] (by rfl) rfl rfl mA ?_
  with_reducible refine (tenorref1_DivDigits.calls k _ _ t310 _ _ l1_1 t313 t314 _ ?side1 ?side2 ?side3 ?side4 A14.out).mono ?_
  (case side1 => exact cA ((Kd.R_reads' HO312.out).2.2))
  (case side2 => exact (Kd.R_reads' HO312.out).2.1)
  (case side3 => exact cA (Kd.C_below HR1_1.out HB.out))
  (case side4 => exact HC1_1.out)
  rintro e w25 ⟨v315, v317, rfl, ho0, ho1, hb⟩
  refine ⟨_, rfl, ?_⟩
  have n0_ := Aside0.mk (Kd.R_mono (Kd.R_told (Kd.R_told (Kd.R_old (rA HO312.out) hb) (Kd.R_base ho0)) (Kd.R_base ho1)) (fun _ h_ => h_.1))
  have n1_ := Aside0.mk (Kd.R_lower (Kd.R_new' ho0 (Kd.R_lt (rA HO312.out))) (below_size (bG HB.out)))
  have n2_ := Aside0.mk (Kd.R_lower (Kd.R_new' ho1 (Kd.R_lt (rA HO312.out))) (below_size (bG HB.out)))
  have n3_ := Aside0.mk (blk_below (g := gb305) (o := .cells #[.bool a0_0, .slice A0_1 l0_1.length c0_1, .int .i64 a0_2] 82 (0, 0)) (kA BK305.out) hb)
  have n4_ := Aside0.mk (blk_below (g := gb306) (o := .cells #[.bool a1_0, .slice A1_1 l1_1.length c1_1, .int .i64 a1_2] 82 (0, 0)) (kA BK306.out) hb)
  have n5_ := Aside0.mk (below_step (bG HB.out) hb)
  clear HO312
  clear BK305
  clear BK306
  clear HB
  have HO312 := n0_
  have HO316 := n1_
  have HO318 := n2_
  have BK305 := n3_
  have BK306 := n4_
  have HB := n5_
  clear n0_ n1_ n2_ n3_ n4_ n5_
  (try clear hb)
  (try clear hb2)
  (try clear hk)
  (try clear hi)
  (try clear ho0)
  (try clear ho1)
  refine hK.out _ _ ⟨(blk_cell BK305.out 0).trans rfl, (blk_cell BK305.out 1).trans rfl, (blk_cell BK305.out 2).trans rfl, (blk_cell BK306.out 0).trans rfl, (blk_cell BK306.out 1).trans rfl, (blk_cell BK306.out 2).trans rfl⟩ (fun hHeld => ?_)
  clear hK K
  refine norm_ (a' := ?_) ?_ ?_
  rotate_left
  · show Act.put _ (some 26) _ = _
    simp only [Act.put, List.setIfInBounds_toArray, List.set_cons_zero, List.set_cons_succ, i64_w, i32_w]
    rfl
  refine pure_ (i := 7) (N := some 19) (v := ?_) (a' := ?_) (dnA 12 255) rfl rfl (any_of HT_.out (by kernel_rfl)) (fun _ _ _ h => h) (Or.inl ⟨by rfl, ?_⟩) ?_ ?_
  rotate_left
  · intro w'
    go_simp
    with_reducible rfl
  rotate_left
  · simp only [Act.put, List.setIfInBounds_toArray, List.set_cons_zero, List.set_cons_succ, i64_w, i32_w]
    rfl
  refine pure_ (i := 8) (N := some 27) (v := ?_) (a' := ?_) (dnA 12 511) rfl rfl (any_of HT_.out (by kernel_rfl)) (fun _ _ _ h => h) (Or.inl ⟨by rfl, ?_⟩) ?_ ?_
  rotate_left
  · intro w'
    go_simp
    with_reducible rfl
  rotate_left
  · simp only [Act.put, List.setIfInBounds_toArray, List.set_cons_zero, List.set_cons_succ, i64_w, i32_w]
    rfl
  refine pure_ (i := 9) (N := some 28) (v := ?_) (a' := ?_) (dnA 12 1023) rfl rfl (any_of HT_.out (by kernel_rfl)) (fun _ _ _ h => h) (Or.inl ⟨by rfl, ?_⟩) ?_ ?_
  rotate_left
  · intro w'
    go_simp
    with_reducible rfl
  rotate_left
  · simp only [Act.put, List.setIfInBounds_toArray, List.set_cons_zero, List.set_cons_succ, i64_w, i32_w]
    rfl
  refine pure_ (i := 10) (N := some 6) (v := ?_) (a' := ?_) (dnA 12 2047) rfl rfl (any_of HT_.out (by kernel_rfl)) (fun _ _ _ h => h) (Or.inl ⟨by rfl, ?_⟩) ?_ ?_
  rotate_left
  · intro w'
    go_simp
    with_reducible rfl
  rotate_left
  · simp only [Act.put, List.setIfInBounds_toArray, List.set_cons_zero, List.set_cons_succ, i64_w, i32_w]
    rfl
  refine pure_ (i := 11) (N := some 7) (v := ?_) (a' := ?_) (dnA 12 4095) rfl rfl (any_of HT_.out (by kernel_rfl)) (fun _ _ _ h => h) (Or.inl ⟨by rfl, ?_⟩) ?_ ?_
  rotate_left
  · intro w'
    go_simp
    with_reducible rfl
  rotate_left
  · simp only [Act.put, List.setIfInBounds_toArray, List.set_cons_zero, List.set_cons_succ, i64_w, i32_w]
    rfl
  refine done_ (done_of HT_.out (by kernel_rfl)) ?_
  have hcz26_0 : w25.cell? ⟨gb305, 0, none⟩ = some (.bool a0_0) := (blk_cell BK305.out 0).trans rfl
  have hcz26_1 : w25.cell? ⟨gb305, 1, none⟩ = some (.slice A0_1 l0_1.length c0_1) := (blk_cell BK305.out 1).trans rfl
  have hcz26_2 : w25.cell? ⟨gb305, 2, none⟩ = some (.int .i64 a0_2) := (blk_cell BK305.out 2).trans rfl
  have hfz26_0 := blk_frozen BK305.out 0
  have hfz26_1 := blk_frozen BK305.out 1
  have hfz26_2 := blk_frozen BK305.out 2
  have hcz27_0 : w25.cell? ⟨gb306, 0, none⟩ = some (.bool a1_0) := (blk_cell BK306.out 0).trans rfl
  have hcz27_1 : w25.cell? ⟨gb306, 1, none⟩ = some (.slice A1_1 l1_1.length c1_1) := (blk_cell BK306.out 1).trans rfl
  have hcz27_2 : w25.cell? ⟨gb306, 2, none⟩ = some (.int .i64 a1_2) := (blk_cell BK306.out 2).trans rfl
  have hfz27_0 := blk_frozen BK306.out 0
  have hfz27_1 := blk_frozen BK306.out 1
  have hfz27_2 := blk_frozen BK306.out 2
  obtain ⟨Ao28, co28, eo28⟩ := Kd.R_slice HO316.out
  subst eo28
  obtain ⟨Ao29, co29, eo29⟩ := Kd.R_slice HO318.out
  subst eo29
  try go_wp2_with (first | ((with_reducible refine gate_callee (f := 119) rfl ?_); refine goesL_ (some 43) rfl rfl Tryz.func119 (by kernel_rfl) rfl #[.agg #[.bool a0_0, .slice Ao28 t313.length co28, .int .i64 (wrap64 ((wrap64 (a0_2 - (ji12))) - a1_2))], .bool (decide (0 < t314.length))] rfl (by (try simp only [List.map_toArray, List.map_cons, List.map_nil]); first | done | (simp only [hji12]; rfl) | rfl | (simp only [List.length_drop, List.length_take]; rfl)) ?_; (with_reducible refine (tenorref1_NearMore.calls k a0_0 _ _ t313 (wrap64 ((wrap64 (a0_2 - (ji12))) - a1_2)) (decide (0 < t314.length)) t319 _ ?side1 ?side2 A15.out).mono ?_); (case side1 => exact cA ((Kd.R_reads' HO316.out).2.2)); (case side2 => exact (Kd.R_reads' HO316.out).2.1); rintro e w30 ⟨rfl, hb⟩; refine ⟨_, rfl, ?_⟩; have n0_ := Aside0.mk (Kd.R_below (rA HO312.out) hb); have n1_ := Aside0.mk (Kd.R_below (rA HO316.out) hb); have n2_ := Aside0.mk (Kd.R_below (rA HO318.out) hb); have n3_ := Aside0.mk (blk_below (g := gb305) (o := .cells #[.bool a0_0, .slice A0_1 l0_1.length c0_1, .int .i64 a0_2] 82 (0, 0)) (kA BK305.out) hb); have n4_ := Aside0.mk (blk_below (g := gb306) (o := .cells #[.bool a1_0, .slice A1_1 l1_1.length c1_1, .int .i64 a1_2] 82 (0, 0)) (kA BK306.out) hb); have n5_ := Aside0.mk (below_step (bG HB.out) hb); clear HO312; clear HO316; clear HO318; clear BK305; clear BK306; clear HB; have HO312 := n0_; have HO316 := n1_; have HO318 := n2_; have BK305 := n3_; have BK306 := n4_; have HB := n5_; clear n0_ n1_ n2_ n3_ n4_ n5_; (try clear hb); (try clear hb2); (try clear hk); (try clear hi)))
  go_ret
  exact ⟨by first | rfl | (simp [errW_none, errW_some] <;> rfl) | (simp only [← hji12]; first | rfl | (simp [errW_none, errW_some] <;> rfl)) | (simp [*, errW_none, errW_some] <;> rfl), bG HB.out⟩

/-! ### tenorref1_Whole: function 98 -/
def tenorref1_Whole.f (k : Nat) (a0 : Int) : Option (Bool × List Int × Int) := if a0 < 0 then ((tenorref1_Digits.f k (IntKind.u64.wrap ((IntKind.u64.wrap (wrap64 (-(wrap64 (a0 + 1))))) + 1))).bind fun t321 => (some (true, t321, 0))) else ((tenorref1_Digits.f k (IntKind.u64.wrap (a0))).bind fun t324 => (some (false, t324, 0)))
set_option maxHeartbeats 8000000 in
set_option maxRecDepth 100000 in
theorem tenorref1_Whole.calls (k : Nat) (a0 : Int) (r1 : Bool) (r2 : List Int) (r3 : Int) (w : World) (h : tenorref1_Whole.f k a0 = some (r1, r2, r3)) :
    Calls Tryz.prog 98 #[.int .i64 a0] w fun e w' => ∃ v1_ : Value, e = .returned (.agg #[.bool r1, v1_, .int .i64 r3]) ∧ Kd.R (Kd.int .u64) 36 w' w.heap.size (fun _ => True) v1_ r2 ∧ Below w.heap.size w w' := by
  have hu82 := Tryz.underlying82
  have HB := Aside0.mk (Below.refl w.heap.size w)
  have H : (if a0 < 0 then ((tenorref1_Digits.f k (IntKind.u64.wrap ((IntKind.u64.wrap (wrap64 (-(wrap64 (a0 + 1))))) + 1))).bind fun t321 => (some (true, t321, 0))) else ((tenorref1_Digits.f k (IntKind.u64.wrap (a0))).bind fun t324 => (some (false, t324, 0)))) = some (r1, r2, r3) := h
  clear h
  by_cases c2 : a0 < 0
  rotate_left
  · rw [if_neg c2] at H
    have c2b0 : decide (a0 < 0) = false := decide_eq_false c2
    clear c2
    replace H := Option.bind_eq_some_iff.mp H
    obtain ⟨t324, A80, H⟩ := H
    have A8 := Aside0.mk A80
    clear A80
    simp only [Option.some.injEq, Prod.mk.injEq] at H
    obtain ⟨rfl, rfl, rfl⟩ := H
    go_enter Tryz.func98, Tryz.ntmps98
    go_wp2_with (first | ((with_reducible refine gate_dst (N := 2) rfl ?_); refine box_event ?hg (N := 2) ?hd (cs := #[.bool false, .slice none 0 0, .int .i64 0]) (t := 82) ?hr ?_; (case hd => rfl); (case hg => rfl); (case hr => first | (go_simp; done) | (go_simp; rfl)); intro gb320 hg w9 hbox hb; have n0_ := Aside0.mk (below_step (bA HB.out) hb); have n1_ := Aside0.mk (hbox); have n2_ := Aside0.mk ((by rw [hg]; exact (below_size (bA HB.out)) : w.heap.size ≤ gb320)); have n3_ := Aside0.mk ((by rw [hg]; exact (below_size (bA HB.out)) : w.heap.size ≤ gb320)); clear HB; have HB := n0_; have BK320 := n1_; have GW320 := n2_; have GE320 := n3_; clear n0_ n1_ n2_ n3_; clear hb hbox hg) | ((with_reducible refine gate_callee (f := 118) rfl ?_); refine goesL_ (some 14) rfl rfl Tryz.func118 (by kernel_rfl) rfl #[.int .u64 (IntKind.u64.wrap (a0))] rfl mA ?_; (with_reducible refine (tenorref1_Digits.calls k (IntKind.u64.wrap (a0)) t324 _ A8.out).mono ?_); rintro e w10 ⟨v325, rfl, ho0, hb⟩; refine ⟨_, rfl, ?_⟩; have n0_ := Aside0.mk (Kd.R_lower ho0 (below_size (bG HB.out))); have n1_ := Aside0.mk (blk_below (g := gb320) (o := .cells #[.bool false, .slice none 0 0, .int .i64 0] 82 (0, 0)) (kA BK320.out) hb); have n2_ := Aside0.mk (below_step (bG HB.out) hb); clear BK320; clear HB; have HO326 := n0_; have BK320 := n1_; have HB := n2_; clear n0_ n1_ n2_; (try clear hb); (try clear hb2); (try clear hk); (try clear hi); (try clear ho0); obtain ⟨Ao11, co11, eo11⟩ := Kd.R_slice HO326.out; subst eo11; have hcz12_0 : w10.cell? ⟨gb320, 0, none⟩ = some (.bool false) := (blk_cell BK320.out 0).trans rfl; have hcz12_1 : w10.cell? ⟨gb320, 1, none⟩ = some (.slice none 0 0) := (blk_cell BK320.out 1).trans rfl; have hcz12_2 : w10.cell? ⟨gb320, 2, none⟩ = some (.int .i64 0) := (blk_cell BK320.out 2).trans rfl; have hfz12_0 := blk_frozen BK320.out 0; have hfz12_1 := blk_frozen BK320.out 1; have hfz12_2 := blk_frozen BK320.out 2))
    refine bodyPost_ret (results_cell_row rfl _ _ gb320 82 #[.bool false, .slice Ao11 t324.length co11, .int .i64 0] (0, 0) _ rfl (by (with_reducible repeat (first | refine blk_drewN ?_ _ | refine blk_drew ?_ | refine blk_alloc ?_ _)); refine blk_put (cs := #[.bool false, .slice Ao11 t324.length co11, .int .i64 0]) ?_ 2 _ rfl; (with_reducible repeat (first | refine blk_drewN ?_ _ | refine blk_drew ?_ | refine blk_alloc ?_ _)); refine blk_put (cs := #[.bool false, .slice none 0 0, .int .i64 0]) ?_ 1 _ rfl; (with_reducible repeat (first | refine blk_drewN ?_ _ | refine blk_drew ?_ | refine blk_alloc ?_ _)); refine blk_put (cs := #[.bool false, .slice none 0 0, .int .i64 0]) ?_ 0 _ rfl; (with_reducible repeat (first | refine blk_drewN ?_ _ | refine blk_drew ?_ | refine blk_alloc ?_ _)); exact BK320.out) Tryz.underlying82 rfl (by kernel_rfl)) rfl ?_
    exact ⟨_, by first | rfl | (simp [errW_none, errW_some] <;> rfl) | (simp [*, errW_none, errW_some] <;> rfl), by (with_reducible repeat (first | apply Kd.R_alloc | apply Kd.R_drewN | apply Kd.R_drew)); exact Kd.R_mono (Kd.R_far (p := ⟨gb320, 2, none⟩) (Kd.R_far (p := ⟨gb320, 1, none⟩) (Kd.R_far (p := ⟨gb320, 0, none⟩) (Kd.R_types HO326.out BK320.out (by decide)) (fun _ hk => hk.2) (.bool false)) (fun _ hk => hk.2) (.slice Ao11 t324.length co11)) (fun _ hk => hk.2) (.int .i64 0)) (fun _ hk => trivial), bG HB.out⟩
  rw [if_pos c2] at H
  have c2b0 : decide (a0 < 0) = true := decide_eq_true c2
  clear c2
  replace H := Option.bind_eq_some_iff.mp H
  obtain ⟨t321, A30, H⟩ := H
  have A3 := Aside0.mk A30
  clear A30
  simp only [Option.some.injEq, Prod.mk.injEq] at H
  obtain ⟨rfl, rfl, rfl⟩ := H
  go_enter Tryz.func98, Tryz.ntmps98
  go_wp2_with (first | ((with_reducible refine gate_dst (N := 2) rfl ?_); refine box_event ?hg (N := 2) ?hd (cs := #[.bool false, .slice none 0 0, .int .i64 0]) (t := 82) ?hr ?_; (case hd => rfl); (case hg => rfl); (case hr => first | (go_simp; done) | (go_simp; rfl)); intro gb320 hg w4 hbox hb; have n0_ := Aside0.mk (below_step (bA HB.out) hb); have n1_ := Aside0.mk (hbox); have n2_ := Aside0.mk ((by rw [hg]; exact (below_size (bA HB.out)) : w.heap.size ≤ gb320)); have n3_ := Aside0.mk ((by rw [hg]; exact (below_size (bA HB.out)) : w.heap.size ≤ gb320)); clear HB; have HB := n0_; have BK320 := n1_; have GW320 := n2_; have GE320 := n3_; clear n0_ n1_ n2_ n3_; clear hb hbox hg) | ((with_reducible refine gate_callee (f := 118) rfl ?_); refine goesL_ (some 10) rfl rfl Tryz.func118 (by kernel_rfl) rfl #[.int .u64 (IntKind.u64.wrap ((IntKind.u64.wrap (wrap64 (-(wrap64 (a0 + 1))))) + 1))] rfl mA ?_; (with_reducible refine (tenorref1_Digits.calls k (IntKind.u64.wrap ((IntKind.u64.wrap (wrap64 (-(wrap64 (a0 + 1))))) + 1)) t321 _ A3.out).mono ?_); rintro e w5 ⟨v322, rfl, ho0, hb⟩; refine ⟨_, rfl, ?_⟩; have n0_ := Aside0.mk (Kd.R_lower ho0 (below_size (bG HB.out))); have n1_ := Aside0.mk (blk_below (g := gb320) (o := .cells #[.bool false, .slice none 0 0, .int .i64 0] 82 (0, 0)) (kA BK320.out) hb); have n2_ := Aside0.mk (below_step (bG HB.out) hb); clear BK320; clear HB; have HO323 := n0_; have BK320 := n1_; have HB := n2_; clear n0_ n1_ n2_; (try clear hb); (try clear hb2); (try clear hk); (try clear hi); (try clear ho0); obtain ⟨Ao6, co6, eo6⟩ := Kd.R_slice HO323.out; subst eo6; have hcz7_0 : w5.cell? ⟨gb320, 0, none⟩ = some (.bool false) := (blk_cell BK320.out 0).trans rfl; have hcz7_1 : w5.cell? ⟨gb320, 1, none⟩ = some (.slice none 0 0) := (blk_cell BK320.out 1).trans rfl; have hcz7_2 : w5.cell? ⟨gb320, 2, none⟩ = some (.int .i64 0) := (blk_cell BK320.out 2).trans rfl; have hfz7_0 := blk_frozen BK320.out 0; have hfz7_1 := blk_frozen BK320.out 1; have hfz7_2 := blk_frozen BK320.out 2))
  refine bodyPost_ret (results_cell_row rfl _ _ gb320 82 #[.bool true, .slice Ao6 t321.length co6, .int .i64 0] (0, 0) _ rfl (by (with_reducible repeat (first | refine blk_drewN ?_ _ | refine blk_drew ?_ | refine blk_alloc ?_ _)); refine blk_put (cs := #[.bool true, .slice Ao6 t321.length co6, .int .i64 0]) ?_ 2 _ rfl; (with_reducible repeat (first | refine blk_drewN ?_ _ | refine blk_drew ?_ | refine blk_alloc ?_ _)); refine blk_put (cs := #[.bool true, .slice none 0 0, .int .i64 0]) ?_ 1 _ rfl; (with_reducible repeat (first | refine blk_drewN ?_ _ | refine blk_drew ?_ | refine blk_alloc ?_ _)); refine blk_put (cs := #[.bool false, .slice none 0 0, .int .i64 0]) ?_ 0 _ rfl; (with_reducible repeat (first | refine blk_drewN ?_ _ | refine blk_drew ?_ | refine blk_alloc ?_ _)); exact BK320.out) Tryz.underlying82 rfl (by kernel_rfl)) rfl ?_
  exact ⟨_, by first | rfl | (simp [errW_none, errW_some] <;> rfl) | (simp [*, errW_none, errW_some] <;> rfl), by (with_reducible repeat (first | apply Kd.R_alloc | apply Kd.R_drewN | apply Kd.R_drew)); exact Kd.R_mono (Kd.R_far (p := ⟨gb320, 2, none⟩) (Kd.R_far (p := ⟨gb320, 1, none⟩) (Kd.R_far (p := ⟨gb320, 0, none⟩) (Kd.R_types HO323.out BK320.out (by decide)) (fun _ hk => hk.2) (.bool true)) (fun _ hk => hk.2) (.slice Ao6 t321.length co6)) (fun _ hk => hk.2) (.int .i64 0)) (fun _ hk => trivial), bG HB.out⟩

/-! ### tenorref1_Rank: function 128 -/
/-! ### tenorref1_Lt: function 90 -/
/-! ### tenorref1_Flip: function 48 -/
/-! ### tenorref1_Negative: function 71 -/
end Go.Proofs.YtepcegiciecogaaGreat.FR
