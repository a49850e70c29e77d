/- Written by the session's fprint.py out of the translation. -/
import Derived.Test.YtepcegiciecogaaGreatFKx0
import Derived.Test.YtepcegiciecogaaGreatFKx1
import Derived.Test.YtepcegiciecogaaGreatFKx2
namespace Go.Proofs.YtepcegiciecogaaGreat.FK
open Go.RowKit Go.Proofs.YtepcegiciecogaaGreatW.PrintWords Go.Proofs.YtepcegiciecogaaGreatW.PrintLast Go.Proofs.YtepcegiciecogaaGreatW.PrintMore
attribute [local go_sem] max2_int min2_int max_two min_two max_three min_three max_four min_four   -- for this text's walks alone
open Go.Proofs.YtepcegiciecogaaGreat.FX Go.Proofs.YtepcegiciecogaaGreat.FG Go.Proofs.YtepcegiciecogaaGreat.FR
attribute [local go_sem] run_store_float run_neg_float run_fmul isSome_setCell 
set_option linter.unusedVariables false
set_option linter.unusedSimpArgs false

/-! ### tenorref25_Mean: function 29 -/
def tenorref25_Mean.l0 : Nat → List Int → Int → Int → Bool → List Int → Int → Option (Int × Int)
  | 0, _, _, _, _, _, _ => none
  | k + 1, x0, x6, x162000, x162001, x162002, x162003 => if x6 < (x0.length : Int) then (if 0 ≤ x6 then ((tenorref3_Add.f k x162000 x162001 x162002 x162003 (rd x0 x6)).bind fun bt163 => (tenorref25_Mean.l0 k x0 (wrap64 (x6 + 1)) bt163.1 bt163.2.1 bt163.2.2.1 bt163.2.2.2)) else (none)) else ((tenorref3_Over.f k x162000 x162001 x162002 x162003 (x0.length : Int)).bind fun t169 => (some (t169, 0)))
def tenorref25_Mean.f (k : Nat) (l0 : List Int) : Option (Int × Int) := (tenorref25_numbers.f k l0).bind fun t160 => (if t160 = 0 then (tenorref25_Mean.l0 k l0 0 0 false ([] : List Int) 0) else (some (0, t160)))
set_option maxHeartbeats 8000000 in
set_option maxRecDepth 100000 in
theorem tenorref25_Mean.calls (k : Nat) (A0 : Option Addr) (c0 : Nat) (l0 : List Int) (r1 : Int) (r2 : Int) (w : World) (hr0 : Kd.C (Kd.int .u64) w A0 l0.length l0) (hc0 : l0.length ≤ c0) (h : tenorref25_Mean.f k l0 = some (r1, r2)) :
    Calls Tryz.prog 29 #[.slice A0 l0.length c0] w fun e w' => e = .returned (.tuple #[.int .u64 r1, .int .i64 r2]) ∧ Below w.heap.size w w' := by
  have hu84 := Tryz.underlying84
  have HR0 := Aside0.mk hr0
  have HC0 := Aside0.mk hc0
  clear hr0 hc0
  have HB := Aside0.mk (Below.refl w.heap.size w)
  have H : ((tenorref25_numbers.f k l0).bind fun t160 => (if t160 = 0 then (tenorref25_Mean.l0 k l0 0 0 false ([] : List Int) 0) else (some (0, t160)))) = some (r1, r2) := h
  clear h
  replace H := Option.bind_eq_some_iff.mp H
  obtain ⟨t160, A20, H⟩ := H
  have A2 := Aside0.mk A20
  clear A20
  by_cases c3 : t160 = 0
  rotate_left
  · rw [if_neg c3] at H
    have c3b0 : (t160 == 0) = false := beq_eq_false_iff_ne.mpr c3
    have c3b1 : (t160 != 0) = true := bne_iff_ne.mpr c3
    simp only [Option.some.injEq, Prod.mk.injEq] at H
    obtain ⟨rfl, rfl⟩ := H
    go_enter Tryz.func29, Tryz.ntmps29
    go_wp2_with (first | ((with_reducible refine gate_callee (f := 53) rfl ?_); refine goesL_ (some 8) rfl rfl Tryz.func53 (by kernel_rfl) rfl #[.slice A0 l0.length c0] rfl mA ?_; (with_reducible refine (tenorref25_numbers.calls k _ _ l0 t160 _ ?side1 ?side2 A2.out).mono ?_); (case side1 => exact cA HR0.out); (case side2 => exact HC0.out); rintro e w' ⟨rfl, ⟨nd, rfl⟩⟩; refine ⟨_, rfl, ?_⟩))
    go_ret2
    exact ⟨by first | rfl | (simp [errW_none, errW_some] <;> rfl) | (simp [*, errW_none, errW_some] <;> rfl), bA HB.out⟩
  rw [if_pos c3] at H
  have c3b0 : (t160 == 0) = true := beq_iff_eq.mpr c3
  have c3b1 : (t160 != 0) = false := bne_eq_false_iff_eq.mpr c3
  clear c3
  have H' := Aside0.mk H
  clear H
  go_enter Tryz.func29, Tryz.ntmps29
  go_wp2_with (first | ((with_reducible refine gate_callee (f := 53) rfl ?_); refine goesL_ (some 8) rfl rfl Tryz.func53 (by kernel_rfl) rfl #[.slice A0 l0.length c0] rfl mA ?_; (with_reducible refine (tenorref25_numbers.calls k _ _ l0 t160 _ ?side1 ?side2 A2.out).mono ?_); (case side1 => exact cA HR0.out); (case side2 => exact HC0.out); rintro e w' ⟨rfl, ⟨nd, rfl⟩⟩; refine ⟨_, rfl, ?_⟩) | ((with_reducible refine gate_dst (N := 5) rfl ?_); refine box_event ?hg (N := 5) ?hd (cs := #[.int .i64 0, .bool false, .slice none 0 0, .int .i64 0]) (t := 84) ?hr ?_; (case hd => rfl); (case hg => rfl); (case hr => first | (go_simp; done) | (go_simp; rfl)); intro gb161 hg w4 hbox hb; have n0_ := Aside0.mk (below_step (bA HB.out) hb); have n1_ := Aside0.mk (hbox); have n2_ := Aside0.mk ((by rw [hg]; exact (below_size (bA HB.out)) : w.heap.size ≤ gb161)); have n3_ := Aside0.mk ((by rw [hg]; exact (below_size (bA HB.out)) : w.heap.size ≤ gb161)); clear HB; have HB := n0_; have BK161 := n1_; have GW161 := n2_; have GE161 := n3_; clear n0_ n1_ n2_ n3_; clear hb hbox hg))
  go_loopg [6] k (fun kq v6 w' => ∃ (x6_1 : Int) (x162000_1 : Int) (x162001_1 : Bool) (x162002_1 : List Int) (x162003_1 : Int) (u162002 : Value), v6 = .int .i64 x6_1 ∧ Aside0 (tenorref25_Mean.l0 kq l0 x6_1 x162000_1 x162001_1 x162002_1 x162003_1 = some (r1, r2)) ∧ Aside0 (kq ≤ k) ∧ Aside0 (Kd.R (Kd.int .u64) 36 w' w.heap.size (fun _ => True) u162002 x162002_1) ∧ Aside0 (w'.heap[gb161]? = some (.cells #[.int .i64 x162000_1, .bool x162001_1, u162002, .int .i64 x162003_1] 84 (0, 0))) ∧ Aside0 (Below w.heap.size w w'))
  case atStart => exact ⟨(0), (0), (false), (([] : List Int)), (0), (.slice none 0 0), (by first | rfl | (simp; done) | (simp [*]; done)), H', ⟨Nat.le_refl _⟩, ⟨by first | exact Kd.R_nil _ _ _ _ _ | exact Kd.N_nil _ _ _ _ _ | exact Kd.V_nil _ _ _ _ _ | exact Kd.Q_nil _ _ _ _ _ | exact Kd.S_nil _ _ _ _ _⟩, ⟨kA BK161.out⟩, ⟨bG HB.out⟩⟩
  case round =>
    clear H'
    try clear c2
    try clear p2
    try clear c3
    try clear c3b0
    try clear c3b1
    obtain ⟨x6_1, x162000_1, x162001_1, x162002_1, x162003_1, u162002, rfl, HA, HK1, HO_162002, BK161, HB⟩ := hrel
    cases gk with
    | zero => exact absurd HA.out (by simp [tenorref25_Mean.l0])
    | succ k1 =>
      have H := HA.out
      clear HA
      simp only [tenorref25_Mean.l0] at H
      by_cases c5 : x6_1 < (l0.length : Int)
      rotate_left
      · rw [if_neg c5] at H
        have c5b0 : decide (x6_1 < (l0.length : Int)) = false := decide_eq_false c5
        clear c5
        replace H := Option.bind_eq_some_iff.mp H
        obtain ⟨t169, A160, H⟩ := H
        have A16 := Aside0.mk A160
        clear A160
        simp only [Option.some.injEq, Prod.mk.injEq] at H
        obtain ⟨rfl, rfl⟩ := H
        have hcz17_0 : wr.cell? ⟨gb161, 0, none⟩ = some (.int .i64 x162000_1) := (blk_cell BK161.out 0).trans rfl
        have hcz17_1 : wr.cell? ⟨gb161, 1, none⟩ = some (.bool x162001_1) := (blk_cell BK161.out 1).trans rfl
        have hcz17_2 : wr.cell? ⟨gb161, 2, none⟩ = some (u162002) := (blk_cell BK161.out 2).trans rfl
        have hcz17_3 : wr.cell? ⟨gb161, 3, none⟩ = some (.int .i64 x162003_1) := (blk_cell BK161.out 3).trans rfl
        have hfz17_0 := blk_frozen BK161.out 0
        have hfz17_1 := blk_frozen BK161.out 1
        have hfz17_2 := blk_frozen BK161.out 2
        have hfz17_3 := blk_frozen BK161.out 3
        obtain ⟨Ao18, co18, eo18⟩ := Kd.R_slice HO_162002.out
        subst eo18
        go_wp2_with (first | ((with_reducible refine gate_callee (f := 58) rfl ?_); refine goesL_ (some 27) rfl rfl Tryz.func58 (by kernel_rfl) rfl #[.agg #[.int .i64 x162000_1, .bool x162001_1, .slice Ao18 x162002_1.length co18, .int .i64 x162003_1], .int .i64 (l0.length : Int)] rfl mA ?_; (with_reducible refine (tenorref3_Over.calls k1 x162000_1 x162001_1 _ _ x162002_1 x162003_1 (l0.length : Int) t169 _ ?side1 ?side2 A16.out).mono ?_); (case side1 => exact cA ((Kd.R_reads' HO_162002.out).2.2)); (case side2 => exact (Kd.R_reads' HO_162002.out).2.1); rintro e w19 ⟨rfl, hb⟩; refine ⟨_, rfl, ?_⟩; have n0_ := Aside0.mk (Kd.R_below (rA HO_162002.out) hb); have n1_ := Aside0.mk (blk_below (g := gb161) (o := .cells #[.int .i64 x162000_1, .bool x162001_1, .slice Ao18 x162002_1.length co18, .int .i64 x162003_1] 84 (0, 0)) (kA BK161.out) hb); have n2_ := Aside0.mk (below_step (bG HB.out) hb); clear HO_162002; clear BK161; clear HB; have HO_162002 := n0_; have BK161 := n1_; have HB := n2_; clear n0_ n1_ n2_; (try clear hb); (try clear hb2); (try clear hk); (try clear hi)))
        go_ret2
        exact ⟨by first | rfl | (simp [errW_none, errW_some] <;> rfl) | (simp [*, errW_none, errW_some] <;> rfl), bG HB.out⟩
      rw [if_pos c5] at H
      have c5b0 : decide (x6_1 < (l0.length : Int)) = true := decide_eq_true c5
      clear c5
      by_cases c6 : 0 ≤ x6_1
      rotate_left
      · rw [if_neg c6] at H
        exact absurd H (by simp)
      rw [if_pos c6] at H
      have c6b0 : decide (0 ≤ x6_1) = true := decide_eq_true c6
      clear c6
      replace H := Option.bind_eq_some_iff.mp H
      obtain ⟨⟨t163, t164, t165, t168⟩, A70, H⟩ := H
      have A7 := Aside0.mk A70
      clear A70
      have H' := Aside0.mk H
      clear H
      try go_wp2
      have n0_ := Aside0.mk (Kd.R_drew HO_162002.out)
      have n1_ := Aside0.mk (blk_drew BK161.out)
      have n2_ := Aside0.mk (below_drew1 HB.out)
      clear HO_162002
      clear BK161
      clear HB
      have HO_162002 := n0_
      have BK161 := n1_
      have HB := n2_
      clear n0_ n1_ n2_
      have p162 : 0 ≤ (x6_1 : Int) := of_decide_eq_true asA
      have q162 : x6_1 < (l0.length : Int) := of_decide_eq_true asA
      obtain ⟨ad162, e162, hx162_0⟩ := Kd.at_int HR0.out x6_1 p162 q162
      have hw162_0 := hx162_0
      cases e162
      replace hx162_0 := (HB.out.cell (World.block_lt_of_cell? w _ hx162_0)).trans hx162_0
      replace p162 := eq_true p162
      replace q162 := eq_true q162
      obtain ⟨Ao9, co9, eo9⟩ := Kd.R_slice HO_162002.out
      (first | subst eo9 | (injection eo9 with f1_ f2_ f3_; have f4_ := f1_.symm; have f5_ := f3_.symm; clear f1_ f2_ f3_; subst f4_; subst f5_))
      refine start_ (n := 7) (S := fun w' => w'.cell? ⟨gb161, 0, none⟩ = some (.int .i64 x162000_1) ∧ w'.cell? ⟨gb161, 1, none⟩ = some (.bool x162001_1) ∧ w'.cell? ⟨gb161, 2, none⟩ = some (.slice Ao9 x162002_1.length co9) ∧ w'.cell? ⟨gb161, 3, none⟩ = some (.int .i64 x162003_1) ∧ w'.cell? (ad162.add (x6_1).toNat) = some (.int .u64 (rd l0 x6_1))) (ds := [6]) #[false, false, false, false, false, false, false] (by kernel_rfl) rfl rfl ⟨(blk_cell BK161.out 0).trans rfl, (blk_cell BK161.out 1).trans rfl, (blk_cell BK161.out 2).trans rfl, (blk_cell BK161.out 3).trans rfl, ((HB.out.cell (World.block_lt_of_cell? w _ hw162_0)).trans hw162_0)⟩ (fun hHeld => ?_)
      generalize wr.drew = w8 at HO_162002 BK161 HB hx162_0 hHeld ⊢
      refine pure_ (i := 1) (N := some 19) (v := ?_) (a' := ?_) #[false, true, false, false, false, false, false] rfl rfl (by kernel_rfl) (fun _ _ _ h => h) (Or.inl ⟨by rfl, ?_⟩) ?_ ?_
      rotate_left
      · intro w'
        go_simp
        with_reducible rfl
      rotate_left
      · simp only [Act.put, List.setIfInBounds_toArray, List.set_cons_zero, List.set_cons_succ, i64_w, i32_w]
        rfl
      refine pure_ (i := 2) (N := some 20) (v := ?_) (a' := ?_) #[false, true, true, false, false, false, false] rfl rfl (by kernel_rfl) (fun _ _ _ h => h) (Or.inl ⟨by rfl, ?_⟩) ?_ ?_
      rotate_left
      · intro w'
        go_simp
        with_reducible rfl
      rotate_left
      · simp only [Act.put, List.setIfInBounds_toArray, List.set_cons_zero, List.set_cons_succ, i64_w, i32_w]
        rfl
      refine pure_ (i := 3) (N := some 21) (v := ?_) (a' := ?_) #[false, true, true, true, false, false, false] rfl rfl (by kernel_rfl) (fun _ _ _ h => h) (Or.inl ⟨by rfl, ?_⟩) ?_ ?_
      rotate_left
      · intro w'
        go_simp
        with_reducible rfl
      rotate_left
      · simp only [Act.put, List.setIfInBounds_toArray, List.set_cons_zero, List.set_cons_succ, i64_w, i32_w]
        rfl
      refine take_ (i := 0) (N := some 18) (v := ?_) (a' := ?_) #[true, true, true, true, false, false, false] rfl rfl (by kernel_rfl) (fun _ _ _ h => h) (Or.inl ⟨by rfl, ?_⟩) hHeld ?_ ?_
      rotate_left
      · rintro w' ⟨s0, s1, s2, s3, s4⟩
        go_simp
        with_reducible rfl
      rotate_left
      · simp only [Act.put, List.setIfInBounds_toArray, List.set_cons_zero, List.set_cons_succ, i64_w, i32_w]
        rfl
      refine take_ (i := 4) (N := some 22) (v := ?_) (a' := ?_) #[true, true, true, true, true, false, false] rfl rfl (by kernel_rfl) (fun _ _ _ h => h) (Or.inl ⟨by rfl, ?_⟩) hHeld ?_ ?_
      rotate_left
      · rintro w' ⟨s0, s1, s2, s3, s4⟩
        go_simp
        with_reducible rfl
      rotate_left
      · simp only [Act.put, List.setIfInBounds_toArray, List.set_cons_zero, List.set_cons_succ, i64_w, i32_w]
        rfl
      refine one_ (i := 5) (N := some 23) #[true, true, true, true, true, true, false] rfl rfl (by kernel_rfl) (by decide) (fun K hK => ?_)
      refine goes_ Tryz.func40 (by kernel_rfl) rfl #[.agg #[.int .i64 x162000_1, .bool x162001_1, .slice Ao9 x162002_1.length co9, .int .i64 x162003_1], .int .u64 (rd l0 x6_1)] (by rfl) rfl rfl mA ?_
      with_reducible refine (tenorref3_Add.calls k1 x162000_1 x162001_1 _ _ x162002_1 x162003_1 (rd l0 x6_1) t163 t164 t165 t168 _ ?side1 ?side2 A7.out).mono ?_
      (case side1 => exact cA ((Kd.R_reads' HO_162002.out).2.2))
      (case side2 => exact (Kd.R_reads' HO_162002.out).2.1)
      rintro e w10 ⟨v166, rfl, ho0, hb⟩
      refine ⟨_, rfl, ?_⟩
      have n0_ := Aside0.mk (Kd.R_elder' (rA HO_162002.out) (Kd.R_base ho0) hb)
      have n1_ := Aside0.mk (Kd.R_lower (Kd.R_new' ho0 (Kd.R_lt (rA HO_162002.out))) (below_size (bG HB.out)))
      have n2_ := Aside0.mk (blk_below (g := gb161) (o := .cells #[.int .i64 x162000_1, .bool x162001_1, .slice Ao9 x162002_1.length co9, .int .i64 x162003_1] 84 (0, 0)) (kA BK161.out) hb)
      have n3_ := Aside0.mk (below_step (bG HB.out) hb)
      clear HO_162002
      clear BK161
      clear HB
      have HO_162002 := n0_
      have HO167 := n1_
      have BK161 := n2_
      have HB := n3_
      clear n0_ n1_ n2_ n3_
      (try clear hb)
      (try clear hb2)
      (try clear hk)
      (try clear hi)
      (try clear ho0)
      obtain ⟨Ao13, co13, eo13⟩ := Kd.R_slice HO167.out
      (first | subst eo13 | (injection eo13 with f1_ f2_ f3_; have f4_ := f1_.symm; have f5_ := f3_.symm; clear f1_ f2_ f3_; subst f4_; subst f5_))
      refine hK.out _ _ ⟨(blk_cell BK161.out 0).trans rfl, (blk_cell BK161.out 1).trans rfl, (blk_cell BK161.out 2).trans rfl, (blk_cell BK161.out 3).trans rfl, ((HB.out.cell (World.block_lt_of_cell? w _ hw162_0)).trans hw162_0)⟩ (fun hHeld => ?_)
      clear hK K
      refine norm_ (a' := ?_) ?_ ?_
      rotate_left
      · show Act.put _ (some 23) _ = _
        simp only [Act.put, List.setIfInBounds_toArray, List.set_cons_zero, List.set_cons_succ, i64_w, i32_w]
        rfl
      refine last_ (i := 6) (N := none) #[true, true, true, true, true, true, true] rfl rfl (by kernel_rfl) (by decide) (fun K hK => ?_)
      have hs11 : w10.cell? ⟨gb161, 0, none⟩ = some (.int .i64 x162000_1) := (blk_cell BK161.out 0).trans rfl
      have hfs11 := blk_frozen BK161.out 0
      have hs12 : w10.cell? ⟨gb161, 1, none⟩ = some (.bool x162001_1) := (blk_cell BK161.out 1).trans rfl
      have hfs12 := blk_frozen BK161.out 1
      have hs14 : w10.cell? ⟨gb161, 2, none⟩ = some (.slice Ao9 x162002_1.length co9) := (blk_cell BK161.out 2).trans rfl
      have hfs14 := blk_frozen BK161.out 2
      have hs15 : w10.cell? ⟨gb161, 3, none⟩ = some (.int .i64 x162003_1) := (blk_cell BK161.out 3).trans rfl
      have hfs15 := blk_frozen BK161.out 3
      refine skip_ (w1 := ?_) (by rfl) rfl ?_ ?_
      rotate_left
      · go_simp
        rfl
      refine hK.out _ _ ?_
      clear hK K
      refine done_ (by kernel_rfl) ?_
      try go_wp2
      go_roundg k1
      case measure => have := HK1.out; omega
      case rel => exact ⟨(wrap64 (x6_1 + 1)), (t163), (t164), (t165), (t168), (.slice Ao13 t165.length co13), (by first | rfl | (simp; done) | (simp [*]; done)), H', ⟨by have := HK1.out; omega⟩, ⟨rA (Kd.R_mono (Kd.R_far (p := ⟨gb161, 3, none⟩) (Kd.R_far (p := ⟨gb161, 2, none⟩) (Kd.R_far (p := ⟨gb161, 1, none⟩) (Kd.R_far (p := ⟨gb161, 0, none⟩) (Kd.R_types HO167.out BK161.out (by decide)) (fun _ hk => hk.2) (.int .i64 t163)) (fun _ hk => hk.2) (.bool t164)) (fun _ hk => hk.2) (.slice Ao13 t165.length co13)) (fun _ hk => hk.2) (.int .i64 t168)) (fun _ hk => trivial))⟩, ⟨by (with_reducible repeat (first | refine blk_drewN ?_ _ | refine blk_drew ?_ | refine blk_alloc ?_ _)); refine blk_put (cs := #[.int .i64 t163, .bool t164, .slice Ao13 t165.length co13, .int .i64 x162003_1]) ?_ 3 _ rfl; (with_reducible repeat (first | refine blk_drewN ?_ _ | refine blk_drew ?_ | refine blk_alloc ?_ _)); refine blk_put (cs := #[.int .i64 t163, .bool t164, .slice Ao9 x162002_1.length co9, .int .i64 x162003_1]) ?_ 2 _ rfl; (with_reducible repeat (first | refine blk_drewN ?_ _ | refine blk_drew ?_ | refine blk_alloc ?_ _)); refine blk_put (cs := #[.int .i64 t163, .bool x162001_1, .slice Ao9 x162002_1.length co9, .int .i64 x162003_1]) ?_ 1 _ rfl; (with_reducible repeat (first | refine blk_drewN ?_ _ | refine blk_drew ?_ | refine blk_alloc ?_ _)); refine blk_put (cs := #[.int .i64 x162000_1, .bool x162001_1, .slice Ao9 x162002_1.length co9, .int .i64 x162003_1]) ?_ 0 _ rfl; (with_reducible repeat (first | refine blk_drewN ?_ _ | refine blk_drew ?_ | refine blk_alloc ?_ _)); exact BK161.out⟩, ⟨bG HB.out⟩⟩

/-! ### tenorref1_Same: function 43 -/
def tenorref1_Same.f (a0 : Int) (a1 : Int) : Option (Bool) := if a0 = a1 then (some true) else ((tenorref1_IsNaN.f a0).bind fun t170 => (if t170 = true then ((tenorref1_IsNaN.f a1).bind fun t171 => (some t171)) else (some false)))
set_option maxHeartbeats 8000000 in
set_option maxRecDepth 100000 in
theorem tenorref1_Same.calls (a0 : Int) (a1 : Int) (r : Bool) (w : World) (h : tenorref1_Same.f a0 a1 = some r) :
    Calls Tryz.prog 43 #[.int .u64 a0, .int .u64 a1] w fun e w' => e = .returned (.bool r) ∧ Drawn0 w w' := by
  have H : (if a0 = a1 then (some true) else ((tenorref1_IsNaN.f a0).bind fun t170 => (if t170 = true then ((tenorref1_IsNaN.f a1).bind fun t171 => (some t171)) else (some false)))) = some r := h
  clear h
  by_cases c3 : a0 = a1
  · rw [if_pos c3] at H
    have c3b0 : (a0 == a1) = true := beq_iff_eq.mpr c3
    have c3b1 : (a0 != a1) = false := bne_eq_false_iff_eq.mpr c3
    clear c3
    obtain rfl := Option.some.inj H
    go_enter Tryz.func43, Tryz.ntmps43
    go_wp2
    go_ret
    exact ⟨sA, dA⟩
  · rw [if_neg c3] at H
    have c3b0 : (a0 == a1) = false := beq_eq_false_iff_ne.mpr c3
    have c3b1 : (a0 != a1) = true := bne_iff_ne.mpr c3
    replace H := Option.bind_eq_some_iff.mp H
    obtain ⟨t170, A40, H⟩ := H
    have A4 := Aside0.mk A40
    clear A40
    by_cases c5 : t170 = true
    rotate_left
    · replace c5 := Bool.eq_false_iff.mpr c5
      subst c5
      have H1 : (some false) = some r := by rw [if_neg (show ¬ (false = true) by decide)] at H; exact H
      clear H
      have H := H1
      clear H1
      obtain rfl := Option.some.inj H
      go_enter Tryz.func43, Tryz.ntmps43
      go_wp2_with (first | (go_at_call 68; (with_reducible refine (tenorref1_IsNaN.calls a0 false _ A4.out).mono ?_); rintro e w' ⟨rfl, ⟨nd, rfl⟩⟩))
      go_ret
      exact ⟨sA, dA⟩
    subst c5
    have H1 : ((tenorref1_IsNaN.f a1).bind fun t171 => (some t171)) = some r := by rw [if_pos rfl] at H; exact H
    clear H
    have H := H1
    clear H1
    replace H := Option.bind_eq_some_iff.mp H
    obtain ⟨t171, A60, H⟩ := H
    have A6 := Aside0.mk A60
    clear A60
    obtain rfl := Option.some.inj H
    go_enter Tryz.func43, Tryz.ntmps43
    go_wp2_with (first | (go_at_call 68; (with_reducible refine (tenorref1_IsNaN.calls a0 true _ A4.out).mono ?_); rintro e w' ⟨rfl, ⟨nd, rfl⟩⟩) | (go_at_call 68; (with_reducible refine (tenorref1_IsNaN.calls a1 t171 _ A6.out).mono ?_); rintro e w' ⟨rfl, ⟨nd, rfl⟩⟩))
    go_ret
    exact ⟨sA, dA⟩

/-! ### tenorlaw1_Is: function 30 -/
def tenorlaw1_Is.f (a0 : Nat) (a1 : Int) : Option (Bool) := (api_Bits.f a0).bind fun t172 => ((tenorref1_Same.f t172 a1).bind fun t173 => (some t173))
set_option maxHeartbeats 8000000 in
set_option maxRecDepth 100000 in
theorem tenorlaw1_Is.calls (a0 : Nat) (a1 : Int) (r : Bool) (w : World) (h : tenorlaw1_Is.f a0 a1 = some r) :
    Calls Tryz.prog 30 #[.float .f64 a0, .int .u64 a1] w fun e w' => e = .returned (.bool r) ∧ Drawn0 w w' := by
  have H : ((api_Bits.f a0).bind fun t172 => ((tenorref1_Same.f t172 a1).bind fun t173 => (some t173))) = some r := h
  clear h
  replace H := Option.bind_eq_some_iff.mp H
  obtain ⟨t172, A30, H⟩ := H
  have A3 := Aside0.mk A30
  clear A30
  replace H := Option.bind_eq_some_iff.mp H
  obtain ⟨t173, A40, H⟩ := H
  have A4 := Aside0.mk A40
  clear A40
  obtain rfl := Option.some.inj H
  go_enter Tryz.func30, Tryz.ntmps30
  go_wp2_with (first | ((with_reducible refine gate_callee (f := 15) rfl ?_); refine goesL_ (some 6) rfl rfl Tryz.func15 (by kernel_rfl) rfl #[.float .f64 a0] rfl mA ?_; (with_reducible refine (api_Bits.calls a0 t172 _ A3.out).mono ?_); rintro e w' ⟨rfl, ⟨nd, rfl⟩⟩; refine ⟨_, rfl, ?_⟩) | ((with_reducible refine gate_callee (f := 43) rfl ?_); refine goesL_ (some 8) rfl rfl Tryz.func43 (by kernel_rfl) rfl #[.int .u64 t172, .int .u64 a1] rfl mA ?_; (with_reducible refine (tenorref1_Same.calls t172 a1 t173 _ A4.out).mono ?_); rintro e w' ⟨rfl, ⟨nd, rfl⟩⟩; refine ⟨_, rfl, ?_⟩))
  go_ret
  exact ⟨sA, dA⟩

/-! ### tenorlaw1_Are: function 31 -/
def tenorlaw1_Are.l0 : Nat → List Nat → List Int → Int → Option (Bool)
  | 0, _, _, _ => none
  | k + 1, x0, x1, x5 => if x5 < (x0.length : Int) then (if 0 ≤ x5 then (if x5 < (x1.length : Int) then ((tenorlaw1_Is.f (rdOf (0 : Nat) x0 x5) (rd x1 x5)).bind fun t176 => (if t176 = true then (tenorlaw1_Are.l0 k x0 x1 (wrap64 (x5 + 1))) else (some false))) else (none)) else (none)) else (some true)
def tenorlaw1_Are.f (k : Nat) (l0 : List Nat) (l1 : List Int) : Option (Bool) := if (l0.length : Int) = (l1.length : Int) then (tenorlaw1_Are.l0 k l0 l1 0) else (some false)
set_option maxHeartbeats 8000000 in
set_option maxRecDepth 100000 in
theorem tenorlaw1_Are.calls (k : Nat) (A0 : Option Addr) (c0 : Nat) (l0 : List Nat) (A1 : Option Addr) (c1 : Nat) (l1 : List Int) (r : Bool) (w : World) (hr0 : Kd.C Kd.flt w A0 l0.length l0) (hc0 : l0.length ≤ c0) (hr1 : Kd.C (Kd.int .u64) w A1 l1.length l1) (hc1 : l1.length ≤ c1) (h : tenorlaw1_Are.f k l0 l1 = some r) :
    Calls Tryz.prog 31 #[.slice A0 l0.length c0, .slice A1 l1.length c1] w fun e w' => e = .returned (.bool r) ∧ Drawn0 w w' := by
  have HR0 := Aside0.mk hr0
  have HC0 := Aside0.mk hc0
  clear hr0 hc0
  have HR1 := Aside0.mk hr1
  have HC1 := Aside0.mk hc1
  clear hr1 hc1
  have H : (if (l0.length : Int) = (l1.length : Int) then (tenorlaw1_Are.l0 k l0 l1 0) else (some false)) = some r := h
  clear h
  by_cases c3 : (l0.length : Int) = (l1.length : Int)
  rotate_left
  · rw [if_neg c3] at H
    have c3b0 : ((l0.length : Int) == (l1.length : Int)) = false := beq_eq_false_iff_ne.mpr c3
    have c3b1 : ((l0.length : Int) != (l1.length : Int)) = true := bne_iff_ne.mpr c3
    have c3b2 : (l0.length == l1.length) = false := by first | simpa using c3 | (simp at c3 ⊢; omega)
    obtain rfl := Option.some.inj H
    go_enter Tryz.func31, Tryz.ntmps31
    go_wp2
    repeat (go_quiet (fail); try go_wp2)
    go_ret
    exact ⟨sA, dA⟩
  rw [if_pos c3] at H
  have c3b0 : ((l0.length : Int) == (l1.length : Int)) = true := beq_iff_eq.mpr c3
  have c3b1 : ((l0.length : Int) != (l1.length : Int)) = false := bne_eq_false_iff_eq.mpr c3
  have c3b2 : (l0.length == l1.length) = true := by first | simpa using c3 | (simp at c3 ⊢; omega)
  clear c3
  have H' := Aside0.mk H
  clear H
  go_enter Tryz.func31, Tryz.ntmps31
  go_wp2
  repeat (go_quiet (fail); try go_wp2)
  go_loopg [5] k (fun kq v5 w' => ∃ (x5_1 : Int), v5 = .int .i64 x5_1 ∧ Aside0 (tenorlaw1_Are.l0 kq l0 l1 x5_1 = some r) ∧ Aside0 (kq ≤ k) ∧ Drawn0 w w')
  case atStart => exact ⟨(0), (by first | rfl | (simp; done) | (simp [*]; done)), H', ⟨Nat.le_refl _⟩, by repeat (first | exact Drawn0.refl _ | apply Drawn0.step)⟩
  case round =>
    clear H'
    try clear c1
    try clear p2
    try clear c3
    try clear c3b0
    try clear c3b1
    try clear c3b2
    obtain ⟨x5_1, rfl, HA, HK1, ⟨m1, rfl⟩⟩ := hrel
    cases gk with
    | zero => exact absurd HA.out (by simp [tenorlaw1_Are.l0])
    | succ k1 =>
      have H := HA.out
      clear HA
      simp only [tenorlaw1_Are.l0] at H
      by_cases c4 : x5_1 < (l0.length : Int)
      rotate_left
      · rw [if_neg c4] at H
        have c4b0 : decide (x5_1 < (l0.length : Int)) = false := decide_eq_false c4
        clear c4
        obtain rfl := Option.some.inj H
        go_wp2
        repeat (go_quiet (fail); try go_wp2)
        go_ret
        exact ⟨sA, dA⟩
      rw [if_pos c4] at H
      have c4b0 : decide (x5_1 < (l0.length : Int)) = true := decide_eq_true c4
      clear c4
      by_cases c5 : 0 ≤ x5_1
      rotate_left
      · rw [if_neg c5] at H
        exact absurd H (by simp)
      rw [if_pos c5] at H
      have c5b0 : decide (0 ≤ x5_1) = true := decide_eq_true c5
      clear c5
      by_cases c6 : x5_1 < (l1.length : Int)
      rotate_left
      · rw [if_neg c6] at H
        exact absurd H (by simp)
      rw [if_pos c6] at H
      have c6b0 : decide (x5_1 < (l1.length : Int)) = true := decide_eq_true c6
      clear c6
      replace H := Option.bind_eq_some_iff.mp H
      obtain ⟨t176, A70, H⟩ := H
      have A7 := Aside0.mk A70
      clear A70
      by_cases c8 : t176 = true
      rotate_left
      · replace c8 := Bool.eq_false_iff.mpr c8
        subst c8
        have H1 : (some false) = some r := by rw [if_neg (show ¬ (false = true) by decide)] at H; exact H
        clear H
        have H := H1
        clear H1
        obtain rfl := Option.some.inj H
        have p174 : 0 ≤ (x5_1 : Int) := of_decide_eq_true asA
        have q174 : x5_1 < (l0.length : Int) := of_decide_eq_true asA
        obtain ⟨ad174, e174, hx174_0⟩ := Kd.at_flt HR0.out x5_1 p174 q174
        cases e174
        replace p174 := eq_true p174
        replace q174 := eq_true q174
        have p175 : 0 ≤ (x5_1 : Int) := of_decide_eq_true asA
        have q175 : x5_1 < (l1.length : Int) := of_decide_eq_true asA
        obtain ⟨ad175, e175, hx175_0⟩ := Kd.at_int HR1.out x5_1 p175 q175
        cases e175
        replace p175 := eq_true p175
        replace q175 := eq_true q175
        go_wp2_with (first | (go_at_call 30; (with_reducible refine (tenorlaw1_Is.calls (rdOf (0 : Nat) l0 x5_1) (rd l1 x5_1) false _ A7.out).mono ?_); rintro e w' ⟨rfl, ⟨nd, rfl⟩⟩; (try exact ddA)))
        repeat (go_quiet (first | (go_at_call 30; (with_reducible refine (tenorlaw1_Is.calls (rdOf (0 : Nat) l0 x5_1) (rd l1 x5_1) false _ A7.out).mono ?_); rintro e w' ⟨rfl, ⟨nd, rfl⟩⟩; (try exact ddA))); try go_wp2_with (first | (go_at_call 30; (with_reducible refine (tenorlaw1_Is.calls (rdOf (0 : Nat) l0 x5_1) (rd l1 x5_1) false _ A7.out).mono ?_); rintro e w' ⟨rfl, ⟨nd, rfl⟩⟩; (try exact ddA))))
        go_ret
        exact ⟨sA, dA⟩
      subst c8
      have H1 : (tenorlaw1_Are.l0 k1 l0 l1 (wrap64 (x5_1 + 1))) = some r := by rw [if_pos rfl] at H; exact H
      clear H
      have H := H1
      clear H1
      have H' := Aside0.mk H
      clear H
      have p174 : 0 ≤ (x5_1 : Int) := of_decide_eq_true asA
      have q174 : x5_1 < (l0.length : Int) := of_decide_eq_true asA
      obtain ⟨ad174, e174, hx174_0⟩ := Kd.at_flt HR0.out x5_1 p174 q174
      cases e174
      replace p174 := eq_true p174
      replace q174 := eq_true q174
      have p175 : 0 ≤ (x5_1 : Int) := of_decide_eq_true asA
      have q175 : x5_1 < (l1.length : Int) := of_decide_eq_true asA
      obtain ⟨ad175, e175, hx175_0⟩ := Kd.at_int HR1.out x5_1 p175 q175
      cases e175
      replace p175 := eq_true p175
      replace q175 := eq_true q175
      go_wp2_with (first | (go_at_call 30; (with_reducible refine (tenorlaw1_Is.calls (rdOf (0 : Nat) l0 x5_1) (rd l1 x5_1) true _ A7.out).mono ?_); rintro e w' ⟨rfl, ⟨nd, rfl⟩⟩; (try exact ddA)))
      repeat (go_quiet (first | (go_at_call 30; (with_reducible refine (tenorlaw1_Is.calls (rdOf (0 : Nat) l0 x5_1) (rd l1 x5_1) true _ A7.out).mono ?_); rintro e w' ⟨rfl, ⟨nd, rfl⟩⟩; (try exact ddA))); try go_wp2_with (first | (go_at_call 30; (with_reducible refine (tenorlaw1_Is.calls (rdOf (0 : Nat) l0 x5_1) (rd l1 x5_1) true _ A7.out).mono ?_); rintro e w' ⟨rfl, ⟨nd, rfl⟩⟩; (try exact ddA))))
      go_roundg k1
      case measure => have := HK1.out; omega
      case rel => exact ⟨(wrap64 (x5_1 + 1)), (by first | rfl | (simp; done) | (simp [*]; done)), H', ⟨by have := HK1.out; omega⟩, by repeat (first | exact Drawn0.refl _ | apply Drawn0.step)⟩

/-! ### tenorlaw25_GridNumbers: function 6 -/
def tenorlaw25_GridNumbers.f (k : Nat) (l0 : List Nat) (a1 : Int) (a2 : Int) : Option (Bool) := if (l0.length : Int) > 100 then ((law25_awake.f).bind fun t177 => (some t177)) else ((tenorlaw1_Bits.f k l0).bind fun t178 => ((grid_Quantile.f k l0 a1 a2).bind fun bt181 => ((tenorref25_Quantile.f k t178 a1 a2).bind fun bt183 => ((grid_Worst.f k l0).bind fun bt185 => ((tenorref25_Worst.f k t178).bind fun bt187 => ((grid_Mean.f k l0).bind fun bt189 => ((tenorref25_Mean.f k t178).bind fun bt191 => ((tenorlaw1_Is.f bt181.1 bt183.1).bind fun t193 => (if t193 = true then (if bt181.2 = bt183.2 then (if bt185.1 = bt187.1 then (if bt185.2 = bt187.2 then ((tenorlaw1_Is.f bt189.1 bt191.1).bind fun t194 => (if t194 = true then (if bt189.2 = bt191.2 then ((tenorlaw1_Are.f k l0 t178).bind fun t195 => (if t195 = true then ((law25_awake.f).bind fun t196 => (some t196)) else (none))) else (none)) else (none))) else (none)) else (none)) else (none)) else (none))))))))))
set_option maxHeartbeats 8000000 in
set_option maxRecDepth 100000 in
theorem tenorlaw25_GridNumbers.calls (k : Nat) (A0 : Option Addr) (c0 : Nat) (l0 : List Nat) (a1 : Int) (a2 : Int) (r : Bool) (w : World) (hr0 : Kd.C Kd.flt w A0 l0.length l0) (hc0 : l0.length ≤ c0) (h : tenorlaw25_GridNumbers.f k l0 a1 a2 = some r) :
    Calls Tryz.prog 6 #[.slice A0 l0.length c0, .int .i64 a1, .int .i64 a2] w fun e w' => e = .returned (.bool r) ∧ Below w.heap.size w w' := by
  have HR0 := Aside0.mk hr0
  have HC0 := Aside0.mk hc0
  clear hr0 hc0
  have HB := Aside0.mk (Below.refl w.heap.size w)
  have H : (if (l0.length : Int) > 100 then ((law25_awake.f).bind fun t177 => (some t177)) else ((tenorlaw1_Bits.f k l0).bind fun t178 => ((grid_Quantile.f k l0 a1 a2).bind fun bt181 => ((tenorref25_Quantile.f k t178 a1 a2).bind fun bt183 => ((grid_Worst.f k l0).bind fun bt185 => ((tenorref25_Worst.f k t178).bind fun bt187 => ((grid_Mean.f k l0).bind fun bt189 => ((tenorref25_Mean.f k t178).bind fun bt191 => ((tenorlaw1_Is.f bt181.1 bt183.1).bind fun t193 => (if t193 = true then (if bt181.2 = bt183.2 then (if bt185.1 = bt187.1 then (if bt185.2 = bt187.2 then ((tenorlaw1_Is.f bt189.1 bt191.1).bind fun t194 => (if t194 = true then (if bt189.2 = bt191.2 then ((tenorlaw1_Are.f k l0 t178).bind fun t195 => (if t195 = true then ((law25_awake.f).bind fun t196 => (some t196)) else (none))) else (none)) else (none))) else (none)) else (none)) else (none)) else (none))))))))))) = some r := h
  clear h
  by_cases c4 : (l0.length : Int) > 100
  · rw [if_pos c4] at H
    have c4b0 : decide (100 < (l0.length : Int)) = true := decide_eq_true c4
    have c4b1 : decide (100 < l0.length) = true := decide_eq_true (by omega)
    clear c4
    replace H := Option.bind_eq_some_iff.mp H
    obtain ⟨t177, A50, H⟩ := H
    have A5 := Aside0.mk A50
    clear A50
    obtain rfl := Option.some.inj H
    go_enter Tryz.func6, Tryz.ntmps6
    go_wp2_with (first | ((with_reducible refine gate_callee (f := 22) rfl ?_); refine goesL_ (some 23) rfl rfl Tryz.func22 (by kernel_rfl) rfl #[] rfl mA ?_; (with_reducible refine (law25_awake.calls  t177 _ A5.out).mono ?_); rintro e w6 ⟨rfl, hb⟩; refine ⟨_, rfl, ?_⟩; have n0_ := Aside0.mk (below_step (bA HB.out) hb); clear HB; have HB := n0_; clear n0_; (try clear hb); (try clear hb2); (try clear hk); (try clear hi)))
    go_ret
    exact ⟨by first | rfl | (simp [errW_none, errW_some] <;> rfl) | (simp [*, errW_none, errW_some] <;> rfl), bA HB.out⟩
  rw [if_neg c4] at H
  have c4b0 : decide (100 < (l0.length : Int)) = false := decide_eq_false c4
  have c4b1 : decide (100 < l0.length) = false := decide_eq_false (by omega)
  clear c4
  replace H := Option.bind_eq_some_iff.mp H
  obtain ⟨t178, A70, H⟩ := H
  have A7 := Aside0.mk A70
  clear A70
  replace H := Option.bind_eq_some_iff.mp H
  obtain ⟨⟨t181, t182⟩, A80, H⟩ := H
  have A8 := Aside0.mk A80
  clear A80
  replace H := Option.bind_eq_some_iff.mp H
  obtain ⟨⟨t183, t184⟩, A90, H⟩ := H
  have A9 := Aside0.mk A90
  clear A90
  replace H := Option.bind_eq_some_iff.mp H
  obtain ⟨⟨t185, t186⟩, A100, H⟩ := H
  have A10 := Aside0.mk A100
  clear A100
  replace H := Option.bind_eq_some_iff.mp H
  obtain ⟨⟨t187, t188⟩, A110, H⟩ := H
  have A11 := Aside0.mk A110
  clear A110
  replace H := Option.bind_eq_some_iff.mp H
  obtain ⟨⟨t189, t190⟩, A120, H⟩ := H
  have A12 := Aside0.mk A120
  clear A120
  replace H := Option.bind_eq_some_iff.mp H
  obtain ⟨⟨t191, t192⟩, A130, H⟩ := H
  have A13 := Aside0.mk A130
  clear A130
  replace H := Option.bind_eq_some_iff.mp H
  obtain ⟨t193, A140, H⟩ := H
  have A14 := Aside0.mk A140
  clear A140
  by_cases c15 : t193 = true
  rotate_left
  · replace c15 := Bool.eq_false_iff.mpr c15
    subst c15
    have H1 : (none) = some r := by rw [if_neg (show ¬ (false = true) by decide)] at H; exact H
    clear H
    have H := H1
    clear H1
    exact absurd H (by simp)
  subst c15
  have H1 : (if t182 = t184 then (if t185 = t187 then (if t186 = t188 then ((tenorlaw1_Is.f t189 t191).bind fun t194 => (if t194 = true then (if t190 = t192 then ((tenorlaw1_Are.f k l0 t178).bind fun t195 => (if t195 = true then ((law25_awake.f).bind fun t196 => (some t196)) else (none))) else (none)) else (none))) else (none)) else (none)) else (none)) = some r := by rw [if_pos rfl] at H; exact H
  clear H
  have H := H1
  clear H1
  by_cases c16 : t182 = t184
  rotate_left
  · rw [if_neg c16] at H
    exact absurd H (by simp)
  rw [if_pos c16] at H
  have c16b0 : (t182 == t184) = true := beq_iff_eq.mpr c16
  have c16b1 : (t182 != t184) = false := bne_eq_false_iff_eq.mpr c16
  clear c16
  by_cases c17 : t185 = t187
  rotate_left
  · rw [if_neg c17] at H
    exact absurd H (by simp)
  rw [if_pos c17] at H
  have c17b0 : (t185 == t187) = true := beq_iff_eq.mpr c17
  have c17b1 : (t185 != t187) = false := bne_eq_false_iff_eq.mpr c17
  clear c17
  by_cases c18 : t186 = t188
  rotate_left
  · rw [if_neg c18] at H
    exact absurd H (by simp)
  rw [if_pos c18] at H
  have c18b0 : (t186 == t188) = true := beq_iff_eq.mpr c18
  have c18b1 : (t186 != t188) = false := bne_eq_false_iff_eq.mpr c18
  clear c18
  replace H := Option.bind_eq_some_iff.mp H
  obtain ⟨t194, A190, H⟩ := H
  have A19 := Aside0.mk A190
  clear A190
  by_cases c20 : t194 = true
  rotate_left
  · replace c20 := Bool.eq_false_iff.mpr c20
    subst c20
    have H1 : (none) = some r := by rw [if_neg (show ¬ (false = true) by decide)] at H; exact H
    clear H
    have H := H1
    clear H1
    exact absurd H (by simp)
  subst c20
  have H1 : (if t190 = t192 then ((tenorlaw1_Are.f k l0 t178).bind fun t195 => (if t195 = true then ((law25_awake.f).bind fun t196 => (some t196)) else (none))) else (none)) = some r := by rw [if_pos rfl] at H; exact H
  clear H
  have H := H1
  clear H1
  by_cases c21 : t190 = t192
  rotate_left
  · rw [if_neg c21] at H
    exact absurd H (by simp)
  rw [if_pos c21] at H
  have c21b0 : (t190 == t192) = true := beq_iff_eq.mpr c21
  have c21b1 : (t190 != t192) = false := bne_eq_false_iff_eq.mpr c21
  clear c21
  replace H := Option.bind_eq_some_iff.mp H
  obtain ⟨t195, A220, H⟩ := H
  have A22 := Aside0.mk A220
  clear A220
  by_cases c23 : t195 = true
  rotate_left
  · replace c23 := Bool.eq_false_iff.mpr c23
    subst c23
    have H1 : (none) = some r := by rw [if_neg (show ¬ (false = true) by decide)] at H; exact H
    clear H
    have H := H1
    clear H1
    exact absurd H (by simp)
  subst c23
  have H1 : ((law25_awake.f).bind fun t196 => (some t196)) = some r := by rw [if_pos rfl] at H; exact H
  clear H
  have H := H1
  clear H1
  replace H := Option.bind_eq_some_iff.mp H
  obtain ⟨t196, A240, H⟩ := H
  have A24 := Aside0.mk A240
  clear A240
  obtain rfl := Option.some.inj H
  go_enter Tryz.func6, Tryz.ntmps6
  go_wp2_with (first | ((with_reducible refine gate_callee (f := 23) rfl ?_); refine goesL_ (some 25) rfl rfl Tryz.func23 (by kernel_rfl) rfl #[.slice A0 l0.length c0] rfl mA ?_; (with_reducible refine (tenorlaw1_Bits.calls k _ _ l0 t178 _ ?side1 ?side2 A7.out).mono ?_); (case side1 => exact cA HR0.out); (case side2 => exact HC0.out); rintro e w25 ⟨v179, rfl, ho0, hb⟩; refine ⟨_, rfl, ?_⟩; have n0_ := Aside0.mk (Kd.R_lower ho0 (below_size (bA HB.out))); have n1_ := Aside0.mk (below_step (bA HB.out) hb); clear HB; have HO180 := n0_; have HB := n1_; clear n0_ n1_; (try clear hb); (try clear hb2); (try clear hk); (try clear hi); (try clear ho0)) | ((with_reducible refine gate_callee (f := 24) rfl ?_); refine goesL_ (some 30) rfl rfl Tryz.func24 (by kernel_rfl) rfl #[.slice A0 l0.length c0, .int .i64 a1, .int .i64 a2] rfl mA ?_; (with_reducible refine (grid_Quantile.calls k _ _ l0 a1 a2 t181 t182 _ ?side1 ?side2 A8.out).mono ?_); (case side1 => exact cA (Kd.C_below HR0.out HB.out)); (case side2 => exact HC0.out); rintro e w26 ⟨rfl, hb⟩; refine ⟨_, rfl, ?_⟩; have n0_ := Aside0.mk (Kd.R_below (rA HO180.out) hb); have n1_ := Aside0.mk (below_step (bA HB.out) hb); clear HO180; clear HB; have HO180 := n0_; have HB := n1_; clear n0_ n1_; (try clear hb); (try clear hb2); (try clear hk); (try clear hi); obtain ⟨Ao27, co27, eo27⟩ := Kd.R_slice HO180.out; subst eo27) | ((with_reducible refine gate_callee (f := 25) rfl ?_); refine goesL_ (some 37) rfl rfl Tryz.func25 (by kernel_rfl) rfl #[.slice Ao27 t178.length co27, .int .i64 a1, .int .i64 a2] rfl mA ?_; (with_reducible refine (tenorref25_Quantile.calls k _ _ t178 a1 a2 t183 t184 _ ?side1 ?side2 A9.out).mono ?_); (case side1 => exact cA ((Kd.R_reads' HO180.out).2.2)); (case side2 => exact (Kd.R_reads' HO180.out).2.1); rintro e w28 ⟨rfl, hb⟩; refine ⟨_, rfl, ?_⟩; have n0_ := Aside0.mk (Kd.R_below (rA HO180.out) hb); have n1_ := Aside0.mk (below_step (bA HB.out) hb); clear HO180; clear HB; have HO180 := n0_; have HB := n1_; clear n0_ n1_; (try clear hb); (try clear hb2); (try clear hk); (try clear hi)) | ((with_reducible refine gate_callee (f := 26) rfl ?_); refine goesL_ (some 42) rfl rfl Tryz.func26 (by kernel_rfl) rfl #[.slice A0 l0.length c0] rfl mA ?_; (with_reducible refine (grid_Worst.calls k _ _ l0 t185 t186 _ ?side1 ?side2 A10.out).mono ?_); (case side1 => exact cA (Kd.C_below HR0.out HB.out)); (case side2 => exact HC0.out); rintro e w' ⟨rfl, ⟨nd, rfl⟩⟩; refine ⟨_, rfl, ?_⟩) | ((with_reducible refine gate_callee (f := 27) rfl ?_); refine goesL_ (some 47) rfl rfl Tryz.func27 (by kernel_rfl) rfl #[.slice Ao27 t178.length co27] rfl mA ?_; (with_reducible refine (tenorref25_Worst.calls k _ _ t178 t187 t188 _ ?side1 ?side2 A11.out).mono ?_); (case side1 => exact cA ((Kd.R_reads' HO180.out).2.2)); (case side2 => exact (Kd.R_reads' HO180.out).2.1); rintro e w' ⟨rfl, ⟨nd, rfl⟩⟩; refine ⟨_, rfl, ?_⟩) | ((with_reducible refine gate_callee (f := 28) rfl ?_); refine goesL_ (some 52) rfl rfl Tryz.func28 (by kernel_rfl) rfl #[.slice A0 l0.length c0] rfl mA ?_; (with_reducible refine (grid_Mean.calls k _ _ l0 t189 t190 _ ?side1 ?side2 A12.out).mono ?_); (case side1 => exact cA (Kd.C_below HR0.out (bA HB.out))); (case side2 => exact HC0.out); rintro e w29 ⟨rfl, hb⟩; refine ⟨_, rfl, ?_⟩; have n0_ := Aside0.mk (Kd.R_below (rA HO180.out) hb); have n1_ := Aside0.mk (below_step (bA HB.out) hb); clear HO180; clear HB; have HO180 := n0_; have HB := n1_; clear n0_ n1_; (try clear hb); (try clear hb2); (try clear hk); (try clear hi)) | ((with_reducible refine gate_callee (f := 29) rfl ?_); refine goesL_ (some 57) rfl rfl Tryz.func29 (by kernel_rfl) rfl #[.slice Ao27 t178.length co27] rfl mA ?_; (with_reducible refine (tenorref25_Mean.calls k _ _ t178 t191 t192 _ ?side1 ?side2 A13.out).mono ?_); (case side1 => exact cA ((Kd.R_reads' HO180.out).2.2)); (case side2 => exact (Kd.R_reads' HO180.out).2.1); rintro e w30 ⟨rfl, hb⟩; refine ⟨_, rfl, ?_⟩; have n0_ := Aside0.mk (Kd.R_below (rA HO180.out) hb); have n1_ := Aside0.mk (below_step (bA HB.out) hb); clear HO180; clear HB; have HO180 := n0_; have HB := n1_; clear n0_ n1_; (try clear hb); (try clear hb2); (try clear hk); (try clear hi)) | ((with_reducible refine gate_callee (f := 30) rfl ?_); refine goesL_ (some 62) rfl rfl Tryz.func30 (by kernel_rfl) rfl #[.float .f64 t181, .int .u64 t183] rfl mA ?_; (with_reducible refine (tenorlaw1_Is.calls t181 t183 true _ A14.out).mono ?_); rintro e w' ⟨rfl, ⟨nd, rfl⟩⟩; refine ⟨_, rfl, ?_⟩) | (go_at_call 30; (with_reducible refine (tenorlaw1_Is.calls t189 t191 true _ A19.out).mono ?_); rintro e w' ⟨rfl, ⟨nd, rfl⟩⟩) | (go_at_call 31; (with_reducible refine (tenorlaw1_Are.calls k _ _ l0 _ _ t178 true _ ?side1 ?side2 ?side3 ?side4 A22.out).mono ?_); (case side1 => exact cA (Kd.C_below HR0.out (bA HB.out))); (case side2 => exact HC0.out); (case side3 => exact cA ((Kd.R_reads' HO180.out).2.2)); (case side4 => exact (Kd.R_reads' HO180.out).2.1); rintro e w' ⟨rfl, ⟨nd, rfl⟩⟩) | (go_at_call 22; (with_reducible refine (law25_awake.calls  t196 _ A24.out).mono ?_); rintro e w31 ⟨rfl, hb⟩; have n0_ := Aside0.mk (Kd.R_below (rA HO180.out) hb); have n1_ := Aside0.mk (below_step (bA HB.out) hb); clear HO180; clear HB; have HO180 := n0_; have HB := n1_; clear n0_ n1_; (try clear hb); (try clear hb2); (try clear hk); (try clear hi)))
  go_ret
  exact ⟨by first | rfl | (simp [errW_none, errW_some] <;> rfl) | (simp [*, errW_none, errW_some] <;> rfl), bA HB.out⟩

end Go.Proofs.YtepcegiciecogaaGreat.FK
