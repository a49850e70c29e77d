/- Written by the session's fprint.py out of the translation. -/
import Derived.Test.YthkcphdhmkcdkaaGreatFw
import Derived.Test.YthkcphdhmkcdkaaGreatFPx0
namespace Go.Proofs.YthkcphdhmkcdkaaGreat.FP
open Go.RowKit Go.Proofs.YthkcphdhmkcdkaaGreatW.PrintWords Go.Proofs.YthkcphdhmkcdkaaGreatW.PrintLast Go.Proofs.YthkcphdhmkcdkaaGreatW.PrintMore
attribute [local go_sem] max2_int min2_int max_two min_two max_three min_three max_four min_four   -- for this text's walks alone
open Go.Proofs.YthkcphdhmkcdkaaGreat.FX
attribute [local go_sem] run_store_float run_neg_float run_fmul run_fadd run_fsub run_fdiv run_ftoi isSome_setCell 
set_option linter.unusedVariables false
set_option linter.unusedSimpArgs false

/-! ### curve_table: function 72 -/
def curve_table.f (a0_0 : Int) (a0_1 : Int) (l0_2 : List Int) (l0_3 : List Nat) : Option (Int × List Int × List Nat) := (some (([a0_0] : List Int) : List Int)).bind fun y212 => (if y212.length + l0_2.length < 17592186044416 then ((some (([(4607182418800017408 : Nat)] : List Nat) : List Nat)).bind fun y218 => (if y218.length + l0_3.length < 17592186044416 then (some (a0_1, (y212 ++ l0_2), (y218 ++ l0_3))) else (none))) else (none))
def curve_table.T1 : Bool × List (List Nat × List Nat) := (true, [([], []), ([0], [0]), ([], []), ([2], [2]), ([3], [3]), ([], []), ([5], [5]), ([4, 6], [4, 6]), ([], []), ([], []), ([9], [9]), ([8, 10, 7], [8, 10]), ([1, 7, 11], [1, 7, 11]), ([12, 11, 0, 1, 2, 3, 4, 5, 6, 7, 8, 9, 10, 11, 12], [12])])
def curve_table.B1 : List Nat := [0, 1, 0, 4, 12, 0, 32, 124, 0, 0, 512, 2044, 4095, 8191]
theorem curve_table.tab1 : rtab .any (opsOf Tryz.f72 1) = curve_table.T1 := by kernel_rfl
theorem curve_table.bits1 : waitsOk curve_table.T1.2 curve_table.B1 = true := by kernel_rfl
set_option maxHeartbeats 8000000 in
set_option maxRecDepth 100000 in
theorem curve_table.calls (a0_0 : Int) (a0_1 : Int) (A0_2 : Option Addr) (c0_2 : Nat) (l0_2 : List Int) (A0_3 : Option Addr) (c0_3 : Nat) (l0_3 : List Nat) (r1 : Int) (r2 : List Int) (r3 : List Nat) (w : World) (hr0_2 : Kd.C (Kd.int .i64) w A0_2 l0_2.length l0_2) (hc0_2 : l0_2.length ≤ c0_2) (hr0_3 : Kd.C Kd.flt w A0_3 l0_3.length l0_3) (hc0_3 : l0_3.length ≤ c0_3) (h : curve_table.f a0_0 a0_1 l0_2 l0_3 = some (r1, r2, r3)) :
    Calls Tryz.prog 72 #[.agg #[.int .i64 a0_0, .int .i64 a0_1, .slice A0_2 l0_2.length c0_2, .slice A0_3 l0_3.length c0_3]] w fun e w' => ∃ v1_ v2_ : Value, e = .returned (.agg #[.int .i64 r1, v1_, v2_]) ∧ Kd.R (Kd.int .i64) 3 w' w.heap.size (fun _ => True) v1_ r2 ∧ Kd.R Kd.flt 29 w' w.heap.size (fun _ => True) v2_ r3 ∧ Below w.heap.size w w' := by
  have hu26 := Tryz.underlying26
  have hu128 := Tryz.underlying128
  have HR0_2 := aM hr0_2
  have HC0_2 := aM hc0_2
  clear hr0_2 hc0_2
  have HR0_3 := aM hr0_3
  have HC0_3 := aM hc0_3
  clear hr0_3 hc0_3
  have HB := aM (Below.refl w.heap.size w)
  have H : ((some (([a0_0] : List Int) : List Int)).bind fun y212 => (if y212.length + l0_2.length < 17592186044416 then ((some (([(4607182418800017408 : Nat)] : List Nat) : List Nat)).bind fun y218 => (if y218.length + l0_3.length < 17592186044416 then (some (a0_1, (y212 ++ l0_2), (y218 ++ l0_3))) else (none))) else (none))) = some (r1, r2, r3) := h
  clear h
  generalize hy212 : (([a0_0] : List Int)) = y212 at H
  replace hy212 := hy212.symm
  (try (revert H; (with_reducible refine sE y212 ?_); intro H))
  have Ny212 := aM hy212
  clear hy212
  revert H
  refine ifP fun c2 H => ?_
  have LMc2 := aM c2
  clear c2
  generalize hy215 : (y212 ++ l0_2) = y215 at H
  replace hy215 := hy215.symm
  (try (revert H; (with_reducible refine sE y215 ?_); intro H))
  have Ny215 := aM hy215
  clear hy215
  generalize hy218 : (([(4607182418800017408 : Nat)] : List Nat)) = y218 at H
  replace hy218 := hy218.symm
  (try (revert H; (with_reducible refine sE y218 ?_); intro H))
  have Ny218 := aM hy218
  clear hy218
  revert H
  refine ifP fun c3 H => ?_
  have LMc3 := aM c3
  clear c3
  generalize hy221 : (y218 ++ l0_3) = y221 at H
  replace hy221 := hy221.symm
  (try (revert H; (with_reducible refine sE y221 ?_); intro H))
  have Ny221 := aM hy221
  clear hy221
  simp only [Option.some.injEq, Prod.mk.injEq] at H
  obtain ⟨rfl, rfl, rfl⟩ := H
  go_enter Tryz.func72, Tryz.ntmps72
  try go_wp2_with (first | ((with_reducible refine gD 1 rfl ?_); refine boxW (N := 1) #[.int .i64 a0_0, .int .i64 a0_1, .slice A0_2 l0_2.length c0_2, .slice A0_3 l0_3.length c0_3] 26 HB ?_; clear HB; intro gb210 w4 BK210 HB GW210; have GE210 := GW210) | ((with_reducible refine gD 2 rfl ?_); refine box_event ?hg (N := 2) ?hd (cs := #[.int .i64 0, .slice none 0 0, .slice none 0 0]) (t := 128) ?hr ?_; (case hd => rfl); (case hg => rfl); (case hr => first | (go_simp; done) | (go_simp; rfl)); intro gb211 hg w5 hbox hb; have BK211 := aM hbox; have GW211 := aM (by rw [hg]; exact (below_size (bG HB.out)) : w.heap.size ≤ gb211); have GE211 := aM (by rw [hg]; exact (below_size (bG HB.out)) : w.heap.size ≤ gb211); replace HB := gB HB hb; have NB210_211 := aM (by rw [hg]; exact Nat.ne_of_lt (blk_lt (g := gb210) (o := .cells #[.int .i64 a0_0, .int .i64 a0_1, .slice A0_2 l0_2.length c0_2, .slice A0_3 l0_3.length c0_3] 26 (0, 0)) (kA BK210.out)) : gb210 ≠ gb211); have NB211_210 := aM (by rw [hg]; exact Nat.ne_of_gt (blk_lt (g := gb210) (o := .cells #[.int .i64 a0_0, .int .i64 a0_1, .slice A0_2 l0_2.length c0_2, .slice A0_3 l0_3.length c0_3] 26 (0, 0)) (kA BK210.out)) : gb211 ≠ gb210); replace BK210 := kB BK210 hb; clear hb hbox hg))
  replace BK210 := aM (blk_drew BK210.out)
  replace BK211 := aM (blk_drew BK211.out)
  replace HB := aM (below_drew1 HB.out)
  refine start_ (n := 14) (S := fun w' => w'.cell? ⟨gb210, 0, none⟩ = some (.int .i64 a0_0) ∧ w'.cell? ⟨gb210, 1, none⟩ = some (.int .i64 a0_1) ∧ w'.cell? ⟨gb210, 2, none⟩ = some (.slice A0_2 l0_2.length c0_2) ∧ w'.cell? ⟨gb210, 3, none⟩ = some (.slice A0_3 l0_3.length c0_3)) (ds := []) (dnA 14 0) (by kernel_rfl) rfl rfl (ch4 BK210.out) (fun hHeld => ?_); refine with_tabW curve_table.tab1 curve_table.bits1 (fun HT_ HW_ => ?_)
  generalize w5.drew = w6 at BK210 BK211 HB hHeld ⊢
  refine pW 0 (some 3) (dnA 14 1) ?_
  refine pW 2 (some 5) (dnA 14 5) ?_
  refine pW 5 (some 8) (dnA 14 37) ?_
  refine pW 9 (some 12) (dnA 14 549) ?_
  refine tW 1 (some 4) (dnA 14 551) ?_
  refine tW 3 (some 6) (dnA 14 559) ?_
  refine tW 6 (some 9) (dnA 14 623) ?_
  refine tW 10 (some 13) (dnA 14 1647) ?_
  refine join_ (σ := Value × Value × Value) 3 (dnA 14 2047) (fun s_ => [(7, s_.1), (10, s_.2.1), (11, s_.2.2)]) (fun s_ w' => (w'.cell? ⟨gb210, 0, none⟩ = some (.int .i64 a0_0) ∧ w'.cell? ⟨gb210, 1, none⟩ = some (.int .i64 a0_1) ∧ w'.cell? ⟨gb210, 2, none⟩ = some (.slice A0_2 l0_2.length c0_2) ∧ w'.cell? ⟨gb210, 3, none⟩ = some (.slice A0_3 l0_3.length c0_3)) ∧ (Kd.R (Kd.int .i64) 3 w' w.heap.size (fun _ => True) s_.2.1 y215) ∧ (Kd.R Kd.flt 29 w' w.heap.size (fun _ => True) s_.2.2 y218) ∧ (w'.heap[gb210]? = some (.cells #[.int .i64 a0_0, .int .i64 a0_1, .slice A0_2 l0_2.length c0_2, .slice A0_3 l0_3.length c0_3] 26 (0, 0))) ∧ (w'.heap[gb211]? = some (.cells #[.int .i64 0, .slice none 0 0, .slice none 0 0] 128 (0, 0))) ∧ (Below w.heap.size w w')) ?_ ?_
  rotate_left
  · intro hCont
    refine two_ (i := 4) (j := 8) (Ni := some 7) (Nj := some 11) (dnA 14 1663) (dnA 14 1903) rfl rfl rfl rfl (two_of HT_.out (by kernel_rfl)) (by decide) (by decide) (fun K hK => ?_) (fun K hK => ?_)
    rotate_left
    · skip
      refine Kd.R_lit_step Kd.flt _ 29 ?hg (N := 11) ?hd (xs := ([(4607182418800017408 : Nat)] : List Nat)) (inner := [.float .f64 (4607182418800017408 : Nat)]) (ok := fun _ => True) (okp := fun _ => True) ?hr ?hp (fun _ hk => hk) trivial (Below.refl _ _) (Nat.le_refl _) (by simp) ?_; (case hd => rfl); (case hg => rfl); (case hr => first | (go_simp; done) | (go_simp; rfl)); (case hp => exact (Reps.one (show Kd.M Kd.flt _ _ _ (4607182418800017408 : Nat) [.float .f64 (4607182418800017408 : Nat)] from rfl) (Reps.none _ _)))
      intro v219 w7 ho8 hb hg_ hnew_
      clear hg_ hnew_
      (first | rw [← Ny218.out] at ho8 | (simp only [Int.reduceToNat] at ho8; rw [← Ny218.out] at ho8))
      have HO220 := aM (Kd.R_lower ho8 (below_size (bG HB.out)))
      replace BK210 := kB BK210 hb
      replace BK211 := kB BK211 hb
      replace HB := gB HB hb
      clear hb ho8
      refine hK.out _ _ (ch4 BK210.out) (fun hHeld => ?_)
      clear hK K
      refine nW ?_
      refine oW 4 (some 7) (dnA 14 1919) (fun K hK => ?_)
      refine Kd.R_lit_step (Kd.int .i64) _ 3 ?hg (N := 7) ?hd (xs := ([a0_0] : List Int)) (inner := [.int .i64 a0_0]) (ok := fun _ => True) (okp := fun _ => True) ?hr ?hp (fun _ hk => hk) trivial (Below.refl _ _) (Nat.le_refl _) (by simp) ?_; (case hd => rfl); (case hg => rfl); (case hr => first | (go_simp; done) | (go_simp; rfl)); (case hp => exact (Reps.one (show Kd.M (Kd.int .i64) _ _ _ a0_0 [.int .i64 a0_0] from rfl) (Reps.none _ _)))
      intro v213 w9 ho10 hb hg_ hnew_
      clear hg_ hnew_
      (first | rw [← Ny212.out] at ho10 | (simp only [Int.reduceToNat] at ho10; rw [← Ny212.out] at ho10))
      replace HO220 := rB HO220 hb
      have HO214 := aM (Kd.R_lower ho10 (below_size (bG HB.out)))
      replace BK210 := kB BK210 hb
      replace BK211 := kB BK211 hb
      replace HB := gB HB hb
      clear hb ho10
      refine hK.out _ _ (ch4 BK210.out) (fun hHeld => ?_)
      clear hK K
      refine nW ?_
      refine oW 7 (some 10) (dnA 14 2047) (fun K hK => ?_)
      refine Kd.R_append_rows_step (Kd.int .i64) (w0 := w) w.heap.size (by rfl) (.tmp 7) (.tmp 9) 23 3 (.int .i64 0) 8 rfl Tryz.underlying23 info3 rfl (by decide) (by omega) v213 y212 l0_2 _ _ _ (fun _ => True) (fun _ => False) rfl rfl ?aO ?aR (fun _ _ h => h) (fun _ h => h.elim) ?aF ?aB ?aS ?aL ?_
      (case aR => exact cA (Kd.C_below HR0_2.out HB.out))
      (case aB => exact (bG HB.out))
      (case aF => exact (fun _ _ => trivial))
      (case aO => exact (rA HO214.out))
      (case aS => exact (below_size (bG HB.out)))
      (case aL => have := LMc2.out; omega)
      intro v216 w11 ho hb hg hat
      rw [← Ny215.out] at ho
      replace BK210 := kN BK210 hg (Kd.R_ne HO214.out BK210.out (by decide))
      replace BK211 := kN BK211 hg (Kd.R_ne HO214.out BK211.out (by decide))
      replace HO220 := aM (Kd.R_over' (rA HO220.out) (Kd.R_typed (rA HO214.out)) (by decide) hg)
      replace HB := aM hb
      have HO217 := aM ho
      clear HO214
      clear ho hb hg hat
      refine hK.out _ _ (ch4 BK210.out) (fun hHeld => ?_)
      clear hK K
      refine nW ?_
      exact norm_ (by simp only [putAll, Act.put, List.setIfInBounds_toArray, List.set_cons_zero, List.set_cons_succ]) (hCont (v213, v216, v219) _ ⟨hHeld, (rA HO217.out), (rA HO220.out), (kA BK210.out), (kA BK211.out), (bG HB.out)⟩)
    skip
    refine Kd.R_lit_step (Kd.int .i64) _ 3 ?hg (N := 7) ?hd (xs := ([a0_0] : List Int)) (inner := [.int .i64 a0_0]) (ok := fun _ => True) (okp := fun _ => True) ?hr ?hp (fun _ hk => hk) trivial (Below.refl _ _) (Nat.le_refl _) (by simp) ?_; (case hd => rfl); (case hg => rfl); (case hr => first | (go_simp; done) | (go_simp; rfl)); (case hp => exact (Reps.one (show Kd.M (Kd.int .i64) _ _ _ a0_0 [.int .i64 a0_0] from rfl) (Reps.none _ _)))
    intro v213 w7 ho8 hb hg_ hnew_
    clear hg_ hnew_
    (first | rw [← Ny212.out] at ho8 | (simp only [Int.reduceToNat] at ho8; rw [← Ny212.out] at ho8))
    have HO214 := aM (Kd.R_lower ho8 (below_size (bG HB.out)))
    replace BK210 := kB BK210 hb
    replace BK211 := kB BK211 hb
    replace HB := gB HB hb
    clear hb ho8
    refine hK.out _ _ (ch4 BK210.out) (fun hHeld => ?_)
    clear hK K
    refine nW ?_
    refine two_ (i := 7) (j := 8) (Ni := some 10) (Nj := some 11) (dnA 14 1791) (dnA 14 1919) rfl rfl rfl rfl (two_of HT_.out (by kernel_rfl)) (by decide) (by decide) (fun K hK => ?_) (fun K hK => ?_)
    · skip
      refine Kd.R_append_rows_step (Kd.int .i64) (w0 := w) w.heap.size (by rfl) (.tmp 7) (.tmp 9) 23 3 (.int .i64 0) 8 rfl Tryz.underlying23 info3 rfl (by decide) (by omega) v213 y212 l0_2 _ _ _ (fun _ => True) (fun _ => False) rfl rfl ?aO ?aR (fun _ _ h => h) (fun _ h => h.elim) ?aF ?aB ?aS ?aL ?_
      (case aR => exact cA (Kd.C_below HR0_2.out HB.out))
      (case aB => exact (bG HB.out))
      (case aF => exact (fun _ _ => trivial))
      (case aO => exact (rA HO214.out))
      (case aS => exact (below_size (bG HB.out)))
      (case aL => have := LMc2.out; omega)
      intro v216 w9 ho hb hg hat
      rw [← Ny215.out] at ho
      replace BK210 := kN BK210 hg (Kd.R_ne HO214.out BK210.out (by decide))
      replace BK211 := kN BK211 hg (Kd.R_ne HO214.out BK211.out (by decide))
      replace HB := aM hb
      have HO217 := aM ho
      clear HO214
      clear ho hb hg hat
      refine hK.out _ _ (ch4 BK210.out) (fun hHeld => ?_)
      clear hK K
      refine nW ?_
      refine oW 8 (some 11) (dnA 14 2047) (fun K hK => ?_)
      refine Kd.R_lit_step Kd.flt _ 29 ?hg (N := 11) ?hd (xs := ([(4607182418800017408 : Nat)] : List Nat)) (inner := [.float .f64 (4607182418800017408 : Nat)]) (ok := fun _ => True) (okp := fun _ => True) ?hr ?hp (fun _ hk => hk) trivial (Below.refl _ _) (Nat.le_refl _) (by simp) ?_; (case hd => rfl); (case hg => rfl); (case hr => first | (go_simp; done) | (go_simp; rfl)); (case hp => exact (Reps.one (show Kd.M Kd.flt _ _ _ (4607182418800017408 : Nat) [.float .f64 (4607182418800017408 : Nat)] from rfl) (Reps.none _ _)))
      intro v219 w10 ho11 hb hg_ hnew_
      clear hg_ hnew_
      (first | rw [← Ny218.out] at ho11 | (simp only [Int.reduceToNat] at ho11; rw [← Ny218.out] at ho11))
      replace HO217 := rB HO217 hb
      have HO220 := aM (Kd.R_lower ho11 (below_size (bG HB.out)))
      replace BK210 := kB BK210 hb
      replace BK211 := kB BK211 hb
      replace HB := gB HB hb
      clear hb ho11
      refine hK.out _ _ (ch4 BK210.out) (fun hHeld => ?_)
      clear hK K
      refine nW ?_
      exact norm_ (by simp only [putAll, Act.put, List.setIfInBounds_toArray, List.set_cons_zero, List.set_cons_succ]) (hCont (v213, v216, v219) _ ⟨hHeld, (rA HO217.out), (rA HO220.out), (kA BK210.out), (kA BK211.out), (bG HB.out)⟩)
    skip
    refine Kd.R_lit_step Kd.flt _ 29 ?hg (N := 11) ?hd (xs := ([(4607182418800017408 : Nat)] : List Nat)) (inner := [.float .f64 (4607182418800017408 : Nat)]) (ok := fun _ => True) (okp := fun _ => True) ?hr ?hp (fun _ hk => hk) trivial (Below.refl _ _) (Nat.le_refl _) (by simp) ?_; (case hd => rfl); (case hg => rfl); (case hr => first | (go_simp; done) | (go_simp; rfl)); (case hp => exact (Reps.one (show Kd.M Kd.flt _ _ _ (4607182418800017408 : Nat) [.float .f64 (4607182418800017408 : Nat)] from rfl) (Reps.none _ _)))
    intro v219 w9 ho10 hb hg_ hnew_
    clear hg_ hnew_
    (first | rw [← Ny218.out] at ho10 | (simp only [Int.reduceToNat] at ho10; rw [← Ny218.out] at ho10))
    replace HO214 := rB HO214 hb
    have HO220 := aM (Kd.R_lower ho10 (below_size (bG HB.out)))
    replace BK210 := kB BK210 hb
    replace BK211 := kB BK211 hb
    replace HB := gB HB hb
    clear hb ho10
    refine hK.out _ _ (ch4 BK210.out) (fun hHeld => ?_)
    clear hK K
    refine nW ?_
    refine oW 7 (some 10) (dnA 14 2047) (fun K hK => ?_)
    refine Kd.R_append_rows_step (Kd.int .i64) (w0 := w) w.heap.size (by rfl) (.tmp 7) (.tmp 9) 23 3 (.int .i64 0) 8 rfl Tryz.underlying23 info3 rfl (by decide) (by omega) v213 y212 l0_2 _ _ _ (fun _ => True) (fun _ => False) rfl rfl ?aO ?aR (fun _ _ h => h) (fun _ h => h.elim) ?aF ?aB ?aS ?aL ?_
    (case aR => exact cA (Kd.C_below HR0_2.out HB.out))
    (case aB => exact (bG HB.out))
    (case aF => exact (fun _ _ => trivial))
    (case aO => exact (rA HO214.out))
    (case aS => exact (below_size (bG HB.out)))
    (case aL => have := LMc2.out; omega)
    intro v216 w11 ho hb hg hat
    rw [← Ny215.out] at ho
    replace BK210 := kN BK210 hg (Kd.R_ne HO214.out BK210.out (by decide))
    replace BK211 := kN BK211 hg (Kd.R_ne HO214.out BK211.out (by decide))
    replace HO220 := aM (Kd.R_over' (rA HO220.out) (Kd.R_typed (rA HO214.out)) (by decide) hg)
    replace HB := aM hb
    have HO217 := aM ho
    clear HO214
    clear ho hb hg hat
    refine hK.out _ _ (ch4 BK210.out) (fun hHeld => ?_)
    clear hK K
    refine nW ?_
    exact norm_ (by simp only [putAll, Act.put, List.setIfInBounds_toArray, List.set_cons_zero, List.set_cons_succ]) (hCont (v213, v216, v219) _ ⟨hHeld, (rA HO217.out), (rA HO220.out), (kA BK210.out), (kA BK211.out), (bG HB.out)⟩)
  rintro ⟨v213, v216, v219⟩ w12 ⟨hS_, h0_, h1_, h2_, h3_, h4_⟩
  have n0_ : Aside0 (Kd.R (Kd.int .i64) 3 w12 w.heap.size (fun _ => True) v216 y215) := ⟨h0_⟩
  have n1_ : Aside0 (Kd.R Kd.flt 29 w12 w.heap.size (fun _ => True) v219 y218) := ⟨h1_⟩
  have n2_ : Aside0 (w12.heap[gb210]? = some (.cells #[.int .i64 a0_0, .int .i64 a0_1, .slice A0_2 l0_2.length c0_2, .slice A0_3 l0_3.length c0_3] 26 (0, 0))) := ⟨h2_⟩
  have n3_ : Aside0 (w12.heap[gb211]? = some (.cells #[.int .i64 0, .slice none 0 0, .slice none 0 0] 128 (0, 0))) := ⟨h3_⟩
  have n4_ : Aside0 (Below w.heap.size w w12) := ⟨h4_⟩
  clear BK210
  clear BK211
  clear HB
  clear h0_ h1_ h2_ h3_ h4_
  have HO217 := n0_
  have HO220 := n1_
  have BK210 := n2_
  have BK211 := n3_
  have HB := n4_
  clear n0_ n1_ n2_ n3_ n4_
  have hHeld : w12.cell? ⟨gb210, 0, none⟩ = some (.int .i64 a0_0) ∧ w12.cell? ⟨gb210, 1, none⟩ = some (.int .i64 a0_1) ∧ w12.cell? ⟨gb210, 2, none⟩ = some (.slice A0_2 l0_2.length c0_2) ∧ w12.cell? ⟨gb210, 3, none⟩ = some (.slice A0_3 l0_3.length c0_3) := hS_
  refine norm_ (a' := ?_) ?_ ?_
  rotate_left
  · simp only [putAll, Act.put, List.setIfInBounds_toArray, List.set_cons_zero, List.set_cons_succ]
    rfl
  refine oW 11 (some 14) (dnA 14 4095) (fun K hK => ?_)
  refine Kd.R_append_rows_step Kd.flt (w0 := w) w.heap.size (by rfl) (.tmp 11) (.tmp 13) 24 29 (.float .f64 0) 8 rfl Tryz.underlying24 info29 rfl (by decide) (by omega) v219 y218 l0_3 _ _ _ (fun _ => True) (fun _ => False) rfl rfl ?aO ?aR (fun _ _ h => h) (fun _ h => h.elim) ?aF ?aB ?aS ?aL ?_
  (case aR => exact cA (Kd.C_below HR0_3.out HB.out))
  (case aB => exact (bG HB.out))
  (case aF => exact (fun _ _ => trivial))
  (case aO => exact (rA HO220.out))
  (case aS => exact (below_size (bG HB.out)))
  (case aL => have := LMc3.out; omega)
  intro v222 w13 ho hb hg hat
  rw [← Ny221.out] at ho
  replace BK210 := kN BK210 hg (Kd.R_ne HO220.out BK210.out (by decide))
  replace BK211 := kN BK211 hg (Kd.R_ne HO220.out BK211.out (by decide))
  replace HO217 := aM (Kd.R_over' (rA HO217.out) (Kd.R_typed (rA HO220.out)) (by decide) hg)
  replace HB := aM hb
  have HO223 := aM ho
  clear HO220
  clear ho hb hg hat
  obtain ⟨Ao14, co14, eo14⟩ := Kd.R_slice HO223.out
  (first | subst eo14 | (injection eo14 with f1_ f2_ f3_; have f4_ := f1_.symm; have f5_ := f3_.symm; clear f1_ f2_ f3_; subst f4_; subst f5_))
  obtain ⟨Ao15, co15, eo15⟩ := Kd.R_slice HO217.out
  (first | subst eo15 | (injection eo15 with f1_ f2_ f3_; have f4_ := f1_.symm; have f5_ := f3_.symm; clear f1_ f2_ f3_; subst f4_; subst f5_))
  refine hK.out _ _ (ch4 BK210.out) (fun hHeld => ?_)
  clear hK K
  refine nW ?_
  refine pW 12 (some 15) (dnA 14 8191) ?_
  refine oW 13 none (dnA 14 16383) (fun K hK => ?_)
  have hs16 : w13.cell? ⟨gb211, 0, none⟩ = some (.int .i64 0) := (blk_cell BK211.out 0).trans rfl
  have hfs16 := blk_frozen BK211.out 0
  have hns16_0 := NB210_211.out
  have hms16_0 := NB211_210.out
  have hs17 : w13.cell? ⟨gb211, 1, none⟩ = some (.slice none 0 0) := (blk_cell BK211.out 1).trans rfl
  have hfs17 := blk_frozen BK211.out 1
  have hns17_0 := NB210_211.out
  have hms17_0 := NB211_210.out
  have hs18 : w13.cell? ⟨gb211, 2, none⟩ = some (.slice none 0 0) := (blk_cell BK211.out 2).trans rfl
  have hfs18 := blk_frozen BK211.out 2
  have hns18_0 := NB210_211.out
  have hms18_0 := NB211_210.out
  refine skip_ (w1 := ?_) (by rfl) rfl ?_ ?_
  rotate_left
  · go_simp
    rfl
  refine hK.out _ _ ⟨((cell_far (p := ⟨gb211, _, none⟩) NB210_211.out _).trans (((cell_far (p := ⟨gb211, _, none⟩) NB210_211.out _).trans (((cell_far (p := ⟨gb211, _, none⟩) NB210_211.out _).trans (hHeld.1)))))), ((cell_far (p := ⟨gb211, _, none⟩) NB210_211.out _).trans (((cell_far (p := ⟨gb211, _, none⟩) NB210_211.out _).trans (((cell_far (p := ⟨gb211, _, none⟩) NB210_211.out _).trans (hHeld.2.1)))))), ((cell_far (p := ⟨gb211, _, none⟩) NB210_211.out _).trans (((cell_far (p := ⟨gb211, _, none⟩) NB210_211.out _).trans (((cell_far (p := ⟨gb211, _, none⟩) NB210_211.out _).trans (hHeld.2.2.1)))))), ((cell_far (p := ⟨gb211, _, none⟩) NB210_211.out _).trans (((cell_far (p := ⟨gb211, _, none⟩) NB210_211.out _).trans (((cell_far (p := ⟨gb211, _, none⟩) NB210_211.out _).trans (hHeld.2.2.2))))))⟩ (fun hHeld => ?_)
  clear hK K
  refine done_ (done_of HT_.out (by kernel_rfl)) ?_
  try go_wp2
  refine bodyPost_ret (results_cell_row rfl _ _ gb211 128 #[.int .i64 a0_1, .slice Ao15 y215.length co15, .slice Ao14 y221.length co14] (0, 0) _ rfl (by (with_reducible repeat (first | refine blk_drewN ?_ _ | refine blk_drew ?_ | refine blk_alloc ?_ _)); refine blk_put (cs := #[.int .i64 a0_1, .slice Ao15 y215.length co15, .slice none 0 0]) ?_ 2 _ rfl; (with_reducible repeat (first | refine blk_drewN ?_ _ | refine blk_drew ?_ | refine blk_alloc ?_ _)); refine blk_put (cs := #[.int .i64 a0_1, .slice none 0 0, .slice none 0 0]) ?_ 1 _ rfl; (with_reducible repeat (first | refine blk_drewN ?_ _ | refine blk_drew ?_ | refine blk_alloc ?_ _)); refine blk_put (cs := #[.int .i64 0, .slice none 0 0, .slice none 0 0]) ?_ 0 _ rfl; (with_reducible repeat (first | refine blk_drewN ?_ _ | refine blk_drew ?_ | refine blk_alloc ?_ _)); exact BK211.out) Tryz.underlying128 rfl (by kernel_rfl)) rfl ?_
  exact ⟨_, _, eA, by (with_reducible repeat (first | apply Kd.R_alloc | apply Kd.R_drewN | apply Kd.R_drew)); exact Kd.R_mono (Kd.R_far (p := ⟨gb211, 2, none⟩) (Kd.R_far (p := ⟨gb211, 1, none⟩) (Kd.R_far (p := ⟨gb211, 0, none⟩) (Kd.R_types HO217.out BK211.out (by decide)) (fun _ hk => hk.2) (.int .i64 a0_1)) (fun _ hk => hk.2) (.slice Ao15 y215.length co15)) (fun _ hk => hk.2) (.slice Ao14 y221.length co14)) (fun _ hk => trivial), by (with_reducible repeat (first | apply Kd.R_alloc | apply Kd.R_drewN | apply Kd.R_drew)); exact Kd.R_mono (Kd.R_far (p := ⟨gb211, 2, none⟩) (Kd.R_far (p := ⟨gb211, 1, none⟩) (Kd.R_far (p := ⟨gb211, 0, none⟩) (Kd.R_types HO223.out BK211.out (by decide)) (fun _ hk => hk.2) (.int .i64 a0_1)) (fun _ hk => hk.2) (.slice Ao15 y215.length co15)) (fun _ hk => hk.2) (.slice Ao14 y221.length co14)) (fun _ hk => trivial), bG HB.out⟩

end Go.Proofs.YthkcphdhmkcdkaaGreat.FP
