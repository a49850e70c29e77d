/- Written by the session's fprint.py out of the translation. -/
import Derived.Test.YtepcegiciecogaaFOx0
namespace Go.Proofs.Ytepcegiciecogaa.FO
open Go.RowKit Go.Proofs.YtepcegiciecogaaW.PrintWords Go.Proofs.YtepcegiciecogaaW.PrintLast Go.Proofs.YtepcegiciecogaaW.PrintMore
attribute [local go_sem] max2_int min2_int max_two min_two max_three min_three max_four min_four   -- for this text's walks alone
open Go.Proofs.Ytepcegiciecogaa.FX Go.Proofs.Ytepcegiciecogaa.FB
attribute [local go_sem] run_store_float run_neg_float run_fmul isSome_setCell run_equalIn_float
set_option linter.unusedVariables false
set_option linter.unusedSimpArgs false

/-! ### tenorlaw14_Mixed: function 14 -/
def tenorlaw14_Mixed.l0 : Nat → List Int → List (S42) → Int → Option ((List (S42)))
  | 0, _, _, _ => none
  | k + 1, x1, x5, x6 => if x6 < (x5.length : Int) then (if x6 < (x1.length : Int) then (if 0 ≤ x6 then (if (x5.length : Int) = 0 then (none) else (if 0 ≤ (Int.tmod (wrap64 ((Int.tmod (rd x1 x6) (x5.length : Int)) + (x5.length : Int))) (x5.length : Int)) then (if (Int.tmod (wrap64 ((Int.tmod (rd x1 x6) (x5.length : Int)) + (x5.length : Int))) (x5.length : Int)) < (x5.length : Int) then (tenorlaw14_Mixed.l0 k x1 ((x5.set (x6 : Int).toNat (⟨(rd_T42 x5 (Int.tmod (wrap64 ((Int.tmod (rd x1 x6) (x5.length : Int)) + (x5.length : Int))) (x5.length : Int))).f0, (rd_T42 x5 (Int.tmod (wrap64 ((Int.tmod (rd x1 x6) (x5.length : Int)) + (x5.length : Int))) (x5.length : Int))).f1, (rd_T42 x5 (Int.tmod (wrap64 ((Int.tmod (rd x1 x6) (x5.length : Int)) + (x5.length : Int))) (x5.length : Int))).f2⟩ : S42)).set ((Int.tmod (wrap64 ((Int.tmod (rd x1 x6) (x5.length : Int)) + (x5.length : Int))) (x5.length : Int)) : Int).toNat (⟨(rd_T42 x5 x6).f0, (rd_T42 x5 x6).f1, (rd_T42 x5 x6).f2⟩ : S42)) (wrap64 (x6 + 1))) else (none)) else (none))) else (none)) else (some x5)) else (some x5)
def tenorlaw14_Mixed.f (k : Nat) (l0 : List (S42)) (l1 : List Int) : Option ((List (S42))) := (some (([] : List (S42)) : List (S42))).bind fun y101 => (if y101.length + l0.length < 5864062014805 then (tenorlaw14_Mixed.l0 k l1 (y101 ++ l0) 0) else (none))
theorem tenorlaw14_Mixed.mono_l : ∀ k, (∀ y0 y1 y2, LeO (tenorlaw14_Mixed.l0 k y0 y1 y2) (tenorlaw14_Mixed.l0 (k + 1) y0 y1 y2))
  | 0 => fun _ _ _ r h => by simp [tenorlaw14_Mixed.l0] at h
  | k + 1 => by
    have ih0 := tenorlaw14_Mixed.mono_l k
    · intro y0 y1 y2
      unfold tenorlaw14_Mixed.l0
      repeat' first
      | (with_reducible exact ih0 _ _ _)
      | (with_reducible exact LeO.refl _)
      | (with_reducible exact LeO.none _)
      | (with_reducible refine LeO.ite ?_ ?_)
      | (with_reducible refine LeO.bind ?_ (fun _ => ?_))
      | exact ih0 _ _ _
      | exact LeO.none _
      | refine LeO.ite ?_ ?_
      | refine LeO.bind ?_ (fun _ => ?_)
theorem tenorlaw14_Mixed.mono : ∀ a0 a1 k, LeO (tenorlaw14_Mixed.f k a0 a1) (tenorlaw14_Mixed.f (k + 1) a0 a1) := by
  intro a0 a1 k
  have ih0 := tenorlaw14_Mixed.mono_l k
  unfold tenorlaw14_Mixed.f
  repeat' first
    | (with_reducible exact ih0 _ _ _)
    | (with_reducible exact LeO.refl _)
    | (with_reducible exact LeO.none _)
    | (with_reducible refine LeO.ite ?_ ?_)
    | (with_reducible refine LeO.bind ?_ (fun _ => ?_))
    | exact ih0 _ _ _
    | exact LeO.none _
    | refine LeO.ite ?_ ?_
    | refine LeO.bind ?_ (fun _ => ?_)
def tenorlaw14_Mixed.T6 : Bool × List (List Nat × List Nat) := (true, [([], []), ([], []), ([], []), ([], []), ([], []), ([], []), ([4, 5], [4, 5]), ([6], [6]), ([], []), ([], []), ([8, 9], [8, 9]), ([10], [10]), ([0, 1, 0, 1, 4, 5, 6, 7, 11], [0, 1]), ([12, 7, 0, 1, 4, 5, 6, 7, 11], [7, 12]), ([2, 3, 0, 1, 2, 3, 4, 5, 6, 7, 8, 9, 10, 11, 12, 13], [2, 3]), ([14, 11, 13, 0, 1, 2, 3, 4, 5, 6, 7, 8, 9, 10, 11, 12, 13], [11, 14])])
def tenorlaw14_Mixed.B6 : List Nat := [0, 0, 0, 0, 0, 0, 48, 112, 0, 0, 768, 1792, 4083, 8179, 16383, 32767]
theorem tenorlaw14_Mixed.tab6 : rtab .any (opsOf Try.f14 6) = tenorlaw14_Mixed.T6 := by kernel_rfl
theorem tenorlaw14_Mixed.bits6 : waitsOk tenorlaw14_Mixed.T6.2 tenorlaw14_Mixed.B6 = true := by kernel_rfl
set_option maxHeartbeats 8000000 in
set_option maxRecDepth 100000 in
theorem tenorlaw14_Mixed.calls (k : Nat) (A0 : Option Addr) (c0 : Nat) (l0 : List (S42)) (A1 : Option Addr) (c1 : Nat) (l1 : List Int) (r : List (S42)) (w : World) (hr0 : Kd.C k42 w A0 l0.length l0) (hc0 : l0.length ≤ c0) (hr1 : Kd.C (Kd.int .i64) w A1 l1.length l1) (hc1 : l1.length ≤ c1) (h : tenorlaw14_Mixed.f k l0 l1 = some r) :
    Calls Try.prog 14 #[.slice A0 l0.length c0, .slice A1 l1.length c1] w fun e w' => ∃ v0_ : Value, e = .returned (v0_) ∧ Kd.R k42 42 w' w.heap.size (fun _ => True) v0_ r ∧ Below w.heap.size w w' := by
  have hu42 := Try.underlying42
  have HR0 := Aside0.mk hr0
  have HC0 := Aside0.mk hc0
  clear hr0 hc0
  have HR1 := Aside0.mk hr1
  have HC1 := Aside0.mk hc1
  clear hr1 hc1
  have HB := Aside0.mk (Below.refl w.heap.size w)
  have H : ((some (([] : List (S42)) : List (S42))).bind fun y101 => (if y101.length + l0.length < 5864062014805 then (tenorlaw14_Mixed.l0 k l1 (y101 ++ l0) 0) else (none))) = some r := h
  clear h
  obtain ⟨y101, hy101⟩ : ∃ y_ : List (S42), y_ = (([] : List (S42))) := ⟨_, rfl⟩
  replace H : (if y101.length + l0.length < 5864062014805 then (tenorlaw14_Mixed.l0 k l1 (y101 ++ l0) 0) else (none)) = some r := by first | (rw [hy101]; with_reducible exact H) | (have H2_ := (Option.bind_some _ _).symm.trans H; rw [hy101]; with_reducible exact H2_) | (have H2_ := (Option.bind_some _ _).symm.trans H; with_reducible exact H2_) | with_reducible exact H | (rw [hy101]; exact H) | exact H
  have Ny101 := Aside0.mk hy101
  clear hy101
  by_cases c3 : y101.length + l0.length < 5864062014805
  rotate_left
  · rw [if_neg c3] at H
    exact absurd H (by simp)
  rw [if_pos c3] at H
  have LMc3 := Aside0.mk c3
  clear c3
  obtain ⟨y104, hy104⟩ : ∃ y_ : List (S42), y_ = (y101 ++ l0) := ⟨_, rfl⟩
  replace H : (tenorlaw14_Mixed.l0 k l1 y104 0) = some r := by first | (rw [hy104]; with_reducible exact H) | (have H2_ := (Option.bind_some _ _).symm.trans H; rw [hy104]; with_reducible exact H2_) | (have H2_ := (Option.bind_some _ _).symm.trans H; with_reducible exact H2_) | with_reducible exact H | (rw [hy104]; exact H) | exact H
  have Ny104 := Aside0.mk hy104
  clear hy104
  have H' := Aside0.mk H
  clear H
  go_enter Try.func14, Try.ntmps14
  go_wp2_with (first | ((with_reducible refine gate_dst (N := 8) rfl ?_); (try (refine gate_guard (by rfl) ?_; dsimp only)); refine Kd.R_lit k42 _ 42 ?hg (N := 8) ?hd (xs := ([] : List (S42))) (inner := []) (ok := fun _ => True) (okp := fun _ => True) ?hr ?hp (fun _ hk => hk) trivial (Below.refl _ _) (Nat.le_refl _) (by simp) ?_; (case hd => rfl); (case hg => rfl); (case hr => first | (go_simp; done) | (go_simp; rfl)); (case hp => exact (Reps.none _ _)); intro v102 w4 ho5 hb hg_ hnew_; clear hg_ hnew_; (first | rw [← Ny101.out] at ho5 | (simp only [Int.reduceToNat] at ho5; rw [← Ny101.out] at ho5)); have n0_ := Aside0.mk (Kd.R_lower ho5 (below_size (by repeat (first | (with_reducible first | exact HB.out | apply below_alloc | apply pw_below_drewN | apply below_drew1) | exact HB.out)))); have n1_ := Aside0.mk (below_step (by repeat (first | (with_reducible first | exact HB.out | apply below_alloc | apply pw_below_drewN | apply below_drew1) | exact HB.out)) hb); clear HB; have HO103 := n0_; have HB := n1_; clear n0_ n1_; clear hb ho5) | ((with_reducible refine gate_builtin (b := .append) (xs := #[.tmp 8, .tmp 9]) rfl ?_); (try (refine gate_guard (by rfl) ?_; dsimp only)); at_builtin; refine Kd.R_append_rows k42 (w0 := w) w.heap.size rfl (.tmp 8) (.tmp 9) 22 42 (.agg #[(.int .i64 0), (.float .f64 0), (.int .i64 0)]) 24 rfl Try.underlying22 info42 rfl (by decide) (by omega) v102 y101 l0 _ _ _ (fun _ => True) (fun _ => False) rfl rfl ?aO ?aR (fun _ _ h => h) (fun _ h => h.elim) ?aF ?aB ?aS ?aL ?_; (case aR => repeat (first | exact (Kd.C_below HR0.out HB.out) | (with_reducible refine Kd.C_alloc ?_ _) | (with_reducible refine Kd.C_drewN ?_ _) | (with_reducible refine Kd.C_drew ?_))); (case aB => exact (by repeat (first | (with_reducible first | exact HB.out | apply below_alloc | apply pw_below_drewN | apply below_drew1) | exact HB.out))); (case aF => exact (fun _ _ => trivial)); (case aO => exact (by (with_reducible repeat (first | apply Kd.R_alloc | apply Kd.R_drewN | apply Kd.R_drew)); exact HO103.out)); (case aS => exact (below_size (by repeat (first | (with_reducible first | exact HB.out | apply below_alloc | apply pw_below_drewN | apply below_drew1) | exact HB.out)))); (case aL => have := LMc3.out; omega); intro v105 w6 ho hb hg hat; rw [← Ny104.out] at ho; have n0_ := Aside0.mk (hb); have n1_ := Aside0.mk (ho); clear HB; clear HO103; have HB := n0_; have HO106 := n1_; clear n0_ n1_; clear ho hb hg hat))
  go_loopg [6] k (fun kq v6 w' => ∃ (x5_1 : List (S42)) (x6_1 : Int), v6 = .int .i64 x6_1 ∧ Aside0 (tenorlaw14_Mixed.l0 kq l1 x5_1 x6_1 = some r) ∧ Aside0 (kq ≤ k) ∧ Aside0 (Kd.R k42 42 w' w.heap.size (fun _ => True) v105 x5_1) ∧ Aside0 (Below w.heap.size w w'))
  case atStart => exact ⟨(y104), (0), (by first | rfl | (simp; done) | (simp [*]; done)), H', ⟨Nat.le_refl _⟩, ⟨by (with_reducible repeat (first | apply Kd.R_alloc | apply Kd.R_drewN | apply Kd.R_drew)); exact HO106.out⟩, ⟨by repeat (first | (with_reducible first | exact HB.out | apply below_alloc | apply pw_below_drewN | apply below_drew1) | exact HB.out)⟩⟩
  case round =>
    clear H'
    try clear c1
    try clear p2
    try clear c3
    obtain ⟨x5_1, x6_1, rfl, HA, HK1, HO_5, HB⟩ := hrel
    cases gk with
    | zero => exact absurd HA.out (by simp [tenorlaw14_Mixed.l0])
    | succ k1 =>
      have H := HA.out
      clear HA
      simp only [tenorlaw14_Mixed.l0] at H
      by_cases c7 : x6_1 < (x5_1.length : Int)
      rotate_left
      · rw [if_neg c7] at H
        have c7b0 : decide (x6_1 < (x5_1.length : Int)) = false := decide_eq_false c7
        clear c7
        obtain rfl := Option.some.inj H
        obtain ⟨Ao21, co21, eo21⟩ := Kd.R_slice HO_5.out
        subst eo21
        go_wp2
        go_ret
        exact ⟨_, by first | rfl | (simp [errW_none, errW_some] <;> rfl) | (simp [*, errW_none, errW_some] <;> rfl), by (with_reducible repeat (first | apply Kd.R_alloc | apply Kd.R_drewN | apply Kd.R_drew)); exact HO_5.out, by repeat (first | (with_reducible first | exact HB.out | apply below_alloc | apply pw_below_drewN | apply below_drew1) | exact HB.out)⟩
      rw [if_pos c7] at H
      have c7b0 : decide (x6_1 < (x5_1.length : Int)) = true := decide_eq_true c7
      clear c7
      by_cases c8 : x6_1 < (l1.length : Int)
      rotate_left
      · rw [if_neg c8] at H
        have c8b0 : decide (x6_1 < (l1.length : Int)) = false := decide_eq_false c8
        clear c8
        obtain rfl := Option.some.inj H
        obtain ⟨Ao20, co20, eo20⟩ := Kd.R_slice HO_5.out
        subst eo20
        go_wp2
        go_ret
        exact ⟨_, by first | rfl | (simp [errW_none, errW_some] <;> rfl) | (simp [*, errW_none, errW_some] <;> rfl), by (with_reducible repeat (first | apply Kd.R_alloc | apply Kd.R_drewN | apply Kd.R_drew)); exact HO_5.out, by repeat (first | (with_reducible first | exact HB.out | apply below_alloc | apply pw_below_drewN | apply below_drew1) | exact HB.out)⟩
      rw [if_pos c8] at H
      have c8b0 : decide (x6_1 < (l1.length : Int)) = true := decide_eq_true c8
      clear c8
      by_cases c9 : 0 ≤ x6_1
      rotate_left
      · rw [if_neg c9] at H
        exact absurd H (by simp)
      rw [if_pos c9] at H
      have c9b0 : decide (0 ≤ x6_1) = true := decide_eq_true c9
      clear c9
      by_cases c10 : (x5_1.length : Int) = 0
      · rw [if_pos c10] at H
        exact absurd H (by simp)
      · rw [if_neg c10] at H
        have c10b0 : ((x5_1.length : Int) == 0) = false := beq_eq_false_iff_ne.mpr c10
        have c10b1 : ((x5_1.length : Int) != 0) = true := bne_iff_ne.mpr c10
        have c10b2 : ¬ (x5_1 = []) := fun h_ => c10 (by rw [h_]; rfl)
        obtain ⟨ji11, hji11⟩ : ∃ j_ : Int, (Int.tmod (wrap64 ((Int.tmod (rd l1 x6_1) (x5_1.length : Int)) + (x5_1.length : Int))) (x5_1.length : Int)) = j_ := ⟨_, rfl⟩
        replace H : (if 0 ≤ (ji11) then (if (ji11) < (x5_1.length : Int) then (tenorlaw14_Mixed.l0 k1 l1 ((x5_1.set (x6_1 : Int).toNat (⟨(rd_T42 x5_1 (ji11)).f0, (rd_T42 x5_1 (ji11)).f1, (rd_T42 x5_1 (ji11)).f2⟩ : S42)).set ((ji11) : Int).toNat (⟨(rd_T42 x5_1 x6_1).f0, (rd_T42 x5_1 x6_1).f1, (rd_T42 x5_1 x6_1).f2⟩ : S42)) (wrap64 (x6_1 + 1))) else (none)) else (none)) = some r := by first | (rw [hji11] at H; exact H) | (simp only [hji11] at H ⊢; exact H)
        by_cases c12 : 0 ≤ (ji11)
        rotate_left
        · rw [if_neg c12] at H
          exact absurd H (by simp)
        rw [if_pos c12] at H
        have c12b0 : decide (0 ≤ (ji11)) = true := decide_eq_true c12
        clear c12
        by_cases c13 : (ji11) < (x5_1.length : Int)
        rotate_left
        · rw [if_neg c13] at H
          exact absurd H (by simp)
        rw [if_pos c13] at H
        have c13b0 : decide ((ji11) < (x5_1.length : Int)) = true := decide_eq_true c13
        clear c13
        obtain ⟨y110, hy110⟩ : ∃ y_ : List (S42), y_ = (x5_1.set (x6_1 : Int).toNat (⟨(rd_T42 x5_1 (ji11)).f0, (rd_T42 x5_1 (ji11)).f1, (rd_T42 x5_1 (ji11)).f2⟩ : S42)) := ⟨_, rfl⟩
        replace H : (tenorlaw14_Mixed.l0 k1 l1 (y110.set ((ji11) : Int).toNat (⟨(rd_T42 x5_1 x6_1).f0, (rd_T42 x5_1 x6_1).f1, (rd_T42 x5_1 x6_1).f2⟩ : S42)) (wrap64 (x6_1 + 1))) = some r := by first | (rw [hy110]; with_reducible exact H) | (have H2_ := (Option.bind_some _ _).symm.trans H; rw [hy110]; with_reducible exact H2_) | (have H2_ := (Option.bind_some _ _).symm.trans H; with_reducible exact H2_) | with_reducible exact H | (rw [hy110]; exact H) | exact H
        have Ny110 := Aside0.mk hy110
        clear hy110
        obtain ⟨y111, hy111⟩ : ∃ y_ : List (S42), y_ = (y110.set ((ji11) : Int).toNat (⟨(rd_T42 x5_1 x6_1).f0, (rd_T42 x5_1 x6_1).f1, (rd_T42 x5_1 x6_1).f2⟩ : S42)) := ⟨_, rfl⟩
        replace H : (tenorlaw14_Mixed.l0 k1 l1 y111 (wrap64 (x6_1 + 1))) = some r := by first | (rw [hy111]; with_reducible exact H) | (have H2_ := (Option.bind_some _ _).symm.trans H; rw [hy111]; with_reducible exact H2_) | (have H2_ := (Option.bind_some _ _).symm.trans H; with_reducible exact H2_) | with_reducible exact H | (rw [hy111]; exact H) | exact H
        have Ny111 := Aside0.mk hy111
        clear hy111
        have H' := Aside0.mk H
        clear H
        obtain ⟨Ao16, co16, eo16⟩ := Kd.R_slice HO_5.out
        subst eo16
        have p107 : 0 ≤ (x6_1 : Int) := of_decide_eq_true (by first | (with_reducible assumption) | assumption)
        have q107 : x6_1 < (l1.length : Int) := of_decide_eq_true (by first | (with_reducible assumption) | assumption)
        obtain ⟨ad107, e107, hx107_0⟩ := Kd.at_int HR1.out x6_1 p107 q107
        cases e107
        replace hx107_0 := (HB.out.cell (World.block_lt_of_cell? w _ hx107_0)).trans hx107_0
        replace p107 := eq_true p107
        replace q107 := eq_true q107
        try go_wp2
        have n0_ := Aside0.mk (Kd.R_drew HO_5.out)
        have n1_ := Aside0.mk (below_drew1 HB.out)
        clear HO_5
        clear HB
        have HO_5 := n0_
        have HB := n1_
        clear n0_ n1_
        have p108 : 0 ≤ ((ji11) : Int) := of_decide_eq_true (by first | (with_reducible assumption) | assumption)
        have q108 : (ji11) < (x5_1.length : Int) := of_decide_eq_true (by first | (with_reducible assumption) | assumption)
        obtain ⟨ad108, e108, hx108_0, hx108_1, hx108_2⟩ := at_T42 (Kd.R_reads' HO_5.out).2.2 (ji11) p108 q108
        cases e108
        replace p108 := eq_true p108
        replace q108 := eq_true q108
        have p109 : 0 ≤ (x6_1 : Int) := of_decide_eq_true (by first | (with_reducible assumption) | assumption)
        have q109 : x6_1 < (x5_1.length : Int) := of_decide_eq_true (by first | (with_reducible assumption) | assumption)
        obtain ⟨ad109, e109, hx109_0, hx109_1, hx109_2⟩ := at_T42 (Kd.R_reads' HO_5.out).2.2 x6_1 p109 q109
        obtain rfl : ad108 = ad109 := (by injection e109)
        replace p109 := eq_true p109
        replace q109 := eq_true q109
        have p14 : 0 ≤ (x6_1 : Int) := of_decide_eq_true (by first | (with_reducible assumption) | assumption)
        have q14 : (x6_1 : Int) < ((x5_1.length : Int) : Int) := of_decide_eq_true (by first | (with_reducible assumption) | assumption)
        obtain ⟨go14, co14, eo14, gb14, gl14, cl14, HG14⟩ := Kd.R_form HO_5.out (by omega)
        (first | cases eo14 | (injection eo14 with ea_ en_ ec_; (first | subst ea_ | (injection ea_ with ea_; subst ea_)); subst ec_; clear en_))
        have GB14 := Aside0.mk gb14
        have GG14 := Aside0.mk HG14
        clear gb14 gl14 HG14
        (first | simp only [add_plain] at hx108_0 | skip)
        (first | simp only [add_plain] at hx108_1 | skip)
        (first | simp only [add_plain] at hx108_2 | skip)
        (first | simp only [add_plain] at hx109_0 | skip)
        (first | simp only [add_plain] at hx109_1 | skip)
        (first | simp only [add_plain] at hx109_2 | skip)
        obtain ⟨ce14, hcl14, hM14, hcc14, hfr14⟩ := Kd.R_elem HO_5.out z42 (x6_1 : Int) p14 q14
        obtain rfl := k42_openM hM14
        have hx14_0 : World.cell? _ ⟨go14, (x6_1 : Int).toNat * 3, none⟩ = some (.int .i64 ((rd_T42 x5_1 x6_1).f0)) := hcc14 0 _ rfl
        have hx14_1 : World.cell? _ ⟨go14, (x6_1 : Int).toNat * 3 + 1, none⟩ = some (.float .f64 ((rd_T42 x5_1 x6_1).f1)) := hcc14 1 _ rfl
        have hx14_2 : World.cell? _ ⟨go14, (x6_1 : Int).toNat * 3 + 2, none⟩ = some (.int .i64 ((rd_T42 x5_1 x6_1).f2)) := hcc14 2 _ rfl
        have hf14_0 : World.frozen? _ ⟨go14, (x6_1 : Int).toNat * 3, none⟩ = false := hfr14 0
        have hf14_1 : World.frozen? _ ⟨go14, (x6_1 : Int).toNat * 3 + 1, none⟩ = false := hfr14 1
        have hf14_2 : World.frozen? _ ⟨go14, (x6_1 : Int).toNat * 3 + 2, none⟩ = false := hfr14 2
        clear hcl14 hcc14 hfr14 hM14
        replace p14 := eq_true p14
        replace q14 := eq_true q14
        obtain ⟨ce18, hcl18, hM18, hcc18, hfr18⟩ := Kd.R_elem HO_5.out z42 (x6_1 : Int) (of_decide_eq_true (by first | (with_reducible assumption) | assumption)) (by have h_ : (x6_1 : Int) < ((x5_1.length : Int) : Int) := of_decide_eq_true (by first | (with_reducible assumption) | assumption); first | exact h_ | (have e_ := (Kd.R_reads' HO_5.out).1; omega) | simpa using h_)
        obtain rfl := k42_openM hM18
        have HP18 := (Kd.R_seg HO_5.out (x6_1 : Int) (of_decide_eq_true (by first | (with_reducible assumption) | assumption)) (by have h_ : (x6_1 : Int) < ((x5_1.length : Int) : Int) := of_decide_eq_true (by first | (with_reducible assumption) | assumption); first | exact h_ | (have e_ := (Kd.R_reads' HO_5.out).1; omega) | simpa using h_) (seg := [.int .i64 ((rd_T42 x5_1 (ji11)).f0), .float .f64 ((rd_T42 x5_1 (ji11)).f1), .int .i64 ((rd_T42 x5_1 (ji11)).f2)]) (j := 0) hcl18 hcc18 (show 3 ≤ 3 from by decide) (x' := (⟨(rd_T42 x5_1 (ji11)).f0, (rd_T42 x5_1 (ji11)).f1, (rd_T42 x5_1 (ji11)).f2⟩ : S42)) (k42_mkM _ _ _ (⟨(rd_T42 x5_1 (ji11)).f0, (rd_T42 x5_1 (ji11)).f1, (rd_T42 x5_1 (ji11)).f2⟩ : S42) ) (fun _ hk => hk)).1
        rw [← Ny110.out] at HP18
        have HQ18 := Aside0.mk HP18
        clear hcl18 hcc18 hfr18 hM18 HP18
        have p15 : 0 ≤ ((ji11) : Int) := of_decide_eq_true (by first | (with_reducible assumption) | assumption)
        have q15 : ((ji11) : Int) < ((x5_1.length : Int) : Int) := of_decide_eq_true (by first | (with_reducible assumption) | assumption)
        obtain ⟨ce15, hcl15, hM15, hcc15, hfr15⟩ := Kd.R_elem HQ18.out z42 ((ji11) : Int) p15 q15
        obtain rfl := k42_openM hM15
        have hx15_0 : World.cell? _ ⟨go14, ((ji11) : Int).toNat * 3, none⟩ = some (.int .i64 ((rd_T42 y110 (ji11)).f0)) := hcc15 0 _ rfl
        have hx15_1 : World.cell? _ ⟨go14, ((ji11) : Int).toNat * 3 + 1, none⟩ = some (.float .f64 ((rd_T42 y110 (ji11)).f1)) := hcc15 1 _ rfl
        have hx15_2 : World.cell? _ ⟨go14, ((ji11) : Int).toNat * 3 + 2, none⟩ = some (.int .i64 ((rd_T42 y110 (ji11)).f2)) := hcc15 2 _ rfl
        have hf15_0 : World.frozen? _ ⟨go14, ((ji11) : Int).toNat * 3, none⟩ = false := hfr15 0
        have hf15_1 : World.frozen? _ ⟨go14, ((ji11) : Int).toNat * 3 + 1, none⟩ = false := hfr15 1
        have hf15_2 : World.frozen? _ ⟨go14, ((ji11) : Int).toNat * 3 + 2, none⟩ = false := hfr15 2
        clear hcl15 hcc15 hfr15 hM15
        replace p15 := eq_true p15
        replace q15 := eq_true q15
        obtain ⟨ce19, hcl19, hM19, hcc19, hfr19⟩ := Kd.R_elem HQ18.out z42 ((ji11) : Int) (of_decide_eq_true (by first | (with_reducible assumption) | assumption)) (by have h_ : ((ji11) : Int) < ((x5_1.length : Int) : Int) := of_decide_eq_true (by first | (with_reducible assumption) | assumption); first | exact h_ | (have e_ := (Kd.R_reads' HO_5.out).1; omega) | simpa using h_)
        obtain rfl := k42_openM hM19
        have HP19 := (Kd.R_seg HQ18.out ((ji11) : Int) (of_decide_eq_true (by first | (with_reducible assumption) | assumption)) (by have h_ : ((ji11) : Int) < ((x5_1.length : Int) : Int) := of_decide_eq_true (by first | (with_reducible assumption) | assumption); first | exact h_ | (have e_ := (Kd.R_reads' HO_5.out).1; omega) | simpa using h_) (seg := [.int .i64 ((rd_T42 x5_1 x6_1).f0), .float .f64 ((rd_T42 x5_1 x6_1).f1), .int .i64 ((rd_T42 x5_1 x6_1).f2)]) (j := 0) hcl19 hcc19 (show 3 ≤ 3 from by decide) (x' := (⟨(rd_T42 x5_1 x6_1).f0, (rd_T42 x5_1 x6_1).f1, (rd_T42 x5_1 x6_1).f2⟩ : S42)) (k42_mkM _ _ _ (⟨(rd_T42 x5_1 x6_1).f0, (rd_T42 x5_1 x6_1).f1, (rd_T42 x5_1 x6_1).f2⟩ : S42) ) (fun _ hk => hk)).1
        rw [← Ny111.out] at HP19
        have HQ19 := Aside0.mk HP19
        clear hcl19 hcc19 hfr19 hM19 HP19
        refine start_ (n := 16) (S := fun w' => w'.cell? ⟨go14, ((ji11)).toNat * 3, none⟩ = some (.int .i64 ((rd_T42 x5_1 (ji11)).f0)) ∧ w'.cell? ⟨go14, ((ji11)).toNat * 3 + 1, none⟩ = some (.float .f64 ((rd_T42 x5_1 (ji11)).f1)) ∧ w'.cell? ⟨go14, ((ji11)).toNat * 3 + 2, none⟩ = some (.int .i64 ((rd_T42 x5_1 (ji11)).f2)) ∧ w'.cell? ⟨go14, ((x6_1).toNat * 3), none⟩ = some (.int .i64 ((rd_T42 x5_1 x6_1).f0)) ∧ w'.cell? ⟨go14, ((x6_1).toNat * 3) + 1, none⟩ = some (.float .f64 ((rd_T42 x5_1 x6_1).f1)) ∧ w'.cell? ⟨go14, ((x6_1).toNat * 3) + 2, none⟩ = some (.int .i64 ((rd_T42 x5_1 x6_1).f2))) (ds := [13, 15]) (dnA 16 0) (by kernel_rfl) rfl rfl ⟨hx108_0, hx108_1, hx108_2, hx109_0, hx109_1, hx109_2⟩ (fun hHeld => ?_); refine with_tabW tenorlaw14_Mixed.tab6 tenorlaw14_Mixed.bits6 (fun HT_ HW_ => ?_)
        generalize wr.drew = w17 at HO_5 HB GG14 HQ18 HQ19 hf14_0 hf14_1 hf14_2 hf15_0 hf15_1 hf15_2 hx108_0 hx108_1 hx108_2 hx109_0 hx109_1 hx109_2 hx14_0 hx14_1 hx14_2 hx15_0 hx15_1 hx15_2 hHeld ⊢
        refine pure_ (i := 0) (N := some 36) (v := ?_) (a' := ?_) (dnA 16 1) rfl rfl (any_of HT_.out (by kernel_rfl)) (fun _ _ _ h => h) (Or.inl ⟨by rfl, ?_⟩) ?_ ?_
        rotate_left
        · intro w'
          go_simp
          with_reducible rfl
        rotate_left
        · simp only [Act.put, List.setIfInBounds_toArray, List.set_cons_zero, List.set_cons_succ, i64_w, i32_w]
          rfl
        refine pure_ (i := 1) (N := some 37) (v := ?_) (a' := ?_) (dnA 16 3) rfl rfl (any_of HT_.out (by kernel_rfl)) (fun _ _ _ h => h) (Or.inl ⟨by rfl, ?_⟩) ?_ ?_
        rotate_left
        · intro w'
          go_simp
          with_reducible rfl
        rotate_left
        · simp only [Act.put, List.setIfInBounds_toArray, List.set_cons_zero, List.set_cons_succ, i64_w, i32_w]
          rfl
        refine pure_ (i := 2) (N := some 38) (v := ?_) (a' := ?_) (dnA 16 7) rfl rfl (any_of HT_.out (by kernel_rfl)) (fun _ _ _ h => h) (Or.inl ⟨by rfl, ?_⟩) ?_ ?_
        rotate_left
        · intro w'
          go_simp
          with_reducible rfl
        rotate_left
        · simp only [Act.put, List.setIfInBounds_toArray, List.set_cons_zero, List.set_cons_succ, i64_w, i32_w]
          rfl
        refine pure_ (i := 3) (N := some 39) (v := ?_) (a' := ?_) (dnA 16 15) rfl rfl (any_of HT_.out (by kernel_rfl)) (fun _ _ _ h => h) (Or.inl ⟨by rfl, ?_⟩) ?_ ?_
        rotate_left
        · intro w'
          go_simp
          with_reducible rfl
        rotate_left
        · simp only [Act.put, List.setIfInBounds_toArray, List.set_cons_zero, List.set_cons_succ, i64_w, i32_w]
          rfl
        refine pure_ (i := 4) (N := some 40) (v := ?_) (a' := ?_) (dnA 16 31) rfl rfl (any_of HT_.out (by kernel_rfl)) (fun _ _ _ h => h) (Or.inl ⟨by rfl, ?_⟩) ?_ ?_
        rotate_left
        · intro w'
          go_simp
          with_reducible rfl
        rotate_left
        · simp only [Act.put, List.setIfInBounds_toArray, List.set_cons_zero, List.set_cons_succ, i64_w, i32_w]
          rfl
        refine pure_ (i := 5) (N := some 41) (v := ?_) (a' := ?_) (dnA 16 63) rfl rfl (any_of HT_.out (by kernel_rfl)) (fun _ _ _ h => h) (Or.inl ⟨by rfl, ?_⟩) ?_ ?_
        rotate_left
        · intro w'
          go_simp
          with_reducible rfl
        rotate_left
        · simp only [Act.put, List.setIfInBounds_toArray, List.set_cons_zero, List.set_cons_succ, i64_w, i32_w]
          rfl
        refine pure_ (i := 6) (N := some 42) (v := ?_) (a' := ?_) (dnA 16 127) rfl rfl (any_of HT_.out (by kernel_rfl)) (fun _ _ _ h => h) (Or.inl ⟨by rfl, ?_⟩) ?_ ?_
        rotate_left
        · intro w'
          go_simp
          with_reducible rfl
        rotate_left
        · simp only [Act.put, List.setIfInBounds_toArray, List.set_cons_zero, List.set_cons_succ, i64_w, i32_w]
          rfl
        refine pure_ (i := 8) (N := some 44) (v := ?_) (a' := ?_) (dnA 16 383) rfl rfl (any_of HT_.out (by kernel_rfl)) (fun _ _ _ h => h) (Or.inl ⟨by rfl, ?_⟩) ?_ ?_
        rotate_left
        · intro w'
          go_simp
          with_reducible rfl
        rotate_left
        · simp only [Act.put, List.setIfInBounds_toArray, List.set_cons_zero, List.set_cons_succ, i64_w, i32_w]
          rfl
        refine pure_ (i := 9) (N := some 45) (v := ?_) (a' := ?_) (dnA 16 895) rfl rfl (any_of HT_.out (by kernel_rfl)) (fun _ _ _ h => h) (Or.inl ⟨by rfl, ?_⟩) ?_ ?_
        rotate_left
        · intro w'
          go_simp
          with_reducible rfl
        rotate_left
        · simp only [Act.put, List.setIfInBounds_toArray, List.set_cons_zero, List.set_cons_succ, i64_w, i32_w]
          rfl
        refine pure_ (i := 10) (N := some 46) (v := ?_) (a' := ?_) (dnA 16 1919) rfl rfl (any_of HT_.out (by kernel_rfl)) (fun _ _ _ h => h) (Or.inl ⟨by rfl, ?_⟩) ?_ ?_
        rotate_left
        · intro w'
          go_simp
          with_reducible rfl
        rotate_left
        · simp only [Act.put, List.setIfInBounds_toArray, List.set_cons_zero, List.set_cons_succ, i64_w, i32_w]
          rfl
        refine take_ (i := 7) (N := some 43) (v := ?_) (a' := ?_) (dnA 16 2047) rfl rfl (take_ofW HT_.out HW_.out (by kernel_rfl)) (fun _ _ _ h => h) (Or.inl ⟨by rfl, ?_⟩) hHeld ?_ ?_
        rotate_left
        · rintro w' ⟨s0, s1, s2, s3, s4, s5⟩
          go_simp
          with_reducible rfl
        rotate_left
        · simp only [Act.put, List.setIfInBounds_toArray, List.set_cons_zero, List.set_cons_succ, i64_w, i32_w]
          rfl
        refine take_ (i := 11) (N := some 47) (v := ?_) (a' := ?_) (dnA 16 4095) rfl rfl (take_ofW HT_.out HW_.out (by kernel_rfl)) (fun _ _ _ h => h) (Or.inl ⟨by rfl, ?_⟩) hHeld ?_ ?_
        rotate_left
        · rintro w' ⟨s0, s1, s2, s3, s4, s5⟩
          go_simp
          with_reducible rfl
        rotate_left
        · simp only [Act.put, List.setIfInBounds_toArray, List.set_cons_zero, List.set_cons_succ, i64_w, i32_w]
          rfl
        refine pure_ (i := 12) (N := some 48) (v := ?_) (a' := ?_) (dnA 16 8191) rfl rfl (any_of HT_.out (by kernel_rfl)) (fun _ _ _ h => h) (Or.inl ⟨by rfl, ?_⟩) ?_ ?_
        rotate_left
        · intro w'
          go_simp
          with_reducible rfl
        rotate_left
        · simp only [Act.put, List.setIfInBounds_toArray, List.set_cons_zero, List.set_cons_succ, i64_w, i32_w]
          rfl
        refine last_ (i := 13) (N := none) (dnA 16 16383) rfl rfl (one_of HT_.out (by kernel_rfl)) (by decide) (fun K hK => ?_)
        refine skip_ (w1 := ?_) (by rfl) rfl ?_ ?_
        rotate_left
        · go_simp
          rfl
        refine hK.out _ _ ?_
        clear hK K
        refine pure_ (i := 14) (N := some 49) (v := ?_) (a' := ?_) (dnA 16 32767) rfl rfl (any_of HT_.out (by kernel_rfl)) (fun _ _ _ h => h) (Or.inl ⟨by rfl, ?_⟩) ?_ ?_
        rotate_left
        · intro w'
          go_simp
          with_reducible rfl
        rotate_left
        · simp only [Act.put, List.setIfInBounds_toArray, List.set_cons_zero, List.set_cons_succ, i64_w, i32_w]
          rfl
        have hfr16 := (Kd.R_elem HO_5.out z42 ((ji11) : Int) (of_eq_true p15) (of_eq_true q15)).choose_spec.2.2.2
        have hf16_0 : World.frozen? _ ⟨go14, ((ji11) : Int).toNat * 3, none⟩ = false := hfr16 0
        have hf16_1 : World.frozen? _ ⟨go14, ((ji11) : Int).toNat * 3 + 1, none⟩ = false := hfr16 1
        have hf16_2 : World.frozen? _ ⟨go14, ((ji11) : Int).toNat * 3 + 2, none⟩ = false := hfr16 2
        clear hfr16
        by_cases hxy : ji11 = x6_1
        · subst hxy
          refine last_ (i := 15) (N := none) (dnA 16 65535) rfl rfl (one_of HT_.out (by kernel_rfl)) (by decide) (fun K hK => ?_)
          refine skip_ (w1 := ?_) (by rfl) rfl ?_ ?_
          rotate_left
          · go_simp
            rfl
          refine hK.out _ _ ?_
          clear hK K
          refine done_ (done_of HT_.out (by kernel_rfl)) ?_
          try go_wp2
          go_roundg k1
          case measure => have := HK1.out; omega
          case rel => exact ⟨(y111), (wrap64 (ji11 + 1)), (by first | rfl | (simp; done) | (simp [*]; done)), H', ⟨by have := HK1.out; omega⟩, ⟨by (with_reducible repeat (first | apply Kd.R_alloc | apply Kd.R_drewN | apply Kd.R_drew)); exact HQ19.out⟩, ⟨by repeat (first | (with_reducible first | exact HB.out | apply below_alloc | apply pw_below_drewN | apply below_drew1 | refine below_set ?_ GB14.out | refine below_set ?_ GB14.out | refine below_set ?_ GB14.out | refine below_set ?_ GB14.out | refine below_set ?_ GB14.out | refine below_set ?_ GB14.out) | exact HB.out)⟩⟩
        · have hne1 : (x6_1.toNat * 3 = ji11.toNat * 3) = False := eq_false (by have a_ := of_eq_true p14; have b_ := of_eq_true p15; omega)
          have hne2 : (ji11.toNat * 3 = x6_1.toNat * 3) = False := eq_false (by have a_ := of_eq_true p14; have b_ := of_eq_true p15; omega)
          have hne3 : (x6_1.toNat = ji11.toNat) = False := eq_false (by have a_ := of_eq_true p14; have b_ := of_eq_true p15; omega)
          have hne4 : (ji11.toNat = x6_1.toNat) = False := eq_false (by have a_ := of_eq_true p14; have b_ := of_eq_true p15; omega)
          refine last_ (i := 15) (N := none) (dnA 16 65535) rfl rfl (one_of HT_.out (by kernel_rfl)) (by decide) (fun K hK => ?_)
          refine skip_ (w1 := ?_) (by rfl) rfl ?_ ?_
          rotate_left
          · go_simp
            rfl
          refine hK.out _ _ ?_
          clear hK K
          refine done_ (done_of HT_.out (by kernel_rfl)) ?_
          try go_wp2
          go_roundg k1
          case measure => have := HK1.out; omega
          case rel => exact ⟨(y111), (wrap64 (x6_1 + 1)), (by first | rfl | (simp; done) | (simp [*]; done)), H', ⟨by have := HK1.out; omega⟩, ⟨by (with_reducible repeat (first | apply Kd.R_alloc | apply Kd.R_drewN | apply Kd.R_drew)); exact HQ19.out⟩, ⟨by repeat (first | (with_reducible first | exact HB.out | apply below_alloc | apply pw_below_drewN | apply below_drew1 | refine below_set ?_ GB14.out | refine below_set ?_ GB14.out | refine below_set ?_ GB14.out | refine below_set ?_ GB14.out | refine below_set ?_ GB14.out | refine below_set ?_ GB14.out) | exact HB.out)⟩⟩

end Go.Proofs.Ytepcegiciecogaa.FO
