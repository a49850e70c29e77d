/- Written by the session's fprint.py out of the translation. -/
import Derived.Test.YtepcegiciecogaaGreatFRx0
import Derived.Test.YtepcegiciecogaaGreatFRx1
import Derived.Test.YtepcegiciecogaaGreatFRx5
import Derived.Test.YtepcegiciecogaaGreatFRx6
namespace Go.Proofs.YtepcegiciecogaaGreat.FR
open Go.RowKit Go.Proofs.YtepcegiciecogaaGreatW.PrintWords Go.Proofs.YtepcegiciecogaaGreatW.PrintLast Go.Proofs.YtepcegiciecogaaGreatW.PrintMore
attribute [local go_sem] max2_int min2_int max_two min_two max_three min_three max_four min_four   -- for this text's walks alone
open Go.Proofs.YtepcegiciecogaaGreat.FX
attribute [local go_sem] run_store_float run_neg_float run_fmul isSome_setCell 
set_option linter.unusedVariables false
set_option linter.unusedSimpArgs false

/-! ### tenorref1_DivDigits: function 133 -/
mutual
def tenorref1_DivDigits.l0 : Nat → List Int → List Int → List Int → List Int → Int → Option (List Int × List Int)
  | 0, _, _, _, _, _ => none
  | k + 1, x0, x1, x6, x7, x8 => if x8 ≥ 0 then ((tenorref1_ShiftUp.f k x6 1).bind fun t289 => (if 0 ≤ (wrap64 (Int.tdiv x8 32)) then (if (wrap64 (Int.tdiv x8 32)) < (x0.length : Int) then (if 0 ≤ (Int.tmod x8 32) then (if (Int.tmod (shr .u64 (rd x0 (wrap64 (Int.tdiv x8 32))) (Int.tmod x8 32)) 2) = 1 then ((tenorref1_AddDigits.f k t289 (([1] : List Int))).bind fun t296 => (tenorref1_DivDigits.j1 k x0 x1 t296 x7 x8)) else (tenorref1_DivDigits.j1 k x0 x1 t289 x7 x8)) else (none)) else (none)) else (none))) else ((tenorref1_trim.f k x7).bind fun t286 => (some (t286, x6)))
def tenorref1_DivDigits.j1 : Nat → List Int → List Int → List Int → List Int → Int → Option (List Int × List Int)
  | 0, _, _, _, _, _ => none
  | k + 1, x0, x1, x6, x7, x8 => (tenorref1_CmpDigits.f k x6 x1).bind fun t299 => (if t299 ≥ 0 then ((tenorref1_SubDigits.f k x6 x1).bind fun t300 => (if 0 ≤ (wrap64 (Int.tdiv x8 32)) then (if (wrap64 (Int.tdiv x8 32)) < (x7.length : Int) then (if 0 ≤ (Int.tmod x8 32) then (tenorref1_DivDigits.l0 k x0 x1 t300 (x7.set ((wrap64 (Int.tdiv x8 32)) : Int).toNat (IntKind.u64.wrap ((rd x7 (wrap64 (Int.tdiv x8 32))) + (shl .u64 1 (Int.tmod x8 32))))) (wrap64 (x8 - 1))) else (none)) else (none)) else (none))) else (tenorref1_DivDigits.l0 k x0 x1 x6 x7 (wrap64 (x8 - 1))))
end
def tenorref1_DivDigits.f (k : Nat) (l0 : List Int) (l1 : List Int) : Option (List Int × List Int) := if 0 ≤ (l0.length : Int) then (if ((l0.length : Int) : Int).toNat ≤ 35184372088832 then ((tenorref1_Len.f k l0).bind fun t285 => (tenorref1_DivDigits.l0 k l0 l1 ([] : List Int) (List.replicate ((l0.length : Int) : Int).toNat 0) (wrap64 (t285 - 1)))) else (none)) else (none)
def tenorref1_DivDigits.T11 : Bool × List (List Nat × List Nat) := (true, [([], []), ([], []), ([1], [1]), ([], []), ([], []), ([4], [4]), ([3, 5], [3, 5]), ([6], [6]), ([], []), ([8], [8]), ([9], [9]), ([7, 10], [7, 10]), ([0, 2, 0, 1, 2, 3, 4, 5, 6, 7, 8, 9, 10, 11], [0, 2]), ([12, 11, 0, 1, 2, 3, 4, 5, 6, 7, 8, 9, 10, 11], [11, 12])])
def tenorref1_DivDigits.B11 : List Nat := [0, 0, 2, 0, 0, 16, 56, 120, 0, 256, 768, 2040, 4095, 8191]
theorem tenorref1_DivDigits.tab11 : rtab .any (opsOf Tryz.f133 11) = tenorref1_DivDigits.T11 := by kernel_rfl
theorem tenorref1_DivDigits.bits11 : waitsOk tenorref1_DivDigits.T11.2 tenorref1_DivDigits.B11 = true := by kernel_rfl
set_option maxHeartbeats 8000000 in
set_option maxRecDepth 100000 in
theorem tenorref1_DivDigits.calls (k : Nat) (A0 : Option Addr) (c0 : Nat) (l0 : List Int) (A1 : Option Addr) (c1 : Nat) (l1 : List Int) (r1 : List Int) (r2 : List Int) (w : World) (hr0 : Kd.C (Kd.int .u64) w A0 l0.length l0) (hc0 : l0.length ≤ c0) (hr1 : Kd.C (Kd.int .u64) w A1 l1.length l1) (hc1 : l1.length ≤ c1) (h : tenorref1_DivDigits.f k l0 l1 = some (r1, r2)) :
    Calls Tryz.prog 133 #[.slice A0 l0.length c0, .slice A1 l1.length c1] w fun e w' => ∃ v0_ v1_ : Value, e = .returned (.tuple #[v0_, v1_]) ∧ Kd.R (Kd.int .u64) 36 w' w.heap.size (fun k_ => some k_ ≠ (v1_ : Value).ownBlock) v0_ r1 ∧ Kd.R (Kd.int .u64) 36 w' w.heap.size (fun k_ => some k_ ≠ (v0_ : Value).ownBlock) v1_ r2 ∧ Below w.heap.size w w' := by
  have HR0 := Aside0.mk hr0
  have HC0 := Aside0.mk hc0
  clear hr0 hc0
  have HR1 := Aside0.mk hr1
  have HC1 := Aside0.mk hc1
  clear hr1 hc1
  have HB := Aside0.mk (Below.refl w.heap.size w)
  have H : (if 0 ≤ (l0.length : Int) then (if ((l0.length : Int) : Int).toNat ≤ 35184372088832 then ((tenorref1_Len.f k l0).bind fun t285 => (tenorref1_DivDigits.l0 k l0 l1 ([] : List Int) (List.replicate ((l0.length : Int) : Int).toNat 0) (wrap64 (t285 - 1)))) else (none)) else (none)) = some (r1, r2) := h
  clear h
  by_cases c3 : 0 ≤ (l0.length : Int)
  rotate_left
  · rw [if_neg c3] at H
    exact absurd H (by simp)
  rw [if_pos c3] at H
  have c3b0 := eq_true c3
  have c3b1 : decide (0 ≤ (l0.length : Int)) = true := decide_eq_true c3
  clear c3
  by_cases c4 : ((l0.length : Int) : Int).toNat ≤ 35184372088832
  rotate_left
  · rw [if_neg c4] at H
    exact absurd H (by simp)
  rw [if_pos c4] at H
  have c4b0 := eq_true c4
  have c4b1 : decide (((l0.length : Int) : Int).toNat ≤ 35184372088832) = true := decide_eq_true c4
  clear c4
  obtain ⟨y282, hy282⟩ : ∃ y_ : List Int, y_ = (List.replicate ((l0.length : Int) : Int).toNat 0) := ⟨_, rfl⟩
  replace H : ((tenorref1_Len.f k l0).bind fun t285 => (tenorref1_DivDigits.l0 k l0 l1 ([] : List Int) y282 (wrap64 (t285 - 1)))) = some (r1, r2) := by first | (rw [hy282]; with_reducible exact H) | (have H2_ := (Option.bind_some _ _).symm.trans H; rw [hy282]; with_reducible exact H2_) | (have H2_ := (Option.bind_some _ _).symm.trans H; with_reducible exact H2_) | with_reducible exact H | (rw [hy282]; exact H) | exact H
  have Ny282 := Aside0.mk hy282
  clear hy282
  replace H := Option.bind_eq_some_iff.mp H
  obtain ⟨t285, A50, H⟩ := H
  have A5 := Aside0.mk A50
  clear A50
  have H' := Aside0.mk H
  clear H
  go_enter Tryz.func133, Tryz.ntmps133
  go_wp2_with (first | ((with_reducible refine gate_dst (N := 11) rfl ?_); refine Kd.R_make (Kd.int .u64) _ 36 rfl (N := 11) rfl 49 _ _ rfl (l0.length : Int) rfl rfl Tryz.underlying49 (.int .u64 0) 8 info36 rfl (by decide) (by omega) 0 (ok := fun _ => True) (okp := fun _ => True) rfl (fun _ hk => hk) trivial (of_decide_eq_true asA) (Nat.le_trans (Nat.mul_le_mul_right _ (of_decide_eq_true asA : (l0.length : Int).toNat ≤ 35184372088832)) (by omega)) (Below.refl _ _) (Nat.le_refl _) ?_; intro v283 w6 ho7 hb hg_ hnew_; clear hg_ hnew_; (first | rw [← Ny282.out] at ho7 | (simp only [Int.reduceToNat] at ho7; rw [← Ny282.out] at ho7)); have n0_ := Aside0.mk (Kd.R_lower ho7 (below_size (bA HB.out))); have n1_ := Aside0.mk (below_step (bA HB.out) hb); clear HB; have HO284 := n0_; have HB := n1_; clear n0_ n1_; clear hb ho7) | ((with_reducible refine gate_callee (f := 132) rfl ?_); refine goesL_ (some 13) rfl rfl Tryz.func132 (by kernel_rfl) rfl #[.slice A0 l0.length c0] rfl mA ?_; (with_reducible refine (tenorref1_Len.calls k _ _ l0 t285 _ ?side1 ?side2 A5.out).mono ?_); (case side1 => exact cA (Kd.C_below HR0.out HB.out)); (case side2 => exact HC0.out); rintro e w' ⟨rfl, ⟨nd, rfl⟩⟩; refine ⟨_, rfl, ?_⟩))
  go_loopg [6, 8] k (fun kq v6 v8 w' => ∃ (x6_1 : List Int) (x7_1 : List Int) (x8_1 : Int), v8 = .int .i64 x8_1 ∧ Aside0 (tenorref1_DivDigits.l0 kq l0 l1 x6_1 x7_1 x8_1 = some (r1, r2)) ∧ Aside0 (kq ≤ k) ∧ Aside0 (Kd.R (Kd.int .u64) 36 w' w.heap.size (fun k_ => some k_ ≠ (v283 : Value).ownBlock) v6 x6_1) ∧ Aside0 (Kd.R (Kd.int .u64) 36 w' w.heap.size (fun k_ => some k_ ≠ (v6 : Value).ownBlock) v283 x7_1) ∧ Aside0 (Below w.heap.size w w'))
  case atStart => exact ⟨(([] : List Int)), (y282), (wrap64 (t285 - 1)), (by first | (with_reducible rfl) | (simp; done) | (simp [*]; done) | rfl), H', ⟨Nat.le_refl _⟩, ⟨by first | exact Kd.R_nil _ _ _ _ _ | exact Kd.N_nil _ _ _ _ _ | exact Kd.V_nil _ _ _ _ _ | exact Kd.Q_nil _ _ _ _ _ | exact Kd.S_nil _ _ _ _ _⟩, ⟨rA (Kd.R_mono HO284.out (fun _ hk => (by simp [Value.ownBlock])))⟩, ⟨bA HB.out⟩⟩
  case round =>
    clear H'
    try clear c1
    try clear p2
    try clear c3
    try clear c3b0
    try clear c3b1
    try clear c4
    try clear c4b0
    try clear c4b1
    try clear p6
    obtain ⟨x6_1, x7_1, x8_1, rfl, HA, HK1, HO_6, HO_7, HB⟩ := hrel
    cases gk with
    | zero => exact absurd HA.out (by simp [tenorref1_DivDigits.l0])
    | succ k1 =>
      have H := HA.out
      clear HA
      simp only [tenorref1_DivDigits.l0] at H
      by_cases c8 : x8_1 ≥ 0
      rotate_left
      · rw [if_neg c8] at H
        have c8b0 : decide (0 ≤ x8_1) = false := decide_eq_false c8
        clear c8
        replace H := Option.bind_eq_some_iff.mp H
        obtain ⟨t286, A420, H⟩ := H
        have A42 := Aside0.mk A420
        clear A420
        simp only [Option.some.injEq, Prod.mk.injEq] at H
        obtain ⟨rfl, rfl⟩ := H
        obtain ⟨Ao43, co43, eo43⟩ := Kd.R_slice HO_7.out
        subst eo43
        go_wp2_with (first | ((with_reducible refine gate_callee (f := 141) rfl ?_); refine goesL_ (some 55) rfl rfl Tryz.func141 (by kernel_rfl) rfl #[.slice Ao43 x7_1.length co43] rfl mA ?_; (with_reducible refine (tenorref1_trim.calls k1 (fun k_ => some k_ = (.slice Ao43 x7_1.length co43 : Value).ownBlock) (.slice Ao43 x7_1.length co43) x7_1 t286 w _ ?side1 ?side2 A42.out).mono ?_); (case side1 => exact bA HB.out); (case side2 => exact Kd.R_tight rfl HO_7.out); rintro e w44 ⟨v287, rfl, ho0, hb, hkp⟩; refine ⟨_, rfl, ?_⟩; have n0_ := Aside0.mk (Kd.R_mono (ok' := fun k_ => some k_ ≠ (v287 : Value).ownBlock) (Kd.R_keptB (HO_6.out) hkp (fun k_ hk_ hs_ => (hk_) hs_)) (fun k_ hk_ => fun e_ => Or.elim (ho0.1 k_ e_.symm) (fun hs_ => hk_.2.1 hs_) (fun hn_ => Nat.not_le.2 hk_.2.2 hn_))); have n1_ := Aside0.mk (Kd.R_mono (ok' := fun k_ => some k_ ≠ (u6 : Value).ownBlock) ho0 (fun k_ hk_ => Or.elim hk_ (fun hs_ => fun e_ => (((HO_6.out).1 k_ e_.symm)) hs_) (fun hn_ => (Kd.fresh' (Kd.R_lt (rA HO_6.out)) k_ hn_)))); have n2_ := Aside0.mk (hb); clear HO_6; clear HB; clear HO_7; have HO_6 := n0_; have HO288 := n1_; have HB := n2_; clear n0_ n1_ n2_; (try clear hb); (try clear hkp); (try clear ho0)))
        go_ret2
        exact ⟨_, _, by first | rfl | (simp [errW_none, errW_some] <;> rfl) | (simp [*, errW_none, errW_some] <;> rfl), by (with_reducible repeat (first | apply Kd.R_alloc | apply Kd.R_drewN | apply Kd.R_drew)); exact HO288.out, by (with_reducible repeat (first | apply Kd.R_alloc | apply Kd.R_drewN | apply Kd.R_drew)); exact HO_6.out, bA HB.out⟩
      rw [if_pos c8] at H
      have c8b0 : decide (0 ≤ x8_1) = true := decide_eq_true c8
      clear c8
      replace H := Option.bind_eq_some_iff.mp H
      obtain ⟨t289, A90, H⟩ := H
      have A9 := Aside0.mk A90
      clear A90
      obtain ⟨ji10, hji10⟩ : ∃ j_ : Int, (wrap64 (Int.tdiv x8_1 32)) = j_ := ⟨_, rfl⟩
      replace H : (if 0 ≤ (ji10) then (if (ji10) < (l0.length : Int) then (if 0 ≤ (Int.tmod x8_1 32) then (if (Int.tmod (shr .u64 (rd l0 (ji10)) (Int.tmod x8_1 32)) 2) = 1 then ((tenorref1_AddDigits.f k1 t289 (([1] : List Int))).bind fun t296 => (tenorref1_DivDigits.j1 k1 l0 l1 t296 x7_1 x8_1)) else (tenorref1_DivDigits.j1 k1 l0 l1 t289 x7_1 x8_1)) else (none)) else (none)) else (none)) = some (r1, r2) := by first | (rw [hji10] at H; exact H) | (simp only [hji10] at H ⊢; exact H)
      (try rw [hji10] at A9)
      have hji10w : (IntKind.i64.wrap (Int.tdiv x8_1 32)) = ji10 := (i64_w _).trans hji10
      by_cases c11 : 0 ≤ (ji10)
      rotate_left
      · rw [if_neg c11] at H
        exact absurd H (by simp)
      rw [if_pos c11] at H
      have c11b0 : decide (0 ≤ (ji10)) = true := decide_eq_true c11
      clear c11
      by_cases c12 : (ji10) < (l0.length : Int)
      rotate_left
      · rw [if_neg c12] at H
        exact absurd H (by simp)
      rw [if_pos c12] at H
      have c12b0 : decide ((ji10) < (l0.length : Int)) = true := decide_eq_true c12
      clear c12
      obtain ⟨ji13, hji13⟩ : ∃ j_ : Int, (Int.tmod x8_1 32) = j_ := ⟨_, rfl⟩
      replace H : (if 0 ≤ (ji13) then (if (Int.tmod (shr .u64 (rd l0 (ji10)) (ji13)) 2) = 1 then ((tenorref1_AddDigits.f k1 t289 (([1] : List Int))).bind fun t296 => (tenorref1_DivDigits.j1 k1 l0 l1 t296 x7_1 x8_1)) else (tenorref1_DivDigits.j1 k1 l0 l1 t289 x7_1 x8_1)) else (none)) = some (r1, r2) := by first | (rw [hji13] at H; exact H) | (simp only [hji13] at H ⊢; exact H)
      (try rw [hji13] at A9)
      by_cases c14 : 0 ≤ (ji13)
      rotate_left
      · rw [if_neg c14] at H
        exact absurd H (by simp)
      rw [if_pos c14] at H
      have c14b0 := eq_true c14
      have c14b1 : decide (0 ≤ (ji13)) = true := decide_eq_true c14
      clear c14
      obtain ⟨ji15, hji15⟩ : ∃ j_ : Int, (shr .u64 (rd l0 (ji10)) (ji13)) = j_ := ⟨_, rfl⟩
      replace H : (if (Int.tmod (ji15) 2) = 1 then ((tenorref1_AddDigits.f k1 t289 (([1] : List Int))).bind fun t296 => (tenorref1_DivDigits.j1 k1 l0 l1 t296 x7_1 x8_1)) else (tenorref1_DivDigits.j1 k1 l0 l1 t289 x7_1 x8_1)) = some (r1, r2) := by first | (rw [hji15] at H; exact H) | (simp only [hji15] at H ⊢; exact H)
      (try rw [hji15] at A9)
      have hji15_ : ((rd l0 (ji10)) / 2 ^ min (ji13).toNat 64) = ji15 := hji15
      have hji15z : (ji13) ≤ 64 → ((rd l0 (ji10)) / 2 ^ (ji13).toNat) = ji15 := shr_small hji15
      have HC16 := Aside0.mk H
      clear H
      obtain ⟨Ao17, co17, eo17⟩ := Kd.R_slice HO_6.out
      subst eo17
      go_upto_if 30 with (first | ((with_reducible refine gate_callee (f := 134) rfl ?_); refine goesL_ (some 20) rfl rfl Tryz.func134 (by kernel_rfl) rfl #[.slice Ao17 x6_1.length co17, .int .i64 1] rfl mA ?_; (with_reducible refine (tenorref1_ShiftUp.calls k1 _ _ x6_1 1 t289 _ ?side1 ?side2 A9.out).mono ?_); (case side1 => exact cA ((Kd.R_reads' HO_6.out).2.2)); (case side2 => exact (Kd.R_reads' HO_6.out).2.1); rintro e w18 ⟨v290, rfl, ho0, hb⟩; refine ⟨_, rfl, ?_⟩; have n0_ := Aside0.mk (Kd.R_elder' (rA HO_6.out) (Kd.R_base ho0) hb); have n1_ := Aside0.mk (Kd.R_elder' (rA HO_7.out) (Kd.R_base ho0) hb); have n2_ := Aside0.mk (Kd.R_lower (Kd.R_new' (Kd.R_new' ho0 (Kd.R_lt (rA HO_6.out))) (Kd.R_lt (rA HO_7.out))) (below_size (bA HB.out))); have n3_ := Aside0.mk (below_step (bA HB.out) hb); clear HO_6; clear HO_7; clear HB; have HO_6 := n0_; have HO_7 := n1_; have HO291 := n2_; have HB := n3_; clear n0_ n1_ n2_ n3_; (try clear hb); (try clear hb2); (try clear hk); (try clear hi); (try clear ho0); have p292 : 0 ≤ ((ji10) : Int) := of_decide_eq_true asA; have q292 : (ji10) < (l0.length : Int) := of_decide_eq_true asA; obtain ⟨ad292, e292, hx292_0⟩ := Kd.at_int HR0.out (ji10) p292 q292; cases e292; replace hx292_0 := (HB.out.cell (World.block_lt_of_cell? w _ hx292_0)).trans hx292_0; replace p292 := eq_true p292; replace q292 := eq_true q292))
      (try simp only [Act.put, List.setIfInBounds_toArray, List.set_cons_zero, List.set_cons_succ])
      go_cut [6] (fun v6 wc => ∃ (kq : Nat) (x6_15 : List Int), Aside0 (tenorref1_DivDigits.j1 kq l0 l1 x6_15 x7_1 x8_1 = some (r1, r2)) ∧ Aside0 (kq ≤ k1) ∧ Aside0 (Kd.R (Kd.int .u64) 36 wc w.heap.size (fun k_ => some k_ ≠ (v283 : Value).ownBlock) v6 x6_15) ∧ Aside0 (Kd.R (Kd.int .u64) 36 wc w.heap.size (fun k_ => some k_ ≠ (v6 : Value).ownBlock) v283 x7_1) ∧ Aside0 (Below w.heap.size w wc))
      case first =>
        have H := HC16.out
        clear HC16
        by_cases c19 : (Int.tmod (ji15) 2) = 1
        rotate_left
        · rw [if_neg c19] at H
          have c19b0 : ((Int.tmod (ji15) 2) == 1) = false := beq_eq_false_iff_ne.mpr c19
          have c19b1 : ((Int.tmod (ji15) 2) != 1) = true := bne_iff_ne.mpr c19
          (first | rw [c19b0] | (simp only [i64_w, i32_w]; rw [c19b0]) | skip)
          have H' := Aside0.mk H
          clear H
          go_wp2
          go_meet
          case rel => exact ⟨_, (t289), H', ⟨by have := HK1.out; first | omega | exact Nat.le_refl _⟩, ⟨rA (Kd.R_mono HO291.out (fun _ hk => hk.2))⟩, ⟨rA (Kd.R_mono HO_7.out (fun _ hk => hk.2))⟩, ⟨bA HB.out⟩⟩
        rw [if_pos c19] at H
        have c19b0 : ((Int.tmod (ji15) 2) == 1) = true := beq_iff_eq.mpr c19
        have c19b1 : ((Int.tmod (ji15) 2) != 1) = false := bne_eq_false_iff_eq.mpr c19
        clear c19
        (first | rw [c19b0] | (simp only [i64_w, i32_w]; rw [c19b0]) | skip)
        obtain ⟨y293, hy293⟩ : ∃ y_ : List Int, y_ = (([1] : List Int)) := ⟨_, rfl⟩
        replace H : ((tenorref1_AddDigits.f k1 t289 y293).bind fun t296 => (tenorref1_DivDigits.j1 k1 l0 l1 t296 x7_1 x8_1)) = some (r1, r2) := by first | (rw [hy293]; with_reducible exact H) | (have H2_ := (Option.bind_some _ _).symm.trans H; rw [hy293]; with_reducible exact H2_) | (have H2_ := (Option.bind_some _ _).symm.trans H; with_reducible exact H2_) | with_reducible exact H | (rw [hy293]; exact H) | exact H
        have Ny293 := Aside0.mk hy293
        clear hy293
        replace H := Option.bind_eq_some_iff.mp H
        obtain ⟨t296, A200, H⟩ := H
        have A20 := Aside0.mk A200
        clear A200
        have H' := Aside0.mk H
        clear H
        go_wp2_with (first | ((with_reducible refine gate_dst (N := 32) rfl ?_); refine Kd.R_lit (Kd.int .u64) _ 36 ?hg (N := 32) ?hd (xs := ([1] : List Int)) (inner := [.int .u64 1]) (ok := fun _ => True) (okp := fun _ => True) ?hr ?hp (fun _ hk => hk) trivial (Below.refl _ _) (Nat.le_refl _) (by simp) ?_; (case hd => rfl); (case hg => rfl); (case hr => first | (go_simp; done) | (go_simp; rfl)); (case hp => exact (Reps.one (show Kd.M (Kd.int .u64) _ _ _ 1 [.int .u64 1] from rfl) (Reps.none _ _))); intro v294 w21 ho22 hb hg_ hnew_; clear hg_ hnew_; (first | rw [← Ny293.out] at ho22 | (simp only [Int.reduceToNat] at ho22; rw [← Ny293.out] at ho22)); have n0_ := Aside0.mk (Kd.R_elder' (rA HO_6.out) (Kd.R_base ho22) hb); have n1_ := Aside0.mk (Kd.R_elder' (rA HO_7.out) (Kd.R_base ho22) hb); have n2_ := Aside0.mk (Kd.R_elder' (rA HO291.out) (Kd.R_base ho22) hb); have n3_ := Aside0.mk (Kd.R_lower (Kd.R_new' (Kd.R_new' (Kd.R_new' ho22 (Kd.R_lt (rA HO_6.out))) (Kd.R_lt (rA HO_7.out))) (Kd.R_lt (rA HO291.out))) (below_size (bA HB.out))); have n4_ := Aside0.mk (below_step (bA HB.out) hb); clear HO_6; clear HO_7; clear HO291; clear HB; have HO_6 := n0_; have HO_7 := n1_; have HO291 := n2_; have HO295 := n3_; have HB := n4_; clear n0_ n1_ n2_ n3_ n4_; clear hb ho22; obtain ⟨Ao23, co23, eo23⟩ := Kd.R_slice HO291.out; subst eo23; obtain ⟨Ao24, co24, eo24⟩ := Kd.R_slice HO295.out; subst eo24) | ((with_reducible refine gate_callee (f := 115) rfl ?_); refine goesL_ (some 33) rfl rfl Tryz.func115 (by kernel_rfl) rfl #[.slice Ao23 t289.length co23, .slice Ao24 y293.length co24] rfl mA ?_; (with_reducible refine (tenorref1_AddDigits.calls k1 _ _ t289 _ _ y293 t296 _ ?side1 ?side2 ?side3 ?side4 A20.out).mono ?_); (case side1 => exact cA ((Kd.R_reads' HO291.out).2.2)); (case side2 => exact (Kd.R_reads' HO291.out).2.1); (case side3 => exact cA ((Kd.R_reads' HO295.out).2.2)); (case side4 => exact (Kd.R_reads' HO295.out).2.1); rintro e w25 ⟨v297, rfl, ho0, hb⟩; refine ⟨_, rfl, ?_⟩; have n0_ := Aside0.mk (Kd.R_elder' (rA HO_6.out) (Kd.R_base ho0) hb); have n1_ := Aside0.mk (Kd.R_elder' (rA HO_7.out) (Kd.R_base ho0) hb); have n2_ := Aside0.mk (Kd.R_elder' (rA HO291.out) (Kd.R_base ho0) hb); have n3_ := Aside0.mk (Kd.R_elder' (rA HO295.out) (Kd.R_base ho0) hb); have n4_ := Aside0.mk (Kd.R_lower (Kd.R_new' (Kd.R_new' (Kd.R_new' (Kd.R_new' ho0 (Kd.R_lt (rA HO_6.out))) (Kd.R_lt (rA HO_7.out))) (Kd.R_lt (rA HO291.out))) (Kd.R_lt (rA HO295.out))) (below_size (bA HB.out))); have n5_ := Aside0.mk (below_step (bA HB.out) hb); clear HO_6; clear HO_7; clear HO291; clear HO295; clear HB; have HO_6 := n0_; have HO_7 := n1_; have HO291 := n2_; have HO295 := n3_; have HO298 := n4_; have HB := n5_; clear n0_ n1_ n2_ n3_ n4_ n5_; (try clear hb); (try clear hb2); (try clear hk); (try clear hi); (try clear ho0)))
        go_meet
        case rel => exact ⟨_, (t296), H', ⟨by have := HK1.out; first | omega | exact Nat.le_refl _⟩, ⟨rA (Kd.R_mono HO298.out (fun _ hk => hk.1.1.2))⟩, ⟨rA (Kd.R_mono HO_7.out (fun _ hk => hk.2))⟩, ⟨bA HB.out⟩⟩
      case rest =>
        clear HC16
        try clear c1
        try clear p2
        try clear q2
        try clear hx2
        try clear c3
        try clear c3b0
        try clear c3b1
        try clear c4
        try clear c4b0
        try clear c4b1
        try clear p6
        try clear c8
        try clear c8b0
        try clear c11
        try clear c11b0
        try clear c12
        try clear c12b0
        try clear c13
        try clear c14
        try clear c14b0
        try clear c14b1
        try clear c19
        try clear c19b0
        try clear c19b1
        try clear hx292_0
        try clear p2
        try clear p292
        try clear p6
        try clear q292
        obtain ⟨kq, x6_15, HA, HJ15, HO_6, HO_7, HB⟩ := hcut
        cases kq with
        | zero => exact absurd HA.out (by simp [tenorref1_DivDigits.j1])
        | succ kj15 =>
          have H := HA.out
          clear HA
          simp only [tenorref1_DivDigits.j1] at H
          replace H := Option.bind_eq_some_iff.mp H
          obtain ⟨t299, A260, H⟩ := H
          have A26 := Aside0.mk A260
          clear A260
          by_cases c27 : t299 ≥ 0
          rotate_left
          · rw [if_neg c27] at H
            have c27b0 : decide (0 ≤ t299) = false := decide_eq_false c27
            clear c27
            have H' := Aside0.mk H
            clear H
            obtain ⟨Ao41, co41, eo41⟩ := Kd.R_slice HO_6.out
            subst eo41
            go_wp2_with (first | ((with_reducible refine gate_callee (f := 116) rfl ?_); refine goesL_ (some 36) rfl rfl Tryz.func116 (by kernel_rfl) rfl #[.slice Ao41 x6_15.length co41, .slice A1 l1.length c1] rfl mA ?_; (with_reducible refine (tenorref1_CmpDigits.calls kj15 _ _ x6_15 _ _ l1 t299 _ ?side1 ?side2 ?side3 ?side4 A26.out).mono ?_); (case side1 => exact cA ((Kd.R_reads' HO_6.out).2.2)); (case side2 => exact (Kd.R_reads' HO_6.out).2.1); (case side3 => exact cA (Kd.C_below HR1.out HB.out)); (case side4 => exact HC1.out); rintro e w' ⟨rfl, ⟨nd, rfl⟩⟩; refine ⟨_, rfl, ?_⟩))
            go_roundg kj15
            case measure => have := HK1.out; have := HJ15.out; omega
            case rel => exact ⟨(x6_15), (x7_1), (wrap64 (x8_1 - 1)), (by first | (with_reducible rfl) | (simp; done) | (simp [*]; done) | rfl), H', ⟨by have := HK1.out; have := HJ15.out; omega⟩, ⟨rA HO_6.out⟩, ⟨rA HO_7.out⟩, ⟨bA HB.out⟩⟩
          rw [if_pos c27] at H
          have c27b0 : decide (0 ≤ t299) = true := decide_eq_true c27
          clear c27
          replace H := Option.bind_eq_some_iff.mp H
          obtain ⟨t300, A280, H⟩ := H
          have A28 := Aside0.mk A280
          clear A280
          have hji29 : (wrap64 (Int.tdiv x8_1 32)) = ji10 := hji10
          replace H : (if 0 ≤ (ji10) then (if (ji10) < (x7_1.length : Int) then (if 0 ≤ (Int.tmod x8_1 32) then (tenorref1_DivDigits.l0 kj15 l0 l1 t300 (x7_1.set ((ji10) : Int).toNat (IntKind.u64.wrap ((rd x7_1 (ji10)) + (shl .u64 1 (Int.tmod x8_1 32))))) (wrap64 (x8_1 - 1))) else (none)) else (none)) else (none)) = some (r1, r2) := by first | (rw [hji29] at H; exact H) | (simp only [hji29] at H ⊢; exact H)
          (try rw [hji29] at A26)
          (try rw [hji29] at A28)
          have hji29w : (IntKind.i64.wrap (Int.tdiv x8_1 32)) = ji10 := (i64_w _).trans hji29
          by_cases c30 : 0 ≤ (ji10)
          rotate_left
          · rw [if_neg c30] at H
            exact absurd H (by simp)
          rw [if_pos c30] at H
          have c30b0 : decide (0 ≤ (ji10)) = true := decide_eq_true c30
          clear c30
          by_cases c31 : (ji10) < (x7_1.length : Int)
          rotate_left
          · rw [if_neg c31] at H
            exact absurd H (by simp)
          rw [if_pos c31] at H
          have c31b0 : decide ((ji10) < (x7_1.length : Int)) = true := decide_eq_true c31
          clear c31
          have hji32 : (Int.tmod x8_1 32) = ji13 := hji13
          replace H : (if 0 ≤ (ji13) then (tenorref1_DivDigits.l0 kj15 l0 l1 t300 (x7_1.set ((ji10) : Int).toNat (IntKind.u64.wrap ((rd x7_1 (ji10)) + (shl .u64 1 (ji13))))) (wrap64 (x8_1 - 1))) else (none)) = some (r1, r2) := by first | (rw [hji32] at H; exact H) | (simp only [hji32] at H ⊢; exact H)
          (try rw [hji32] at A26)
          (try rw [hji32] at A28)
          by_cases c33 : 0 ≤ (ji13)
          rotate_left
          · rw [if_neg c33] at H
            exact absurd H (by simp)
          rw [if_pos c33] at H
          have c33b0 := eq_true c33
          have c33b1 : decide (0 ≤ (ji13)) = true := decide_eq_true c33
          clear c33
          obtain ⟨ji34, hji34⟩ : ∃ j_ : Int, (shl .u64 1 (ji13)) = j_ := ⟨_, rfl⟩
          replace H : (tenorref1_DivDigits.l0 kj15 l0 l1 t300 (x7_1.set ((ji10) : Int).toNat (IntKind.u64.wrap ((rd x7_1 (ji10)) + (ji34)))) (wrap64 (x8_1 - 1))) = some (r1, r2) := by first | (rw [hji34] at H; exact H) | (simp only [hji34] at H ⊢; exact H)
          (try rw [hji34] at A26)
          (try rw [hji34] at A28)
          have hji34_ : (IntKind.u64.wrap (1 * 2 ^ min (ji13).toNat 64)) = ji34 := hji34
          have hji34z : (ji13) ≤ 64 → (IntKind.u64.wrap (1 * 2 ^ (ji13).toNat)) = ji34 := shl_small hji34
          have hji34u : (IntKind.u64.wrap (2 ^ min (ji13).toNat 64)) = ji34 := by have h_ := hji34_; rw [Int.one_mul] at h_; exact h_
          have hji34v : (ji13) ≤ 64 → (IntKind.u64.wrap (2 ^ (ji13).toNat)) = ji34 := fun hle_ => by have h_ := hji34z hle_; rw [Int.one_mul] at h_; exact h_
          obtain ⟨y304, hy304⟩ : ∃ y_ : List Int, y_ = (x7_1.set ((ji10) : Int).toNat (IntKind.u64.wrap ((rd x7_1 (ji10)) + (ji34)))) := ⟨_, rfl⟩
          replace H : (tenorref1_DivDigits.l0 kj15 l0 l1 t300 y304 (wrap64 (x8_1 - 1))) = some (r1, r2) := by first | (rw [hy304]; with_reducible exact H) | (have H2_ := (Option.bind_some _ _).symm.trans H; rw [hy304]; with_reducible exact H2_) | (have H2_ := (Option.bind_some _ _).symm.trans H; with_reducible exact H2_) | with_reducible exact H | (rw [hy304]; exact H) | exact H
          have Ny304 := Aside0.mk hy304
          clear hy304
          have H' := Aside0.mk H
          clear H
          obtain ⟨Ao36, co36, eo36⟩ := Kd.R_slice HO_6.out
          subst eo36
          try go_wp2_with (first | ((with_reducible refine gate_callee (f := 116) rfl ?_); refine goesL_ (some 36) rfl rfl Tryz.func116 (by kernel_rfl) rfl #[.slice Ao36 x6_15.length co36, .slice A1 l1.length c1] rfl mA ?_; (with_reducible refine (tenorref1_CmpDigits.calls kj15 _ _ x6_15 _ _ l1 t299 _ ?side1 ?side2 ?side3 ?side4 A26.out).mono ?_); (case side1 => exact cA ((Kd.R_reads' HO_6.out).2.2)); (case side2 => exact (Kd.R_reads' HO_6.out).2.1); (case side3 => exact cA (Kd.C_below HR1.out HB.out)); (case side4 => exact HC1.out); rintro e w' ⟨rfl, ⟨nd, rfl⟩⟩; refine ⟨_, rfl, ?_⟩; (try rw [World.drewN_drewN]); (try (rw [drewN_self wc]; generalize hq_ : World.drewN wc _ = wc; have n0_ : Aside0 (Kd.R (Kd.int .u64) 36 wc w.heap.size (fun k_ => some k_ ≠ (v283 : Value).ownBlock) (.slice Ao36 x6_15.length co36) x6_15) := ⟨by rw [← hq_]; exact (rA HO_6.out)⟩; have n1_ : Aside0 (Kd.R (Kd.int .u64) 36 wc w.heap.size (fun k_ => some k_ ≠ (.slice Ao36 x6_15.length co36 : Value).ownBlock) v283 x7_1) := ⟨by rw [← hq_]; exact (rA HO_7.out)⟩; have n2_ : Aside0 (Below w.heap.size w wc) := ⟨by rw [← hq_]; exact (bA HB.out)⟩; clear HO_6 HO_7 HB hq_; have HO_6 := n0_; have HO_7 := n1_; have HB := n2_; clear n0_ n1_ n2_))) | ((with_reducible refine gate_callee (f := 117) rfl ?_); refine goesL_ (some 40) rfl rfl Tryz.func117 (by kernel_rfl) rfl #[.slice Ao36 x6_15.length co36, .slice A1 l1.length c1] rfl mA ?_; (with_reducible refine (tenorref1_SubDigits.calls kj15 _ _ x6_15 _ _ l1 t300 _ ?side1 ?side2 ?side3 ?side4 A28.out).mono ?_); (case side1 => exact cA ((Kd.R_reads' HO_6.out).2.2)); (case side2 => exact (Kd.R_reads' HO_6.out).2.1); (case side3 => exact cA (Kd.C_below HR1.out HB.out)); (case side4 => exact HC1.out); rintro e w37 ⟨v301, rfl, ho0, hb⟩; refine ⟨_, rfl, ?_⟩; have n0_ := Aside0.mk (Kd.R_elder' (rA HO_6.out) (Kd.R_base ho0) hb); have n1_ := Aside0.mk (Kd.R_elder' (rA HO_7.out) (Kd.R_base ho0) hb); have n2_ := Aside0.mk (Kd.R_lower (Kd.R_new' (Kd.R_new' ho0 (Kd.R_lt (rA HO_6.out))) (Kd.R_lt (rA HO_7.out))) (below_size (bA HB.out))); have n3_ := Aside0.mk (below_step (bA HB.out) hb); clear HO_6; clear HO_7; clear HB; have HO_6 := n0_; have HO_7 := n1_; have HO302 := n2_; have HB := n3_; clear n0_ n1_ n2_ n3_; (try clear hb); (try clear hb2); (try clear hk); (try clear hi); (try clear ho0)))
          have n0_ := Aside0.mk (Kd.R_drew HO_6.out)
          have n1_ := Aside0.mk (Kd.R_drew HO_7.out)
          have n2_ := Aside0.mk (Kd.R_drew HO302.out)
          have n3_ := Aside0.mk (below_drew1 HB.out)
          clear HO_6
          clear HO_7
          clear HO302
          clear HB
          have HO_6 := n0_
          have HO_7 := n1_
          have HO302 := n2_
          have HB := n3_
          clear n0_ n1_ n2_ n3_
          obtain ⟨Ao39, co39, eo39⟩ := Kd.R_slice HO_7.out
          (first | subst eo39 | (injection eo39 with f1_ f2_ f3_; have f4_ := f1_.symm; have f5_ := f3_.symm; clear f1_ f2_ f3_; subst f4_; subst f5_))
          have p303 : 0 ≤ ((ji10) : Int) := of_decide_eq_true asA
          have q303 : (ji10) < (x7_1.length : Int) := of_decide_eq_true asA
          obtain ⟨ad303, e303, hx303_0⟩ := Kd.at_int (Kd.R_reads' HO_7.out).2.2 (ji10) p303 q303
          cases e303
          replace p303 := eq_true p303
          replace q303 := eq_true q303
          have p35 : 0 ≤ ((ji10) : Int) := of_decide_eq_true asA
          have q35 : ((ji10) : Int) < ((x7_1.length : Int) : Int) := of_decide_eq_true asA
          obtain ⟨go35, co35, eo35, gb35, gl35, cl35, HG35⟩ := Kd.R_form HO_7.out (by omega)
          (first | cases eo35 | (injection eo35 with ea_ en_ ec_; (first | subst ea_ | (injection ea_ with ea_; subst ea_)); subst ec_; clear en_))
          have GB35 := Aside0.mk gb35
          have GG35 := Aside0.mk HG35
          clear gb35 gl35 HG35
          (first | simp only [add_plain] at hx303_0 | skip)
          obtain ⟨hx35_0, hf35_0⟩ := Kd.R_celln 0 HO_7.out ((ji10) : Int) p35 q35
          replace p35 := eq_true p35
          replace q35 := eq_true q35
          have HP40 := Kd.R_putn HO_7.out ((ji10) : Int) (IntKind.u64.wrap ((rd x7_1 (ji10)) + (ji34)))
          rw [← Ny304.out] at HP40
          have HQ40 := Aside0.mk HP40
          clear HP40
          refine start_ (n := 14) (S := fun w' => w'.cell? ⟨go35, ((ji10)).toNat, none⟩ = some (.int .u64 (rd x7_1 (ji10)))) (ds := [13]) (dnA 14 0) (by kernel_rfl) rfl rfl (hx303_0) (fun hHeld => ?_); refine with_tabW tenorref1_DivDigits.tab11 tenorref1_DivDigits.bits11 (fun HT_ HW_ => ?_)
          generalize w37.drew = w38 at HO_6 HO_7 HO302 HB GG35 HQ40 hf35_0 hx303_0 hx35_0 hHeld ⊢
          refine pure_ (i := 0) (N := some 41) (v := ?_) (a' := ?_) (dnA 14 1) rfl rfl (any_of HT_.out (by kernel_rfl)) (fun _ _ _ h => h) (Or.inl ⟨by rfl, ?_⟩) ?_ ?_
          rotate_left
          · intro w'
            go_simp
            with_reducible rfl
          rotate_left
          · simp only [Act.put, List.setIfInBounds_toArray, List.set_cons_zero, List.set_cons_succ, i64_w, i32_w]
            rfl
          refine pure_ (i := 1) (N := some 42) (v := ?_) (a' := ?_) (dnA 14 3) rfl rfl (any_of HT_.out (by kernel_rfl)) (fun _ _ _ h => h) (Or.inl ⟨by rfl, ?_⟩) ?_ ?_
          rotate_left
          · intro w'
            go_simp
            with_reducible rfl
          rotate_left
          · simp only [Act.put, List.setIfInBounds_toArray, List.set_cons_zero, List.set_cons_succ, i64_w, i32_w]
            rfl
          refine pure_ (i := 2) (N := some 43) (v := ?_) (a' := ?_) (dnA 14 7) rfl rfl (any_of HT_.out (by kernel_rfl)) (fun _ _ _ h => h) (Or.inl ⟨by rfl, ?_⟩) ?_ ?_
          rotate_left
          · intro w'
            go_simp
            with_reducible rfl
          rotate_left
          · simp only [Act.put, List.setIfInBounds_toArray, List.set_cons_zero, List.set_cons_succ, i64_w, i32_w]
            rfl
          refine pure_ (i := 3) (N := some 44) (v := ?_) (a' := ?_) (dnA 14 15) rfl rfl (any_of HT_.out (by kernel_rfl)) (fun _ _ _ h => h) (Or.inl ⟨by rfl, ?_⟩) ?_ ?_
          rotate_left
          · intro w'
            go_simp
            with_reducible rfl
          rotate_left
          · simp only [Act.put, List.setIfInBounds_toArray, List.set_cons_zero, List.set_cons_succ, i64_w, i32_w]
            rfl
          refine pure_ (i := 4) (N := some 45) (v := ?_) (a' := ?_) (dnA 14 31) rfl rfl (any_of HT_.out (by kernel_rfl)) (fun _ _ _ h => h) (Or.inl ⟨by rfl, ?_⟩) ?_ ?_
          rotate_left
          · intro w'
            go_simp
            with_reducible rfl
          rotate_left
          · simp only [Act.put, List.setIfInBounds_toArray, List.set_cons_zero, List.set_cons_succ, i64_w, i32_w]
            rfl
          refine pure_ (i := 5) (N := some 46) (v := ?_) (a' := ?_) (dnA 14 63) rfl rfl (any_of HT_.out (by kernel_rfl)) (fun _ _ _ h => h) (Or.inl ⟨by rfl, ?_⟩) ?_ ?_
          rotate_left
          · intro w'
            go_simp
            with_reducible rfl
          rotate_left
          · simp only [Act.put, List.setIfInBounds_toArray, List.set_cons_zero, List.set_cons_succ, i64_w, i32_w]
            rfl
          refine pure_ (i := 6) (N := some 47) (v := ?_) (a' := ?_) (dnA 14 127) rfl rfl (any_of HT_.out (by kernel_rfl)) (fun _ _ _ h => h) (Or.inl ⟨by rfl, ?_⟩) ?_ ?_
          rotate_left
          · intro w'
            go_simp
            with_reducible rfl
          rotate_left
          · simp only [Act.put, List.setIfInBounds_toArray, List.set_cons_zero, List.set_cons_succ, i64_w, i32_w]
            rfl
          refine pure_ (i := 8) (N := some 49) (v := ?_) (a' := ?_) (dnA 14 383) rfl rfl (any_of HT_.out (by kernel_rfl)) (fun _ _ _ h => h) (Or.inl ⟨by rfl, ?_⟩) ?_ ?_
          rotate_left
          · intro w'
            go_simp
            with_reducible rfl
          rotate_left
          · simp only [Act.put, List.setIfInBounds_toArray, List.set_cons_zero, List.set_cons_succ, i64_w, i32_w]
            rfl
          refine pure_ (i := 9) (N := some 50) (v := ?_) (a' := ?_) (dnA 14 895) rfl rfl (any_of HT_.out (by kernel_rfl)) (fun _ _ _ h => h) (Or.inl ⟨by rfl, ?_⟩) ?_ ?_
          rotate_left
          · intro w'
            go_simp
            with_reducible rfl
          rotate_left
          · simp only [Act.put, List.setIfInBounds_toArray, List.set_cons_zero, List.set_cons_succ, i64_w, i32_w]
            rfl
          refine pure_ (i := 10) (N := some 51) (v := ?_) (a' := ?_) (dnA 14 1919) rfl rfl (any_of HT_.out (by kernel_rfl)) (fun _ _ _ h => h) (Or.inl ⟨by rfl, ?_⟩) ?_ ?_
          rotate_left
          · intro w'
            go_simp
            with_reducible rfl
          rotate_left
          · simp only [Act.put, List.setIfInBounds_toArray, List.set_cons_zero, List.set_cons_succ, i64_w, i32_w]
            rfl
          refine take_ (i := 7) (N := some 48) (v := ?_) (a' := ?_) (dnA 14 2047) rfl rfl (take_ofW HT_.out HW_.out (by kernel_rfl)) (fun _ _ _ h => h) (Or.inl ⟨by rfl, ?_⟩) hHeld ?_ ?_
          rotate_left
          · intro w' s0
            go_simp
            with_reducible rfl
          rotate_left
          · simp only [Act.put, List.setIfInBounds_toArray, List.set_cons_zero, List.set_cons_succ, i64_w, i32_w]
            rfl
          refine pure_ (i := 11) (N := some 52) (v := ?_) (a' := ?_) (dnA 14 4095) rfl rfl (any_of HT_.out (by kernel_rfl)) (fun _ _ _ h => h) (Or.inl ⟨by rfl, ?_⟩) ?_ ?_
          rotate_left
          · intro w'
            go_simp
            with_reducible rfl
          rotate_left
          · simp only [Act.put, List.setIfInBounds_toArray, List.set_cons_zero, List.set_cons_succ, i64_w, i32_w]
            rfl
          refine pure_ (i := 12) (N := some 53) (v := ?_) (a' := ?_) (dnA 14 8191) rfl rfl (any_of HT_.out (by kernel_rfl)) (fun _ _ _ h => h) (Or.inl ⟨by rfl, ?_⟩) ?_ ?_
          rotate_left
          · intro w'
            go_simp
            with_reducible rfl
          rotate_left
          · simp only [Act.put, List.setIfInBounds_toArray, List.set_cons_zero, List.set_cons_succ, i64_w, i32_w]
            rfl
          refine last_ (i := 13) (N := none) (dnA 14 16383) rfl rfl (one_of HT_.out (by kernel_rfl)) (by decide) (fun K hK => ?_)
          refine skip_ (w1 := ?_) (by rfl) rfl ?_ ?_
          rotate_left
          · go_simp
            rfl
          refine hK.out _ _ ?_
          clear hK K
          refine done_ (done_of HT_.out (by kernel_rfl)) ?_
          try go_wp2
          go_roundg kj15
          case measure => have := HK1.out; have := HJ15.out; omega
          case rel => exact ⟨(t300), (y304), (wrap64 (x8_1 - 1)), (by first | (with_reducible rfl) | (simp; done) | (simp [*]; done) | rfl), H', ⟨by have := HK1.out; have := HJ15.out; omega⟩, ⟨by (with_reducible repeat (first | apply Kd.R_alloc | apply Kd.R_drewN | apply Kd.R_drew)); exact Kd.R_mono (Kd.R_far (p := ⟨go35, ((ji10) : Int).toNat, none⟩) (Kd.R_mono HO302.out (fun k_ hk => (⟨hk, fun e_ => hk.2 (by rw [e_]; rfl)⟩ : _ ∧ k_ ≠ go35))) (fun _ hk => hk.2) (.int .u64 (IntKind.u64.wrap ((rd x7_1 (ji10)) + (ji34))))) (fun _ hk => hk.1.2)⟩, ⟨rA (Kd.R_mono HQ40.out (fun _ hk => hk.2))⟩, ⟨by repeat (first | (with_reducible first | exact HB.out | apply below_alloc | apply pw_below_drewN | apply below_drew1 | refine below_set ?_ GB35.out) | exact HB.out)⟩⟩

end Go.Proofs.YtepcegiciecogaaGreat.FR
