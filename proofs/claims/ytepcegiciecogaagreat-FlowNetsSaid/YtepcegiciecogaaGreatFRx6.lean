/- Written by the session's fprint.py out of the translation. -/
import Derived.Test.YtepcegiciecogaaGreatFRx0
import Derived.Test.YtepcegiciecogaaGreatFRx1
namespace Go.Proofs.YtepcegiciecogaaGreat.FR
open Go.RowKit Go.Proofs.YtepcegiciecogaaGreatW.PrintWords Go.Proofs.YtepcegiciecogaaGreatW.PrintLast Go.Proofs.YtepcegiciecogaaGreatW.PrintMore
attribute [local go_sem] max2_int min2_int max_two min_two max_three min_three max_four min_four   -- for this text's walks alone
open Go.Proofs.YtepcegiciecogaaGreat.FX
attribute [local go_sem] run_store_float run_neg_float run_fmul isSome_setCell 
set_option linter.unusedVariables false
set_option linter.unusedSimpArgs false

/-! ### tenorref1_SubDigits: function 117 -/
def tenorref1_SubDigits.l0 : Nat → List Int → List Int → List Int → Int → Int → Option (List Int)
  | 0, _, _, _, _, _ => none
  | k + 1, x0, x1, x5, x6, x7 => if x7 < (x0.length : Int) then (if 0 ≤ x7 then ((tenorref1_digit.f x1 x7).bind fun t248 => (if x7 < (x5.length : Int) then (tenorref1_SubDigits.l0 k x0 x1 (x5.set (x7 : Int).toNat (Int.tmod (IntKind.u64.wrap ((IntKind.u64.wrap ((IntKind.u64.wrap ((rd x0 x7) + 4294967296)) - t248)) - x6)) 4294967296)) (IntKind.u64.wrap (1 - (IntKind.u64.wrap (Int.tdiv (IntKind.u64.wrap ((IntKind.u64.wrap ((IntKind.u64.wrap ((rd x0 x7) + 4294967296)) - t248)) - x6)) 4294967296)))) (wrap64 (x7 + 1))) else (none))) else (none)) else ((tenorref1_trim.f k x5).bind fun t250 => (some t250))
def tenorref1_SubDigits.f (k : Nat) (l0 : List Int) (l1 : List Int) : Option (List Int) := if 0 ≤ (l0.length : Int) then (if ((l0.length : Int) : Int).toNat ≤ 35184372088832 then (tenorref1_SubDigits.l0 k l0 l1 (List.replicate ((l0.length : Int) : Int).toNat 0) 0 0) else (none)) else (none)
set_option maxHeartbeats 8000000 in
set_option maxRecDepth 100000 in
theorem tenorref1_SubDigits.calls (k : Nat) (A0 : Option Addr) (c0 : Nat) (l0 : List Int) (A1 : Option Addr) (c1 : Nat) (l1 : List Int) (r : List Int) (w : World) (hr0 : Kd.C (Kd.int .u64) w A0 l0.length l0) (hc0 : l0.length ≤ c0) (hr1 : Kd.C (Kd.int .u64) w A1 l1.length l1) (hc1 : l1.length ≤ c1) (h : tenorref1_SubDigits.f k l0 l1 = some r) :
    Calls Tryz.prog 117 #[.slice A0 l0.length c0, .slice A1 l1.length c1] w fun e w' => ∃ v0_ : Value, e = .returned (v0_) ∧ Kd.R (Kd.int .u64) 36 w' w.heap.size (fun _ => True) v0_ r ∧ Below w.heap.size w w' := by
  have HR0 := Aside0.mk hr0
  have HC0 := Aside0.mk hc0
  clear hr0 hc0
  have HR1 := Aside0.mk hr1
  have HC1 := Aside0.mk hc1
  clear hr1 hc1
  have HB := Aside0.mk (Below.refl w.heap.size w)
  have H : (if 0 ≤ (l0.length : Int) then (if ((l0.length : Int) : Int).toNat ≤ 35184372088832 then (tenorref1_SubDigits.l0 k l0 l1 (List.replicate ((l0.length : Int) : Int).toNat 0) 0 0) else (none)) else (none)) = some r := h
  clear h
  by_cases c3 : 0 ≤ (l0.length : Int)
  rotate_left
  · rw [if_neg c3] at H
    exact absurd H (by simp)
  rw [if_pos c3] at H
  have c3b0 := eq_true c3
  have c3b1 : decide (0 ≤ (l0.length : Int)) = true := decide_eq_true c3
  clear c3
  by_cases c4 : ((l0.length : Int) : Int).toNat ≤ 35184372088832
  rotate_left
  · rw [if_neg c4] at H
    exact absurd H (by simp)
  rw [if_pos c4] at H
  have c4b0 := eq_true c4
  have c4b1 : decide (((l0.length : Int) : Int).toNat ≤ 35184372088832) = true := decide_eq_true c4
  clear c4
  obtain ⟨y244, hy244⟩ : ∃ y_ : List Int, y_ = (List.replicate ((l0.length : Int) : Int).toNat 0) := ⟨_, rfl⟩
  replace H : (tenorref1_SubDigits.l0 k l0 l1 y244 0 0) = some r := by first | (rw [hy244]; with_reducible exact H) | (have H2_ := (Option.bind_some _ _).symm.trans H; rw [hy244]; with_reducible exact H2_) | (have H2_ := (Option.bind_some _ _).symm.trans H; with_reducible exact H2_) | with_reducible exact H | (rw [hy244]; exact H) | exact H
  have Ny244 := Aside0.mk hy244
  clear hy244
  have H' := Aside0.mk H
  clear H
  go_enter Tryz.func117, Tryz.ntmps117
  go_wp2_with (first | ((with_reducible refine gate_dst (N := 11) rfl ?_); refine Kd.R_make (Kd.int .u64) _ 36 rfl (N := 11) rfl 49 _ _ rfl (l0.length : Int) rfl rfl Tryz.underlying49 (.int .u64 0) 8 info36 rfl (by decide) (by omega) 0 (ok := fun _ => True) (okp := fun _ => True) rfl (fun _ hk => hk) trivial (of_decide_eq_true asA) (Nat.le_trans (Nat.mul_le_mul_right _ (of_decide_eq_true asA : (l0.length : Int).toNat ≤ 35184372088832)) (by omega)) (Below.refl _ _) (Nat.le_refl _) ?_; intro v245 w5 ho6 hb hg_ hnew_; clear hg_ hnew_; (first | rw [← Ny244.out] at ho6 | (simp only [Int.reduceToNat] at ho6; rw [← Ny244.out] at ho6)); have n0_ := Aside0.mk (Kd.R_lower ho6 (below_size (bA HB.out))); have n1_ := Aside0.mk (below_step (bA HB.out) hb); clear HB; have HO246 := n0_; have HB := n1_; clear n0_ n1_; clear hb ho6))
  go_loopg [6, 7] k (fun kq v6 v7 w' => ∃ (x5_1 : List Int) (x6_1 : Int) (x7_1 : Int), v6 = .int .u64 x6_1 ∧ v7 = .int .i64 x7_1 ∧ Aside0 (tenorref1_SubDigits.l0 kq l0 l1 x5_1 x6_1 x7_1 = some r) ∧ Aside0 (kq ≤ k) ∧ Aside0 (Kd.R (Kd.int .u64) 36 w' w.heap.size (fun _ => True) v245 x5_1) ∧ Aside0 (Below w.heap.size w w'))
  case atStart => exact ⟨(y244), (0), (0), (by first | (with_reducible rfl) | (simp; done) | (simp [*]; done) | rfl), (by first | (with_reducible rfl) | (simp; done) | (simp [*]; done) | rfl), H', ⟨Nat.le_refl _⟩, ⟨rA HO246.out⟩, ⟨bA HB.out⟩⟩
  case round =>
    clear H'
    try clear c1
    try clear p2
    try clear c3
    try clear c3b0
    try clear c3b1
    try clear c4
    try clear c4b0
    try clear c4b1
    obtain ⟨x5_1, x6_1, x7_1, rfl, rfl, HA, HK1, HO_5, HB⟩ := hrel
    cases gk with
    | zero => exact absurd HA.out (by simp [tenorref1_SubDigits.l0])
    | succ k1 =>
      have H := HA.out
      clear HA
      simp only [tenorref1_SubDigits.l0] at H
      by_cases c7 : x7_1 < (l0.length : Int)
      rotate_left
      · rw [if_neg c7] at H
        have c7b0 : decide (x7_1 < (l0.length : Int)) = false := decide_eq_false c7
        clear c7
        replace H := Option.bind_eq_some_iff.mp H
        obtain ⟨t250, A140, H⟩ := H
        have A14 := Aside0.mk A140
        clear A140
        obtain rfl := Option.some.inj H
        obtain ⟨Ao15, co15, eo15⟩ := Kd.R_slice HO_5.out
        subst eo15
        go_wp2_with (first | (go_at_call 141; (with_reducible refine (tenorref1_trim.calls k1 (fun k_ => some k_ = (.slice Ao15 x5_1.length co15 : Value).ownBlock) (.slice Ao15 x5_1.length co15) x5_1 t250 w _ ?side1 ?side2 A14.out).mono ?_); (case side1 => exact bA HB.out); (case side2 => exact Kd.R_tight rfl HO_5.out); rintro e w16 ⟨v251, rfl, ho0, hb, hkp⟩; have n0_ := Aside0.mk (Kd.R_mono (ok' := fun k_ => True) ho0 (fun k_ hk_ => trivial)); have n1_ := Aside0.mk (hb); clear HB; clear HO_5; have HO252 := n0_; have HB := n1_; clear n0_ n1_; (try clear hb); (try clear hkp); (try clear ho0)))
        repeat (go_quiet (first | (go_at_call 141; (with_reducible refine (tenorref1_trim.calls k1 (fun k_ => some k_ = (.slice Ao15 x5_1.length co15 : Value).ownBlock) (.slice Ao15 x5_1.length co15) x5_1 t250 w _ ?side1 ?side2 A14.out).mono ?_); (case side1 => exact bA HB.out); (case side2 => exact Kd.R_tight rfl HO_5.out); rintro e w16 ⟨v251, rfl, ho0, hb, hkp⟩; have n0_ := Aside0.mk (Kd.R_mono (ok' := fun k_ => True) ho0 (fun k_ hk_ => trivial)); have n1_ := Aside0.mk (hb); clear HB; clear HO_5; have HO252 := n0_; have HB := n1_; clear n0_ n1_; (try clear hb); (try clear hkp); (try clear ho0))); try go_wp2_with (first | (go_at_call 141; (with_reducible refine (tenorref1_trim.calls k1 (fun k_ => some k_ = (.slice Ao15 x5_1.length co15 : Value).ownBlock) (.slice Ao15 x5_1.length co15) x5_1 t250 w _ ?side1 ?side2 A14.out).mono ?_); (case side1 => exact bA HB.out); (case side2 => exact Kd.R_tight rfl HO_5.out); rintro e w16 ⟨v251, rfl, ho0, hb, hkp⟩; have n0_ := Aside0.mk (Kd.R_mono (ok' := fun k_ => True) ho0 (fun k_ hk_ => trivial)); have n1_ := Aside0.mk (hb); clear HB; clear HO_5; have HO252 := n0_; have HB := n1_; clear n0_ n1_; (try clear hb); (try clear hkp); (try clear ho0))))
        go_ret
        exact ⟨_, by first | rfl | (simp [errW_none, errW_some] <;> rfl) | (simp [*, errW_none, errW_some] <;> rfl), by (with_reducible repeat (first | apply Kd.R_alloc | apply Kd.R_drewN | apply Kd.R_drew)); exact HO252.out, bA HB.out⟩
      rw [if_pos c7] at H
      have c7b0 : decide (x7_1 < (l0.length : Int)) = true := decide_eq_true c7
      clear c7
      by_cases c8 : 0 ≤ x7_1
      rotate_left
      · rw [if_neg c8] at H
        exact absurd H (by simp)
      rw [if_pos c8] at H
      have c8b0 : decide (0 ≤ x7_1) = true := decide_eq_true c8
      clear c8
      replace H := Option.bind_eq_some_iff.mp H
      obtain ⟨t248, A90, H⟩ := H
      have A9 := Aside0.mk A90
      clear A90
      by_cases c10 : x7_1 < (x5_1.length : Int)
      rotate_left
      · rw [if_neg c10] at H
        exact absurd H (by simp)
      rw [if_pos c10] at H
      have c10b0 : decide (x7_1 < (x5_1.length : Int)) = true := decide_eq_true c10
      clear c10
      obtain ⟨y249, hy249⟩ : ∃ y_ : List Int, y_ = (x5_1.set (x7_1 : Int).toNat (Int.tmod (IntKind.u64.wrap ((IntKind.u64.wrap ((IntKind.u64.wrap ((rd l0 x7_1) + 4294967296)) - t248)) - x6_1)) 4294967296)) := ⟨_, rfl⟩
      replace H : (tenorref1_SubDigits.l0 k1 l0 l1 y249 (IntKind.u64.wrap (1 - (IntKind.u64.wrap (Int.tdiv (IntKind.u64.wrap ((IntKind.u64.wrap ((IntKind.u64.wrap ((rd l0 x7_1) + 4294967296)) - t248)) - x6_1)) 4294967296)))) (wrap64 (x7_1 + 1))) = some r := by first | (rw [hy249]; with_reducible exact H) | (have H2_ := (Option.bind_some _ _).symm.trans H; rw [hy249]; with_reducible exact H2_) | (have H2_ := (Option.bind_some _ _).symm.trans H; with_reducible exact H2_) | with_reducible exact H | (rw [hy249]; exact H) | exact H
      have Ny249 := Aside0.mk hy249
      clear hy249
      have H' := Aside0.mk H
      clear H
      have p247 : 0 ≤ (x7_1 : Int) := of_decide_eq_true asA
      have q247 : x7_1 < (l0.length : Int) := of_decide_eq_true asA
      obtain ⟨ad247, e247, hx247_0⟩ := Kd.at_int HR0.out x7_1 p247 q247
      cases e247
      replace hx247_0 := (HB.out.cell (World.block_lt_of_cell? w _ hx247_0)).trans hx247_0
      replace p247 := eq_true p247
      replace q247 := eq_true q247
      go_wp2_with (first | (go_at_call 140; (with_reducible refine (tenorref1_digit.calls _ _ l1 x7_1 t248 _ ?side1 ?side2 A9.out).mono ?_); (case side1 => exact cA (Kd.C_below HR1.out HB.out)); (case side2 => exact HC1.out); rintro e w' ⟨rfl, ⟨nd, rfl⟩⟩; (try exact ddA); have p11 : 0 ≤ (x7_1 : Int) := of_decide_eq_true asA; have q11 : (x7_1 : Int) < ((x5_1.length : Int) : Int) := of_decide_eq_true asA; obtain ⟨go11, co11, eo11, gb11, gl11, cl11, HG11⟩ := Kd.R_form HO_5.out (by omega); (first | cases eo11 | (injection eo11 with ea_ en_ ec_; (first | subst ea_ | (injection ea_ with ea_; subst ea_)); subst ec_; clear en_)); have GB11 := Aside0.mk gb11; have GG11 := Aside0.mk HG11; clear gb11 gl11 HG11; obtain ⟨hx11_0, hf11_0⟩ := Kd.R_celln 0 HO_5.out (x7_1 : Int) p11 q11; replace p11 := eq_true p11; replace q11 := eq_true q11; obtain ⟨hy12_, hz12_⟩ := Kd.R_celln 0 HO_5.out (x7_1 : Int) (of_decide_eq_true asA) (of_decide_eq_true asA); have HP12 := Kd.R_putg HO_5.out (x7_1 : Int) (Int.tmod (IntKind.u64.wrap ((IntKind.u64.wrap ((IntKind.u64.wrap ((rd l0 x7_1) + 4294967296)) - t248)) - x6_1)) 4294967296)) | ((with_reducible refine gate_store (t := 36) (p := 33) rfl ?_); (try rw [World.drewN_drewN]); (try (rw [drewN_self wr]; generalize hq_ : World.drewN wr _ = wr; have n0_ := Aside0.mk (Kd.R_at hq_ HO_5.out); have n1_ := Aside0.mk (below_at hq_ HB.out); clear hq_ HO_5 HB; have HO_5 := n0_; have HB := n1_; clear n0_ n1_; (try (obtain ⟨hy12_, hz12_⟩ := Kd.R_celln 0 HO_5.out (x7_1 : Int) (of_decide_eq_true asA) (of_decide_eq_true asA))); (try (have HP12 := Kd.R_putg HO_5.out (x7_1 : Int) (Int.tmod (IntKind.u64.wrap ((IntKind.u64.wrap ((IntKind.u64.wrap ((rd l0 x7_1) + 4294967296)) - t248)) - x6_1)) 4294967296))))); refine store_event (t := 36) (p := 33) (v := ?vo_w13) (w1 := (wr.setCell ⟨go11, (x7_1 : Int).toNat, none⟩ (.int .u64 (Int.tmod (IntKind.u64.wrap ((IntKind.u64.wrap ((IntKind.u64.wrap ((rd l0 x7_1) + 4294967296)) - t248)) - x6_1)) 4294967296)))) ?hg ?ho ?hn ?hr ?_; (case ho => rfl); (case hg => rfl); (case hn => rfl); (case hr => first | (go_simp; done) | (go_simp; rfl)); intro w13 hw; have hg : wr.grownBy w13 (some go11) := (by rw [hw]; exact HP12.2); have hp_ : Kd.R (Kd.int .u64) 36 w13 w.heap.size (fun _ => True) (.slice (some ⟨go11, 0, none⟩) x5_1.length co11) y249 := (by rw [hw, Ny249.out]; exact HP12.1); clear HP12; have n0_ := Aside0.mk (hp_); have n1_ := Aside0.mk ((by rw [hw]; exact below_set (HB.out) GB11.out : Below w.heap.size w w13)); clear HO_5; clear HB; have HO_5 := n0_; have HB := n1_; clear n0_ n1_; clear hg hw hp_))
      repeat (go_quiet (first | (go_at_call 140; (with_reducible refine (tenorref1_digit.calls _ _ l1 x7_1 t248 _ ?side1 ?side2 A9.out).mono ?_); (case side1 => exact cA (Kd.C_below HR1.out HB.out)); (case side2 => exact HC1.out); rintro e w' ⟨rfl, ⟨nd, rfl⟩⟩; (try exact ddA); have p11 : 0 ≤ (x7_1 : Int) := of_decide_eq_true asA; have q11 : (x7_1 : Int) < ((x5_1.length : Int) : Int) := of_decide_eq_true asA; obtain ⟨go11, co11, eo11, gb11, gl11, cl11, HG11⟩ := Kd.R_form HO_5.out (by omega); (first | cases eo11 | (injection eo11 with ea_ en_ ec_; (first | subst ea_ | (injection ea_ with ea_; subst ea_)); subst ec_; clear en_)); have GB11 := Aside0.mk gb11; have GG11 := Aside0.mk HG11; clear gb11 gl11 HG11; obtain ⟨hx11_0, hf11_0⟩ := Kd.R_celln 0 HO_5.out (x7_1 : Int) p11 q11; replace p11 := eq_true p11; replace q11 := eq_true q11; obtain ⟨hy12_, hz12_⟩ := Kd.R_celln 0 HO_5.out (x7_1 : Int) (of_decide_eq_true asA) (of_decide_eq_true asA); have HP12 := Kd.R_putg HO_5.out (x7_1 : Int) (Int.tmod (IntKind.u64.wrap ((IntKind.u64.wrap ((IntKind.u64.wrap ((rd l0 x7_1) + 4294967296)) - t248)) - x6_1)) 4294967296)) | ((with_reducible refine gate_store (t := 36) (p := 33) rfl ?_); (try rw [World.drewN_drewN]); (try (rw [drewN_self wr]; generalize hq_ : World.drewN wr _ = wr; have n0_ := Aside0.mk (Kd.R_at hq_ HO_5.out); have n1_ := Aside0.mk (below_at hq_ HB.out); clear hq_ HO_5 HB; have HO_5 := n0_; have HB := n1_; clear n0_ n1_; (try (obtain ⟨hy12_, hz12_⟩ := Kd.R_celln 0 HO_5.out (x7_1 : Int) (of_decide_eq_true asA) (of_decide_eq_true asA))); (try (have HP12 := Kd.R_putg HO_5.out (x7_1 : Int) (Int.tmod (IntKind.u64.wrap ((IntKind.u64.wrap ((IntKind.u64.wrap ((rd l0 x7_1) + 4294967296)) - t248)) - x6_1)) 4294967296))))); refine store_event (t := 36) (p := 33) (v := ?vo_w13) (w1 := (wr.setCell ⟨go11, (x7_1 : Int).toNat, none⟩ (.int .u64 (Int.tmod (IntKind.u64.wrap ((IntKind.u64.wrap ((IntKind.u64.wrap ((rd l0 x7_1) + 4294967296)) - t248)) - x6_1)) 4294967296)))) ?hg ?ho ?hn ?hr ?_; (case ho => rfl); (case hg => rfl); (case hn => rfl); (case hr => first | (go_simp; done) | (go_simp; rfl)); intro w13 hw; have hg : wr.grownBy w13 (some go11) := (by rw [hw]; exact HP12.2); have hp_ : Kd.R (Kd.int .u64) 36 w13 w.heap.size (fun _ => True) (.slice (some ⟨go11, 0, none⟩) x5_1.length co11) y249 := (by rw [hw, Ny249.out]; exact HP12.1); clear HP12; have n0_ := Aside0.mk (hp_); have n1_ := Aside0.mk ((by rw [hw]; exact below_set (HB.out) GB11.out : Below w.heap.size w w13)); clear HO_5; clear HB; have HO_5 := n0_; have HB := n1_; clear n0_ n1_; clear hg hw hp_)); try go_wp2_with (first | (go_at_call 140; (with_reducible refine (tenorref1_digit.calls _ _ l1 x7_1 t248 _ ?side1 ?side2 A9.out).mono ?_); (case side1 => exact cA (Kd.C_below HR1.out HB.out)); (case side2 => exact HC1.out); rintro e w' ⟨rfl, ⟨nd, rfl⟩⟩; (try exact ddA); have p11 : 0 ≤ (x7_1 : Int) := of_decide_eq_true asA; have q11 : (x7_1 : Int) < ((x5_1.length : Int) : Int) := of_decide_eq_true asA; obtain ⟨go11, co11, eo11, gb11, gl11, cl11, HG11⟩ := Kd.R_form HO_5.out (by omega); (first | cases eo11 | (injection eo11 with ea_ en_ ec_; (first | subst ea_ | (injection ea_ with ea_; subst ea_)); subst ec_; clear en_)); have GB11 := Aside0.mk gb11; have GG11 := Aside0.mk HG11; clear gb11 gl11 HG11; obtain ⟨hx11_0, hf11_0⟩ := Kd.R_celln 0 HO_5.out (x7_1 : Int) p11 q11; replace p11 := eq_true p11; replace q11 := eq_true q11; obtain ⟨hy12_, hz12_⟩ := Kd.R_celln 0 HO_5.out (x7_1 : Int) (of_decide_eq_true asA) (of_decide_eq_true asA); have HP12 := Kd.R_putg HO_5.out (x7_1 : Int) (Int.tmod (IntKind.u64.wrap ((IntKind.u64.wrap ((IntKind.u64.wrap ((rd l0 x7_1) + 4294967296)) - t248)) - x6_1)) 4294967296)) | ((with_reducible refine gate_store (t := 36) (p := 33) rfl ?_); (try rw [World.drewN_drewN]); (try (rw [drewN_self wr]; generalize hq_ : World.drewN wr _ = wr; have n0_ := Aside0.mk (Kd.R_at hq_ HO_5.out); have n1_ := Aside0.mk (below_at hq_ HB.out); clear hq_ HO_5 HB; have HO_5 := n0_; have HB := n1_; clear n0_ n1_; (try (obtain ⟨hy12_, hz12_⟩ := Kd.R_celln 0 HO_5.out (x7_1 : Int) (of_decide_eq_true asA) (of_decide_eq_true asA))); (try (have HP12 := Kd.R_putg HO_5.out (x7_1 : Int) (Int.tmod (IntKind.u64.wrap ((IntKind.u64.wrap ((IntKind.u64.wrap ((rd l0 x7_1) + 4294967296)) - t248)) - x6_1)) 4294967296))))); refine store_event (t := 36) (p := 33) (v := ?vo_w13) (w1 := (wr.setCell ⟨go11, (x7_1 : Int).toNat, none⟩ (.int .u64 (Int.tmod (IntKind.u64.wrap ((IntKind.u64.wrap ((IntKind.u64.wrap ((rd l0 x7_1) + 4294967296)) - t248)) - x6_1)) 4294967296)))) ?hg ?ho ?hn ?hr ?_; (case ho => rfl); (case hg => rfl); (case hn => rfl); (case hr => first | (go_simp; done) | (go_simp; rfl)); intro w13 hw; have hg : wr.grownBy w13 (some go11) := (by rw [hw]; exact HP12.2); have hp_ : Kd.R (Kd.int .u64) 36 w13 w.heap.size (fun _ => True) (.slice (some ⟨go11, 0, none⟩) x5_1.length co11) y249 := (by rw [hw, Ny249.out]; exact HP12.1); clear HP12; have n0_ := Aside0.mk (hp_); have n1_ := Aside0.mk ((by rw [hw]; exact below_set (HB.out) GB11.out : Below w.heap.size w w13)); clear HO_5; clear HB; have HO_5 := n0_; have HB := n1_; clear n0_ n1_; clear hg hw hp_)))
      go_roundg k1
      case measure => have := HK1.out; omega
      case rel => exact ⟨(y249), (IntKind.u64.wrap (1 - (IntKind.u64.wrap (Int.tdiv (IntKind.u64.wrap ((IntKind.u64.wrap ((IntKind.u64.wrap ((rd l0 x7_1) + 4294967296)) - t248)) - x6_1)) 4294967296)))), (wrap64 (x7_1 + 1)), (by first | (with_reducible rfl) | (simp; done) | (simp [*]; done) | rfl), (by first | (with_reducible rfl) | (simp; done) | (simp [*]; done) | rfl), H', ⟨by have := HK1.out; omega⟩, ⟨by first | ((with_reducible repeat (first | apply Kd.R_alloc | apply Kd.R_drewN | apply Kd.R_drew)); exact HO_5.out) | (rw [Ny249.out]; exact (Kd.R_putg (Kd.R_drewN HO_5.out _) (x7_1 : Int) (Int.tmod (IntKind.u64.wrap ((IntKind.u64.wrap ((IntKind.u64.wrap ((rd l0 x7_1) + 4294967296)) - t248)) - x6_1)) 4294967296)).1)⟩, ⟨by first | ((repeat (first | (with_reducible first | exact HB.out | apply below_alloc | apply pw_below_drewN | apply below_drew1) | exact HB.out)); done) | exact below_set (pw_below_drewN HB.out _) GB11.out⟩⟩

end Go.Proofs.YtepcegiciecogaaGreat.FR
