/- Written by the session's fprint.py out of the translation. -/
import Derived.Test.YtepcegiciecogaaGreatFKx0
namespace Go.Proofs.YtepcegiciecogaaGreat.FK
open Go.RowKit Go.Proofs.YtepcegiciecogaaGreatW.PrintWords Go.Proofs.YtepcegiciecogaaGreatW.PrintLast Go.Proofs.YtepcegiciecogaaGreatW.PrintMore
attribute [local go_sem] max2_int min2_int max_two min_two max_three min_three max_four min_four   -- for this text's walks alone
open Go.Proofs.YtepcegiciecogaaGreat.FX Go.Proofs.YtepcegiciecogaaGreat.FG Go.Proofs.YtepcegiciecogaaGreat.FR
attribute [local go_sem] run_store_float run_neg_float run_fmul isSome_setCell 
set_option linter.unusedVariables false
set_option linter.unusedSimpArgs false

/-! ### tenorlaw1_Bits: function 23 -/
def tenorlaw1_Bits.l0 : Nat → List Nat → List Int → Int → Option (List Int)
  | 0, _, _, _ => none
  | k + 1, x0, x3, x4 => if x4 < (x0.length : Int) then (if 0 ≤ x4 then ((api_Bits.f (rdOf (0 : Nat) x0 x4)).bind fun t102 => (if x3.length < 17592186044416 then (tenorlaw1_Bits.l0 k x0 (x3 ++ [t102]) (wrap64 (x4 + 1))) else (none))) else (none)) else (some x3)
def tenorlaw1_Bits.f (k : Nat) (l0 : List Nat) : Option (List Int) := tenorlaw1_Bits.l0 k l0 ([] : List Int) 0
set_option maxHeartbeats 8000000 in
set_option maxRecDepth 100000 in
theorem tenorlaw1_Bits.calls (k : Nat) (A0 : Option Addr) (c0 : Nat) (l0 : List Nat) (r : List Int) (w : World) (hr0 : Kd.C Kd.flt w A0 l0.length l0) (hc0 : l0.length ≤ c0) (h : tenorlaw1_Bits.f k l0 = some r) :
    Calls Tryz.prog 23 #[.slice A0 l0.length c0] w fun e w' => ∃ v0_ : Value, e = .returned (v0_) ∧ Kd.R (Kd.int .u64) 36 w' w.heap.size (fun _ => True) v0_ r ∧ Below w.heap.size w w' := by
  have HR0 := Aside0.mk hr0
  have HC0 := Aside0.mk hc0
  clear hr0 hc0
  have HB := Aside0.mk (Below.refl w.heap.size w)
  have H : (tenorlaw1_Bits.l0 k l0 ([] : List Int) 0) = some r := h
  clear h
  have H' := Aside0.mk H
  clear H
  go_enter Tryz.func23, Tryz.ntmps23
  go_wp2
  go_loopg [3, 4] k (fun kq v3 v4 w' => ∃ (x3_1 : List Int) (x4_1 : Int), v4 = .int .i64 x4_1 ∧ Aside0 (tenorlaw1_Bits.l0 kq l0 x3_1 x4_1 = some r) ∧ Aside0 (kq ≤ k) ∧ Aside0 (Kd.R (Kd.int .u64) 36 w' w.heap.size (fun _ => True) v3 x3_1) ∧ Aside0 (Below w.heap.size w w'))
  case atStart => exact ⟨(([] : List Int)), (0), (by first | rfl | (simp; done) | (simp [*]; done)), H', ⟨Nat.le_refl _⟩, ⟨by first | exact Kd.R_nil _ _ _ _ _ | exact Kd.N_nil _ _ _ _ _ | exact Kd.V_nil _ _ _ _ _ | exact Kd.Q_nil _ _ _ _ _ | exact Kd.S_nil _ _ _ _ _⟩, ⟨bA HB.out⟩⟩
  case round =>
    clear H'
    obtain ⟨x3_1, x4_1, rfl, HA, HK1, HO_3, HB⟩ := hrel
    cases gk with
    | zero => exact absurd HA.out (by simp [tenorlaw1_Bits.l0])
    | succ k1 =>
      have H := HA.out
      clear HA
      simp only [tenorlaw1_Bits.l0] at H
      by_cases c2 : x4_1 < (l0.length : Int)
      rotate_left
      · rw [if_neg c2] at H
        have c2b0 : decide (x4_1 < (l0.length : Int)) = false := decide_eq_false c2
        clear c2
        obtain rfl := Option.some.inj H
        go_wp2
        go_ret
        exact ⟨_, by first | rfl | (simp [errW_none, errW_some] <;> rfl) | (simp [*, errW_none, errW_some] <;> rfl), by (with_reducible repeat (first | apply Kd.R_alloc | apply Kd.R_drewN | apply Kd.R_drew)); exact HO_3.out, bA HB.out⟩
      rw [if_pos c2] at H
      have c2b0 : decide (x4_1 < (l0.length : Int)) = true := decide_eq_true c2
      clear c2
      by_cases c3 : 0 ≤ x4_1
      rotate_left
      · rw [if_neg c3] at H
        exact absurd H (by simp)
      rw [if_pos c3] at H
      have c3b0 : decide (0 ≤ x4_1) = true := decide_eq_true c3
      clear c3
      replace H := Option.bind_eq_some_iff.mp H
      obtain ⟨t102, A40, H⟩ := H
      have A4 := Aside0.mk A40
      clear A40
      by_cases c5 : x3_1.length < 17592186044416
      rotate_left
      · rw [if_neg c5] at H
        exact absurd H (by simp)
      rw [if_pos c5] at H
      have LMc5 := Aside0.mk c5
      clear c5
      obtain ⟨y103, hy103⟩ : ∃ y_ : List Int, y_ = (x3_1 ++ [t102]) := ⟨_, rfl⟩
      replace H : (tenorlaw1_Bits.l0 k1 l0 y103 (wrap64 (x4_1 + 1))) = some r := by first | (rw [hy103]; with_reducible exact H) | (have H2_ := (Option.bind_some _ _).symm.trans H; rw [hy103]; with_reducible exact H2_) | (have H2_ := (Option.bind_some _ _).symm.trans H; with_reducible exact H2_) | with_reducible exact H | (rw [hy103]; exact H) | exact H
      have Ny103 := Aside0.mk hy103
      clear hy103
      have H' := Aside0.mk H
      clear H
      have p101 : 0 ≤ (x4_1 : Int) := of_decide_eq_true asA
      have q101 : x4_1 < (l0.length : Int) := of_decide_eq_true asA
      obtain ⟨ad101, e101, hx101_0⟩ := Kd.at_flt HR0.out x4_1 p101 q101
      cases e101
      replace hx101_0 := (HB.out.cell (World.block_lt_of_cell? w _ hx101_0)).trans hx101_0
      replace p101 := eq_true p101
      replace q101 := eq_true q101
      go_wp2_with (first | ((with_reducible refine gate_callee (f := 15) rfl ?_); refine goesL_ (some 16) rfl rfl Tryz.func15 (by kernel_rfl) rfl #[.float .f64 (rdOf (0 : Nat) l0 x4_1)] rfl mA ?_; (with_reducible refine (api_Bits.calls (rdOf (0 : Nat) l0 x4_1) t102 _ A4.out).mono ?_); rintro e w' ⟨rfl, ⟨nd, rfl⟩⟩; refine ⟨_, rfl, ?_⟩) | ((with_reducible refine gate_builtin (b := .append) (xs := #[.tmp 11, .tmp 17]) rfl ?_); at_builtin; refine Kd.R_append (Kd.int .u64) (w0 := w) w.heap.size rfl (.tmp 11) (.tmp 17) 49 36 (.int .u64 0) 8 rfl Tryz.underlying49 info36 rfl (by decide) (by omega) u3 x3_1 t102 [.int .u64 t102] (fun _ => True) (fun _ => False) rfl rfl ?aP (fun _ hk => hk.elim) ?aF ?aO ?aB ?aS ?aL ?_; (case aP => exact rfl); (case aB => exact (bA HB.out)); (case aF => exact (fun _ _ => trivial)); (case aO => exact (rA HO_3.out)); (case aS => exact (below_size (bA HB.out))); (case aL => have := LMc5.out; omega); intro v104 w6 ho hb hg hat; rw [← Ny103.out] at ho; have n0_ := Aside0.mk (hb); have n1_ := Aside0.mk (ho); clear HB; clear HO_3; have HB := n0_; have HO105 := n1_; clear n0_ n1_; clear ho hb hg hat))
      go_roundg k1
      case measure => have := HK1.out; omega
      case rel => exact ⟨(y103), (wrap64 (x4_1 + 1)), (by first | rfl | (simp; done) | (simp [*]; done)), H', ⟨by have := HK1.out; omega⟩, ⟨rA HO105.out⟩, ⟨bA HB.out⟩⟩

/-! ### tenorref1_Less: function 56 -/
def tenorref1_Less.j0 : Nat → Int → Int → Bool → Option (Bool)
  | 0, _, _, _ => none
  | k + 1, x0, x1, x10 => if x10 = true then ((tenorref1_IsNaN.f x0).bind fun t108 => (if t108 = true then (some false) else ((tenorref1_IsNaN.f x1).bind fun t109 => (some t109)))) else ((tenorref1_Size.f x0).bind fun t110 => (if t110 = 0 then ((tenorref1_Size.f x1).bind fun t111 => (if t111 = 0 then (some (decide (x0 > x1))) else ((tenorref1_Lt.f x0 x1).bind fun t112 => (some t112)))) else ((tenorref1_Lt.f x0 x1).bind fun t113 => (some t113))))
def tenorref1_Less.f (k : Nat) (a0 : Int) (a1 : Int) : Option (Bool) := (tenorref1_IsNaN.f a0).bind fun t106 => (if t106 = true then (tenorref1_Less.j0 k a0 a1 true) else ((tenorref1_IsNaN.f a1).bind fun t107 => (tenorref1_Less.j0 k a0 a1 t107)))
set_option maxHeartbeats 8000000 in
set_option maxRecDepth 100000 in
theorem tenorref1_Less.calls (k : Nat) (a0 : Int) (a1 : Int) (r : Bool) (w : World) (h : tenorref1_Less.f k a0 a1 = some r) :
    Calls Tryz.prog 56 #[.int .u64 a0, .int .u64 a1] w fun e w' => e = .returned (.bool r) ∧ Drawn0 w w' := by
  have H : ((tenorref1_IsNaN.f a0).bind fun t106 => (if t106 = true then (tenorref1_Less.j0 k a0 a1 true) else ((tenorref1_IsNaN.f a1).bind fun t107 => (tenorref1_Less.j0 k a0 a1 t107)))) = some r := h
  clear h
  have HC3 := Aside0.mk H
  clear H
  go_enter Tryz.func56, Tryz.ntmps56
  go_upto_region 1 with (fail)
  go_cut [10] (fun v10 wc => ∃ (kq : Nat) (x10_2 : Bool), v10 = .bool x10_2 ∧ Aside0 (tenorref1_Less.j0 kq a0 a1 x10_2 = some r) ∧ Aside0 (kq ≤ k) ∧ Drawn0 w wc)
  case first =>
    have H := HC3.out
    clear HC3
    replace H := Option.bind_eq_some_iff.mp H
    obtain ⟨t106, A40, H⟩ := H
    have A4 := Aside0.mk A40
    clear A40
    by_cases c5 : t106 = true
    · subst c5
      have H1 : (tenorref1_Less.j0 k a0 a1 true) = some r := by rw [if_pos rfl] at H; exact H
      clear H
      have H := H1
      clear H1
      have H' := Aside0.mk H
      clear H
      go_wp2_with (first | ((with_reducible refine gate_callee (f := 68) rfl ?_); refine goesL_ (some 6) rfl rfl Tryz.func68 (by kernel_rfl) rfl #[.int .u64 a0] rfl mA ?_; (with_reducible refine (tenorref1_IsNaN.calls a0 true _ A4.out).mono ?_); rintro e w' ⟨rfl, ⟨nd, rfl⟩⟩; refine ⟨_, rfl, ?_⟩))
      go_meet
      case rel => exact ⟨_, (true), (by first | rfl | (simp; done) | (simp [*]; done)), H', ⟨by first | omega | exact Nat.le_refl _⟩, by repeat (first | exact Drawn0.refl _ | apply Drawn0.step)⟩
    replace c5 := Bool.eq_false_iff.mpr c5
    subst c5
    have H1 : ((tenorref1_IsNaN.f a1).bind fun t107 => (tenorref1_Less.j0 k a0 a1 t107)) = some r := by rw [if_neg (show ¬ (false = true) by decide)] at H; exact H
    clear H
    have H := H1
    clear H1
    replace H := Option.bind_eq_some_iff.mp H
    obtain ⟨t107, A60, H⟩ := H
    have A6 := Aside0.mk A60
    clear A60
    have H' := Aside0.mk H
    clear H
    go_wp2_with (first | ((with_reducible refine gate_callee (f := 68) rfl ?_); refine goesL_ (some 6) rfl rfl Tryz.func68 (by kernel_rfl) rfl #[.int .u64 a0] rfl mA ?_; (with_reducible refine (tenorref1_IsNaN.calls a0 false _ A4.out).mono ?_); rintro e w' ⟨rfl, ⟨nd, rfl⟩⟩; refine ⟨_, rfl, ?_⟩) | (go_at_call 68; (with_reducible refine (tenorref1_IsNaN.calls a1 t107 _ A6.out).mono ?_); rintro e w' ⟨rfl, ⟨nd, rfl⟩⟩))
    go_meet
    case rel => exact ⟨_, (t107), (by first | rfl | (simp; done) | (simp [*]; done)), H', ⟨by first | omega | exact Nat.le_refl _⟩, by repeat (first | exact Drawn0.refl _ | apply Drawn0.step)⟩
  case rest =>
    clear HC3
    try clear p2
    try clear c5
    try clear c6
    obtain ⟨kq, x10_2, rfl, HA, HJ2, ⟨mc2, rfl⟩⟩ := hcut
    cases kq with
    | zero => exact absurd HA.out (by simp [tenorref1_Less.j0])
    | succ kj2 =>
      have H := HA.out
      clear HA
      simp only [tenorref1_Less.j0] at H
      by_cases c7 : x10_2 = true
      · subst c7
        have H1 : ((tenorref1_IsNaN.f a0).bind fun t108 => (if t108 = true then (some false) else ((tenorref1_IsNaN.f a1).bind fun t109 => (some t109)))) = some r := by rw [if_pos rfl] at H; exact H
        clear H
        have H := H1
        clear H1
        replace H := Option.bind_eq_some_iff.mp H
        obtain ⟨t108, A80, H⟩ := H
        have A8 := Aside0.mk A80
        clear A80
        by_cases c9 : t108 = true
        · subst c9
          have H1 : (some false) = some r := by rw [if_pos rfl] at H; exact H
          clear H
          have H := H1
          clear H1
          obtain rfl := Option.some.inj H
          go_wp2_with (first | ((with_reducible refine gate_callee (f := 68) rfl ?_); refine goesL_ (some 12) rfl rfl Tryz.func68 (by kernel_rfl) rfl #[.int .u64 a0] rfl mA ?_; (with_reducible refine (tenorref1_IsNaN.calls a0 true _ A8.out).mono ?_); rintro e w' ⟨rfl, ⟨nd, rfl⟩⟩; refine ⟨_, rfl, ?_⟩))
          go_ret
          exact ⟨sA, dA⟩
        replace c9 := Bool.eq_false_iff.mpr c9
        subst c9
        have H1 : ((tenorref1_IsNaN.f a1).bind fun t109 => (some t109)) = some r := by rw [if_neg (show ¬ (false = true) by decide)] at H; exact H
        clear H
        have H := H1
        clear H1
        replace H := Option.bind_eq_some_iff.mp H
        obtain ⟨t109, A100, H⟩ := H
        have A10 := Aside0.mk A100
        clear A100
        obtain rfl := Option.some.inj H
        go_wp2_with (first | ((with_reducible refine gate_callee (f := 68) rfl ?_); refine goesL_ (some 12) rfl rfl Tryz.func68 (by kernel_rfl) rfl #[.int .u64 a0] rfl mA ?_; (with_reducible refine (tenorref1_IsNaN.calls a0 false _ A8.out).mono ?_); rintro e w' ⟨rfl, ⟨nd, rfl⟩⟩; refine ⟨_, rfl, ?_⟩) | (go_at_call 68; (with_reducible refine (tenorref1_IsNaN.calls a1 t109 _ A10.out).mono ?_); rintro e w' ⟨rfl, ⟨nd, rfl⟩⟩))
        go_ret
        exact ⟨sA, dA⟩
      replace c7 := Bool.eq_false_iff.mpr c7
      subst c7
      have H1 : ((tenorref1_Size.f a0).bind fun t110 => (if t110 = 0 then ((tenorref1_Size.f a1).bind fun t111 => (if t111 = 0 then (some (decide (a0 > a1))) else ((tenorref1_Lt.f a0 a1).bind fun t112 => (some t112)))) else ((tenorref1_Lt.f a0 a1).bind fun t113 => (some t113)))) = some r := by rw [if_neg (show ¬ (false = true) by decide)] at H; exact H
      clear H
      have H := H1
      clear H1
      replace H := Option.bind_eq_some_iff.mp H
      obtain ⟨t110, A110, H⟩ := H
      have A11 := Aside0.mk A110
      clear A110
      by_cases c12 : t110 = 0
      rotate_left
      · rw [if_neg c12] at H
        have c12b0 : (t110 == 0) = false := beq_eq_false_iff_ne.mpr c12
        have c12b1 : (t110 != 0) = true := bne_iff_ne.mpr c12
        replace H := Option.bind_eq_some_iff.mp H
        obtain ⟨t113, A160, H⟩ := H
        have A16 := Aside0.mk A160
        clear A160
        obtain rfl := Option.some.inj H
        go_wp2_with (first | ((with_reducible refine gate_callee (f := 74) rfl ?_); refine goesL_ (some 19) rfl rfl Tryz.func74 (by kernel_rfl) rfl #[.int .u64 a0] rfl mA ?_; (with_reducible refine (tenorref1_Size.calls a0 t110 _ A11.out).mono ?_); rintro e w' ⟨rfl, ⟨nd, rfl⟩⟩; refine ⟨_, rfl, ?_⟩) | ((with_reducible refine gate_callee (f := 90) rfl ?_); refine goesL_ (some 31) rfl rfl Tryz.func90 (by kernel_rfl) rfl #[.int .u64 a0, .int .u64 a1] rfl mA ?_; (with_reducible refine (tenorref1_Lt.calls a0 a1 t113 _ A16.out).mono ?_); rintro e w' ⟨rfl, ⟨nd, rfl⟩⟩; refine ⟨_, rfl, ?_⟩))
        go_ret
        exact ⟨sA, dA⟩
      rw [if_pos c12] at H
      have c12b0 : (t110 == 0) = true := beq_iff_eq.mpr c12
      have c12b1 : (t110 != 0) = false := bne_eq_false_iff_eq.mpr c12
      clear c12
      replace H := Option.bind_eq_some_iff.mp H
      obtain ⟨t111, A130, H⟩ := H
      have A13 := Aside0.mk A130
      clear A130
      by_cases c14 : t111 = 0
      · rw [if_pos c14] at H
        have c14b0 : (t111 == 0) = true := beq_iff_eq.mpr c14
        have c14b1 : (t111 != 0) = false := bne_eq_false_iff_eq.mpr c14
        clear c14
        obtain rfl := Option.some.inj H
        go_wp2_with (first | ((with_reducible refine gate_callee (f := 74) rfl ?_); refine goesL_ (some 19) rfl rfl Tryz.func74 (by kernel_rfl) rfl #[.int .u64 a0] rfl mA ?_; (with_reducible refine (tenorref1_Size.calls a0 t110 _ A11.out).mono ?_); rintro e w' ⟨rfl, ⟨nd, rfl⟩⟩; refine ⟨_, rfl, ?_⟩) | (go_at_call 74; (with_reducible refine (tenorref1_Size.calls a1 t111 _ A13.out).mono ?_); rintro e w' ⟨rfl, ⟨nd, rfl⟩⟩))
        go_ret
        exact ⟨sA, dA⟩
      rw [if_neg c14] at H
      have c14b0 : (t111 == 0) = false := beq_eq_false_iff_ne.mpr c14
      have c14b1 : (t111 != 0) = true := bne_iff_ne.mpr c14
      replace H := Option.bind_eq_some_iff.mp H
      obtain ⟨t112, A150, H⟩ := H
      have A15 := Aside0.mk A150
      clear A150
      obtain rfl := Option.some.inj H
      go_wp2_with (first | ((with_reducible refine gate_callee (f := 74) rfl ?_); refine goesL_ (some 19) rfl rfl Tryz.func74 (by kernel_rfl) rfl #[.int .u64 a0] rfl mA ?_; (with_reducible refine (tenorref1_Size.calls a0 t110 _ A11.out).mono ?_); rintro e w' ⟨rfl, ⟨nd, rfl⟩⟩; refine ⟨_, rfl, ?_⟩) | (go_at_call 74; (with_reducible refine (tenorref1_Size.calls a1 t111 _ A13.out).mono ?_); rintro e w' ⟨rfl, ⟨nd, rfl⟩⟩) | ((with_reducible refine gate_callee (f := 90) rfl ?_); refine goesL_ (some 31) rfl rfl Tryz.func90 (by kernel_rfl) rfl #[.int .u64 a0, .int .u64 a1] rfl mA ?_; (with_reducible refine (tenorref1_Lt.calls a0 a1 t112 _ A15.out).mono ?_); rintro e w' ⟨rfl, ⟨nd, rfl⟩⟩; refine ⟨_, rfl, ?_⟩))
      go_ret
      exact ⟨sA, dA⟩

/-! ### tenorref1_Sort: function 54 -/
mutual
def tenorref1_Sort.l0 : Nat → List Int → List Int → Int → Option (List Int)
  | 0, _, _, _ => none
  | k + 1, x0, x3, x4 => if x4 < (x0.length : Int) then (if 0 ≤ x4 then (if x3.length < 17592186044416 then (tenorref1_Sort.l1 k x0 (x3 ++ [rd x0 x4]) x4 (x3.length : Int)) else (none)) else (none)) else (some x3)
def tenorref1_Sort.l1 : Nat → List Int → List Int → Int → Int → Option (List Int)
  | 0, _, _, _, _ => none
  | k + 1, x0, x3, x4, x5 => if x5 > 0 then (if 0 ≤ x4 then (if x4 < (x0.length : Int) then (if 0 ≤ (wrap64 (x5 - 1)) then (if (wrap64 (x5 - 1)) < (x3.length : Int) then ((tenorref1_Less.f k (rd x0 x4) (rd x3 (wrap64 (x5 - 1)))).bind fun t120 => (if t120 = true then (if 0 ≤ x5 then (if x5 < (x3.length : Int) then (tenorref1_Sort.l1 k x0 (x3.set (x5 : Int).toNat (rd x3 (wrap64 (x5 - 1)))) x4 (wrap64 (x5 - 1))) else (none)) else (none)) else (if 0 ≤ x5 then (if x5 < (x3.length : Int) then (tenorref1_Sort.l0 k x0 (x3.set (x5 : Int).toNat (rd x0 x4)) (wrap64 (x4 + 1))) else (none)) else (none)))) else (none)) else (none)) else (none)) else (none)) else (if 0 ≤ x4 then (if x4 < (x0.length : Int) then (if 0 ≤ x5 then (if x5 < (x3.length : Int) then (tenorref1_Sort.l0 k x0 (x3.set (x5 : Int).toNat (rd x0 x4)) (wrap64 (x4 + 1))) else (none)) else (none)) else (none)) else (none))
end
def tenorref1_Sort.f (k : Nat) (l0 : List Int) : Option (List Int) := tenorref1_Sort.l0 k l0 ([] : List Int) 0
set_option maxHeartbeats 8000000 in
set_option maxRecDepth 100000 in
theorem tenorref1_Sort.calls (k : Nat) (A0 : Option Addr) (c0 : Nat) (l0 : List Int) (r : List Int) (w : World) (hr0 : Kd.C (Kd.int .u64) w A0 l0.length l0) (hc0 : l0.length ≤ c0) (h : tenorref1_Sort.f k l0 = some r) :
    Calls Tryz.prog 54 #[.slice A0 l0.length c0] w fun e w' => ∃ v0_ : Value, e = .returned (v0_) ∧ Kd.R (Kd.int .u64) 36 w' w.heap.size (fun _ => True) v0_ r ∧ Below w.heap.size w w' := by
  have HR0 := Aside0.mk hr0
  have HC0 := Aside0.mk hc0
  clear hr0 hc0
  have HB := Aside0.mk (Below.refl w.heap.size w)
  have H : (tenorref1_Sort.l0 k l0 ([] : List Int) 0) = some r := h
  clear h
  have H' := Aside0.mk H
  clear H
  go_enter Tryz.func54, Tryz.ntmps54
  go_wp2
  repeat (go_quiet (fail); try go_wp2)
  go_loopg [3, 4] k (fun kq v3 v4 w' => ∃ (x3_1 : List Int) (x4_1 : Int), v4 = .int .i64 x4_1 ∧ Aside0 (tenorref1_Sort.l0 kq l0 x3_1 x4_1 = some r) ∧ Aside0 (kq ≤ k) ∧ Aside0 (Kd.R (Kd.int .u64) 36 w' w.heap.size (fun _ => True) v3 x3_1) ∧ Aside0 (Below w.heap.size w w'))
  case atStart => exact ⟨(([] : List Int)), (0), (by first | rfl | (simp; done) | (simp [*]; done)), H', ⟨Nat.le_refl _⟩, ⟨by first | exact Kd.R_nil _ _ _ _ _ | exact Kd.N_nil _ _ _ _ _ | exact Kd.V_nil _ _ _ _ _ | exact Kd.Q_nil _ _ _ _ _ | exact Kd.S_nil _ _ _ _ _⟩, ⟨bA HB.out⟩⟩
  case round =>
    clear H'
    obtain ⟨x3_1, x4_1, rfl, HA, HK1, HO_3, HB⟩ := hrel
    cases gk with
    | zero => exact absurd HA.out (by simp [tenorref1_Sort.l0])
    | succ k1 =>
      have H := HA.out
      clear HA
      simp only [tenorref1_Sort.l0] at H
      by_cases c2 : x4_1 < (l0.length : Int)
      rotate_left
      · rw [if_neg c2] at H
        have c2b0 : decide (x4_1 < (l0.length : Int)) = false := decide_eq_false c2
        clear c2
        obtain rfl := Option.some.inj H
        go_wp2
        repeat (go_quiet (fail); try go_wp2)
        go_ret
        exact ⟨_, by first | rfl | (simp [errW_none, errW_some] <;> rfl) | (simp [*, errW_none, errW_some] <;> rfl), by (with_reducible repeat (first | apply Kd.R_alloc | apply Kd.R_drewN | apply Kd.R_drew)); exact HO_3.out, bA HB.out⟩
      rw [if_pos c2] at H
      have c2b0 : decide (x4_1 < (l0.length : Int)) = true := decide_eq_true c2
      clear c2
      by_cases c3 : 0 ≤ x4_1
      rotate_left
      · rw [if_neg c3] at H
        exact absurd H (by simp)
      rw [if_pos c3] at H
      have c3b0 : decide (0 ≤ x4_1) = true := decide_eq_true c3
      clear c3
      by_cases c4 : x3_1.length < 17592186044416
      rotate_left
      · rw [if_neg c4] at H
        exact absurd H (by simp)
      rw [if_pos c4] at H
      have LMc4 := Aside0.mk c4
      clear c4
      obtain ⟨y115, hy115⟩ : ∃ y_ : List Int, y_ = (x3_1 ++ [rd l0 x4_1]) := ⟨_, rfl⟩
      replace H : (tenorref1_Sort.l1 k1 l0 y115 x4_1 (x3_1.length : Int)) = some r := by first | (rw [hy115]; with_reducible exact H) | (have H2_ := (Option.bind_some _ _).symm.trans H; rw [hy115]; with_reducible exact H2_) | (have H2_ := (Option.bind_some _ _).symm.trans H; with_reducible exact H2_) | with_reducible exact H | (rw [hy115]; exact H) | exact H
      have Ny115 := Aside0.mk hy115
      clear hy115
      have H' := Aside0.mk H
      clear H
      obtain ⟨Ao5, co5, eo5⟩ := Kd.R_slice HO_3.out
      subst eo5
      have p114 : 0 ≤ (x4_1 : Int) := of_decide_eq_true asA
      have q114 : x4_1 < (l0.length : Int) := of_decide_eq_true asA
      obtain ⟨ad114, e114, hx114_0⟩ := Kd.at_int HR0.out x4_1 p114 q114
      cases e114
      replace hx114_0 := (HB.out.cell (World.block_lt_of_cell? w _ hx114_0)).trans hx114_0
      replace p114 := eq_true p114
      replace q114 := eq_true q114
      go_wp2_with (first | ((with_reducible refine gate_builtin (b := .append) (xs := #[.tmp 14, .tmp 19]) rfl ?_); at_builtin; refine Kd.R_append (Kd.int .u64) (w0 := w) w.heap.size rfl (.tmp 14) (.tmp 19) 49 36 (.int .u64 0) 8 rfl Tryz.underlying49 info36 rfl (by decide) (by omega) (.slice Ao5 x3_1.length co5) x3_1 (rd l0 x4_1) [.int .u64 (rd l0 x4_1)] (fun _ => True) (fun _ => False) rfl rfl ?aP (fun _ hk => hk.elim) ?aF ?aO ?aB ?aS ?aL ?_; (case aP => exact rfl); (case aB => exact (bA HB.out)); (case aF => exact (fun _ _ => trivial)); (case aO => exact (rA HO_3.out)); (case aS => exact (below_size (bA HB.out))); (case aL => have := LMc4.out; omega); intro v116 w6 ho hb hg hat; rw [← Ny115.out] at ho; have n0_ := Aside0.mk (hb); have n1_ := Aside0.mk (ho); clear HB; clear HO_3; have HB := n0_; have HO117 := n1_; clear n0_ n1_; clear ho hb hg hat))
      go_loopg [5] k1 (fun kq v5 w' => ∃ (x3_2 : List Int) (x5_2 : Int), v5 = .int .i64 x5_2 ∧ Aside0 (tenorref1_Sort.l1 kq l0 x3_2 x4_1 x5_2 = some r) ∧ Aside0 (kq ≤ k1) ∧ Aside0 (Kd.R (Kd.int .u64) 36 w' w.heap.size (fun _ => True) v116 x3_2) ∧ Aside0 (Below w.heap.size w w'))
      case atStart => exact ⟨(y115), ((x3_1.length : Int)), (by first | rfl | (simp; done) | (simp [*]; done)), H', ⟨Nat.le_refl _⟩, ⟨rA HO117.out⟩, ⟨bA HB.out⟩⟩
      case round =>
        clear H'
        try clear p1
        try clear q1
        try clear hx1
        try clear c2
        try clear c2b0
        try clear p2
        try clear c3
        try clear c3b0
        try clear c4
        try clear c5
        try clear hx114_0
        try clear p114
        try clear q114
        obtain ⟨x3_2, x5_2, rfl, HA, HK2, HO_3, HB⟩ := hrel
        cases gk with
        | zero => exact absurd HA.out (by simp [tenorref1_Sort.l1])
        | succ k2 =>
          have H := HA.out
          clear HA
          simp only [tenorref1_Sort.l1] at H
          by_cases c7 : x5_2 > 0
          rotate_left
          · rw [if_neg c7] at H
            have c7b0 : decide (0 < x5_2) = false := decide_eq_false c7
            clear c7
            by_cases c27 : 0 ≤ x4_1
            rotate_left
            · rw [if_neg c27] at H
              exact absurd H (by simp)
            rw [if_pos c27] at H
            have c27b0 : decide (0 ≤ x4_1) = true := decide_eq_true c27
            clear c27
            by_cases c28 : x4_1 < (l0.length : Int)
            rotate_left
            · rw [if_neg c28] at H
              exact absurd H (by simp)
            rw [if_pos c28] at H
            have c28b0 : decide (x4_1 < (l0.length : Int)) = true := decide_eq_true c28
            clear c28
            by_cases c29 : 0 ≤ x5_2
            rotate_left
            · rw [if_neg c29] at H
              exact absurd H (by simp)
            rw [if_pos c29] at H
            have c29b0 : decide (0 ≤ x5_2) = true := decide_eq_true c29
            clear c29
            by_cases c30 : x5_2 < (x3_2.length : Int)
            rotate_left
            · rw [if_neg c30] at H
              exact absurd H (by simp)
            rw [if_pos c30] at H
            have c30b0 : decide (x5_2 < (x3_2.length : Int)) = true := decide_eq_true c30
            clear c30
            obtain ⟨y126, hy126⟩ : ∃ y_ : List Int, y_ = (x3_2.set (x5_2 : Int).toNat (rd l0 x4_1)) := ⟨_, rfl⟩
            replace H : (tenorref1_Sort.l0 k2 l0 y126 (wrap64 (x4_1 + 1))) = some r := by first | (rw [hy126]; with_reducible exact H) | (have H2_ := (Option.bind_some _ _).symm.trans H; rw [hy126]; with_reducible exact H2_) | (have H2_ := (Option.bind_some _ _).symm.trans H; with_reducible exact H2_) | with_reducible exact H | (rw [hy126]; exact H) | exact H
            have Ny126 := Aside0.mk hy126
            clear hy126
            have H' := Aside0.mk H
            clear H
            have p125 : 0 ≤ (x4_1 : Int) := of_decide_eq_true asA
            have q125 : x4_1 < (l0.length : Int) := of_decide_eq_true asA
            obtain ⟨ad125, e125, hx125_0⟩ := Kd.at_int HR0.out x4_1 p125 q125
            obtain rfl : ad114 = ad125 := (by injection e125)
            replace hx125_0 := (HB.out.cell (World.block_lt_of_cell? w _ hx125_0)).trans hx125_0
            replace p125 := eq_true p125
            replace q125 := eq_true q125
            have p31 : 0 ≤ (x5_2 : Int) := of_decide_eq_true asA
            have q31 : (x5_2 : Int) < ((x3_2.length : Int) : Int) := of_decide_eq_true asA
            obtain ⟨go31, co31, eo31, gb31, gl31, cl31, HG31⟩ := Kd.R_form HO_3.out (by omega)
            (first | cases eo31 | (injection eo31 with ea_ en_ ec_; (first | subst ea_ | (injection ea_ with ea_; subst ea_)); subst ec_; clear en_))
            have GB31 := Aside0.mk gb31
            have GG31 := Aside0.mk HG31
            clear gb31 gl31 HG31
            obtain ⟨hx31_0, hf31_0⟩ := Kd.R_celln 0 HO_3.out (x5_2 : Int) p31 q31
            replace p31 := eq_true p31
            replace q31 := eq_true q31
            have HP32 := Kd.R_putg HO_3.out (x5_2 : Int) (rd l0 x4_1)
            go_wp2_with (first | ((with_reducible refine gate_store (t := 36) (p := 51) rfl ?_); (try rw [World.drewN_drewN]); (try (rw [drewN_self wr]; generalize hq_ : World.drewN wr _ = wr; have n0_ := Aside0.mk (Kd.R_at hq_ HO_3.out); have n1_ := Aside0.mk (below_at hq_ HB.out); clear hq_ HO_3 HB; have HO_3 := n0_; have HB := n1_; clear n0_ n1_; (try (have HP32 := Kd.R_putg HO_3.out (x5_2 : Int) (rd l0 x4_1))))); refine store_event (t := 36) (p := 51) (v := ?vo_w33) (w1 := (wr.setCell ⟨go31, (x5_2 : Int).toNat, none⟩ (.int .u64 (rd l0 x4_1)))) ?hg ?ho ?hn ?hr ?_; (case ho => rfl); (case hg => rfl); (case hn => rfl); (case hr => first | (go_simp; done) | (go_simp; rfl)); intro w33 hw; have hg : wr.grownBy w33 (some go31) := (by rw [hw]; exact HP32.2); have hp_ : Kd.R (Kd.int .u64) 36 w33 w.heap.size (fun _ => True) (.slice (some ⟨go31, 0, none⟩) x3_2.length co31) y126 := (by rw [hw, Ny126.out]; exact HP32.1); clear HP32; have n0_ := Aside0.mk (hp_); have n1_ := Aside0.mk ((by rw [hw]; exact below_set (HB.out) GB31.out : Below w.heap.size w w33)); clear HO_3; clear HB; have HO_3 := n0_; have HB := n1_; clear n0_ n1_; clear hg hw hp_))
            repeat (go_quiet (first | ((with_reducible refine gate_store (t := 36) (p := 51) rfl ?_); (try rw [World.drewN_drewN]); (try (rw [drewN_self wr]; generalize hq_ : World.drewN wr _ = wr; have n0_ := Aside0.mk (Kd.R_at hq_ HO_3.out); have n1_ := Aside0.mk (below_at hq_ HB.out); clear hq_ HO_3 HB; have HO_3 := n0_; have HB := n1_; clear n0_ n1_; (try (have HP32 := Kd.R_putg HO_3.out (x5_2 : Int) (rd l0 x4_1))))); refine store_event (t := 36) (p := 51) (v := ?vo_w33) (w1 := (wr.setCell ⟨go31, (x5_2 : Int).toNat, none⟩ (.int .u64 (rd l0 x4_1)))) ?hg ?ho ?hn ?hr ?_; (case ho => rfl); (case hg => rfl); (case hn => rfl); (case hr => first | (go_simp; done) | (go_simp; rfl)); intro w33 hw; have hg : wr.grownBy w33 (some go31) := (by rw [hw]; exact HP32.2); have hp_ : Kd.R (Kd.int .u64) 36 w33 w.heap.size (fun _ => True) (.slice (some ⟨go31, 0, none⟩) x3_2.length co31) y126 := (by rw [hw, Ny126.out]; exact HP32.1); clear HP32; have n0_ := Aside0.mk (hp_); have n1_ := Aside0.mk ((by rw [hw]; exact below_set (HB.out) GB31.out : Below w.heap.size w w33)); clear HO_3; clear HB; have HO_3 := n0_; have HB := n1_; clear n0_ n1_; clear hg hw hp_)); try go_wp2_with (first | ((with_reducible refine gate_store (t := 36) (p := 51) rfl ?_); (try rw [World.drewN_drewN]); (try (rw [drewN_self wr]; generalize hq_ : World.drewN wr _ = wr; have n0_ := Aside0.mk (Kd.R_at hq_ HO_3.out); have n1_ := Aside0.mk (below_at hq_ HB.out); clear hq_ HO_3 HB; have HO_3 := n0_; have HB := n1_; clear n0_ n1_; (try (have HP32 := Kd.R_putg HO_3.out (x5_2 : Int) (rd l0 x4_1))))); refine store_event (t := 36) (p := 51) (v := ?vo_w33) (w1 := (wr.setCell ⟨go31, (x5_2 : Int).toNat, none⟩ (.int .u64 (rd l0 x4_1)))) ?hg ?ho ?hn ?hr ?_; (case ho => rfl); (case hg => rfl); (case hn => rfl); (case hr => first | (go_simp; done) | (go_simp; rfl)); intro w33 hw; have hg : wr.grownBy w33 (some go31) := (by rw [hw]; exact HP32.2); have hp_ : Kd.R (Kd.int .u64) 36 w33 w.heap.size (fun _ => True) (.slice (some ⟨go31, 0, none⟩) x3_2.length co31) y126 := (by rw [hw, Ny126.out]; exact HP32.1); clear HP32; have n0_ := Aside0.mk (hp_); have n1_ := Aside0.mk ((by rw [hw]; exact below_set (HB.out) GB31.out : Below w.heap.size w w33)); clear HO_3; clear HB; have HO_3 := n0_; have HB := n1_; clear n0_ n1_; clear hg hw hp_)))
            go_roundg k2
            case measure => have := HK1.out; have := HK2.out; omega
            case rel => exact ⟨(y126), (wrap64 (x4_1 + 1)), (by first | rfl | (simp; done) | (simp [*]; done)), H', ⟨by have := HK1.out; have := HK2.out; omega⟩, ⟨by first | ((with_reducible repeat (first | apply Kd.R_alloc | apply Kd.R_drewN | apply Kd.R_drew)); exact HO_3.out) | (rw [Ny126.out]; exact (Kd.R_putg (Kd.R_drewN HO_3.out _) (x5_2 : Int) (rd l0 x4_1)).1)⟩, ⟨by first | ((repeat (first | (with_reducible first | exact HB.out | apply below_alloc | apply pw_below_drewN | apply below_drew1) | exact HB.out)); done) | exact below_set (pw_below_drewN HB.out _) GB31.out⟩⟩
          rw [if_pos c7] at H
          have c7b0 : decide (0 < x5_2) = true := decide_eq_true c7
          clear c7
          by_cases c8 : 0 ≤ x4_1
          rotate_left
          · rw [if_neg c8] at H
            exact absurd H (by simp)
          rw [if_pos c8] at H
          have c8b0 : decide (0 ≤ x4_1) = true := decide_eq_true c8
          clear c8
          by_cases c9 : x4_1 < (l0.length : Int)
          rotate_left
          · rw [if_neg c9] at H
            exact absurd H (by simp)
          rw [if_pos c9] at H
          have c9b0 : decide (x4_1 < (l0.length : Int)) = true := decide_eq_true c9
          clear c9
          obtain ⟨ji10, hji10⟩ : ∃ j_ : Int, (wrap64 (x5_2 - 1)) = j_ := ⟨_, rfl⟩
          replace H : (if 0 ≤ (ji10) then (if (ji10) < (x3_2.length : Int) then ((tenorref1_Less.f k2 (rd l0 x4_1) (rd x3_2 (ji10))).bind fun t120 => (if t120 = true then (if 0 ≤ x5_2 then (if x5_2 < (x3_2.length : Int) then (tenorref1_Sort.l1 k2 l0 (x3_2.set (x5_2 : Int).toNat (rd x3_2 (ji10))) x4_1 ji10) else (none)) else (none)) else (if 0 ≤ x5_2 then (if x5_2 < (x3_2.length : Int) then (tenorref1_Sort.l0 k2 l0 (x3_2.set (x5_2 : Int).toNat (rd l0 x4_1)) (wrap64 (x4_1 + 1))) else (none)) else (none)))) else (none)) else (none)) = some r := by first | (rw [hji10] at H; exact H) | (simp only [hji10] at H ⊢; exact H)
          have hji10w : (IntKind.i64.wrap (x5_2 - 1)) = ji10 := (i64_w _).trans hji10
          by_cases c11 : 0 ≤ (ji10)
          rotate_left
          · rw [if_neg c11] at H
            exact absurd H (by simp)
          rw [if_pos c11] at H
          have c11b0 : decide (0 ≤ (ji10)) = true := decide_eq_true c11
          clear c11
          by_cases c12 : (ji10) < (x3_2.length : Int)
          rotate_left
          · rw [if_neg c12] at H
            exact absurd H (by simp)
          rw [if_pos c12] at H
          have c12b0 : decide ((ji10) < (x3_2.length : Int)) = true := decide_eq_true c12
          clear c12
          replace H := Option.bind_eq_some_iff.mp H
          obtain ⟨t120, A130, H⟩ := H
          have A13 := Aside0.mk A130
          clear A130
          by_cases c14 : t120 = true
          · subst c14
            have H1 : (if 0 ≤ x5_2 then (if x5_2 < (x3_2.length : Int) then (tenorref1_Sort.l1 k2 l0 (x3_2.set (x5_2 : Int).toNat (rd x3_2 (ji10))) x4_1 ji10) else (none)) else (none)) = some r := by rw [if_pos rfl] at H; exact H
            clear H
            have H := H1
            clear H1
            by_cases c15 : 0 ≤ x5_2
            rotate_left
            · rw [if_neg c15] at H
              exact absurd H (by simp)
            rw [if_pos c15] at H
            have c15b0 : decide (0 ≤ x5_2) = true := decide_eq_true c15
            clear c15
            by_cases c16 : x5_2 < (x3_2.length : Int)
            rotate_left
            · rw [if_neg c16] at H
              exact absurd H (by simp)
            rw [if_pos c16] at H
            have c16b0 : decide (x5_2 < (x3_2.length : Int)) = true := decide_eq_true c16
            clear c16
            obtain ⟨y122, hy122⟩ : ∃ y_ : List Int, y_ = (x3_2.set (x5_2 : Int).toNat (rd x3_2 (ji10))) := ⟨_, rfl⟩
            replace H : (tenorref1_Sort.l1 k2 l0 y122 x4_1 ji10) = some r := by first | (rw [hy122]; with_reducible exact H) | (have H2_ := (Option.bind_some _ _).symm.trans H; rw [hy122]; with_reducible exact H2_) | (have H2_ := (Option.bind_some _ _).symm.trans H; with_reducible exact H2_) | with_reducible exact H | (rw [hy122]; exact H) | exact H
            have Ny122 := Aside0.mk hy122
            clear hy122
            have H' := Aside0.mk H
            clear H
            have p118 : 0 ≤ (x4_1 : Int) := of_decide_eq_true asA
            have q118 : x4_1 < (l0.length : Int) := of_decide_eq_true asA
            obtain ⟨ad118, e118, hx118_0⟩ := Kd.at_int HR0.out x4_1 p118 q118
            obtain rfl : ad114 = ad118 := (by injection e118)
            replace hx118_0 := (HB.out.cell (World.block_lt_of_cell? w _ hx118_0)).trans hx118_0
            replace p118 := eq_true p118
            replace q118 := eq_true q118
            obtain ⟨Ao18, co18, eo18⟩ := Kd.R_slice HO_3.out
            subst eo18
            have p119 : 0 ≤ ((ji10) : Int) := of_decide_eq_true asA
            have q119 : (ji10) < (x3_2.length : Int) := of_decide_eq_true asA
            obtain ⟨ad119, e119, hx119_0⟩ := Kd.at_int (Kd.R_reads' HO_3.out).2.2 (ji10) p119 q119
            cases e119
            replace p119 := eq_true p119
            replace q119 := eq_true q119
            go_wp2_with (first | (go_at_call 56; (with_reducible refine (tenorref1_Less.calls k2 (rd l0 x4_1) (rd x3_2 (ji10)) true _ A13.out).mono ?_); rintro e w' ⟨rfl, ⟨nd, rfl⟩⟩; (try exact ddA); have p121 : 0 ≤ ((ji10) : Int) := of_decide_eq_true asA; have q121 : (ji10) < (x3_2.length : Int) := of_decide_eq_true asA; obtain ⟨ad121, e121, hx121_0⟩ := Kd.at_int (Kd.R_reads' HO_3.out).2.2 (ji10) p121 q121; obtain rfl : ad119 = ad121 := (by injection e121); replace p121 := eq_true p121; replace q121 := eq_true q121; have p17 : 0 ≤ (x5_2 : Int) := of_decide_eq_true asA; have q17 : (x5_2 : Int) < ((x3_2.length : Int) : Int) := of_decide_eq_true asA; obtain ⟨go17, co17, eo17, gb17, gl17, cl17, HG17⟩ := Kd.R_form HO_3.out (by omega); (first | cases eo17 | (injection eo17 with ea_ en_ ec_; (first | subst ea_ | (injection ea_ with ea_; subst ea_)); subst ec_; clear en_)); have GB17 := Aside0.mk gb17; have GG17 := Aside0.mk HG17; clear gb17 gl17 HG17; (first | simp only [add_plain] at hx119_0 | skip); (first | simp only [add_plain] at hx121_0 | skip); obtain ⟨hx17_0, hf17_0⟩ := Kd.R_celln 0 HO_3.out (x5_2 : Int) p17 q17; replace p17 := eq_true p17; replace q17 := eq_true q17; obtain ⟨hy19_, hz19_⟩ := Kd.R_celln 0 HO_3.out (x5_2 : Int) (of_decide_eq_true asA) (of_decide_eq_true asA); have HP19 := Kd.R_putg HO_3.out (x5_2 : Int) (rd x3_2 (ji10))) | ((with_reducible refine gate_store (t := 36) (p := 42) rfl ?_); (try rw [World.drewN_drewN]); (try (rw [drewN_self wr]; generalize hq_ : World.drewN wr _ = wr; have n0_ := Aside0.mk (Kd.R_at hq_ HO_3.out); have n1_ := Aside0.mk (below_at hq_ HB.out); clear hq_ HO_3 HB; have HO_3 := n0_; have HB := n1_; clear n0_ n1_; (try (obtain ⟨hy19_, hz19_⟩ := Kd.R_celln 0 HO_3.out (x5_2 : Int) (of_decide_eq_true asA) (of_decide_eq_true asA))); (try (have HP19 := Kd.R_putg HO_3.out (x5_2 : Int) (rd x3_2 (ji10)))))); refine store_event (t := 36) (p := 42) (v := ?vo_w20) (w1 := (wr.setCell ⟨go17, (x5_2 : Int).toNat, none⟩ (.int .u64 (rd x3_2 (ji10))))) ?hg ?ho ?hn ?hr ?_; (case ho => rfl); (case hg => rfl); (case hn => rfl); (case hr => first | (go_simp; done) | (go_simp; rfl)); intro w20 hw; have hg : wr.grownBy w20 (some go17) := (by rw [hw]; exact HP19.2); have hp_ : Kd.R (Kd.int .u64) 36 w20 w.heap.size (fun _ => True) (.slice (some ⟨go17, 0, none⟩) x3_2.length co18) y122 := (by rw [hw, Ny122.out]; exact HP19.1); clear HP19; have n0_ := Aside0.mk (hp_); have n1_ := Aside0.mk ((by rw [hw]; exact below_set (HB.out) GB17.out : Below w.heap.size w w20)); clear HO_3; clear HB; have HO_3 := n0_; have HB := n1_; clear n0_ n1_; clear hg hw hp_))
            repeat (go_quiet (first | (go_at_call 56; (with_reducible refine (tenorref1_Less.calls k2 (rd l0 x4_1) (rd x3_2 (ji10)) true _ A13.out).mono ?_); rintro e w' ⟨rfl, ⟨nd, rfl⟩⟩; (try exact ddA); have p121 : 0 ≤ ((ji10) : Int) := of_decide_eq_true asA; have q121 : (ji10) < (x3_2.length : Int) := of_decide_eq_true asA; obtain ⟨ad121, e121, hx121_0⟩ := Kd.at_int (Kd.R_reads' HO_3.out).2.2 (ji10) p121 q121; obtain rfl : ad119 = ad121 := (by injection e121); replace p121 := eq_true p121; replace q121 := eq_true q121; have p17 : 0 ≤ (x5_2 : Int) := of_decide_eq_true asA; have q17 : (x5_2 : Int) < ((x3_2.length : Int) : Int) := of_decide_eq_true asA; obtain ⟨go17, co17, eo17, gb17, gl17, cl17, HG17⟩ := Kd.R_form HO_3.out (by omega); (first | cases eo17 | (injection eo17 with ea_ en_ ec_; (first | subst ea_ | (injection ea_ with ea_; subst ea_)); subst ec_; clear en_)); have GB17 := Aside0.mk gb17; have GG17 := Aside0.mk HG17; clear gb17 gl17 HG17; (first | simp only [add_plain] at hx119_0 | skip); (first | simp only [add_plain] at hx121_0 | skip); obtain ⟨hx17_0, hf17_0⟩ := Kd.R_celln 0 HO_3.out (x5_2 : Int) p17 q17; replace p17 := eq_true p17; replace q17 := eq_true q17; obtain ⟨hy19_, hz19_⟩ := Kd.R_celln 0 HO_3.out (x5_2 : Int) (of_decide_eq_true asA) (of_decide_eq_true asA); have HP19 := Kd.R_putg HO_3.out (x5_2 : Int) (rd x3_2 (ji10))) | ((with_reducible refine gate_store (t := 36) (p := 42) rfl ?_); (try rw [World.drewN_drewN]); (try (rw [drewN_self wr]; generalize hq_ : World.drewN wr _ = wr; have n0_ := Aside0.mk (Kd.R_at hq_ HO_3.out); have n1_ := Aside0.mk (below_at hq_ HB.out); clear hq_ HO_3 HB; have HO_3 := n0_; have HB := n1_; clear n0_ n1_; (try (obtain ⟨hy19_, hz19_⟩ := Kd.R_celln 0 HO_3.out (x5_2 : Int) (of_decide_eq_true asA) (of_decide_eq_true asA))); (try (have HP19 := Kd.R_putg HO_3.out (x5_2 : Int) (rd x3_2 (ji10)))))); refine store_event (t := 36) (p := 42) (v := ?vo_w20) (w1 := (wr.setCell ⟨go17, (x5_2 : Int).toNat, none⟩ (.int .u64 (rd x3_2 (ji10))))) ?hg ?ho ?hn ?hr ?_; (case ho => rfl); (case hg => rfl); (case hn => rfl); (case hr => first | (go_simp; done) | (go_simp; rfl)); intro w20 hw; have hg : wr.grownBy w20 (some go17) := (by rw [hw]; exact HP19.2); have hp_ : Kd.R (Kd.int .u64) 36 w20 w.heap.size (fun _ => True) (.slice (some ⟨go17, 0, none⟩) x3_2.length co18) y122 := (by rw [hw, Ny122.out]; exact HP19.1); clear HP19; have n0_ := Aside0.mk (hp_); have n1_ := Aside0.mk ((by rw [hw]; exact below_set (HB.out) GB17.out : Below w.heap.size w w20)); clear HO_3; clear HB; have HO_3 := n0_; have HB := n1_; clear n0_ n1_; clear hg hw hp_)); try go_wp2_with (first | (go_at_call 56; (with_reducible refine (tenorref1_Less.calls k2 (rd l0 x4_1) (rd x3_2 (ji10)) true _ A13.out).mono ?_); rintro e w' ⟨rfl, ⟨nd, rfl⟩⟩; (try exact ddA); have p121 : 0 ≤ ((ji10) : Int) := of_decide_eq_true asA; have q121 : (ji10) < (x3_2.length : Int) := of_decide_eq_true asA; obtain ⟨ad121, e121, hx121_0⟩ := Kd.at_int (Kd.R_reads' HO_3.out).2.2 (ji10) p121 q121; obtain rfl : ad119 = ad121 := (by injection e121); replace p121 := eq_true p121; replace q121 := eq_true q121; have p17 : 0 ≤ (x5_2 : Int) := of_decide_eq_true asA; have q17 : (x5_2 : Int) < ((x3_2.length : Int) : Int) := of_decide_eq_true asA; obtain ⟨go17, co17, eo17, gb17, gl17, cl17, HG17⟩ := Kd.R_form HO_3.out (by omega); (first | cases eo17 | (injection eo17 with ea_ en_ ec_; (first | subst ea_ | (injection ea_ with ea_; subst ea_)); subst ec_; clear en_)); have GB17 := Aside0.mk gb17; have GG17 := Aside0.mk HG17; clear gb17 gl17 HG17; (first | simp only [add_plain] at hx119_0 | skip); (first | simp only [add_plain] at hx121_0 | skip); obtain ⟨hx17_0, hf17_0⟩ := Kd.R_celln 0 HO_3.out (x5_2 : Int) p17 q17; replace p17 := eq_true p17; replace q17 := eq_true q17; obtain ⟨hy19_, hz19_⟩ := Kd.R_celln 0 HO_3.out (x5_2 : Int) (of_decide_eq_true asA) (of_decide_eq_true asA); have HP19 := Kd.R_putg HO_3.out (x5_2 : Int) (rd x3_2 (ji10))) | ((with_reducible refine gate_store (t := 36) (p := 42) rfl ?_); (try rw [World.drewN_drewN]); (try (rw [drewN_self wr]; generalize hq_ : World.drewN wr _ = wr; have n0_ := Aside0.mk (Kd.R_at hq_ HO_3.out); have n1_ := Aside0.mk (below_at hq_ HB.out); clear hq_ HO_3 HB; have HO_3 := n0_; have HB := n1_; clear n0_ n1_; (try (obtain ⟨hy19_, hz19_⟩ := Kd.R_celln 0 HO_3.out (x5_2 : Int) (of_decide_eq_true asA) (of_decide_eq_true asA))); (try (have HP19 := Kd.R_putg HO_3.out (x5_2 : Int) (rd x3_2 (ji10)))))); refine store_event (t := 36) (p := 42) (v := ?vo_w20) (w1 := (wr.setCell ⟨go17, (x5_2 : Int).toNat, none⟩ (.int .u64 (rd x3_2 (ji10))))) ?hg ?ho ?hn ?hr ?_; (case ho => rfl); (case hg => rfl); (case hn => rfl); (case hr => first | (go_simp; done) | (go_simp; rfl)); intro w20 hw; have hg : wr.grownBy w20 (some go17) := (by rw [hw]; exact HP19.2); have hp_ : Kd.R (Kd.int .u64) 36 w20 w.heap.size (fun _ => True) (.slice (some ⟨go17, 0, none⟩) x3_2.length co18) y122 := (by rw [hw, Ny122.out]; exact HP19.1); clear HP19; have n0_ := Aside0.mk (hp_); have n1_ := Aside0.mk ((by rw [hw]; exact below_set (HB.out) GB17.out : Below w.heap.size w w20)); clear HO_3; clear HB; have HO_3 := n0_; have HB := n1_; clear n0_ n1_; clear hg hw hp_)))
            go_roundg k2
            case measure => have := HK1.out; have := HK2.out; omega
            case rel => exact ⟨(y122), (ji10), (by first | rfl | (simp; done) | (simp only [← hji10] <;> (first | rfl | simp)) | (simp [*]; done)), H', ⟨by have := HK1.out; have := HK2.out; omega⟩, ⟨by first | ((with_reducible repeat (first | apply Kd.R_alloc | apply Kd.R_drewN | apply Kd.R_drew)); exact HO_3.out) | (rw [Ny122.out]; exact (Kd.R_putg (Kd.R_drewN HO_3.out _) (x5_2 : Int) (rd x3_2 (ji10))).1)⟩, ⟨by first | ((repeat (first | (with_reducible first | exact HB.out | apply below_alloc | apply pw_below_drewN | apply below_drew1) | exact HB.out)); done) | exact below_set (pw_below_drewN HB.out _) GB17.out⟩⟩
          replace c14 := Bool.eq_false_iff.mpr c14
          subst c14
          have H1 : (if 0 ≤ x5_2 then (if x5_2 < (x3_2.length : Int) then (tenorref1_Sort.l0 k2 l0 (x3_2.set (x5_2 : Int).toNat (rd l0 x4_1)) (wrap64 (x4_1 + 1))) else (none)) else (none)) = some r := by rw [if_neg (show ¬ (false = true) by decide)] at H; exact H
          clear H
          have H := H1
          clear H1
          by_cases c21 : 0 ≤ x5_2
          rotate_left
          · rw [if_neg c21] at H
            exact absurd H (by simp)
          rw [if_pos c21] at H
          have c21b0 : decide (0 ≤ x5_2) = true := decide_eq_true c21
          clear c21
          by_cases c22 : x5_2 < (x3_2.length : Int)
          rotate_left
          · rw [if_neg c22] at H
            exact absurd H (by simp)
          rw [if_pos c22] at H
          have c22b0 : decide (x5_2 < (x3_2.length : Int)) = true := decide_eq_true c22
          clear c22
          obtain ⟨y124, hy124⟩ : ∃ y_ : List Int, y_ = (x3_2.set (x5_2 : Int).toNat (rd l0 x4_1)) := ⟨_, rfl⟩
          replace H : (tenorref1_Sort.l0 k2 l0 y124 (wrap64 (x4_1 + 1))) = some r := by first | (rw [hy124]; with_reducible exact H) | (have H2_ := (Option.bind_some _ _).symm.trans H; rw [hy124]; with_reducible exact H2_) | (have H2_ := (Option.bind_some _ _).symm.trans H; with_reducible exact H2_) | with_reducible exact H | (rw [hy124]; exact H) | exact H
          have Ny124 := Aside0.mk hy124
          clear hy124
          have H' := Aside0.mk H
          clear H
          have p118 : 0 ≤ (x4_1 : Int) := of_decide_eq_true asA
          have q118 : x4_1 < (l0.length : Int) := of_decide_eq_true asA
          obtain ⟨ad118, e118, hx118_0⟩ := Kd.at_int HR0.out x4_1 p118 q118
          obtain rfl : ad114 = ad118 := (by injection e118)
          replace hx118_0 := (HB.out.cell (World.block_lt_of_cell? w _ hx118_0)).trans hx118_0
          replace p118 := eq_true p118
          replace q118 := eq_true q118
          obtain ⟨Ao24, co24, eo24⟩ := Kd.R_slice HO_3.out
          subst eo24
          have p119 : 0 ≤ ((ji10) : Int) := of_decide_eq_true asA
          have q119 : (ji10) < (x3_2.length : Int) := of_decide_eq_true asA
          obtain ⟨ad119, e119, hx119_0⟩ := Kd.at_int (Kd.R_reads' HO_3.out).2.2 (ji10) p119 q119
          cases e119
          replace p119 := eq_true p119
          replace q119 := eq_true q119
          go_wp2_with (first | (go_at_call 56; (with_reducible refine (tenorref1_Less.calls k2 (rd l0 x4_1) (rd x3_2 (ji10)) false _ A13.out).mono ?_); rintro e w' ⟨rfl, ⟨nd, rfl⟩⟩; (try exact ddA); have p123 : 0 ≤ (x4_1 : Int) := of_decide_eq_true asA; have q123 : x4_1 < (l0.length : Int) := of_decide_eq_true asA; obtain ⟨ad123, e123, hx123_0⟩ := Kd.at_int HR0.out x4_1 p123 q123; obtain rfl : ad114 = ad123 := (by injection e123); replace hx123_0 := (HB.out.cell (World.block_lt_of_cell? w _ hx123_0)).trans hx123_0; replace p123 := eq_true p123; replace q123 := eq_true q123; have p23 : 0 ≤ (x5_2 : Int) := of_decide_eq_true asA; have q23 : (x5_2 : Int) < ((x3_2.length : Int) : Int) := of_decide_eq_true asA; obtain ⟨go23, co23, eo23, gb23, gl23, cl23, HG23⟩ := Kd.R_form HO_3.out (by omega); (first | cases eo23 | (injection eo23 with ea_ en_ ec_; (first | subst ea_ | (injection ea_ with ea_; subst ea_)); subst ec_; clear en_)); have GB23 := Aside0.mk gb23; have GG23 := Aside0.mk HG23; clear gb23 gl23 HG23; (first | simp only [add_plain] at hx119_0 | skip); obtain ⟨hx23_0, hf23_0⟩ := Kd.R_celln 0 HO_3.out (x5_2 : Int) p23 q23; replace p23 := eq_true p23; replace q23 := eq_true q23; obtain ⟨hy25_, hz25_⟩ := Kd.R_celln 0 HO_3.out (x5_2 : Int) (of_decide_eq_true asA) (of_decide_eq_true asA); have HP25 := Kd.R_putg HO_3.out (x5_2 : Int) (rd l0 x4_1)) | ((with_reducible refine gate_store (t := 36) (p := 51) rfl ?_); (try rw [World.drewN_drewN]); (try (rw [drewN_self wr]; generalize hq_ : World.drewN wr _ = wr; have n0_ := Aside0.mk (Kd.R_at hq_ HO_3.out); have n1_ := Aside0.mk (below_at hq_ HB.out); clear hq_ HO_3 HB; have HO_3 := n0_; have HB := n1_; clear n0_ n1_; (try (obtain ⟨hy25_, hz25_⟩ := Kd.R_celln 0 HO_3.out (x5_2 : Int) (of_decide_eq_true asA) (of_decide_eq_true asA))); (try (have HP25 := Kd.R_putg HO_3.out (x5_2 : Int) (rd l0 x4_1))))); refine store_event (t := 36) (p := 51) (v := ?vo_w26) (w1 := (wr.setCell ⟨go23, (x5_2 : Int).toNat, none⟩ (.int .u64 (rd l0 x4_1)))) ?hg ?ho ?hn ?hr ?_; (case ho => rfl); (case hg => rfl); (case hn => rfl); (case hr => first | (go_simp; done) | (go_simp; rfl)); intro w26 hw; have hg : wr.grownBy w26 (some go23) := (by rw [hw]; exact HP25.2); have hp_ : Kd.R (Kd.int .u64) 36 w26 w.heap.size (fun _ => True) (.slice (some ⟨go23, 0, none⟩) x3_2.length co24) y124 := (by rw [hw, Ny124.out]; exact HP25.1); clear HP25; have n0_ := Aside0.mk (hp_); have n1_ := Aside0.mk ((by rw [hw]; exact below_set (HB.out) GB23.out : Below w.heap.size w w26)); clear HO_3; clear HB; have HO_3 := n0_; have HB := n1_; clear n0_ n1_; clear hg hw hp_))
          repeat (go_quiet (first | (go_at_call 56; (with_reducible refine (tenorref1_Less.calls k2 (rd l0 x4_1) (rd x3_2 (ji10)) false _ A13.out).mono ?_); rintro e w' ⟨rfl, ⟨nd, rfl⟩⟩; (try exact ddA); have p123 : 0 ≤ (x4_1 : Int) := of_decide_eq_true asA; have q123 : x4_1 < (l0.length : Int) := of_decide_eq_true asA; obtain ⟨ad123, e123, hx123_0⟩ := Kd.at_int HR0.out x4_1 p123 q123; obtain rfl : ad114 = ad123 := (by injection e123); replace hx123_0 := (HB.out.cell (World.block_lt_of_cell? w _ hx123_0)).trans hx123_0; replace p123 := eq_true p123; replace q123 := eq_true q123; have p23 : 0 ≤ (x5_2 : Int) := of_decide_eq_true asA; have q23 : (x5_2 : Int) < ((x3_2.length : Int) : Int) := of_decide_eq_true asA; obtain ⟨go23, co23, eo23, gb23, gl23, cl23, HG23⟩ := Kd.R_form HO_3.out (by omega); (first | cases eo23 | (injection eo23 with ea_ en_ ec_; (first | subst ea_ | (injection ea_ with ea_; subst ea_)); subst ec_; clear en_)); have GB23 := Aside0.mk gb23; have GG23 := Aside0.mk HG23; clear gb23 gl23 HG23; (first | simp only [add_plain] at hx119_0 | skip); obtain ⟨hx23_0, hf23_0⟩ := Kd.R_celln 0 HO_3.out (x5_2 : Int) p23 q23; replace p23 := eq_true p23; replace q23 := eq_true q23; obtain ⟨hy25_, hz25_⟩ := Kd.R_celln 0 HO_3.out (x5_2 : Int) (of_decide_eq_true asA) (of_decide_eq_true asA); have HP25 := Kd.R_putg HO_3.out (x5_2 : Int) (rd l0 x4_1)) | ((with_reducible refine gate_store (t := 36) (p := 51) rfl ?_); (try rw [World.drewN_drewN]); (try (rw [drewN_self wr]; generalize hq_ : World.drewN wr _ = wr; have n0_ := Aside0.mk (Kd.R_at hq_ HO_3.out); have n1_ := Aside0.mk (below_at hq_ HB.out); clear hq_ HO_3 HB; have HO_3 := n0_; have HB := n1_; clear n0_ n1_; (try (obtain ⟨hy25_, hz25_⟩ := Kd.R_celln 0 HO_3.out (x5_2 : Int) (of_decide_eq_true asA) (of_decide_eq_true asA))); (try (have HP25 := Kd.R_putg HO_3.out (x5_2 : Int) (rd l0 x4_1))))); refine store_event (t := 36) (p := 51) (v := ?vo_w26) (w1 := (wr.setCell ⟨go23, (x5_2 : Int).toNat, none⟩ (.int .u64 (rd l0 x4_1)))) ?hg ?ho ?hn ?hr ?_; (case ho => rfl); (case hg => rfl); (case hn => rfl); (case hr => first | (go_simp; done) | (go_simp; rfl)); intro w26 hw; have hg : wr.grownBy w26 (some go23) := (by rw [hw]; exact HP25.2); have hp_ : Kd.R (Kd.int .u64) 36 w26 w.heap.size (fun _ => True) (.slice (some ⟨go23, 0, none⟩) x3_2.length co24) y124 := (by rw [hw, Ny124.out]; exact HP25.1); clear HP25; have n0_ := Aside0.mk (hp_); have n1_ := Aside0.mk ((by rw [hw]; exact below_set (HB.out) GB23.out : Below w.heap.size w w26)); clear HO_3; clear HB; have HO_3 := n0_; have HB := n1_; clear n0_ n1_; clear hg hw hp_)); try go_wp2_with (first | (go_at_call 56; (with_reducible refine (tenorref1_Less.calls k2 (rd l0 x4_1) (rd x3_2 (ji10)) false _ A13.out).mono ?_); rintro e w' ⟨rfl, ⟨nd, rfl⟩⟩; (try exact ddA); have p123 : 0 ≤ (x4_1 : Int) := of_decide_eq_true asA; have q123 : x4_1 < (l0.length : Int) := of_decide_eq_true asA; obtain ⟨ad123, e123, hx123_0⟩ := Kd.at_int HR0.out x4_1 p123 q123; obtain rfl : ad114 = ad123 := (by injection e123); replace hx123_0 := (HB.out.cell (World.block_lt_of_cell? w _ hx123_0)).trans hx123_0; replace p123 := eq_true p123; replace q123 := eq_true q123; have p23 : 0 ≤ (x5_2 : Int) := of_decide_eq_true asA; have q23 : (x5_2 : Int) < ((x3_2.length : Int) : Int) := of_decide_eq_true asA; obtain ⟨go23, co23, eo23, gb23, gl23, cl23, HG23⟩ := Kd.R_form HO_3.out (by omega); (first | cases eo23 | (injection eo23 with ea_ en_ ec_; (first | subst ea_ | (injection ea_ with ea_; subst ea_)); subst ec_; clear en_)); have GB23 := Aside0.mk gb23; have GG23 := Aside0.mk HG23; clear gb23 gl23 HG23; (first | simp only [add_plain] at hx119_0 | skip); obtain ⟨hx23_0, hf23_0⟩ := Kd.R_celln 0 HO_3.out (x5_2 : Int) p23 q23; replace p23 := eq_true p23; replace q23 := eq_true q23; obtain ⟨hy25_, hz25_⟩ := Kd.R_celln 0 HO_3.out (x5_2 : Int) (of_decide_eq_true asA) (of_decide_eq_true asA); have HP25 := Kd.R_putg HO_3.out (x5_2 : Int) (rd l0 x4_1)) | ((with_reducible refine gate_store (t := 36) (p := 51) rfl ?_); (try rw [World.drewN_drewN]); (try (rw [drewN_self wr]; generalize hq_ : World.drewN wr _ = wr; have n0_ := Aside0.mk (Kd.R_at hq_ HO_3.out); have n1_ := Aside0.mk (below_at hq_ HB.out); clear hq_ HO_3 HB; have HO_3 := n0_; have HB := n1_; clear n0_ n1_; (try (obtain ⟨hy25_, hz25_⟩ := Kd.R_celln 0 HO_3.out (x5_2 : Int) (of_decide_eq_true asA) (of_decide_eq_true asA))); (try (have HP25 := Kd.R_putg HO_3.out (x5_2 : Int) (rd l0 x4_1))))); refine store_event (t := 36) (p := 51) (v := ?vo_w26) (w1 := (wr.setCell ⟨go23, (x5_2 : Int).toNat, none⟩ (.int .u64 (rd l0 x4_1)))) ?hg ?ho ?hn ?hr ?_; (case ho => rfl); (case hg => rfl); (case hn => rfl); (case hr => first | (go_simp; done) | (go_simp; rfl)); intro w26 hw; have hg : wr.grownBy w26 (some go23) := (by rw [hw]; exact HP25.2); have hp_ : Kd.R (Kd.int .u64) 36 w26 w.heap.size (fun _ => True) (.slice (some ⟨go23, 0, none⟩) x3_2.length co24) y124 := (by rw [hw, Ny124.out]; exact HP25.1); clear HP25; have n0_ := Aside0.mk (hp_); have n1_ := Aside0.mk ((by rw [hw]; exact below_set (HB.out) GB23.out : Below w.heap.size w w26)); clear HO_3; clear HB; have HO_3 := n0_; have HB := n1_; clear n0_ n1_; clear hg hw hp_)))
          go_roundg k2
          case measure => have := HK1.out; have := HK2.out; omega
          case rel => exact ⟨(y124), (wrap64 (x4_1 + 1)), (by first | rfl | (simp; done) | (simp [*]; done)), H', ⟨by have := HK1.out; have := HK2.out; omega⟩, ⟨by first | ((with_reducible repeat (first | apply Kd.R_alloc | apply Kd.R_drewN | apply Kd.R_drew)); exact HO_3.out) | (rw [Ny124.out]; exact (Kd.R_putg (Kd.R_drewN HO_3.out _) (x5_2 : Int) (rd l0 x4_1)).1)⟩, ⟨by first | ((repeat (first | (with_reducible first | exact HB.out | apply below_alloc | apply pw_below_drewN | apply below_drew1) | exact HB.out)); done) | exact below_set (pw_below_drewN HB.out _) GB23.out⟩⟩

/-! ### tenorref1_Number: function 42 -/
def tenorref1_Number.f (a0 : Int) : Option (Bool) := some (decide ((Go.bits .andNot .u64 a0 9223372036854775808) < 9218868437227405312))
set_option maxHeartbeats 8000000 in
set_option maxRecDepth 100000 in
theorem tenorref1_Number.calls (a0 : Int) (r : Bool) (w : World) (h : tenorref1_Number.f a0 = some r) :
    Calls Tryz.prog 42 #[.int .u64 a0] w fun e w' => e = .returned (.bool r) ∧ Drawn0 w w' := by
  have H : (some (decide ((Go.bits .andNot .u64 a0 9223372036854775808) < 9218868437227405312))) = some r := h
  clear h
  obtain rfl := Option.some.inj H
  go_enter Tryz.func42, Tryz.ntmps42
  go_wp2
  go_ret
  exact ⟨sA, dA⟩

/-! ### tenorref25_numbers: function 53 -/
mutual
def tenorref25_numbers.j0 : Nat → List Int → Bool → Option (Int)
  | 0, _, _ => none
  | k + 1, x0, x11 => if x11 = true then (some 100) else (tenorref25_numbers.l0 k x0 0)
def tenorref25_numbers.l0 : Nat → List Int → Int → Option (Int)
  | 0, _, _ => none
  | k + 1, x0, x3 => if x3 < (x0.length : Int) then (if 0 ≤ x3 then ((tenorref1_Number.f (rd x0 x3)).bind fun t128 => (if t128 = true then (tenorref25_numbers.l0 k x0 (wrap64 (x3 + 1))) else (some 91))) else (none)) else (some 0)
end
def tenorref25_numbers.f (k : Nat) (l0 : List Int) : Option (Int) := if (l0.length : Int) = 0 then (tenorref25_numbers.j0 k l0 true) else (tenorref25_numbers.j0 k l0 (decide ((l0.length : Int) > 1048576)))
set_option maxHeartbeats 8000000 in
set_option maxRecDepth 100000 in
theorem tenorref25_numbers.calls (k : Nat) (A0 : Option Addr) (c0 : Nat) (l0 : List Int) (r : Int) (w : World) (hr0 : Kd.C (Kd.int .u64) w A0 l0.length l0) (hc0 : l0.length ≤ c0) (h : tenorref25_numbers.f k l0 = some r) :
    Calls Tryz.prog 53 #[.slice A0 l0.length c0] w fun e w' => e = .returned (.int .i64 r) ∧ Drawn0 w w' := by
  have HR0 := Aside0.mk hr0
  have HC0 := Aside0.mk hc0
  clear hr0 hc0
  have H : (if (l0.length : Int) = 0 then (tenorref25_numbers.j0 k l0 true) else (tenorref25_numbers.j0 k l0 (decide ((l0.length : Int) > 1048576)))) = some r := h
  clear h
  have HC2 := Aside0.mk H
  clear H
  go_enter Tryz.func53, Tryz.ntmps53
  go_upto_region 1 with (fail)
  go_cut [11] (fun v11 wc => ∃ (kq : Nat) (x11_1 : Bool), v11 = .bool x11_1 ∧ Aside0 (tenorref25_numbers.j0 kq l0 x11_1 = some r) ∧ Aside0 (kq ≤ k) ∧ Drawn0 w wc)
  case first =>
    have H := HC2.out
    clear HC2
    by_cases c3 : (l0.length : Int) = 0
    · rw [if_pos c3] at H
      have c3b0 : ((l0.length : Int) == 0) = true := beq_iff_eq.mpr c3
      have c3b1 : ((l0.length : Int) != 0) = false := bne_eq_false_iff_eq.mpr c3
      clear c3
      (first | rw [c3b0] | (simp only [i64_w, i32_w]; rw [c3b0]) | skip)
      have H' := Aside0.mk H
      clear H
      go_wp2
      go_meet
      case rel => exact ⟨_, (true), (by first | rfl | (simp; done) | (simp [*]; done)), H', ⟨by first | omega | exact Nat.le_refl _⟩, by repeat (first | exact Drawn0.refl _ | apply Drawn0.step)⟩
    rw [if_neg c3] at H
    have c3b0 : ((l0.length : Int) == 0) = false := beq_eq_false_iff_ne.mpr c3
    have c3b1 : ((l0.length : Int) != 0) = true := bne_iff_ne.mpr c3
    have c3b2 : ¬ (l0 = []) := fun h_ => c3 (by rw [h_]; rfl)
    (first | rw [c3b0] | (simp only [i64_w, i32_w]; rw [c3b0]) | skip)
    have H' := Aside0.mk H
    clear H
    go_wp2
    go_meet
    case rel => exact ⟨_, (decide ((l0.length : Int) > 1048576)), (by first | rfl | (simp; done) | (simp [*]; done)), H', ⟨by first | omega | exact Nat.le_refl _⟩, by repeat (first | exact Drawn0.refl _ | apply Drawn0.step)⟩
  case rest =>
    clear HC2
    try clear p2
    try clear c3
    try clear c3b0
    try clear c3b1
    try clear c3b2
    obtain ⟨kq, x11_1, rfl, HA, HJ1, ⟨mc1, rfl⟩⟩ := hcut
    cases kq with
    | zero => exact absurd HA.out (by simp [tenorref25_numbers.j0])
    | succ kj1 =>
      have H := HA.out
      clear HA
      simp only [tenorref25_numbers.j0] at H
      by_cases c4 : x11_1 = true
      · subst c4
        have H1 : (some 100) = some r := by rw [if_pos rfl] at H; exact H
        clear H
        have H := H1
        clear H1
        obtain rfl := Option.some.inj H
        go_wp2
        go_ret
        exact ⟨sA, dA⟩
      · replace c4 := Bool.eq_false_iff.mpr c4
        subst c4
        have H1 : (tenorref25_numbers.l0 kj1 l0 0) = some r := by rw [if_neg (show ¬ (false = true) by decide)] at H; exact H
        clear H
        have H := H1
        clear H1
        have H' := Aside0.mk H
        clear H
        go_wp2
        go_loopg [3] kj1 (fun kq v3 w' => ∃ (x3_2 : Int), v3 = .int .i64 x3_2 ∧ Aside0 (tenorref25_numbers.l0 kq l0 x3_2 = some r) ∧ Aside0 (kq ≤ kj1) ∧ Drawn0 w w')
        case atStart => exact ⟨(0), (by first | rfl | (simp; done) | (simp [*]; done)), H', ⟨Nat.le_refl _⟩, by repeat (first | exact Drawn0.refl _ | apply Drawn0.step)⟩
        case round =>
          clear H'
          try clear c1
          try clear p2
          try clear c3
          try clear c3b0
          try clear c3b1
          try clear c3b2
          try clear c4
          try clear p2
          obtain ⟨x3_2, rfl, HA, HK2, ⟨m2, rfl⟩⟩ := hrel
          cases gk with
          | zero => exact absurd HA.out (by simp [tenorref25_numbers.l0])
          | succ k2 =>
            have H := HA.out
            clear HA
            simp only [tenorref25_numbers.l0] at H
            by_cases c5 : x3_2 < (l0.length : Int)
            rotate_left
            · rw [if_neg c5] at H
              have c5b0 : decide (x3_2 < (l0.length : Int)) = false := decide_eq_false c5
              clear c5
              obtain rfl := Option.some.inj H
              go_wp2
              go_ret
              exact ⟨sA, dA⟩
            rw [if_pos c5] at H
            have c5b0 : decide (x3_2 < (l0.length : Int)) = true := decide_eq_true c5
            clear c5
            by_cases c6 : 0 ≤ x3_2
            rotate_left
            · rw [if_neg c6] at H
              exact absurd H (by simp)
            rw [if_pos c6] at H
            have c6b0 : decide (0 ≤ x3_2) = true := decide_eq_true c6
            clear c6
            replace H := Option.bind_eq_some_iff.mp H
            obtain ⟨t128, A70, H⟩ := H
            have A7 := Aside0.mk A70
            clear A70
            by_cases c8 : t128 = true
            rotate_left
            · replace c8 := Bool.eq_false_iff.mpr c8
              subst c8
              have H1 : (some 91) = some r := by rw [if_neg (show ¬ (false = true) by decide)] at H; exact H
              clear H
              have H := H1
              clear H1
              obtain rfl := Option.some.inj H
              have p127 : 0 ≤ (x3_2 : Int) := of_decide_eq_true asA
              have q127 : x3_2 < (l0.length : Int) := of_decide_eq_true asA
              obtain ⟨ad127, e127, hx127_0⟩ := Kd.at_int HR0.out x3_2 p127 q127
              cases e127
              replace p127 := eq_true p127
              replace q127 := eq_true q127
              go_wp2_with (first | ((with_reducible refine gate_callee (f := 42) rfl ?_); refine goesL_ (some 22) rfl rfl Tryz.func42 (by kernel_rfl) rfl #[.int .u64 (rd l0 x3_2)] rfl mA ?_; (with_reducible refine (tenorref1_Number.calls (rd l0 x3_2) false _ A7.out).mono ?_); rintro e w' ⟨rfl, ⟨nd, rfl⟩⟩; refine ⟨_, rfl, ?_⟩))
              go_ret
              exact ⟨sA, dA⟩
            subst c8
            have H1 : (tenorref25_numbers.l0 k2 l0 (wrap64 (x3_2 + 1))) = some r := by rw [if_pos rfl] at H; exact H
            clear H
            have H := H1
            clear H1
            have H' := Aside0.mk H
            clear H
            have p127 : 0 ≤ (x3_2 : Int) := of_decide_eq_true asA
            have q127 : x3_2 < (l0.length : Int) := of_decide_eq_true asA
            obtain ⟨ad127, e127, hx127_0⟩ := Kd.at_int HR0.out x3_2 p127 q127
            cases e127
            replace p127 := eq_true p127
            replace q127 := eq_true q127
            go_wp2_with (first | ((with_reducible refine gate_callee (f := 42) rfl ?_); refine goesL_ (some 22) rfl rfl Tryz.func42 (by kernel_rfl) rfl #[.int .u64 (rd l0 x3_2)] rfl mA ?_; (with_reducible refine (tenorref1_Number.calls (rd l0 x3_2) true _ A7.out).mono ?_); rintro e w' ⟨rfl, ⟨nd, rfl⟩⟩; refine ⟨_, rfl, ?_⟩))
            go_roundg k2
            case measure => have := HJ1.out; have := HK2.out; omega
            case rel => exact ⟨(wrap64 (x3_2 + 1)), (by first | rfl | (simp; done) | (simp [*]; done)), H', ⟨by have := HJ1.out; have := HK2.out; omega⟩, by repeat (first | exact Drawn0.refl _ | apply Drawn0.step)⟩

end Go.Proofs.YtepcegiciecogaaGreat.FK
