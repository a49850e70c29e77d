/- Written by the session's fprint.py out of the translation. -/
import Derived.Test.YtepcegiciecogaaGreatFDax0
import Derived.Test.YtepcegiciecogaaGreatFDax1
namespace Go.Proofs.YtepcegiciecogaaGreat.FDa
open Go.RowKit Go.Proofs.YtepcegiciecogaaGreatW.PrintWords Go.Proofs.YtepcegiciecogaaGreatW.PrintLast Go.Proofs.YtepcegiciecogaaGreatW.PrintMore
attribute [local go_sem] max2_int min2_int max_two min_two max_three min_three max_four min_four   -- for this text's walks alone
open Go.Proofs.YtepcegiciecogaaGreat.FX
attribute [local go_sem] run_store_float run_neg_float run_fmul isSome_setCell 
set_option linter.unusedVariables false
set_option linter.unusedSimpArgs false

/-! ### tenorref5_Civil: function 82 -/
mutual
def tenorref5_Civil.j0 : Nat → Int → Bool → Option (Int × Int × Int × Int)
  | 0, _, _ => none
  | k + 1, x0, x12 => if x12 = true then (some (0, 0, 0, 51)) else (tenorref5_Civil.l0 k x0 1900)
def tenorref5_Civil.j2 : Nat → Int → Int → Option (Int × Int × Int × Int)
  | 0, _, _ => none
  | k + 1, x0, x4 => tenorref5_Civil.l1 k x0 x4 1
def tenorref5_Civil.l1 : Nat → Int → Int → Int → Option (Int × Int × Int × Int)
  | 0, _, _, _ => none
  | k + 1, x0, x4, x6 => (tenorref5_length.f k x4 x6).bind fun t122 => (if x0 ≥ t122 then ((tenorref5_length.f k x4 x6).bind fun t123 => (tenorref5_Civil.l1 k (wrap64 (x0 - t123)) x4 (wrap64 (x6 + 1)))) else (some (x4, x6, wrap64 (x0 + 1), 0)))
def tenorref5_Civil.l0 : Nat → Int → Int → Option (Int × Int × Int × Int)
  | 0, _, _ => none
  | k + 1, x0, x4 => (tenorref5_Leap.f x4).bind fun t121 => (if t121 = true then (if x0 < 366 then (tenorref5_Civil.j2 k x0 x4) else (tenorref5_Civil.l0 k (wrap64 (x0 - 366)) (wrap64 (x4 + 1)))) else (if x0 < 365 then (tenorref5_Civil.j2 k x0 x4) else (tenorref5_Civil.l0 k (wrap64 (x0 - 365)) (wrap64 (x4 + 1)))))
end
def tenorref5_Civil.f (k : Nat) (a0 : Int) : Option (Int × Int × Int × Int) := if a0 < 0 then (tenorref5_Civil.j0 k a0 true) else (tenorref5_Civil.j0 k a0 (decide (a0 > 109572)))
set_option maxHeartbeats 8000000 in
set_option maxRecDepth 100000 in
theorem tenorref5_Civil.calls (k : Nat) (a0 : Int) (r1 : Int) (r2 : Int) (r3 : Int) (r4 : Int) (w : World) (h : tenorref5_Civil.f k a0 = some (r1, r2, r3, r4)) :
    Calls Tryz.prog 82 #[.int .i64 a0] w fun e w' => e = .returned (.tuple #[.agg #[.int .i64 r1, .int .i64 r2, .int .i64 r3], .int .i64 r4]) ∧ Below w.heap.size w w' := by
  have hu125 := Tryz.underlying125
  have HB := Aside0.mk (Below.refl w.heap.size w)
  have H : (if a0 < 0 then (tenorref5_Civil.j0 k a0 true) else (tenorref5_Civil.j0 k a0 (decide (a0 > 109572)))) = some (r1, r2, r3, r4) := h
  clear h
  have HC2 := Aside0.mk H
  clear H
  go_enter Tryz.func82, Tryz.ntmps82
  go_upto_region 1 with (first | ((with_reducible refine gate_dst (N := 2) rfl ?_); refine box_event ?hg (N := 2) ?hd (cs := #[.int .i64 0, .int .i64 0, .int .i64 0]) (t := 125) ?hr ?_; (case hd => rfl); (case hg => rfl); (case hr => first | (go_simp; done) | (go_simp; rfl)); intro gb120 hg w3 hbox hb; have n0_ := Aside0.mk (below_step (bA HB.out) hb); have n1_ := Aside0.mk (hbox); have n2_ := Aside0.mk ((by rw [hg]; exact (below_size (bA HB.out)) : w.heap.size ≤ gb120)); have n3_ := Aside0.mk ((by rw [hg]; exact (below_size (bA HB.out)) : w.heap.size ≤ gb120)); clear HB; have HB := n0_; have BK120 := n1_; have GW120 := n2_; have GE120 := n3_; clear n0_ n1_ n2_ n3_; clear hb hbox hg))
  (try simp only [Act.put, List.setIfInBounds_toArray, List.set_cons_zero, List.set_cons_succ])
  go_cut [12] (fun v12 wc => ∃ (kq : Nat) (x12_1 : Bool), v12 = .bool x12_1 ∧ Aside0 (tenorref5_Civil.j0 kq a0 x12_1 = some (r1, r2, r3, r4)) ∧ Aside0 (kq ≤ k) ∧ Aside0 (wc.heap[gb120]? = some (.cells #[.int .i64 0, .int .i64 0, .int .i64 0] 125 (0, 0))) ∧ Aside0 (Below w.heap.size w wc))
  case first =>
    have H := HC2.out
    clear HC2
    by_cases c4 : a0 < 0
    · rw [if_pos c4] at H
      have c4b0 : decide (a0 < 0) = true := decide_eq_true c4
      clear c4
      (first | rw [c4b0] | (simp only [i64_w, i32_w]; rw [c4b0]) | skip)
      have H' := Aside0.mk H
      clear H
      go_wp2
      go_meet
      case rel => exact ⟨_, (true), (by first | rfl | (simp; done) | (simp [*]; done)), H', ⟨by first | omega | exact Nat.le_refl _⟩, ⟨kA BK120.out⟩, ⟨bG HB.out⟩⟩
    rw [if_neg c4] at H
    have c4b0 : decide (a0 < 0) = false := decide_eq_false c4
    clear c4
    (first | rw [c4b0] | (simp only [i64_w, i32_w]; rw [c4b0]) | skip)
    have H' := Aside0.mk H
    clear H
    go_wp2
    go_meet
    case rel => exact ⟨_, (decide (a0 > 109572)), (by first | rfl | (simp; done) | (simp [*]; done)), H', ⟨by first | omega | exact Nat.le_refl _⟩, ⟨kA BK120.out⟩, ⟨bG HB.out⟩⟩
  case rest =>
    clear HC2
    try clear p2
    try clear c4
    try clear c4b0
    obtain ⟨kq, x12_1, rfl, HA, HJ1, BK120, HB⟩ := hcut
    cases kq with
    | zero => exact absurd HA.out (by simp [tenorref5_Civil.j0])
    | succ kj1 =>
      have H := HA.out
      clear HA
      simp only [tenorref5_Civil.j0] at H
      by_cases c5 : x12_1 = true
      · subst c5
        have H1 : (some (0, 0, 0, 51)) = some (r1, r2, r3, r4) := by rw [if_pos rfl] at H; exact H
        clear H
        have H := H1
        clear H1
        simp only [Option.some.injEq, Prod.mk.injEq] at H
        obtain ⟨rfl, rfl, rfl, rfl⟩ := H
        have hcz6_0 : wc.cell? ⟨gb120, 0, none⟩ = some (.int .i64 0) := (blk_cell BK120.out 0).trans rfl
        have hcz6_1 : wc.cell? ⟨gb120, 1, none⟩ = some (.int .i64 0) := (blk_cell BK120.out 1).trans rfl
        have hcz6_2 : wc.cell? ⟨gb120, 2, none⟩ = some (.int .i64 0) := (blk_cell BK120.out 2).trans rfl
        have hfz6_0 := blk_frozen BK120.out 0
        have hfz6_1 := blk_frozen BK120.out 1
        have hfz6_2 := blk_frozen BK120.out 2
        go_wp2
        refine bodyPost_ret (results_ct rfl _ _ gb120 125 #[.int .i64 0, .int .i64 0, .int .i64 0] (0, 0) _ rfl (by (with_reducible repeat (first | refine blk_drewN ?_ _ | refine blk_drew ?_ | refine blk_alloc ?_ _)); refine blk_put (cs := #[.int .i64 0, .int .i64 0, .int .i64 0]) ?_ 2 _ rfl; (with_reducible repeat (first | refine blk_drewN ?_ _ | refine blk_drew ?_ | refine blk_alloc ?_ _)); refine blk_put (cs := #[.int .i64 0, .int .i64 0, .int .i64 0]) ?_ 1 _ rfl; (with_reducible repeat (first | refine blk_drewN ?_ _ | refine blk_drew ?_ | refine blk_alloc ?_ _)); refine blk_put (cs := #[.int .i64 0, .int .i64 0, .int .i64 0]) ?_ 0 _ rfl; (with_reducible repeat (first | refine blk_drewN ?_ _ | refine blk_drew ?_ | refine blk_alloc ?_ _)); exact BK120.out) Tryz.underlying125 rfl (by kernel_rfl)) rfl ?_
        exact ⟨by first | rfl | (simp [errW_none, errW_some] <;> rfl) | (simp [*, errW_none, errW_some] <;> rfl), bG HB.out⟩
      replace c5 := Bool.eq_false_iff.mpr c5
      subst c5
      have H1 : (tenorref5_Civil.l0 kj1 a0 1900) = some (r1, r2, r3, r4) := by rw [if_neg (show ¬ (false = true) by decide)] at H; exact H
      clear H
      have H := H1
      clear H1
      have HC7 := Aside0.mk H
      clear H
      go_upto_block 0 with (fail)
      go_cut [0, 4] (fun v0 v4 wc => ∃ (kq : Nat) (x0_6 : Int) (x4_6 : Int), v0 = .int .i64 x0_6 ∧ v4 = .int .i64 x4_6 ∧ Aside0 (tenorref5_Civil.j2 kq x0_6 x4_6 = some (r1, r2, r3, r4)) ∧ Aside0 (kq ≤ kj1) ∧ Aside0 (wc.heap[gb120]? = some (.cells #[.int .i64 0, .int .i64 0, .int .i64 0] 125 (0, 0))) ∧ Aside0 (Below w.heap.size w wc))
      case first =>
        have H := HC7.out
        clear HC7
        have H' := Aside0.mk H
        clear H
        go_wp2
        go_loopg [0, 4] kj1 (fun kq v0 v4 w' => ∃ (x0_2 : Int) (x4_2 : Int), v0 = .int .i64 x0_2 ∧ v4 = .int .i64 x4_2 ∧ Aside0 (tenorref5_Civil.l0 kq x0_2 x4_2 = some (r1, r2, r3, r4)) ∧ Aside0 (kq ≤ kj1) ∧ Aside0 (w'.heap[gb120]? = some (.cells #[.int .i64 0, .int .i64 0, .int .i64 0] 125 (0, 0))) ∧ Aside0 (Below w.heap.size w w'))
        case atStart => exact ⟨(a0), (1900), (by first | rfl | (simp; done) | (simp [*]; done)), (by first | rfl | (simp; done) | (simp [*]; done)), H', ⟨Nat.le_refl _⟩, ⟨kA BK120.out⟩, ⟨bG HB.out⟩⟩
        case round =>
          clear H'
          try clear p2
          try clear c4
          try clear c4b0
          try clear c5
          try clear hcz6_0
          try clear hcz6_1
          try clear hcz6_2
          try clear hfz6_0
          try clear hfz6_1
          try clear hfz6_2
          try clear p2
          obtain ⟨x0_2, x4_2, rfl, rfl, HA, HK2, BK120, HB⟩ := hrel
          cases gk with
          | zero => exact absurd HA.out (by simp [tenorref5_Civil.l0])
          | succ k2 =>
            have H := HA.out
            clear HA
            simp only [tenorref5_Civil.l0] at H
            replace H := Option.bind_eq_some_iff.mp H
            obtain ⟨t121, A80, H⟩ := H
            have A8 := Aside0.mk A80
            clear A80
            by_cases c9 : t121 = true
            rotate_left
            · replace c9 := Bool.eq_false_iff.mpr c9
              subst c9
              have H1 : (if x0_2 < 365 then (tenorref5_Civil.j2 k2 x0_2 x4_2) else (tenorref5_Civil.l0 k2 (wrap64 (x0_2 - 365)) (wrap64 (x4_2 + 1)))) = some (r1, r2, r3, r4) := by rw [if_neg (show ¬ (false = true) by decide)] at H; exact H
              clear H
              have H := H1
              clear H1
              by_cases c11 : x0_2 < 365
              · rw [if_pos c11] at H
                have c11b0 : decide (x0_2 < 365) = true := decide_eq_true c11
                clear c11
                have H' := Aside0.mk H
                clear H
                go_wp2_with (first | ((with_reducible refine gate_callee (f := 124) rfl ?_); refine goesL_ (some 15) rfl rfl Tryz.func124 (by kernel_rfl) rfl #[.int .i64 x4_2] rfl mA ?_; (with_reducible refine (tenorref5_Leap.calls x4_2 false _ A8.out).mono ?_); rintro e w' ⟨rfl, ⟨nd, rfl⟩⟩; refine ⟨_, rfl, ?_⟩))
                go_meet
                case rel => exact ⟨_, (x0_2), (x4_2), (by first | rfl | (simp; done) | (simp [*]; done)), (by first | rfl | (simp; done) | (simp [*]; done)), H', ⟨by have := HJ1.out; have := HK2.out; first | omega | exact Nat.le_refl _⟩, ⟨kA BK120.out⟩, ⟨bG HB.out⟩⟩
              rw [if_neg c11] at H
              have c11b0 : decide (x0_2 < 365) = false := decide_eq_false c11
              clear c11
              have H' := Aside0.mk H
              clear H
              go_wp2_with (first | ((with_reducible refine gate_callee (f := 124) rfl ?_); refine goesL_ (some 15) rfl rfl Tryz.func124 (by kernel_rfl) rfl #[.int .i64 x4_2] rfl mA ?_; (with_reducible refine (tenorref5_Leap.calls x4_2 false _ A8.out).mono ?_); rintro e w' ⟨rfl, ⟨nd, rfl⟩⟩; refine ⟨_, rfl, ?_⟩))
              go_roundg k2
              case measure => have := HJ1.out; have := HK2.out; omega
              case rel => exact ⟨(wrap64 (x0_2 - 365)), (wrap64 (x4_2 + 1)), (by first | rfl | (simp; done) | (simp [*]; done)), (by first | rfl | (simp; done) | (simp [*]; done)), H', ⟨by have := HJ1.out; have := HK2.out; omega⟩, ⟨kA BK120.out⟩, ⟨bG HB.out⟩⟩
            subst c9
            have H1 : (if x0_2 < 366 then (tenorref5_Civil.j2 k2 x0_2 x4_2) else (tenorref5_Civil.l0 k2 (wrap64 (x0_2 - 366)) (wrap64 (x4_2 + 1)))) = some (r1, r2, r3, r4) := by rw [if_pos rfl] at H; exact H
            clear H
            have H := H1
            clear H1
            by_cases c10 : x0_2 < 366
            · rw [if_pos c10] at H
              have c10b0 : decide (x0_2 < 366) = true := decide_eq_true c10
              clear c10
              (first | rw [c10b0] | (simp only [i64_w, i32_w]; rw [c10b0]) | skip)
              have H' := Aside0.mk H
              clear H
              go_wp2_with (first | ((with_reducible refine gate_callee (f := 124) rfl ?_); refine goesL_ (some 15) rfl rfl Tryz.func124 (by kernel_rfl) rfl #[.int .i64 x4_2] rfl mA ?_; (with_reducible refine (tenorref5_Leap.calls x4_2 true _ A8.out).mono ?_); rintro e w' ⟨rfl, ⟨nd, rfl⟩⟩; refine ⟨_, rfl, ?_⟩))
              go_meet
              case rel => exact ⟨_, (x0_2), (x4_2), (by first | rfl | (simp; done) | (simp [*]; done)), (by first | rfl | (simp; done) | (simp [*]; done)), H', ⟨by have := HJ1.out; have := HK2.out; first | omega | exact Nat.le_refl _⟩, ⟨kA BK120.out⟩, ⟨bG HB.out⟩⟩
            rw [if_neg c10] at H
            have c10b0 : decide (x0_2 < 366) = false := decide_eq_false c10
            clear c10
            (first | rw [c10b0] | (simp only [i64_w, i32_w]; rw [c10b0]) | skip)
            have H' := Aside0.mk H
            clear H
            go_wp2_with (first | ((with_reducible refine gate_callee (f := 124) rfl ?_); refine goesL_ (some 15) rfl rfl Tryz.func124 (by kernel_rfl) rfl #[.int .i64 x4_2] rfl mA ?_; (with_reducible refine (tenorref5_Leap.calls x4_2 true _ A8.out).mono ?_); rintro e w' ⟨rfl, ⟨nd, rfl⟩⟩; refine ⟨_, rfl, ?_⟩))
            go_roundg k2
            case measure => have := HJ1.out; have := HK2.out; omega
            case rel => exact ⟨(wrap64 (x0_2 - 366)), (wrap64 (x4_2 + 1)), (by first | rfl | (simp; done) | (simp [*]; done)), (by first | rfl | (simp; done) | (simp [*]; done)), H', ⟨by have := HJ1.out; have := HK2.out; omega⟩, ⟨kA BK120.out⟩, ⟨bG HB.out⟩⟩
      case rest =>
        clear HC7
        try clear c1
        try clear p2
        try clear c4
        try clear c4b0
        try clear c5
        try clear p6
        try clear c8
        try clear c9
        try clear c10
        try clear c10b0
        try clear c11
        try clear c11b0
        try clear hcz6_0
        try clear hcz6_1
        try clear hcz6_2
        try clear hfz6_0
        try clear hfz6_1
        try clear hfz6_2
        try clear p2
        obtain ⟨kq, x0_6, x4_6, rfl, rfl, HA, HJ6, BK120, HB⟩ := hcut
        cases kq with
        | zero => exact absurd HA.out (by simp [tenorref5_Civil.j2])
        | succ kj6 =>
          have H := HA.out
          clear HA
          simp only [tenorref5_Civil.j2] at H
          have H' := Aside0.mk H
          clear H
          go_wp2
          go_loopg [0, 6] kj6 (fun kq v0 v6 w' => ∃ (x0_3 : Int) (x6_3 : Int), v0 = .int .i64 x0_3 ∧ v6 = .int .i64 x6_3 ∧ Aside0 (tenorref5_Civil.l1 kq x0_3 x4_6 x6_3 = some (r1, r2, r3, r4)) ∧ Aside0 (kq ≤ kj6) ∧ Aside0 (w'.heap[gb120]? = some (.cells #[.int .i64 0, .int .i64 0, .int .i64 0] 125 (0, 0))) ∧ Aside0 (Below w.heap.size w w'))
          case atStart => exact ⟨(x0_6), (1), (by first | rfl | (simp; done) | (simp [*]; done)), (by first | rfl | (simp; done) | (simp [*]; done)), H', ⟨Nat.le_refl _⟩, ⟨kA BK120.out⟩, ⟨bG HB.out⟩⟩
          case round =>
            clear H'
            try clear c1
            try clear p2
            try clear c4
            try clear c4b0
            try clear c5
            try clear p6
            try clear c8
            try clear c9
            try clear c10
            try clear c10b0
            try clear c11
            try clear c11b0
            try clear hcz6_0
            try clear hcz6_1
            try clear hcz6_2
            try clear hfz6_0
            try clear hfz6_1
            try clear hfz6_2
            try clear p2
            try clear p6
            obtain ⟨x0_3, x6_3, rfl, rfl, HA, HK3, BK120, HB⟩ := hrel
            cases gk with
            | zero => exact absurd HA.out (by simp [tenorref5_Civil.l1])
            | succ k3 =>
              have H := HA.out
              clear HA
              simp only [tenorref5_Civil.l1] at H
              replace H := Option.bind_eq_some_iff.mp H
              obtain ⟨t122, A120, H⟩ := H
              have A12 := Aside0.mk A120
              clear A120
              by_cases c13 : x0_3 ≥ t122
              · rw [if_pos c13] at H
                have c13b0 : decide (t122 ≤ x0_3) = true := decide_eq_true c13
                clear c13
                replace H := Option.bind_eq_some_iff.mp H
                obtain ⟨t123, A140, H⟩ := H
                have A14 := Aside0.mk A140
                clear A140
                have H' := Aside0.mk H
                clear H
                go_wp2_with (first | ((with_reducible refine gate_callee (f := 84) rfl ?_); refine goesL_ (some 27) rfl rfl Tryz.func84 (by kernel_rfl) rfl #[.int .i64 x4_6, .int .i64 x6_3] rfl mA ?_; (with_reducible refine (tenorref5_length.calls k3 x4_6 x6_3 t122 _ A12.out).mono ?_); rintro e w' ⟨rfl, ⟨nd, rfl⟩⟩; refine ⟨_, rfl, ?_⟩) | ((with_reducible refine gate_callee (f := 84) rfl ?_); refine goesL_ (some 32) rfl rfl Tryz.func84 (by kernel_rfl) rfl #[.int .i64 x4_6, .int .i64 x6_3] rfl mA ?_; (with_reducible refine (tenorref5_length.calls k3 x4_6 x6_3 t123 _ A14.out).mono ?_); rintro e w' ⟨rfl, ⟨nd, rfl⟩⟩; refine ⟨_, rfl, ?_⟩))
                go_roundg k3
                case measure => have := HJ1.out; have := HJ6.out; have := HK3.out; omega
                case rel => exact ⟨(wrap64 (x0_3 - t123)), (wrap64 (x6_3 + 1)), (by first | rfl | (simp; done) | (simp [*]; done)), (by first | rfl | (simp; done) | (simp [*]; done)), H', ⟨by have := HJ1.out; have := HJ6.out; have := HK3.out; omega⟩, ⟨kA BK120.out⟩, ⟨bG HB.out⟩⟩
              rw [if_neg c13] at H
              have c13b0 : decide (t122 ≤ x0_3) = false := decide_eq_false c13
              clear c13
              simp only [Option.some.injEq, Prod.mk.injEq] at H
              obtain ⟨rfl, rfl, rfl, rfl⟩ := H
              go_wp2_with (first | ((with_reducible refine gate_callee (f := 84) rfl ?_); refine goesL_ (some 27) rfl rfl Tryz.func84 (by kernel_rfl) rfl #[.int .i64 x4_6, .int .i64 x6_3] rfl mA ?_; (with_reducible refine (tenorref5_length.calls k3 x4_6 x6_3 t122 _ A12.out).mono ?_); rintro e w' ⟨rfl, ⟨nd, rfl⟩⟩; refine ⟨_, rfl, ?_⟩; (try rw [World.drewN_drewN]); (try (rw [drewN_self wr]; generalize hq_ : World.drewN wr _ = wr; have n0_ : Aside0 (wr.heap[gb120]? = some (.cells #[.int .i64 0, .int .i64 0, .int .i64 0] 125 (0, 0))) := ⟨by rw [← hq_]; exact (kA BK120.out)⟩; have n1_ : Aside0 (Below w.heap.size w wr) := ⟨by rw [← hq_]; exact (bG HB.out)⟩; clear BK120 HB hq_; have BK120 := n0_; have HB := n1_; clear n0_ n1_)); have hcz15_0 : wr.cell? ⟨gb120, 0, none⟩ = some (.int .i64 0) := (blk_cell BK120.out 0).trans rfl; have hcz15_1 : wr.cell? ⟨gb120, 1, none⟩ = some (.int .i64 0) := (blk_cell BK120.out 1).trans rfl; have hcz15_2 : wr.cell? ⟨gb120, 2, none⟩ = some (.int .i64 0) := (blk_cell BK120.out 2).trans rfl; have hfz15_0 := blk_frozen BK120.out 0; have hfz15_1 := blk_frozen BK120.out 1; have hfz15_2 := blk_frozen BK120.out 2))
              refine bodyPost_ret (results_ct rfl _ _ gb120 125 #[.int .i64 x4_6, .int .i64 x6_3, .int .i64 (wrap64 (x0_3 + 1))] (0, 0) _ rfl (by (with_reducible repeat (first | refine blk_drewN ?_ _ | refine blk_drew ?_ | refine blk_alloc ?_ _)); refine blk_put (cs := #[.int .i64 x4_6, .int .i64 x6_3, .int .i64 0]) ?_ 2 _ rfl; (with_reducible repeat (first | refine blk_drewN ?_ _ | refine blk_drew ?_ | refine blk_alloc ?_ _)); refine blk_put (cs := #[.int .i64 x4_6, .int .i64 0, .int .i64 0]) ?_ 1 _ rfl; (with_reducible repeat (first | refine blk_drewN ?_ _ | refine blk_drew ?_ | refine blk_alloc ?_ _)); refine blk_put (cs := #[.int .i64 0, .int .i64 0, .int .i64 0]) ?_ 0 _ rfl; (with_reducible repeat (first | refine blk_drewN ?_ _ | refine blk_drew ?_ | refine blk_alloc ?_ _)); exact BK120.out) Tryz.underlying125 rfl (by kernel_rfl)) rfl ?_
              exact ⟨by first | rfl | (simp [errW_none, errW_some] <;> rfl) | (simp [*, errW_none, errW_some] <;> rfl), bG HB.out⟩

/-! ### tenorref5_Month: function 83 -/
def tenorref5_Month.j0 : Nat → Int → Bool → Int → Int → Int → Option (Int × Int × Bool)
  | 0, _, _, _, _, _ => none
  | k + 1, x1, x13, x125000, x125001, x125002 => if x13 = true then (some (0, 0, false)) else (if (wrap64 ((wrap64 ((wrap64 ((wrap64 (12 * x125000)) + x125001)) - 1)) + x1)) < 22800 then (some (0, 0, false)) else (if (wrap64 ((wrap64 ((wrap64 ((wrap64 (12 * x125000)) + x125001)) - 1)) + x1)) > 26399 then (some (0, 0, false)) else (some (wrap64 (Int.tdiv (wrap64 ((wrap64 ((wrap64 ((wrap64 (12 * x125000)) + x125001)) - 1)) + x1)) 12), wrap64 ((Int.tmod (wrap64 ((wrap64 ((wrap64 ((wrap64 (12 * x125000)) + x125001)) - 1)) + x1)) 12) + 1), true))))
def tenorref5_Month.f (k : Nat) (a0_0 : Int) (a0_1 : Int) (a0_2 : Int) (a1 : Int) : Option (Int × Int × Bool) := if a1 < (-4000) then (tenorref5_Month.j0 k a1 true a0_0 a0_1 a0_2) else (tenorref5_Month.j0 k a1 (decide (a1 > 4000)) a0_0 a0_1 a0_2)
set_option maxHeartbeats 8000000 in
set_option maxRecDepth 100000 in
theorem tenorref5_Month.calls (k : Nat) (a0_0 : Int) (a0_1 : Int) (a0_2 : Int) (a1 : Int) (r1 : Int) (r2 : Int) (r3 : Bool) (w : World) (h : tenorref5_Month.f k a0_0 a0_1 a0_2 a1 = some (r1, r2, r3)) :
    Calls Tryz.prog 83 #[.agg #[.int .i64 a0_0, .int .i64 a0_1, .int .i64 a0_2], .int .i64 a1] w fun e w' => e = .returned (.tuple #[.int .i64 r1, .int .i64 r2, .bool r3]) ∧ Below w.heap.size w w' := by
  have hu125 := Tryz.underlying125
  have HB := Aside0.mk (Below.refl w.heap.size w)
  have H : (if a1 < (-4000) then (tenorref5_Month.j0 k a1 true a0_0 a0_1 a0_2) else (tenorref5_Month.j0 k a1 (decide (a1 > 4000)) a0_0 a0_1 a0_2)) = some (r1, r2, r3) := h
  clear h
  have HC3 := Aside0.mk H
  clear H
  go_enter Tryz.func83, Tryz.ntmps83
  go_upto_region 1 with (first | ((with_reducible refine gate_dst (N := 2) rfl ?_); refine box_event ?hg (N := 2) ?hd (cs := #[.int .i64 a0_0, .int .i64 a0_1, .int .i64 a0_2]) (t := 125) ?hr ?_; (case hd => rfl); (case hg => rfl); (case hr => first | (go_simp; done) | (go_simp; rfl)); intro gb124 hg w4 hbox hb; have n0_ := Aside0.mk (below_step (bA HB.out) hb); have n1_ := Aside0.mk (hbox); have n2_ := Aside0.mk ((by rw [hg]; exact (below_size (bA HB.out)) : w.heap.size ≤ gb124)); have n3_ := Aside0.mk ((by rw [hg]; exact (below_size (bA HB.out)) : w.heap.size ≤ gb124)); clear HB; have HB := n0_; have BK124 := n1_; have GW124 := n2_; have GE124 := n3_; clear n0_ n1_ n2_ n3_; clear hb hbox hg))
  (try simp only [Act.put, List.setIfInBounds_toArray, List.set_cons_zero, List.set_cons_succ])
  go_cut [13] (fun v13 wc => ∃ (kq : Nat) (x13_2 : Bool), v13 = .bool x13_2 ∧ Aside0 (tenorref5_Month.j0 kq a1 x13_2 a0_0 a0_1 a0_2 = some (r1, r2, r3)) ∧ Aside0 (kq ≤ k) ∧ Aside0 (wc.heap[gb124]? = some (.cells #[.int .i64 a0_0, .int .i64 a0_1, .int .i64 a0_2] 125 (0, 0))) ∧ Aside0 (Below w.heap.size w wc))
  case first =>
    have H := HC3.out
    clear HC3
    by_cases c5 : a1 < (-4000)
    · rw [if_pos c5] at H
      have c5b0 : decide (a1 < (-4000)) = true := decide_eq_true c5
      clear c5
      (first | rw [c5b0] | (simp only [i64_w, i32_w]; rw [c5b0]) | skip)
      have H' := Aside0.mk H
      clear H
      go_wp2
      go_meet
      case rel => exact ⟨_, (true), (by first | rfl | (simp; done) | (simp [*]; done)), H', ⟨by first | omega | exact Nat.le_refl _⟩, ⟨kA BK124.out⟩, ⟨bG HB.out⟩⟩
    rw [if_neg c5] at H
    have c5b0 : decide (a1 < (-4000)) = false := decide_eq_false c5
    clear c5
    (first | rw [c5b0] | (simp only [i64_w, i32_w]; rw [c5b0]) | skip)
    have H' := Aside0.mk H
    clear H
    go_wp2
    go_meet
    case rel => exact ⟨_, (decide (a1 > 4000)), (by first | rfl | (simp; done) | (simp [*]; done)), H', ⟨by first | omega | exact Nat.le_refl _⟩, ⟨kA BK124.out⟩, ⟨bG HB.out⟩⟩
  case rest =>
    clear HC3
    try clear p2
    try clear c5
    try clear c5b0
    obtain ⟨kq, x13_2, rfl, HA, HJ2, BK124, HB⟩ := hcut
    cases kq with
    | zero => exact absurd HA.out (by simp [tenorref5_Month.j0])
    | succ kj2 =>
      have H := HA.out
      clear HA
      simp only [tenorref5_Month.j0] at H
      by_cases c6 : x13_2 = true
      · subst c6
        have H1 : (some (0, 0, false)) = some (r1, r2, r3) := by rw [if_pos rfl] at H; exact H
        clear H
        have H := H1
        clear H1
        simp only [Option.some.injEq, Prod.mk.injEq] at H
        obtain ⟨rfl, rfl, rfl⟩ := H
        go_wp2
        go_ret3
        exact ⟨by first | rfl | (simp [errW_none, errW_some] <;> rfl) | (simp [*, errW_none, errW_some] <;> rfl), bG HB.out⟩
      replace c6 := Bool.eq_false_iff.mpr c6
      subst c6
      have H1 : (if (wrap64 ((wrap64 ((wrap64 ((wrap64 (12 * a0_0)) + a0_1)) - 1)) + a1)) < 22800 then (some (0, 0, false)) else (if (wrap64 ((wrap64 ((wrap64 ((wrap64 (12 * a0_0)) + a0_1)) - 1)) + a1)) > 26399 then (some (0, 0, false)) else (some (wrap64 (Int.tdiv (wrap64 ((wrap64 ((wrap64 ((wrap64 (12 * a0_0)) + a0_1)) - 1)) + a1)) 12), wrap64 ((Int.tmod (wrap64 ((wrap64 ((wrap64 ((wrap64 (12 * a0_0)) + a0_1)) - 1)) + a1)) 12) + 1), true)))) = some (r1, r2, r3) := by rw [if_neg (show ¬ (false = true) by decide)] at H; exact H
      clear H
      have H := H1
      clear H1
      by_cases c7 : (wrap64 ((wrap64 ((wrap64 ((wrap64 (12 * a0_0)) + a0_1)) - 1)) + a1)) < 22800
      · rw [if_pos c7] at H
        have c7b0 : decide ((wrap64 ((wrap64 ((wrap64 ((wrap64 (12 * a0_0)) + a0_1)) - 1)) + a1)) < 22800) = true := decide_eq_true c7
        clear c7
        simp only [Option.some.injEq, Prod.mk.injEq] at H
        obtain ⟨rfl, rfl, rfl⟩ := H
        have hcz8_0 : wc.cell? ⟨gb124, 0, none⟩ = some (.int .i64 a0_0) := (blk_cell BK124.out 0).trans rfl
        have hcz8_1 : wc.cell? ⟨gb124, 1, none⟩ = some (.int .i64 a0_1) := (blk_cell BK124.out 1).trans rfl
        have hcz8_2 : wc.cell? ⟨gb124, 2, none⟩ = some (.int .i64 a0_2) := (blk_cell BK124.out 2).trans rfl
        have hfz8_0 := blk_frozen BK124.out 0
        have hfz8_1 := blk_frozen BK124.out 1
        have hfz8_2 := blk_frozen BK124.out 2
        go_wp2
        go_ret3
        exact ⟨by first | rfl | (simp [errW_none, errW_some] <;> rfl) | (simp [*, errW_none, errW_some] <;> rfl), bG HB.out⟩
      rw [if_neg c7] at H
      have c7b0 : decide ((wrap64 ((wrap64 ((wrap64 ((wrap64 (12 * a0_0)) + a0_1)) - 1)) + a1)) < 22800) = false := decide_eq_false c7
      clear c7
      by_cases c9 : (wrap64 ((wrap64 ((wrap64 ((wrap64 (12 * a0_0)) + a0_1)) - 1)) + a1)) > 26399
      · rw [if_pos c9] at H
        have c9b0 : decide (26399 < (wrap64 ((wrap64 ((wrap64 ((wrap64 (12 * a0_0)) + a0_1)) - 1)) + a1))) = true := decide_eq_true c9
        clear c9
        simp only [Option.some.injEq, Prod.mk.injEq] at H
        obtain ⟨rfl, rfl, rfl⟩ := H
        have hcz10_0 : wc.cell? ⟨gb124, 0, none⟩ = some (.int .i64 a0_0) := (blk_cell BK124.out 0).trans rfl
        have hcz10_1 : wc.cell? ⟨gb124, 1, none⟩ = some (.int .i64 a0_1) := (blk_cell BK124.out 1).trans rfl
        have hcz10_2 : wc.cell? ⟨gb124, 2, none⟩ = some (.int .i64 a0_2) := (blk_cell BK124.out 2).trans rfl
        have hfz10_0 := blk_frozen BK124.out 0
        have hfz10_1 := blk_frozen BK124.out 1
        have hfz10_2 := blk_frozen BK124.out 2
        go_wp2
        go_ret3
        exact ⟨by first | rfl | (simp [errW_none, errW_some] <;> rfl) | (simp [*, errW_none, errW_some] <;> rfl), bG HB.out⟩
      rw [if_neg c9] at H
      have c9b0 : decide (26399 < (wrap64 ((wrap64 ((wrap64 ((wrap64 (12 * a0_0)) + a0_1)) - 1)) + a1))) = false := decide_eq_false c9
      clear c9
      simp only [Option.some.injEq, Prod.mk.injEq] at H
      obtain ⟨rfl, rfl, rfl⟩ := H
      have hcz11_0 : wc.cell? ⟨gb124, 0, none⟩ = some (.int .i64 a0_0) := (blk_cell BK124.out 0).trans rfl
      have hcz11_1 : wc.cell? ⟨gb124, 1, none⟩ = some (.int .i64 a0_1) := (blk_cell BK124.out 1).trans rfl
      have hcz11_2 : wc.cell? ⟨gb124, 2, none⟩ = some (.int .i64 a0_2) := (blk_cell BK124.out 2).trans rfl
      have hfz11_0 := blk_frozen BK124.out 0
      have hfz11_1 := blk_frozen BK124.out 1
      have hfz11_2 := blk_frozen BK124.out 2
      go_wp2
      go_ret3
      exact ⟨by first | rfl | (simp [errW_none, errW_some] <;> rfl) | (simp [*, errW_none, errW_some] <;> rfl), bG HB.out⟩

/-! ### tenorref5_Length: function 125 -/
def tenorref5_Length.f (k : Nat) (a0 : Int) (a1 : Int) : Option (Int × Int) := if a0 < 1900 then (some (0, 50)) else (if a0 > 2199 then (some (0, 50)) else (if a1 < 1 then (some (0, 50)) else (if a1 > 12 then (some (0, 50)) else ((tenorref5_length.f k a0 a1).bind fun t125 => (some (t125, 0))))))
set_option maxHeartbeats 8000000 in
set_option maxRecDepth 100000 in
theorem tenorref5_Length.calls (k : Nat) (a0 : Int) (a1 : Int) (r1 : Int) (r2 : Int) (w : World) (h : tenorref5_Length.f k a0 a1 = some (r1, r2)) :
    Calls Tryz.prog 125 #[.int .i64 a0, .int .i64 a1] w fun e w' => e = .returned (.tuple #[.int .i64 r1, .int .i64 r2]) ∧ Drawn0 w w' := by
  have H : (if a0 < 1900 then (some (0, 50)) else (if a0 > 2199 then (some (0, 50)) else (if a1 < 1 then (some (0, 50)) else (if a1 > 12 then (some (0, 50)) else ((tenorref5_length.f k a0 a1).bind fun t125 => (some (t125, 0))))))) = some (r1, r2) := h
  clear h
  by_cases c3 : a0 < 1900
  · rw [if_pos c3] at H
    have c3b0 : decide (a0 < 1900) = true := decide_eq_true c3
    clear c3
    simp only [Option.some.injEq, Prod.mk.injEq] at H
    obtain ⟨rfl, rfl⟩ := H
    go_enter Tryz.func125, Tryz.ntmps125
    go_wp2
    go_ret2
    exact ⟨sA, dA⟩
  · rw [if_neg c3] at H
    have c3b0 : decide (a0 < 1900) = false := decide_eq_false c3
    clear c3
    by_cases c4 : a0 > 2199
    · rw [if_pos c4] at H
      have c4b0 : decide (2199 < a0) = true := decide_eq_true c4
      clear c4
      simp only [Option.some.injEq, Prod.mk.injEq] at H
      obtain ⟨rfl, rfl⟩ := H
      go_enter Tryz.func125, Tryz.ntmps125
      go_wp2
      go_ret2
      exact ⟨sA, dA⟩
    · rw [if_neg c4] at H
      have c4b0 : decide (2199 < a0) = false := decide_eq_false c4
      clear c4
      by_cases c5 : a1 < 1
      · rw [if_pos c5] at H
        have c5b0 : decide (a1 < 1) = true := decide_eq_true c5
        clear c5
        simp only [Option.some.injEq, Prod.mk.injEq] at H
        obtain ⟨rfl, rfl⟩ := H
        go_enter Tryz.func125, Tryz.ntmps125
        go_wp2
        go_ret2
        exact ⟨sA, dA⟩
      · rw [if_neg c5] at H
        have c5b0 : decide (a1 < 1) = false := decide_eq_false c5
        clear c5
        by_cases c6 : a1 > 12
        · rw [if_pos c6] at H
          have c6b0 : decide (12 < a1) = true := decide_eq_true c6
          clear c6
          simp only [Option.some.injEq, Prod.mk.injEq] at H
          obtain ⟨rfl, rfl⟩ := H
          go_enter Tryz.func125, Tryz.ntmps125
          go_wp2
          go_ret2
          exact ⟨sA, dA⟩
        · rw [if_neg c6] at H
          have c6b0 : decide (12 < a1) = false := decide_eq_false c6
          clear c6
          replace H := Option.bind_eq_some_iff.mp H
          obtain ⟨t125, A70, H⟩ := H
          have A7 := Aside0.mk A70
          clear A70
          simp only [Option.some.injEq, Prod.mk.injEq] at H
          obtain ⟨rfl, rfl⟩ := H
          go_enter Tryz.func125, Tryz.ntmps125
          go_wp2_with (first | ((with_reducible refine gate_callee (f := 84) rfl ?_); refine goesL_ (some 22) rfl rfl Tryz.func84 (by kernel_rfl) rfl #[.int .i64 a0, .int .i64 a1] rfl mA ?_; (with_reducible refine (tenorref5_length.calls k a0 a1 t125 _ A7.out).mono ?_); rintro e w' ⟨rfl, ⟨nd, rfl⟩⟩; refine ⟨_, rfl, ?_⟩))
          go_ret2
          exact ⟨sA, dA⟩

/-! ### tenorref5_Of: function 85 -/
mutual
def tenorref5_Of.j0 : Nat → Int → Int → Int → Bool → Option (Int × Int)
  | 0, _, _, _, _ => none
  | k + 1, x0, x1, x2, x29 => if x29 = true then (some (0, 50)) else (tenorref5_Of.l0 k x0 x1 (wrap64 (x2 - 1)) 1900)
def tenorref5_Of.l0 : Nat → Int → Int → Int → Int → Option (Int × Int)
  | 0, _, _, _, _ => none
  | k + 1, x0, x1, x10, x11 => if x11 < x0 then ((tenorref5_Leap.f x11).bind fun t128 => (if t128 = true then (tenorref5_Of.l0 k x0 x1 (wrap64 ((wrap64 (x10 + 365)) + 1)) (wrap64 (x11 + 1))) else (tenorref5_Of.l0 k x0 x1 (wrap64 (x10 + 365)) (wrap64 (x11 + 1))))) else (tenorref5_Of.l1 k x0 x1 x10 1)
def tenorref5_Of.l1 : Nat → Int → Int → Int → Int → Option (Int × Int)
  | 0, _, _, _, _ => none
  | k + 1, x0, x1, x10, x12 => if x12 < x1 then ((tenorref5_length.f k x0 x12).bind fun t129 => (tenorref5_Of.l1 k x0 x1 (wrap64 (x10 + t129)) (wrap64 (x12 + 1)))) else (some (x10, 0))
end
def tenorref5_Of.f (k : Nat) (a0 : Int) (a1 : Int) (a2 : Int) : Option (Int × Int) := (tenorref5_Length.f k a0 a1).bind fun bt126 => (if bt126.2 = 0 then (if a2 < 1 then (tenorref5_Of.j0 k a0 a1 a2 true) else (tenorref5_Of.j0 k a0 a1 a2 (decide (a2 > bt126.1)))) else (tenorref5_Of.j0 k a0 a1 a2 true))
set_option maxHeartbeats 8000000 in
set_option maxRecDepth 100000 in
theorem tenorref5_Of.calls (k : Nat) (a0 : Int) (a1 : Int) (a2 : Int) (r1 : Int) (r2 : Int) (w : World) (h : tenorref5_Of.f k a0 a1 a2 = some (r1, r2)) :
    Calls Tryz.prog 85 #[.int .i64 a0, .int .i64 a1, .int .i64 a2] w fun e w' => e = .returned (.tuple #[.int .i64 r1, .int .i64 r2]) ∧ Drawn0 w w' := by
  have H : ((tenorref5_Length.f k a0 a1).bind fun bt126 => (if bt126.2 = 0 then (if a2 < 1 then (tenorref5_Of.j0 k a0 a1 a2 true) else (tenorref5_Of.j0 k a0 a1 a2 (decide (a2 > bt126.1)))) else (tenorref5_Of.j0 k a0 a1 a2 true))) = some (r1, r2) := h
  clear h
  replace H := Option.bind_eq_some_iff.mp H
  obtain ⟨⟨t126, t127⟩, A40, H⟩ := H
  have A4 := Aside0.mk A40
  clear A40
  have HC5 := Aside0.mk H
  clear H
  go_enter Tryz.func85, Tryz.ntmps85
  go_upto_region 2 with (first | ((with_reducible refine gate_callee (f := 125) rfl ?_); refine goesL_ (some 16) rfl rfl Tryz.func125 (by kernel_rfl) rfl #[.int .i64 a0, .int .i64 a1] rfl mA ?_; (with_reducible refine (tenorref5_Length.calls k a0 a1 t126 t127 _ A4.out).mono ?_); rintro e w' ⟨rfl, ⟨nd, rfl⟩⟩; refine ⟨_, rfl, ?_⟩))
  (try simp only [Act.put, List.setIfInBounds_toArray, List.set_cons_zero, List.set_cons_succ])
  go_cut [29] (fun v29 wc => ∃ (kq : Nat) (x29_4 : Bool), v29 = .bool x29_4 ∧ Aside0 (tenorref5_Of.j0 kq a0 a1 a2 x29_4 = some (r1, r2)) ∧ Aside0 (kq ≤ k) ∧ Drawn0 w wc)
  case first =>
    have H := HC5.out
    clear HC5
    by_cases c6 : t127 = 0
    rotate_left
    · rw [if_neg c6] at H
      have c6b0 : (t127 == 0) = false := beq_eq_false_iff_ne.mpr c6
      have c6b1 : (t127 != 0) = true := bne_iff_ne.mpr c6
      (first | rw [c6b0] | (simp only [i64_w, i32_w]; rw [c6b0]) | skip)
      have H' := Aside0.mk H
      clear H
      go_wp2
      go_meet
      case rel => exact ⟨_, (true), (by first | rfl | (simp; done) | (simp [*]; done)), H', ⟨by first | omega | exact Nat.le_refl _⟩, by repeat (first | exact Drawn0.refl _ | apply Drawn0.step)⟩
    rw [if_pos c6] at H
    have c6b0 : (t127 == 0) = true := beq_iff_eq.mpr c6
    have c6b1 : (t127 != 0) = false := bne_eq_false_iff_eq.mpr c6
    clear c6
    (first | rw [c6b0] | (simp only [i64_w, i32_w]; rw [c6b0]) | skip)
    by_cases c7 : a2 < 1
    · rw [if_pos c7] at H
      have c7b0 : decide (a2 < 1) = true := decide_eq_true c7
      clear c7
      have H' := Aside0.mk H
      clear H
      go_wp2
      go_meet
      case rel => exact ⟨_, (true), (by first | rfl | (simp; done) | (simp [*]; done)), H', ⟨by first | omega | exact Nat.le_refl _⟩, by repeat (first | exact Drawn0.refl _ | apply Drawn0.step)⟩
    · rw [if_neg c7] at H
      have c7b0 : decide (a2 < 1) = false := decide_eq_false c7
      clear c7
      have H' := Aside0.mk H
      clear H
      go_wp2
      go_meet
      case rel => exact ⟨_, (decide (a2 > t126)), (by first | rfl | (simp; done) | (simp [*]; done)), H', ⟨by first | omega | exact Nat.le_refl _⟩, by repeat (first | exact Drawn0.refl _ | apply Drawn0.step)⟩
  case rest =>
    clear HC5
    try clear c1
    try clear p2
    try clear c6
    try clear c6b0
    try clear c6b1
    try clear c7
    try clear c7b0
    obtain ⟨kq, x29_4, rfl, HA, HJ4, ⟨mc4, rfl⟩⟩ := hcut
    cases kq with
    | zero => exact absurd HA.out (by simp [tenorref5_Of.j0])
    | succ kj4 =>
      have H := HA.out
      clear HA
      simp only [tenorref5_Of.j0] at H
      by_cases c8 : x29_4 = true
      · subst c8
        have H1 : (some (0, 50)) = some (r1, r2) := by rw [if_pos rfl] at H; exact H
        clear H
        have H := H1
        clear H1
        simp only [Option.some.injEq, Prod.mk.injEq] at H
        obtain ⟨rfl, rfl⟩ := H
        go_wp2
        go_ret2
        exact ⟨sA, dA⟩
      · replace c8 := Bool.eq_false_iff.mpr c8
        subst c8
        have H1 : (tenorref5_Of.l0 kj4 a0 a1 (wrap64 (a2 - 1)) 1900) = some (r1, r2) := by rw [if_neg (show ¬ (false = true) by decide)] at H; exact H
        clear H
        have H := H1
        clear H1
        have H' := Aside0.mk H
        clear H
        go_wp2
        go_loopg [10, 11] kj4 (fun kq v10 v11 w' => ∃ (x10_2 : Int) (x11_2 : Int), v10 = .int .i64 x10_2 ∧ v11 = .int .i64 x11_2 ∧ Aside0 (tenorref5_Of.l0 kq a0 a1 x10_2 x11_2 = some (r1, r2)) ∧ Aside0 (kq ≤ kj4) ∧ Drawn0 w w')
        case atStart => exact ⟨(wrap64 (a2 - 1)), (1900), (by first | rfl | (simp; done) | (simp [*]; done)), (by first | rfl | (simp; done) | (simp [*]; done)), H', ⟨Nat.le_refl _⟩, by repeat (first | exact Drawn0.refl _ | apply Drawn0.step)⟩
        case round =>
          clear H'
          try clear c1
          try clear p2
          try clear c4
          try clear c6
          try clear c6b0
          try clear c6b1
          try clear p6
          try clear c7
          try clear c7b0
          try clear c8
          try clear p2
          obtain ⟨x10_2, x11_2, rfl, rfl, HA, HK2, ⟨m2, rfl⟩⟩ := hrel
          cases gk with
          | zero => exact absurd HA.out (by simp [tenorref5_Of.l0])
          | succ k2 =>
            have H := HA.out
            clear HA
            simp only [tenorref5_Of.l0] at H
            by_cases c9 : x11_2 < a0
            rotate_left
            · rw [if_neg c9] at H
              have c9b0 : decide (x11_2 < a0) = false := decide_eq_false c9
              clear c9
              have H' := Aside0.mk H
              clear H
              go_wp2
              go_loopg [10, 12] k2 (fun kq v10 v12 w' => ∃ (x10_3 : Int) (x12_3 : Int), v10 = .int .i64 x10_3 ∧ v12 = .int .i64 x12_3 ∧ Aside0 (tenorref5_Of.l1 kq a0 a1 x10_3 x12_3 = some (r1, r2)) ∧ Aside0 (kq ≤ k2) ∧ Drawn0 w w')
              case atStart => exact ⟨(x10_2), (1), (by first | rfl | (simp; done) | (simp [*]; done)), (by first | rfl | (simp; done) | (simp [*]; done)), H', ⟨Nat.le_refl _⟩, by repeat (first | exact Drawn0.refl _ | apply Drawn0.step)⟩
              case round =>
                clear H'
                try clear c1
                try clear p2
                try clear c4
                try clear c6
                try clear c6b0
                try clear c6b1
                try clear p6
                try clear c7
                try clear c7b0
                try clear c8
                try clear c9
                try clear c9b0
                try clear c11
                try clear p2
                try clear p6
                obtain ⟨x10_3, x12_3, rfl, rfl, HA, HK3, ⟨m3, rfl⟩⟩ := hrel
                cases gk with
                | zero => exact absurd HA.out (by simp [tenorref5_Of.l1])
                | succ k3 =>
                  have H := HA.out
                  clear HA
                  simp only [tenorref5_Of.l1] at H
                  by_cases c12 : x12_3 < a1
                  rotate_left
                  · rw [if_neg c12] at H
                    have c12b0 : decide (x12_3 < a1) = false := decide_eq_false c12
                    clear c12
                    simp only [Option.some.injEq, Prod.mk.injEq] at H
                    obtain ⟨rfl, rfl⟩ := H
                    go_wp2
                    go_ret2
                    exact ⟨sA, dA⟩
                  rw [if_pos c12] at H
                  have c12b0 : decide (x12_3 < a1) = true := decide_eq_true c12
                  clear c12
                  replace H := Option.bind_eq_some_iff.mp H
                  obtain ⟨t129, A130, H⟩ := H
                  have A13 := Aside0.mk A130
                  clear A130
                  have H' := Aside0.mk H
                  clear H
                  go_wp2_with (first | ((with_reducible refine gate_callee (f := 84) rfl ?_); refine goesL_ (some 51) rfl rfl Tryz.func84 (by kernel_rfl) rfl #[.int .i64 a0, .int .i64 x12_3] rfl mA ?_; (with_reducible refine (tenorref5_length.calls k3 a0 x12_3 t129 _ A13.out).mono ?_); rintro e w' ⟨rfl, ⟨nd, rfl⟩⟩; refine ⟨_, rfl, ?_⟩))
                  go_roundg k3
                  case measure => have := HJ4.out; have := HK2.out; have := HK3.out; omega
                  case rel => exact ⟨(wrap64 (x10_3 + t129)), (wrap64 (x12_3 + 1)), (by first | rfl | (simp; done) | (simp [*]; done)), (by first | rfl | (simp; done) | (simp [*]; done)), H', ⟨by have := HJ4.out; have := HK2.out; have := HK3.out; omega⟩, by repeat (first | exact Drawn0.refl _ | apply Drawn0.step)⟩
            rw [if_pos c9] at H
            have c9b0 : decide (x11_2 < a0) = true := decide_eq_true c9
            clear c9
            replace H := Option.bind_eq_some_iff.mp H
            obtain ⟨t128, A100, H⟩ := H
            have A10 := Aside0.mk A100
            clear A100
            by_cases c11 : t128 = true
            · subst c11
              have H1 : (tenorref5_Of.l0 k2 a0 a1 (wrap64 ((wrap64 (x10_2 + 365)) + 1)) (wrap64 (x11_2 + 1))) = some (r1, r2) := by rw [if_pos rfl] at H; exact H
              clear H
              have H := H1
              clear H1
              have H' := Aside0.mk H
              clear H
              go_wp2_with (first | ((with_reducible refine gate_callee (f := 124) rfl ?_); refine goesL_ (some 40) rfl rfl Tryz.func124 (by kernel_rfl) rfl #[.int .i64 x11_2] rfl mA ?_; (with_reducible refine (tenorref5_Leap.calls x11_2 true _ A10.out).mono ?_); rintro e w' ⟨rfl, ⟨nd, rfl⟩⟩; refine ⟨_, rfl, ?_⟩))
              go_roundg k2
              case measure => have := HJ4.out; have := HK2.out; omega
              case rel => exact ⟨(wrap64 ((wrap64 (x10_2 + 365)) + 1)), (wrap64 (x11_2 + 1)), (by first | rfl | (simp; done) | (simp [*]; done)), (by first | rfl | (simp; done) | (simp [*]; done)), H', ⟨by have := HJ4.out; have := HK2.out; omega⟩, by repeat (first | exact Drawn0.refl _ | apply Drawn0.step)⟩
            replace c11 := Bool.eq_false_iff.mpr c11
            subst c11
            have H1 : (tenorref5_Of.l0 k2 a0 a1 (wrap64 (x10_2 + 365)) (wrap64 (x11_2 + 1))) = some (r1, r2) := by rw [if_neg (show ¬ (false = true) by decide)] at H; exact H
            clear H
            have H := H1
            clear H1
            have H' := Aside0.mk H
            clear H
            go_wp2_with (first | ((with_reducible refine gate_callee (f := 124) rfl ?_); refine goesL_ (some 40) rfl rfl Tryz.func124 (by kernel_rfl) rfl #[.int .i64 x11_2] rfl mA ?_; (with_reducible refine (tenorref5_Leap.calls x11_2 false _ A10.out).mono ?_); rintro e w' ⟨rfl, ⟨nd, rfl⟩⟩; refine ⟨_, rfl, ?_⟩))
            go_roundg k2
            case measure => have := HJ4.out; have := HK2.out; omega
            case rel => exact ⟨(wrap64 (x10_2 + 365)), (wrap64 (x11_2 + 1)), (by first | rfl | (simp; done) | (simp [*]; done)), (by first | rfl | (simp; done) | (simp [*]; done)), H', ⟨by have := HJ4.out; have := HK2.out; omega⟩, by repeat (first | exact Drawn0.refl _ | apply Drawn0.step)⟩

end Go.Proofs.YtepcegiciecogaaGreat.FDa
