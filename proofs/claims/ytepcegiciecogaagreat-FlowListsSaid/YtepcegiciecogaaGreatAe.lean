/- Contracts of package acc: the number nearest to a sum. -/
import Derived.Test.YtepcegiciecogaaGreatAd
import Derived.WalkKit
import Derived.Lib.Hide
import Derived.WalkSpells
import Derived.WalkLawsBesides
import Derived.Deep.QuietTactic
import Derived.BigQuiet
import Derived.BigRegion
import Derived.Laws.Rows
import Derived.StillTailTactics
import Derived.Outline
import Derived.Deep.DeepCutAuto
import Derived.Deep.CutBlock
import Derived.Deep.LoopGhost
namespace Go.Proofs.YtepcegiciecogaaGreat
open Go.RowKit Go.Proofs.YtepcegiciecogaaGreatW.PrintWords Tn

theorem row_cell {w : World} {g : Nat} {f : Nat → Nat} {t : TypeId} (h : w.heap[g]? = some (.cells (rowF f) t (0, 0))) (i : Nat) (hi : i < 68) : w.cell? ⟨g, i, none⟩ = some (.int .u64 ((f i : Nat) : Int)) := by
  rw [blk_cell h]; exact rowF_word f i hi

/-- the first word from above that is not nought stands at t, or t is 0. -/
def TopAt (q t : Nat) : Prop := q < B (t + 1) ∧ (t = 0 ∨ wd q t ≠ 0)

theorem slice_row (g n : Nat) (hn : n ≤ 66) (w : World) : (Instr.sliceAt 105 (.pointer (some ⟨g, 0, none⟩)) none (some (.int .i64 (n : Int))) none).run Tryz.prog w = .ok (.slice (some ⟨g, 0, none⟩) n 68) w := by
  have hi : (Tryz.prog.info? 36).map (·.size) = some 1 := by kernel_rfl
  obtain ⟨i, hi1, hi2⟩ := Option.map_eq_some_iff.1 hi
  have hul : (underlying 105).run Tryz.prog w = .ok _ w := run_underlying Tryz.underlying105 w
  have hb : (Instr.sliceBounds false 68 68 none (some (.int .i64 (n : Int))) none).run Tryz.prog w = .ok (0, n, 68) w := by
    simp only [Instr.sliceBounds, Instr.sliceBound, asIntOf, Sem.run_bind, Sem.run_pure, Result.andThen_ok]
    rw [if_pos ⟨Int.natCast_nonneg n, by omega⟩]
    simp
  simp [Instr.sliceAt, Instr.sureAddr, Sem.run_bind, hul, hb, sizeOf, typeInfo, hi1, hi2, Addr.add]
theorem rest_next (q j : Nat) (r0 : Bool) : (r0 || decide (q % B (j + 1) ≠ 0)) = ((r0 || decide (q % B j ≠ 0)) || decide (wd q j ≠ 0)) := by
  have hp := B_pos j
  rw [Bool.or_assoc]
  congr 1
  rw [mod_succ, Bool.eq_iff_iff, Bool.or_eq_true, decide_eq_true_iff, decide_eq_true_iff, decide_eq_true_iff]
  rcases Nat.eq_zero_or_pos (wd q j) with h | h
  · rw [h]; simp
  · have : 0 < B j * wd q j := Nat.mul_pos hp h
    omega
theorem wrap_mask {r : Nat} (hr : r < 64) : IntKind.u64.wrap (IntKind.u64.wrap ((2 : Int) ^ r) - 1) = (2 : Int) ^ r - 1 := by
  have hp := pow_le (show r ≤ 63 by omega)
  rw [show 2 ^ 63 = 9223372036854775808 from by decide] at hp
  have hp0 := Nat.two_pow_pos r
  have e : (2 : Int) ^ r = ((2 ^ r : Nat) : Int) := by simp
  rw [e]
  generalize 2 ^ r = p at *
  rw [IntKind.wrap_u64, IntKind.wrap_u64]; omega
theorem bne_nat (y : Nat) : ((y : Int) != 0) = decide (y ≠ 0) := by rw [Bool.eq_iff_iff, bne_iff_ne, decide_eq_true_iff]; omega
theorem near_or {xi xj r m : Nat} (hr : r < 64) (h : xi / 2 ^ r + (xj * 2 ^ (64 - r)) % 18446744073709551616 = m) (h1 : xi / 2 ^ r < 2 ^ (64 - r)) (h2 : (xj * 2 ^ (64 - r)) % 18446744073709551616 % 2 ^ (64 - r) = 0) :
    bits .or .u64 ((xi : Int) / 2 ^ r) (IntKind.u64.wrap ((xj : Int) * 2 ^ (64 - r))) = (m : Int) := by
  have e0 : IntKind.u64.wrap ((xj : Int) * 2 ^ (64 - r)) = (((xj * 2 ^ (64 - r)) % 18446744073709551616 : Nat) : Int) := by rw [IntKind.wrap_u64]; simp
  rw [shr_bit, e0, ← h]
  rcases Nat.eq_zero_or_pos r with h0 | h0
  · subst h0
    have e1 : (xj * 2 ^ (64 - 0)) % 18446744073709551616 = 0 := by rw [Nat.sub_zero, pow_64, Nat.mul_mod_left]
    rw [e1, Nat.add_zero]
    rw [Nat.pow_zero, Nat.div_one] at h1 ⊢
    rw [Nat.sub_zero, pow_64] at h1
    have := u64_or_nat xi 0 h1 (by decide)
    rwa [Nat.or_zero] at this
  · have hp := pow_le (show 64 - r ≤ 63 by omega)
    rw [show 2 ^ 63 = 9223372036854775808 from by decide] at hp
    have hc : (xj * 2 ^ (64 - r)) % 18446744073709551616 < 18446744073709551616 := Nat.mod_lt _ (by decide)
    have h3 := put_or ⟨64 - r, by omega, rfl⟩ h1 hc h2
    rw [u64_or_nat _ _ hc (by omega)] at h3
    rw [u64_or_nat _ _ (by omega) hc, Nat.or_comm, h3, Nat.add_comm]

set_option maxRecDepth 100000 in
set_option maxHeartbeats 4000000 in
theorem near_any (q : Nat) (more : Bool) (w : World) (hq : q < B 67) : Calls Tryz.prog 96 #[.agg (rowF (wd q)), .bool more] w fun e w' => e = .returned (.float .f64 (nearU q more)) ∧ Aside0 (Below w.heap.size w w') := by
  have HQ := Lib.hid hq
  have HZ : RowKit.Hid (wd q 67 = 0) := wd_small hq
  clear hq
  obtain ⟨res, hres⟩ : ∃ res, nearU q more = res := ⟨_, rfl⟩
  rw [hres]
  have HRES := Lib.hid hres
  clear hres
  obtain ⟨cs, hcs⟩ : ∃ cs, rowF (wd q) = cs := ⟨_, rfl⟩
  rw [hcs]
  have HC := Lib.hid hcs
  clear hcs
  have HH : Aside0 ((w.alloc (.cells cs 105)).heap[w.heap.size]? = some (.cells (rowF (wd q)) 105 (0, 0))) := ⟨by rw [HC.out]; exact heap_alloc_new w _⟩
  have HB : Aside0 (Below w.heap.size w (w.alloc (.cells cs 105))) := ⟨(Below.refl _ _).alloc (Nat.le_refl _) _⟩
  go_enter Tryz.func96, Tryz.ntmps96
  go_upto_block 0 with fail
  generalize w.alloc (.cells cs 105) = W at *
  go_cut [5] (fun i wx => ∃ t : Nat, t ≤ 66 ∧ i = .int .i64 t ∧ RowKit.Hid (TopAt q t) ∧ wx = W)
  case first =>
    go_wp2_with fail
    go_loopg [5] 67 (fun n i wx => n ≤ 67 ∧ i = .int .i64 n ∧ RowKit.Hid (q < B (n + 1)) ∧ wx = W)
    case atStart => exact ⟨by omega, rfl, Nat.lt_of_lt_of_le HQ.out (B_le (by omega)), rfl⟩
    case round =>
      obtain ⟨ht, rfl, HT, rfl⟩ := hrel
      have hcell := row_cell HH.out gk (by omega)
      have hfree : wr.frozen? ⟨w.heap.size, gk, none⟩ = false := blk_frozen HH.out gk
      by_cases c0 : 0 < gk
      · by_cases c1 : wd q gk = 0
        · rw [c1] at hcell
          have HT' : RowKit.Hid (q < B gk) := by
            have h1 := HT.out
            have h2 : q % B (gk + 1) = q := Nat.mod_eq_of_lt h1
            rw [mod_succ, c1, Nat.mul_zero, Nat.add_zero] at h2
            rw [← h2]; exact Nat.mod_lt _ (B_pos gk)
          clear c1
          go_wp2
          go_roundg (gk - 1)
          case measure => omega
          case rel => exact ⟨by omega, by go_num, by rw [show gk - 1 + 1 = gk by omega]; exact HT'.out, rfl⟩
        · have h67 : gk ≠ 67 := by intro e; rw [e] at c1; exact c1 HZ.out
          have HE : RowKit.Hid (TopAt q gk) := ⟨HT.out, .inr c1⟩
          have b1 : (((wd q gk : Nat) : Int) == 0) = false := beq_eq_false_iff_ne.2 (by omega)
          clear c1
          generalize wd q gk = x at *
          go_wp2
          go_meet
          exact ⟨gk, by omega, rfl, HE, rfl⟩
      · obtain rfl : gk = 0 := by omega
        have HE : RowKit.Hid (TopAt q 0) := ⟨HT.out, .inl rfl⟩
        go_wp2
        go_meet
        exact ⟨0, by omega, rfl, HE, rfl⟩
  case rest =>
    obtain ⟨t, ht, rfl, HT, rfl⟩ := hcut
    have hcell := row_cell HH.out t (by omega)
    have hfree : wc.frozen? ⟨w.heap.size, t, none⟩ = false := blk_frozen HH.out t
    have HL := Lib.hid (bl_top HT.out.1 HT.out.2)
    have HW := Lib.hid (wd_lt q t)
    obtain ⟨k1, k2, k3⟩ := nearK_bd HQ.out
    have HKD : RowKit.Hid (nearK q = max (bl q - 53) 1074) := rfl
    have HRM : RowKit.Hid (res = nr (rneM q (nearK q) more) ((nearK q : Int) - 2148)) := HRES.out.symm
    generalize nearK q = K at *
    obtain ⟨L, hL⟩ : ∃ L, bl (wd q t) = L := ⟨_, rfl⟩
    rw [hL] at HL
    have HLE : L ≤ 64 := by rw [← hL]; exact bl_le HW.out
    have hlen := fun w' => len64_any (wd q t) HW.out w'
    rw [hL] at hlen
    have HLEN := Lib.hid hlen
    clear hlen hL
    have hmax : max (64 * (t : Int) + (L : Int) - 53) 1074 = (K : Int) := by
      have h1 := HL.out
      have h2 := HKD.out
      omega
    clear HKD HL
    generalize wd q t = x at *
    obtain ⟨i, e1⟩ : ∃ i : Nat, (K : Int) / 64 = i := ⟨K / 64, by omega⟩
    obtain ⟨r, e2⟩ : ∃ r : Nat, (K : Int) % 64 = r := ⟨K % 64, by omega⟩
    obtain ⟨i1, e3⟩ : ∃ i : Nat, ((K : Int) - 1) / 64 = i := ⟨(K - 1) / 64, by omega⟩
    obtain ⟨r1, e4⟩ : ∃ r : Nat, ((K : Int) - 1) % 64 = r := ⟨(K - 1) % 64, by omega⟩
    have hi : i ≤ 66 := by omega
    have hr : r < 64 := by omega
    have hi1 : i1 ≤ 66 := by omega
    have hr1 : r1 < 64 := by omega
    have HI : RowKit.Hid (i = K / 64 ∧ r = K % 64 ∧ i1 = (K - 1) / 64 ∧ r1 = (K - 1) % 64) := ⟨by omega, by omega, by omega, by omega⟩
    have hci := row_cell HH.out i (by omega)
    have hcj := row_cell HH.out (i + 1) (by omega)
    have hck := row_cell HH.out i1 (by omega)
    have hfi : wc.frozen? ⟨w.heap.size, i, none⟩ = false := blk_frozen HH.out _
    have hfj : wc.frozen? ⟨w.heap.size, i + 1, none⟩ = false := blk_frozen HH.out _
    have hfk : wc.frozen? ⟨w.heap.size, i1, none⟩ = false := blk_frozen HH.out _
    have HM : RowKit.Hid (wd q i / 2 ^ r + (wd q (i + 1) * 2 ^ (64 - r)) % 18446744073709551616 = q / 2 ^ K ∧ wd q i / 2 ^ r < 2 ^ (64 - r) ∧ (wd q (i + 1) * 2 ^ (64 - r)) % 18446744073709551616 % 2 ^ (64 - r) = 0) := by
      have := near_word (q := q) (k := K) (by omega)
      rw [← HI.out.1, ← HI.out.2.1] at this; exact this
    have HW0 := Lib.hid (wd_lt q i)
    have HW1 := Lib.hid (wd_lt q (i + 1))
    have HW2 := Lib.hid (wd_lt q i1)
    have HB1 : RowKit.Hid (wd q i1 / 2 ^ r1 % 2 = q / 2 ^ (K - 1) % 2) := by rw [HI.out.2.2.1, HI.out.2.2.2]; exact near_bit q (K - 1)
    have HB2 : RowKit.Hid ((decide (wd q i1 % 2 ^ r1 ≠ 0) || decide (q % B i1 ≠ 0)) = decide (q % 2 ^ (K - 1) ≠ 0)) := by rw [HI.out.2.2.1, HI.out.2.2.2]; exact near_rest q (K - 1)
    generalize wd q i = xi at *
    generalize wd q (i + 1) = xj at *
    generalize wd q i1 = xk at *
    obtain ⟨m, hm⟩ : ∃ m, q / 2 ^ K = m := ⟨_, rfl⟩
    rw [hm] at k3 HM
    have HMD := Lib.hid hm
    clear hm
    have hm : bits .or .u64 ((xi : Int) / 2 ^ r) (IntKind.u64.wrap ((xj : Int) * 2 ^ (64 - r))) = (m : Int) := near_or hr HM.out.1 HM.out.2.1 HM.out.2.2
    obtain ⟨s9, hs9⟩ : ∃ s9 : Nat, (xk : Int) / 2 ^ r1 = s9 := ⟨xk / 2 ^ r1, by simp⟩
    have h9 : bits .and .u64 ((xk : Int) / 2 ^ r1) 1 = ((xk / 2 ^ r1 % 2 : Nat) : Int) := by
      rw [shr_bit]; exact and_one_nat (Nat.lt_of_le_of_lt (Nat.div_le_self _ _) HW2.out)
    rw [HB1.out] at h9
    have HH2 : RowKit.Hid (q / 2 ^ (K - 1) % 2 < 2) := Nat.mod_lt _ (by decide)
    obtain ⟨hf, hhf⟩ : ∃ hf, q / 2 ^ (K - 1) % 2 = hf := ⟨_, rfl⟩
    rw [hhf] at h9 HH2
    have HHF := Lib.hid hhf
    clear hhf hs9 HB1
    have h10 : bits .and .u64 (xk : Int) (IntKind.u64.wrap (IntKind.u64.wrap ((2 : Int) ^ r1) - 1)) = ((xk % 2 ^ r1 : Nat) : Int) := by
      rw [wrap_mask hr1]; exact and_low HW2.out hr1
    obtain ⟨y, hy⟩ : ∃ y, xk % 2 ^ r1 = y := ⟨_, rfl⟩
    rw [hy] at h10
    have HY := Lib.hid hy
    clear hy
    go_upto_region 6 with (go_at_call 112; refine (HLEN.out _).mono ?_; rintro e w' ⟨rfl, rfl⟩)
    go_upto_region 9 with fail
    go_wp2_with fail
    go_cut [11] (fun rest wx => rest = .bool (more || decide (y ≠ 0)) ∧ ∃ n, wx = wc.drewN n)
    case first =>
      cases more
      · go_quiet (fail)
        go_wp2
        go_meet
        exact ⟨by rw [bne_nat, Bool.false_or], _, rfl⟩
      · go_quiet (fail)
        go_wp2
        go_meet
        exact ⟨rfl, _, rfl⟩
    case rest =>
      obtain ⟨rfl, n0, rfl⟩ := hcut
      have HBD : Aside0 (Below w.heap.size w (wc.drewN n0)) := ⟨pw_below_drewN HB.out _⟩
      have HHD : Aside0 ((wc.drewN n0).heap[w.heap.size]? = some (.cells (rowF (wd q)) 105 (0, 0))) := HH
      generalize wc.drewN n0 = W2 at *
      obtain ⟨r0, hr0⟩ : ∃ r0, (more || decide (y ≠ 0)) = r0 := ⟨_, rfl⟩
      rw [hr0]
      have HR0 := Lib.hid hr0
      clear hr0
      have hsl := fun w' => slice_row w.heap.size i1 hi1 w'
      go_wp2_with fail
      go_loopg [11, 85] i1 (fun n rest c wx => ∃ j : Nat, j + n = i1 ∧ c = .int .i64 j ∧ rest = .bool (r0 || decide (q % B j ≠ 0)) ∧ wx = W2)
      case atStart => exact ⟨0, by omega, rfl, by rw [mod_zero]; simp, rfl⟩
      case round =>
        obtain ⟨j, hj, rfl, rfl, rfl⟩ := hrel
        by_cases hlt : j < i1
        · have hcl := row_cell HHD.out j (by omega)
          have hfl : wr.frozen? ⟨w.heap.size, j, none⟩ = false := blk_frozen HHD.out _
          have HN := Lib.hid (rest_next q j r0)
          obtain ⟨rj, hrj⟩ : ∃ rj, (r0 || decide (q % B j ≠ 0)) = rj := ⟨_, rfl⟩
          rw [hrj] at HN ⊢
          clear hrj
          generalize wd q j = z at *
          cases rj
          · go_wp2
            go_roundg (gk - 1)
            case measure => omega
            case rel => exact ⟨j + 1, by omega, by go_num, by rw [HN.out, Bool.false_or, bne_nat], rfl⟩
          · go_wp2
            go_roundg (gk - 1)
            case measure => omega
            case rel => exact ⟨j + 1, by omega, by go_num, by rw [HN.out, Bool.true_or], rfl⟩
        · obtain rfl : j = i1 := by omega
          have HR1 : RowKit.Hid ((r0 || decide (q % B j ≠ 0)) = (more || decide (q % 2 ^ (K - 1) ≠ 0))) := by
            show _ = _
            rw [← HR0.out, ← HB2.out, HY.out, Bool.or_assoc]
          obtain ⟨r2, hr2⟩ : ∃ r2, (r0 || decide (q % B j ≠ 0)) = r2 := ⟨_, rfl⟩
          rw [hr2] at HR1 ⊢
          clear hr2
          have hmod : bits .and .u64 (m : Int) 1 = ((m % 2 : Nat) : Int) := and_one_nat (by omega)
          have hfl := floatOfInt_nat m
          have hfl1 : floatOfInt .f64 ((m : Int) + 1) = nr (m + 1) 0 := floatOfInt_nat (m + 1)
          have HX : RowKit.Hid (rneM q K more = m + (if hf = 1 ∧ (r2 = true ∨ m % 2 = 1) then 1 else 0)) := by
            show _ = _
            unfold rneM
            rw [HMD.out, HHF.out]
            congr 2
            rw [HR1.out, Bool.or_eq_true, decide_eq_true_iff, or_assoc, or_left_comm]
          rw [HX.out] at HRM
          clear HX HR1 HRES HMD HHF HM HB2 HY hm h9 h10 hmax HT HC
          have hf01 : hf = 0 ∨ hf = 1 := by have := HH2.out; omega
          have HLD := Lib.hid (fun w' => Ldexp_all m ((K : Int) - 2148) (by omega) (by omega) (by omega) w')
          have HLD1 := Lib.hid (fun w' => Ldexp_all (m + 1) ((K : Int) - 2148) (by omega) (by omega) (by omega) w')
          rcases hf01 with rfl | rfl
          · rw [if_neg (by omega), Nat.add_zero] at HRM
            go_wp2_with (go_at_call 131; (with_reducible refine (HLD.out _).mono ?_); rintro e w' ⟨rfl, rfl⟩)
            go_ret
            exact ⟨ret_f HRM.out.symm, HBD⟩
          · cases r2
            · by_cases hmo : m % 2 = 1
              · rw [if_pos ⟨rfl, .inr hmo⟩] at HRM
                rw [hmo] at hmod
                clear hmo
                go_wp2_with (go_at_call 131; (with_reducible refine (HLD1.out _).mono ?_); rintro e w' ⟨rfl, rfl⟩)
                go_ret
                exact ⟨ret_f HRM.out.symm, HBD⟩
              · rw [if_neg (by simp [hmo])] at HRM
                have hm0 : m % 2 = 0 := by omega
                rw [hm0] at hmod
                clear hmo hm0
                go_wp2_with (go_at_call 131; (with_reducible refine (HLD.out _).mono ?_); rintro e w' ⟨rfl, rfl⟩)
                go_ret
                exact ⟨ret_f HRM.out.symm, HBD⟩
            · rw [if_pos ⟨rfl, .inl rfl⟩] at HRM
              go_wp2_with (go_at_call 131; (with_reducible refine (HLD1.out _).mono ?_); rintro e w' ⟨rfl, rfl⟩)
              go_ret
              exact ⟨ret_f HRM.out.symm, HBD⟩

end Go.Proofs.YtepcegiciecogaaGreat
