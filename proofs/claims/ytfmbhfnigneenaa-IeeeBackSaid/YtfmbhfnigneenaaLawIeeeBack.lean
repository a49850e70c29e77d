/- IeeeBack, at any two floats: the law answers true, and its input stays. No condition. -/
import Derived.Test.YtfmbhfnigneenaaRows
import Derived.WalkKit
import Derived.ProofKit
import Derived.OpenShut
import Derived.Laws.Cover2
import Derived.Test.YtfmbhfnigneenaaAw
import Derived.Test.YtfmbhfnigneenaaA3
import Derived.Test.YtfmbhfnigneenaaSpl
import Derived.Lib.Hide
import Derived.WalkSpells
import Derived.WalkLawsBesides
import Derived.Deep.QuietTactic
import Derived.BigQuiet
namespace Go.Proofs.Ytfmbhfnigneenaa
open Go.ChangeShapes Go.WideShapes Go.ChangeAt Go.RowKit

theorem float_lt {b : Nat} (h : (Lit.float .f64 b).wf = true) : b < 18446744073709551616 := by simpa [Lit.wf] using h
theorem float32_lt {b : Nat} (h : (Lit.float .f32 b).wf = true) : b < 4294967296 := by simpa [Lit.wf] using h
theorem i64_bd {n : Int} (h : (Lit.int .i64 n).wf = true) : -9223372036854775808 ≤ n ∧ n < 9223372036854775808 := by
  simp [Lit.wf, IntKind.min, IntKind.max, IntKind.bits, IntKind.signed] at h; omega
theorem u64_bd {n : Int} (h : (Lit.int .u64 n).wf = true) : 0 ≤ n ∧ n < 18446744073709551616 := by
  simp [Lit.wf, IntKind.min, IntKind.max, IntKind.bits, IntKind.signed] at h; omega
set_option maxRecDepth 100000 in
set_option maxHeartbeats 400000 in
theorem back_nan (a b : Nat) (h : a < 18446744073709551616) (h' : b < 18446744073709551616) (w : World) (hn : Tn.nan a = true) :
    Calls Try.prog 10 #[.float .f64 a, .float .f64 b] w fun e w' => e = .returned (.bool true) ∧ Below w.heap.size w w' := by
  have r1 := Tn.ord_refl h
  have r2 := Tn.ord_refl h'
  have e9 := Lib.hid (Tn.fin_nan (b := a))
  have ho : Tn.ok a = false := by rw [Tn.ok_nan, hn]; rfl
  have hf : Tn.fin a = false := by
    cases hf : Tn.fin a
    · rfl
    · rw [e9.out hf] at hn; cases hn
  clear hn
  have H := Lib.hid h; clear h
  have H' := Lib.hid h'; clear h'
  go_enter Try.func10, Try.ntmps10
  go_wp2_with (first | (go_at_call 12; refine (rank_any _ (by first | exact H.out | exact H'.out) _).mono ?_; rintro e w' ⟨rfl, rfl⟩) | (go_at_call 15; refine (at_any _ _).mono ?_; rintro e w' ⟨rfl, rfl⟩) | (go_at_call 40; refine (split_any _ H.out _).mono ?_; rintro e w' ⟨rfl, rfl⟩) | (go_at_call 42; refine (join_any _ _ HB.out.1 HB.out.2 _).mono ?_; rintro e w' ⟨rfl, ⟨nj, rfl⟩⟩) | (go_at_call 30; refine (negative_any _ HZ.out _).mono ?_; rintro e w' ⟨rfl, rfl⟩) | (go_at_call 36; refine (up_any _ HD.out _).mono ?_; rintro e w' ⟨rfl, rfl⟩) | (go_at_call 38; refine (down_any _ H.out _).mono ?_; rintro e w' ⟨rfl, rfl⟩) | (go_at_call 18; refine (awake_any _).mono ?_; rintro e w' ⟨rfl, ⟨na, rfl⟩⟩))
  go_ret
  exact ⟨rfl, by first | exact below_drewN (Below.refl _ _) _ | exact below_drewN (below_drew1 (Below.refl _ _)) _⟩

set_option maxRecDepth 100000 in
set_option maxHeartbeats 400000 in
theorem back_000 (a b : Nat) (h : a < 18446744073709551616) (h' : b < 18446744073709551616) (w : World) (hn : Tn.nan a = false) (hnb : Tn.nan b = true) (hf : Tn.fin a = false) (hd : Tn.fin (Tn.step a (-1)) = false) :
    Calls Try.prog 10 #[.float .f64 a, .float .f64 b] w fun e w' => e = .returned (.bool true) ∧ Below w.heap.size w w' := by
  have r1 := Tn.ord_refl h
  have r2 := Tn.ord_refl h'
  have e9 := Lib.hid (Tn.fin_nan (b := a))
  have ho : Tn.ok a = true := by rw [Tn.ok_nan, hn]; rfl
  have hk := Tn.rank_ok a hn
  have HZ := Lib.hid (Tn.att_lt (Tn.rank a))
  have HD := Lib.hid (Tn.step_lt (-1) h)
  have bb := Tn.spm_bd a
  have HB : RowKit.Hid (-9223372036854775808 ≤ Tn.spm a ∧ Tn.spm a < 9223372036854775808) := ⟨by omega, by omega⟩
  clear bb
  have ba := (Tn.back_at h hn).1
  have bz := Lib.hid (Tn.back_at h hn).2
  have hs := fun w => Tn.run_sub_nan (P := Try.prog) 22 (Tn.sub_inf HD.out hd) w
  have bu := fun w : World => Tn.ord_nan_l 0 (Tn.nanR_nan w (Tn.step a (-1)) (Tn.step a (-1))).2 .eq
  clear hd
  have hob : Tn.ok b = false := by rw [Tn.ok_nan, hnb]; rfl
  have H := Lib.hid h; clear h
  have H' := Lib.hid h'; clear h'
  clear e9 hn hnb
  cases hz : (FloatKind.f64.format.order (Tn.att (Tn.rank a)) 0 == some .eq)
  · go_enter Try.func10, Try.ntmps10
    go_wp2_with (first | (go_at_call 12; refine (rank_any _ (by first | exact H.out | exact H'.out) _).mono ?_; rintro e w' ⟨rfl, rfl⟩) | (go_at_call 15; refine (at_any _ _).mono ?_; rintro e w' ⟨rfl, rfl⟩) | (go_at_call 40; refine (split_any _ H.out _).mono ?_; rintro e w' ⟨rfl, rfl⟩) | (go_at_call 42; refine (join_any _ _ HB.out.1 HB.out.2 _).mono ?_; rintro e w' ⟨rfl, ⟨nj, rfl⟩⟩) | (go_at_call 30; refine (negative_any _ HZ.out _).mono ?_; rintro e w' ⟨rfl, rfl⟩) | (go_at_call 36; refine (up_any _ HD.out _).mono ?_; rintro e w' ⟨rfl, rfl⟩) | (go_at_call 38; refine (down_any _ H.out _).mono ?_; rintro e w' ⟨rfl, rfl⟩) | (go_at_call 18; refine (awake_any _).mono ?_; rintro e w' ⟨rfl, ⟨na, rfl⟩⟩))
    go_ret
    exact ⟨rfl, by first | exact below_drewN (Below.refl _ _) _ | exact below_drewN (below_drew1 (Below.refl _ _)) _⟩
  · have hneg := bz.out hz
    go_enter Try.func10, Try.ntmps10
    go_wp2_with (first | (go_at_call 12; refine (rank_any _ (by first | exact H.out | exact H'.out) _).mono ?_; rintro e w' ⟨rfl, rfl⟩) | (go_at_call 15; refine (at_any _ _).mono ?_; rintro e w' ⟨rfl, rfl⟩) | (go_at_call 40; refine (split_any _ H.out _).mono ?_; rintro e w' ⟨rfl, rfl⟩) | (go_at_call 42; refine (join_any _ _ HB.out.1 HB.out.2 _).mono ?_; rintro e w' ⟨rfl, ⟨nj, rfl⟩⟩) | (go_at_call 30; refine (negative_any _ HZ.out _).mono ?_; rintro e w' ⟨rfl, rfl⟩) | (go_at_call 36; refine (up_any _ HD.out _).mono ?_; rintro e w' ⟨rfl, rfl⟩) | (go_at_call 38; refine (down_any _ H.out _).mono ?_; rintro e w' ⟨rfl, rfl⟩) | (go_at_call 18; refine (awake_any _).mono ?_; rintro e w' ⟨rfl, ⟨na, rfl⟩⟩))
    go_ret
    exact ⟨rfl, by first | exact below_drewN (Below.refl _ _) _ | exact below_drewN (below_drew1 (Below.refl _ _)) _⟩

set_option maxRecDepth 100000 in
set_option maxHeartbeats 400000 in
theorem back_001 (a b : Nat) (h : a < 18446744073709551616) (h' : b < 18446744073709551616) (w : World) (hn : Tn.nan a = false) (hnb : Tn.nan b = false) (hf : Tn.fin a = false) (hd : Tn.fin (Tn.step a (-1)) = false) :
    Calls Try.prog 10 #[.float .f64 a, .float .f64 b] w fun e w' => e = .returned (.bool true) ∧ Below w.heap.size w w' := by
  have r1 := Tn.ord_refl h
  have r2 := Tn.ord_refl h'
  have e9 := Lib.hid (Tn.fin_nan (b := a))
  have ho : Tn.ok a = true := by rw [Tn.ok_nan, hn]; rfl
  have hk := Tn.rank_ok a hn
  have HZ := Lib.hid (Tn.att_lt (Tn.rank a))
  have HD := Lib.hid (Tn.step_lt (-1) h)
  have bb := Tn.spm_bd a
  have HB : RowKit.Hid (-9223372036854775808 ≤ Tn.spm a ∧ Tn.spm a < 9223372036854775808) := ⟨by omega, by omega⟩
  clear bb
  have ba := (Tn.back_at h hn).1
  have bz := Lib.hid (Tn.back_at h hn).2
  have hs := fun w => Tn.run_sub_nan (P := Try.prog) 22 (Tn.sub_inf HD.out hd) w
  have bu := fun w : World => Tn.ord_nan_l 0 (Tn.nanR_nan w (Tn.step a (-1)) (Tn.step a (-1))).2 .eq
  clear hd
  have hob : Tn.ok b = true := by rw [Tn.ok_nan, hnb]; rfl
  have q1 := Tn.ord_lt h h' hn hnb
  have q2 := Tn.ord_eqb h h' hn hnb
  have H := Lib.hid h; clear h
  have H' := Lib.hid h'; clear h'
  clear e9 hn hnb
  cases hz : (FloatKind.f64.format.order (Tn.att (Tn.rank a)) 0 == some .eq)
  · go_enter Try.func10, Try.ntmps10
    go_wp2_with (first | (go_at_call 12; refine (rank_any _ (by first | exact H.out | exact H'.out) _).mono ?_; rintro e w' ⟨rfl, rfl⟩) | (go_at_call 15; refine (at_any _ _).mono ?_; rintro e w' ⟨rfl, rfl⟩) | (go_at_call 40; refine (split_any _ H.out _).mono ?_; rintro e w' ⟨rfl, rfl⟩) | (go_at_call 42; refine (join_any _ _ HB.out.1 HB.out.2 _).mono ?_; rintro e w' ⟨rfl, ⟨nj, rfl⟩⟩) | (go_at_call 30; refine (negative_any _ HZ.out _).mono ?_; rintro e w' ⟨rfl, rfl⟩) | (go_at_call 36; refine (up_any _ HD.out _).mono ?_; rintro e w' ⟨rfl, rfl⟩) | (go_at_call 38; refine (down_any _ H.out _).mono ?_; rintro e w' ⟨rfl, rfl⟩) | (go_at_call 18; refine (awake_any _).mono ?_; rintro e w' ⟨rfl, ⟨na, rfl⟩⟩))
    go_ret
    exact ⟨rfl, by first | exact below_drewN (Below.refl _ _) _ | exact below_drewN (below_drew1 (Below.refl _ _)) _⟩
  · have hneg := bz.out hz
    go_enter Try.func10, Try.ntmps10
    go_wp2_with (first | (go_at_call 12; refine (rank_any _ (by first | exact H.out | exact H'.out) _).mono ?_; rintro e w' ⟨rfl, rfl⟩) | (go_at_call 15; refine (at_any _ _).mono ?_; rintro e w' ⟨rfl, rfl⟩) | (go_at_call 40; refine (split_any _ H.out _).mono ?_; rintro e w' ⟨rfl, rfl⟩) | (go_at_call 42; refine (join_any _ _ HB.out.1 HB.out.2 _).mono ?_; rintro e w' ⟨rfl, ⟨nj, rfl⟩⟩) | (go_at_call 30; refine (negative_any _ HZ.out _).mono ?_; rintro e w' ⟨rfl, rfl⟩) | (go_at_call 36; refine (up_any _ HD.out _).mono ?_; rintro e w' ⟨rfl, rfl⟩) | (go_at_call 38; refine (down_any _ H.out _).mono ?_; rintro e w' ⟨rfl, rfl⟩) | (go_at_call 18; refine (awake_any _).mono ?_; rintro e w' ⟨rfl, ⟨na, rfl⟩⟩))
    go_ret
    exact ⟨rfl, by first | exact below_drewN (Below.refl _ _) _ | exact below_drewN (below_drew1 (Below.refl _ _)) _⟩

set_option maxRecDepth 100000 in
set_option maxHeartbeats 400000 in
theorem back_010 (a b : Nat) (h : a < 18446744073709551616) (h' : b < 18446744073709551616) (w : World) (hn : Tn.nan a = false) (hnb : Tn.nan b = true) (hf : Tn.fin a = false) (hd : Tn.fin (Tn.step a (-1)) = true) :
    Calls Try.prog 10 #[.float .f64 a, .float .f64 b] w fun e w' => e = .returned (.bool true) ∧ Below w.heap.size w w' := by
  have r1 := Tn.ord_refl h
  have r2 := Tn.ord_refl h'
  have e9 := Lib.hid (Tn.fin_nan (b := a))
  have ho : Tn.ok a = true := by rw [Tn.ok_nan, hn]; rfl
  have hk := Tn.rank_ok a hn
  have HZ := Lib.hid (Tn.att_lt (Tn.rank a))
  have HD := Lib.hid (Tn.step_lt (-1) h)
  have bb := Tn.spm_bd a
  have HB : RowKit.Hid (-9223372036854775808 ≤ Tn.spm a ∧ Tn.spm a < 9223372036854775808) := ⟨by omega, by omega⟩
  clear bb
  have ba := (Tn.back_at h hn).1
  have bz := Lib.hid (Tn.back_at h hn).2
  have hs := fun w => run_float_arith (P := Try.prog) w .sub 22 .f64 _ _ _ (Tn.sub_self HD.out hd)
  have bu := Tn.back_up h hn hd
  have z0 : (FloatKind.f64.format.order 0 0 == some .eq) = true := by decide +kernel
  clear hd
  have hob : Tn.ok b = false := by rw [Tn.ok_nan, hnb]; rfl
  have H := Lib.hid h; clear h
  have H' := Lib.hid h'; clear h'
  clear e9 hn hnb
  cases hz : (FloatKind.f64.format.order (Tn.att (Tn.rank a)) 0 == some .eq)
  · go_enter Try.func10, Try.ntmps10
    go_wp2_with (first | (go_at_call 12; refine (rank_any _ (by first | exact H.out | exact H'.out) _).mono ?_; rintro e w' ⟨rfl, rfl⟩) | (go_at_call 15; refine (at_any _ _).mono ?_; rintro e w' ⟨rfl, rfl⟩) | (go_at_call 40; refine (split_any _ H.out _).mono ?_; rintro e w' ⟨rfl, rfl⟩) | (go_at_call 42; refine (join_any _ _ HB.out.1 HB.out.2 _).mono ?_; rintro e w' ⟨rfl, ⟨nj, rfl⟩⟩) | (go_at_call 30; refine (negative_any _ HZ.out _).mono ?_; rintro e w' ⟨rfl, rfl⟩) | (go_at_call 36; refine (up_any _ HD.out _).mono ?_; rintro e w' ⟨rfl, rfl⟩) | (go_at_call 38; refine (down_any _ H.out _).mono ?_; rintro e w' ⟨rfl, rfl⟩) | (go_at_call 18; refine (awake_any _).mono ?_; rintro e w' ⟨rfl, ⟨na, rfl⟩⟩))
    go_ret
    exact ⟨rfl, by first | exact below_drewN (Below.refl _ _) _ | exact below_drewN (below_drew1 (Below.refl _ _)) _⟩
  · have hneg := bz.out hz
    go_enter Try.func10, Try.ntmps10
    go_wp2_with (first | (go_at_call 12; refine (rank_any _ (by first | exact H.out | exact H'.out) _).mono ?_; rintro e w' ⟨rfl, rfl⟩) | (go_at_call 15; refine (at_any _ _).mono ?_; rintro e w' ⟨rfl, rfl⟩) | (go_at_call 40; refine (split_any _ H.out _).mono ?_; rintro e w' ⟨rfl, rfl⟩) | (go_at_call 42; refine (join_any _ _ HB.out.1 HB.out.2 _).mono ?_; rintro e w' ⟨rfl, ⟨nj, rfl⟩⟩) | (go_at_call 30; refine (negative_any _ HZ.out _).mono ?_; rintro e w' ⟨rfl, rfl⟩) | (go_at_call 36; refine (up_any _ HD.out _).mono ?_; rintro e w' ⟨rfl, rfl⟩) | (go_at_call 38; refine (down_any _ H.out _).mono ?_; rintro e w' ⟨rfl, rfl⟩) | (go_at_call 18; refine (awake_any _).mono ?_; rintro e w' ⟨rfl, ⟨na, rfl⟩⟩))
    go_ret
    exact ⟨rfl, by first | exact below_drewN (Below.refl _ _) _ | exact below_drewN (below_drew1 (Below.refl _ _)) _⟩

set_option maxRecDepth 100000 in
set_option maxHeartbeats 400000 in
theorem back_011 (a b : Nat) (h : a < 18446744073709551616) (h' : b < 18446744073709551616) (w : World) (hn : Tn.nan a = false) (hnb : Tn.nan b = false) (hf : Tn.fin a = false) (hd : Tn.fin (Tn.step a (-1)) = true) :
    Calls Try.prog 10 #[.float .f64 a, .float .f64 b] w fun e w' => e = .returned (.bool true) ∧ Below w.heap.size w w' := by
  have r1 := Tn.ord_refl h
  have r2 := Tn.ord_refl h'
  have e9 := Lib.hid (Tn.fin_nan (b := a))
  have ho : Tn.ok a = true := by rw [Tn.ok_nan, hn]; rfl
  have hk := Tn.rank_ok a hn
  have HZ := Lib.hid (Tn.att_lt (Tn.rank a))
  have HD := Lib.hid (Tn.step_lt (-1) h)
  have bb := Tn.spm_bd a
  have HB : RowKit.Hid (-9223372036854775808 ≤ Tn.spm a ∧ Tn.spm a < 9223372036854775808) := ⟨by omega, by omega⟩
  clear bb
  have ba := (Tn.back_at h hn).1
  have bz := Lib.hid (Tn.back_at h hn).2
  have hs := fun w => run_float_arith (P := Try.prog) w .sub 22 .f64 _ _ _ (Tn.sub_self HD.out hd)
  have bu := Tn.back_up h hn hd
  have z0 : (FloatKind.f64.format.order 0 0 == some .eq) = true := by decide +kernel
  clear hd
  have hob : Tn.ok b = true := by rw [Tn.ok_nan, hnb]; rfl
  have q1 := Tn.ord_lt h h' hn hnb
  have q2 := Tn.ord_eqb h h' hn hnb
  have H := Lib.hid h; clear h
  have H' := Lib.hid h'; clear h'
  clear e9 hn hnb
  cases hz : (FloatKind.f64.format.order (Tn.att (Tn.rank a)) 0 == some .eq)
  · go_enter Try.func10, Try.ntmps10
    go_wp2_with (first | (go_at_call 12; refine (rank_any _ (by first | exact H.out | exact H'.out) _).mono ?_; rintro e w' ⟨rfl, rfl⟩) | (go_at_call 15; refine (at_any _ _).mono ?_; rintro e w' ⟨rfl, rfl⟩) | (go_at_call 40; refine (split_any _ H.out _).mono ?_; rintro e w' ⟨rfl, rfl⟩) | (go_at_call 42; refine (join_any _ _ HB.out.1 HB.out.2 _).mono ?_; rintro e w' ⟨rfl, ⟨nj, rfl⟩⟩) | (go_at_call 30; refine (negative_any _ HZ.out _).mono ?_; rintro e w' ⟨rfl, rfl⟩) | (go_at_call 36; refine (up_any _ HD.out _).mono ?_; rintro e w' ⟨rfl, rfl⟩) | (go_at_call 38; refine (down_any _ H.out _).mono ?_; rintro e w' ⟨rfl, rfl⟩) | (go_at_call 18; refine (awake_any _).mono ?_; rintro e w' ⟨rfl, ⟨na, rfl⟩⟩))
    go_ret
    exact ⟨rfl, by first | exact below_drewN (Below.refl _ _) _ | exact below_drewN (below_drew1 (Below.refl _ _)) _⟩
  · have hneg := bz.out hz
    go_enter Try.func10, Try.ntmps10
    go_wp2_with (first | (go_at_call 12; refine (rank_any _ (by first | exact H.out | exact H'.out) _).mono ?_; rintro e w' ⟨rfl, rfl⟩) | (go_at_call 15; refine (at_any _ _).mono ?_; rintro e w' ⟨rfl, rfl⟩) | (go_at_call 40; refine (split_any _ H.out _).mono ?_; rintro e w' ⟨rfl, rfl⟩) | (go_at_call 42; refine (join_any _ _ HB.out.1 HB.out.2 _).mono ?_; rintro e w' ⟨rfl, ⟨nj, rfl⟩⟩) | (go_at_call 30; refine (negative_any _ HZ.out _).mono ?_; rintro e w' ⟨rfl, rfl⟩) | (go_at_call 36; refine (up_any _ HD.out _).mono ?_; rintro e w' ⟨rfl, rfl⟩) | (go_at_call 38; refine (down_any _ H.out _).mono ?_; rintro e w' ⟨rfl, rfl⟩) | (go_at_call 18; refine (awake_any _).mono ?_; rintro e w' ⟨rfl, ⟨na, rfl⟩⟩))
    go_ret
    exact ⟨rfl, by first | exact below_drewN (Below.refl _ _) _ | exact below_drewN (below_drew1 (Below.refl _ _)) _⟩

set_option maxRecDepth 100000 in
set_option maxHeartbeats 400000 in
theorem back_100 (a b : Nat) (h : a < 18446744073709551616) (h' : b < 18446744073709551616) (w : World) (hn : Tn.nan a = false) (hnb : Tn.nan b = true) (hf : Tn.fin a = true) (hd : Tn.fin (Tn.step a (-1)) = false) :
    Calls Try.prog 10 #[.float .f64 a, .float .f64 b] w fun e w' => e = .returned (.bool true) ∧ Below w.heap.size w w' := by
  have r1 := Tn.ord_refl h
  have r2 := Tn.ord_refl h'
  have e9 := Lib.hid (Tn.fin_nan (b := a))
  have ho : Tn.ok a = true := by rw [Tn.ok_nan, hn]; rfl
  have hk := Tn.rank_ok a hn
  have HZ := Lib.hid (Tn.att_lt (Tn.rank a))
  have HD := Lib.hid (Tn.step_lt (-1) h)
  have bb := Tn.spm_bd a
  have HB : RowKit.Hid (-9223372036854775808 ≤ Tn.spm a ∧ Tn.spm a < 9223372036854775808) := ⟨by omega, by omega⟩
  clear bb
  have ba := (Tn.back_at h hn).1
  have bz := Lib.hid (Tn.back_at h hn).2
  have bj := Tn.back_join h hf
  have hs := fun w => Tn.run_sub_nan (P := Try.prog) 22 (Tn.sub_inf HD.out hd) w
  have bu := fun w : World => Tn.ord_nan_l 0 (Tn.nanR_nan w (Tn.step a (-1)) (Tn.step a (-1))).2 .eq
  clear hd
  have hob : Tn.ok b = false := by rw [Tn.ok_nan, hnb]; rfl
  have H := Lib.hid h; clear h
  have H' := Lib.hid h'; clear h'
  clear e9 hn hnb
  cases hz : (FloatKind.f64.format.order (Tn.att (Tn.rank a)) 0 == some .eq)
  · go_enter Try.func10, Try.ntmps10
    go_wp2_with (first | (go_at_call 12; refine (rank_any _ (by first | exact H.out | exact H'.out) _).mono ?_; rintro e w' ⟨rfl, rfl⟩) | (go_at_call 15; refine (at_any _ _).mono ?_; rintro e w' ⟨rfl, rfl⟩) | (go_at_call 40; refine (split_any _ H.out _).mono ?_; rintro e w' ⟨rfl, rfl⟩) | (go_at_call 42; refine (join_any _ _ HB.out.1 HB.out.2 _).mono ?_; rintro e w' ⟨rfl, ⟨nj, rfl⟩⟩) | (go_at_call 30; refine (negative_any _ HZ.out _).mono ?_; rintro e w' ⟨rfl, rfl⟩) | (go_at_call 36; refine (up_any _ HD.out _).mono ?_; rintro e w' ⟨rfl, rfl⟩) | (go_at_call 38; refine (down_any _ H.out _).mono ?_; rintro e w' ⟨rfl, rfl⟩) | (go_at_call 18; refine (awake_any _).mono ?_; rintro e w' ⟨rfl, ⟨na, rfl⟩⟩))
    go_ret
    exact ⟨rfl, by first | exact below_drewN (Below.refl _ _) _ | exact below_drewN (below_drew1 (Below.refl _ _)) _⟩
  · have hneg := bz.out hz
    go_enter Try.func10, Try.ntmps10
    go_wp2_with (first | (go_at_call 12; refine (rank_any _ (by first | exact H.out | exact H'.out) _).mono ?_; rintro e w' ⟨rfl, rfl⟩) | (go_at_call 15; refine (at_any _ _).mono ?_; rintro e w' ⟨rfl, rfl⟩) | (go_at_call 40; refine (split_any _ H.out _).mono ?_; rintro e w' ⟨rfl, rfl⟩) | (go_at_call 42; refine (join_any _ _ HB.out.1 HB.out.2 _).mono ?_; rintro e w' ⟨rfl, ⟨nj, rfl⟩⟩) | (go_at_call 30; refine (negative_any _ HZ.out _).mono ?_; rintro e w' ⟨rfl, rfl⟩) | (go_at_call 36; refine (up_any _ HD.out _).mono ?_; rintro e w' ⟨rfl, rfl⟩) | (go_at_call 38; refine (down_any _ H.out _).mono ?_; rintro e w' ⟨rfl, rfl⟩) | (go_at_call 18; refine (awake_any _).mono ?_; rintro e w' ⟨rfl, ⟨na, rfl⟩⟩))
    go_ret
    exact ⟨rfl, by first | exact below_drewN (Below.refl _ _) _ | exact below_drewN (below_drew1 (Below.refl _ _)) _⟩

set_option maxRecDepth 100000 in
set_option maxHeartbeats 400000 in
theorem back_101 (a b : Nat) (h : a < 18446744073709551616) (h' : b < 18446744073709551616) (w : World) (hn : Tn.nan a = false) (hnb : Tn.nan b = false) (hf : Tn.fin a = true) (hd : Tn.fin (Tn.step a (-1)) = false) :
    Calls Try.prog 10 #[.float .f64 a, .float .f64 b] w fun e w' => e = .returned (.bool true) ∧ Below w.heap.size w w' := by
  have r1 := Tn.ord_refl h
  have r2 := Tn.ord_refl h'
  have e9 := Lib.hid (Tn.fin_nan (b := a))
  have ho : Tn.ok a = true := by rw [Tn.ok_nan, hn]; rfl
  have hk := Tn.rank_ok a hn
  have HZ := Lib.hid (Tn.att_lt (Tn.rank a))
  have HD := Lib.hid (Tn.step_lt (-1) h)
  have bb := Tn.spm_bd a
  have HB : RowKit.Hid (-9223372036854775808 ≤ Tn.spm a ∧ Tn.spm a < 9223372036854775808) := ⟨by omega, by omega⟩
  clear bb
  have ba := (Tn.back_at h hn).1
  have bz := Lib.hid (Tn.back_at h hn).2
  have bj := Tn.back_join h hf
  have hs := fun w => Tn.run_sub_nan (P := Try.prog) 22 (Tn.sub_inf HD.out hd) w
  have bu := fun w : World => Tn.ord_nan_l 0 (Tn.nanR_nan w (Tn.step a (-1)) (Tn.step a (-1))).2 .eq
  clear hd
  have hob : Tn.ok b = true := by rw [Tn.ok_nan, hnb]; rfl
  have q1 := Tn.ord_lt h h' hn hnb
  have q2 := Tn.ord_eqb h h' hn hnb
  have H := Lib.hid h; clear h
  have H' := Lib.hid h'; clear h'
  clear e9 hn hnb
  cases hz : (FloatKind.f64.format.order (Tn.att (Tn.rank a)) 0 == some .eq)
  · go_enter Try.func10, Try.ntmps10
    go_wp2_with (first | (go_at_call 12; refine (rank_any _ (by first | exact H.out | exact H'.out) _).mono ?_; rintro e w' ⟨rfl, rfl⟩) | (go_at_call 15; refine (at_any _ _).mono ?_; rintro e w' ⟨rfl, rfl⟩) | (go_at_call 40; refine (split_any _ H.out _).mono ?_; rintro e w' ⟨rfl, rfl⟩) | (go_at_call 42; refine (join_any _ _ HB.out.1 HB.out.2 _).mono ?_; rintro e w' ⟨rfl, ⟨nj, rfl⟩⟩) | (go_at_call 30; refine (negative_any _ HZ.out _).mono ?_; rintro e w' ⟨rfl, rfl⟩) | (go_at_call 36; refine (up_any _ HD.out _).mono ?_; rintro e w' ⟨rfl, rfl⟩) | (go_at_call 38; refine (down_any _ H.out _).mono ?_; rintro e w' ⟨rfl, rfl⟩) | (go_at_call 18; refine (awake_any _).mono ?_; rintro e w' ⟨rfl, ⟨na, rfl⟩⟩))
    go_ret
    exact ⟨rfl, by first | exact below_drewN (Below.refl _ _) _ | exact below_drewN (below_drew1 (Below.refl _ _)) _⟩
  · have hneg := bz.out hz
    go_enter Try.func10, Try.ntmps10
    go_wp2_with (first | (go_at_call 12; refine (rank_any _ (by first | exact H.out | exact H'.out) _).mono ?_; rintro e w' ⟨rfl, rfl⟩) | (go_at_call 15; refine (at_any _ _).mono ?_; rintro e w' ⟨rfl, rfl⟩) | (go_at_call 40; refine (split_any _ H.out _).mono ?_; rintro e w' ⟨rfl, rfl⟩) | (go_at_call 42; refine (join_any _ _ HB.out.1 HB.out.2 _).mono ?_; rintro e w' ⟨rfl, ⟨nj, rfl⟩⟩) | (go_at_call 30; refine (negative_any _ HZ.out _).mono ?_; rintro e w' ⟨rfl, rfl⟩) | (go_at_call 36; refine (up_any _ HD.out _).mono ?_; rintro e w' ⟨rfl, rfl⟩) | (go_at_call 38; refine (down_any _ H.out _).mono ?_; rintro e w' ⟨rfl, rfl⟩) | (go_at_call 18; refine (awake_any _).mono ?_; rintro e w' ⟨rfl, ⟨na, rfl⟩⟩))
    go_ret
    exact ⟨rfl, by first | exact below_drewN (Below.refl _ _) _ | exact below_drewN (below_drew1 (Below.refl _ _)) _⟩

set_option maxRecDepth 100000 in
set_option maxHeartbeats 400000 in
theorem back_110 (a b : Nat) (h : a < 18446744073709551616) (h' : b < 18446744073709551616) (w : World) (hn : Tn.nan a = false) (hnb : Tn.nan b = true) (hf : Tn.fin a = true) (hd : Tn.fin (Tn.step a (-1)) = true) :
    Calls Try.prog 10 #[.float .f64 a, .float .f64 b] w fun e w' => e = .returned (.bool true) ∧ Below w.heap.size w w' := by
  have r1 := Tn.ord_refl h
  have r2 := Tn.ord_refl h'
  have e9 := Lib.hid (Tn.fin_nan (b := a))
  have ho : Tn.ok a = true := by rw [Tn.ok_nan, hn]; rfl
  have hk := Tn.rank_ok a hn
  have HZ := Lib.hid (Tn.att_lt (Tn.rank a))
  have HD := Lib.hid (Tn.step_lt (-1) h)
  have bb := Tn.spm_bd a
  have HB : RowKit.Hid (-9223372036854775808 ≤ Tn.spm a ∧ Tn.spm a < 9223372036854775808) := ⟨by omega, by omega⟩
  clear bb
  have ba := (Tn.back_at h hn).1
  have bz := Lib.hid (Tn.back_at h hn).2
  have bj := Tn.back_join h hf
  have hs := fun w => run_float_arith (P := Try.prog) w .sub 22 .f64 _ _ _ (Tn.sub_self HD.out hd)
  have bu := Tn.back_up h hn hd
  have z0 : (FloatKind.f64.format.order 0 0 == some .eq) = true := by decide +kernel
  clear hd
  have hob : Tn.ok b = false := by rw [Tn.ok_nan, hnb]; rfl
  have H := Lib.hid h; clear h
  have H' := Lib.hid h'; clear h'
  clear e9 hn hnb
  cases hz : (FloatKind.f64.format.order (Tn.att (Tn.rank a)) 0 == some .eq)
  · go_enter Try.func10, Try.ntmps10
    go_wp2_with (first | (go_at_call 12; refine (rank_any _ (by first | exact H.out | exact H'.out) _).mono ?_; rintro e w' ⟨rfl, rfl⟩) | (go_at_call 15; refine (at_any _ _).mono ?_; rintro e w' ⟨rfl, rfl⟩) | (go_at_call 40; refine (split_any _ H.out _).mono ?_; rintro e w' ⟨rfl, rfl⟩) | (go_at_call 42; refine (join_any _ _ HB.out.1 HB.out.2 _).mono ?_; rintro e w' ⟨rfl, ⟨nj, rfl⟩⟩) | (go_at_call 30; refine (negative_any _ HZ.out _).mono ?_; rintro e w' ⟨rfl, rfl⟩) | (go_at_call 36; refine (up_any _ HD.out _).mono ?_; rintro e w' ⟨rfl, rfl⟩) | (go_at_call 38; refine (down_any _ H.out _).mono ?_; rintro e w' ⟨rfl, rfl⟩) | (go_at_call 18; refine (awake_any _).mono ?_; rintro e w' ⟨rfl, ⟨na, rfl⟩⟩))
    go_ret
    exact ⟨rfl, by first | exact below_drewN (Below.refl _ _) _ | exact below_drewN (below_drew1 (Below.refl _ _)) _⟩
  · have hneg := bz.out hz
    go_enter Try.func10, Try.ntmps10
    go_wp2_with (first | (go_at_call 12; refine (rank_any _ (by first | exact H.out | exact H'.out) _).mono ?_; rintro e w' ⟨rfl, rfl⟩) | (go_at_call 15; refine (at_any _ _).mono ?_; rintro e w' ⟨rfl, rfl⟩) | (go_at_call 40; refine (split_any _ H.out _).mono ?_; rintro e w' ⟨rfl, rfl⟩) | (go_at_call 42; refine (join_any _ _ HB.out.1 HB.out.2 _).mono ?_; rintro e w' ⟨rfl, ⟨nj, rfl⟩⟩) | (go_at_call 30; refine (negative_any _ HZ.out _).mono ?_; rintro e w' ⟨rfl, rfl⟩) | (go_at_call 36; refine (up_any _ HD.out _).mono ?_; rintro e w' ⟨rfl, rfl⟩) | (go_at_call 38; refine (down_any _ H.out _).mono ?_; rintro e w' ⟨rfl, rfl⟩) | (go_at_call 18; refine (awake_any _).mono ?_; rintro e w' ⟨rfl, ⟨na, rfl⟩⟩))
    go_ret
    exact ⟨rfl, by first | exact below_drewN (Below.refl _ _) _ | exact below_drewN (below_drew1 (Below.refl _ _)) _⟩

set_option maxRecDepth 100000 in
set_option maxHeartbeats 400000 in
theorem back_111 (a b : Nat) (h : a < 18446744073709551616) (h' : b < 18446744073709551616) (w : World) (hn : Tn.nan a = false) (hnb : Tn.nan b = false) (hf : Tn.fin a = true) (hd : Tn.fin (Tn.step a (-1)) = true) :
    Calls Try.prog 10 #[.float .f64 a, .float .f64 b] w fun e w' => e = .returned (.bool true) ∧ Below w.heap.size w w' := by
  have r1 := Tn.ord_refl h
  have r2 := Tn.ord_refl h'
  have e9 := Lib.hid (Tn.fin_nan (b := a))
  have ho : Tn.ok a = true := by rw [Tn.ok_nan, hn]; rfl
  have hk := Tn.rank_ok a hn
  have HZ := Lib.hid (Tn.att_lt (Tn.rank a))
  have HD := Lib.hid (Tn.step_lt (-1) h)
  have bb := Tn.spm_bd a
  have HB : RowKit.Hid (-9223372036854775808 ≤ Tn.spm a ∧ Tn.spm a < 9223372036854775808) := ⟨by omega, by omega⟩
  clear bb
  have ba := (Tn.back_at h hn).1
  have bz := Lib.hid (Tn.back_at h hn).2
  have bj := Tn.back_join h hf
  have hs := fun w => run_float_arith (P := Try.prog) w .sub 22 .f64 _ _ _ (Tn.sub_self HD.out hd)
  have bu := Tn.back_up h hn hd
  have z0 : (FloatKind.f64.format.order 0 0 == some .eq) = true := by decide +kernel
  clear hd
  have hob : Tn.ok b = true := by rw [Tn.ok_nan, hnb]; rfl
  have q1 := Tn.ord_lt h h' hn hnb
  have q2 := Tn.ord_eqb h h' hn hnb
  have H := Lib.hid h; clear h
  have H' := Lib.hid h'; clear h'
  clear e9 hn hnb
  cases hz : (FloatKind.f64.format.order (Tn.att (Tn.rank a)) 0 == some .eq)
  · go_enter Try.func10, Try.ntmps10
    go_wp2_with (first | (go_at_call 12; refine (rank_any _ (by first | exact H.out | exact H'.out) _).mono ?_; rintro e w' ⟨rfl, rfl⟩) | (go_at_call 15; refine (at_any _ _).mono ?_; rintro e w' ⟨rfl, rfl⟩) | (go_at_call 40; refine (split_any _ H.out _).mono ?_; rintro e w' ⟨rfl, rfl⟩) | (go_at_call 42; refine (join_any _ _ HB.out.1 HB.out.2 _).mono ?_; rintro e w' ⟨rfl, ⟨nj, rfl⟩⟩) | (go_at_call 30; refine (negative_any _ HZ.out _).mono ?_; rintro e w' ⟨rfl, rfl⟩) | (go_at_call 36; refine (up_any _ HD.out _).mono ?_; rintro e w' ⟨rfl, rfl⟩) | (go_at_call 38; refine (down_any _ H.out _).mono ?_; rintro e w' ⟨rfl, rfl⟩) | (go_at_call 18; refine (awake_any _).mono ?_; rintro e w' ⟨rfl, ⟨na, rfl⟩⟩))
    go_ret
    exact ⟨rfl, by first | exact below_drewN (Below.refl _ _) _ | exact below_drewN (below_drew1 (Below.refl _ _)) _⟩
  · have hneg := bz.out hz
    go_enter Try.func10, Try.ntmps10
    go_wp2_with (first | (go_at_call 12; refine (rank_any _ (by first | exact H.out | exact H'.out) _).mono ?_; rintro e w' ⟨rfl, rfl⟩) | (go_at_call 15; refine (at_any _ _).mono ?_; rintro e w' ⟨rfl, rfl⟩) | (go_at_call 40; refine (split_any _ H.out _).mono ?_; rintro e w' ⟨rfl, rfl⟩) | (go_at_call 42; refine (join_any _ _ HB.out.1 HB.out.2 _).mono ?_; rintro e w' ⟨rfl, ⟨nj, rfl⟩⟩) | (go_at_call 30; refine (negative_any _ HZ.out _).mono ?_; rintro e w' ⟨rfl, rfl⟩) | (go_at_call 36; refine (up_any _ HD.out _).mono ?_; rintro e w' ⟨rfl, rfl⟩) | (go_at_call 38; refine (down_any _ H.out _).mono ?_; rintro e w' ⟨rfl, rfl⟩) | (go_at_call 18; refine (awake_any _).mono ?_; rintro e w' ⟨rfl, ⟨na, rfl⟩⟩))
    go_ret
    exact ⟨rfl, by first | exact below_drewN (Below.refl _ _) _ | exact below_drewN (below_drew1 (Below.refl _ _)) _⟩

set_option maxRecDepth 100000 in
set_option maxHeartbeats 400000 in
theorem back_walk (a b : Nat) (h : a < 18446744073709551616) (h' : b < 18446744073709551616) (w : World)  :
    Calls Try.prog 10 #[.float .f64 a, .float .f64 b] w fun e w' => e = .returned (.bool true) ∧ Below w.heap.size w w' := by
  cases hn : Tn.nan a
  · cases hnb : Tn.nan b
    · cases hf : Tn.fin a
      · cases hd : Tn.fin (Tn.step a (-1))
        · exact back_001 a b h h' w hn hnb hf hd
        · exact back_011 a b h h' w hn hnb hf hd
      · cases hd : Tn.fin (Tn.step a (-1))
        · exact back_101 a b h h' w hn hnb hf hd
        · exact back_111 a b h h' w hn hnb hf hd
    · cases hf : Tn.fin a
      · cases hd : Tn.fin (Tn.step a (-1))
        · exact back_000 a b h h' w hn hnb hf hd
        · exact back_010 a b h h' w hn hnb hf hd
      · cases hd : Tn.fin (Tn.step a (-1))
        · exact back_100 a b h h' w hn hnb hf hd
        · exact back_110 a b h h' w hn hnb hf hd
  · exact back_nan a b h h' w hn

theorem ieeeBack_own : ownKnob Try.prog.godebug = none := by kernel_rfl
theorem ieeeBack_laidOut : laidOutB Try.prog = true := by kernel_rfl

set_option maxRecDepth 100000 in
theorem ieeeBack_lifted (os : Os) (started : os.Started) (H : Type) (enc : TypeId × Value → H) :
    ReturnsInHanded {} Try.checked os 10 .any (Rows.ieeeBackSpec.pre6 enc Try.prog Try.f10 Rows.ieeeBackRow.domain false) (Rows.ieeeBackSpec.post enc Try.prog Try.f10 false true false false) := by
  refine returnsInHanded_of_change (C := Try.checked) ieeeBack_own started (by kernel_rfl) Try.func10
    (ChangeSpec.witness6 (enc := enc) (C := Try.checked) false ⟨#[], #[.float .f64 0, .float .f64 0], []⟩ 8 (by kernel_rfl) (by kernel_rfl) (by kernel_rfl) (by kernel_rfl)) ?_
  intro W base args ds gs before hval0 hW hcnd _
  have hval : ∀ (j : Nat) t v, Try.f10.params[j]? = some t → args[j]? = some v → Value.okWide Try.prog W .any base t v := hval0
  have hW' := hW
  obtain ⟨p, q, hA0, hV, rfl, hfz, hnd⟩ := hW
  have hA : DataW.TrodAll enc Try.prog W 0 (fun _ => true) true Try.f10.params.toList args.toList ds p := hA0
  rw [Try.params10] at hA hval
  obtain ⟨v0, vs0, d0, ds0, p0, q0, hargs, rfl, rfl, h0, r0⟩ := trodAll_cons hA
  obtain ⟨v1, vs1, d1, ds1, p1, q1, rfl, rfl, rfl, h1, r1⟩ := trodAll_cons r0
  obtain ⟨rfl, rfl, rfl⟩ := trodAll_nil r1
  obtain rfl : args = #[v0, v1] := by cases args; simp_all
  obtain ⟨rfl, rfl⟩ := trodVars_none hV
  obtain ⟨a0, rfl, rfl, rfl, w0⟩ := open_float Try.underlying22 (hval 0 22 v0 rfl rfl) h0
  obtain ⟨a1, rfl, rfl, rfl, w1⟩ := open_float Try.underlying22 (hval 1 22 v1 rfl rfl) h1
  clear hA0 hval0
  refine (back_walk a0 a1 (float_lt w0) (float_lt w1) W).mono fun e W' ⟨he, bel⟩ => ?_
  subst he
  exact ⟨_, rfl, _, _, _, [], _, [], hW', trodAll_mk1 (shut_bool Try.underlying4 _), (trodAll_cons_mk (shut_float Try.underlying22 w0) (trodAll_cons_mk (shut_float Try.underlying22 w1) trodAll_mk0)), rfl, bel.frame _, fun h => by cases h⟩

theorem ieeeBack_holds : Rows.IeeeBackSaid :=
  OpenClaim.holds_of_wide 10 Try.f10 rfl rfl rfl rfl rfl rfl rfl ⟨rfl, rfl, rfl, rfl, rfl⟩ rfl rfl rfl rfl rfl (by kernel_rfl) Try.func10 (by kernel_rfl)
    (of_decide_eq_true (by kernel_rfl)) (by unfold Func.isWrapper; first | (rw [if_pos (by decide +kernel)]; kernel_rfl) | (rw [if_neg (by decide +kernel)]; exact ⟨rfl, rfl⟩))
    (fun os started H enc _ => ieeeBack_lifted os started H enc)
#print axioms ieeeBack_holds
end Go.Proofs.Ytfmbhfnigneenaa
