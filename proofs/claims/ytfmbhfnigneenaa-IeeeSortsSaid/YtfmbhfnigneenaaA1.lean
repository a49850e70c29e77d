/- Contracts of the functions on the bits of floats (packages ieee, api and the reference's scalars). -/
import Derived.Test.YtfmbhfnigneenaaRows
import Derived.Test.YtfmbhfnigneenaaNum
import Derived.WalkKit
import Derived.Lib.Hide
import Derived.WalkSpells
import Derived.WalkLawsBesides
import Derived.Deep.QuietTactic
import Derived.BigQuiet
namespace Go.Proofs.Ytfmbhfnigneenaa
open Go.RowKit

theorem ret_i {k : IntKind} {a b : Int} (h : a = b) : Ending.returned (.int k a) = Ending.returned (.int k b) := by rw [h]
theorem ret_b {a b : Bool} (h : a = b) : Ending.returned (.bool a) = Ending.returned (.bool b) := by rw [h]
theorem ret_f {k : FloatKind} {a b : Nat} (h : a = b) : Ending.returned (.float k a) = Ending.returned (.float k b) := by rw [h]
theorem ret_ib {k : IntKind} {a b : Int} {c d : Bool} (h : a = b) (h' : c = d) : Ending.returned (.tuple #[.int k a, .bool c]) = Ending.returned (.tuple #[.int k b, .bool d]) := by rw [h, h']
theorem ret_fb {k : FloatKind} {a b : Nat} {c d : Bool} (h : a = b) (h' : c = d) : Ending.returned (.tuple #[.float k a, .bool c]) = Ending.returned (.tuple #[.float k b, .bool d]) := by rw [h, h']
theorem ret_iib {k : IntKind} {a b a' b' : Int} {c d : Bool} (h : a = b) (h'' : a' = b') (h' : c = d) : Ending.returned (.tuple #[.int k a, .int k a', .bool c]) = Ending.returned (.tuple #[.int k b, .int k b', .bool d]) := by rw [h, h', h'']

@[go_sem] theorem run_f64bits (b : Nat) (w : World) : (callFunc 51 #[.float .f64 b]).run Try.prog w = .ok (.value (.int .u64 b)) w := by
  rw [run_callFunc_extern (e := Extern.MathFloatBits.float64bits) Try.func51 (by kernel_rfl) (by kernel_rfl) (by kernel_rfl) (by kernel_rfl)]
  rfl

@[go_sem] theorem run_f64from (b : Int) (w : World) : (callFunc 75 #[.int .u64 b]).run Try.prog w = .ok (.value (.float .f64 b.toNat)) w := by
  rw [run_callFunc_extern (e := Extern.MathFloatBits.float64frombits) Try.func75 (by kernel_rfl) (by kernel_rfl) (by kernel_rfl) (by kernel_rfl)]
  rfl

set_option maxRecDepth 100000 in
set_option maxHeartbeats 400000 in
theorem bits_any (a : Nat) (w : World) :
    Calls Try.prog 14 #[.float .f64 a] w fun e w' => e = .returned (.int .u64 a) ∧ w = w' := by
  go_enter Try.func14, Try.ntmps14
  go_wp2
  go_ret
  exact ⟨rfl, rfl⟩

set_option maxRecDepth 100000 in
set_option maxHeartbeats 400000 in
theorem float_any (a : Int) (w : World) :
    Calls Try.prog 52 #[.int .u64 a] w fun e w' => e = .returned (.float .f64 a.toNat) ∧ w = w' := by
  go_enter Try.func52, Try.ntmps52
  go_wp2
  go_ret
  exact ⟨rfl, rfl⟩

set_option maxRecDepth 100000 in
set_option maxHeartbeats 400000 in
theorem size_any (a : Nat) (h : a < 18446744073709551616) (w : World) :
    Calls Try.prog 50 #[.float .f64 a] w fun e w' => e = .returned (.int .u64 (Tn.mag a : Nat)) ∧ w = w' := by
  go_enter Try.func50, Try.ntmps50
  go_wp2_with ((go_at_call 14; refine (bits_any _ _).mono ?_; rintro e w' ⟨rfl, rfl⟩))
  go_ret
  exact ⟨ret_i (Tn.andNot_sign a h), rfl⟩

set_option maxRecDepth 100000 in
set_option maxHeartbeats 400000 in
theorem class_any (a : Nat) (h : a < 18446744073709551616) (w : World) :
    Calls Try.prog 28 #[.float .f64 a] w fun e w' => e = .returned (.int .i64 (Tn.cls a)) ∧ w = w' := by
  have H := Lib.hid h; clear h
  by_cases h1 : Tn.mag a = 0
  · have b1a : (((Tn.mag a : Nat) : Int) == 0) = true := beq_iff_eq.2 (by omega)
    have HR := Lib.hid (show Tn.cls a = 1 from by unfold Tn.cls; simp only [if_pos h1])
    clear h1
    go_enter Try.func28, Try.ntmps28
    go_wp2_with ((go_at_call 50; refine (size_any _ H.out _).mono ?_; rintro e w' ⟨rfl, rfl⟩))
    go_ret
    exact ⟨ret_i HR.out.symm, rfl⟩
  · have b1a : (((Tn.mag a : Nat) : Int) == 0) = false := beq_eq_false_iff_ne.2 (by omega)
    by_cases h2 : Tn.mag a < 4503599627370496
    · have b2a : (decide (((Tn.mag a : Nat) : Int) < 4503599627370496)) = true := decide_eq_true (by omega)
      have HR := Lib.hid (show Tn.cls a = 2 from by unfold Tn.cls; simp only [if_neg h1, if_pos h2])
      clear h1 h2
      go_enter Try.func28, Try.ntmps28
      go_wp2_with ((go_at_call 50; refine (size_any _ H.out _).mono ?_; rintro e w' ⟨rfl, rfl⟩))
      go_ret
      exact ⟨ret_i HR.out.symm, rfl⟩
    · have b2a : (decide (((Tn.mag a : Nat) : Int) < 4503599627370496)) = false := decide_eq_false (by omega)
      by_cases h3 : Tn.mag a < 9218868437227405312
      · have b3a : (decide (((Tn.mag a : Nat) : Int) < 9218868437227405312)) = true := decide_eq_true (by omega)
        have HR := Lib.hid (show Tn.cls a = 3 from by unfold Tn.cls; simp only [if_neg h1, if_neg h2, if_pos h3])
        clear h1 h2 h3
        go_enter Try.func28, Try.ntmps28
        go_wp2_with ((go_at_call 50; refine (size_any _ H.out _).mono ?_; rintro e w' ⟨rfl, rfl⟩))
        go_ret
        exact ⟨ret_i HR.out.symm, rfl⟩
      · have b3a : (decide (((Tn.mag a : Nat) : Int) < 9218868437227405312)) = false := decide_eq_false (by omega)
        by_cases h4 : Tn.mag a = 9218868437227405312
        · have b4a : (((Tn.mag a : Nat) : Int) == 9218868437227405312) = true := beq_iff_eq.2 (by omega)
          have HR := Lib.hid (show Tn.cls a = 4 from by unfold Tn.cls; simp only [if_neg h1, if_neg h2, if_neg h3, if_pos h4])
          clear h1 h2 h3 h4
          go_enter Try.func28, Try.ntmps28
          go_wp2_with ((go_at_call 50; refine (size_any _ H.out _).mono ?_; rintro e w' ⟨rfl, rfl⟩))
          go_ret
          exact ⟨ret_i HR.out.symm, rfl⟩
        · have b4a : (((Tn.mag a : Nat) : Int) == 9218868437227405312) = false := beq_eq_false_iff_ne.2 (by omega)
          have HR := Lib.hid (show Tn.cls a = 5 from by unfold Tn.cls; simp only [if_neg h1, if_neg h2, if_neg h3, if_neg h4])
          clear h1 h2 h3 h4
          go_enter Try.func28, Try.ntmps28
          go_wp2_with ((go_at_call 50; refine (size_any _ H.out _).mono ?_; rintro e w' ⟨rfl, rfl⟩))
          go_ret
          exact ⟨ret_i HR.out.symm, rfl⟩

set_option maxRecDepth 100000 in
set_option maxHeartbeats 400000 in
theorem negative_any (a : Nat) (h : a < 18446744073709551616) (w : World) :
    Calls Try.prog 30 #[.float .f64 a] w fun e w' => e = .returned (.bool (Tn.neg a)) ∧ w = w' := by
  have H := Lib.hid h; clear h
  cases hn : Tn.nan a
  · have b1 := Tn.cls_ne5 hn
    have HR := Lib.hid (show Tn.neg a = (((a : Int) / 9223372036854775808) == 1) from by rw [Tn.neg_ok hn]; exact Tn.sgn_div a H.out)
    clear hn
    go_enter Try.func30, Try.ntmps30
    go_wp2_with (first | (go_at_call 28; refine (class_any _ H.out _).mono ?_; rintro e w' ⟨rfl, rfl⟩) | (go_at_call 14; refine (bits_any _ _).mono ?_; rintro e w' ⟨rfl, rfl⟩))
    go_ret
    exact ⟨ret_b HR.out.symm, rfl⟩
  · have b1 := Tn.cls_ne5 hn
    have HR := Lib.hid (Tn.neg_nan hn)
    clear hn
    go_enter Try.func30, Try.ntmps30
    go_wp2_with ((go_at_call 28; refine (class_any _ H.out _).mono ?_; rintro e w' ⟨rfl, rfl⟩))
    go_ret
    exact ⟨ret_b HR.out.symm, rfl⟩

set_option maxRecDepth 100000 in
set_option maxHeartbeats 400000 in
theorem rank_any (a : Nat) (h : a < 18446744073709551616) (w : World) :
    Calls Try.prog 12 #[.float .f64 a] w fun e w' => e = .returned (.tuple #[.int .i64 (Tn.rank a), .bool (Tn.ok a)]) ∧ w = w' := by
  have H := Lib.hid h; clear h
  cases hn : Tn.nan a
  · have b1 := Tn.cls_eq5 hn
    have HO := Lib.hid (show Tn.ok a = true from by rw [Tn.ok_nan, hn]; rfl)
    cases hs : Tn.neg a
    · have HR := Lib.hid (Tn.rank_pos hn hs)
      have HS := Lib.hid hs
      clear hn hs
      go_enter Try.func12, Try.ntmps12
      go_wp2_with (first | (go_at_call 28; refine (class_any _ H.out _).mono ?_; rintro e w' ⟨rfl, rfl⟩) | (go_at_call 30; refine (negative_any _ H.out _).mono ?_; rintro e w' ⟨rfl, rfl⟩; rw [HS.out]) | (go_at_call 50; refine (size_any _ H.out _).mono ?_; rintro e w' ⟨rfl, rfl⟩))
      go_ret2
      exact ⟨ret_ib (by rw [HR.out]; exact Tn.wrap_mag a) HO.out.symm, rfl⟩
    · have HR := Lib.hid (Tn.rank_neg hn hs)
      have HS := Lib.hid hs
      clear hn hs
      go_enter Try.func12, Try.ntmps12
      go_wp2_with (first | (go_at_call 28; refine (class_any _ H.out _).mono ?_; rintro e w' ⟨rfl, rfl⟩) | (go_at_call 30; refine (negative_any _ H.out _).mono ?_; rintro e w' ⟨rfl, rfl⟩; rw [HS.out]) | (go_at_call 50; refine (size_any _ H.out _).mono ?_; rintro e w' ⟨rfl, rfl⟩))
      go_ret2
      exact ⟨ret_ib (by rw [HR.out]; exact Tn.wrap_nmag a) HO.out.symm, rfl⟩
  · have b1 := Tn.cls_eq5 hn
    have HR := Lib.hid (Tn.rank_nan hn)
    have HO := Lib.hid (show Tn.ok a = false from by rw [Tn.ok_nan, hn]; rfl)
    clear hn
    go_enter Try.func12, Try.ntmps12
    go_wp2_with ((go_at_call 28; refine (class_any _ H.out _).mono ?_; rintro e w' ⟨rfl, rfl⟩))
    go_ret2
    exact ⟨ret_ib HR.out.symm HO.out.symm, rfl⟩

set_option maxRecDepth 100000 in
set_option maxHeartbeats 400000 in
theorem at_any (n : Int) (w : World) :
    Calls Try.prog 15 #[.int .i64 n] w fun e w' => e = .returned (.tuple #[.float .f64 (Tn.att n), .bool (Tn.atok n)]) ∧ w = w' := by
  by_cases h1 : n < -9218868437227405312
  · have HR := Lib.hid (Tn.att_low n h1)
    go_enter Try.func15, Try.ntmps15
    go_wp2
    go_ret2
    exact ⟨ret_fb (HR.out.1.symm) HR.out.2.symm, rfl⟩
  · by_cases h2 : 9218868437227405312 < n
    · have HR := Lib.hid (Tn.att_high n h2)
      go_enter Try.func15, Try.ntmps15
      go_wp2
      go_ret2
      exact ⟨ret_fb (HR.out.1.symm) HR.out.2.symm, rfl⟩
    · by_cases h3 : n < 0
      · have HR := Lib.hid (Tn.att_neg n (by omega) h3)
        go_enter Try.func15, Try.ntmps15
        go_wp2_with ((go_at_call 52; refine (float_any _ _).mono ?_; rintro e w' ⟨rfl, rfl⟩))
        go_ret2
        exact ⟨ret_fb (HR.out.1) HR.out.2.symm, rfl⟩
      · have HR := Lib.hid (Tn.att_pos n (by omega) (by omega))
        go_enter Try.func15, Try.ntmps15
        go_wp2_with ((go_at_call 52; refine (float_any _ _).mono ?_; rintro e w' ⟨rfl, rfl⟩))
        go_ret2
        exact ⟨ret_fb (HR.out.1) HR.out.2.symm, rfl⟩

set_option maxRecDepth 100000 in
set_option maxHeartbeats 400000 in
theorem step_any (a : Nat) (d : Int) (h : a < 18446744073709551616) (hd0 : -1 ≤ d) (hd1 : d ≤ 1) (w : World) :
    Calls Try.prog 63 #[.float .f64 a, .int .i64 d] w fun e w' => e = .returned (.float .f64 (Tn.step a d)) ∧ w = w' := by
  have hb0 := (Tn.rank_bd a).1
  have hb1 := (Tn.rank_bd a).2
  have H := Lib.hid h; clear h
  cases hn : Tn.nan a
  · have b1 : Tn.ok a = true := by rw [Tn.ok_nan, hn]; rfl
    cases hs : Tn.atok (Tn.rank a + d)
    · have HR := Lib.hid (Tn.step_out hn hs)
      clear hn
      go_enter Try.func63, Try.ntmps63
      go_wp2_with (first | (go_at_call 12; refine (rank_any _ H.out _).mono ?_; rintro e w' ⟨rfl, rfl⟩) | (go_at_call 15; refine (at_any _ _).mono ?_; rintro e w' ⟨rfl, rfl⟩))
      go_ret
      exact ⟨ret_f HR.out.symm, rfl⟩
    · have HR := Lib.hid (Tn.step_in hn hs)
      clear hn
      go_enter Try.func63, Try.ntmps63
      go_wp2_with (first | (go_at_call 12; refine (rank_any _ H.out _).mono ?_; rintro e w' ⟨rfl, rfl⟩) | (go_at_call 15; refine (at_any _ _).mono ?_; rintro e w' ⟨rfl, rfl⟩))
      go_ret
      exact ⟨ret_f HR.out.symm, rfl⟩
  · have b1 : Tn.ok a = false := by rw [Tn.ok_nan, hn]; rfl
    have HR := Lib.hid (Tn.step_nan (d := d) hn)
    clear hn
    go_enter Try.func63, Try.ntmps63
    go_wp2_with ((go_at_call 12; refine (rank_any _ H.out _).mono ?_; rintro e w' ⟨rfl, rfl⟩))
    go_ret
    exact ⟨ret_f HR.out.symm, rfl⟩

set_option maxRecDepth 100000 in
set_option maxHeartbeats 400000 in
theorem up_any (a : Nat) (h : a < 18446744073709551616) (w : World) :
    Calls Try.prog 36 #[.float .f64 a] w fun e w' => e = .returned (.float .f64 (Tn.step a 1)) ∧ w = w' := by
  have H := Lib.hid h; clear h
  go_enter Try.func36, Try.ntmps36
  go_wp2_with ((go_at_call 63; refine (step_any _ _ H.out (by decide) (by decide) _).mono ?_; rintro e w' ⟨rfl, rfl⟩))
  go_ret
  exact ⟨rfl, rfl⟩

set_option maxRecDepth 100000 in
set_option maxHeartbeats 400000 in
theorem down_any (a : Nat) (h : a < 18446744073709551616) (w : World) :
    Calls Try.prog 38 #[.float .f64 a] w fun e w' => e = .returned (.float .f64 (Tn.step a (-1))) ∧ w = w' := by
  have H := Lib.hid h; clear h
  go_enter Try.func38, Try.ntmps38
  go_wp2_with ((go_at_call 63; refine (step_any _ _ H.out (by decide) (by decide) _).mono ?_; rintro e w' ⟨rfl, rfl⟩))
  go_ret
  exact ⟨rfl, rfl⟩

set_option maxRecDepth 100000 in
set_option maxHeartbeats 400000 in
theorem ranks_any (a b : Nat) (h : a < 18446744073709551616) (h' : b < 18446744073709551616) (w : World) :
    Calls Try.prog 53 #[.float .f64 a, .float .f64 b] w fun e w' => e = .returned (.tuple #[.int .i64 (Tn.rank a), .int .i64 (Tn.rank b), .bool (Tn.ok a && Tn.ok b)]) ∧ w = w' := by
  have H := Lib.hid h; clear h
  have H' := Lib.hid h'; clear h'
  cases hs : Tn.ok a
  · go_enter Try.func53, Try.ntmps53
    go_wp2_with ((go_at_call 12; refine (rank_any _ (by first | exact H.out | exact H'.out) _).mono ?_; rintro e w' ⟨rfl, rfl⟩))
    go_ret3
    exact ⟨rfl, rfl⟩
  · go_enter Try.func53, Try.ntmps53
    go_wp2_with ((go_at_call 12; refine (rank_any _ (by first | exact H.out | exact H'.out) _).mono ?_; rintro e w' ⟨rfl, rfl⟩))
    go_ret3
    exact ⟨rfl, rfl⟩

set_option maxRecDepth 100000 in
set_option maxHeartbeats 400000 in
theorem mid_any (a b : Nat) (h : a < 18446744073709551616) (h' : b < 18446744073709551616) (w : World) :
    Calls Try.prog 19 #[.float .f64 a, .float .f64 b] w fun e w' => e = .returned (.tuple #[.float .f64 (if (Tn.ok a && Tn.ok b) = true then Tn.att (Tn.midr a b) else 0), .bool (Tn.ok a && Tn.ok b)]) ∧ w = w' := by
  have ha0 := (Tn.rank_bd a).1
  have ha1 := (Tn.rank_bd a).2
  have hb0 := (Tn.rank_bd b).1
  have hb1 := (Tn.rank_bd b).2
  have H := Lib.hid h; clear h
  have H' := Lib.hid h'; clear h'
  have HM := Lib.hid (Tn.mid_and_xor (Tn.rank a) (Tn.rank b) (by omega) (by omega) (by omega) (by omega))
  have HK : RowKit.Hid (Tn.atok (Tn.midr a b) = true) := Tn.att_in _ (by unfold Tn.midr; omega) (by unfold Tn.midr; omega)
  cases hs : (Tn.ok a && Tn.ok b)
  · go_enter Try.func19, Try.ntmps19
    go_wp2_with ((go_at_call 53; refine (ranks_any _ _ H.out H'.out _).mono ?_; rintro e w' ⟨rfl, rfl⟩))
    go_ret2
    exact ⟨ret_fb rfl rfl, rfl⟩
  · go_enter Try.func19, Try.ntmps19
    go_wp2_with (first | (go_at_call 53; refine (ranks_any _ _ H.out H'.out _).mono ?_; rintro e w' ⟨rfl, rfl⟩) | (go_at_call 15; rw [HM.out]; refine (at_any _ _).mono ?_; rintro e w' ⟨rfl, rfl⟩))
    go_ret2
    exact ⟨ret_fb rfl HK.out, rfl⟩

set_option maxRecDepth 100000 in
set_option maxHeartbeats 400000 in
theorem gap_any (a b : Nat) (h : a < 18446744073709551616) (h' : b < 18446744073709551616) (w : World) :
    Calls Try.prog 34 #[.float .f64 a, .float .f64 b] w fun e w' => e = .returned (.tuple #[.int .u64 (if (Tn.ok a && Tn.ok b) = true then (Tn.gap a b : Nat) else 0), .bool (Tn.ok a && Tn.ok b)]) ∧ w = w' := by
  have ha0 := (Tn.rank_bd a).1
  have ha1 := (Tn.rank_bd a).2
  have hb0 := (Tn.rank_bd b).1
  have hb1 := (Tn.rank_bd b).2
  have H := Lib.hid h; clear h
  have H' := Lib.hid h'; clear h'
  cases hs : (Tn.ok a && Tn.ok b)
  · go_enter Try.func34, Try.ntmps34
    go_wp2_with ((go_at_call 53; refine (ranks_any _ _ H.out H'.out _).mono ?_; rintro e w' ⟨rfl, rfl⟩))
    go_ret2
    exact ⟨ret_ib rfl rfl, rfl⟩
  · by_cases h1 : Tn.rank a < Tn.rank b
    · go_enter Try.func34, Try.ntmps34
      go_wp2_with ((go_at_call 53; refine (ranks_any _ _ H.out H'.out _).mono ?_; rintro e w' ⟨rfl, rfl⟩))
      go_ret2
      exact ⟨ret_ib (Tn.gap_lt h1) rfl, rfl⟩
    · by_cases h2 : Tn.rank b < Tn.rank a
      · go_enter Try.func34, Try.ntmps34
        go_wp2_with ((go_at_call 53; refine (ranks_any _ _ H.out H'.out _).mono ?_; rintro e w' ⟨rfl, rfl⟩))
        go_ret2
        exact ⟨ret_ib (Tn.gap_gt h2) rfl, rfl⟩
      · go_enter Try.func34, Try.ntmps34
        go_wp2_with ((go_at_call 53; refine (ranks_any _ _ H.out H'.out _).mono ?_; rintro e w' ⟨rfl, rfl⟩))
        go_ret2
        exact ⟨ret_ib (Tn.gap_eq (by omega) (by omega)) rfl, rfl⟩

set_option maxRecDepth 100000 in
set_option maxHeartbeats 400000 in
theorem rsize_any (a : Nat) (h : a < 18446744073709551616) (w : World) :
    Calls Try.prog 56 #[.int .u64 a] w fun e w' => e = .returned (.int .u64 (Tn.mag a : Nat)) ∧ w = w' := by
  go_enter Try.func56, Try.ntmps56
  go_wp2
  go_ret
  exact ⟨ret_i (Tn.andNot_sign a h), rfl⟩

set_option maxRecDepth 100000 in
set_option maxHeartbeats 400000 in
theorem rnan_any (a : Nat) (h : a < 18446744073709551616) (w : World) :
    Calls Try.prog 27 #[.int .u64 a] w fun e w' => e = .returned (.bool (Tn.nan a)) ∧ w = w' := by
  have HA := Lib.hid (Tn.andNot_sign a h)
  clear h
  go_enter Try.func27, Try.ntmps27
  go_wp2
  go_ret
  exact ⟨ret_b (by rw [HA.out]; exact Tn.nan_int a), rfl⟩

set_option maxRecDepth 100000 in
set_option maxHeartbeats 400000 in
theorem rsame_any (a b : Nat) (h : a < 18446744073709551616) (h' : b < 18446744073709551616) (w : World) :
    Calls Try.prog 32 #[.int .u64 a, .int .u64 b] w fun e w' => e = .returned (.bool (Tn.same a b)) ∧ w = w' := by
  have H := Lib.hid h; clear h
  have H' := Lib.hid h'; clear h'
  cases he : ((a : Int) == (b : Int))
  · have ne : ¬ (a : Int) = b := beq_eq_false_iff_ne.1 he
    cases hn : Tn.nan a
    · have HF := Lib.hid (Tn.same_no ne hn)
      clear ne
      go_enter Try.func32, Try.ntmps32
      go_wp2_with ((go_at_call 27; refine (rnan_any _ (by first | exact H.out | exact H'.out) _).mono ?_; rintro e w' ⟨rfl, rfl⟩))
      go_ret
      exact ⟨ret_b HF.out, rfl⟩
    · have HF := Lib.hid (Tn.same_nan ne hn)
      clear ne
      go_enter Try.func32, Try.ntmps32
      go_wp2_with ((go_at_call 27; refine (rnan_any _ (by first | exact H.out | exact H'.out) _).mono ?_; rintro e w' ⟨rfl, rfl⟩))
      go_ret
      exact ⟨ret_b HF.out, rfl⟩
  · have HF := Lib.hid (Tn.same_eq (beq_iff_eq.1 he))
    go_enter Try.func32, Try.ntmps32
    go_wp2
    go_ret
    exact ⟨ret_b HF.out, rfl⟩

set_option maxRecDepth 100000 in
set_option maxHeartbeats 400000 in
theorem rneg_any (a : Nat) (h : a < 18446744073709551616) (w : World) :
    Calls Try.prog 26 #[.int .u64 a] w fun e w' => e = .returned (.bool (Tn.sgn a)) ∧ w = w' := by
  have H := Lib.hid h; clear h
  go_enter Try.func26, Try.ntmps26
  go_wp2
  go_ret
  exact ⟨ret_b (Tn.sgn_int a), rfl⟩

set_option maxRecDepth 100000 in
set_option maxHeartbeats 400000 in
theorem rnumber_any (a : Nat) (h : a < 18446744073709551616) (w : World) :
    Calls Try.prog 65 #[.int .u64 a] w fun e w' => e = .returned (.bool (Tn.fin a)) ∧ w = w' := by
  have HA := Lib.hid (Tn.andNot_sign a h)
  clear h
  go_enter Try.func65, Try.ntmps65
  go_wp2
  go_ret
  exact ⟨ret_b (by rw [HA.out]; exact Tn.fin_int a), rfl⟩

set_option maxRecDepth 100000 in
set_option maxHeartbeats 400000 in
theorem risinf_any (a : Nat) (h : a < 18446744073709551616) (w : World) :
    Calls Try.prog 57 #[.int .u64 a] w fun e w' => e = .returned (.bool (Tn.isinf a)) ∧ w = w' := by
  have HA := Lib.hid (Tn.andNot_sign a h)
  clear h
  go_enter Try.func57, Try.ntmps57
  go_wp2
  go_ret
  exact ⟨ret_b (by rw [HA.out]; exact Tn.isinf_int a), rfl⟩

set_option maxRecDepth 100000 in
set_option maxHeartbeats 400000 in
theorem rrank_any (a : Nat) (h : a < 18446744073709551616) (w : World) :
    Calls Try.prog 13 #[.int .u64 a] w fun e w' => e = .returned (.tuple #[.int .i64 (Tn.rank a), .bool (Tn.ok a)]) ∧ w = w' := by
  have H := Lib.hid h; clear h
  cases hn : Tn.nan a
  · have HO := Lib.hid (show Tn.ok a = true from by rw [Tn.ok_nan, hn]; rfl)
    cases hs : Tn.sgn a
    · have HR := Lib.hid (Tn.rank_pos hn (by rw [Tn.neg_ok hn, hs]))
      have HW := Lib.hid (Tn.wrap_mag a)
      have HP := Lib.hid (Tn.mag_pos hs)
      have b1 := Tn.sgn_test hs
      clear hs
      go_enter Try.func13, Try.ntmps13
      go_wp2_with ((go_at_call 27; refine (rnan_any _ H.out _).mono ?_; rintro e w' ⟨rfl, rfl⟩))
      go_ret2
      exact ⟨ret_ib (by rw [HR.out, HP.out]; exact HW.out) HO.out.symm, rfl⟩
    · have HR := Lib.hid (Tn.rank_neg hn (by rw [Tn.neg_ok hn, hs]))
      have HP := Lib.hid (Tn.sub_sign H.out hs)
      have b1 := Tn.sgn_test hs
      clear hs
      go_enter Try.func13, Try.ntmps13
      go_wp2_with ((go_at_call 27; refine (rnan_any _ H.out _).mono ?_; rintro e w' ⟨rfl, rfl⟩))
      go_ret2
      exact ⟨ret_ib (by rw [HR.out, HP.out]; exact Tn.wrap_nmag a) HO.out.symm, rfl⟩
  · have HR := Lib.hid (Tn.rank_nan hn)
    have HO := Lib.hid (show Tn.ok a = false from by rw [Tn.ok_nan, hn]; rfl)
    go_enter Try.func13, Try.ntmps13
    go_wp2_with ((go_at_call 27; refine (rnan_any _ H.out _).mono ?_; rintro e w' ⟨rfl, rfl⟩))
    go_ret2
    exact ⟨ret_ib HR.out.symm HO.out.symm, rfl⟩

set_option maxRecDepth 100000 in
set_option maxHeartbeats 400000 in
theorem rat_any (n : Int) (w : World) :
    Calls Try.prog 16 #[.int .i64 n] w fun e w' => e = .returned (.tuple #[.int .u64 (Tn.att n : Nat), .bool (Tn.atok n)]) ∧ w = w' := by
  by_cases h1 : n < -9218868437227405312
  · have HR := Lib.hid (Tn.att_low n h1)
    go_enter Try.func16, Try.ntmps16
    go_wp2
    go_ret2
    exact ⟨ret_ib (by rw [HR.out.1]; rfl) HR.out.2.symm, rfl⟩
  · by_cases h2 : 9218868437227405312 < n
    · have HR := Lib.hid (Tn.att_high n h2)
      go_enter Try.func16, Try.ntmps16
      go_wp2
      go_ret2
      exact ⟨ret_ib (by rw [HR.out.1]; rfl) HR.out.2.symm, rfl⟩
    · by_cases h3 : n < 0
      · have HR := Lib.hid (Tn.att_add n (by omega) h3)
        go_enter Try.func16, Try.ntmps16
        go_wp2
        go_ret2
        exact ⟨ret_ib (HR.out.1) HR.out.2.symm, rfl⟩
      · have HR := Lib.hid (Tn.att_posi n (by omega) (by omega))
        go_enter Try.func16, Try.ntmps16
        go_wp2
        go_ret2
        exact ⟨ret_ib (HR.out.1) HR.out.2.symm, rfl⟩

set_option maxRecDepth 100000 in
set_option maxHeartbeats 400000 in
theorem next_any (a : Nat) (d : Int) (h : a < 18446744073709551616) (hd0 : -1 ≤ d) (hd1 : d ≤ 1) (w : World) :
    Calls Try.prog 64 #[.int .u64 a, .int .i64 d] w fun e w' => e = .returned (.int .u64 (Tn.rstep a d : Nat)) ∧ w = w' := by
  have hb0 := (Tn.rank_bd a).1
  have hb1 := (Tn.rank_bd a).2
  have H := Lib.hid h; clear h
  cases hn : Tn.nan a
  · have b1 : Tn.ok a = true := by rw [Tn.ok_nan, hn]; rfl
    cases hs : Tn.atok (Tn.rank a + d)
    · have HR := Lib.hid (Tn.rstep_out hn hs)
      clear hn
      go_enter Try.func64, Try.ntmps64
      go_wp2_with (first | (go_at_call 13; refine (rrank_any _ H.out _).mono ?_; rintro e w' ⟨rfl, rfl⟩) | (go_at_call 16; refine (rat_any _ _).mono ?_; rintro e w' ⟨rfl, rfl⟩))
      go_ret
      exact ⟨ret_i (by rw [HR.out]), rfl⟩
    · have HR := Lib.hid (Tn.rstep_in hn hs)
      clear hn
      go_enter Try.func64, Try.ntmps64
      go_wp2_with (first | (go_at_call 13; refine (rrank_any _ H.out _).mono ?_; rintro e w' ⟨rfl, rfl⟩) | (go_at_call 16; refine (rat_any _ _).mono ?_; rintro e w' ⟨rfl, rfl⟩))
      go_ret
      exact ⟨ret_i (by rw [HR.out]), rfl⟩
  · have b1 : Tn.ok a = false := by rw [Tn.ok_nan, hn]; rfl
    have HR := Lib.hid (Tn.rstep_nan (d := d) hn)
    clear hn
    go_enter Try.func64, Try.ntmps64
    go_wp2_with ((go_at_call 13; refine (rrank_any _ H.out _).mono ?_; rintro e w' ⟨rfl, rfl⟩))
    go_ret
    exact ⟨ret_i (by rw [HR.out]; rfl), rfl⟩

set_option maxRecDepth 100000 in
set_option maxHeartbeats 400000 in
theorem rup_any (a : Nat) (h : a < 18446744073709551616) (w : World) :
    Calls Try.prog 37 #[.int .u64 a] w fun e w' => e = .returned (.int .u64 (Tn.rstep a 1 : Nat)) ∧ w = w' := by
  have H := Lib.hid h; clear h
  go_enter Try.func37, Try.ntmps37
  go_wp2_with ((go_at_call 64; refine (next_any _ _ H.out (by decide) (by decide) _).mono ?_; rintro e w' ⟨rfl, rfl⟩))
  go_ret
  exact ⟨rfl, rfl⟩

set_option maxRecDepth 100000 in
set_option maxHeartbeats 400000 in
theorem rdown_any (a : Nat) (h : a < 18446744073709551616) (w : World) :
    Calls Try.prog 39 #[.int .u64 a] w fun e w' => e = .returned (.int .u64 (Tn.rstep a (-1) : Nat)) ∧ w = w' := by
  have H := Lib.hid h; clear h
  go_enter Try.func39, Try.ntmps39
  go_wp2_with ((go_at_call 64; refine (next_any _ _ H.out (by decide) (by decide) _).mono ?_; rintro e w' ⟨rfl, rfl⟩))
  go_ret
  exact ⟨rfl, rfl⟩

set_option maxRecDepth 100000 in
set_option maxHeartbeats 400000 in
theorem rmid_any (a b : Nat) (h : a < 18446744073709551616) (h' : b < 18446744073709551616) (w : World) :
    Calls Try.prog 33 #[.int .u64 a, .int .u64 b] w fun e w' => e = .returned (.tuple #[.int .u64 (if (Tn.ok a && Tn.ok b) = true then (Tn.att (Tn.midr a b) : Nat) else 0), .bool (Tn.ok a && Tn.ok b)]) ∧ w = w' := by
  have ha0 := (Tn.rank_bd a).1
  have ha1 := (Tn.rank_bd a).2
  have hb0 := (Tn.rank_bd b).1
  have hb1 := (Tn.rank_bd b).2
  have H := Lib.hid h; clear h
  have H' := Lib.hid h'; clear h'
  have HM := Lib.hid (Tn.mid_halves (Tn.rank a) (Tn.rank b) (by omega) (by omega) (by omega) (by omega))
  have HK : RowKit.Hid (Tn.atok (Tn.midr a b) = true) := Tn.att_in _ (by unfold Tn.midr; omega) (by unfold Tn.midr; omega)
  cases hs : Tn.ok a
  · go_enter Try.func33, Try.ntmps33
    go_wp2_with ((go_at_call 13; refine (rrank_any _ (by first | exact H.out | exact H'.out) _).mono ?_; rintro e w' ⟨rfl, rfl⟩))
    go_ret2
    exact ⟨ret_ib rfl rfl, rfl⟩
  · cases hs2 : Tn.ok b
    · go_enter Try.func33, Try.ntmps33
      go_wp2_with ((go_at_call 13; refine (rrank_any _ (by first | exact H.out | exact H'.out) _).mono ?_; rintro e w' ⟨rfl, rfl⟩))
      go_ret2
      exact ⟨ret_ib rfl rfl, rfl⟩
    · go_enter Try.func33, Try.ntmps33
      go_wp2_with (first | (go_at_call 13; refine (rrank_any _ (by first | exact H.out | exact H'.out) _).mono ?_; rintro e w' ⟨rfl, rfl⟩) | (go_at_call 16; rw [HM.out]; refine (rat_any _ _).mono ?_; rintro e w' ⟨rfl, rfl⟩))
      go_ret2
      exact ⟨ret_ib rfl HK.out, rfl⟩

set_option maxRecDepth 100000 in
set_option maxHeartbeats 400000 in
theorem rgap_any (a b : Nat) (h : a < 18446744073709551616) (h' : b < 18446744073709551616) (w : World) :
    Calls Try.prog 35 #[.int .u64 a, .int .u64 b] w fun e w' => e = .returned (.tuple #[.int .u64 (if (Tn.ok a && Tn.ok b) = true then (Tn.gap a b : Nat) else 0), .bool (Tn.ok a && Tn.ok b)]) ∧ w = w' := by
  have ha0 := (Tn.rank_bd a).1
  have ha1 := (Tn.rank_bd a).2
  have hb0 := (Tn.rank_bd b).1
  have hb1 := (Tn.rank_bd b).2
  have H := Lib.hid h; clear h
  have H' := Lib.hid h'; clear h'
  cases hs : Tn.ok a
  · go_enter Try.func35, Try.ntmps35
    go_wp2_with ((go_at_call 13; refine (rrank_any _ (by first | exact H.out | exact H'.out) _).mono ?_; rintro e w' ⟨rfl, rfl⟩))
    go_ret2
    exact ⟨ret_ib rfl rfl, rfl⟩
  · cases hs2 : Tn.ok b
    · go_enter Try.func35, Try.ntmps35
      go_wp2_with ((go_at_call 13; refine (rrank_any _ (by first | exact H.out | exact H'.out) _).mono ?_; rintro e w' ⟨rfl, rfl⟩))
      go_ret2
      exact ⟨ret_ib rfl rfl, rfl⟩
    · by_cases h1 : Tn.rank a < Tn.rank b
      · go_enter Try.func35, Try.ntmps35
        go_wp2_with ((go_at_call 13; refine (rrank_any _ (by first | exact H.out | exact H'.out) _).mono ?_; rintro e w' ⟨rfl, rfl⟩))
        go_ret2
        exact ⟨ret_ib (Tn.gap_lt h1) rfl, rfl⟩
      · go_enter Try.func35, Try.ntmps35
        go_wp2_with ((go_at_call 13; refine (rrank_any _ (by first | exact H.out | exact H'.out) _).mono ?_; rintro e w' ⟨rfl, rfl⟩))
        go_ret2
        exact ⟨ret_ib (Tn.gap_ge (by omega)) rfl, rfl⟩

set_option maxRecDepth 100000 in
set_option maxHeartbeats 400000 in
theorem rclass_any (a : Nat) (h : a < 18446744073709551616) (w : World) :
    Calls Try.prog 29 #[.int .u64 a] w fun e w' => e = .returned (.int .i64 (Tn.cls a)) ∧ w = w' := by
  have H := Lib.hid h; clear h
  by_cases h1 : Tn.mag a = 0
  · have b1a : (((Tn.mag a : Nat) : Int) == 0) = true := beq_iff_eq.2 (by omega)
    have HR := Lib.hid (show Tn.cls a = 1 from by unfold Tn.cls; simp only [if_pos h1])
    clear h1
    go_enter Try.func29, Try.ntmps29
    go_wp2_with ((go_at_call 56; refine (rsize_any _ H.out _).mono ?_; rintro e w' ⟨rfl, rfl⟩))
    go_ret
    exact ⟨ret_i HR.out.symm, rfl⟩
  · have b1a : (((Tn.mag a : Nat) : Int) == 0) = false := beq_eq_false_iff_ne.2 (by omega)
    by_cases h2 : Tn.mag a < 4503599627370496
    · have b2a : (decide (((Tn.mag a : Nat) : Int) ≤ 4503599627370495)) = true := decide_eq_true (by omega)
      have HR := Lib.hid (show Tn.cls a = 2 from by unfold Tn.cls; simp only [if_neg h1, if_pos h2])
      clear h1 h2
      go_enter Try.func29, Try.ntmps29
      go_wp2_with ((go_at_call 56; refine (rsize_any _ H.out _).mono ?_; rintro e w' ⟨rfl, rfl⟩))
      go_ret
      exact ⟨ret_i HR.out.symm, rfl⟩
    · have b2a : (decide (((Tn.mag a : Nat) : Int) ≤ 4503599627370495)) = false := decide_eq_false (by omega)
      by_cases h3 : Tn.mag a < 9218868437227405312
      · have b3a : (decide (((Tn.mag a : Nat) : Int) < 9218868437227405312)) = true := decide_eq_true (by omega)
        have HR := Lib.hid (show Tn.cls a = 3 from by unfold Tn.cls; simp only [if_neg h1, if_neg h2, if_pos h3])
        clear h1 h2 h3
        go_enter Try.func29, Try.ntmps29
        go_wp2_with ((go_at_call 56; refine (rsize_any _ H.out _).mono ?_; rintro e w' ⟨rfl, rfl⟩))
        go_ret
        exact ⟨ret_i HR.out.symm, rfl⟩
      · have b3a : (decide (((Tn.mag a : Nat) : Int) < 9218868437227405312)) = false := decide_eq_false (by omega)
        by_cases h4 : Tn.mag a = 9218868437227405312
        · have b4a : (((Tn.mag a : Nat) : Int) == 9218868437227405312) = true := beq_iff_eq.2 (by omega)
          have HR := Lib.hid (show Tn.cls a = 4 from by unfold Tn.cls; simp only [if_neg h1, if_neg h2, if_neg h3, if_pos h4])
          clear h1 h2 h3 h4
          go_enter Try.func29, Try.ntmps29
          go_wp2_with ((go_at_call 56; refine (rsize_any _ H.out _).mono ?_; rintro e w' ⟨rfl, rfl⟩))
          go_ret
          exact ⟨ret_i HR.out.symm, rfl⟩
        · have b4a : (((Tn.mag a : Nat) : Int) == 9218868437227405312) = false := beq_eq_false_iff_ne.2 (by omega)
          have HR := Lib.hid (show Tn.cls a = 5 from by unfold Tn.cls; simp only [if_neg h1, if_neg h2, if_neg h3, if_neg h4])
          clear h1 h2 h3 h4
          go_enter Try.func29, Try.ntmps29
          go_wp2_with ((go_at_call 56; refine (rsize_any _ H.out _).mono ?_; rintro e w' ⟨rfl, rfl⟩))
          go_ret
          exact ⟨ret_i HR.out.symm, rfl⟩

set_option maxRecDepth 100000 in
set_option maxHeartbeats 400000 in
theorem isame_any (a b : Nat) (h : a < 18446744073709551616) (h' : b < 18446744073709551616) (w : World) :
    Calls Try.prog 31 #[.float .f64 a, .float .f64 b] w fun e w' => e = .returned (.bool (Tn.same a b)) ∧ w = w' := by
  have H := Lib.hid h; clear h
  have H' := Lib.hid h'; clear h'
  cases hn : Tn.nan a
  · have b1 := Tn.cls_eq5 hn
    have HF := Lib.hid (Tn.same_ok (b := b) hn)
    clear hn
    go_enter Try.func31, Try.ntmps31
    go_wp2_with (first | (go_at_call 28; refine (class_any _ (by first | exact H.out | exact H'.out) _).mono ?_; rintro e w' ⟨rfl, rfl⟩) | (go_at_call 14; refine (bits_any _ _).mono ?_; rintro e w' ⟨rfl, rfl⟩))
    go_ret
    exact ⟨ret_b (by rw [HF.out]; exact Tn.beq_int a b), rfl⟩
  · have b1 := Tn.cls_eq5 hn
    have HF := Lib.hid (Tn.same_comm_nan (b := b) hn)
    have HC := Lib.hid (Tn.cls_eq5 (b := b) rfl)
    clear hn
    go_enter Try.func31, Try.ntmps31
    go_wp2_with ((go_at_call 28; refine (class_any _ (by first | exact H.out | exact H'.out) _).mono ?_; rintro e w' ⟨rfl, rfl⟩))
    go_ret
    exact ⟨ret_b (by rw [HF.out]; exact HC.out), rfl⟩

set_option maxRecDepth 100000 in
set_option maxHeartbeats 400000 in
theorem is_any (a b : Nat) (h : a < 18446744073709551616) (h' : b < 18446744073709551616) (w : World) :
    Calls Try.prog 17 #[.float .f64 a, .int .u64 b] w fun e w' => e = .returned (.bool (Tn.same a b)) ∧ w = w' := by
  have H := Lib.hid h; clear h
  have H' := Lib.hid h'; clear h'
  go_enter Try.func17, Try.ntmps17
  go_wp2_with (first | (go_at_call 14; refine (bits_any _ _).mono ?_; rintro e w' ⟨rfl, rfl⟩) | (go_at_call 32; refine (rsame_any _ _ (by first | exact H.out | exact H'.out) (by first | exact H.out | exact H'.out) _).mono ?_; rintro e w' ⟨rfl, rfl⟩))
  go_ret
  exact ⟨rfl, rfl⟩

end Go.Proofs.Ytfmbhfnigneenaa
