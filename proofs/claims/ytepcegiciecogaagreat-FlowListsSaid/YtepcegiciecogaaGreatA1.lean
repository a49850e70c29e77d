/- Contracts of the functions on the bits of floats (packages ieee, api and the reference's scalars). -/
import Derived.Test.YtepcegiciecogaaGreatRows
import Derived.Test.YtepcegiciecogaaGreatPl
import Derived.WalkKit
import Derived.Lib.Hide
import Derived.WalkSpells
import Derived.WalkLawsBesides
import Derived.Deep.QuietTactic
import Derived.BigQuiet
namespace Go.Proofs.YtepcegiciecogaaGreat
open Go.RowKit

theorem ret_i {k : IntKind} {a b : Int} (h : a = b) : Ending.returned (.int k a) = Ending.returned (.int k b) := by rw [h]
theorem ret_b {a b : Bool} (h : a = b) : Ending.returned (.bool a) = Ending.returned (.bool b) := by rw [h]
theorem ret_f {k : FloatKind} {a b : Nat} (h : a = b) : Ending.returned (.float k a) = Ending.returned (.float k b) := by rw [h]
theorem ret_iib {k : IntKind} {a b a' b' : Int} {c d : Bool} (h : a = b) (h'' : a' = b') (h' : c = d) : Ending.returned (.tuple #[.int k a, .int k a', .bool c]) = Ending.returned (.tuple #[.int k b, .int k b', .bool d]) := by rw [h, h', h'']

@[go_sem] theorem run_f64bits (b : Nat) (w : World) : (callFunc 45 #[.float .f64 b]).run Tryz.prog w = .ok (.value (.int .u64 b)) w := by
  rw [run_callFunc_extern (e := Extern.MathFloatBits.float64bits) Tryz.func45 (by kernel_rfl) (by kernel_rfl) (by kernel_rfl) (by kernel_rfl)]
  rfl

@[go_sem] theorem run_f64from (b : Int) (w : World) : (callFunc 129 #[.int .u64 b]).run Tryz.prog w = .ok (.value (.float .f64 b.toNat)) w := by
  rw [run_callFunc_extern (e := Extern.MathFloatBits.float64frombits) Tryz.func129 (by kernel_rfl) (by kernel_rfl) (by kernel_rfl) (by kernel_rfl)]
  rfl

set_option maxRecDepth 100000 in
set_option maxHeartbeats 400000 in
theorem bits_any (a : Nat) (w : World) :
    Calls Tryz.prog 15 #[.float .f64 a] w fun e w' => e = .returned (.int .u64 a) ∧ w = w' := by
  go_enter Tryz.func15, Tryz.ntmps15
  go_wp2
  go_ret
  exact ⟨rfl, rfl⟩

set_option maxRecDepth 100000 in
set_option maxHeartbeats 400000 in
theorem size_any (a : Nat) (h : a < 18446744073709551616) (w : World) :
    Calls Tryz.prog 99 #[.float .f64 a] w fun e w' => e = .returned (.int .u64 (Tn.mag a : Nat)) ∧ w = w' := by
  go_enter Tryz.func99, Tryz.ntmps99
  go_wp2_with ((go_at_call 15; refine (bits_any _ _).mono ?_; rintro e w' ⟨rfl, rfl⟩))
  go_ret
  exact ⟨ret_i (Tn.andNot_sign a h), rfl⟩

set_option maxRecDepth 100000 in
set_option maxHeartbeats 400000 in
theorem class_any (a : Nat) (h : a < 18446744073709551616) (w : World) :
    Calls Tryz.prog 66 #[.float .f64 a] w fun e w' => e = .returned (.int .i64 (Tn.cls a)) ∧ w = w' := by
  have H := Lib.hid h; clear h
  by_cases h1 : Tn.mag a = 0
  · have b1a : (((Tn.mag a : Nat) : Int) == 0) = true := beq_iff_eq.2 (by omega)
    have HR := Lib.hid (show Tn.cls a = 1 from by unfold Tn.cls; simp only [if_pos h1])
    clear h1
    go_enter Tryz.func66, Tryz.ntmps66
    go_wp2_with ((go_at_call 99; refine (size_any _ H.out _).mono ?_; rintro e w' ⟨rfl, rfl⟩))
    go_ret
    exact ⟨ret_i HR.out.symm, rfl⟩
  · have b1a : (((Tn.mag a : Nat) : Int) == 0) = false := beq_eq_false_iff_ne.2 (by omega)
    by_cases h2 : Tn.mag a < 4503599627370496
    · have b2a : (decide (((Tn.mag a : Nat) : Int) < 4503599627370496)) = true := decide_eq_true (by omega)
      have HR := Lib.hid (show Tn.cls a = 2 from by unfold Tn.cls; simp only [if_neg h1, if_pos h2])
      clear h1 h2
      go_enter Tryz.func66, Tryz.ntmps66
      go_wp2_with ((go_at_call 99; refine (size_any _ H.out _).mono ?_; rintro e w' ⟨rfl, rfl⟩))
      go_ret
      exact ⟨ret_i HR.out.symm, rfl⟩
    · have b2a : (decide (((Tn.mag a : Nat) : Int) < 4503599627370496)) = false := decide_eq_false (by omega)
      by_cases h3 : Tn.mag a < 9218868437227405312
      · have b3a : (decide (((Tn.mag a : Nat) : Int) < 9218868437227405312)) = true := decide_eq_true (by omega)
        have HR := Lib.hid (show Tn.cls a = 3 from by unfold Tn.cls; simp only [if_neg h1, if_neg h2, if_pos h3])
        clear h1 h2 h3
        go_enter Tryz.func66, Tryz.ntmps66
        go_wp2_with ((go_at_call 99; refine (size_any _ H.out _).mono ?_; rintro e w' ⟨rfl, rfl⟩))
        go_ret
        exact ⟨ret_i HR.out.symm, rfl⟩
      · have b3a : (decide (((Tn.mag a : Nat) : Int) < 9218868437227405312)) = false := decide_eq_false (by omega)
        by_cases h4 : Tn.mag a = 9218868437227405312
        · have b4a : (((Tn.mag a : Nat) : Int) == 9218868437227405312) = true := beq_iff_eq.2 (by omega)
          have HR := Lib.hid (show Tn.cls a = 4 from by unfold Tn.cls; simp only [if_neg h1, if_neg h2, if_neg h3, if_pos h4])
          clear h1 h2 h3 h4
          go_enter Tryz.func66, Tryz.ntmps66
          go_wp2_with ((go_at_call 99; refine (size_any _ H.out _).mono ?_; rintro e w' ⟨rfl, rfl⟩))
          go_ret
          exact ⟨ret_i HR.out.symm, rfl⟩
        · have b4a : (((Tn.mag a : Nat) : Int) == 9218868437227405312) = false := beq_eq_false_iff_ne.2 (by omega)
          have HR := Lib.hid (show Tn.cls a = 5 from by unfold Tn.cls; simp only [if_neg h1, if_neg h2, if_neg h3, if_neg h4])
          clear h1 h2 h3 h4
          go_enter Tryz.func66, Tryz.ntmps66
          go_wp2_with ((go_at_call 99; refine (size_any _ H.out _).mono ?_; rintro e w' ⟨rfl, rfl⟩))
          go_ret
          exact ⟨ret_i HR.out.symm, rfl⟩

set_option maxRecDepth 100000 in
set_option maxHeartbeats 400000 in
theorem negative_any (a : Nat) (h : a < 18446744073709551616) (w : World) :
    Calls Tryz.prog 100 #[.float .f64 a] w fun e w' => e = .returned (.bool (Tn.neg a)) ∧ w = w' := by
  have H := Lib.hid h; clear h
  cases hn : Tn.nan a
  · have b1 := Tn.cls_ne5 hn
    have HR := Lib.hid (show Tn.neg a = (((a : Int) / 9223372036854775808) == 1) from by rw [Tn.neg_ok hn]; exact Tn.sgn_div a H.out)
    clear hn
    go_enter Tryz.func100, Tryz.ntmps100
    go_wp2_with (first | (go_at_call 66; refine (class_any _ H.out _).mono ?_; rintro e w' ⟨rfl, rfl⟩) | (go_at_call 15; refine (bits_any _ _).mono ?_; rintro e w' ⟨rfl, rfl⟩))
    go_ret
    exact ⟨ret_b HR.out.symm, rfl⟩
  · have b1 := Tn.cls_ne5 hn
    have HR := Lib.hid (Tn.neg_nan hn)
    clear hn
    go_enter Tryz.func100, Tryz.ntmps100
    go_wp2_with ((go_at_call 66; refine (class_any _ H.out _).mono ?_; rintro e w' ⟨rfl, rfl⟩))
    go_ret
    exact ⟨ret_b HR.out.symm, rfl⟩

end Go.Proofs.YtepcegiciecogaaGreat
