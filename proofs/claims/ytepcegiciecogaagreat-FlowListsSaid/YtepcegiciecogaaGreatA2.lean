/- Contracts of math.Ldexp and what it calls. -/
import Derived.Test.YtepcegiciecogaaGreatRows
import Derived.Test.YtepcegiciecogaaGreatA1
import Derived.Test.YtepcegiciecogaaGreatPl
import Derived.Test.YtepcegiciecogaaGreatShelf
import Derived.WalkKit
import Derived.Lib.Hide
import Derived.WalkSpells
import Derived.WalkLawsBesides
import Derived.Deep.QuietTactic
import Derived.BigQuiet
namespace Go.Proofs.YtepcegiciecogaaGreat
open Go.RowKit

set_option maxRecDepth 100000 in
set_option maxHeartbeats 400000 in
theorem abs_any (a : Nat) (h : a < 18446744073709551616) (w : World) :
    Calls Tryz.prog 165 #[.float .f64 a] w fun e w' => e = .returned (.float .f64 (Tn.mag a)) ∧ w = w' := by
  have HA := Lib.hid (Tn.andNot_sign a h)
  have H := Lib.hid h; clear h
  go_enter Tryz.func165, Tryz.ntmps165
  go_wp2
  go_ret
  exact ⟨ret_f (by rw [HA.out]; rfl), rfl⟩

set_option maxRecDepth 100000 in
set_option maxHeartbeats 400000 in
theorem isnan_any (a : Nat) (h : a < 18446744073709551616) (w : World) :
    Calls Tryz.prog 161 #[.float .f64 a] w fun e w' => e = .returned (.bool (Tn.nan a)) ∧ w = w' := by
  have HR := Lib.hid (Tn.ord_self h)
  have H := Lib.hid h; clear h
  go_enter Tryz.func161, Tryz.ntmps161
  go_wp2
  go_ret
  exact ⟨ret_b HR.out, rfl⟩

set_option maxRecDepth 100000 in
set_option maxHeartbeats 400000 in
theorem isinf_any (a : Nat) (h : a < 18446744073709551616) (w : World) :
    Calls Tryz.prog 160 #[.float .f64 a, .int .i64 0] w fun e w' => e = .returned (.bool (Tn.isinf a)) ∧ w = w' := by
  have HR := Lib.hid (Tn.ord_inf a)
  have H := Lib.hid h; clear h
  go_enter Tryz.func160, Tryz.ntmps160
  go_wp2_with ((go_at_call 165; refine (abs_any _ H.out _).mono ?_; rintro e w' ⟨rfl, rfl⟩))
  go_ret
  exact ⟨ret_b HR.out, rfl⟩

set_option maxRecDepth 100000 in
set_option maxHeartbeats 400000 in
theorem norm_any (a : Nat) (h : a < 18446744073709551616) (hn : Tn.nan a = false) (hm : 4503599627370496 ≤ Tn.mag a) (w : World) :
    Calls Tryz.prog 162 #[.float .f64 a] w fun e w' => e = .returned (.tuple #[.float .f64 a, .int .i64 0]) ∧ w = w' := by
  have b1 := Tn.ord_least a hn hm
  have H := Lib.hid h; clear h
  clear hn hm
  go_enter Tryz.func162, Tryz.ntmps162
  go_wp2_with ((go_at_call 165; refine (abs_any _ H.out _).mono ?_; rintro e w' ⟨rfl, rfl⟩))
  go_ret2
  exact ⟨rfl, rfl⟩

set_option maxRecDepth 100000 in
set_option maxHeartbeats 400000 in
theorem inf1_any  (w : World) :
    Calls Tryz.prog 92 #[.int .i64 1] w fun e w' => e = .returned (.float .f64 9218868437227405312) ∧ w = w' := by
  go_enter Tryz.func92, Tryz.ntmps92
  go_wp2
  go_ret
  exact ⟨rfl, rfl⟩

set_option maxRecDepth 100000 in
set_option maxHeartbeats 400000 in
theorem ldexp_any (h : Nat) (n : Int) (h1 : 1 ≤ h) (h2 : h ≤ 9007199254740992) (hn0 : -1074 ≤ n) (hn1 : n ≤ 1000000) (w : World) :
    Calls Tryz.prog 154 #[.float .f64 (Tn.nr h 0), .int .i64 n] w fun e w' => e = .returned (.float .f64 (Tn.nr h n)) ∧ w = w' := by
  obtain ⟨M, m1, m2, hr, hl, hs⟩ := Tn.nr_norm h1 h2
  have hsn := hs n
  clear hs
  generalize hL : h.log2 = L at *
  have hrb : Tn.nr h 0 < 9218868437227405312 := by omega
  have hrz := Tn.ord_zero (r := Tn.nr h 0) (by omega) (by omega)
  generalize Tn.nr h 0 = r at *
  have hmg : Tn.mag r = r := Nat.mod_eq_of_lt (by omega)
  have hnn : Tn.nan r = false := by unfold Tn.nan; exact decide_eq_false (by omega)
  have hni : Tn.isinf r = false := by unfold Tn.isinf; exact decide_eq_false (by omega)
  have H : RowKit.Hid (r < 18446744073709551616) := by show r < _; omega
  have HM : RowKit.Hid (4503599627370496 ≤ Tn.mag r) := by show _ ≤ Tn.mag r; omega
  have HN : RowKit.Hid (Tn.nan r = false) := hnn
  have HZ := hrz.1
  have HZ2 := hrz.2
  have e1 : ((r : Int) / 4503599627370496) = L + 1023 := by omega
  have e2 : bits .and .i64 ((L : Int) + 1023) 2047 = L + 1023 := Tn.i64_and_2047 (by omega) (by omega)
  have e3 : ((r % 4503599627370496 : Nat) : Int) = ((M - 4503599627370496 : Nat) : Int) := by omega
  have e4 : bits .andNot .u64 (r : Int) 9218868437227405312 = ((M - 4503599627370496 : Nat) : Int) := by rw [Tn.andNot_exp r hrb, e3]
  clear hrz e3
  by_cases c1 : 1023 < n + L
  · have HR := Lib.hid (Tn.ldx_high m1 m2 (by rw [hL]; exact hsn) (by rw [hL]; exact c1))
    clear hsn hr hmg hrb m1 m2 hL
    go_enter Tryz.func154, Tryz.ntmps154
    go_wp2_with (first | (go_at_call 160; refine (isinf_any _ H.out _).mono ?_; rintro e w' ⟨rfl, rfl⟩) | (go_at_call 161; refine (isnan_any _ H.out _).mono ?_; rintro e w' ⟨rfl, rfl⟩) | (go_at_call 162; refine (norm_any _ H.out HN.out HM.out _).mono ?_; rintro e w' ⟨rfl, rfl⟩) | (go_at_call 92; refine (inf1_any _).mono ?_; rintro e w' ⟨rfl, rfl⟩))
    go_ret
    exact ⟨ret_f HR.out.symm, rfl⟩
  · by_cases c2 : n + L < -1022
    · have HR := Lib.hid (Tn.ldx_low m1 m2 (by rw [hL]; exact hsn) (by rw [hL]; omega) (by rw [hL]; exact c2))
      rw [hL] at HR
      have HO := Lib.hid (Tn.or_exp (M := M - 4503599627370496) (k := (n + L + 53 + 1023).toNat) (by omega) (by omega))
      have e5 : ((n + L + 53 + 1023).toNat : Int) = n + L + 53 + 1023 := by omega
      rw [show (((n + L + 53 + 1023).toNat * 4503599627370496 : Nat) : Int) = (n + L + 53 + 1023) * 4503599627370496 by omega] at HO
      have hor := HO.out
      have hmul := fun w => run_float_arith (P := Tryz.prog) w .mul 33 .f64 _ _ _ HR.out
      clear HO HR e5
      generalize M - 4503599627370496 + (n + L + 53 + 1023).toNat * 4503599627370496 = x at *
      clear hsn hr hmg hrb m1 m2 hL
      go_enter Tryz.func154, Tryz.ntmps154
      go_wp2_with (first | (go_at_call 160; refine (isinf_any _ H.out _).mono ?_; rintro e w' ⟨rfl, rfl⟩) | (go_at_call 161; refine (isnan_any _ H.out _).mono ?_; rintro e w' ⟨rfl, rfl⟩) | (go_at_call 162; refine (norm_any _ H.out HN.out HM.out _).mono ?_; rintro e w' ⟨rfl, rfl⟩) | (go_at_call 92; refine (inf1_any _).mono ?_; rintro e w' ⟨rfl, rfl⟩))
      go_ret
      exact ⟨rfl, rfl⟩
    · have HR := Lib.hid (Tn.ldx_mid m1 m2 (by rw [hL]; exact hsn) (by rw [hL]; omega) (by rw [hL]; omega))
      rw [hL] at HR
      have HO := Lib.hid (Tn.or_exp (M := M - 4503599627370496) (k := (n + L + 1023).toNat) (by omega) (by omega))
      rw [show (((n + L + 1023).toNat * 4503599627370496 : Nat) : Int) = (n + L + 1023) * 4503599627370496 by omega] at HO
      have hor := HO.out
      have hmul := fun w => run_float_arith (P := Tryz.prog) w .mul 33 .f64 _ _ _ HR.out
      clear HO HR
      generalize M - 4503599627370496 + (n + L + 1023).toNat * 4503599627370496 = x at *
      clear hsn hr hmg hrb m1 m2 hL
      go_enter Tryz.func154, Tryz.ntmps154
      go_wp2_with (first | (go_at_call 160; refine (isinf_any _ H.out _).mono ?_; rintro e w' ⟨rfl, rfl⟩) | (go_at_call 161; refine (isnan_any _ H.out _).mono ?_; rintro e w' ⟨rfl, rfl⟩) | (go_at_call 162; refine (norm_any _ H.out HN.out HM.out _).mono ?_; rintro e w' ⟨rfl, rfl⟩) | (go_at_call 92; refine (inf1_any _).mono ?_; rintro e w' ⟨rfl, rfl⟩))
      go_ret
      exact ⟨rfl, rfl⟩

set_option maxRecDepth 100000 in
set_option maxHeartbeats 400000 in
theorem Ldexp_any (h : Nat) (n : Int) (h1 : 1 ≤ h) (h2 : h ≤ 9007199254740992) (hn0 : -1074 ≤ n) (hn1 : n ≤ 1000000) (w : World) :
    Calls Tryz.prog 131 #[.float .f64 (Tn.nr h 0), .int .i64 n] w fun e w' => e = .returned (.float .f64 (Tn.nr h n)) ∧ w = w' := by
  go_enter Tryz.func131, Tryz.ntmps131
  go_wp2_with (go_at_call 154; refine (ldexp_any _ _ h1 h2 hn0 hn1 _).mono ?_; rintro e w' ⟨rfl, rfl⟩)
  go_ret
  exact ⟨rfl, rfl⟩

set_option maxRecDepth 100000 in
set_option maxHeartbeats 400000 in
theorem len64_any (u : Nat) (hu : u < 18446744073709551616) (w : World) :
    Calls Tryz.prog 112 #[.int .u64 u] w fun e w' => e = .returned (.int .i64 (Tn.bl u : Nat)) ∧ w = w' := by
  refine (Tryz.bits_Len64 (u : Int) w (by omega) (by omega)).mono ?_
  rintro e w' ⟨rfl, rfl⟩
  exact ⟨ret_i (by rw [Int.toNat_natCast, Tn.lib_bitLen hu]), rfl⟩

set_option maxRecDepth 100000 in
set_option maxHeartbeats 400000 in
theorem ldexp_zero (n : Int) (w : World) :
    Calls Tryz.prog 154 #[.float .f64 0, .int .i64 n] w fun e w' => e = .returned (.float .f64 0) ∧ w = w' := by
  have b1 : (FloatKind.f64.format.order 0 0 == some .eq) = true := by decide +kernel
  go_enter Tryz.func154, Tryz.ntmps154
  go_wp2
  go_ret
  exact ⟨rfl, rfl⟩

set_option maxRecDepth 100000 in
set_option maxHeartbeats 400000 in
theorem Ldexp_all (h : Nat) (n : Int) (h2 : h ≤ 9007199254740992) (hn0 : -1074 ≤ n) (hn1 : n ≤ 1000000) (w : World) :
    Calls Tryz.prog 131 #[.float .f64 (Tn.nr h 0), .int .i64 n] w fun e w' => e = .returned (.float .f64 (Tn.nr h n)) ∧ w = w' := by
  by_cases h0 : h = 0
  · subst h0
    rw [Tn.nr_zero, Tn.nr_zero]
    go_enter Tryz.func131, Tryz.ntmps131
    go_wp2_with (go_at_call 154; refine (ldexp_zero _ _).mono ?_; rintro e w' ⟨rfl, rfl⟩)
    go_ret
    exact ⟨rfl, rfl⟩
  · exact Ldexp_any h n (by omega) h2 hn0 hn1 w

end Go.Proofs.YtepcegiciecogaaGreat
