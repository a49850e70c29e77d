/- Texts packed into one: A1 A2 A3. No condition. -/
import Derived.Test.YtmdoljecjliehaaGreatRows
import Derived.Test.YtmdoljecjliehaaGreatPl
import Derived.Lib.Hide
import Derived.WalkSpells
import Derived.WalkLawsBesides
import Derived.Deep.QuietTactic
import Derived.BigQuiet
import Derived.Test.YtmdoljecjliehaaGreatShelf
section
/- Contracts of the functions on the bits of floats (packages ieee, api and the reference's scalars). -/
namespace Go.Proofs.YtmdoljecjliehaaGreat
open Go.RowKit

theorem ret_i {k : IntKind} {a b : Int} (h : a = b) : Ending.returned (.int k a) = Ending.returned (.int k b) := by rw [h]
theorem ret_b {a b : Bool} (h : a = b) : Ending.returned (.bool a) = Ending.returned (.bool b) := by rw [h]
theorem ret_f {k : FloatKind} {a b : Nat} (h : a = b) : Ending.returned (.float k a) = Ending.returned (.float k b) := by rw [h]
theorem ret_iib {k : IntKind} {a b a' b' : Int} {c d : Bool} (h : a = b) (h'' : a' = b') (h' : c = d) : Ending.returned (.tuple #[.int k a, .int k a', .bool c]) = Ending.returned (.tuple #[.int k b, .int k b', .bool d]) := by rw [h, h', h'']

@[go_sem] theorem run_f64bits (b : Nat) (w : World) : (callFunc 70 #[.float .f64 b]).run Tryz.prog w = .ok (.value (.int .u64 b)) w := by
 (rw [run_callFunc_extern (e := Extern.MathFloatBits.float64bits) Tryz.func70 (by kernel_rfl) (by kernel_rfl) (by kernel_rfl) (by kernel_rfl)]);(rfl)

@[go_sem] theorem run_f64from (b : Int) (w : World) : (callFunc 223 #[.int .u64 b]).run Tryz.prog w = .ok (.value (.float .f64 b.toNat)) w := by
 (rw [run_callFunc_extern (e := Extern.MathFloatBits.float64frombits) Tryz.func223 (by kernel_rfl) (by kernel_rfl) (by kernel_rfl) (by kernel_rfl)]);(rfl)

set_option maxRecDepth 100000 in
set_option maxHeartbeats 400000 in
theorem bits_any (a : Nat) (w : World) :
  Calls Tryz.prog 18 #[.float .f64 a] w fun e w' => e = .returned (.int .u64 a) ∧ w = w' := by
 (go_enter Tryz.func18, Tryz.ntmps18);(go_wp2);(go_ret);(exact ⟨rfl, rfl⟩)

set_option maxRecDepth 100000 in
set_option maxHeartbeats 400000 in
theorem float_any (a : Int) (w : World) :
  Calls Tryz.prog 278 #[.int .u64 a] w fun e w' => e = .returned (.float .f64 a.toNat) ∧ w = w' := by
 (go_enter Tryz.func278, Tryz.ntmps278);(go_wp2);(go_ret);(exact ⟨rfl, rfl⟩)

set_option maxRecDepth 100000 in
set_option maxHeartbeats 400000 in
theorem size_any (a : Nat) (h : a < 18446744073709551616) (w : World) :
  Calls Tryz.prog 140 #[.float .f64 a] w fun e w' => e = .returned (.int .u64 (Tn.mag a : Nat)) ∧ w = w' := by
 go_enter Tryz.func140, Tryz.ntmps140
 go_wp2_with ((go_at_call 18; refine (bits_any _ _).mono ?_; rintro e w' ⟨rfl, rfl⟩))
 (go_ret);(exact ⟨ret_i (Tn.andNot_sign a h), rfl⟩)

set_option maxRecDepth 100000 in
set_option maxHeartbeats 400000 in
theorem class_any (a : Nat) (h : a < 18446744073709551616) (w : World) :
  Calls Tryz.prog 78 #[.float .f64 a] w fun e w' => e = .returned (.int .i64 (Tn.cls a)) ∧ w = w' := by
 have H := Lib.hid h; clear h
 by_cases h1 : Tn.mag a = 0
 ·have b1a : (((Tn.mag a : Nat) : Int) == 0) = true := beq_iff_eq.2 (by omega)
  (have HR := Lib.hid (show Tn.cls a = 1 from by unfold Tn.cls; simp only [if_pos h1]));(clear h1);(go_enter Tryz.func78, Tryz.ntmps78)
  go_wp2_with ((go_at_call 140; refine (size_any _ H.out _).mono ?_; rintro e w' ⟨rfl, rfl⟩))
  (go_ret);(exact ⟨ret_i HR.out.symm, rfl⟩)
 ·have b1a : (((Tn.mag a : Nat) : Int) == 0) = false := beq_eq_false_iff_ne.2 (by omega)
  by_cases h2 : Tn.mag a < 4503599627370496
  ·have b2a : (decide (((Tn.mag a : Nat) : Int) < 4503599627370496)) = true := decide_eq_true (by omega)
   (have HR := Lib.hid (show Tn.cls a = 2 from by unfold Tn.cls; simp only [if_neg h1, if_pos h2]));(clear h1 h2);(go_enter Tryz.func78, Tryz.ntmps78)
   go_wp2_with ((go_at_call 140; refine (size_any _ H.out _).mono ?_; rintro e w' ⟨rfl, rfl⟩))
   (go_ret);(exact ⟨ret_i HR.out.symm, rfl⟩)
  ·have b2a : (decide (((Tn.mag a : Nat) : Int) < 4503599627370496)) = false := decide_eq_false (by omega)
   by_cases h3 : Tn.mag a < 9218868437227405312
   ·have b3a : (decide (((Tn.mag a : Nat) : Int) < 9218868437227405312)) = true := decide_eq_true (by omega)
    (have HR := Lib.hid (show Tn.cls a = 3 from by unfold Tn.cls; simp only [if_neg h1, if_neg h2, if_pos h3]));(clear h1 h2 h3);(go_enter Tryz.func78, Tryz.ntmps78)
    go_wp2_with ((go_at_call 140; refine (size_any _ H.out _).mono ?_; rintro e w' ⟨rfl, rfl⟩))
    (go_ret);(exact ⟨ret_i HR.out.symm, rfl⟩)
   ·have b3a : (decide (((Tn.mag a : Nat) : Int) < 9218868437227405312)) = false := decide_eq_false (by omega)
    by_cases h4 : Tn.mag a = 9218868437227405312
    ·have b4a : (((Tn.mag a : Nat) : Int) == 9218868437227405312) = true := beq_iff_eq.2 (by omega)
     (have HR := Lib.hid (show Tn.cls a = 4 from by unfold Tn.cls; simp only [if_neg h1, if_neg h2, if_neg h3, if_pos h4]));(clear h1 h2 h3 h4);(go_enter Tryz.func78, Tryz.ntmps78)
     go_wp2_with ((go_at_call 140; refine (size_any _ H.out _).mono ?_; rintro e w' ⟨rfl, rfl⟩))
     (go_ret);(exact ⟨ret_i HR.out.symm, rfl⟩)
    ·have b4a : (((Tn.mag a : Nat) : Int) == 9218868437227405312) = false := beq_eq_false_iff_ne.2 (by omega)
     (have HR := Lib.hid (show Tn.cls a = 5 from by unfold Tn.cls; simp only [if_neg h1, if_neg h2, if_neg h3, if_neg h4]));(clear h1 h2 h3 h4);(go_enter Tryz.func78, Tryz.ntmps78)
     go_wp2_with ((go_at_call 140; refine (size_any _ H.out _).mono ?_; rintro e w' ⟨rfl, rfl⟩))
     (go_ret);(exact ⟨ret_i HR.out.symm, rfl⟩)

set_option maxRecDepth 100000 in
set_option maxHeartbeats 400000 in
theorem negative_any (a : Nat) (h : a < 18446744073709551616) (w : World) :
  Calls Tryz.prog 213 #[.float .f64 a] w fun e w' => e = .returned (.bool (Tn.neg a)) ∧ w = w' := by
 have H := Lib.hid h; clear h
 cases hn : Tn.nan a
 ·have b1 := Tn.cls_ne5 hn
  (have HR := Lib.hid (show Tn.neg a = (((a : Int) / 9223372036854775808) == 1) from by rw [Tn.neg_ok hn]; exact Tn.sgn_div a H.out));(clear hn);(go_enter Tryz.func213, Tryz.ntmps213)
  go_wp2_with (first | (go_at_call 78; refine (class_any _ H.out _).mono ?_; rintro e w' ⟨rfl, rfl⟩) | (go_at_call 18; refine (bits_any _ _).mono ?_; rintro e w' ⟨rfl, rfl⟩))
  (go_ret);(exact ⟨ret_b HR.out.symm, rfl⟩)
 ·have b1 := Tn.cls_ne5 hn
  (have HR := Lib.hid (Tn.neg_nan hn));(clear hn);(go_enter Tryz.func213, Tryz.ntmps213)
  go_wp2_with ((go_at_call 78; refine (class_any _ H.out _).mono ?_; rintro e w' ⟨rfl, rfl⟩))
  (go_ret);(exact ⟨ret_b HR.out.symm, rfl⟩)

end Go.Proofs.YtmdoljecjliehaaGreat
end

section
/- Contracts of math.Ldexp and what it calls. -/
namespace Go.Proofs.YtmdoljecjliehaaGreat
open Go.RowKit

set_option maxRecDepth 100000 in
set_option maxHeartbeats 400000 in
theorem abs_any (a : Nat) (h : a < 18446744073709551616) (w : World) :
  Calls Tryz.prog 276 #[.float .f64 a] w fun e w' => e = .returned (.float .f64 (Tn.mag a)) ∧ w = w' := by
 (have HA := Lib.hid (Tn.andNot_sign a h));(have H := Lib.hid h; clear h);(go_enter Tryz.func276, Tryz.ntmps276);(go_wp2);(go_ret);(exact ⟨ret_f (by rw [HA.out]; rfl), rfl⟩)

set_option maxRecDepth 100000 in
set_option maxHeartbeats 400000 in
theorem isnan_any (a : Nat) (h : a < 18446744073709551616) (w : World) :
  Calls Tryz.prog 295 #[.float .f64 a] w fun e w' => e = .returned (.bool (Tn.nan a)) ∧ w = w' := by
 (have HR := Lib.hid (Tn.ord_self h));(have H := Lib.hid h; clear h);(go_enter Tryz.func295, Tryz.ntmps295);(go_wp2);(go_ret);(exact ⟨ret_b HR.out, rfl⟩)

set_option maxRecDepth 100000 in
set_option maxHeartbeats 400000 in
theorem isinf_any (a : Nat) (h : a < 18446744073709551616) (w : World) :
  Calls Tryz.prog 243 #[.float .f64 a, .int .i64 0] w fun e w' => e = .returned (.bool (Tn.isinf a)) ∧ w = w' := by
 (have HR := Lib.hid (Tn.ord_inf a));(have H := Lib.hid h; clear h);(go_enter Tryz.func243, Tryz.ntmps243)
 go_wp2_with ((go_at_call 276; refine (abs_any _ H.out _).mono ?_; rintro e w' ⟨rfl, rfl⟩))
 (go_ret);(exact ⟨ret_b HR.out, rfl⟩)

set_option maxRecDepth 100000 in
set_option maxHeartbeats 400000 in
theorem norm_any (a : Nat) (h : a < 18446744073709551616) (hn : Tn.nan a = false) (hm : 4503599627370496 ≤ Tn.mag a) (w : World) :
  Calls Tryz.prog 296 #[.float .f64 a] w fun e w' => e = .returned (.tuple #[.float .f64 a, .int .i64 0]) ∧ w = w' := by
 (have b1 := Tn.ord_least a hn hm);(have H := Lib.hid h; clear h);(clear hn hm);(go_enter Tryz.func296, Tryz.ntmps296)
 go_wp2_with ((go_at_call 276; refine (abs_any _ H.out _).mono ?_; rintro e w' ⟨rfl, rfl⟩))
 (go_ret2);(exact ⟨rfl, rfl⟩)

set_option maxRecDepth 100000 in
set_option maxHeartbeats 400000 in
theorem inf1_any  (w : World) :
  Calls Tryz.prog 168 #[.int .i64 1] w fun e w' => e = .returned (.float .f64 9218868437227405312) ∧ w = w' := by
 (go_enter Tryz.func168, Tryz.ntmps168);(go_wp2);(go_ret);(exact ⟨rfl, rfl⟩)

set_option maxRecDepth 100000 in
set_option maxHeartbeats 400000 in
theorem ldexp_any (h : Nat) (n : Int) (h1 : 1 ≤ h) (h2 : h ≤ 9007199254740992) (hn0 : -1074 ≤ n) (hn1 : n ≤ 1000000) (w : World) :
  Calls Tryz.prog 263 #[.float .f64 (Tn.nr h 0), .int .i64 n] w fun e w' => e = .returned (.float .f64 (Tn.nr h n)) ∧ w = w' := by
 (obtain ⟨M, m1, m2, hr, hl, hs⟩ := Tn.nr_norm h1 h2);(have hsn := hs n);(clear hs);(generalize hL : h.log2 = L at *);(have hrb : Tn.nr h 0 < 9218868437227405312 := by omega);(have hrz := Tn.ord_zero (r := Tn.nr h 0) (by omega) (by omega));(generalize Tn.nr h 0 = r at *);(have hmg : Tn.mag r = r := Nat.mod_eq_of_lt (by omega));(have hnn : Tn.nan r = false := by unfold Tn.nan; exact decide_eq_false (by omega));(have hni : Tn.isinf r = false := by unfold Tn.isinf; exact decide_eq_false (by omega));(have H : RowKit.Hid (r < 18446744073709551616) := by show r < _; omega);(have HM : RowKit.Hid (4503599627370496 ≤ Tn.mag r) := by show _ ≤ Tn.mag r; omega);(have HN : RowKit.Hid (Tn.nan r = false) := hnn);(have HZ := hrz.1);(have HZ2 := hrz.2);(have e1 : ((r : Int) / 4503599627370496) = L + 1023 := by omega);(have e2 : bits .and .i64 ((L : Int) + 1023) 2047 = L + 1023 := Tn.i64_and_2047 (by omega) (by omega));(have e3 : ((r % 4503599627370496 : Nat) : Int) = ((M - 4503599627370496 : Nat) : Int) := by omega);(have e4 : bits .andNot .u64 (r : Int) 9218868437227405312 = ((M - 4503599627370496 : Nat) : Int) := by rw [Tn.andNot_exp r hrb, e3]);(clear hrz e3)
 by_cases c1 : 1023 < n + L
 ·have HR := Lib.hid (Tn.ldx_high m1 m2 (by rw [hL]; exact hsn) (by rw [hL]; exact c1))
  (clear hsn hr hmg hrb m1 m2 hL);(go_enter Tryz.func263, Tryz.ntmps263)
  go_wp2_with (first | (go_at_call 243; refine (isinf_any _ H.out _).mono ?_; rintro e w' ⟨rfl, rfl⟩) | (go_at_call 295; refine (isnan_any _ H.out _).mono ?_; rintro e w' ⟨rfl, rfl⟩) | (go_at_call 296; refine (norm_any _ H.out HN.out HM.out _).mono ?_; rintro e w' ⟨rfl, rfl⟩) | (go_at_call 168; refine (inf1_any _).mono ?_; rintro e w' ⟨rfl, rfl⟩))
  (go_ret);(exact ⟨ret_f HR.out.symm, rfl⟩)
 ·by_cases c2 : n + L < -1022
  ·have HR := Lib.hid (Tn.ldx_low m1 m2 (by rw [hL]; exact hsn) (by rw [hL]; omega) (by rw [hL]; exact c2))
   (rw [hL] at HR);(have HO := Lib.hid (Tn.or_exp (M := M - 4503599627370496) (k := (n + L + 53 + 1023).toNat) (by omega) (by omega)));(have e5 : ((n + L + 53 + 1023).toNat : Int) = n + L + 53 + 1023 := by omega);(rw [show (((n + L + 53 + 1023).toNat * 4503599627370496 : Nat) : Int) = (n + L + 53 + 1023) * 4503599627370496 by omega] at HO);(have hor := HO.out);(have hmul := fun w => run_float_arith (P := Tryz.prog) w .mul 30 .f64 _ _ _ HR.out);(clear HO HR e5);(generalize M - 4503599627370496 + (n + L + 53 + 1023).toNat * 4503599627370496 = x at *);(clear hsn hr hmg hrb m1 m2 hL);(go_enter Tryz.func263, Tryz.ntmps263)
   go_wp2_with (first | (go_at_call 243; refine (isinf_any _ H.out _).mono ?_; rintro e w' ⟨rfl, rfl⟩) | (go_at_call 295; refine (isnan_any _ H.out _).mono ?_; rintro e w' ⟨rfl, rfl⟩) | (go_at_call 296; refine (norm_any _ H.out HN.out HM.out _).mono ?_; rintro e w' ⟨rfl, rfl⟩) | (go_at_call 168; refine (inf1_any _).mono ?_; rintro e w' ⟨rfl, rfl⟩))
   (go_ret);(exact ⟨rfl, rfl⟩)
  ·have HR := Lib.hid (Tn.ldx_mid m1 m2 (by rw [hL]; exact hsn) (by rw [hL]; omega) (by rw [hL]; omega))
   (rw [hL] at HR);(have HO := Lib.hid (Tn.or_exp (M := M - 4503599627370496) (k := (n + L + 1023).toNat) (by omega) (by omega)));(rw [show (((n + L + 1023).toNat * 4503599627370496 : Nat) : Int) = (n + L + 1023) * 4503599627370496 by omega] at HO);(have hor := HO.out);(have hmul := fun w => run_float_arith (P := Tryz.prog) w .mul 30 .f64 _ _ _ HR.out);(clear HO HR);(generalize M - 4503599627370496 + (n + L + 1023).toNat * 4503599627370496 = x at *);(clear hsn hr hmg hrb m1 m2 hL);(go_enter Tryz.func263, Tryz.ntmps263)
   go_wp2_with (first | (go_at_call 243; refine (isinf_any _ H.out _).mono ?_; rintro e w' ⟨rfl, rfl⟩) | (go_at_call 295; refine (isnan_any _ H.out _).mono ?_; rintro e w' ⟨rfl, rfl⟩) | (go_at_call 296; refine (norm_any _ H.out HN.out HM.out _).mono ?_; rintro e w' ⟨rfl, rfl⟩) | (go_at_call 168; refine (inf1_any _).mono ?_; rintro e w' ⟨rfl, rfl⟩))
   (go_ret);(exact ⟨rfl, rfl⟩)

set_option maxRecDepth 100000 in
set_option maxHeartbeats 400000 in
theorem Ldexp_any (h : Nat) (n : Int) (h1 : 1 ≤ h) (h2 : h ≤ 9007199254740992) (hn0 : -1074 ≤ n) (hn1 : n ≤ 1000000) (w : World) :
  Calls Tryz.prog 226 #[.float .f64 (Tn.nr h 0), .int .i64 n] w fun e w' => e = .returned (.float .f64 (Tn.nr h n)) ∧ w = w' := by
 go_enter Tryz.func226, Tryz.ntmps226
 go_wp2_with (go_at_call 263; refine (ldexp_any _ _ h1 h2 hn0 hn1 _).mono ?_; rintro e w' ⟨rfl, rfl⟩)
 (go_ret);(exact ⟨rfl, rfl⟩)

set_option maxRecDepth 100000 in
set_option maxHeartbeats 400000 in
theorem rounded_any (u q : Nat) (hu : u < 18446744073709551616) (hq : q < 64) (hq1 : 1 ≤ q) (w : World) :
  Calls Tryz.prog 277 #[.int .u64 u, .int .i64 q] w fun e w' => e = .returned (.int .u64 (Tn.rne u q : Nat)) ∧ ∃ n, w' = w.drewN n := by
 (have b0 : ((q : Int) == 64) = false := beq_eq_false_iff_ne.2 (by omega));(obtain ⟨P, R, Q, e1, e2, e3, e4, ⟨HD, HF⟩ | ⟨HD, HF⟩⟩ := Tn.rounded_facts' hu hq hq1)
 ·clear hu
  by_cases c : P < R
  ·have b1 : decide (P < R) = true := decide_eq_true c
   (clear c);(go_enter Tryz.func277, Tryz.ntmps277);(go_wp2)
   go_quiet (fail)
   (go_wp2);(go_ret);(exact ⟨ret_i HF.out, _, rfl⟩)
  ·have b1 : decide (P < R) = false := decide_eq_false c
   (have b2 : (R == P) = true := beq_iff_eq.2 (by have := HD.out; omega));(have b3 : (Q % 2 == 1) = true := beq_iff_eq.2 (by have := HD.out; omega));(clear c);(go_enter Tryz.func277, Tryz.ntmps277);(go_wp2)
   go_quiet (fail)
   (go_wp2);(go_ret);(exact ⟨ret_i HF.out, _, rfl⟩)
 ·clear hu
  have b1 : decide (P < R) = false := decide_eq_false (by have := HD.out; omega)
  by_cases c : R = P
  ·have b2 : (R == P) = true := beq_iff_eq.2 c
   (have b3 : (Q % 2 == 1) = false := beq_eq_false_iff_ne.2 (by have := HD.out; omega));(clear c);(go_enter Tryz.func277, Tryz.ntmps277);(go_wp2)
   go_quiet (fail)
   (go_wp2);(go_ret);(exact ⟨ret_i HF.out, _, rfl⟩)
  ·have b2 : (R == P) = false := beq_eq_false_iff_ne.2 c
   (clear c);(go_enter Tryz.func277, Tryz.ntmps277);(go_wp2)
   go_quiet (fail)
   (go_wp2);(go_ret);(exact ⟨ret_i HF.out, _, rfl⟩)

set_option maxRecDepth 100000 in
set_option maxHeartbeats 400000 in
theorem rounded_low (u : Nat) (q : Int) (hq : q ≤ 0) (w : World) :
  Calls Tryz.prog 277 #[.int .u64 u, .int .i64 q] w fun e w' => e = .returned (.int .u64 u) ∧ ∃ n, w' = w.drewN n := by
 (go_enter Tryz.func277, Tryz.ntmps277);(go_wp2);(go_ret);(exact ⟨rfl, 0, rfl⟩)

set_option maxRecDepth 100000 in
set_option maxHeartbeats 400000 in
theorem rounded_high (u : Nat) (q : Int) (hq : 64 < q) (w : World) :
  Calls Tryz.prog 277 #[.int .u64 u, .int .i64 q] w fun e w' => e = .returned (.int .u64 0) ∧ ∃ n, w' = w.drewN n := by
 (go_enter Tryz.func277, Tryz.ntmps277);(go_wp2);(go_ret);(exact ⟨rfl, 0, rfl⟩)

set_option maxRecDepth 100000 in
set_option maxHeartbeats 400000 in
theorem rounded_64 (u : Nat) (hu : u < 18446744073709551616) (w : World) :
  Calls Tryz.prog 277 #[.int .u64 u, .int .i64 64] w fun e w' => e = .returned (.int .u64 (Tn.rne u 64 : Nat)) ∧ ∃ n, w' = w.drewN n := by
 (have HR := Lib.hid (Tn.rne_64 hu));(clear hu)
 cases c : decide (9223372036854775808 < (u : Int))
 ·rw [c] at HR
  (go_enter Tryz.func277, Tryz.ntmps277);(go_wp2);(go_ret);(exact ⟨ret_i HR.out.symm, 0, rfl⟩)
 ·rw [c] at HR
  (go_enter Tryz.func277, Tryz.ntmps277);(go_wp2);(go_ret);(exact ⟨ret_i HR.out.symm, 0, rfl⟩)

set_option maxRecDepth 100000 in
set_option maxHeartbeats 400000 in
theorem len64_any (u : Nat) (hu : u < 18446744073709551616) (w : World) :
  Calls Tryz.prog 225 #[.int .u64 u] w fun e w' => e = .returned (.int .i64 (Tn.bl u : Nat)) ∧ w = w' := by
 (refine (Tryz.bits_Len64 (u : Int) w (by omega) (by omega)).mono ?_);(rintro e w' ⟨rfl, rfl⟩);(exact ⟨ret_i (by rw [Int.toNat_natCast, Tn.lib_bitLen hu]), rfl⟩)

set_option maxRecDepth 100000 in
set_option maxHeartbeats 400000 in
theorem rounded_all (u : Nat) (q : Int) (hu : u < 18446744073709551616) (w : World) :
  Calls Tryz.prog 277 #[.int .u64 u, .int .i64 q] w fun e w' => e = .returned (.int .u64 (Tn.rneI u q : Nat)) ∧ ∃ n, w' = w.drewN n := by
 by_cases h1 : q ≤ 0
 ·refine (rounded_low u q h1 w).mono ?_
  (rintro e w' ⟨rfl, hw⟩);(exact ⟨ret_i (by unfold Tn.rneI; rw [show q.toNat = 0 by omega, Tn.rne_zero]), hw⟩)
 ·by_cases h2 : 64 < q
  ·refine (rounded_high u q h2 w).mono ?_
   (rintro e w' ⟨rfl, hw⟩);(exact ⟨ret_i (by unfold Tn.rneI; rw [Tn.rne_high hu h2]; rfl), hw⟩)
  ·by_cases h3 : q = 64
   ·subst h3; exact rounded_64 u hu w
   ·have := rounded_any u q.toNat hu (by omega) (by omega) w
    (rw [show ((q.toNat : Nat) : Int) = q by omega] at this);(exact this)

set_option maxRecDepth 100000 in
set_option maxHeartbeats 400000 in
theorem ldexp_zero (n : Int) (w : World) :
  Calls Tryz.prog 263 #[.float .f64 0, .int .i64 n] w fun e w' => e = .returned (.float .f64 0) ∧ w = w' := by
 (have b1 : (FloatKind.f64.format.order 0 0 == some .eq) = true := by decide +kernel);(go_enter Tryz.func263, Tryz.ntmps263);(go_wp2);(go_ret);(exact ⟨rfl, rfl⟩)

set_option maxRecDepth 100000 in
set_option maxHeartbeats 400000 in
theorem Ldexp_all (h : Nat) (n : Int) (h2 : h ≤ 9007199254740992) (hn0 : -1074 ≤ n) (hn1 : n ≤ 1000000) (w : World) :
  Calls Tryz.prog 226 #[.float .f64 (Tn.nr h 0), .int .i64 n] w fun e w' => e = .returned (.float .f64 (Tn.nr h n)) ∧ w = w' := by
 by_cases h0 : h = 0
 ·subst h0
  (rw [Tn.nr_zero, Tn.nr_zero]);(go_enter Tryz.func226, Tryz.ntmps226)
  go_wp2_with (go_at_call 263; refine (ldexp_zero _ _).mono ?_; rintro e w' ⟨rfl, rfl⟩)
  (go_ret);(exact ⟨rfl, rfl⟩)
 ·exact Ldexp_any h n (by omega) h2 hn0 hn1 w

set_option maxRecDepth 100000 in
set_option maxHeartbeats 400000 in
theorem join_any (m x : Int) (hm0 : -9223372036854775808 ≤ m) (hm1 : m < 9223372036854775808) (w : World) :
  Calls Tryz.prog 244 #[.int .i64 m, .int .i64 x] w fun e w' => e = .returned (.float .f64 (Tn.jn m x)) ∧ ∃ n, w' = w.drewN n := by
 by_cases h0 : m = 0
 ·subst h0
  (clear hm0 hm1);(have HR := Lib.hid (Tn.jn_zero x));(go_enter Tryz.func244, Tryz.ntmps244);(go_wp2);(go_ret);(exact ⟨ret_f HR.out.symm, 0, rfl⟩)
 ·have b0 : (m == 0) = false := beq_eq_false_iff_ne.2 h0
  (have hfl := fun n : Nat => Tn.floatOfInt_nat n);(obtain ⟨E, hE⟩ : ∃ E : Int, min (max x (-5000)) 5000 = E := ⟨_, rfl⟩);(have he0 : -5000 ≤ E := by omega);(have he1 : E ≤ 5000 := by omega)
  by_cases hs : m < 0
  ·obtain ⟨u, hu⟩ : ∃ u : Nat, -m = u := ⟨(-m).toNat, by omega⟩
   (have HU1 : RowKit.Hid (1 ≤ u) := by show 1 ≤ u; omega);(have HU : RowKit.Hid (u < 18446744073709551616) := by show u < _; omega);(have HM : RowKit.Hid (m < 0 ∧ -9223372036854775808 ≤ m ∧ -m = u) := ⟨hs, hm0, hu⟩);(have hb := Tn.bl_le HU.out);(have hb1 : (Tn.bl u : Int) ≤ 64 := by omega);(have e0 := Tn.wrap_u64_neg hu HU1.out (by omega));(have e1 := Tn.wrap_u64_neg0 hu HU1.out (by omega));(clear hm0 hm1 h0 hu hb)
   by_cases c1 : (Tn.bl u : Int) - 53 < -1074 - E
   ·by_cases c2 : -1074 - E < 0
    ·go_enter Tryz.func244, Tryz.ntmps244
     go_wp2_with (first | (go_at_call 225; refine (len64_any _ HU.out _).mono ?_; rintro e w' ⟨rfl, rfl⟩) | (go_at_call 277; refine (rounded_all _ _ HU.out _).mono ?_; rintro e w' ⟨rfl, ⟨nd, rfl⟩⟩) | (go_at_call 226; refine (Ldexp_all _ _ (Tn.join_hI HU1 (E := E) (by omega)) (by omega) (by omega) _).mono ?_; rintro e w' ⟨rfl, rfl⟩) | (go_at_call 18; refine (bits_any _ _).mono ?_; rintro e w' ⟨rfl, rfl⟩) | (go_at_call 278; refine (float_any _ _).mono ?_; rintro e w' ⟨rfl, rfl⟩))
     (go_ret);(exact ⟨ret_f (Tn.join_negI HM hE (by omega) (by omega)), _, rfl⟩)
    ·have c2' : 0 ≤ -1074 - E := by omega
     (clear c2);(go_enter Tryz.func244, Tryz.ntmps244)
     go_wp2_with (first | (go_at_call 225; refine (len64_any _ HU.out _).mono ?_; rintro e w' ⟨rfl, rfl⟩) | (go_at_call 277; refine (rounded_all _ _ HU.out _).mono ?_; rintro e w' ⟨rfl, ⟨nd, rfl⟩⟩) | (go_at_call 226; refine (Ldexp_all _ _ (Tn.join_hI HU1 (E := E) (by omega)) (by omega) (by omega) _).mono ?_; rintro e w' ⟨rfl, rfl⟩) | (go_at_call 18; refine (bits_any _ _).mono ?_; rintro e w' ⟨rfl, rfl⟩) | (go_at_call 278; refine (float_any _ _).mono ?_; rintro e w' ⟨rfl, rfl⟩))
     (go_ret);(exact ⟨ret_f (Tn.join_negI HM hE (by omega) (by omega)), _, rfl⟩)
   ·have c1' : -1074 - E ≤ (Tn.bl u : Int) - 53 := by omega
    clear c1
    by_cases c2 : (Tn.bl u : Int) - 53 < 0
    ·go_enter Tryz.func244, Tryz.ntmps244
     go_wp2_with (first | (go_at_call 225; refine (len64_any _ HU.out _).mono ?_; rintro e w' ⟨rfl, rfl⟩) | (go_at_call 277; refine (rounded_all _ _ HU.out _).mono ?_; rintro e w' ⟨rfl, ⟨nd, rfl⟩⟩) | (go_at_call 226; refine (Ldexp_all _ _ (Tn.join_hI HU1 (E := E) (by omega)) (by omega) (by omega) _).mono ?_; rintro e w' ⟨rfl, rfl⟩) | (go_at_call 18; refine (bits_any _ _).mono ?_; rintro e w' ⟨rfl, rfl⟩) | (go_at_call 278; refine (float_any _ _).mono ?_; rintro e w' ⟨rfl, rfl⟩))
     (go_ret);(exact ⟨ret_f (Tn.join_negI HM hE (by omega) (by omega)), _, rfl⟩)
    ·have c2' : 0 ≤ (Tn.bl u : Int) - 53 := by omega
     (clear c2);(go_enter Tryz.func244, Tryz.ntmps244)
     go_wp2_with (first | (go_at_call 225; refine (len64_any _ HU.out _).mono ?_; rintro e w' ⟨rfl, rfl⟩) | (go_at_call 277; refine (rounded_all _ _ HU.out _).mono ?_; rintro e w' ⟨rfl, ⟨nd, rfl⟩⟩) | (go_at_call 226; refine (Ldexp_all _ _ (Tn.join_hI HU1 (E := E) (by omega)) (by omega) (by omega) _).mono ?_; rintro e w' ⟨rfl, rfl⟩) | (go_at_call 18; refine (bits_any _ _).mono ?_; rintro e w' ⟨rfl, rfl⟩) | (go_at_call 278; refine (float_any _ _).mono ?_; rintro e w' ⟨rfl, rfl⟩))
     (go_ret);(exact ⟨ret_f (Tn.join_negI HM hE (by omega) (by omega)), _, rfl⟩)
  ·obtain ⟨u, rfl⟩ : ∃ u : Nat, m = u := ⟨m.toNat, by omega⟩
   (have HU1 : RowKit.Hid (1 ≤ u) := by show 1 ≤ u; omega);(have HU : RowKit.Hid (u < 18446744073709551616) := by show u < _; omega);(have HM : RowKit.Hid (0 < (u : Int) ∧ (u : Int) < 9223372036854775808) := ⟨by omega, hm1⟩);(have hb := Tn.bl_le HU.out);(have hb1 : (Tn.bl u : Int) ≤ 64 := by omega);(have e0 := Tn.wrap_u64_nat HU.out);(clear hm0 hm1 h0 hb)
   by_cases c1 : (Tn.bl u : Int) - 53 < -1074 - E
   ·by_cases c2 : -1074 - E < 0
    ·go_enter Tryz.func244, Tryz.ntmps244
     go_wp2_with (first | (go_at_call 225; refine (len64_any _ HU.out _).mono ?_; rintro e w' ⟨rfl, rfl⟩) | (go_at_call 277; refine (rounded_all _ _ HU.out _).mono ?_; rintro e w' ⟨rfl, ⟨nd, rfl⟩⟩) | (go_at_call 226; refine (Ldexp_all _ _ (Tn.join_hI HU1 (E := E) (by omega)) (by omega) (by omega) _).mono ?_; rintro e w' ⟨rfl, rfl⟩) | (go_at_call 18; refine (bits_any _ _).mono ?_; rintro e w' ⟨rfl, rfl⟩) | (go_at_call 278; refine (float_any _ _).mono ?_; rintro e w' ⟨rfl, rfl⟩))
     (go_ret);(exact ⟨ret_f (Tn.join_posI HM rfl hE (by omega) (by omega)), _, rfl⟩)
    ·have c2' : 0 ≤ -1074 - E := by omega
     (clear c2);(go_enter Tryz.func244, Tryz.ntmps244)
     go_wp2_with (first | (go_at_call 225; refine (len64_any _ HU.out _).mono ?_; rintro e w' ⟨rfl, rfl⟩) | (go_at_call 277; refine (rounded_all _ _ HU.out _).mono ?_; rintro e w' ⟨rfl, ⟨nd, rfl⟩⟩) | (go_at_call 226; refine (Ldexp_all _ _ (Tn.join_hI HU1 (E := E) (by omega)) (by omega) (by omega) _).mono ?_; rintro e w' ⟨rfl, rfl⟩) | (go_at_call 18; refine (bits_any _ _).mono ?_; rintro e w' ⟨rfl, rfl⟩) | (go_at_call 278; refine (float_any _ _).mono ?_; rintro e w' ⟨rfl, rfl⟩))
     (go_ret);(exact ⟨ret_f (Tn.join_posI HM rfl hE (by omega) (by omega)), _, rfl⟩)
   ·have c1' : -1074 - E ≤ (Tn.bl u : Int) - 53 := by omega
    clear c1
    by_cases c2 : (Tn.bl u : Int) - 53 < 0
    ·go_enter Tryz.func244, Tryz.ntmps244
     go_wp2_with (first | (go_at_call 225; refine (len64_any _ HU.out _).mono ?_; rintro e w' ⟨rfl, rfl⟩) | (go_at_call 277; refine (rounded_all _ _ HU.out _).mono ?_; rintro e w' ⟨rfl, ⟨nd, rfl⟩⟩) | (go_at_call 226; refine (Ldexp_all _ _ (Tn.join_hI HU1 (E := E) (by omega)) (by omega) (by omega) _).mono ?_; rintro e w' ⟨rfl, rfl⟩) | (go_at_call 18; refine (bits_any _ _).mono ?_; rintro e w' ⟨rfl, rfl⟩) | (go_at_call 278; refine (float_any _ _).mono ?_; rintro e w' ⟨rfl, rfl⟩))
     (go_ret);(exact ⟨ret_f (Tn.join_posI HM rfl hE (by omega) (by omega)), _, rfl⟩)
    ·have c2' : 0 ≤ (Tn.bl u : Int) - 53 := by omega
     (clear c2);(go_enter Tryz.func244, Tryz.ntmps244)
     go_wp2_with (first | (go_at_call 225; refine (len64_any _ HU.out _).mono ?_; rintro e w' ⟨rfl, rfl⟩) | (go_at_call 277; refine (rounded_all _ _ HU.out _).mono ?_; rintro e w' ⟨rfl, ⟨nd, rfl⟩⟩) | (go_at_call 226; refine (Ldexp_all _ _ (Tn.join_hI HU1 (E := E) (by omega)) (by omega) (by omega) _).mono ?_; rintro e w' ⟨rfl, rfl⟩) | (go_at_call 18; refine (bits_any _ _).mono ?_; rintro e w' ⟨rfl, rfl⟩) | (go_at_call 278; refine (float_any _ _).mono ?_; rintro e w' ⟨rfl, rfl⟩))
     (go_ret);(exact ⟨ret_f (Tn.join_posI HM rfl hE (by omega) (by omega)), _, rfl⟩)

end Go.Proofs.YtmdoljecjliehaaGreat
end

section
/- Contracts of ieee.Split, the orders' keys and the reference's order. -/
namespace Go.Proofs.YtmdoljecjliehaaGreat
open Go.RowKit

set_option maxRecDepth 100000 in
set_option maxHeartbeats 400000 in
theorem split_any (a : Nat) (h : a < 18446744073709551616) (w : World) :
  Calls Tryz.prog 153 #[.float .f64 a] w fun e w' => e = .returned (.tuple #[.int .i64 (Tn.spm a), .int .i64 (Tn.spe a), .bool (Tn.fin a)]) ∧ w = w' := by
 (have H := Lib.hid h; clear h);(have HW := Lib.hid (Tn.wrap_mag a));(have HN := Lib.hid (Tn.wrap_nmag a))
 rcases Tn.cls_cases a with hc | hc | hc | hc | hc
 ·have HR := Lib.hid (Tn.spm_zero hc)
  go_enter Tryz.func153, Tryz.ntmps153
  go_wp2_with (first | (go_at_call 78; refine (class_any _ H.out _).mono ?_; rintro e w' ⟨rfl, rfl⟩) | (go_at_call 140; refine (size_any _ H.out _).mono ?_; rintro e w' ⟨rfl, rfl⟩))
  (go_ret3);(exact ⟨ret_iib HR.out.1.symm HR.out.2.1.symm HR.out.2.2.symm, rfl⟩)
 ·have HR := Lib.hid (Tn.spm_sub hc)
  have HG := Lib.hid (Tn.neg_fin (b := a) (by omega))
  cases hs : Tn.sgn a
  ·have HS := Lib.hid (HG.out.trans hs)
   (rw [hs, if_neg (by decide)] at HR);(clear hs);(go_enter Tryz.func153, Tryz.ntmps153)
   go_wp2_with (first | (go_at_call 78; refine (class_any _ H.out _).mono ?_; rintro e w' ⟨rfl, rfl⟩) | (go_at_call 140; refine (size_any _ H.out _).mono ?_; rintro e w' ⟨rfl, rfl⟩) | (go_at_call 213; refine (negative_any _ H.out _).mono ?_; rintro e w' ⟨rfl, rfl⟩; rw [HS.out]))
   (go_ret3);(exact ⟨ret_iib (by rw [HR.out.1]; exact HW.out) HR.out.2.1.symm HR.out.2.2.symm, rfl⟩)
  ·have HS := Lib.hid (HG.out.trans hs)
   (rw [hs, if_pos rfl] at HR);(clear hs);(go_enter Tryz.func153, Tryz.ntmps153)
   go_wp2_with (first | (go_at_call 78; refine (class_any _ H.out _).mono ?_; rintro e w' ⟨rfl, rfl⟩) | (go_at_call 140; refine (size_any _ H.out _).mono ?_; rintro e w' ⟨rfl, rfl⟩) | (go_at_call 213; refine (negative_any _ H.out _).mono ?_; rintro e w' ⟨rfl, rfl⟩; rw [HS.out]))
   (go_ret3);(exact ⟨ret_iib (by rw [HR.out.1]; exact HN.out) HR.out.2.1.symm HR.out.2.2.symm, rfl⟩)
 ·have HR := Lib.hid (Tn.spm_nor hc)
  (have HG := Lib.hid (Tn.neg_fin (b := a) (by omega)));(obtain ⟨m1, m2⟩ := Tn.cls3 hc);(have e1 := Tn.and_mant (Tn.mag a) (by omega));(have e2 := Tn.or_mant (Tn.mag a % 4503599627370496) (by omega));(obtain ⟨D, hD⟩ : ∃ D : Int, ((4503599627370496 + Tn.mag a % 4503599627370496 : Nat) : Int) = D := ⟨_, rfl⟩);(obtain ⟨Q, hQ⟩ : ∃ Q : Int, ((Tn.mag a / 4503599627370496 : Nat) : Int) = Q := ⟨_, rfl⟩);(have d1 : 4503599627370496 ≤ D := by omega);(have d2 : D < 9007199254740992 := by omega);(have q1 : 0 ≤ Q := by omega);(have q2 : Q < 2047 := by omega);(have e3 : (Tn.mag a : Int) / 4503599627370496 = Q := by omega);(rw [hD] at e2 HR);(rw [hQ] at HR);(generalize Tn.mag a % 4503599627370496 = r at *);(clear m1 m2 hD hQ)
  cases hs : Tn.sgn a
  ·have HS := Lib.hid (HG.out.trans hs)
   (rw [hs, if_neg (by decide)] at HR);(clear hs);(go_enter Tryz.func153, Tryz.ntmps153)
   go_wp2_with (first | (go_at_call 78; refine (class_any _ H.out _).mono ?_; rintro e w' ⟨rfl, rfl⟩) | (go_at_call 140; refine (size_any _ H.out _).mono ?_; rintro e w' ⟨rfl, rfl⟩) | (go_at_call 213; refine (negative_any _ H.out _).mono ?_; rintro e w' ⟨rfl, rfl⟩; rw [HS.out]))
   (go_ret3);(exact ⟨ret_iib HR.out.1.symm HR.out.2.1.symm HR.out.2.2.symm, rfl⟩)
  ·have HS := Lib.hid (HG.out.trans hs)
   (rw [hs, if_pos rfl] at HR);(clear hs);(go_enter Tryz.func153, Tryz.ntmps153)
   go_wp2_with (first | (go_at_call 78; refine (class_any _ H.out _).mono ?_; rintro e w' ⟨rfl, rfl⟩) | (go_at_call 140; refine (size_any _ H.out _).mono ?_; rintro e w' ⟨rfl, rfl⟩) | (go_at_call 213; refine (negative_any _ H.out _).mono ?_; rintro e w' ⟨rfl, rfl⟩; rw [HS.out]))
   (go_ret3);(exact ⟨ret_iib HR.out.1.symm HR.out.2.1.symm HR.out.2.2.symm, rfl⟩)
 ·have HR := Lib.hid (Tn.spm_none (Or.inl hc))
  go_enter Tryz.func153, Tryz.ntmps153
  go_wp2_with (first | (go_at_call 78; refine (class_any _ H.out _).mono ?_; rintro e w' ⟨rfl, rfl⟩) | (go_at_call 140; refine (size_any _ H.out _).mono ?_; rintro e w' ⟨rfl, rfl⟩))
  (go_ret3);(exact ⟨ret_iib HR.out.1.symm HR.out.2.1.symm HR.out.2.2.symm, rfl⟩)
 ·have HR := Lib.hid (Tn.spm_none (Or.inr hc))
  go_enter Tryz.func153, Tryz.ntmps153
  go_wp2_with (first | (go_at_call 78; refine (class_any _ H.out _).mono ?_; rintro e w' ⟨rfl, rfl⟩) | (go_at_call 140; refine (size_any _ H.out _).mono ?_; rintro e w' ⟨rfl, rfl⟩))
  (go_ret3);(exact ⟨ret_iib HR.out.1.symm HR.out.2.1.symm HR.out.2.2.symm, rfl⟩)

end Go.Proofs.YtmdoljecjliehaaGreat
end
