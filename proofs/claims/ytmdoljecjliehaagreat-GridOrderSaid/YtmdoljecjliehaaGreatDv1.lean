/- bits.Div64 divides: the plain half. No walk but the last lines. -/
import Derived.Test.YtmdoljecjliehaaGreatFVx1
import Derived.Test.YtmdoljecjliehaaGreatAg
namespace Go.Proofs.YtmdoljecjliehaaGreat.FV
open Go.RowKit Go.Proofs.YtmdoljecjliehaaGreatW.PrintWords Go.Proofs.YtmdoljecjliehaaGreatW.PrintLast Go.Proofs.YtmdoljecjliehaaGreatW.PrintMore Tn
open Go.Proofs.YtmdoljecjliehaaGreat.FX
set_option linter.unusedVariables false

def Evt {α : Type} (f : Nat → Option α) (r : α) : Prop := ∃ k, ∀ n, k ≤ n → f n = some r
theorem Evt.const {α : Type} {f : Nat → Option α} {r : α} (h : ∀ k, f k = some r) : Evt f r := ⟨0, fun n _ => h n⟩
theorem Evt.next {α : Type} {f g : Nat → Option α} {r : α} (h : Evt f r) (he : ∀ k, g (k + 1) = f k) : Evt g r := by
 (obtain ⟨k, hk⟩ := h);(refine ⟨k + 1, fun n hn => ?_⟩);(obtain ⟨m, rfl⟩ : ∃ m, n = m + 1 := ⟨n - 1, by omega⟩);(rw [he m]; exact hk m (by omega))
theorem Evt.congr {α : Type} {f g : Nat → Option α} {r : α} (h : Evt f r) (he : ∀ k, g k = f k) : Evt g r := by
 (obtain ⟨k, hk⟩ := h);(exact ⟨k, fun n hn => by rw [he n]; exact hk n hn⟩)

theorem uw {x : Int} (h0 : 0 ≤ x) (h1 : x < 18446744073709551616) : IntKind.u64.wrap x = x := by rw [IntKind.wrap_u64]; exact Int.emod_eq_of_lt h0 h1

structure Dig (y1 y0 u d : Nat) : Prop where
 h1 : 2147483648 ≤ y1
 h2 : y1 < 4294967296
 h3 : y0 < 4294967296
 hu : u < y1 * 4294967296 + y0
 hd : d < 4294967296
def qq (y1 y0 u d : Nat) : Nat := (u * 4294967296 + d) / (y1 * 4294967296 + y0)
theorem qq_lt {y1 y0 u d : Nat} (h : Dig y1 y0 u d) : qq y1 y0 u d < 4294967296 := by
 (obtain ⟨h1, h2, h3, hu, hd⟩ := h);(unfold qq);(rw [Nat.div_lt_iff_lt_mul (by omega)]);(omega)
theorem test_iff {y1 y0 u d c r : Nat} (h : Dig y1 y0 u d) (e : c * y1 + r = u) : 4294967296 * r + d < c * y0 ↔ qq y1 y0 u d < c := by
 (obtain ⟨h1, h2, h3, hu, hd⟩ := h);(unfold qq);(rw [Nat.div_lt_iff_lt_mul (by omega)]);(have e2 : c * (y1 * 4294967296 + y0) = c * y1 * 4294967296 + c * y0 := by rw [Nat.mul_add, Nat.mul_assoc]);(rw [e2]);(omega)
theorem brk {y1 y0 u d c r : Nat} (h : Dig y1 y0 u d) (e : c * y1 + r = u) (hc : c ≤ 4294967296) (hr : 4294967296 ≤ r) : c ≤ qq y1 y0 u d := by
 (have h3 := h.h3);(have h1 := test_iff h e);(have h2 : c * y0 ≤ 4294967296 * y0 := Nat.mul_le_mul_right _ hc);(have h4 : ¬ (4294967296 * r + d < c * y0) := by omega);(rw [h1] at h4);(omega)
theorem loop0 {y1 y0 u d : Nat} (h : Dig y1 y0 u d) (x2 x8 x14 : Int) (res : Int × Int) (hj : Evt (fun k => bits_Div64.j2 k x2 x8 (y1 : Int) (y0 : Int) (u : Int) (d : Int) x14 (qq y1 y0 u d : Int)) res) :
  ∀ m c r : Nat, c = qq y1 y0 u d + m → c * y1 + r = u → r < 4294967296 → c ≤ 4294967297 → Evt (fun k => bits_Div64.l0 k x2 x8 (y1 : Int) (y0 : Int) (u : Int) (d : Int) x14 (c : Int) (r : Int)) res
 | m, c, r, hc, he, hr, hb => by
  (have hq := qq_lt h);(have ht := test_iff h he);(have h2 := h.h2);(have h3 := h.h3);(have hd := h.hd);(have hcr : c * y0 ≤ 4294967297 * y0 := Nat.mul_le_mul_right _ hb)
  cases m with
  | zero =>
   (have hlt : ¬ (4294967296 * r + d < c * y0) := by rw [ht]; omega);(have hcy : c * y0 ≤ 4294967296 * y0 := Nat.mul_le_mul_right _ (by omega));(rw [Nat.add_zero] at hc);(refine Evt.next (Evt.next (g := fun k => bits_Div64.j1 k x2 x8 (y1 : Int) (y0 : Int) (u : Int) (d : Int) x14 (c : Int) (r : Int) false) hj fun k => by rw [bits_Div64.j1, if_neg (by decide), hc]) fun k => ?_);(rw [bits_Div64.l0, if_neg (by omega)]);(have e1 : IntKind.u64.wrap ((c : Int) * (y0 : Int)) = ((c * y0 : Nat) : Int) := by rw [← Int.natCast_mul]; exact uw (by omega) (by omega))
   have e2 : IntKind.u64.wrap (IntKind.u64.wrap (4294967296 * (r : Int)) + (d : Int)) = ((4294967296 * r + d : Nat) : Int) := by
    rw [uw (x := 4294967296 * (r : Int)) (by omega) (by omega), uw (by omega) (by omega)]; omega
   rw [e1, e2, decide_eq_false (by omega)]
  | succ m =>
   (have hlt : 4294967296 * r + d < c * y0 := ht.2 (by omega));(obtain ⟨p, rfl⟩ : ∃ p, c = p + 1 := ⟨c - 1, by omega⟩);(have hp : p * y1 + (r + y1) = u := by rw [Nat.add_mul, Nat.one_mul] at he; omega);(have e3 : IntKind.u64.wrap (((p + 1 : Nat) : Int) - 1) = (p : Int) := by rw [uw (by omega) (by omega)]; omega);(have e4 : IntKind.u64.wrap ((r : Int) + (y1 : Int)) = ((r + y1 : Nat) : Int) := by rw [uw (by omega) (by omega)]; omega)
   have hj1 : Evt (fun k => bits_Div64.j1 k x2 x8 (y1 : Int) (y0 : Int) (u : Int) (d : Int) x14 ((p + 1 : Nat) : Int) (r : Int) true) res := by
    by_cases hbk : 4294967296 ≤ r + y1
    ·have := brk h hp (by omega) hbk
     (have hpq : p = qq y1 y0 u d := by omega);(refine Evt.next hj fun k => ?_);(rw [bits_Div64.j1, if_pos rfl, e4, if_pos (by omega), e3, hpq])
    ·refine Evt.next (loop0 h x2 x8 x14 res hj m p (r + y1) (by omega) hp (by omega) (by omega)) fun k => ?_
     rw [bits_Div64.j1, if_pos rfl, e4, if_neg (by omega), e3]
   (refine Evt.next hj1 fun k => ?_);(rw [bits_Div64.l0])
   by_cases hg : ((p + 1 : Nat) : Int) ≥ 4294967296
   ·rw [if_pos hg]
   ·rw [if_neg hg]
    (have hcy : (p + 1) * y0 ≤ 4294967296 * y0 := Nat.mul_le_mul_right _ (by omega));(have e1 : IntKind.u64.wrap (((p + 1 : Nat) : Int) * (y0 : Int)) = (((p + 1) * y0 : Nat) : Int) := by rw [← Int.natCast_mul]; exact uw (by omega) (by omega))
    have e2 : IntKind.u64.wrap (IntKind.u64.wrap (4294967296 * (r : Int)) + (d : Int)) = ((4294967296 * r + d : Nat) : Int) := by
     rw [uw (x := 4294967296 * (r : Int)) (by omega) (by omega), uw (by omega) (by omega)]; omega
    rw [e1, e2, decide_eq_true (by omega)]
def fin2 (x2 x8 x14 x15 x17 x18 : Int) : Option (Int × Int) := if 0 ≤ x8 then (some (IntKind.u64.wrap ((IntKind.u64.wrap (x15 * 4294967296)) + x18), shr .u64 (IntKind.u64.wrap ((IntKind.u64.wrap ((IntKind.u64.wrap (x17 * 4294967296)) + x14)) - (IntKind.u64.wrap (x18 * x2)))) x8)) else (none)
theorem loop1 {y1 y0 u d : Nat} (h : Dig y1 y0 u d) (x2 x8 x15 x17 : Int) (res : Int × Int) (hj : fin2 x2 x8 (d : Int) x15 x17 (qq y1 y0 u d : Int) = some res) :
  ∀ m c r : Nat, c = qq y1 y0 u d + m → c * y1 + r = u → r < 4294967296 → c ≤ 4294967297 → Evt (fun k => bits_Div64.l1 k x2 x8 (y1 : Int) (y0 : Int) (d : Int) x15 (r : Int) x17 (c : Int)) res
 | m, c, r, hc, he, hr, hb => by
  (have hq := qq_lt h);(have ht := test_iff h he);(have h2 := h.h2);(have h3 := h.h3);(have hd := h.hd);(have hcr : c * y0 ≤ 4294967297 * y0 := Nat.mul_le_mul_right _ hb)
  cases m with
  | zero =>
   (have hlt : ¬ (4294967296 * r + d < c * y0) := by rw [ht]; omega);(have hcy : c * y0 ≤ 4294967296 * y0 := Nat.mul_le_mul_right _ (by omega));(rw [Nat.add_zero] at hc);(refine Evt.next (Evt.next (f := fun _ => some res) (g := fun k => bits_Div64.j4 k x2 x8 (y1 : Int) (y0 : Int) (d : Int) x15 (r : Int) x17 (c : Int) false) (Evt.const fun _ => rfl) fun k => by rw [bits_Div64.j4, if_neg (by decide), hc]; exact hj) fun k => ?_);(rw [bits_Div64.l1, if_neg (by omega)]);(have e1 : IntKind.u64.wrap ((c : Int) * (y0 : Int)) = ((c * y0 : Nat) : Int) := by rw [← Int.natCast_mul]; exact uw (by omega) (by omega))
   have e2 : IntKind.u64.wrap (IntKind.u64.wrap (4294967296 * (r : Int)) + (d : Int)) = ((4294967296 * r + d : Nat) : Int) := by
    rw [uw (x := 4294967296 * (r : Int)) (by omega) (by omega), uw (by omega) (by omega)]; omega
   rw [e1, e2, decide_eq_false (by omega)]
  | succ m =>
   (have hlt : 4294967296 * r + d < c * y0 := ht.2 (by omega));(obtain ⟨p, rfl⟩ : ∃ p, c = p + 1 := ⟨c - 1, by omega⟩);(have hp : p * y1 + (r + y1) = u := by rw [Nat.add_mul, Nat.one_mul] at he; omega);(have e3 : IntKind.u64.wrap (((p + 1 : Nat) : Int) - 1) = (p : Int) := by rw [uw (by omega) (by omega)]; omega);(have e4 : IntKind.u64.wrap ((r : Int) + (y1 : Int)) = ((r + y1 : Nat) : Int) := by rw [uw (by omega) (by omega)]; omega)
   have hj1 : Evt (fun k => bits_Div64.j4 k x2 x8 (y1 : Int) (y0 : Int) (d : Int) x15 (r : Int) x17 ((p + 1 : Nat) : Int) true) res := by
    by_cases hbk : 4294967296 ≤ r + y1
    ·have := brk h hp (by omega) hbk
     (have hpq : p = qq y1 y0 u d := by omega);(refine Evt.next (f := fun _ => some res) (Evt.const fun _ => rfl) fun k => ?_);(rw [bits_Div64.j4, if_pos rfl, e4, if_pos (by omega), e3, hpq]);(exact hj)
    ·refine Evt.next (loop1 h x2 x8 x15 x17 res hj m p (r + y1) (by omega) hp (by omega) (by omega)) fun k => ?_
     rw [bits_Div64.j4, if_pos rfl, e4, if_neg (by omega), e3]
   (refine Evt.next hj1 fun k => ?_);(rw [bits_Div64.l1])
   by_cases hg : ((p + 1 : Nat) : Int) ≥ 4294967296
   ·rw [if_pos hg]
   ·rw [if_neg hg]
    (have hcy : (p + 1) * y0 ≤ 4294967296 * y0 := Nat.mul_le_mul_right _ (by omega));(have e1 : IntKind.u64.wrap (((p + 1 : Nat) : Int) * (y0 : Int)) = (((p + 1) * y0 : Nat) : Int) := by rw [← Int.natCast_mul]; exact uw (by omega) (by omega))
    have e2 : IntKind.u64.wrap (IntKind.u64.wrap (4294967296 * (r : Int)) + (d : Int)) = ((4294967296 * r + d : Nat) : Int) := by
     rw [uw (x := 4294967296 * (r : Int)) (by omega) (by omega), uw (by omega) (by omega)]; omega
    rw [e1, e2, decide_eq_true (by omega)]
theorem first_c {y1 y0 u d : Nat} (h : Dig y1 y0 u d) : ∃ m, u / y1 = qq y1 y0 u d + m ∧ u / y1 ≤ 4294967297 ∧ u / y1 * y1 + u % y1 = u ∧ u % y1 < 4294967296 := by
 (obtain ⟨h1, h2, h3, hu, hd⟩ := h);(have e : u / y1 * y1 + u % y1 = u := by rw [Nat.mul_comm]; exact Nat.div_add_mod u y1);(have hm := Nat.mod_lt u (show 0 < y1 by omega))
 have hle : qq y1 y0 u d ≤ u / y1 := by
  (unfold qq);(rw [Nat.le_div_iff_mul_le (by omega)]);(have hh := Nat.div_mul_le_self (u * 4294967296 + d) (y1 * 4294967296 + y0));(generalize (u * 4294967296 + d) / (y1 * 4294967296 + y0) = q at hh);(rw [Nat.mul_add, ← Nat.mul_assoc] at hh);(omega)
 (refine ⟨u / y1 - qq y1 y0 u d, by omega, ?_, e, by omega⟩);(rw [Nat.div_le_iff_le_mul_add_pred (by omega)]);(omega)
theorem rem_u {A d B R : Int} (h0 : A + d - B = R) (h1 : 0 ≤ R) (h2 : R < 18446744073709551616) : ((A % 18446744073709551616 + d) % 18446744073709551616 - B % 18446744073709551616) % 18446744073709551616 = R := by
 (subst h0);(rw [Int.emod_add_emod, Int.emod_sub_emod, Int.sub_emod_emod]);(exact Int.emod_eq_of_lt h1 h2)
theorem left_w {u d q Y r : Nat} (e : q * Y + r = u * 4294967296 + d) (hr : r < 18446744073709551616) : IntKind.u64.wrap (IntKind.u64.wrap (IntKind.u64.wrap ((u : Int) * 4294967296) + (d : Int)) - IntKind.u64.wrap ((q : Int) * (Y : Int))) = (r : Int) := by
 (rw [IntKind.wrap_u64, IntKind.wrap_u64, IntKind.wrap_u64, IntKind.wrap_u64]);(refine rem_u ?_ (by omega) (by omega));(have e2 : ((q * Y : Nat) : Int) + r = (u : Int) * 4294967296 + d := by omega);(rw [Int.natCast_mul] at e2);(omega)
theorem dig_next {y1 y0 u d e0 : Nat} (h : Dig y1 y0 u d) (he : e0 < 4294967296) : Dig y1 y0 ((u * 4294967296 + d) % (y1 * 4294967296 + y0)) e0 :=
 ⟨h.h1, h.h2, h.h3, Nat.mod_lt _ (by have := h.h1; omega), he⟩
theorem tdiv_w {r y1 : Nat} (hr : r < 18446744073709551616) : IntKind.u64.wrap (Int.tdiv (r : Int) (y1 : Int)) = ((r / y1 : Nat) : Int) := by
  (rw [Int.tdiv_eq_ediv_of_nonneg (by omega), ← Int.natCast_ediv]);(have := Nat.div_le_self r y1)
  exact uw (Int.natCast_nonneg _) (by have h2 : r / y1 < 18446744073709551616 := by omega
                                      exact Int.ofNat_lt.2 h2)
theorem rest_w {r y1 : Nat} (hr : r < 18446744073709551616) (hy : 0 < y1) : IntKind.u64.wrap ((r : Int) - IntKind.u64.wrap (((r / y1 : Nat) : Int) * (y1 : Int))) = ((r % y1 : Nat) : Int) := by
 (have e := Nat.div_add_mod r y1);(rw [Nat.mul_comm] at e);(rw [← Int.natCast_mul, uw (x := ((r / y1 * y1 : Nat) : Int)) (by omega) (by omega)]);(generalize r / y1 * y1 = P at e);(generalize r % y1 = Q at e);(rw [uw (by omega) (by omega)]);(omega)
theorem j2_e {y1 y0 u d e0 : Nat} (h : Dig y1 y0 u d) (he : e0 < 4294967296) (x8 : Int) (res : Int × Int) (hj : fin2 ((y1 * 4294967296 + y0 : Nat) : Int) x8 (e0 : Int) (qq y1 y0 u d : Int) (((u * 4294967296 + d) % (y1 * 4294967296 + y0) : Nat) : Int) (qq y1 y0 ((u * 4294967296 + d) % (y1 * 4294967296 + y0)) e0 : Int) = some res) :
  Evt (fun k => bits_Div64.j2 k ((y1 * 4294967296 + y0 : Nat) : Int) x8 (y1 : Int) (y0 : Int) (u : Int) (d : Int) (e0 : Int) (qq y1 y0 u d : Int)) res := by
 (have hn := dig_next h he);(obtain ⟨m, hm, hb, he2, hr⟩ := first_c hn);(have hl := loop1 hn ((y1 * 4294967296 + y0 : Nat) : Int) x8 (qq y1 y0 u d : Int) (((u * 4294967296 + d) % (y1 * 4294967296 + y0) : Nat) : Int) res hj m _ _ hm he2 hr hb)
 have e1 : qq y1 y0 u d * (y1 * 4294967296 + y0) + (u * 4294967296 + d) % (y1 * 4294967296 + y0) = u * 4294967296 + d := by
  unfold qq; rw [Nat.mul_comm]; exact Nat.div_add_mod _ _
 (have h1 := h.h1);(have h2 := h.h2);(have h3 := h.h3);(have hlt := hn.hu);(refine Evt.next hl fun k => ?_);(rw [bits_Div64.j2, if_neg (by omega), left_w e1 (by omega)]);(generalize (u * 4294967296 + d) % (y1 * 4294967296 + y0) = R at *);(rw [tdiv_w (by omega), rest_w (by omega) (by omega)])
theorem fin2_core {Y U e0 s Q1 Q2 R R2 : Nat} (q1 : Q1 < 4294967296) (q2 : Q2 < 4294967296) (hY : 0 < Y) (hYl : Y < 18446744073709551616) (e1 : Q1 * Y + R = U) (e2 : Q2 * Y + R2 = R * 4294967296 + e0) (hR2 : R2 < Y) (hs : s ≤ 64) :
  fin2 (Y : Int) (s : Int) (e0 : Int) (Q1 : Int) (R : Int) (Q2 : Int) = some ((((U * 4294967296 + e0) / Y : Nat) : Int), (((U * 4294967296 + e0) % Y / 2 ^ s : Nat) : Int)) := by
 (unfold fin2);(rw [if_pos (by omega), left_w e2 (by omega)])
 have e3 : U * 4294967296 + e0 = Y * (Q1 * 4294967296 + Q2) + R2 := by
  (rw [← e1, Nat.mul_add, ← Nat.mul_assoc, Nat.mul_comm Y Q1, Nat.mul_comm Y Q2]);(omega)
 have e4 : (U * 4294967296 + e0) / Y = Q1 * 4294967296 + Q2 := by
  rw [e3, Nat.mul_add_div hY, Nat.div_eq_of_lt hR2, Nat.add_zero]
 have e5 : (U * 4294967296 + e0) % Y = R2 := by
  rw [e3, Nat.mul_add_mod, Nat.mod_eq_of_lt hR2]
 (rw [e4, e5, uw (x := (Q1 : Int) * 4294967296) (by omega) (by omega), uw (by omega) (by omega)]);(unfold shr);(rw [Nat.min_eq_left (by rw [Int.toNat_natCast]; exact hs), Int.toNat_natCast, shr_bit])
 congr 2
theorem fin2_e {y1 y0 u d e0 s : Nat} (h : Dig y1 y0 u d) (he : e0 < 4294967296) (hs : s ≤ 64) : fin2 ((y1 * 4294967296 + y0 : Nat) : Int) (s : Int) (e0 : Int) (qq y1 y0 u d : Int) (((u * 4294967296 + d) % (y1 * 4294967296 + y0) : Nat) : Int) (qq y1 y0 ((u * 4294967296 + d) % (y1 * 4294967296 + y0)) e0 : Int) =
  some ((((((u * 4294967296 + d) * 4294967296 + e0) / (y1 * 4294967296 + y0) : Nat) : Int)), ((((u * 4294967296 + d) * 4294967296 + e0) % (y1 * 4294967296 + y0) / 2 ^ s : Nat) : Int)) := by
 (have hn := dig_next h he);(have h1 := h.h1);(have h2 := h.h2);(have h3 := h.h3);(refine fin2_core (R2 := ((u * 4294967296 + d) % (y1 * 4294967296 + y0) * 4294967296 + e0) % (y1 * 4294967296 + y0)) (qq_lt h) (qq_lt hn) (by omega) (by omega) ?_ ?_ (Nat.mod_lt _ (by omega)) hs)
 ·unfold qq; rw [Nat.mul_comm]; exact Nat.div_add_mod _ _
 ·unfold qq; rw [Nat.mul_comm]; exact Nat.div_add_mod _ _
theorem join3 (u W : Nat) : (u * 4294967296 + W / 4294967296) * 4294967296 + W % 4294967296 = u * 18446744073709551616 + W := by omega
theorem div_e {hi lo n : Nat} (h0 : 0 < hi) (hn : hi < n) (hn2 : n < 18446744073709551616) (hlo : lo < 18446744073709551616) : Evt (fun k => bits_Div64.f k (hi : Int) (lo : Int) (n : Int)) ((((hi * 18446744073709551616 + lo) / n : Nat) : Int), (((hi * 18446744073709551616 + lo) % n : Nat) : Int)) := by
 (have hbl : 1 ≤ bl n ∧ bl n ≤ 64 := ⟨by unfold bl; rw [if_neg (by omega)]; omega, bl_le hn2⟩);(obtain ⟨s, hs⟩ : ∃ s : Nat, s = 64 - bl n := ⟨_, rfl⟩);(have hp := Nat.two_pow_pos s);(have hnlt := bl_lt (v := n) (Nat.le_refl _))
 have hY1 : n * 2 ^ s < 18446744073709551616 := by
  (have : n * 2 ^ s < 2 ^ bl n * 2 ^ s := Nat.mul_lt_mul_of_pos_right hnlt hp);(rw [← Nat.pow_add, show bl n + s = 64 by omega] at this);(exact this)
 have hY0 : 9223372036854775808 ≤ n * 2 ^ s := by
  have h1 : 2 ^ (bl n - 1) ≤ n := by
   (unfold bl; rw [if_neg (by omega)]);(exact Nat.log2_self_le (by omega))
  (have : 2 ^ (bl n - 1) * 2 ^ s ≤ n * 2 ^ s := Nat.mul_le_mul_right _ h1);(rw [← Nat.pow_add, show bl n - 1 + s = 63 by omega] at this);(exact this)
 (have hhi : hi * 2 ^ s < 18446744073709551616 := Nat.lt_of_le_of_lt (Nat.mul_le_mul_right _ (by omega)) hY1);(obtain ⟨Y, hY⟩ : ∃ Y, Y = n * 2 ^ s := ⟨_, rfl⟩);(obtain ⟨W, hW⟩ : ∃ W, W = lo * 2 ^ s % 18446744073709551616 := ⟨_, rfl⟩);(obtain ⟨H, hH⟩ : ∃ H, H = lo / 2 ^ (64 - s) := ⟨_, rfl⟩);(have hs64 : s < 64 := by omega);(have hsp : (2 : Nat) ^ (64 - s) * 2 ^ s = 18446744073709551616 := by rw [← Nat.pow_add, show 64 - s + s = 64 by omega]);(have hp2 := Nat.two_pow_pos (64 - s))
 have hHlt : H < 2 ^ s := by
  rw [hH, Nat.div_lt_iff_lt_mul hp2, Nat.mul_comm, hsp]; exact hlo
 have hsum : lo * 2 ^ s = H * 18446744073709551616 + W := by
  have e := Nat.div_add_mod (lo * 2 ^ s) 18446744073709551616
  have e2 : lo * 2 ^ s / 18446744073709551616 = H := by
   rw [← hsp, Nat.mul_div_mul_right _ _ hp, hH]
  (rw [e2, ← hW] at e);(omega)
 have hWlt : W < 18446744073709551616 := by rw [hW]; exact Nat.mod_lt _ (by decide)
 have hcap : hi * 2 ^ s + H < Y := by
  (have : (hi + 1) * 2 ^ s ≤ n * 2 ^ s := Nat.mul_le_mul_right _ (by omega));(rw [Nat.add_mul, Nat.one_mul, ← hY] at this);(omega)
 have hN : (hi * 2 ^ s + H) * 18446744073709551616 + W = (hi * 18446744073709551616 + lo) * 2 ^ s := by
  (have e1 : hi * 18446744073709551616 * 2 ^ s = hi * 2 ^ s * 18446744073709551616 := by rw [Nat.mul_assoc, Nat.mul_comm 18446744073709551616, ← Nat.mul_assoc]);(rw [Nat.add_mul, Nat.add_mul, hsum, e1]; omega)
 have E1 : bits_Lz.f (n : Int) = some (s : Int) := by
  (unfold bits_Lz.f);(rw [if_pos (by omega), Int.toNat_natCast, lib_bitLen hn2])
  congr 1; omega
 (have E2 : IntKind.u64.wrap (s : Int) = s := uw (by omega) (by omega));(have E2b : IntKind.u64.wrap (64 - (s : Int)) = ((64 - s : Nat) : Int) := by rw [uw (by omega) (by omega)]; omega)
 have hshl : ∀ x : Nat, shl .u64 (x : Int) (s : Int) = ((x * 2 ^ s % 18446744073709551616 : Nat) : Int) := fun x => by
  (unfold shl);(rw [Int.toNat_natCast, Nat.min_eq_left (by show s ≤ 64; omega), IntKind.wrap_u64]);(rw [Int.natCast_emod, Int.natCast_mul, Int.natCast_pow]);(rfl)
 (have E3 : shl .u64 (n : Int) (s : Int) = (Y : Int) := by rw [hshl, Nat.mod_eq_of_lt hY1, hY]);(have E6 : shl .u64 (hi : Int) (s : Int) = ((hi * 2 ^ s : Nat) : Int) := by rw [hshl, Nat.mod_eq_of_lt hhi]);(have E9 : shl .u64 (lo : Int) (s : Int) = (W : Int) := by rw [hshl, hW])
 have E7 : shr .u64 (lo : Int) ((64 - s : Nat) : Int) = (H : Int) := by
  (unfold shr);(rw [Int.toNat_natCast, Nat.min_eq_left (by show 64 - s ≤ 64; omega), shr_bit, hH])
 have E8 : Go.bits .or .u64 ((hi * 2 ^ s : Nat) : Int) (H : Int) = ((hi * 2 ^ s + H : Nat) : Int) := put_or ⟨s, hs64, rfl⟩ hHlt hhi (Nat.mul_mod_left _ _)
 have hand : ∀ x : Nat, x < 18446744073709551616 → Go.bits .and .u64 (x : Int) 4294967295 = ((x % 4294967296 : Nat) : Int) := fun x hx => by
  (have := and_low (x := x) (r := 32) hx (by decide));(rw [show ((2 : Int) ^ 32 - 1) = 4294967295 by decide, show (2 : Nat) ^ 32 = 4294967296 by decide] at this);(exact this)
 (have hYlt : Y < 18446744073709551616 := by rw [hY]; exact hY1);(have hYge : 9223372036854775808 ≤ Y := by rw [hY]; exact hY0);(have hD : Dig (Y / 4294967296) (Y % 4294967296) (hi * 2 ^ s + H) (W / 4294967296) := ⟨by omega, by omega, by omega, by omega, by omega⟩);(obtain ⟨m, hm, hb, he2, hr⟩ := first_c hD);(have hYe : Y / 4294967296 * 4294967296 + Y % 4294967296 = Y := by rw [Nat.mul_comm]; exact Nat.div_add_mod _ _);(have hj := fin2_e (s := s) hD (show W % 4294967296 < 4294967296 by omega) (by omega));(have hl := loop0 hD _ (s : Int) _ _ (j2_e hD (show W % 4294967296 < 4294967296 by omega) (s : Int) _ hj) m _ _ hm he2 hr hb);(rw [hYe] at hl);(have hA : ((hi * 2 ^ s + H) * 4294967296 + W / 4294967296) * 4294967296 + W % 4294967296 = (hi * 18446744073709551616 + lo) * 2 ^ s := by rw [← hN]; exact join3 _ _);(rw [hA, hY, Nat.mul_div_mul_right _ _ hp, Nat.mul_mod_mul_right, Nat.mul_div_cancel _ hp, ← hY] at hl);(refine hl.congr fun k => ?_);(unfold bits_Div64.f);(rw [if_neg (by omega), if_neg (by omega), if_neg (by omega), E1, Option.bind_some, E2, E2b, if_pos (by omega), if_pos (by omega), E3, E6, E7, E8, E9, hand Y hYlt, hand W hWlt]);(rw [if_neg (by omega)]);(have c1 : (Y : Int) / 4294967296 = ((Y / 4294967296 : Nat) : Int) := by omega);(have c2 : (W : Int) / 4294967296 = ((W / 4294967296 : Nat) : Int) := by omega);(rw [c1, c2, tdiv_w (by omega), rest_w (by omega) (by omega)])
theorem divBy_any {n : Nat} (h1 : 1 ≤ n) (h2 : n < 18446744073709551616) : DivBy n := fun hi lo w h hlo => by
 by_cases h0 : hi = 0
 ·subst h0
  (have := div64_low lo n w hlo h1);(rw [Nat.zero_mul, Nat.zero_add]);(exact this)
 ·obtain ⟨k, hk⟩ := div_e (hi := hi) (lo := lo) (n := n) (by omega) h h2 hlo
  (refine (bits_Div64.calls k (hi : Int) (lo : Int) (n : Int) _ _ w (hk k (Nat.le_refl k))).mono ?_);(rintro e w' ⟨rfl, hd⟩);(exact ⟨rfl, ⟨hd.out⟩⟩)
end Go.Proofs.YtmdoljecjliehaaGreat.FV
