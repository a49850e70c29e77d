/- The reference's product of floats is the program's, wherever it is a number. No Go and no memory here. -/
import Derived.Test.YtepcegiciecogaaGreatRefQ
import Derived.Test.YtepcegiciecogaaGreatFy
namespace Go.Proofs.YtepcegiciecogaaGreat.FR
open Go.RowKit Go.Proofs.YtepcegiciecogaaGreatW.PrintWords Go.Proofs.YtepcegiciecogaaGreatW.PrintLast Go.Proofs.YtepcegiciecogaaGreatW.PrintMore Tn
set_option linter.unusedVariables false

theorem nan_v {a : Nat} (h : a < 18446744073709551616) : tenorref1_IsNaN.f (a : Int) = some (nan a) := by
  unfold tenorref1_IsNaN.f; rw [andNot_sign a h]; exact congrArg some (nan_int a)
theorem inf_v {a : Nat} (h : a < 18446744073709551616) : tenorref1_IsInf.f (a : Int) = some (isinf a) := by
  unfold tenorref1_IsInf.f; rw [andNot_sign a h]; exact congrArg some (isinf_int a)
theorem size_v {a : Nat} (h : a < 18446744073709551616) : tenorref1_Size.f (a : Int) = some ((mag a : Nat) : Int) := by
  unfold tenorref1_Size.f; rw [andNot_sign a h]
theorem bit63 {x : Nat} (h : x < 18446744073709551616) : x.testBit 63 = sgn x := by
  rw [Nat.testBit_eq_decide_div_mod_eq]
  unfold sgn
  rw [show (2 : Nat) ^ 63 = 9223372036854775808 from rfl, Bool.eq_iff_iff, decide_eq_true_iff, decide_eq_true_iff]
  omega
theorem sgn_xor {x y : Nat} (hx : x < 18446744073709551616) (hy : y < 18446744073709551616) : (x ^^^ y) &&& 9223372036854775808 = if (sgn x != sgn y) = true then 9223372036854775808 else 0 := by
  apply Nat.eq_of_testBit_eq
  intro i
  rw [Nat.testBit_and, Nat.testBit_xor, show (9223372036854775808 : Nat) = 2 ^ 63 from rfl, Nat.testBit_two_pow]
  by_cases c : 63 = i
  · subst c
    rw [bit63 hx, bit63 hy, decide_eq_true rfl, Bool.and_true]
    cases sgn x <;> cases sgn y <;> simp <;> decide
  · rw [decide_eq_false c, Bool.and_false]
    split
    · rw [Nat.testBit_two_pow, decide_eq_false c]
    · rw [Nat.zero_testBit]
def sX (x y : Nat) : Nat := if (sgn x != sgn y) = true then 9223372036854775808 else 0
theorem sX_val {x y : Nat} (hx : x < 18446744073709551616) (hy : y < 18446744073709551616) : Go.bits .and .u64 (Go.bits .xor .u64 (x : Int) (y : Int)) 9223372036854775808 = ((sX x y : Nat) : Int) := by
  have hlt : x ^^^ y < 18446744073709551616 := Nat.xor_lt_two_pow (n := 64) hx hy
  rw [u64_xor_nat x y hx hy]
  have := u64_and_nat (x ^^^ y) 9223372036854775808 hlt (by decide)
  rw [show ((9223372036854775808 : Nat) : Int) = (9223372036854775808 : Int) from rfl] at this
  rw [this, sgn_xor hx hy]; rfl
/-- the product of two numbers. -/
def mulN (x y : Nat) : Nat := sX x y + nr (dm (mag x) * dm (mag y)) (dp (mag x) + dp (mag y))
theorem mulN_lt (x y : Nat) : mulN x y < 18446744073709551616 := by
  unfold mulN sX
  have := nr_le (dm (mag x) * dm (mag y)) (dp (mag x) + dp (mag y))
  split <;> omega
theorem mul_fin {x y : Nat} (hx : x < 18446744073709551616) (hy : y < 18446744073709551616) (fx : fin x = true) (fy : fin y = true) : Ieee.double.mul x y = some (mulN x y) := by
  unfold Ieee.Format.mul
  rw [read_fin hx fx, read_fin hy fy]
  show some (Ieee.double.nearest (sgn x ^^ sgn y) (dm (mag x) * dm (mag y)) (dp (mag x) + dp (mag y))) = _
  rw [nearest_nr]
  unfold mulN sX
  cases sgn x <;> cases sgn y <;> rfl
theorem fin_three {y : Nat} (h : fin y = false) : isinf y = true ∨ nan y = true := by
  rcases kinds y with h1 | h1
  · rw [h] at h1; cases h1
  · exact h1
theorem fin_mag {y : Nat} : fin y = false ↔ 9218868437227405312 ≤ mag y := by
  unfold fin
  constructor
  · intro h; have := of_decide_eq_false h; omega
  · intro h; exact decide_eq_false (by omega)
theorem mul_nofin {x y : Nat} (hx : x < 18446744073709551616) (hy : y < 18446744073709551616) (fx : fin x = true) (fy : fin y = false) {r : Nat} (h : Ieee.double.mul x y = some r) : fin r = false := by
  unfold Ieee.Format.mul at h
  rw [read_fin hx fx] at h
  rcases fin_three fy with hi | hn
  · rw [read_inf hy hi] at h
    have e : (Ieee.Datum.number (sgn x) (dm (mag x)) (dp (mag x))).product (Ieee.Datum.infinity (sgn y)) = if dm (mag x) = 0 then none else some (.infinity (sgn y ^^ sgn x)) := rfl
    rw [e] at h
    split at h
    · cases h
    · have h2 := Option.some.inj h
      rw [← h2]
      cases sgn y <;> cases sgn x <;> decide +kernel
  · obtain ⟨s, t, ht⟩ := read_nan hn
    rw [ht] at h
    have e : (Ieee.Datum.number (sgn x) (dm (mag x)) (dp (mag x))).product (Ieee.Datum.nan s t) = none := rfl
    rw [e] at h; cases h
theorem rmul_j1 {x y : Nat} (hx : x < 18446744073709551616) (hy : y < 18446744073709551616) (fx : fin x = true) (fy : fin y = true) (s : Nat) (hs : s = 0 ∨ s = 9223372036854775808) :
    Ev (fun k => tenorref1_Mul.j1 k (x : Int) (y : Int) (s : Int) false) ((s + nr (dm (mag x) * dm (mag y)) (dp (mag x) + dp (mag y)) : Nat) : Int) := by
  refine Ev.step (fun k => rfl) ?_
  simp only [tenorref1_Mul.j1, Bool.false_eq_true, if_false]
  refine Ev.bind (of_ev hx) ?_
  refine Ev.bind (of_ev hy) ?_
  have bx := ofE_bd fx
  have byy := ofE_bd fy
  have lx := ofV_len x
  have ly := ofV_len y
  refine Ev.bind (times_ev (s1 := ofS x) (v1 := ofV x) (e1 := ofE x) (s2 := ofS y) (v2 := ofV y) (e2 := ofE y) (by omega) (by omega) (by omega) (by omega)) ?_
  have hnr := nr_le (dm (mag x) * dm (mag y)) (dp (mag x) + dp (mag y))
  have fin_ : ∀ r : Nat, r ≤ 9218868437227405312 → IntKind.u64.wrap ((s : Int) + (r : Int)) = ((s + r : Nat) : Int) := fun r hr => wrapu_add (by omega)
  by_cases c : ofV x = 0 ∨ ofV y = 0
  · simp only [if_pos c]
    have e0 : dm (mag x) * dm (mag y) = 0 := by
      rcases c with c | c
      · have : dm (mag x) = 0 := c
        rw [this, Nat.zero_mul]
      · have : dm (mag y) = 0 := c
        rw [this, Nat.mul_zero]
    rw [e0, nr_zero]
    have hn := near_ev (v := 0) (e := 0) (by rw [dg_zero]; decide) (by decide) false (by decide) (by decide)
    rw [dg_zero, if_pos rfl] at hn
    refine Ev.bind hn ?_
    have hsz : tenorref1_Size.f ((0 : Nat) : Int) = some ((mag 0 : Nat) : Int) := size_v (by decide)
    simp only [hsz, Option.bind_some]
    rw [show mag 0 = 0 by decide, fin_ 0 (by decide)]
    exact Ev.now _
  · simp only [if_neg c]
    have cx : mag x ≠ 0 := fun h0 => c (Or.inl (dm_zero.2 h0))
    have cy : mag y ≠ 0 := fun h0 => c (Or.inr (dm_zero.2 h0))
    have ex : ofE x = dp (mag x) := by unfold ofE; rw [if_neg cx]
    have ey : ofE y = dp (mag y) := by unfold ofE; rw [if_neg cy]
    have hv0 : ofV x * ofV y ≠ 0 := Nat.mul_ne_zero (fun h => c (Or.inl h)) (fun h => c (Or.inr h))
    have hlt : ofV x * ofV y < 2 ^ (32 * 4) := by
      have h1 : ofV x < 18446744073709551616 := by unfold ofV dm; split <;> omega
      have h2 : ofV y < 18446744073709551616 := by unfold ofV dm; split <;> omega
      have h3 : ofV x * ofV y ≤ 18446744073709551615 * 18446744073709551615 := Nat.mul_le_mul (by omega) (by omega)
      rw [show (2 : Nat) ^ (32 * 4) = 340282366920938463463374607431768211456 from rfl]; omega
    have hlen := len_dg_le hlt
    have hbl : bl (ofV x * ofV y) ≤ 32 * 4 := bl_le_of hlt
    refine Ev.bind (near_ev (by omega) (by omega) _ (by omega) (by omega)) ?_
    rw [if_neg hv0, ex, ey]
    have hnr2 : nr (ofV x * ofV y) (dp (mag x) + dp (mag y)) = nr (dm (mag x) * dm (mag y)) (dp (mag x) + dp (mag y)) := rfl
    rw [hnr2]
    generalize nr (dm (mag x) * dm (mag y)) (dp (mag x) + dp (mag y)) = r at *
    have hsg : sgR (ofS x != ofS y) = 0 ∨ sgR (ofS x != ofS y) = 9223372036854775808 := by unfold sgR; split <;> omega
    have hsz : tenorref1_Size.f ((sgR (ofS x != ofS y) + r : Nat) : Int) = some ((r : Nat) : Int) := by
      rw [size_v (by omega)]
      congr 2
      unfold mag; omega
    simp only [hsz, Option.bind_some, fin_ r hnr]
    exact Ev.now _
theorem rmul_j0 {x y : Nat} (hx : x < 18446744073709551616) (hy : y < 18446744073709551616) (s : Nat) (hs : s = 0 ∨ s = 9223372036854775808) :
    (fin x = true → fin y = true → Ev (fun k => tenorref1_Mul.j0 k (x : Int) (y : Int) (s : Int) false) ((s + nr (dm (mag x) * dm (mag y)) (dp (mag x) + dp (mag y)) : Nat) : Int)) ∧
    (fin x = true → isinf y = true → Ev (fun k => tenorref1_Mul.j0 k (x : Int) (y : Int) (s : Int) false) ((s + 9218868437227405312 : Nat) : Int)) := by
  have hfi : ∀ {a : Nat}, fin a = true → isinf a = false := fun {a} h => by
    unfold fin at h; unfold isinf
    have := of_decide_eq_true h
    exact decide_eq_false (by omega)
  constructor
  · intro fx fy
    refine Ev.step (fun k => rfl) ?_
    simp only [tenorref1_Mul.j0, Bool.false_eq_true, if_false, inf_v hx, inf_v hy, Option.bind_some, hfi fx, hfi fy]
    exact rmul_j1 hx hy fx fy s hs
  · intro fx iy
    refine Ev.step (fun k => rfl) ?_
    simp only [tenorref1_Mul.j0, Bool.false_eq_true, if_false, inf_v hx, inf_v hy, Option.bind_some, hfi fx, iy]
    refine Ev.step (fun k => rfl) ?_
    simp only [tenorref1_Mul.j1, if_true]
    rw [show IntKind.u64.wrap ((s : Int) + 9218868437227405312) = ((s + 9218868437227405312 : Nat) : Int) by
      have := wrapu_add (a := s) (b := 9218868437227405312) (by omega)
      exact this]
    exact Ev.now _
/-- of a number and any float: the product, if that is a number; no number, if it is none. -/
theorem rmul_e {x y : Nat} (hx : x < 18446744073709551616) (hy : y < 18446744073709551616) (fx : fin x = true) :
    ∃ r : Nat, r < 18446744073709551616 ∧ Ev (fun k => tenorref1_Mul.f k (x : Int) (y : Int)) (r : Int) ∧ ((fmulK x y = true ∧ fin (fmulV x y) = true ∧ r = fmulV x y) ∨ ((fmulK x y = true → fin (fmulV x y) = false ∧ fmulV x y < 18446744073709551616) ∧ fin r = false)) := by
  have hsX : sX x y = 0 ∨ sX x y = 9223372036854775808 := by unfold sX; split <;> omega
  have nx : nan x = false := by
    unfold fin at fx; unfold nan
    have := of_decide_eq_true fx
    exact decide_eq_false (by omega)
  have ix : isinf x = false := by
    unfold fin at fx; unfold isinf
    have := of_decide_eq_true fx
    exact decide_eq_false (by omega)
  have jT : Ev (fun k => tenorref1_Mul.j0 k (x : Int) (y : Int) ((sX x y : Nat) : Int) true) ((9221120237041090561 : Nat) : Int) := by
    refine Ev.step (fun k => rfl) ?_
    simp only [tenorref1_Mul.j0, if_true]
    exact Ev.now _
  have hbad : ∀ r : Nat, fin y = false → fmulK x y = true → fin (fmulV x y) = false ∧ fmulV x y < 18446744073709551616 := by
    intro _ fy hk
    unfold fmulK at hk
    obtain ⟨q, hq⟩ := Option.isSome_iff_exists.1 hk
    have e : fmulV x y = q := by unfold fmulV; rw [hq]; rfl
    rw [e]
    refine ⟨mul_nofin hx hy fx fy hq, ?_⟩
    unfold Ieee.Format.mul at hq
    obtain ⟨d, _, hd⟩ := Option.map_eq_some_iff.1 hq
    rw [← hd]
    exact Ieee.double.write_lt d
  cases fy : fin y
  · rcases fin_three fy with iy | ny
    · have ny : nan y = false := by
        unfold isinf at iy; unfold nan
        have := of_decide_eq_true iy
        exact decide_eq_false (by omega)
      by_cases cx : mag x = 0
      · refine ⟨9221120237041090561, by decide, ?_, Or.inr ⟨hbad 0 fy, by decide⟩⟩
        unfold tenorref1_Mul.f
        simp only [nan_v hx, nan_v hy, inf_v hx, inf_v hy, size_v hx, size_v hy, Option.bind_some, nx, ny, ix, iy, Bool.false_eq_true, if_false, if_true, sX_val hx hy, cx]
        exact jT
      · refine ⟨sX x y + 9218868437227405312, by omega, ?_, Or.inr ⟨hbad 0 fy, ?_⟩⟩
        · unfold tenorref1_Mul.f
          simp only [nan_v hx, nan_v hy, inf_v hx, inf_v hy, size_v hx, size_v hy, Option.bind_some, nx, ny, ix, iy, Bool.false_eq_true, if_false, if_true, sX_val hx hy]
          rw [show (((mag x : Nat) : Int) == 0) = false from beq_eq_false_iff_ne.2 (by omega)]
          exact (rmul_j0 hx hy (sX x y) hsX).2 fx iy
        · rw [fin_mag]; unfold mag; omega
    · refine ⟨9221120237041090561, by decide, ?_, Or.inr ⟨hbad 0 fy, by decide⟩⟩
      unfold tenorref1_Mul.f
      simp only [nan_v hx, nan_v hy, Option.bind_some, nx, ny, Bool.false_eq_true, if_false, if_true, sX_val hx hy]
      exact jT
  · have ny : nan y = false := by
      unfold fin at fy; unfold nan
      have := of_decide_eq_true fy
      exact decide_eq_false (by omega)
    have iy : isinf y = false := by
      unfold fin at fy; unfold isinf
      have := of_decide_eq_true fy
      exact decide_eq_false (by omega)
    have hm := mul_fin hx hy fx fy
    have hK : fmulK x y = true := by unfold fmulK; rw [hm]; rfl
    have hV : fmulV x y = mulN x y := by unfold fmulV; rw [hm]; rfl
    refine ⟨mulN x y, mulN_lt x y, ?_, ?_⟩
    · unfold tenorref1_Mul.f
      simp only [nan_v hx, nan_v hy, inf_v hx, inf_v hy, Option.bind_some, nx, ny, ix, iy, Bool.false_eq_true, if_false, sX_val hx hy]
      exact (rmul_j0 hx hy (sX x y) hsX).1 fx fy
    · rw [hV]
      cases hf : fin (mulN x y)
      · exact Or.inr ⟨fun _ => ⟨rfl, mulN_lt x y⟩, rfl⟩
      · exact Or.inl ⟨hK, rfl, rfl⟩
/-- the other sign. -/
theorem flip_v {x : Nat} (h : x < 18446744073709551616) : tenorref1_Flip.f (x : Int) = some ((fneg x : Nat) : Int) := by
  unfold tenorref1_Flip.f
  have := u64_xor_nat x 9223372036854775808 h (by decide)
  rw [show ((9223372036854775808 : Nat) : Int) = (9223372036854775808 : Int) from rfl] at this
  rw [this]; rfl
end Go.Proofs.YtepcegiciecogaaGreat.FR
