/- The reference's Split, as the print has it. No Go and no memory here. -/
import Derived.Test.YtfmbhfnigneenaaFSplitx1
import Derived.Test.YtfmbhfnigneenaaDig
import Derived.Test.YtfmbhfnigneenaaSpl
namespace Go.Proofs.Ytfmbhfnigneenaa.PSplit
open Go.RowKit Go.Proofs.YtfmbhfnigneenaaW.PrintWords Go.Proofs.YtfmbhfnigneenaaW.PrintLast Go.Proofs.YtfmbhfnigneenaaW.PrintMore Tn

theorem wrap_id {x : Int} (h0 : -9223372036854775808 ≤ x) (h1 : x < 9223372036854775808) : wrap64 x = x := by unfold wrap64; omega
theorem wrapu_id {x : Int} (h0 : 0 ≤ x) (h1 : x < 18446744073709551616) : IntKind.u64.wrap x = x := by rw [IntKind.wrap_u64]; omega
theorem rd_nat (l : List Int) (i : Nat) : rd l (i : Int) = l.getD i 0 := by unfold rd; rw [Int.toNat_natCast]

theorem trim_loop (l : List Int) (hl : Dig l) (hlen : l.length < 1099511627776) : ∀ (n : Nat), n ≤ l.length → (∀ j, n ≤ j → l.getD j 0 = 0) → ∀ k, n < k → tenorref1_trim.l0 k l (n : Int) = some (dg (val l)) := by
  intro n
  induction n with
  | zero =>
    intro _ hz k hk
    obtain ⟨k, rfl⟩ : ∃ m, k = m + 1 := ⟨k - 1, by omega⟩
    simp only [tenorref1_trim.l0]
    rw [if_neg (by decide), if_pos (by decide), if_pos (by omega), dg_all_zero (fun j => hz j (by omega))]
    rfl
  | succ n ih =>
    intro hn hz k hk
    obtain ⟨k, rfl⟩ : ∃ m, k = m + 1 := ⟨k - 1, by omega⟩
    simp only [tenorref1_trim.l0]
    have e1 : wrap64 (((n + 1 : Nat) : Int) - 1) = (n : Int) := by rw [wrap_id (by omega) (by omega)]; omega
    rw [if_pos (by omega), e1, if_pos (by omega), if_pos (by omega), rd_nat]
    by_cases c : l.getD n 0 = 0
    · rw [if_pos c]
      exact ih (by omega) (fun j hj => by
        by_cases e : j = n
        · rw [e]; exact c
        · exact hz j (by omega)) k (by omega)
    · rw [if_neg c, if_pos (by omega), if_pos (by omega), dg_trim hl (by omega) hz c, Int.toNat_natCast]
theorem trim_ev {l : List Int} (hl : Dig l) (hlen : l.length < 1099511627776) : Ev (fun k => tenorref1_trim.f k l) (dg (val l)) :=
  ⟨l.length + 1, fun k hk => trim_loop l hl hlen l.length (Nat.le_refl _) (fun j hj => getD_out hj) k (by omega)⟩
theorem digit_dg (v i : Nat) (hlen : (dg v).length < 1099511627776) : tenorref1_digit.f (dg v) (i : Int) = some ((v / 2 ^ (32 * i) % 4294967296 : Nat) : Int) := by
  unfold tenorref1_digit.f
  rw [if_neg (by omega), ← getD_dg, ← rd_nat]
  by_cases c : i < (dg v).length
  · rw [if_neg (by omega), if_pos (by omega), if_pos (by omega)]
  · rw [if_pos (by omega), rd_nat, getD_out (by omega)]
theorem tdiv_nat (n d : Nat) : Int.tdiv (n : Int) (d : Int) = ((n / d : Nat) : Int) := by rw [Int.tdiv_eq_ediv_of_nonneg (by omega)]; rfl
theorem tmod_nat (n d : Nat) : Int.tmod (n : Int) (d : Int) = ((n % d : Nat) : Int) := by rw [Int.tmod_eq_emod_of_nonneg (by omega)]; rfl
theorem tdivB (n : Nat) : Int.tdiv (n : Int) 4294967296 = ((n / 4294967296 : Nat) : Int) := tdiv_nat n 4294967296
theorem tmodB (n : Nat) : Int.tmod (n : Int) 4294967296 = ((n % 4294967296 : Nat) : Int) := tmod_nat n 4294967296
theorem wrapu_nat {n : Nat} (h : n < 18446744073709551616) : IntKind.u64.wrap (n : Int) = (n : Int) := wrapu_id (by omega) (by omega)
theorem digits_ev {a : Nat} (h : a < 18446744073709551616) : Ev (fun k => tenorref1_Digits.f k (a : Int)) (dg a) := by
  have e1 : Int.tmod (a : Int) 4294967296 = ((a % 4294967296 : Nat) : Int) := tmodB a
  have e2 : IntKind.u64.wrap (Int.tdiv (a : Int) 4294967296) = ((a / 4294967296 : Nat) : Int) := by rw [tdivB]; exact wrapu_nat (by omega)
  unfold tenorref1_Digits.f
  rw [e1, e2]
  have hv : val [((a % 4294967296 : Nat) : Int), ((a / 4294967296 : Nat) : Int)] = a := by
    simp only [val]; omega
  have := trim_ev (l := [((a % 4294967296 : Nat) : Int), ((a / 4294967296 : Nat) : Int)]) (Dig.mk (by omega) (by omega) (Dig.mk (by omega) (by omega) Dig.nil)) (by simp)
  rw [hv] at this
  refine Ev.bind this ?_
  exact Ev.now _
theorem low_sum {d0 d1 : Nat} (h0 : d0 < 4294967296) (h1 : d1 < 2097152) : IntKind.u64.wrap ((d0 : Int) + (IntKind.u64.wrap ((d1 : Int) * 4294967296))) = ((d0 + d1 * 4294967296 : Nat) : Int) := by
  rw [wrapu_id (x := (d1 : Int) * 4294967296) (by omega) (by omega), wrapu_id (by omega) (by omega)]; omega

theorem and_exp (x : Nat) (h : x < 18446744073709551616) : Go.bits .and .u64 ((x : Int) / 4503599627370496) 2047 = ((x / 4503599627370496 % 2048 : Nat) : Int) := by
  have h1 := u64_and_nat (x / 4503599627370496) 2047 (by omega) (by decide)
  rw [show ((2047 : Nat) : Int) = (2047 : Int) from rfl] at h1
  rw [show (x : Int) / 4503599627370496 = ((x / 4503599627370496 : Nat) : Int) from rfl, h1]
  congr 1
  exact Nat.and_two_pow_sub_one_eq_mod _ 11
theorem of_ev {a : Nat} (h : a < 18446744073709551616) (hz : mag a ≠ 0) (hf : mag a < 9218868437227405312) : Ev (fun k => tenorref1_Of.f k (a : Int)) (sgn a, dg (dm (mag a)), dp (mag a)) := by
  have e1 : wrap64 (Go.bits .and .u64 ((a : Int) / 4503599627370496) 2047) = ((mag a / 4503599627370496 : Nat) : Int) := by
    rw [and_exp a h, wrap_id (by omega) (by omega)]; unfold mag; omega
  have e2 : Go.bits .and .u64 (a : Int) 4503599627370495 = ((mag a % 4503599627370496 : Nat) : Int) := by
    rw [and_mant a h]; unfold mag; omega
  have hs : decide ((a : Int) ≥ 9223372036854775808) = sgn a := by
    unfold sgn; rw [Bool.eq_iff_iff, decide_eq_true_iff, decide_eq_true_iff]; omega
  unfold tenorref1_Of.f
  rw [e1, e2, hs]
  by_cases c : mag a < 4503599627370496
  · have ed : dm (mag a) = mag a := by unfold dm; rw [if_pos c]
    have ep : dp (mag a) = -1074 := by unfold dp; rw [if_pos c]
    rw [ed, ep, Nat.mod_eq_of_lt c]
    simp only [if_neg (show ¬ ((mag a / 4503599627370496 : Nat) : Int) > 0 by omega), if_neg (show ¬ ((mag a : Nat) : Int) = 0 by omega)]
    refine Ev.bind (digits_ev (by omega)) ?_
    exact Ev.now _
  · have ed : dm (mag a) = 4503599627370496 + mag a % 4503599627370496 := by unfold dm; rw [if_neg c]
    have ep : dp (mag a) = (mag a / 4503599627370496 : Nat) - 1075 := by unfold dp; rw [if_neg c]
    have ew : IntKind.u64.wrap (((mag a % 4503599627370496 : Nat) : Int) + 4503599627370496) = ((4503599627370496 + mag a % 4503599627370496 : Nat) : Int) := by
      rw [wrapu_id (by omega) (by omega)]; omega
    rw [ed, ep, ew, wrap_id (x := ((mag a / 4503599627370496 : Nat) : Int) - 1075) (by omega) (by omega)]
    simp only [if_pos (show ((mag a / 4503599627370496 : Nat) : Int) > 0 by omega), if_neg (show ¬ ((4503599627370496 + mag a % 4503599627370496 : Nat) : Int) = 0 by omega)]
    refine Ev.bind (digits_ev (by omega)) ?_
    exact Ev.now _
theorem dm_lt (r : Nat) : dm r < 9007199254740992 := by unfold dm; split <;> omega
theorem split_ev {a : Nat} (h : a < 18446744073709551616) : Ev (fun k => tenorref1_Split.f k (a : Int)) (spm a, spe a, fin a) := by
  have hn : tenorref1_Number.f (a : Int) = some (fin a) := by
    unfold tenorref1_Number.f
    rw [andNot_sign a h]; exact congrArg some (fin_int a)
  have hm : tenorref1_Size.f (a : Int) = some ((mag a : Nat) : Int) := by
    unfold tenorref1_Size.f; rw [andNot_sign a h]
  unfold tenorref1_Split.f
  simp only [hn, hm, Option.bind_some]
  cases hf : fin a
  · simp only [Bool.false_eq_true, if_false]
    refine ⟨1, fun k hk => ?_⟩
    obtain ⟨k, rfl⟩ : ∃ m, k = m + 1 := ⟨k - 1, by omega⟩
    simp only [tenorref1_Split.j0, if_true, hn, hf, Option.bind_some]
    unfold spm spe; rw [hf]; rfl
  · simp only [if_true]
    by_cases hz : mag a = 0
    · refine ⟨1, fun k hk => ?_⟩
      obtain ⟨k, rfl⟩ : ∃ m, k = m + 1 := ⟨k - 1, by omega⟩
      have hb : (((mag a : Nat) : Int) == 0) = true := by rw [hz]; rfl
      simp only [tenorref1_Split.j0, hb, if_true, hn, hf, Option.bind_some]
      have h0 : spm a = 0 := by unfold spm; rw [hf, hz]; simp [show dm 0 = 0 from rfl]
      have h1 : spe a = 0 := by unfold spe; rw [hf, hz]; rfl
      rw [h0, h1]
    · have hb : (((mag a : Nat) : Int) == 0) = false := by rw [beq_eq_false_iff_ne]; omega
      have hfi : mag a < 9218868437227405312 := by unfold fin at hf; exact of_decide_eq_true hf
      rw [hb]
      have hd := dm_lt (mag a)
      have hlen : (dg (dm (mag a))).length < 1099511627776 := by
        have := len_dg_le (v := dm (mag a)) (k := 2) (by omega); omega
      have d0 : tenorref1_digit.f (dg (dm (mag a))) 0 = some ((dm (mag a) / 2 ^ (32 * 0) % 4294967296 : Nat) : Int) := digit_dg (dm (mag a)) 0 hlen
      have d1 : tenorref1_digit.f (dg (dm (mag a))) 1 = some ((dm (mag a) / 2 ^ (32 * 1) % 4294967296 : Nat) : Int) := digit_dg (dm (mag a)) 1 hlen
      have hd0 : dm (mag a) / 2 ^ (32 * 0) % 4294967296 < 4294967296 := Nat.mod_lt _ (by decide)
      have hd1 : dm (mag a) / 2 ^ (32 * 1) % 4294967296 < 2097152 := by rw [show (2 : Nat) ^ (32 * 1) = 4294967296 from rfl]; omega
      have h64 : dm (mag a) / 2 ^ (32 * 0) % 4294967296 + dm (mag a) / 2 ^ (32 * 1) % 4294967296 * 4294967296 = dm (mag a) := by
        rw [show 2 ^ (32 * 0) = 1 from rfl, show (2 : Nat) ^ (32 * 1) = 4294967296 from rfl]; omega
      have hw : wrap64 ((dm (mag a) : Nat) : Int) = ((dm (mag a) : Nat) : Int) := wrap_id (by omega) (by omega)
      have hw2 : wrap64 (-((dm (mag a) : Nat) : Int)) = -((dm (mag a) : Nat) : Int) := wrap_id (by omega) (by omega)
      refine Ev.step (f := fun k => (tenorref1_Of.f k (a : Int)).bind fun bt125 => ((tenorref1_digit.f bt125.2.1 0).bind fun t131 => ((tenorref1_digit.f bt125.2.1 1).bind fun t132 => (if bt125.1 = true then (some (wrap64 (-(wrap64 (IntKind.u64.wrap (t131 + (IntKind.u64.wrap (t132 * 4294967296)))))), bt125.2.2, true)) else (some (wrap64 (IntKind.u64.wrap (t131 + (IntKind.u64.wrap (t132 * 4294967296)))), bt125.2.2, true)))))) (fun k => ?_) ?_
      · simp only [tenorref1_Split.j0, Bool.false_eq_true, if_false]
      · refine Ev.bind (of_ev h hz hfi) ?_
        simp only [d0, d1, Option.bind_some, low_sum hd0 hd1, h64, hw, hw2]
        have hp : spe a = dp (mag a) := by unfold spe; rw [hf, if_pos rfl, if_neg hz]
        have hq : spm a = if sgn a = true then -((dm (mag a) : Nat) : Int) else ((dm (mag a) : Nat) : Int) := by unfold spm; rw [hf, if_pos rfl]
        rw [hp, hq]
        cases sgn a
        · simp only [Bool.false_eq_true, if_false]; exact Ev.now _
        · simp only [if_true]; exact Ev.now _
end Go.Proofs.Ytfmbhfnigneenaa.PSplit
