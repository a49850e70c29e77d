/- Quantile, Mean and Count, plainly: whatever the order. No walk. -/
import Derived.Test.YtepcegiciecogaaGreatBb
import Derived.Test.YtepcegiciecogaaGreatAy
import Derived.Test.YtepcegiciecogaaGreatMon
import Derived.Sort.AssemblyPlain
namespace Go.Proofs.YtepcegiciecogaaGreat.FG
open Go.RowKit Go.Proofs.YtepcegiciecogaaGreatW.PrintWords Go.Proofs.YtepcegiciecogaaGreatW.PrintLast Go.Proofs.YtepcegiciecogaaGreatW.PrintMore Tn Go.Shelf
open Go.Proofs.YtepcegiciecogaaGreat.FX Go.Proofs.YtepcegiciecogaaGreat.EV
set_option linter.unusedVariables false

/-! ### sorted -/
theorem fin_of {l : List Nat} (hf : allF l = true) {x : Nat} (hx : x ∈ l) : fin x = true := List.all_eq_true.1 hf x hx
/-! ### Quantile and Mean -/
def chkN (l : List Nat) : Int := if l.length = 0 then 100 else if 1048576 < l.length then 100 else if allF l = true then 0 else 91
theorem check_e (l : List Nat) (hw : okN l) (hl : l.length < 4611686018427387904) : Evt (fun k => grid_check.f k l) (chkN l) := by
  unfold grid_check.f chkN
  by_cases h0 : l.length = 0
  · rw [if_pos h0]; exact Evt.ifT (by omega) (Evt.const fun _ => rfl)
  · rw [if_neg h0]
    refine Evt.ifF (by omega) ?_
    by_cases h1 : 1048576 < l.length
    · rw [if_pos h1]; exact Evt.ifT (by omega) (Evt.const fun _ => rfl)
    · rw [if_neg h1]
      exact Evt.ifF (by omega) ((numbers_e l hw hl).bind (Evt.const fun _ => rfl))
theorem chkN_ok {l : List Nat} (h : chkN l = 0) : 1 ≤ l.length ∧ l.length ≤ 1048576 ∧ allF l = true := by
  unfold chkN at h
  by_cases h0 : l.length = 0
  · rw [if_pos h0] at h; exact absurd h (by decide)
  · rw [if_neg h0] at h
    by_cases h1 : 1048576 < l.length
    · rw [if_pos h1] at h; exact absurd h (by decide)
    · rw [if_neg h1] at h
      by_cases h2 : allF l = true
      · exact ⟨by omega, by omega, h2⟩
      · rw [if_neg h2] at h; exact absurd h (by decide)
/-- which one. -/
def kth (n : Nat) (p q : Nat) : Nat := max ((n * p + q - 1) / q) 1
def quantF (l : List Nat) (p q : Int) : Nat × Int :=
  if chkN l = 0 then (if q < 1 ∨ q > 1000000 ∨ p < 0 ∨ p > q then (0, 1) else ((sortF l).getD (kth l.length p.toNat q.toNat - 1) 0, 0)) else (0, chkN l)
theorem kth_le {n p q : Nat} (h : p ≤ q) (hq : 1 ≤ q) (hn : 1 ≤ n) : 1 ≤ kth n p q ∧ kth n p q ≤ n ∧ n * p ≤ kth n p q * q := by
  unfold kth
  have h1 : n * p ≤ n * q := Nat.mul_le_mul_left _ h
  have h2 : (n * p + q - 1) / q ≤ n := by
    rw [Nat.div_le_iff_le_mul_add_pred (by omega)]
    rw [Nat.mul_comm] at h1 ⊢
    rw [Nat.mul_comm q n]
    rw [Nat.mul_comm p n, Nat.mul_comm n q, Nat.mul_comm q n] at *
    omega
  have h3 := Nat.div_add_mod (n * p + q - 1) q
  have h4 := Nat.mod_lt (n * p + q - 1) (show 0 < q by omega)
  refine ⟨by omega, by omega, ?_⟩
  have h5 : (n * p + q - 1) / q ≤ max ((n * p + q - 1) / q) 1 := Nat.le_max_left _ _
  have h6 := Nat.mul_le_mul_right q h5
  rw [Nat.mul_comm q] at h3
  omega
theorem quant_e (l : List Nat) (hw : okN l) (hl : l.length ≤ 1000) (p q : Int) : Evt (fun k => grid_Quantile.f k l p q) (quantF l p q) := by
  unfold grid_Quantile.f
  refine (check_e l hw (by omega)).bind ?_
  by_cases hc : chkN l = 0
  · refine Evt.ifT hc ?_
    have hq : quantF l p q = if q < 1 ∨ q > 1000000 ∨ p < 0 ∨ p > q then (0, 1) else ((sortF l).getD (kth l.length p.toNat q.toNat - 1) 0, 0) := by unfold quantF; rw [if_pos hc]
    obtain ⟨c1, c2, c3⟩ := chkN_ok hc
    by_cases h1 : q < 1
    · rw [hq.trans (if_pos (.inl h1))]; exact Evt.ifT h1 (Evt.const fun _ => rfl)
    · refine Evt.ifF h1 ?_
      by_cases h2 : q > 1000000
      · rw [hq.trans (if_pos (.inr (.inl h2)))]; exact Evt.ifT h2 (Evt.const fun _ => rfl)
      · refine Evt.ifF h2 ?_
        by_cases h3 : p < 0
        · rw [hq.trans (if_pos (.inr (.inr (.inl h3))))]; exact Evt.ifT h3 (Evt.const fun _ => rfl)
        · refine Evt.ifF h3 ?_
          by_cases h4 : p > q
          · rw [hq.trans (if_pos (.inr (.inr (.inr h4))))]; exact Evt.ifT h4 (Evt.const fun _ => rfl)
          · rw [hq.trans (if_neg (by omega))]
            refine Evt.ifF h4 (Evt.ifF (by omega) ?_)
            obtain ⟨P, rfl⟩ : ∃ P : Nat, p = P := ⟨p.toNat, by omega⟩
            obtain ⟨Q, rfl⟩ : ∃ Q : Nat, q = Q := ⟨q.toNat, by omega⟩
            rw [Int.toNat_natCast, Int.toNat_natCast]
            have hk := kth_le (n := l.length) (p := P) (q := Q) (by omega) (by omega) c1
            have hs : ieee_Sort.f l = some (sortF l) := by
              unfold ieee_Sort.f
              rw [if_pos ⟨List.all_eq_true.2 fun x hx => decide_eq_true (hw x hx), by omega⟩]
            refine Evt.after hs ?_
            have hb : l.length * P ≤ 1000 * 1000000 := Nat.mul_le_mul hl (by omega)
            have e1 : wrap64 (wrap64 (wrap64 ((l.length : Int) * (P : Int)) + (Q : Int)) - 1) = ((l.length * P + Q - 1 : Nat) : Int) := by
              rw [← Int.natCast_mul, w64 (i := ((l.length * P : Nat) : Int)) (by omega) (by omega), w64 (i := ((l.length * P : Nat) : Int) + Q) (by omega) (by omega), w64 (by omega) (by omega)]
              omega
            have e2 : wrap64 (Int.tdiv ((l.length * P + Q - 1 : Nat) : Int) (Q : Int)) = (((l.length * P + Q - 1) / Q : Nat) : Int) := by
              have hd := Nat.div_le_self (l.length * P + Q - 1) Q
              rw [Int.tdiv_eq_ediv_of_nonneg (by omega), ← Int.natCast_ediv]
              generalize (l.length * P + Q - 1) / Q = D at hd ⊢
              exact w64 (by omega) (by omega)
            have e3 : wrap64 (mx (((l.length * P + Q - 1) / Q : Nat) : Int) 1 - 1) = ((kth l.length P Q - 1 : Nat) : Int) := by
              unfold kth at hk ⊢
              have hm : mx (((l.length * P + Q - 1) / Q : Nat) : Int) 1 = ((max ((l.length * P + Q - 1) / Q) 1 : Nat) : Int) := by unfold mx; omega
              rw [hm, w64 (by omega) (by omega)]
              omega
            rw [e1, e2, e3]
            have hlen := sortF_len l
            refine Evt.ifT (by omega) (Evt.ifT (by omega) (Evt.const fun _ => ?_))
            congr 2
  · rw [show quantF l p q = (0, chkN l) by unfold quantF; rw [if_neg hc]]; exact Evt.ifF hc (Evt.const fun _ => rfl)
def meanE (l : List Nat) : Nat × Int := if chkN l = 0 then (meanF l, 0) else (0, chkN l)
theorem good_of {l : List Nat} (hw : okN l) (h : chkN l = 0) : goodN l = true := by
  obtain ⟨c1, c2, c3⟩ := chkN_ok h
  unfold goodN
  rw [Bool.and_eq_true, List.all_eq_true]
  exact ⟨decide_eq_true ⟨c1, c2⟩, fun x hx => by rw [Bool.and_eq_true, decide_eq_true_iff]; exact ⟨hw x hx, fin_of c3 hx⟩⟩
theorem mean_e (l : List Nat) (hw : okN l) (hl : l.length < 4611686018427387904) : Evt (fun k => grid_Mean.f k l) (meanE l) := by
  unfold grid_Mean.f
  refine (check_e l hw hl).bind ?_
  by_cases hc : chkN l = 0
  · rw [show meanE l = (meanF l, 0) by unfold meanE; rw [if_pos hc]]
    exact Evt.ifT hc (Evt.const fun _ => if_pos (good_of hw hc))
  · rw [show meanE l = (0, chkN l) by unfold meanE; rw [if_neg hc]]
    exact Evt.ifF hc (Evt.const fun _ => rfl)
/-! ### Count -/
/-! ### the mean lies between -/
end Go.Proofs.YtepcegiciecogaaGreat.FG
