/- Lists of flows, plainly: Check, Same, Give, Scale, windows. No walk. -/
import Derived.Test.YtepcegiciecogaaGreatFBx1
import Derived.Test.YtepcegiciecogaaGreatFBx2
import Derived.Test.YtepcegiciecogaaGreatFBx3
import Derived.Test.YtepcegiciecogaaGreatFBx4
import Derived.Test.YtepcegiciecogaaGreatAq
import Derived.Test.YtepcegiciecogaaGreatPl
namespace Go.Proofs.YtepcegiciecogaaGreat.FP
open Go.RowKit Go.Proofs.YtepcegiciecogaaGreatW.PrintWords Go.Proofs.YtepcegiciecogaaGreatW.PrintLast Go.Proofs.YtepcegiciecogaaGreatW.PrintMore Tn
open Go.Proofs.YtepcegiciecogaaGreat.FX Go.Proofs.YtepcegiciecogaaGreat.FB
set_option linter.unusedVariables false

theorem wr {i n : Nat} (h : i < n) (hn : n ≤ 1152921504606846976) : wrap64 ((i : Int) + 1) = ((i + 1 : Nat) : Int) := by unfold wrap64; omega
theorem up {α : Type} {f : Nat → Option α} (hm : ∀ k, LeO (f k) (f (k + 1))) {k : Nat} {r : α} (h : f k = some r) : ∀ n, f (k + n) = some r
  | 0 => h
  | n + 1 => hm (k + n) r (up hm h n)
/-- it is told from some round on. -/
def Evt {α : Type} (f : Nat → Option α) (r : α) : Prop := ∃ k, ∀ n, k ≤ n → f n = some r
theorem evt {α : Type} {f : Nat → Option α} (hm : ∀ k, LeO (f k) (f (k + 1))) {r : α} (h : ∃ k, f k = some r) : Evt f r := by
  obtain ⟨k, hk⟩ := h
  refine ⟨k, fun n hn => ?_⟩
  have := up hm hk (n - k)
  rwa [show k + (n - k) = n by omega] at this
theorem Evt.bind {α β : Type} {f : Nat → Option α} {g : Nat → α → Option β} {a : α} {b : β} (h1 : Evt f a) (h2 : Evt (fun k => g k a) b) : Evt (fun k => (f k).bind (g k)) b := by
  obtain ⟨k, hk⟩ := h1
  obtain ⟨m, hm⟩ := h2
  refine ⟨k + m, fun n hn => ?_⟩
  show (f n).bind (g n) = some b
  rw [hk n (by omega), Option.bind_some]
  exact hm n (by omega)
theorem Evt.const {α : Type} {f : Nat → Option α} {r : α} (h : ∀ k, f k = some r) : Evt f r := ⟨0, fun n _ => h n⟩
theorem Evt.next {α : Type} {f g : Nat → Option α} {r : α} (h : Evt f r) (he : ∀ k, g (k + 1) = f k) : Evt g r := by
  obtain ⟨k, hk⟩ := h
  refine ⟨k + 1, fun n hn => ?_⟩
  obtain ⟨m, rfl⟩ : ∃ m, n = m + 1 := ⟨n - 1, by omega⟩
  rw [he m]; exact hk m (by omega)
theorem Evt.congr {α : Type} {f g : Nat → Option α} {r : α} (h : Evt f r) (he : ∀ k, g k = f k) : Evt g r := by
  obtain ⟨k, hk⟩ := h
  exact ⟨k, fun n hn => by rw [he n]; exact hk n hn⟩

/-! ### lists -/
def toR (x : S46) : S79 := ⟨x.f0, x.f1, x.f2⟩
theorem rdR_at {l : List S46} {i : Nat} (hi : i < l.length) : rd_T79 (l.map toR) (i : Int) = toR l[i] := by
  unfold rd_T79
  rw [Int.toNat_natCast, List.getD_eq_getElem?_getD, List.getElem?_map, List.getElem?_eq_getElem hi]; rfl
/-! ### Check -/
/-- what is wrong, from place i on. -/
def chkF : List S46 → Int → Int × Int
  | [], _ => (0, 0)
  | x :: l, i => if x.f0 < 0 ∨ x.f0 > 109572 then (51, i) else if fin x.f1 = true then (if 1 ≤ x.f2 ∧ x.f2 ≤ 8 then chkF l (i + 1) else (140, i)) else (91, i)
theorem cur_f (c : Int) : flow_currency.f c = some (decide (1 ≤ c ∧ c ≤ 8)) := by
  unfold flow_currency.f
  by_cases h : c ≥ 1
  · rw [if_pos h]; congr 1; exact decide_eq_decide.2 ⟨fun h2 => ⟨h, h2⟩, fun h2 => h2.2⟩
  · rw [if_neg h, decide_eq_false (fun h2 => h h2.1)]
theorem rcur_f (c : Int) : tenorref14_Cur.f c = some (decide (1 ≤ c ∧ c ≤ 8)) := cur_f c
theorem num_f {a : Nat} (h : a < 18446744073709551616) : flow_number.f a = some (fin a) := if_pos h
theorem rnum_f {a : Nat} (h : a < 18446744073709551616) : tenorref1_Number.f (a : Int) = some (fin a) := by
  unfold tenorref1_Number.f
  rw [andNot_sign a h]
  exact congrArg some (fin_int a)
theorem chk_go (l : List S46) (hw : ∀ x ∈ l, x.f1 < 18446744073709551616) (hl : l.length ≤ 4096) : ∀ m i : Nat, i + m = l.length → ∃ k, flow_Check.l0 k l (l.length : Int) (i : Int) = some (chkF (l.drop i) i)
  | 0, i, h => ⟨1, by
    rw [flow_Check.l0, if_neg (by omega), List.drop_of_length_le (by omega)]; rfl⟩
  | m + 1, i, h => by
    obtain ⟨k, hk⟩ := chk_go l hw hl m (i + 1) (by omega)
    have hi : i < l.length := by omega
    have hwx := hw _ (List.getElem_mem hi)
    refine ⟨k + 2, ?_⟩
    rw [List.drop_eq_getElem_cons hi, flow_Check.l0, if_pos (by omega), if_pos (by omega), if_pos (by omega), rd_at hi]
    generalize l[i] = x at hwx ⊢
    rw [chkF]
    by_cases h0 : x.f0 < 0
    · rw [if_pos h0, if_pos (.inl h0), flow_Check.j1, if_pos rfl]
    · rw [if_neg h0, flow_Check.j1]
      by_cases h1 : x.f0 > 109572
      · rw [if_pos (decide_eq_true h1), if_pos (.inr h1)]
      · rw [if_neg (by simpa using h1), if_neg (show ¬ (x.f0 < 0 ∨ x.f0 > 109572) by omega), num_f hwx, Option.bind_some]
        by_cases h2 : fin x.f1 = true
        · rw [if_pos h2, if_pos h2, cur_f, Option.bind_some]
          by_cases h3 : 1 ≤ x.f2 ∧ x.f2 ≤ 8
          · rw [if_pos (decide_eq_true h3), if_pos h3, wr hi (by omega), hk]; rfl
          · rw [if_neg (by simpa using h3), if_neg h3]
        · rw [if_neg h2, if_neg h2]
theorem rchk_go (l : List S46) (hw : ∀ x ∈ l, x.f1 < 18446744073709551616) (hl : l.length ≤ 4096) : ∀ m i : Nat, i + m = l.length → ∃ k, tenorref14_Check.l0 k (l.map toR) (i : Int) = some (chkF (l.drop i) i)
  | 0, i, h => ⟨1, by
    rw [tenorref14_Check.l0, if_neg (by rw [List.length_map]; omega), List.drop_of_length_le (by omega)]; rfl⟩
  | m + 1, i, h => by
    obtain ⟨k, hk⟩ := rchk_go l hw hl m (i + 1) (by omega)
    have hi : i < l.length := by omega
    have hwx := hw _ (List.getElem_mem hi)
    refine ⟨k + 2, ?_⟩
    rw [List.drop_eq_getElem_cons hi, tenorref14_Check.l0, if_pos (by rw [List.length_map]; omega), if_pos (by omega), rdR_at hi]
    have hr := rdR_at hi
    generalize l[i] = x at hwx hr ⊢
    rw [chkF]
    have e0 : (toR x).f0 = x.f0 := rfl
    rw [e0]
    by_cases h0 : x.f0 < 0
    · rw [if_pos h0, if_pos (.inl h0), tenorref14_Check.j1, if_pos rfl]
    · rw [if_neg h0, tenorref14_Check.j1]
      by_cases h1 : x.f0 > 109572
      · rw [if_pos (decide_eq_true h1), if_pos (.inr h1)]
      · rw [if_neg (by simpa using h1), if_neg (show ¬ (x.f0 < 0 ∨ x.f0 > 109572) by omega), if_pos (show (0 : Int) ≤ (i : Int) by omega), if_pos (show (i : Int) < ((l.map toR).length : Int) by rw [List.length_map]; omega), hr]
        have e1 : (toR x).f1 = (x.f1 : Int) := rfl
        have e2 : (toR x).f2 = x.f2 := rfl
        rw [e1, e2, rnum_f hwx, Option.bind_some]
        by_cases h2 : fin x.f1 = true
        · rw [if_pos h2, if_pos h2, rcur_f, Option.bind_some]
          by_cases h3 : 1 ≤ x.f2 ∧ x.f2 ≤ 8
          · rw [if_pos (decide_eq_true h3), if_pos h3, wr hi (by omega), hk]; rfl
          · rw [if_neg (by simpa using h3), if_neg h3]
        · rw [if_neg h2, if_neg h2]
def chkA (l : List S46) : Int × Int := if l.length > 4096 then (81, 0) else chkF l 0
theorem chk_f (l : List S46) (hw : ∀ x ∈ l, x.f1 < 18446744073709551616) : ∃ k, flow_Check.f k l = some (chkA l) := by
  unfold flow_Check.f chkA
  by_cases h : l.length > 4096
  · exact ⟨0, by rw [if_pos (by omega), if_pos h]⟩
  · obtain ⟨k, hk⟩ := chk_go l hw (by omega) l.length 0 (by omega)
    exact ⟨k, by rw [if_neg (by omega), if_neg h]; exact hk⟩
theorem rchk_f (l : List S46) (hw : ∀ x ∈ l, x.f1 < 18446744073709551616) : ∃ k, tenorref14_Check.f k (l.map toR) = some (chkA l) := by
  unfold tenorref14_Check.f chkA
  rw [List.length_map]
  by_cases h : l.length > 4096
  · exact ⟨0, by rw [if_pos (by omega), if_pos h]⟩
  · obtain ⟨k, hk⟩ := rchk_go l hw (by omega) l.length 0 (by omega)
    exact ⟨k, by rw [if_neg (by omega), if_neg h]; exact hk⟩
theorem chkF_ok : ∀ (l : List S46) (i : Int), (chkF l i).1 = 0 → ∀ x ∈ l, (0 ≤ x.f0 ∧ x.f0 ≤ 109572) ∧ fin x.f1 = true ∧ (1 ≤ x.f2 ∧ x.f2 ≤ 8)
  | [], _, _, x, hx => by cases hx
  | y :: l, i, h, x, hx => by
    rw [chkF] at h
    by_cases h0 : y.f0 < 0 ∨ y.f0 > 109572
    · rw [if_pos h0] at h; exact absurd (show (51 : Int) = 0 from h) (by decide)
    · rw [if_neg h0] at h
      by_cases h1 : fin y.f1 = true
      · rw [if_pos h1] at h
        by_cases h2 : 1 ≤ y.f2 ∧ y.f2 ≤ 8
        · rw [if_pos h2] at h
          rcases List.mem_cons.1 hx with rfl | hx
          · exact ⟨by omega, h1, h2⟩
          · exact chkF_ok l (i + 1) h x hx
        · rw [if_neg h2] at h; exact absurd (show (140 : Int) = 0 from h) (by decide)
      · rw [if_neg h1] at h; exact absurd (show (91 : Int) = 0 from h) (by decide)
theorem chkA_ok {l : List S46} (h : (chkA l).1 = 0) : l.length ≤ 4096 ∧ ∀ x ∈ l, (0 ≤ x.f0 ∧ x.f0 ≤ 109572) ∧ fin x.f1 = true ∧ (1 ≤ x.f2 ∧ x.f2 ≤ 8) := by
  unfold chkA at h
  by_cases c : l.length > 4096
  · rw [if_pos c] at h; exact absurd h (by decide)
  · rw [if_neg c] at h; exact ⟨by omega, chkF_ok l 0 h⟩
theorem chk_e (l : List S46) (hw : ∀ x ∈ l, x.f1 < 18446744073709551616) : Evt (fun k => flow_Check.f k l) (chkA l) := evt (flow_Check.mono l) (chk_f l hw)
theorem rchk_e (l : List S46) (hw : ∀ x ∈ l, x.f1 < 18446744073709551616) : Evt (fun k => tenorref14_Check.f k (l.map toR)) (chkA l) := evt (tenorref14_Check.mono (l.map toR)) (rchk_f l hw)
theorem few_f (l : List S46) : tenorlaw14_Few.f l = some (decide ((l.length : Int) ≤ 120)) := rfl
theorem Evt.ifT {α : Type} {p : Prop} [Decidable p] {f g : Nat → Option α} {r : α} (hp : p) (h : Evt f r) : Evt (fun k => if p then f k else g k) r := h.congr fun _ => if_pos hp
theorem Evt.ifF {α : Type} {p : Prop} [Decidable p] {f g : Nat → Option α} {r : α} (hp : ¬ p) (h : Evt g r) : Evt (fun k => if p then f k else g k) r := h.congr fun _ => if_neg hp
theorem Evt.after {α β : Type} {g : Nat → α → Option β} {x : Option α} {a : α} {b : β} (hx : x = some a) (h2 : Evt (fun k => g k a) b) : Evt (fun k => x.bind (g k)) b := h2.congr fun _ => by rw [hx]; rfl
theorem of_go (l : List S46) (hl : l.length < 5864062014805) : ∀ m i : Nat, i + m = l.length → ∃ k, tenorref14_Of.l0 k l ((l.take i).map toR) (i : Int) = some (l.map toR)
  | 0, i, h => ⟨1, by
    rw [tenorref14_Of.l0, if_neg (by omega), List.take_of_length_le (by omega)]⟩
  | m + 1, i, h => by
    obtain ⟨k, hk⟩ := of_go l hl m (i + 1) (by omega)
    have hi : i < l.length := by omega
    refine ⟨k + 1, ?_⟩
    rw [tenorref14_Of.l0, if_pos (by omega), if_pos (by omega)]
    unfold api_Bits.f
    rw [Option.bind_some, if_pos (by rw [List.length_map, List.length_take]; have := Nat.min_le_right i l.length; omega), rd_at hi, wr hi (by omega)]
    rw [List.take_succ_eq_append_getElem hi, List.map_append] at hk
    exact hk
theorem of_f (l : List S46) (hl : l.length < 5864062014805) : Evt (fun k => tenorref14_Of.f k l) (l.map toR) := by
  obtain ⟨k, hk⟩ := of_go l hl l.length 0 (by omega)
  exact evt (tenorref14_Of.mono l) ⟨k, hk⟩
theorem same_go (l : List S46) (hl : l.length < 5864062014805) : ∀ m i : Nat, i + m = l.length → ∃ k, tenorref14_Same.l0 k l (l.map toR) (i : Int) = some true
  | 0, i, h => ⟨1, by rw [tenorref14_Same.l0, if_neg (by omega)]⟩
  | m + 1, i, h => by
    obtain ⟨k, hk⟩ := same_go l hl m (i + 1) (by omega)
    have hi : i < l.length := by omega
    refine ⟨k + 1, ?_⟩
    rw [tenorref14_Same.l0, if_pos (by omega), if_pos (by omega), if_pos (by rw [List.length_map]; omega), rd_at hi, rdR_at hi]
    generalize l[i] = x
    rw [if_pos (show x.f0 = (toR x).f0 from rfl), if_pos (show x.f2 = (toR x).f2 from rfl)]
    unfold api_Bits.f
    rw [Option.bind_some]
    unfold tenorref1_Same.f
    rw [if_pos (show (x.f1 : Int) = (toR x).f1 from rfl), Option.bind_some, if_pos rfl, wr hi (by omega)]
    exact hk
/-! ### Scale by 1 and by -1 -/
/-! ### windows -/
end Go.Proofs.YtepcegiciecogaaGreat.FP
