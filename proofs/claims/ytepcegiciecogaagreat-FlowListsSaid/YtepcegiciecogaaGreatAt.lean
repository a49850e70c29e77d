/- Lists of flows, plainly: Check, Same, Give, Scale, windows. No walk. -/
import Derived.Test.YtepcegiciecogaaGreatFBx1
import Derived.Test.YtepcegiciecogaaGreatFBx2
import Derived.Test.YtepcegiciecogaaGreatFBx3
import Derived.Test.YtepcegiciecogaaGreatFBx4
import Derived.Test.YtepcegiciecogaaGreatAq
import Derived.Test.YtepcegiciecogaaGreatPl
namespace Go.Proofs.YtepcegiciecogaaGreat.FP
open Go.RowKit Go.Proofs.YtepcegiciecogaaGreatW.PrintWords Go.Proofs.YtepcegiciecogaaGreatW.PrintLast Go.Proofs.YtepcegiciecogaaGreatW.PrintMore Tn
open Go.Proofs.YtepcegiciecogaaGreat.FX Go.Proofs.YtepcegiciecogaaGreat.FB
set_option linter.unusedVariables false

theorem wr {i n : Nat} (h : i < n) (hn : n ≤ 1152921504606846976) : wrap64 ((i : Int) + 1) = ((i + 1 : Nat) : Int) := by unfold wrap64; omega
theorem up {α : Type} {f : Nat → Option α} (hm : ∀ k, LeO (f k) (f (k + 1))) {k : Nat} {r : α} (h : f k = some r) : ∀ n, f (k + n) = some r
  | 0 => h
  | n + 1 => hm (k + n) r (up hm h n)
/-- it is told from some round on. -/
def Evt {α : Type} (f : Nat → Option α) (r : α) : Prop := ∃ k, ∀ n, k ≤ n → f n = some r
theorem evt {α : Type} {f : Nat → Option α} (hm : ∀ k, LeO (f k) (f (k + 1))) {r : α} (h : ∃ k, f k = some r) : Evt f r := by
  obtain ⟨k, hk⟩ := h
  refine ⟨k, fun n hn => ?_⟩
  have := up hm hk (n - k)
  rwa [show k + (n - k) = n by omega] at this
theorem Evt.bind {α β : Type} {f : Nat → Option α} {g : Nat → α → Option β} {a : α} {b : β} (h1 : Evt f a) (h2 : Evt (fun k => g k a) b) : Evt (fun k => (f k).bind (g k)) b := by
  obtain ⟨k, hk⟩ := h1
  obtain ⟨m, hm⟩ := h2
  refine ⟨k + m, fun n hn => ?_⟩
  show (f n).bind (g n) = some b
  rw [hk n (by omega), Option.bind_some]
  exact hm n (by omega)
theorem Evt.const {α : Type} {f : Nat → Option α} {r : α} (h : ∀ k, f k = some r) : Evt f r := ⟨0, fun n _ => h n⟩
theorem Evt.next {α : Type} {f g : Nat → Option α} {r : α} (h : Evt f r) (he : ∀ k, g (k + 1) = f k) : Evt g r := by
  obtain ⟨k, hk⟩ := h
  refine ⟨k + 1, fun n hn => ?_⟩
  obtain ⟨m, rfl⟩ : ∃ m, n = m + 1 := ⟨n - 1, by omega⟩
  rw [he m]; exact hk m (by omega)
theorem Evt.congr {α : Type} {f g : Nat → Option α} {r : α} (h : Evt f r) (he : ∀ k, g k = f k) : Evt g r := by
  obtain ⟨k, hk⟩ := h
  exact ⟨k, fun n hn => by rw [he n]; exact hk n hn⟩

/-! ### lists -/
def toR (x : S46) : S79 := ⟨x.f0, x.f1, x.f2⟩
theorem rdR_at {l : List S46} {i : Nat} (hi : i < l.length) : rd_T79 (l.map toR) (i : Int) = toR l[i] := by
  unfold rd_T79
  rw [Int.toNat_natCast, List.getD_eq_getElem?_getD, List.getElem?_map, List.getElem?_eq_getElem hi]; rfl
/-! ### Check -/
theorem num_f {a : Nat} (h : a < 18446744073709551616) : flow_number.f a = some (fin a) := if_pos h
theorem rnum_f {a : Nat} (h : a < 18446744073709551616) : tenorref1_Number.f (a : Int) = some (fin a) := by
  unfold tenorref1_Number.f
  rw [andNot_sign a h]
  exact congrArg some (fin_int a)
theorem few_f (l : List S46) : tenorlaw14_Few.f l = some (decide ((l.length : Int) ≤ 120)) := rfl
theorem Evt.ifT {α : Type} {p : Prop} [Decidable p] {f g : Nat → Option α} {r : α} (hp : p) (h : Evt f r) : Evt (fun k => if p then f k else g k) r := h.congr fun _ => if_pos hp
theorem Evt.ifF {α : Type} {p : Prop} [Decidable p] {f g : Nat → Option α} {r : α} (hp : ¬ p) (h : Evt g r) : Evt (fun k => if p then f k else g k) r := h.congr fun _ => if_neg hp
theorem Evt.after {α β : Type} {g : Nat → α → Option β} {x : Option α} {a : α} {b : β} (hx : x = some a) (h2 : Evt (fun k => g k a) b) : Evt (fun k => x.bind (g k)) b := h2.congr fun _ => by rw [hx]; rfl
theorem of_go (l : List S46) (hl : l.length < 5864062014805) : ∀ m i : Nat, i + m = l.length → ∃ k, tenorref14_Of.l0 k l ((l.take i).map toR) (i : Int) = some (l.map toR)
  | 0, i, h => ⟨1, by
    rw [tenorref14_Of.l0, if_neg (by omega), List.take_of_length_le (by omega)]⟩
  | m + 1, i, h => by
    obtain ⟨k, hk⟩ := of_go l hl m (i + 1) (by omega)
    have hi : i < l.length := by omega
    refine ⟨k + 1, ?_⟩
    rw [tenorref14_Of.l0, if_pos (by omega), if_pos (by omega)]
    unfold api_Bits.f
    rw [Option.bind_some, if_pos (by rw [List.length_map, List.length_take]; have := Nat.min_le_right i l.length; omega), rd_at hi, wr hi (by omega)]
    rw [List.take_succ_eq_append_getElem hi, List.map_append] at hk
    exact hk
theorem of_f (l : List S46) (hl : l.length < 5864062014805) : Evt (fun k => tenorref14_Of.f k l) (l.map toR) := by
  obtain ⟨k, hk⟩ := of_go l hl l.length 0 (by omega)
  exact evt (tenorref14_Of.mono l) ⟨k, hk⟩
theorem same_go (l : List S46) (hl : l.length < 5864062014805) : ∀ m i : Nat, i + m = l.length → ∃ k, tenorref14_Same.l0 k l (l.map toR) (i : Int) = some true
  | 0, i, h => ⟨1, by rw [tenorref14_Same.l0, if_neg (by omega)]⟩
  | m + 1, i, h => by
    obtain ⟨k, hk⟩ := same_go l hl m (i + 1) (by omega)
    have hi : i < l.length := by omega
    refine ⟨k + 1, ?_⟩
    rw [tenorref14_Same.l0, if_pos (by omega), if_pos (by omega), if_pos (by rw [List.length_map]; omega), rd_at hi, rdR_at hi]
    generalize l[i] = x
    rw [if_pos (show x.f0 = (toR x).f0 from rfl), if_pos (show x.f2 = (toR x).f2 from rfl)]
    unfold api_Bits.f
    rw [Option.bind_some]
    unfold tenorref1_Same.f
    rw [if_pos (show (x.f1 : Int) = (toR x).f1 from rfl), Option.bind_some, if_pos rfl, wr hi (by omega)]
    exact hk
def gv (x : S46) : S46 := ⟨x.f0, fneg x.f1, x.f2⟩
theorem give_go (l : List S46) (hl : l.length < 5864062014805) : ∀ m i : Nat, i + m = l.length → ∃ k, flow_Give.l0 k ((l.take i).map gv) l (l.length : Int) (i : Int) = some (l.map gv)
  | 0, i, h => ⟨1, by rw [flow_Give.l0, if_neg (by omega), List.take_of_length_le (by omega)]⟩
  | m + 1, i, h => by
    obtain ⟨k, hk⟩ := give_go l hl m (i + 1) (by omega)
    have hi : i < l.length := by omega
    refine ⟨k + 1, ?_⟩
    rw [flow_Give.l0, if_pos (by omega), if_pos (by omega), if_pos (by omega), if_pos (by rw [List.length_map, List.length_take]; have := Nat.min_le_right i l.length; omega), rd_at hi, wr hi (by omega)]
    rw [List.take_succ_eq_append_getElem hi, List.map_append] at hk
    exact hk
theorem give_f (l : List S46) (hl : l.length < 5864062014805) : Evt (fun k => flow_Give.f k l) (l.map gv) := by
  obtain ⟨k, hk⟩ := give_go l hl l.length 0 (by omega)
  exact evt (flow_Give.mono l) ⟨k, by unfold flow_Give.f; rw [if_pos (by omega), if_pos (by omega)]; exact hk⟩
/-! ### Scale by 1 and by -1 -/
def sc (c : Nat) (x : S46) : S46 := ⟨x.f0, fmulV c x.f1, x.f2⟩
theorem scale_go (c : Nat) (l : List S46) (hl : l.length < 5864062014805) (hv : ∀ x ∈ l, fmulK c x.f1 = true ∧ fmulV c x.f1 < 18446744073709551616 ∧ fin (fmulV c x.f1) = true) : ∀ m i : Nat, i + m = l.length → ∃ k, flow_Scale.l0 k c ((l.take i).map (sc c)) l (l.length : Int) (i : Int) = some (l.map (sc c), 0)
  | 0, i, h => ⟨1, by rw [flow_Scale.l0, if_neg (by omega), List.take_of_length_le (by omega)]⟩
  | m + 1, i, h => by
    obtain ⟨k, hk⟩ := scale_go c l hl hv m (i + 1) (by omega)
    have hi : i < l.length := by omega
    obtain ⟨v1, v2, v3⟩ := hv _ (List.getElem_mem hi)
    refine ⟨k + 1, ?_⟩
    rw [flow_Scale.l0, if_pos (by omega), if_pos (by omega), if_pos (by omega), rd_at hi, if_pos v1]
    unfold flow_number.f
    rw [if_pos v2, Option.bind_some, if_pos v3, if_pos (by rw [List.length_map, List.length_take]; have := Nat.min_le_right i l.length; omega), wr hi (by omega)]
    rw [List.take_succ_eq_append_getElem hi, List.map_append] at hk
    exact hk
/-! ### windows -/
theorem win_f (l : List S46) (hl : l.length < 5864062014805) (a b : Int) : flow_Window.f l a b = some (winF l a b) := if_pos hl
theorem win_len (l : List S46) (a b : Int) : (winF l a b).length ≤ l.length := List.length_filter_le _ _
end Go.Proofs.YtepcegiciecogaaGreat.FP
