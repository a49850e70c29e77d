/- MERGED: Au Av. -/
import Derived.Test.YtepcegiciecogaaFEx1
import Derived.Test.YtepcegiciecogaaAt
import Derived.Test.YtepcegiciecogaaFEx2
namespace Go.Proofs.Ytepcegiciecogaa.FE
open Go.RowKit Go.Proofs.YtepcegiciecogaaW.PrintWords Go.Proofs.YtepcegiciecogaaW.PrintLast Go.Proofs.YtepcegiciecogaaW.PrintMore Tn
open Go.Proofs.Ytepcegiciecogaa.FX Go.Proofs.Ytepcegiciecogaa.FB Go.Proofs.Ytepcegiciecogaa.FP
set_option linter.unusedVariables false

theorem w64 {i : Int} (h1 : -9223372036854775808 ≤ i) (h2 : i < 9223372036854775808) : wrap64 i = i := by unfold wrap64; omega
/-- days ahead of a year. -/
def bef (y : Int) : Int := 365 * (y - 1900) + ((y - 1) / 4 - (y - 1) / 100 + (y - 1) / 400) - 460
theorem bef_f {y : Int} (h1 : 1900 ≤ y) (h2 : y ≤ 2300) : date_before.f y = some (bef y) := by
  unfold date_before.f bef
  have e0 : wrap64 (y - 1) = y - 1 := w64 (by omega) (by omega)
  rw [e0, Int.tdiv_eq_ediv_of_nonneg (show 0 ≤ y - 1 by omega), Int.tdiv_eq_ediv_of_nonneg (show 0 ≤ y - 1 by omega), Int.tdiv_eq_ediv_of_nonneg (show 0 ≤ y - 1 by omega)]
  rw [w64 (i := y - 1900) (by omega) (by omega), w64 (i := 365 * (y - 1900)) (by omega) (by omega), w64 (i := (y - 1) / 4) (by omega) (by omega), w64 (i := (y - 1) / 100) (by omega) (by omega), w64 (i := (y - 1) / 400) (by omega) (by omega), w64 (i := (y - 1) / 4 - (y - 1) / 100) (by omega) (by omega), w64 (i := (y - 1) / 4 - (y - 1) / 100 + (y - 1) / 400) (by omega) (by omega), w64 (i := 365 * (y - 1900) + ((y - 1) / 4 - (y - 1) / 100 + (y - 1) / 400)) (by omega) (by omega), w64 (i := 365 * (y - 1900) + ((y - 1) / 4 - (y - 1) / 100 + (y - 1) / 400) - 460) (by omega) (by omega)]
def leap (y : Int) : Bool := if y % 4 = 0 then (if y % 100 = 0 then (y % 400 == 0) else true) else false
theorem leap_f {y : Int} (h : 0 ≤ y) : date_Leap.f y = some (leap y) := by
  unfold date_Leap.f leap
  rw [Int.tmod_eq_emod_of_nonneg h, Int.tmod_eq_emod_of_nonneg h, Int.tmod_eq_emod_of_nonneg h]
  split
  · split <;> rfl
  · rfl
def lenD (y m : Int) : Int := if m = 2 then (if leap y = true then 29 else 28) else if m = 4 then 30 else if m = 6 then 30 else if m = 9 then 30 else if m = 11 then 30 else 31
theorem len_f {y : Int} (h : 0 ≤ y) (m : Int) : date_length.f y m = some (lenD y m) := by
  unfold date_length.f lenD
  rw [leap_f h, Option.bind_some]
  repeat (split; · first | rfl | (split <;> rfl))
  rfl
theorem len_bd (y m : Int) : 28 ≤ lenD y m ∧ lenD y m ≤ 31 := by
  unfold lenD
  repeat (split; · first | omega | (split <;> omega))
  omega
/-- days of the first months. -/
def cum (y : Int) : Nat → Int
  | 0 => 0
  | i + 1 => cum y i + lenD y ((i : Int) + 1)
theorem cum_bd (y : Int) : ∀ i, 0 ≤ cum y i ∧ cum y i ≤ 31 * i
  | 0 => ⟨Int.le_refl _, by show (0 : Int) ≤ _; omega⟩
  | i + 1 => by
    have h1 := cum_bd y i
    have h2 := len_bd y ((i : Int) + 1)
    show 0 ≤ cum y i + _ ∧ cum y i + _ ≤ _
    omega
theorem cum12 (y : Int) : cum y 12 = if leap y = true then 366 else 365 := by
  have e : cum y 12 = 0 + lenD y 1 + lenD y 2 + lenD y 3 + lenD y 4 + lenD y 5 + lenD y 6 + lenD y 7 + lenD y 8 + lenD y 9 + lenD y 10 + lenD y 11 + lenD y 12 := rfl
  rw [e]
  unfold lenD
  cases leap y <;> decide
theorem bef_next {y : Int} (h1 : 1900 ≤ y) (h2 : y ≤ 2300) : bef (y + 1) = bef y + cum y 12 := by
  rw [cum12]
  unfold bef leap
  by_cases c1 : y % 4 = 0
  · rw [if_pos c1]
    by_cases c2 : y % 100 = 0
    · rw [if_pos c2]
      by_cases c3 : y % 400 = 0
      · rw [if_pos (by simpa using c3)]; omega
      · rw [if_neg (by simpa using c3)]; omega
    · rw [if_neg c2, if_pos rfl]; omega
  · rw [if_neg c1, if_neg (by decide)]; omega
theorem civ1 {y r0 : Int} (hy : 0 ≤ y) (h0 : 0 ≤ r0) (h1 : r0 < cum y 12) : ∀ j i : Nat, i + j = 11 → cum y i ≤ r0 → ∃ (k : Nat) (m : Nat) (d : Int), date_civil.l1 k y ((i : Int) + 1) (r0 - cum y i) = some (y, (m : Int) + 1, d) ∧ m ≤ 11 ∧ 1 ≤ d ∧ d ≤ lenD y ((m : Int) + 1) ∧ cum y m + (d - 1) = r0
  | j, i, hj, hc => by
    have hb := cum_bd y i
    have hb2 := cum_bd y 12
    have hl := len_bd y ((i : Int) + 1)
    have hn : cum y (i + 1) = cum y i + lenD y ((i : Int) + 1) := rfl
    by_cases hs : r0 - cum y i ≥ lenD y ((i : Int) + 1)
    · cases j with
      | zero =>
        obtain rfl : i = 11 := by omega
        have : cum y 12 = cum y 11 + lenD y (((11 : Nat) : Int) + 1) := rfl
        omega
      | succ j =>
        obtain ⟨k, m, d, hk, rest⟩ := civ1 hy h0 h1 j (i + 1) (by omega) (by omega)
        refine ⟨k + 1, m, d, ?_, rest⟩
        rw [date_civil.l1, len_f hy, Option.bind_some, if_pos hs, Option.bind_some, w64 (by omega) (by omega), w64 (by omega) (by omega)]
        rw [show r0 - cum y i - lenD y ((i : Int) + 1) = r0 - cum y (i + 1) by omega]
        exact hk
    · refine ⟨1, i, r0 - cum y i + 1, ?_, by omega, by omega, by omega, by omega⟩
      rw [date_civil.l1, len_f hy, Option.bind_some, if_neg hs, w64 (by omega) (by omega)]
theorem day0 {y : Int} (hy : 0 ≤ y) (acc : Int) (ha : 0 ≤ acc ∧ acc ≤ 1000000) (m : Nat) (hm : m ≤ 11) : ∀ j i : Nat, i + j = m → ∃ k, date_day.l0 k y (acc + cum y i) (m : Int) (i : Int) = some (acc + cum y m)
  | 0, i, h => ⟨1, by rw [date_day.l0, if_neg (by omega), show i = m by omega]⟩
  | j + 1, i, h => by
    obtain ⟨k, hk⟩ := day0 hy acc ha m hm j (i + 1) (by omega)
    have hb := cum_bd y i
    have hl := len_bd y ((i : Int) + 1)
    have hn : cum y (i + 1) = cum y i + lenD y ((i : Int) + 1) := rfl
    refine ⟨k + 1, ?_⟩
    rw [date_day.l0, if_pos (by omega), w64 (i := (i : Int) + 1) (by omega) (by omega), len_f hy, Option.bind_some, w64 (by omega) (by omega), show acc + cum y i + lenD y ((i : Int) + 1) = acc + cum y (i + 1) by omega]
    exact hk
/-- the year of a day is found. -/
theorem civ0 {n : Int} (h0 : 0 ≤ n) (h1 : n ≤ 109572) : ∀ (j : Nat) (y : Int), y + j = 2199 → 1900 ≤ y → bef y ≤ n → ∃ (k : Nat) (Y : Int) (m : Nat) (d : Int), date_civil.l0 k n y = some (Y, (m : Int) + 1, d) ∧ 1900 ≤ Y ∧ Y ≤ 2199 ∧ m ≤ 11 ∧ 1 ≤ d ∧ d ≤ lenD Y ((m : Int) + 1) ∧ bef Y + cum Y m + (d - 1) = n
  | j, y, hj, hy, hb => by
    have hn := bef_next hy (show y ≤ 2300 by omega)
    by_cases hs : bef (y + 1) ≤ n
    · cases j with
      | zero =>
        have : y = 2199 := by omega
        subst this
        have : bef (2199 + 1) = 109573 := by decide
        omega
      | succ j =>
        obtain ⟨k, Y, m, d, hk, rest⟩ := civ0 h0 h1 j (y + 1) (by omega) (by omega) hs
        refine ⟨k + 1, Y, m, d, ?_, rest⟩
        rw [date_civil.l0, w64 (i := y + 1) (by omega) (by omega), bef_f (by omega) (by omega), Option.bind_some, if_pos hs]
        exact hk
    · obtain ⟨k, m, d, hk, hm, hd1, hd2, hsum⟩ := civ1 (y := y) (r0 := n - bef y) (by omega) (by omega) (by omega) 11 0 (by omega) (by show (0 : Int) ≤ _; omega)
      refine ⟨k + 1, y, m, d, ?_, hy, by omega, hm, hd1, hd2, by omega⟩
      have hbb : -1000000 ≤ bef y ∧ bef y ≤ 1000000 := by unfold bef; omega
      rw [date_civil.l0, w64 (i := y + 1) (by omega) (by omega), bef_f (y := y + 1) (by omega) (by omega), Option.bind_some, if_neg hs, bef_f hy (by omega), Option.bind_some, w64 (i := n - bef y) (by omega) (by omega)]
      have e0 : n - bef y - cum y 0 = n - bef y := by show n - bef y - 0 = _; omega
      rw [e0] at hk
      exact hk
theorem months0 {n : Int} (h0 : 0 ≤ n) (h1 : n ≤ 109572) : Evt (fun k => date_Months.f k n 0 false) (n, 0) := by
  have hq : n / 366 ≤ 299 := by omega
  obtain ⟨j, hj⟩ : ∃ j : Nat, (1900 + n / 366) + j = 2199 := ⟨(299 - n / 366).toNat, by omega⟩
  obtain ⟨k, Y, m, d, hk, hY1, hY2, hm, hd1, hd2, hsum⟩ := civ0 h0 h1 j (1900 + n / 366) hj (by omega) (by unfold bef; omega)
  have hl := len_bd Y ((m : Int) + 1)
  have hcb := cum_bd Y m
  have hbb : -1000000 ≤ bef Y ∧ bef Y ≤ 1000000 := by unfold bef; omega
  have hbp : 0 ≤ bef Y := by unfold bef; omega
  have hciv : Evt (fun k => date_civil.f k n) (Y, (m : Int) + 1, d) := by
    refine evt (date_civil.mono n) ⟨k, ?_⟩
    unfold date_civil.f
    rw [Int.tdiv_eq_ediv_of_nonneg h0, w64 (i := n / 366) (by omega) (by omega), w64 (i := 1900 + n / 366) (by omega) (by omega)]
    exact hk
  have hday : Evt (fun k => date_day.f k Y ((m : Int) + 1) d) n := by
    obtain ⟨k2, hk2⟩ := day0 (y := Y) (by omega) (bef Y + d - 1) (by omega) m hm m 0 (by omega)
    refine evt (date_day.mono Y ((m : Int) + 1) d) ⟨k2, ?_⟩
    unfold date_day.f
    rw [bef_f hY1 (by omega), Option.bind_some, w64 (i := bef Y + d) (by omega) (by omega), w64 (i := bef Y + d - 1) (by omega) (by omega), w64 (i := (m : Int) + 1 - 1) (by omega) (by omega), show (m : Int) + 1 - 1 = m by omega]
    have e0 : bef Y + d - 1 + cum Y 0 = bef Y + d - 1 := by show bef Y + d - 1 + 0 = _; omega
    rw [e0] at hk2
    rw [show (0 : Int) = ((0 : Nat) : Int) from rfl, hk2]
    congr 1; omega
  have hj0 : Evt (fun k => date_Months.j0 k n 0 false false) (n, 0) := by
    refine Evt.next (f := fun k => (date_civil.f k n).bind fun bt109 => ((date_length.f bt109.1 bt109.2.1).bind fun t112 => ((date_month.f (wrap64 (Int.tdiv (wrap64 ((wrap64 ((wrap64 ((wrap64 (12 * bt109.1)) + bt109.2.1)) - 1)) + 0)) 12)) (wrap64 ((Int.tmod (wrap64 ((wrap64 ((wrap64 ((wrap64 (12 * bt109.1)) + bt109.2.1)) - 1)) + 0)) 12) + 1))).bind fun t113 => (if t113 = true then ((date_length.f (wrap64 (Int.tdiv (wrap64 ((wrap64 ((wrap64 ((wrap64 (12 * bt109.1)) + bt109.2.1)) - 1)) + 0)) 12)) (wrap64 ((Int.tmod (wrap64 ((wrap64 ((wrap64 ((wrap64 (12 * bt109.1)) + bt109.2.1)) - 1)) + 0)) 12) + 1))).bind fun t114 => (if bt109.2.2 > t114 then ((date_day.f k (wrap64 (Int.tdiv (wrap64 ((wrap64 ((wrap64 ((wrap64 (12 * bt109.1)) + bt109.2.1)) - 1)) + 0)) 12)) (wrap64 ((Int.tmod (wrap64 ((wrap64 ((wrap64 ((wrap64 (12 * bt109.1)) + bt109.2.1)) - 1)) + 0)) 12) + 1)) t114).bind fun t115 => (some (t115, 0))) else ((date_day.f k (wrap64 (Int.tdiv (wrap64 ((wrap64 ((wrap64 ((wrap64 (12 * bt109.1)) + bt109.2.1)) - 1)) + 0)) 12)) (wrap64 ((Int.tmod (wrap64 ((wrap64 ((wrap64 ((wrap64 (12 * bt109.1)) + bt109.2.1)) - 1)) + 0)) 12) + 1)) bt109.2.2).bind fun t118 => (some (t118, 0))))) else (some (0, 51)))))) ?_ (fun k => by rw [date_Months.j0, if_neg (by decide)]; rfl)
    refine hciv.bind ?_
    have t1 : wrap64 (wrap64 (wrap64 (wrap64 (12 * Y) + ((m : Int) + 1)) - 1) + 0) = 12 * Y + m := by
      rw [w64 (i := 12 * Y) (by omega) (by omega), w64 (i := 12 * Y + ((m : Int) + 1)) (by omega) (by omega), w64 (i := 12 * Y + ((m : Int) + 1) - 1) (by omega) (by omega), w64 (by omega) (by omega)]; omega
    have t2 : wrap64 (Int.tdiv (12 * Y + m) 12) = Y := by
      rw [Int.tdiv_eq_ediv_of_nonneg (by omega), w64 (by omega) (by omega)]; omega
    have t3 : wrap64 (Int.tmod (12 * Y + m) 12 + 1) = (m : Int) + 1 := by
      rw [Int.tmod_eq_emod_of_nonneg (by omega), w64 (by omega) (by omega)]; omega
    have t4 : date_month.f Y ((m : Int) + 1) = some true := by
      unfold date_month.f
      rw [if_pos (by omega), if_pos (by omega), if_pos (by omega), decide_eq_true (by omega)]
    simp only [t1, t2, t3, t4, len_f (show 0 ≤ Y by omega), Option.bind_some, if_true]
    rw [show (fun k => if d > lenD Y ((m : Int) + 1) then (date_day.f k Y ((m : Int) + 1) (lenD Y ((m : Int) + 1))).bind fun t115 => some (t115, (0 : Int)) else (date_day.f k Y ((m : Int) + 1) d).bind fun t118 => some (t118, (0 : Int))) = fun k => (date_day.f k Y ((m : Int) + 1) d).bind fun t118 => some (t118, (0 : Int)) from funext fun k => if_neg (by omega)]
    exact hday.bind (Evt.const fun _ => rfl)
  refine hj0.congr fun k => ?_
  unfold date_Months.f date_is.f
  rw [if_pos (by omega), Option.bind_some, if_pos (decide_eq_true h1), if_neg (by decide), decide_eq_false (by decide)]
end Go.Proofs.Ytepcegiciecogaa.FE

namespace Go.Proofs.Ytepcegiciecogaa.FE
open Go.RowKit Go.Proofs.YtepcegiciecogaaW.PrintWords Go.Proofs.YtepcegiciecogaaW.PrintLast Go.Proofs.YtepcegiciecogaaW.PrintMore Tn
open Go.Proofs.Ytepcegiciecogaa.FX Go.Proofs.Ytepcegiciecogaa.FB Go.Proofs.Ytepcegiciecogaa.FP
set_option linter.unusedVariables false

theorem shift_go (l : List S42) (hl : l.length < 5864062014805) (hv : ∀ x ∈ l, 0 ≤ x.f0 ∧ x.f0 ≤ 109572) : ∀ m i : Nat, i + m = l.length → Evt (fun k => flow_Shift.l0 k 0 (l.take i) l (l.length : Int) (i : Int)) (l, 0)
  | 0, i, h => by
    refine Evt.next (f := fun _ => some (l, 0)) (Evt.const fun _ => rfl) fun k => ?_
    rw [flow_Shift.l0, if_neg (by omega), List.take_of_length_le (by omega)]
  | m + 1, i, h => by
    have ih := shift_go l hl hv m (i + 1) (by omega)
    have hi : i < l.length := by omega
    obtain ⟨v1, v2⟩ := hv _ (List.getElem_mem hi)
    refine Evt.next (f := fun k => (date_Months.f k l[i].f0 0 false).bind fun b => if b.2 = 0 then (if (l.take i).length < 5864062014805 then flow_Shift.l0 k 0 (l.take i ++ [(⟨b.1, l[i].f1, l[i].f2⟩ : S42)]) l (l.length : Int) (wrap64 ((i : Int) + 1)) else none) else some ([], b.2)) ?_ fun k => by
      rw [flow_Shift.l0, if_pos (by omega), if_pos (by omega), if_pos (by omega), rd_at hi]
    refine (months0 v1 v2).bind ?_
    refine Evt.ifT rfl (Evt.ifT (by rw [List.length_take]; have := Nat.min_le_right i l.length; omega) ?_)
    rw [List.take_succ_eq_append_getElem hi] at ih
    rw [wr hi (by omega)]
    exact ih
theorem shift_f (l : List S42) (hl : l.length < 5864062014805) (hv : ∀ x ∈ l, 0 ≤ x.f0 ∧ x.f0 ≤ 109572) : Evt (fun k => flow_Shift.f k l 0) (l, 0) := by
  refine (shift_go l hl hv l.length 0 (by omega)).congr fun k => ?_
  unfold flow_Shift.f
  rw [if_pos (by omega), if_pos (by omega)]
  rfl
theorem same_of {l m : List S42} (e : l = m) (hl : l.length < 5864062014805) : Evt (fun k => tenorlaw14_same.f k l m) true := by
  subst e; exact same_f l hl
theorem map_id' {l : List S42} {f : S42 → S42} (h : ∀ x ∈ l, f x = x) : l.map f = l := (List.map_congr_left (g := id) h).trans (List.map_id l)
theorem j1_f (l : List S42) (hw : ∀ x ∈ l, x.f1 < 18446744073709551616) (hl : l.length < 5864062014805) : Evt (fun k => tenorlaw14_FlowTwice.j1 k l) true := by
  refine Evt.next (f := fun k => (flow_Check.f k l).bind fun bt155 => (if bt155.1 = 0 then ((flow_Scale.f k (4607182418800017408 : Nat) l).bind fun bt158 => ((flow_Scale.f k (13830554455654793216 : Nat) l).bind fun bt162 => ((flow_Shift.f k l 0).bind fun bt166 => (if bt158.2 = 0 then (if bt162.2 = 0 then (if bt166.2 = 0 then ((tenorlaw14_same.f k bt158.1 l).bind fun t170 => (if t170 = true then ((flow_Give.f k l).bind fun t171 => ((tenorlaw14_same.f k bt162.1 t171).bind fun t174 => (if t174 = true then ((tenorlaw14_same.f k bt166.1 l).bind fun t175 => (if t175 = true then ((law14_awake.f).bind fun t176 => (some t176)) else (some false))) else (some false)))) else (some false))) else (some false)) else (some false)) else (some false))))) else ((law14_awake.f).bind fun t157 => (some t157)))) ?_ (fun k => by rw [tenorlaw14_FlowTwice.j1])
  refine (chk_e l hw).bind ?_
  by_cases h : (chkA l).1 = 0
  · obtain ⟨h1, h2⟩ := chkA_ok h
    refine Evt.ifT h ?_
    have m1 : l.map (sc 4607182418800017408) = l := map_id' fun x hx => by
      have := (one_mul' (hw x hx) (h2 x hx).2.1).2
      show (⟨x.f0, fmulV 4607182418800017408 x.f1, x.f2⟩ : S42) = x
      rw [this]
    have m2 : l.map (sc 13830554455654793216) = l.map gv := List.map_congr_left fun x hx => by
      have := (mone_mul (hw x hx) (h2 x hx).2.1).2
      show (⟨x.f0, fmulV 13830554455654793216 x.f1, x.f2⟩ : S42) = ⟨x.f0, fneg x.f1, x.f2⟩
      rw [this]
    have s1 := scale_f 4607182418800017408 (by decide) (by decide +kernel) l hl fun x hx => by
      obtain ⟨e1, e2⟩ := one_mul' (hw x hx) (h2 x hx).2.1
      exact ⟨e1, by rw [e2]; exact hw x hx, by rw [e2]; exact (h2 x hx).2.1⟩
    have s2 := scale_f 13830554455654793216 (by decide) (by decide +kernel) l hl fun x hx => by
      obtain ⟨e1, e2⟩ := mone_mul (hw x hx) (h2 x hx).2.1
      obtain ⟨f1, f2⟩ := fin_fneg (hw x hx) (h2 x hx).2.1
      exact ⟨e1, by rw [e2]; exact f2, by rw [e2]; exact f1⟩
    refine s1.bind (s2.bind ((shift_f l hl fun x hx => (h2 x hx).1).bind (Evt.ifT rfl (Evt.ifT rfl (Evt.ifT rfl ?_)))))
    refine (same_of m1 (by rw [List.length_map]; exact hl)).bind (Evt.ifT rfl ((give_f l hl).bind ((same_of m2 (by rw [List.length_map]; exact hl)).bind (Evt.ifT rfl ((same_of rfl hl).bind (Evt.ifT rfl (Evt.const fun _ => rfl)))))))
  · exact Evt.ifF h (Evt.const fun _ => rfl)
theorem wl {a b c : Nat} (h : a + b = c) (hc : c < 5864062014805) : wrap64 ((a : Int) + b) = (c : Int) := by unfold wrap64; omega
theorem law (l : List S42) (hw : ∀ x ∈ l, x.f1 < 18446744073709551616) (hl : l.length < 5864062014805) (a b c : Int) : ∃ k, tenorlaw14_FlowTwice.f k l a b c = some true := by
  have H : Evt (fun k => tenorlaw14_FlowTwice.f k l a b c) true := by
    unfold tenorlaw14_FlowTwice.f
    refine Evt.after (few_f l) ?_
    by_cases h : (l.length : Int) ≤ 120
    · refine Evt.ifT (decide_eq_true h) ((give_f l hl).bind ((give_f _ (by rw [List.length_map]; exact hl)).bind ((same_of (gv_gv l) (by rw [List.length_map, List.length_map]; exact hl)).bind (Evt.ifT rfl ?_))))
      have hj := j1_f l hw hl
      by_cases h1 : a ≤ b
      · refine Evt.ifT h1 ?_
        by_cases h2 : b ≤ c
        · rw [decide_eq_true h2]
          refine Evt.next (f := fun k => ((flow_Window.f l a b).bind fun t138 => ((flow_Window.f l b c).bind fun t141 => ((flow_Window.f l a c).bind fun t144 => (if (wrap64 ((t138.length : Int) + (t141.length : Int))) = (t144.length : Int) then ((flow_Window.f t144 a b).bind fun t147 => ((tenorlaw14_same.f k t147 t138).bind fun t150 => (if t150 = true then ((flow_Window.f t144 b c).bind fun t151 => ((tenorlaw14_same.f k t151 t141).bind fun t154 => (if t154 = true then (tenorlaw14_FlowTwice.j1 k l) else (some false)))) else (some false)))) else (some false)))))) ?_ (fun k => by rw [tenorlaw14_FlowTwice.j0, if_pos rfl])
          have hwl := fun a b => Nat.lt_of_le_of_lt (win_len l a b) hl
          refine Evt.after (win_f l hl a b) (Evt.after (win_f l hl b c) (Evt.after (win_f l hl a c) (Evt.ifT (wl (win_side a b c h1 h2 l) (hwl a c)) ?_)))
          refine Evt.after (win_f _ (hwl a c) a b) ((same_of (win_win l a c a b (by omega) h2) (Nat.lt_of_le_of_lt (win_len _ a b) (hwl a c))).bind (Evt.ifT rfl ?_))
          exact Evt.after (win_f _ (hwl a c) b c) ((same_of (win_win l a c b c h1 (by omega)) (Nat.lt_of_le_of_lt (win_len _ b c) (hwl a c))).bind (Evt.ifT rfl hj))
        · rw [decide_eq_false h2]
          exact Evt.next hj fun k => by rw [tenorlaw14_FlowTwice.j0, if_neg (by decide)]
      · exact Evt.ifF h1 (Evt.next hj fun k => by rw [tenorlaw14_FlowTwice.j0, if_neg (by decide)])
    · exact Evt.ifF (by simpa using h) (Evt.const fun _ => rfl)
  obtain ⟨k, hk⟩ := H
  exact ⟨k, hk k (Nat.le_refl k)⟩
end Go.Proofs.Ytepcegiciecogaa.FE
