/- grid.Count, plainly. No walk. -/
import Derived.Test.YtepcegiciecogaaFGx2
import Derived.Test.YtepcegiciecogaaEv
namespace Go.Proofs.Ytepcegiciecogaa.FG
open Go.RowKit Go.Proofs.YtepcegiciecogaaW.PrintWords Go.Proofs.YtepcegiciecogaaW.PrintLast Go.Proofs.YtepcegiciecogaaW.PrintMore Tn
open Go.Proofs.Ytepcegiciecogaa.FX Go.Proofs.Ytepcegiciecogaa.EV
set_option linter.unusedVariables false

def okN (l : List Nat) : Prop := ∀ x ∈ l, x < 18446744073709551616
def allF (l : List Nat) : Bool := l.all fun x => fin x
theorem num_f {a : Nat} (h : a < 18446744073709551616) : grid_number.f a = some (fin a) := if_pos h
theorem numbers_go (l : List Nat) (hw : okN l) (hl : l.length < 4611686018427387904) : ∀ d i : Nat, i + d = l.length → Evt (fun k => grid_numbers.l0 k l (l.length : Int) (i : Int)) (if allF (l.drop i) = true then 0 else 91)
  | 0, i, h => by
    refine Evt.last fun k => ?_
    rw [grid_numbers.l0, if_neg (by omega), List.drop_of_length_le (by omega)]; rfl
  | d + 1, i, h => by
    have hi : i < l.length := by omega
    have ih := numbers_go l hw hl d (i + 1) (by omega)
    have hx := hw _ (List.getElem_mem hi)
    have e : allF (l.drop i) = (fin l[i] && allF (l.drop (i + 1))) := by rw [List.drop_eq_getElem_cons hi]; rfl
    rw [e]
    cases hf : fin l[i]
    · rw [Bool.false_and, if_neg (by decide)]
      refine Evt.last fun k => ?_
      rw [grid_numbers.l0, if_pos (by omega), if_pos (by omega), if_pos (by omega), rdf_at hi, num_f hx, Option.bind_some, hf, if_neg (by decide)]
    · rw [Bool.true_and]
      refine Evt.next ih fun k => ?_
      rw [grid_numbers.l0, if_pos (by omega), if_pos (by omega), if_pos (by omega), rdf_at hi, num_f hx, Option.bind_some, hf, if_pos rfl, w64 (by omega) (by omega)]
      rfl
theorem numbers_e (l : List Nat) (hw : okN l) (hl : l.length < 4611686018427387904) : Evt (fun k => grid_numbers.f k l) (if allF l = true then 0 else 91) :=
  numbers_go l hw hl l.length 0 (by omega)
/-- edges that rise. -/
def rises : List Nat → Bool
  | [] => true
  | [_] => true
  | a :: b :: l => decide (rank a < rank b) && rises (b :: l)
/-- how many edges lie at a number or below it. -/
def posF : List Nat → Nat → Nat
  | [], _ => 0
  | e :: es, v => if rank v < rank e then 0 else posF es v + 1
theorem posF_le : ∀ (es : List Nat) (v : Nat), posF es v ≤ es.length
  | [], _ => Nat.le_refl _
  | e :: es, v => by
    rw [posF]
    split
    · omega
    · have := posF_le es v; rw [List.length_cons]; omega
theorem posF_low : ∀ (es : List Nat) (v : Nat) (j : Nat) (hj : j < es.length), j < posF es v → rank es[j] ≤ rank v
  | e :: es, v, j, hj, h => by
    rw [posF] at h
    split at h
    · omega
    · rename_i hn
      cases j with
      | zero => show rank e ≤ rank v; omega
      | succ j =>
        have := posF_low es v j (by simpa using hj) (by omega)
        exact this
theorem posF_at : ∀ (es : List Nat) (v : Nat) (h : posF es v < es.length), rank v < rank es[posF es v]
  | e :: es, v, h => by
    by_cases hc : rank v < rank e
    · have e0 : posF (e :: es) v = 0 := by rw [posF, if_pos hc]
      simp only [e0]
      exact hc
    · have e0 : posF (e :: es) v = posF es v + 1 := by rw [posF, if_neg hc]
      simp only [e0]
      have h2 : posF es v < es.length := by rw [e0] at h; simpa using h
      exact posF_at es v h2
theorem rises_lt : ∀ (es : List Nat), rises es = true → ∀ (i j : Nat) (hi : i < es.length) (hj : j < es.length), i < j → rank es[i] < rank es[j]
  | [], _, i, _, hi, _, _ => absurd hi (by simp)
  | [a], _, i, j, hi, hj, hij => by simp at hi hj; omega
  | a :: b :: l, h, i, j, hi, hj, hij => by
    rw [rises, Bool.and_eq_true] at h
    have h1 := of_decide_eq_true h.1
    have ih := rises_lt (b :: l) h.2
    cases j with
    | zero => omega
    | succ j =>
      cases i with
      | zero =>
        cases j with
        | zero => exact h1
        | succ j =>
          have := ih 0 (j + 1) (by simp) (by simpa using hj) (by omega)
          exact Int.lt_trans h1 this
      | succ i =>
        exact ih i j (by simpa using hi) (by simpa using hj) (by omega)
/-- one number more. -/
def stepF (out : List Int) (p : Nat) : List Int := out.set p (wrap64 (rd out (p : Int) + 1))
theorem stepF_len (out : List Int) (p : Nat) : (stepF out p).length = out.length := List.length_set
def cntF (es : List Nat) : List Int → List Nat → List Int
  | out, [] => out
  | out, v :: l => cntF es (stepF out (posF es v)) l
theorem half {lo hi : Nat} (h : lo < hi) (hh : hi ≤ 300) : wrap64 (Int.tdiv (wrap64 ((lo : Int) + (hi : Int))) 2) = (((lo + hi) / 2 : Nat) : Int) := by
  rw [w64 (i := (lo : Int) + hi) (by omega) (by omega), Int.tdiv_eq_ediv_of_nonneg (by omega), w64 (by omega) (by omega)]
  omega
theorem le_val {a b : Nat} (ha : a < 18446744073709551616) (hb : b < 18446744073709551616) (na : nan a = false) (nb : nan b = false) : (FloatKind.f64.format.order a b == some .lt || FloatKind.f64.format.order a b == some .eq) = decide (rank a ≤ rank b) := by
  rw [ord_lt ha hb na nb, ord_eq ha hb na nb, Bool.eq_iff_iff, Bool.or_eq_true, decide_eq_true_iff, decide_eq_true_iff, decide_eq_true_iff]
  omega
theorem search (es : List Nat) (he : okN es) (hf : allF es = true) (hs : rises es = true) (hl : es.length ≤ 256) (out : List Int) (ho : out.length = es.length + 1) (v : Nat) (hv : v < 18446744073709551616) (hfv : fin v = true) (xs : List Nat) (i : Nat) (hi : i < 4611686018427387904) (res : List Int × Int)
    (hj : Evt (fun k => grid_Count.l1 k es (stepF out (posF es v)) xs (xs.length : Int) ((i + 1 : Nat) : Int)) res) :
    ∀ d lo hi : Nat, hi - lo = d → lo ≤ posF es v → posF es v ≤ hi → hi ≤ es.length → Evt (fun k => grid_Count.l2 k es out v (lo : Int) (hi : Int) xs (xs.length : Int) (i : Int)) res := by
  intro d
  induction d using Nat.strongRecOn with
  | _ d ih =>
    intro lo hi hd h1 h2 h3
    by_cases hc : lo = hi
    · obtain rfl : lo = posF es v := by omega
      refine Evt.next hj fun k => ?_
      rw [grid_Count.l2, if_pos (by omega), if_pos (by omega), if_pos (by omega), w64 (i := (i : Int) + 1) (by omega) (by omega), Int.toNat_natCast]
      rfl
    · have hlt : lo < hi := by omega
      have hm : (lo + hi) / 2 < es.length := by omega
      have hem := he _ (List.getElem_mem hm)
      have hfm : fin es[(lo + hi) / 2] = true := List.all_eq_true.1 hf _ (List.getElem_mem hm)
      have hle := le_val hem hv (nan_fin hfm) (nan_fin hfv)
      by_cases hr : rank es[(lo + hi) / 2] ≤ rank v
      · have hp : (lo + hi) / 2 + 1 ≤ posF es v := by
          rcases Nat.lt_or_ge ((lo + hi) / 2) (posF es v) with h | h
          · omega
          · exfalso
            have hp1 : posF es v < es.length := by omega
            have h5 := posF_at es v hp1
            rcases Nat.lt_or_ge (posF es v) ((lo + hi) / 2) with h6 | h6
            · have := rises_lt es hs _ _ hp1 hm h6
              omega
            · have e : posF es v = (lo + hi) / 2 := by omega
              simp only [e] at h5
              omega
        refine Evt.next (ih (hi - ((lo + hi) / 2 + 1)) (by omega) ((lo + hi) / 2 + 1) hi rfl hp h2 h3) fun k => ?_
        rw [grid_Count.l2, if_neg (by omega), half hlt (by omega), if_pos (by omega), if_pos (by omega), rdf_at hm, hle, if_pos (decide_eq_true hr), w64 (by omega) (by omega)]
        rfl
      · have hp : posF es v ≤ (lo + hi) / 2 := by
          rcases Nat.lt_or_ge ((lo + hi) / 2) (posF es v) with h | h
          · exact absurd (posF_low es v _ hm h) hr
          · exact h
        refine Evt.next (ih ((lo + hi) / 2 - lo) (by omega) lo ((lo + hi) / 2) rfl h1 hp (by omega)) fun k => ?_
        rw [grid_Count.l2, if_neg (by omega), half hlt (by omega), if_pos (by omega), if_pos (by omega), rdf_at hm, hle, if_neg (by simpa using hr)]
theorem counts (es : List Nat) (he : okN es) (hf : allF es = true) (hs : rises es = true) (hl : es.length ≤ 256) (xs : List Nat) (hx : okN xs) (hfx : allF xs = true) (hxl : xs.length < 4611686018427387904) : ∀ (d i : Nat) (out : List Int), i + d = xs.length → out.length = es.length + 1 → Evt (fun k => grid_Count.l1 k es out xs (xs.length : Int) (i : Int)) (cntF es out (xs.drop i), 0)
  | 0, i, out, h, ho => by
    refine Evt.last fun k => ?_
    rw [grid_Count.l1, if_neg (by omega), List.drop_of_length_le (by omega)]
    rfl
  | d + 1, i, out, h, ho => by
    have hi : i < xs.length := by omega
    have ih := counts es he hf hs hl xs hx hfx hxl d (i + 1) (stepF out (posF es xs[i])) (by omega) (by rw [stepF_len]; exact ho)
    have e : cntF es out (xs.drop i) = cntF es (stepF out (posF es xs[i])) (xs.drop (i + 1)) := by rw [List.drop_eq_getElem_cons hi]; rfl
    rw [e]
    refine Evt.next (search es he hf hs hl out ho xs[i] (hx _ (List.getElem_mem hi)) (List.all_eq_true.1 hfx _ (List.getElem_mem hi)) xs i (by omega) _ ih (es.length - 0) 0 es.length rfl (Nat.zero_le _) (posF_le es _) (Nat.le_refl _)) fun k => ?_
    rw [grid_Count.l1, if_pos (by omega), if_pos (by omega), if_pos (by omega), rdf_at hi]
    rfl
/-- what Count tells. -/
def countF (x es : List Nat) : List Int × Int :=
  if 256 < es.length then ([], 2) else if es.length = 0 ∨ 1048576 < x.length then ([], 100) else if allF es = true ∧ allF x = true then (if rises es = true then (cntF es (List.replicate (es.length + 1) 0) x, 0) else ([], 1)) else ([], 91)
theorem order_go (x es : List Nat) (he : okN es) (hf : allF es = true) (hl : es.length ≤ 256) (h1 : 1 ≤ es.length) (r : List Int × Int)
    (hj : rises es = true → Evt (fun k => grid_Count.l1 k es (List.replicate (es.length + 1) 0) x (x.length : Int) 0) r) (hn : rises es = false → r = ([], 1)) :
    ∀ d i : Nat, i + 1 + d = es.length → (rises (es.drop i) = rises es) → Evt (fun k => grid_Count.l0 k x es ((es.length : Int) - 1) (i : Int)) r
  | 0, i, h, hr => by
    have e1 : es.drop i = [es[i]'(by omega)] := by rw [List.drop_eq_getElem_cons (by omega), List.drop_of_length_le (by omega)]
    rw [e1] at hr
    refine Evt.next (hj hr.symm) fun k => ?_
    rw [grid_Count.l0, if_neg (by omega), w64 (by omega) (by omega), if_pos (by omega)]
    have e2 : ((es.length : Int) + 1).toNat = es.length + 1 := by omega
    rw [e2, if_pos (by omega)]
  | d + 1, i, h, hr => by
    have hi : i < es.length := by omega
    have hi2 : i + 1 < es.length := by omega
    have e1 : es.drop i = es[i] :: es[i + 1] :: es.drop (i + 1 + 1) := by rw [List.drop_eq_getElem_cons hi, List.drop_eq_getElem_cons hi2]
    have e2 : es.drop (i + 1) = es[i + 1] :: es.drop (i + 1 + 1) := List.drop_eq_getElem_cons hi2
    have hgt := ord_gt (he _ (List.getElem_mem hi2)) (he _ (List.getElem_mem hi)) (nan_fin (List.all_eq_true.1 hf _ (List.getElem_mem hi2))) (nan_fin (List.all_eq_true.1 hf _ (List.getElem_mem hi)))
    have e3 : wrap64 ((i : Int) + 1) = ((i + 1 : Nat) : Int) := by rw [w64 (by omega) (by omega)]; rfl
    rw [e1, rises, ← e2] at hr
    by_cases c : rank es[i] < rank es[i + 1]
    · rw [decide_eq_true c, Bool.true_and] at hr
      refine Evt.next (order_go x es he hf hl h1 r hj hn d (i + 1) (by omega) hr) fun k => ?_
      rw [grid_Count.l0, if_pos (by omega), e3, if_pos (by omega), if_pos (by omega), if_pos (by omega), if_pos (by omega), rdf_at hi, rdf_at hi2, hgt, if_pos (decide_eq_true c)]
    · rw [decide_eq_false c, Bool.false_and] at hr
      rw [hn hr.symm]
      refine Evt.last fun k => ?_
      rw [grid_Count.l0, if_pos (by omega), e3, if_pos (by omega), if_pos (by omega), if_pos (by omega), if_pos (by omega), rdf_at hi, rdf_at hi2, hgt, if_neg (by simpa using c)]
theorem count_e (x es : List Nat) (hx : okN x) (he : okN es) (hxl : x.length < 4611686018427387904) : Evt (fun k => grid_Count.f k x es) (countF x es) := by
  unfold grid_Count.f countF
  by_cases c1 : 256 < es.length
  · rw [if_pos c1]; exact Evt.ifT (by omega) (Evt.const fun _ => rfl)
  · rw [if_neg c1]
    refine Evt.ifF (by omega) ?_
    have hj0 : ∀ b : Bool, b = decide (es.length = 0 ∨ 1048576 < x.length) → Evt (fun k => grid_Count.j0 k x es b) (if es.length = 0 ∨ 1048576 < x.length then ([], 100) else if allF es = true ∧ allF x = true then (if rises es = true then (cntF es (List.replicate (es.length + 1) 0) x, 0) else ([], 1)) else ([], 91)) := by
      intro b hb
      by_cases c2 : es.length = 0 ∨ 1048576 < x.length
      · rw [if_pos c2]
        refine Evt.last fun k => ?_
        rw [grid_Count.j0, if_pos (hb.trans (decide_eq_true c2))]
      · rw [if_neg c2]
        have hb2 : ¬ b = true := by rw [hb, decide_eq_false c2]; decide
        refine Evt.next (f := fun k => ((grid_numbers.f k es).bind fun t113 => (if t113 = 0 then ((grid_numbers.f k x).bind fun t114 => (grid_Count.j1 k x es (t114 != 0))) else (grid_Count.j1 k x es true)))) ?_ fun k => by rw [grid_Count.j0, if_neg hb2]
        refine (numbers_e es he (by omega)).bind ?_
        by_cases c3 : allF es = true
        · rw [if_pos c3]
          refine Evt.ifT rfl ((numbers_e x hx hxl).bind ?_)
          by_cases c4 : allF x = true
          · rw [if_pos c4, if_pos ⟨c3, c4⟩]
            have hgo := order_go x es he c3 (by omega) (by omega) (if rises es = true then (cntF es (List.replicate (es.length + 1) 0) x, 0) else ([], 1)) (fun hr => by
                rw [if_pos hr]
                exact counts es he c3 hr (by omega) x hx c4 hxl x.length 0 (List.replicate (es.length + 1) 0) (by omega) (by rw [List.length_replicate])) (fun hr => by rw [hr, if_neg (by decide)]) (es.length - 1) 0 (by omega) rfl
            refine Evt.next hgo fun k => ?_
            rw [grid_Count.j1, if_neg (by decide), w64 (by omega) (by omega)]
            rfl
          · rw [if_neg c4, if_neg (fun h => c4 h.2)]
            exact Evt.last fun k => by rw [grid_Count.j1, if_pos (by decide)]
        · rw [if_neg c3, if_neg (fun h => c3 h.1)]
          exact Evt.ifF (by decide) (Evt.last fun k => by rw [grid_Count.j1, if_pos rfl])
    by_cases c2 : es.length = 0
    · exact Evt.ifT (by omega) (hj0 true (decide_eq_true (.inl c2)).symm)
    · refine Evt.ifF (by omega) (hj0 _ ?_)
      rw [decide_eq_decide]
      omega
end Go.Proofs.Ytepcegiciecogaa.FG
