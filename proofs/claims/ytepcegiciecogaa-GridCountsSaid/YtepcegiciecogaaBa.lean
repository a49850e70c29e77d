/- GridCounts, the plain law. No walk. -/
import Derived.Test.YtepcegiciecogaaFIx3
import Derived.Test.YtepcegiciecogaaBb
namespace Go.Proofs.Ytepcegiciecogaa.FI
open Go.RowKit Go.Proofs.YtepcegiciecogaaW.PrintWords Go.Proofs.YtepcegiciecogaaW.PrintLast Go.Proofs.YtepcegiciecogaaW.PrintMore Tn
open Go.Proofs.Ytepcegiciecogaa.FX Go.Proofs.Ytepcegiciecogaa.EV Go.Proofs.Ytepcegiciecogaa.FG
set_option linter.unusedVariables false

theorem isnan_val {a : Nat} (h : a < 18446744073709551616) : tenorref1_IsNaN.f (a : Int) = some (nan a) := by
  unfold tenorref1_IsNaN.f; rw [andNot_sign a h]; exact congrArg some (nan_int a)
theorem rnum_f {a : Nat} (h : a < 18446744073709551616) : tenorref1_Number.f (a : Int) = some (fin a) := by
  unfold tenorref1_Number.f
  rw [andNot_sign a h]
  exact congrArg some (fin_int a)
theorem rank_val {a : Nat} (h : a < 18446744073709551616) : tenorref1_Rank.f (a : Int) = some (rank a, ok a) := by
  unfold tenorref1_Rank.f
  rw [isnan_val h]
  simp only [Option.bind_some]
  cases hn : nan a
  · rw [if_neg (by decide)]
    have ho : ok a = true := by rw [ok_nan, hn]; rfl
    have hm : mag a ≤ 9218868437227405312 := mag_le_inf hn
    rw [ho]
    cases hs : sgn a
    · have := mag_pos hs
      have h9 : ¬ (a : Int) ≥ 9223372036854775808 := by omega
      rw [if_neg h9, w64 (by omega) (by omega), this]
      rw [rank_pos hn (by rw [neg_ok hn, hs])]
    · have := mag_sgn h hs
      have h9 : (a : Int) ≥ 9223372036854775808 := by omega
      rw [if_pos h9, sub_sign h hs, wrap_nmag]
      rw [rank_neg hn (by rw [neg_ok hn, hs])]
  · rw [if_pos rfl, rank_nan hn, ok_nan, hn]; rfl
theorem lt_val {a b : Nat} (ha : a < 18446744073709551616) (hb : b < 18446744073709551616) (hn : nan a = false) (hm : nan b = false) : tenorref1_Lt.f (a : Int) (b : Int) = some (decide (rank a < rank b)) := by
  unfold tenorref1_Lt.f
  rw [rank_val ha, rank_val hb]
  simp only [Option.bind_some]
  rw [ok_nan, ok_nan, hn, hm, if_pos (by rfl), if_pos (by rfl)]
theorem bits_go (l : List Nat) (hl : l.length < 17592186044416) : ∀ d i : Nat, i + d = l.length → Evt (fun k => tenorlaw1_Bits.l0 k l (bitsL (l.take i)) (i : Int)) (bitsL l)
  | 0, i, h => by
    refine Evt.last fun k => ?_
    rw [tenorlaw1_Bits.l0, if_neg (by omega), List.take_of_length_le (by omega)]
  | d + 1, i, h => by
    have hi : i < l.length := by omega
    refine Evt.next (bits_go l hl d (i + 1) (by omega)) fun k => ?_
    rw [tenorlaw1_Bits.l0, if_pos (by omega), if_pos (by omega), rdf_at hi]
    unfold api_Bits.f
    rw [Option.bind_some, if_pos (by rw [bitsL_len, List.length_take]; have := Nat.min_le_right i l.length; omega), w64 (by omega) (by omega)]
    unfold bitsL
    rw [List.take_succ_eq_append_getElem hi, List.map_append]
    rfl
theorem bits_e (l : List Nat) (hl : l.length < 17592186044416) : Evt (fun k => tenorlaw1_Bits.f k l) (bitsL l) := bits_go l hl l.length 0 (by omega)
theorem same_go (l : List Int) (hl : l.length < 4611686018427387904) : ∀ d i : Nat, i + d = l.length → Evt (fun k => tenorlaw25_same.l0 k l l (i : Int)) true
  | 0, i, h => Evt.last fun k => by rw [tenorlaw25_same.l0, if_neg (by omega)]
  | d + 1, i, h => by
    refine Evt.next (same_go l hl d (i + 1) (by omega)) fun k => ?_
    rw [tenorlaw25_same.l0, if_pos (by omega), if_pos (by omega), if_pos (by omega), if_pos rfl, w64 (by omega) (by omega)]
    rfl
theorem same_e (l : List Int) (hl : l.length < 4611686018427387904) : Evt (fun k => tenorlaw25_same.f k l l) true :=
  (same_go l hl l.length 0 (by omega)).congr fun k => by unfold tenorlaw25_same.f; rw [if_pos rfl]; rfl
/-! ### the document's Count -/
theorem l4_e (x es : List Nat) (he : okN es) (hf : allF es = true) (hl : es.length ≤ 256) (out : List Int) (ho : out.length = es.length + 1) (i : Nat) (hi : i < x.length) (hil : x.length ≤ 1048576) (hv : x[i] < 18446744073709551616) (hfv : fin x[i] = true) (res : List Int × Int)
    (hj : Evt (fun k => tenorref25_Count.l3 k (bitsL x) (bitsL es) (stepF out (posF es x[i])) ((i + 1 : Nat) : Int)) res) :
    ∀ d j : Nat, j + d = posF es x[i] → Evt (fun k => tenorref25_Count.l4 k (bitsL x) (bitsL es) out (i : Int) (j : Int)) res
  | 0, j, h => by
    rw [Nat.add_zero] at h
    have hp := posF_le es x[i]
    refine Evt.next hj fun k => ?_
    rw [tenorref25_Count.l4, bitsL_len, bitsL_len]
    by_cases c : j < es.length
    · have hlt := posF_at es x[i] (by omega)
      have h5 : rank x[i] < rank es[j] := by simp only [← h] at hlt; exact hlt
      rw [if_pos (by omega), if_pos (by omega), if_pos (by omega), if_pos (by omega), rdb_at hi, rdb_at c, lt_val hv (he _ (List.getElem_mem c)) (nan_fin hfv) (nan_fin (List.all_eq_true.1 hf _ (List.getElem_mem c))), Option.bind_some, if_pos (decide_eq_true h5), if_pos (by omega), w64 (i := (i : Int) + 1) (by omega) (by omega), Int.toNat_natCast, h]
      rfl
    · rw [if_neg (by omega), if_pos (by omega), if_pos (by omega), w64 (i := (i : Int) + 1) (by omega) (by omega), Int.toNat_natCast, h]
      rfl
  | d + 1, j, h => by
    have hp := posF_le es x[i]
    have c : j < es.length := by omega
    have h5 := posF_low es x[i] j c (by omega)
    refine Evt.next (l4_e x es he hf hl out ho i hi hil hv hfv res hj d (j + 1) (by omega)) fun k => ?_
    rw [tenorref25_Count.l4, bitsL_len, bitsL_len, if_pos (by omega), if_pos (by omega), if_pos (by omega), if_pos (by omega), rdb_at hi, rdb_at c, lt_val hv (he _ (List.getElem_mem c)) (nan_fin hfv) (nan_fin (List.all_eq_true.1 hf _ (List.getElem_mem c))), Option.bind_some, if_neg (by simp; omega), w64 (by omega) (by omega)]
    rfl
theorem l3_e (x es : List Nat) (hx : okN x) (hfx : allF x = true) (he : okN es) (hf : allF es = true) (hl : es.length ≤ 256) (hil : x.length ≤ 1048576) : ∀ (d i : Nat) (out : List Int), i + d = x.length → out.length = es.length + 1 → Evt (fun k => tenorref25_Count.l3 k (bitsL x) (bitsL es) out (i : Int)) (cntF es out (x.drop i), 0)
  | 0, i, out, h, ho => by
    refine Evt.last fun k => ?_
    rw [tenorref25_Count.l3, bitsL_len, if_neg (by omega), List.drop_of_length_le (by omega)]
    rfl
  | d + 1, i, out, h, ho => by
    have hi : i < x.length := by omega
    have ih := l3_e x es hx hfx he hf hl hil d (i + 1) (stepF out (posF es x[i])) (by omega) (by rw [stepF_len]; exact ho)
    have e : cntF es out (x.drop i) = cntF es (stepF out (posF es x[i])) (x.drop (i + 1)) := by rw [List.drop_eq_getElem_cons hi]; rfl
    rw [e]
    refine Evt.next (l4_e x es he hf hl out ho i hi hil (hx _ (List.getElem_mem hi)) (List.all_eq_true.1 hfx _ (List.getElem_mem hi)) _ ih _ 0 (Nat.zero_add _)) fun k => ?_
    rw [tenorref25_Count.l3, bitsL_len, if_pos (by omega)]
    rfl
theorem l2_e (x es : List Nat) (he : okN es) (hf : allF es = true) (hl : es.length ≤ 256) (h1 : 1 ≤ es.length) (r : List Int × Int)
    (hj : rises es = true → Evt (fun k => tenorref25_Count.l3 k (bitsL x) (bitsL es) (List.replicate (es.length + 1) 0) 0) r) (hn : rises es = false → r = ([], 1)) :
    ∀ d i : Nat, i + 1 + d = es.length → (rises (es.drop i) = rises es) → Evt (fun k => tenorref25_Count.l2 k (bitsL x) (bitsL es) ((i + 1 : Nat) : Int)) r
  | 0, i, h, hr => by
    have e1 : es.drop i = [es[i]'(by omega)] := by rw [List.drop_eq_getElem_cons (by omega), List.drop_of_length_le (by omega)]
    rw [e1] at hr
    refine Evt.next (hj hr.symm) fun k => ?_
    rw [tenorref25_Count.l2, bitsL_len, if_neg (by omega), w64 (by omega) (by omega), if_pos (by omega)]
    have e2 : ((es.length : Int) + 1).toNat = es.length + 1 := by omega
    rw [e2, if_pos (by omega)]
  | d + 1, i, h, hr => by
    have hi : i < es.length := by omega
    have hi2 : i + 1 < es.length := by omega
    have e1 : es.drop i = es[i] :: es[i + 1] :: es.drop (i + 1 + 1) := by rw [List.drop_eq_getElem_cons hi, List.drop_eq_getElem_cons hi2]
    have e2 : es.drop (i + 1) = es[i + 1] :: es.drop (i + 1 + 1) := List.drop_eq_getElem_cons hi2
    have hlt := lt_val (he _ (List.getElem_mem hi)) (he _ (List.getElem_mem hi2)) (nan_fin (List.all_eq_true.1 hf _ (List.getElem_mem hi))) (nan_fin (List.all_eq_true.1 hf _ (List.getElem_mem hi2)))
    have e3 : wrap64 (((i + 1 : Nat) : Int) - 1) = (i : Int) := by rw [w64 (by omega) (by omega)]; omega
    rw [e1, rises, ← e2] at hr
    by_cases c : rank es[i] < rank es[i + 1]
    · rw [decide_eq_true c, Bool.true_and] at hr
      refine Evt.next (l2_e x es he hf hl h1 r hj hn d (i + 1) (by omega) hr) fun k => ?_
      rw [tenorref25_Count.l2, bitsL_len, if_pos (by omega), e3, if_pos (by omega), if_pos (by omega), if_pos (by omega), rdb_at hi, rdb_at hi2, hlt, Option.bind_some, if_pos (decide_eq_true c), w64 (by omega) (by omega)]
      rfl
    · rw [decide_eq_false c, Bool.false_and] at hr
      rw [hn hr.symm]
      refine Evt.last fun k => ?_
      rw [tenorref25_Count.l2, bitsL_len, if_pos (by omega), e3, if_pos (by omega), if_pos (by omega), if_pos (by omega), rdb_at hi, rdb_at hi2, hlt, Option.bind_some, if_neg (by simpa using c)]
theorem l1_e (x es : List Nat) (he : okN es) (hl : es.length ≤ 256) (r : List Int × Int) (hj : allF es = true → Evt (fun k => tenorref25_Count.l2 k (bitsL x) (bitsL es) 1) r) (hn : allF es = false → r = ([], 91)) :
    ∀ d i : Nat, i + d = es.length → (allF (es.drop i) = allF es) → Evt (fun k => tenorref25_Count.l1 k (bitsL x) (bitsL es) (i : Int)) r
  | 0, i, h, hr => by
    rw [List.drop_of_length_le (by omega)] at hr
    exact Evt.next (hj hr.symm) fun k => by rw [tenorref25_Count.l1, bitsL_len, if_neg (by omega)]
  | d + 1, i, h, hr => by
    have hi : i < es.length := by omega
    have e : allF (es.drop i) = (fin es[i] && allF (es.drop (i + 1))) := by rw [List.drop_eq_getElem_cons hi]; rfl
    rw [e] at hr
    cases hf : fin es[i]
    · rw [hf, Bool.false_and] at hr
      rw [hn hr.symm]
      exact Evt.last fun k => by rw [tenorref25_Count.l1, bitsL_len, if_pos (by omega), if_pos (by omega), rdb_at hi, rnum_f (he _ (List.getElem_mem hi)), Option.bind_some, hf, if_neg (by decide)]
    · rw [hf, Bool.true_and] at hr
      refine Evt.next (l1_e x es he hl r hj hn d (i + 1) (by omega) hr) fun k => ?_
      rw [tenorref25_Count.l1, bitsL_len, if_pos (by omega), if_pos (by omega), rdb_at hi, rnum_f (he _ (List.getElem_mem hi)), Option.bind_some, hf, if_pos rfl, w64 (by omega) (by omega)]
      rfl
theorem l0_e (x es : List Nat) (hx : okN x) (hl : x.length ≤ 1048576) (r : List Int × Int) (hj : allF x = true → Evt (fun k => tenorref25_Count.l1 k (bitsL x) (bitsL es) 0) r) (hn : allF x = false → r = ([], 91)) :
    ∀ d i : Nat, i + d = x.length → (allF (x.drop i) = allF x) → Evt (fun k => tenorref25_Count.l0 k (bitsL x) (bitsL es) (i : Int)) r
  | 0, i, h, hr => by
    rw [List.drop_of_length_le (by omega)] at hr
    exact Evt.next (hj hr.symm) fun k => by rw [tenorref25_Count.l0, bitsL_len, if_neg (by omega)]
  | d + 1, i, h, hr => by
    have hi : i < x.length := by omega
    have e : allF (x.drop i) = (fin x[i] && allF (x.drop (i + 1))) := by rw [List.drop_eq_getElem_cons hi]; rfl
    rw [e] at hr
    cases hf : fin x[i]
    · rw [hf, Bool.false_and] at hr
      rw [hn hr.symm]
      exact Evt.last fun k => by rw [tenorref25_Count.l0, bitsL_len, if_pos (by omega), if_pos (by omega), rdb_at hi, rnum_f (hx _ (List.getElem_mem hi)), Option.bind_some, hf, if_neg (by decide)]
    · rw [hf, Bool.true_and] at hr
      refine Evt.next (l0_e x es hx hl r hj hn d (i + 1) (by omega) hr) fun k => ?_
      rw [tenorref25_Count.l0, bitsL_len, if_pos (by omega), if_pos (by omega), rdb_at hi, rnum_f (hx _ (List.getElem_mem hi)), Option.bind_some, hf, if_pos rfl, w64 (by omega) (by omega)]
      rfl
theorem rcount_e (x es : List Nat) (hx : okN x) (he : okN es) : Evt (fun k => tenorref25_Count.f k (bitsL x) (bitsL es)) (countF x es) := by
  unfold tenorref25_Count.f countF
  rw [bitsL_len, bitsL_len]
  by_cases c1 : 256 < es.length
  · rw [if_pos c1]; exact Evt.ifT (by omega) (Evt.const fun _ => rfl)
  · rw [if_neg c1]
    refine Evt.ifF (by omega) ?_
    have hj0 : ∀ b : Bool, b = decide (es.length = 0 ∨ 1048576 < x.length) → Evt (fun k => tenorref25_Count.j0 k (bitsL x) (bitsL es) b) (if es.length = 0 ∨ 1048576 < x.length then ([], 100) else if allF es = true ∧ allF x = true then (if rises es = true then (cntF es (List.replicate (es.length + 1) 0) x, 0) else ([], 1)) else ([], 91)) := by
      intro b hb
      by_cases c2 : es.length = 0 ∨ 1048576 < x.length
      · rw [if_pos c2]
        refine Evt.last fun k => ?_
        rw [tenorref25_Count.j0, if_pos (hb.trans (decide_eq_true c2))]
      · rw [if_neg c2]
        have hb2 : ¬ b = true := by rw [hb, decide_eq_false c2]; decide
        refine Evt.next (f := fun k => tenorref25_Count.l0 k (bitsL x) (bitsL es) 0) ?_ fun k => by rw [tenorref25_Count.j0, if_neg hb2]
        refine l0_e x es hx (by omega) _ (fun hfx => ?_) (fun hfx => by rw [if_neg (fun h => by rw [hfx] at h; exact absurd h.2 (by decide))]) x.length 0 (by omega) rfl
        refine l1_e x es he (by omega) _ (fun hf => ?_) (fun hf => by rw [if_neg (fun h => by rw [hf] at h; exact absurd h.1 (by decide))]) es.length 0 (by omega) rfl
        rw [if_pos ⟨hf, hfx⟩]
        refine l2_e x es he hf (by omega) (by omega) _ (fun hr => ?_) (fun hr => by rw [hr, if_neg (by decide)]) (es.length - 1) 0 (by omega) rfl
        rw [if_pos hr]
        exact l3_e x es hx hfx he hf (by omega) (by omega) x.length 0 _ (by omega) (by rw [List.length_replicate])
    by_cases c2 : es.length = 0
    · exact Evt.ifT (by omega) (hj0 true (decide_eq_true (.inl c2)).symm)
    · refine Evt.ifF (by omega) (hj0 _ ?_)
      rw [decide_eq_decide]
      omega
theorem cntF_len (es : List Nat) : ∀ (x : List Nat) (out : List Int), (cntF es out x).length = out.length
  | [], _ => rfl
  | v :: l, out => by rw [cntF, cntF_len es l, stepF_len]
theorem countF_len (x es : List Nat) : (countF x es).1.length ≤ 257 := by
  unfold countF
  split
  · exact Nat.zero_le _
  · split
    · exact Nat.zero_le _
    · split
      · split
        · show (cntF _ _ _).length ≤ _
          rw [cntF_len, List.length_replicate]; omega
        · exact Nat.zero_le _
      · exact Nat.zero_le _
theorem law (x es : List Nat) (hx : okN x) (he : okN es) (hxl : x.length < 17592186044416) (hel : es.length < 17592186044416) : ∃ k, tenorlaw25_GridCounts.f k x es = some true := by
  have hj : ∀ b : Bool, Evt (fun k => tenorlaw25_GridCounts.j0 k x es b) true := by
    intro b
    cases b
    · refine Evt.next (f := fun k => ((grid_Count.f k x es).bind fun bt131 => ((tenorlaw1_Bits.f k x).bind fun t135 => ((tenorlaw1_Bits.f k es).bind fun t138 => ((tenorref25_Count.f k t135 t138).bind fun bt141 => ((tenorlaw25_same.f k bt131.1 bt141.1).bind fun t145 => (if t145 = true then (if bt131.2 = bt141.2 then ((law25_awake.f).bind fun t146 => (some t146)) else (some false)) else (some false)))))))) ?_ fun k => by rw [tenorlaw25_GridCounts.j0, if_neg (by decide)]
      refine (count_e x es hx he (by omega)).bind ((bits_e x hxl).bind ((bits_e es hel).bind ((rcount_e x es hx he).bind ((same_e _ ?_).bind ?_))))
      · have := countF_len x es; omega
      · exact Evt.ifT rfl (Evt.ifT rfl (Evt.const fun _ => rfl))
    · exact Evt.last fun k => by rw [tenorlaw25_GridCounts.j0, if_pos rfl]; rfl
  refine Evt.get ?_
  unfold tenorlaw25_GridCounts.f
  by_cases h : (x.length : Int) > 100
  · exact Evt.ifT h (hj true)
  · exact Evt.ifF h (hj _)
end Go.Proofs.Ytepcegiciecogaa.FI
