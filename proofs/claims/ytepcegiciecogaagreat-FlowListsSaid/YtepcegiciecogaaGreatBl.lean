/- FlowLists, plainly: Give, Scale, Window and Shift answer as the reference does, for any list, number, days and months. No walk. -/
import Derived.Test.YtepcegiciecogaaGreatFLx1
import Derived.Test.YtepcegiciecogaaGreatFLx2
import Derived.Test.YtepcegiciecogaaGreatAt
import Derived.Test.YtepcegiciecogaaGreatDt
import Derived.Test.YtepcegiciecogaaGreatRefM
namespace Go.Proofs.YtepcegiciecogaaGreat.FL
open Go.RowKit Go.Proofs.YtepcegiciecogaaGreatW.PrintWords Go.Proofs.YtepcegiciecogaaGreatW.PrintLast Go.Proofs.YtepcegiciecogaaGreatW.PrintMore Tn
open Go.Proofs.YtepcegiciecogaaGreat.FX Go.Proofs.YtepcegiciecogaaGreat.FB Go.Proofs.YtepcegiciecogaaGreat.FP
set_option linter.unusedVariables false

def w64L (l : List S46) : Prop := ∀ x ∈ l, x.f1 < 18446744073709551616
theorem evx {α : Type} {g : Nat → Option α} {r : α} (h : Ev g r) : Evt g r := h
theorem take_map {α : Type} {f : S46 → α} {l : List S46} {i : Nat} (hi : i < l.length) : (l.take i).map f ++ [f l[i]] = (l.take (i + 1)).map f := by
  rw [List.take_succ_eq_append_getElem hi, List.map_append]; rfl
theorem tk_len {α : Type} {f : S46 → α} {l : List S46} (hl : l.length ≤ 120) (i : Nat) : ((l.take i).map f).length < 5864062014805 := by
  rw [List.length_map, List.length_take]; omega
theorem wri {i n : Nat} (h : i < n) (hn : n ≤ 4096) : wrap64 ((i : Int) + 1) = ((i + 1 : Nat) : Int) := by unfold wrap64; omega
theorem rsame_e (l : List S46) (hl : l.length < 5864062014805) : Evt (fun k => tenorref14_Same.f k l (l.map toR)) true := by
  obtain ⟨k, hk⟩ := same_go l hl l.length 0 (by omega)
  refine evt (tenorref14_Same.mono l (l.map toR)) ⟨k, ?_⟩
  unfold tenorref14_Same.f
  rw [if_pos (by rw [List.length_map])]
  exact hk
/-! ### Give -/
theorem rgive_go {l : List S46} (hl : l.length ≤ 120) (hw : w64L l) : ∀ d i : Nat, i + d = l.length → Evt (fun k => tenorref14_Give.l0 k (l.map toR) ((l.take i).map fun x => toR (gv x)) (i : Int)) ((l.map gv).map toR)
  | 0, i, h => by
    refine Evt.next (f := fun _ => some ((l.map gv).map toR)) (Evt.const fun _ => rfl) fun k => ?_
    rw [tenorref14_Give.l0, if_neg (by rw [List.length_map]; omega), List.take_of_length_le (by omega), List.map_map]; rfl
  | d + 1, i, h => by
    have hi : i < l.length := by omega
    refine Evt.next (rgive_go hl hw d (i + 1) (by omega)) fun k => ?_
    rw [tenorref14_Give.l0, if_pos (by rw [List.length_map]; omega), if_pos (by omega), rdR_at hi]
    show (FR.tenorref1_Flip.f ((l[i]).f1 : Int)).bind _ = _
    rw [FR.flip_v (hw _ (List.getElem_mem hi)), Option.bind_some, if_pos (tk_len hl i), wri hi (by omega), ← take_map hi]
    rfl
theorem rgive_e {l : List S46} (hl : l.length ≤ 120) (hw : w64L l) : Evt (fun k => tenorref14_Give.f k (l.map toR)) ((l.map gv).map toR) := rgive_go hl hw l.length 0 (by omega)
/-! ### Window -/
theorem rwin_go {l : List S46} (hl : l.length ≤ 120) (a b : Int) : ∀ d i : Nat, i + d = l.length → Evt (fun k => tenorref14_Window.l0 k (l.map toR) a b ((winF (l.take i) a b).map toR) (i : Int)) ((winF l a b).map toR)
  | 0, i, h => by
    refine Evt.next (f := fun _ => some ((winF l a b).map toR)) (Evt.const fun _ => rfl) fun k => ?_
    rw [tenorref14_Window.l0, if_neg (by rw [List.length_map]; omega), List.take_of_length_le (by omega)]
  | d + 1, i, h => by
    have hi : i < l.length := by omega
    refine Evt.next (rwin_go hl a b d (i + 1) (by omega)) fun k => ?_
    have hn : winF (l.take (i + 1)) a b = winF (l.take i) a b ++ winF [l[i]] a b := by
      rw [List.take_succ_eq_append_getElem hi]; exact List.filter_append ..
    have hlen : ((winF (l.take i) a b).map toR).length < 5864062014805 := by
      rw [List.length_map]
      have := win_len (l.take i) a b
      rw [List.length_take] at this; omega
    rw [tenorref14_Window.l0, if_pos (by rw [List.length_map]; omega), if_pos (by omega), rdR_at hi, wri hi (by omega), hn]
    show (if a ≤ (l[i]).f0 then (if (l[i]).f0 < b then _ else _) else _) = _
    have hw1 : winF [l[i]] a b = if a ≤ (l[i]).f0 ∧ (l[i]).f0 < b then [l[i]] else [] := by
      unfold winF inW
      by_cases c : a ≤ (l[i]).f0 ∧ (l[i]).f0 < b
      · rw [if_pos c, List.filter_cons_of_pos (by simp; omega)]; rfl
      · rw [if_neg c, List.filter_cons_of_neg (by simp; omega)]; rfl
    rw [hw1]
    by_cases c1 : a ≤ (l[i]).f0
    · rw [if_pos c1]
      by_cases c2 : (l[i]).f0 < b
      · rw [if_pos c2, if_pos hlen, if_pos ⟨c1, c2⟩, List.map_append]; rfl
      · rw [if_neg c2, if_neg (fun h0 => c2 h0.2), List.append_nil]
    · rw [if_neg c1, if_neg (fun h0 => c1 h0.1), List.append_nil]
theorem rwin_e {l : List S46} (hl : l.length ≤ 120) (a b : Int) : Evt (fun k => tenorref14_Window.f k (l.map toR) a b) ((winF l a b).map toR) := rwin_go hl a b l.length 0 (by omega)
/-! ### Scale -/
def scx (x : Nat) (f : S46) : S46 := ⟨f.f0, fmulV x f.f1, f.f2⟩
def okM (x : Nat) (f : S46) : Bool := fmulK x f.f1 && fin (fmulV x f.f1)
def scaleE (x : Nat) (l : List S46) : List S46 × Int := if fin x = true then (if l.all (okM x) = true then (l.map (scx x), 0) else ([], 91)) else ([], 91)
theorem mulV_lt {x y : Nat} (h : fmulK x y = true) : fmulV x y < 18446744073709551616 := by
  unfold fmulK at h
  obtain ⟨q, hq⟩ := Option.isSome_iff_exists.1 h
  have e : fmulV x y = q := by unfold fmulV; rw [hq]; rfl
  rw [e]
  unfold Ieee.Format.mul at hq
  obtain ⟨d, _, hd⟩ := Option.map_eq_some_iff.1 hq
  rw [← hd]
  exact Ieee.double.write_lt d
theorem drop_all {x : Nat} {l : List S46} {i : Nat} (hi : i < l.length) : (l.drop i).all (okM x) = (okM x l[i] && (l.drop (i + 1)).all (okM x)) := by
  rw [List.drop_eq_getElem_cons hi]; rfl
theorem scale_go {l : List S46} (hl : l.length ≤ 120) (hw : w64L l) (x : Nat) : ∀ d i : Nat, i + d = l.length → Evt (fun k => FS.flow_Scale.l0 k x ((l.take i).map (scx x)) l (l.length : Int) (i : Int)) (if (l.drop i).all (okM x) = true then (l.map (scx x), 0) else ([], 91))
  | 0, i, h => by
    rw [List.drop_of_length_le (by omega), if_pos (by rfl)]
    refine Evt.next (f := fun _ => some (l.map (scx x), 0)) (Evt.const fun _ => rfl) fun k => ?_
    rw [FS.flow_Scale.l0, if_neg (by omega), List.take_of_length_le (by omega)]
  | d + 1, i, h => by
    have hi : i < l.length := by omega
    have ih := scale_go hl hw x d (i + 1) (by omega)
    rw [drop_all hi]
    cases hk : fmulK x (l[i]).f1
    · have e : okM x l[i] = false := by unfold okM; rw [hk]; rfl
      rw [e, Bool.false_and, if_neg (by decide)]
      refine Evt.next (f := fun _ => some ([], 91)) (Evt.const fun _ => rfl) fun k => ?_
      rw [FS.flow_Scale.l0, if_pos (by omega), if_pos (by omega), if_pos (by omega), rd_at hi, if_neg (by rw [hk]; decide)]
    · have hlt := mulV_lt hk
      cases hf : fin (fmulV x (l[i]).f1)
      · have e : okM x l[i] = false := by unfold okM; rw [hk, hf]; rfl
        rw [e, Bool.false_and, if_neg (by decide)]
        refine Evt.next (f := fun _ => some ([], 91)) (Evt.const fun _ => rfl) fun k => ?_
        rw [FS.flow_Scale.l0, if_pos (by omega), if_pos (by omega), if_pos (by omega), rd_at hi, if_pos hk, num_f hlt, Option.bind_some, hf, if_neg (by decide)]
      · have e : okM x l[i] = true := by unfold okM; rw [hk, hf]; rfl
        rw [e, Bool.true_and]
        refine Evt.next ih fun k => ?_
        rw [FS.flow_Scale.l0, if_pos (by omega), if_pos (by omega), if_pos (by omega), rd_at hi, if_pos hk, num_f hlt, Option.bind_some, hf, if_pos rfl, if_pos (tk_len hl i), wri hi (by omega), ← take_map hi]
        rfl
theorem scale_e {l : List S46} (hl : l.length ≤ 120) (hw : w64L l) {x : Nat} (hx : x < 18446744073709551616) : Evt (fun k => FS.flow_Scale.f k x l) (scaleE x l) := by
  unfold FS.flow_Scale.f scaleE
  refine Evt.after (num_f hx) ?_
  cases hf : fin x
  · rw [if_neg (by decide)]
    exact Evt.ifF (by decide) (Evt.const fun _ => rfl)
  · rw [if_pos rfl]
    refine Evt.ifT rfl (Evt.ifT (by omega) (Evt.ifT (by omega) ?_))
    have := scale_go hl hw x l.length 0 (by omega)
    rw [List.drop_zero] at this
    exact this
theorem rscale_go {l : List S46} (hl : l.length ≤ 120) (hw : w64L l) {x : Nat} (hx : x < 18446744073709551616) (fx : fin x = true) : ∀ d i : Nat, i + d = l.length → Evt (fun k => tenorref14_Scale.l0 k (x : Int) (l.map toR) ((l.take i).map fun f => toR (scx x f)) (i : Int)) (if (l.drop i).all (okM x) = true then ((l.map (scx x)).map toR, 0) else ([], 91))
  | 0, i, h => by
    rw [List.drop_of_length_le (by omega), if_pos (by rfl)]
    refine Evt.next (f := fun _ => some ((l.map (scx x)).map toR, 0)) (Evt.const fun _ => rfl) fun k => ?_
    rw [tenorref14_Scale.l0, if_neg (by rw [List.length_map]; omega), List.take_of_length_le (by omega), List.map_map]; rfl
  | d + 1, i, h => by
    have hi : i < l.length := by omega
    have ih := rscale_go hl hw hx fx d (i + 1) (by omega)
    obtain ⟨r, hr, hE, hc⟩ := FR.rmul_e hx (hw _ (List.getElem_mem hi)) fx
    rw [drop_all hi]
    refine Evt.next (f := fun k => (FR.tenorref1_Mul.f k (x : Int) ((l[i]).f1 : Int)).bind fun t120 => ((tenorref1_Number.f t120).bind fun t121 => (if t121 = true then (if ((l.take i).map fun f => toR (scx x f)).length < 5864062014805 then (tenorref14_Scale.l0 k (x : Int) (l.map toR) (((l.take i).map fun f => toR (scx x f)) ++ [(⟨(l[i]).f0, t120, (l[i]).f2⟩ : S79)]) ((i + 1 : Nat) : Int)) else (none)) else (some (([] : List (S79)), 91))))) ?_ (fun k => by
      rw [tenorref14_Scale.l0, if_pos (by rw [List.length_map]; omega), if_pos (by omega), rdR_at hi, wri hi (by omega)]; rfl)
    refine (evx hE).bind ?_
    refine Evt.after (rnum_f hr) ?_
    rcases hc with ⟨h1, h2, rfl⟩ | ⟨h1, h2⟩
    · have e : okM x l[i] = true := by unfold okM; rw [h1, h2]; rfl
      rw [e, Bool.true_and]
      refine Evt.ifT h2 (Evt.ifT (tk_len hl i) ?_)
      have e2 := take_map (f := fun f => toR (scx x f)) hi
      rw [← e2] at ih
      exact ih
    · have e : okM x l[i] = false := by
        unfold okM
        cases hk : fmulK x (l[i]).f1
        · rfl
        · rw [(h1 hk).1]; rfl
      rw [e, Bool.false_and, if_neg (by decide)]
      exact Evt.ifF (by rw [h2]; decide) (Evt.const fun _ => rfl)
theorem rscale_e {l : List S46} (hl : l.length ≤ 120) (hw : w64L l) {x : Nat} (hx : x < 18446744073709551616) : Evt (fun k => tenorref14_Scale.f k (x : Int) (l.map toR)) ((scaleE x l).1.map toR, (scaleE x l).2) := by
  unfold tenorref14_Scale.f
  refine Evt.after (rnum_f hx) ?_
  cases hf : fin x
  · have e : scaleE x l = ([], 91) := by unfold scaleE; rw [hf, if_neg (by decide)]
    rw [e]
    exact Evt.ifF (by decide) (Evt.const fun _ => rfl)
  · have e : scaleE x l = if l.all (okM x) = true then (l.map (scx x), 0) else ([], 91) := by unfold scaleE; rw [hf, if_pos rfl]
    rw [e]
    refine Evt.ifT rfl ?_
    have := rscale_go hl hw hx hf l.length 0 (by omega)
    rw [List.drop_zero] at this
    by_cases c : l.all (okM x) = true
    · rw [if_pos c] at this ⊢; exact this
    · rw [if_neg c] at this ⊢; exact this
theorem scaleE_len {x : Nat} {l : List S46} : (scaleE x l).1.length ≤ l.length := by
  unfold scaleE
  split
  · split
    · show (l.map (scx x)).length ≤ _
      rw [List.length_map]; exact Nat.le_refl _
    · exact Nat.zero_le _
  · exact Nat.zero_le _
/-! ### Shift -/
theorem shift_go {l : List S46} (hl : l.length ≤ 120) {q : Int} (hq : -9223372036854775808 ≤ q ∧ q < 9223372036854775808) : ∀ (d i : Nat) (out : List S46), i + d = l.length → out.length = i →
    ∃ r : List S46 × Int, r.1.length ≤ l.length ∧ Evt (fun k => flow_Shift.l0 k q out l (l.length : Int) (i : Int)) r ∧ Evt (fun k => tenorref14_Shift.l0 k (l.map toR) q (out.map toR) (i : Int)) (r.1.map toR, r.2)
  | 0, i, out, h, ho => by
    refine ⟨(out, 0), by show out.length ≤ _; omega, ?_, ?_⟩
    · refine Evt.next (f := fun _ => some (out, 0)) (Evt.const fun _ => rfl) fun k => ?_
      rw [flow_Shift.l0, if_neg (by omega)]
    · refine Evt.next (f := fun _ => some (out.map toR, 0)) (Evt.const fun _ => rfl) fun k => ?_
      rw [tenorref14_Shift.l0, if_neg (by rw [List.length_map]; omega)]
  | d + 1, i, out, h, ho => by
    have hi : i < l.length := by omega
    obtain ⟨m, hP, hR⟩ := FDa.months_e (l[i]).f0 q hq
    by_cases c : m.2 = 0
    · obtain ⟨r, hrl, h1, h2⟩ := shift_go hl hq d (i + 1) (out ++ [⟨m.1, (l[i]).f1, (l[i]).f2⟩]) (by omega) (by rw [List.length_append, ho]; rfl)
      refine ⟨r, hrl, ?_, ?_⟩
      · refine Evt.next (f := fun k => (FDa.date_Months.f k (l[i]).f0 q false).bind fun bt106 => (if bt106.2 = 0 then (if out.length < 5864062014805 then (flow_Shift.l0 k q (out ++ [(⟨bt106.1, (l[i]).f1, (l[i]).f2⟩ : S46)]) l (l.length : Int) ((i + 1 : Nat) : Int)) else (none)) else (some (([] : List (S46)), bt106.2)))) ?_ (fun k => by
          rw [flow_Shift.l0, if_pos (by omega), if_pos (by omega), if_pos (by omega), rd_at hi, wri hi (by omega)])
        refine (evx hP).bind ?_
        exact Evt.ifT c (Evt.ifT (by omega) h1)
      · refine Evt.next (f := fun k => (FDa.tenorref5_Months.f k (l[i]).f0 q false).bind fun bt134 => (if bt134.2 = 0 then (if (out.map toR).length < 5864062014805 then (tenorref14_Shift.l0 k (l.map toR) q ((out.map toR) ++ [(⟨bt134.1, ((l[i]).f1 : Int), (l[i]).f2⟩ : S79)]) ((i + 1 : Nat) : Int)) else (none)) else (some (([] : List (S79)), bt134.2)))) ?_ (fun k => by
          rw [tenorref14_Shift.l0, if_pos (by rw [List.length_map]; omega), if_pos (by omega), rdR_at hi, wri hi (by omega)]; rfl)
        refine (evx hR).bind ?_
        refine Evt.ifT c (Evt.ifT (by rw [List.length_map]; omega) ?_)
        rw [List.map_append] at h2
        exact h2
    · refine ⟨([], m.2), Nat.zero_le _, ?_, ?_⟩
      · refine Evt.next (f := fun k => (FDa.date_Months.f k (l[i]).f0 q false).bind fun bt106 => (if bt106.2 = 0 then (if out.length < 5864062014805 then (flow_Shift.l0 k q (out ++ [(⟨bt106.1, (l[i]).f1, (l[i]).f2⟩ : S46)]) l (l.length : Int) ((i + 1 : Nat) : Int)) else (none)) else (some (([] : List (S46)), bt106.2)))) ?_ (fun k => by
          rw [flow_Shift.l0, if_pos (by omega), if_pos (by omega), if_pos (by omega), rd_at hi, wri hi (by omega)])
        refine (evx hP).bind ?_
        exact Evt.ifF c (Evt.const fun _ => rfl)
      · refine Evt.next (f := fun k => (FDa.tenorref5_Months.f k (l[i]).f0 q false).bind fun bt134 => (if bt134.2 = 0 then (if (out.map toR).length < 5864062014805 then (tenorref14_Shift.l0 k (l.map toR) q ((out.map toR) ++ [(⟨bt134.1, ((l[i]).f1 : Int), (l[i]).f2⟩ : S79)]) ((i + 1 : Nat) : Int)) else (none)) else (some (([] : List (S79)), bt134.2)))) ?_ (fun k => by
          rw [tenorref14_Shift.l0, if_pos (by rw [List.length_map]; omega), if_pos (by omega), rdR_at hi, wri hi (by omega)]; rfl)
        refine (evx hR).bind ?_
        exact Evt.ifF c (Evt.const fun _ => rfl)
theorem shift_e {l : List S46} (hl : l.length ≤ 120) {q : Int} (hq : -9223372036854775808 ≤ q ∧ q < 9223372036854775808) :
    ∃ r : List S46 × Int, r.1.length ≤ l.length ∧ Evt (fun k => flow_Shift.f k l q) r ∧ Evt (fun k => tenorref14_Shift.f k (l.map toR) q) (r.1.map toR, r.2) := by
  obtain ⟨r, h0, h1, h2⟩ := shift_go hl hq l.length 0 [] (by omega) rfl
  refine ⟨r, h0, ?_, h2⟩
  unfold flow_Shift.f
  exact Evt.ifT (by omega) (Evt.ifT (by omega) h1)
theorem law (l : List S46) (hw : w64L l) (hl : l.length < 5864062014805) (x : Nat) (hx : x < 18446744073709551616) (a b q : Int) (hq : -9223372036854775808 ≤ q ∧ q < 9223372036854775808) : ∃ k, tenorlaw14_FlowLists.f k l x a b q = some true := by
  suffices h : Evt (fun k => tenorlaw14_FlowLists.f k l x a b q) true by
    obtain ⟨k, hk⟩ := h
    exact ⟨k, hk k (Nat.le_refl k)⟩
  unfold tenorlaw14_FlowLists.f
  refine Evt.after (few_f l) ?_
  by_cases hf : (l.length : Int) ≤ 120
  · have h120 : l.length ≤ 120 := by omega
    obtain ⟨r, hr, hP, hR⟩ := shift_e h120 hq
    have hs := scaleE_len (x := x) (l := l)
    have hwl := win_len l a b
    refine Evt.ifT (decide_eq_true hf) ?_
    refine (of_f l hl).bind ?_
    refine (scale_e h120 hw hx).bind ?_
    refine Evt.after (show api_Bits.f x = some (x : Int) from rfl) ?_
    refine (rscale_e h120 hw hx).bind ?_
    refine hP.bind ?_
    refine hR.bind ?_
    refine (give_f l hl).bind ?_
    refine (rgive_e h120 hw).bind ?_
    refine (rsame_e (l.map gv) (by rw [List.length_map]; omega)).bind ?_
    refine Evt.ifT rfl ?_
    refine (rsame_e (scaleE x l).1 (by omega)).bind ?_
    refine Evt.ifT rfl (Evt.ifT rfl ?_)
    refine Evt.after (win_f l hl a b) ?_
    refine (rwin_e h120 a b).bind ?_
    refine (rsame_e (winF l a b) (by omega)).bind ?_
    refine Evt.ifT rfl ?_
    refine (rsame_e r.1 (by omega)).bind ?_
    exact Evt.ifT rfl (Evt.ifT rfl (Evt.const fun _ => rfl))
  · exact Evt.ifF (by simpa using hf) (Evt.const fun _ => rfl)
end Go.Proofs.YtepcegiciecogaaGreat.FL
