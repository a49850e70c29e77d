/- FlowNets, plainly: the reference's least key again and again are the program's sorted keys; each sum is the same. No walk. -/
import Derived.Test.YtepcegiciecogaaGreatFNx1
import Derived.Test.YtepcegiciecogaaGreatFNx2
import Derived.Test.YtepcegiciecogaaGreatAt
import Derived.Test.YtepcegiciecogaaGreatSum
import Derived.Sort.AssemblyPlain
namespace Go.Proofs.YtepcegiciecogaaGreat.FN
open Go.RowKit Go.Proofs.YtepcegiciecogaaGreatW.PrintWords Go.Proofs.YtepcegiciecogaaGreatW.PrintLast Go.Proofs.YtepcegiciecogaaGreatW.PrintMore Tn
open Go.Proofs.YtepcegiciecogaaGreat.FX Go.Proofs.YtepcegiciecogaaGreat.FB Go.Proofs.YtepcegiciecogaaGreat.FP Go.Proofs.YtepcegiciecogaaGreat.FT
set_option linter.unusedVariables false

/-! ### places in order -/
def ltQ (x y : Pla) : Prop := x.1 < y.1 ∨ (x.1 = y.1 ∧ x.2 < y.2)
theorem sortK_mem {l : List Pla} (h : ∀ k ∈ l, SmP k) {k : Pla} : k ∈ sortK l ↔ k ∈ l := (sortK_perm h).mem_iff
theorem sortK_nodup {l : List Pla} (h : ∀ k ∈ l, SmP k) (hd : l.Nodup) : (sortK l).Nodup := (sortK_perm h).nodup_iff.2 hd
theorem sortK_sorted {l : List Pla} (h : ∀ k ∈ l, SmP k) (hd : l.Nodup) : (sortK l).Pairwise ltQ := by
  have hn := sortK_nodup h hd
  obtain ⟨_, hs⟩ := Go.Sort.pdq_sorts (ltOf cfP) swoP (l.map vPl).toArray 0 (l.map vPl).toArray.size (Lib.bitLen (l.map vPl).toArray.size) true true (Nat.zero_le _) (Nat.le_refl _) (Or.inl rfl)
  have hz := pdqK_size (l.map vPl).toArray
  unfold sortK at hn ⊢
  generalize Go.Sort.pdq (ltOf cfP) (l.map vPl).toArray 0 (l.map vPl).toArray.size (Lib.bitLen (l.map vPl).toArray.size) true true = D at hn hs hz ⊢
  rw [List.pairwise_map] 
  have hn2 := List.pairwise_map.1 hn
  rw [List.pairwise_iff_getElem] at hn2 ⊢
  intro i j hi hj hij
  have h1 := hn2 i j hi hj hij
  have h2 := hs i j (Nat.zero_le _) hij (by rw [← hz]; simpa using hj)
  rw [getElem!_pos D j (by simpa using hj), getElem!_pos D i (by simpa using hi), ltP] at h2
  simp only [decide_eq_false_iff_not] at h2
  have e1 : D.toList[i] = D[i]'(by simpa using hi) := by simp
  have e2 : D.toList[j] = D[j]'(by simpa using hj) := by simp
  rw [e1, e2] at h1 ⊢
  generalize D[i]'(by simpa using hi) = x at h1 h2 ⊢
  generalize D[j]'(by simpa using hj) = y at h1 h2 ⊢
  unfold ltQ plV
  have h3 : ¬ (x.1.val = y.1.val ∧ x.2.val = y.2.val) := fun ⟨a, b⟩ => h1 (by unfold plV; rw [a, b])
  simp only
  omega
/-! ### sums -/
def okx (x : S46) : Prop := (0 ≤ x.f0 ∧ x.f0 ≤ 109572) ∧ fin x.f1 = true ∧ (1 ≤ x.f2 ∧ x.f2 ≤ 8)
def w64L (l : List S46) : Prop := ∀ x ∈ l, x.f1 < 18446744073709551616
theorem good_of {l : List S46} (hl : l.length ≤ 4096) (hw : w64L l) (h : ∀ x ∈ l, okx x) : goodL l = true := by
  unfold goodL
  rw [Bool.and_eq_true, List.all_eq_true]
  refine ⟨decide_eq_true hl, fun x hx => ?_⟩
  obtain ⟨h1, h2, h3⟩ := h x hx
  rw [Bool.and_eq_true, decide_eq_true_iff]
  exact ⟨⟨h1.1, h1.2, hw x hx, h3⟩, h2⟩
/-- what Net tells. -/
def netE (l : List S46) : List S46 × Int := if (chkA l).1 = 0 then netF l else ([], (chkA l).1)
theorem net_e (l : List S46) (hw : w64L l) : Evt (fun k => flow_Net.f k l) (netE l) := by
  unfold flow_Net.f netE
  refine (chk_e l hw).bind ?_
  by_cases h : (chkA l).1 = 0
  · obtain ⟨h1, h2⟩ := chkA_ok h
    rw [if_pos h, if_pos h]
    exact Evt.const fun _ => if_pos (good_of h1 hw fun x hx => h2 x hx)
  · rw [if_neg h, if_neg h]
    exact Evt.const fun _ => rfl
theorem good_sm {l : List S46} (h : goodL l = true) : ∀ k ∈ keysF (l.map pf), SmP k := by
  have := good_keys h (m := l.length)
  rwa [List.take_length] at this
/-! ### keys as numbers -/
def keyP (k : Pla) : Int := k.1 * 1048576 + k.2
theorem keyP_inj {k l : Pla} (hk : SmP k) (hl : SmP l) (h : keyP k = keyP l) : k = l := by
  obtain ⟨a, b⟩ := k
  obtain ⟨c, d⟩ := l
  unfold SmP at hk hl
  unfold keyP at h
  simp only at *
  have : a = c := by omega
  subst this
  congr 1; omega
theorem keyP_lt {k l : Pla} (hk : SmP k) (hl : SmP l) : ltQ k l ↔ keyP k < keyP l := by
  unfold SmP at hk hl
  unfold ltQ keyP
  omega
theorem keyP_nn {k : Pla} (hk : SmP k) : 0 ≤ keyP k := by unfold SmP at hk; unfold keyP; omega
theorem sm_of {x : S46} (h : okx x) : SmP (pf x).1 := by unfold okx at h; unfold SmP pf; simp only; omega
theorem key_at {l : List S46} {i : Nat} (hi : i < l.length) (h : okx l[i]) : wrap64 ((wrap64 (((rd_T79 (l.map toR) (i : Int)).f2) * 1048576)) + ((rd_T79 (l.map toR) (i : Int)).f0)) = keyP (pf l[i]).1 := by
  rw [rdR_at hi]
  show wrap64 (wrap64 ((l[i]).f2 * 1048576) + (l[i]).f0) = (l[i]).f2 * 1048576 + (l[i]).f0
  obtain ⟨h1, h2, h3⟩ := h
  unfold wrap64; omega
/-! ### the least key above the last one -/
def pick (last : Int) (c : Int) (k : Pla) : Int := if keyP k > last then (if c < 0 then keyP k else if keyP k < c then keyP k else c) else c
def least (last : Int) : List Pla → Int → Int
  | [], c => c
  | k :: ks, c => least last ks (pick last c k)
/-- what has been found among some places. -/
def Found (last : Int) (S : List Pla) (c : Int) : Prop := (c = -1 ∧ ∀ k ∈ S, keyP k ≤ last) ∨ (∃ k ∈ S, keyP k = c ∧ last < c ∧ ∀ l ∈ S, last < keyP l → c ≤ keyP l)
theorem found_step {last : Int} {S : List Pla} {c : Int} (hs : ∀ k ∈ S, SmP k) {k : Pla} (hk : SmP k) (h : Found last S c) : Found last (S ++ [k]) (pick last c k) := by
  have hkn := keyP_nn hk
  unfold pick
  rcases h with ⟨rfl, h⟩ | ⟨m, hm, rfl, h1, h2⟩
  · by_cases c1 : keyP k > last
    · rw [if_pos c1, if_pos (by decide)]
      refine Or.inr ⟨k, by simp, rfl, by omega, fun l hl hlt => ?_⟩
      rcases List.mem_append.1 hl with hl | hl
      · have := h l hl; omega
      · rw [List.mem_singleton.1 hl]; omega
    · rw [if_neg c1]
      refine Or.inl ⟨rfl, fun l hl => ?_⟩
      rcases List.mem_append.1 hl with hl | hl
      · exact h l hl
      · rw [List.mem_singleton.1 hl]; omega
  · have hmn := keyP_nn (hs m hm)
    by_cases c1 : keyP k > last
    · rw [if_pos c1, if_neg (by omega)]
      by_cases c2 : keyP k < keyP m
      · rw [if_pos c2]
        refine Or.inr ⟨k, by simp, rfl, by omega, fun l hl hlt => ?_⟩
        rcases List.mem_append.1 hl with hl | hl
        · have := h2 l hl hlt; omega
        · rw [List.mem_singleton.1 hl]; omega
      · rw [if_neg c2]
        refine Or.inr ⟨m, List.mem_append_left _ hm, rfl, h1, fun l hl hlt => ?_⟩
        rcases List.mem_append.1 hl with hl | hl
        · exact h2 l hl hlt
        · rw [List.mem_singleton.1 hl]; omega
    · rw [if_neg c1]
      refine Or.inr ⟨m, List.mem_append_left _ hm, rfl, h1, fun l hl hlt => ?_⟩
      rcases List.mem_append.1 hl with hl | hl
      · exact h2 l hl hlt
      · rw [List.mem_singleton.1 hl] at hlt; omega
theorem found_all {last : Int} : ∀ (ks : List Pla) {S : List Pla} {c : Int}, (∀ k ∈ S, SmP k) → (∀ k ∈ ks, SmP k) → Found last S c → Found last (S ++ ks) (least last ks c)
  | [], S, c, _, _, h => by rw [List.append_nil]; exact h
  | k :: ks, S, c, hs, hk, h => by
    have h1 := found_all ks (S := S ++ [k]) (fun m hm => by
      rcases List.mem_append.1 hm with hm | hm
      · exact hs m hm
      · rw [List.mem_singleton.1 hm]; exact hk k (List.mem_cons_self ..)) (fun m hm => hk m (List.mem_cons_of_mem _ hm)) (found_step hs (hk k (List.mem_cons_self ..)) h)
    rw [List.append_assoc] at h1
    exact h1
/-- among all the places, behind the i-th in order, the next one is found. -/
theorem found_next {ps K : List Pla} (hps : ∀ k ∈ ps, SmP k) (hm : ∀ k, k ∈ K ↔ k ∈ ps) (hs : K.Pairwise ltQ) {i : Nat} {last : Int} (hi : i ≤ K.length) (hlast : (i = 0 ∧ last = -1) ∨ ∃ h : i - 1 < K.length, 0 < i ∧ last = keyP (K[i - 1]'h)) {c : Int} (h : Found last ps c) :
    (i = K.length → c = -1) ∧ (∀ hl : i < K.length, c = keyP K[i]) := by
  have hK : ∀ k ∈ K, SmP k := fun k hk => hps k ((hm k).1 hk)
  have hlt : ∀ (a b : Nat) (ha : a < K.length) (hb : b < K.length), a < b → keyP K[a] < keyP K[b] := fun a b ha hb hab => (keyP_lt (hK _ (List.getElem_mem ha)) (hK _ (List.getElem_mem hb))).1 (List.pairwise_iff_getElem.1 hs a b ha hb hab)
  have hlow : ∀ (j : Nat) (hj : j < K.length), last < keyP K[j] ↔ i ≤ j := by
    intro j hj
    rcases hlast with ⟨h1, h2⟩ | ⟨h1, h2, h3⟩
    · have := keyP_nn (hK _ (List.getElem_mem hj))
      omega
    · rw [h3]
      constructor
      · intro hlt2
        rcases Nat.lt_or_ge j i with c1 | c1
        · exfalso
          rcases Nat.lt_or_eq_of_le (show j ≤ i - 1 by omega) with c2 | c2
          · have := hlt j (i - 1) hj h1 c2; omega
          · subst c2; omega
        · exact c1
      · intro hij
        exact hlt (i - 1) j h1 hj (by omega)
  constructor
  · intro he
    rcases h with ⟨h1, _⟩ | ⟨k, hk, h1, h2, h3⟩
    · exact h1
    · exfalso
      obtain ⟨j, hj, hjk⟩ := List.getElem_of_mem ((hm k).2 hk)
      have := (hlow j hj).1 (by rw [hjk, h1]; exact h2)
      omega
  · intro hl
    rcases h with ⟨h1, h2⟩ | ⟨k, hk, h1, h2, h3⟩
    · exfalso
      have h4 := h2 _ ((hm _).1 (List.getElem_mem hl))
      have h5 := (hlow i hl).2 (Nat.le_refl _)
      omega
    · obtain ⟨j, hj, hjk⟩ := List.getElem_of_mem ((hm k).2 hk)
      have h4 := (hlow j hj).1 (by rw [hjk, h1]; exact h2)
      have h5 := h3 _ ((hm _).1 (List.getElem_mem hl)) ((hlow i hl).2 (Nat.le_refl _))
      rcases Nat.lt_or_eq_of_le h4 with c1 | c1
      · have := hlt i j hl hj c1
        rw [hjk, h1] at this; omega
      · subst c1; rw [hjk, h1]
theorem wri {i n : Nat} (h : i < n) (hn : n ≤ 4096) : wrap64 ((i : Int) + 1) = ((i + 1 : Nat) : Int) := by unfold wrap64; omega
theorem least_go {l : List S46} (hl : l.length ≤ 4096) (ho : ∀ x ∈ l, okx x) (out : List S79) (last : Int) (r : List S79 × Int) :
    ∀ (d i : Nat) (c : Int), i + d = l.length → (∀ c', c' = least last ((l.drop i).map fun x => (pf x).1) c → Evt (fun k => if c' < 0 then some (out, 0) else tenorref14_Net.l2 k (l.map toR) out c' 0 0 false ([] : List Int) 0) r) →
    Evt (fun k => tenorref14_Net.l1 k (l.map toR) out last c (i : Int)) r := by
  intro d
  induction d with
  | zero =>
    intro i c hi hc
    refine Evt.next (hc c (by rw [List.drop_of_length_le (by omega)]; rfl)) fun k => ?_
    rw [tenorref14_Net.l1, if_neg (by rw [List.length_map]; omega)]
  | succ d ih =>
    intro i c hi hc
    have hlt : i < l.length := by omega
    have hx := ho _ (List.getElem_mem hlt)
    have e := key_at hlt hx
    have hd : (l.drop i).map (fun x => (pf x).1) = (pf l[i]).1 :: (l.drop (i + 1)).map fun x => (pf x).1 := by rw [List.drop_eq_getElem_cons hlt]; rfl
    refine Evt.next (ih (i + 1) (pick last c (pf l[i]).1) (by omega) (fun c' hc' => hc c' (by rw [hd]; exact hc'))) fun k => ?_
    rw [tenorref14_Net.l1, if_pos (by rw [List.length_map]; omega), if_pos (by omega), e, wri hlt hl]
    unfold pick
    by_cases c1 : keyP (pf l[i]).1 > last
    · rw [if_pos c1, if_pos c1]
      by_cases c2 : c < 0
      · rw [if_pos c2, if_pos c2]
      · rw [if_neg c2, if_neg c2]
        by_cases c3 : keyP (pf l[i]).1 < c
        · rw [if_pos c3, if_pos c3]
        · rw [if_neg c3, if_neg c3]
    · rw [if_neg c1, if_neg c1]
/-! ### the sum of one key -/
theorem evo {α : Type} {g : Nat → Option α} {r : α} (h : EV.Evt g r) : Evt g r := h
theorem key_tail {k : Pla} (hk : SmP k) : Int.tmod (keyP k) 1048576 = k.2 ∧ keyP k / 1048576 = k.1 := by
  unfold SmP at hk
  unfold keyP
  rw [Int.tmod_eq_emod_of_nonneg (by omega)]
  omega
theorem sum_go {l : List S46} (hl : l.length ≤ 4096) (hw : w64L l) (ho : ∀ x ∈ l, okx x) (out : List S79) (hout : out.length ≤ 4096) {k0 : Pla} (hk0 : SmP k0) (r : List S79 × Int)
    (hg : fin (valK (l.map pf) k0) = true → Evt (fun k => tenorref14_Net.l0 k (l.map toR) (out ++ [(⟨k0.2, (valK (l.map pf) k0 : Int), k0.1⟩ : S79)]) (keyP k0)) r)
    (hb : fin (valK (l.map pf) k0) = false → r = ([], 91)) :
    ∀ (d i : Nat) (s : Bool) (v : Nat) (e : Int), i + d = l.length → Sum (sumF k0 ((l.take i).map pf)) s v e → Evt (fun k => tenorref14_Net.l2 k (l.map toR) out (keyP k0) (i : Int) 0 s (Tn.dg v) e) r := by
  have hsm : ∀ i : Nat, (sumF k0 ((l.take i).map pf)).natAbs < B 67 := fun i => sumF_lt _ _ (by rw [List.length_map, List.length_take]; omega)
  intro d
  induction d with
  | zero =>
    intro i s v e hi h
    rw [List.take_of_length_le (by omega)] at h
    have hv := evo (h.value (by have := hsm l.length; rwa [List.take_length] at this))
    obtain ⟨t1, t2⟩ := key_tail hk0
    refine Evt.next (f := fun k => (tenorref3_Value.f k 0 s (Tn.dg v) e).bind fun t115 => ((tenorref1_Number.f t115).bind fun t116 => (if t116 = true then (if out.length < 5864062014805 then (tenorref14_Net.l0 k (l.map toR) (out ++ [(⟨k0.2, t115, k0.1⟩ : S79)]) (keyP k0)) else (none)) else (some (([] : List (S79)), 91))))) ?_ (fun k => by
      rw [tenorref14_Net.l2, if_neg (by rw [List.length_map]; omega), t1, t2])
    refine hv.bind ?_
    refine Evt.after (rnum_f (over_lt _ _)) ?_
    show Evt (fun k => if fin (valK (l.map pf) k0) = true then _ else _) r
    cases hf : fin (valK (l.map pf) k0)
    · rw [hb hf]
      exact Evt.ifF (by decide) (Evt.const fun _ => rfl)
    · exact Evt.ifT rfl (Evt.ifT (by omega) (hg hf))
  | succ d ih =>
    intro i s v e hi h
    have hlt : i < l.length := by omega
    have hx := ho _ (List.getElem_mem hlt)
    have ek := key_at hlt hx
    have hsn := sumF_snoc k0 ((l.take i).map pf) (pf l[i])
    rw [← take_next hlt] at hsn
    by_cases c : (pf l[i]).1 = k0
    · rw [if_pos c] at hsn
      obtain ⟨s', v', e', h', hE⟩ := h.add (hsm i) (hw _ (List.getElem_mem hlt)) hx.2.1
      have h2 : Sum (sumF k0 ((l.take (i + 1)).map pf)) s' v' e' := by rw [hsn]; exact h'
      refine Evt.next (f := fun k => (tenorref3_Add.f k 0 s (Tn.dg v) e ((l[i]).f1 : Int)).bind fun bt109 => (tenorref14_Net.l2 k (l.map toR) out (keyP k0) ((i + 1 : Nat) : Int) bt109.1 bt109.2.1 bt109.2.2.1 bt109.2.2.2)) ?_ (fun k => by
        rw [tenorref14_Net.l2, if_pos (by rw [List.length_map]; omega), if_pos (by omega), ek, if_pos (by rw [c]), wri hlt hl, rdR_at hlt]; rfl)
      exact (evo hE).bind (ih (i + 1) s' v' e' (by omega) h2)
    · rw [if_neg c, Int.add_zero] at hsn
      refine Evt.next (ih (i + 1) s v e (by omega) (by rw [hsn]; exact h)) (fun k => by
        rw [tenorref14_Net.l2, if_pos (by rw [List.length_map]; omega), if_pos (by omega), ek, if_neg (fun h0 => c (keyP_inj (sm_of hx) hk0 h0)), wri hlt hl])
/-! ### all keys -/
theorem net_go {l : List S46} (hl : l.length ≤ 4096) (hw : w64L l) (ho : ∀ x ∈ l, okx x) {K : List Pla} (hm : ∀ k, k ∈ K ↔ k ∈ l.map fun x => (pf x).1) (hs : K.Pairwise ltQ) (hKl : K.length ≤ 4096) :
    ∀ (d i : Nat) (last : Int), i + d = K.length → ((i = 0 ∧ last = -1) ∨ ∃ h : i - 1 < K.length, 0 < i ∧ last = keyP (K[i - 1]'h)) → (∀ j (hj : j < K.length), j < i → fin (valK (l.map pf) K[j]) = true) →
    Evt (fun k => tenorref14_Net.l0 k (l.map toR) (((K.take i).map (flK (l.map pf))).map toR) last) (if K.all (fun k => fin (valK (l.map pf) k)) = true then ((K.map (flK (l.map pf))).map toR, 0) else ([], 91)) := by
  have hps : ∀ k ∈ l.map (fun x => (pf x).1), SmP k := fun k hk => by
    obtain ⟨x, hx, rfl⟩ := List.mem_map.1 hk
    exact sm_of (ho x hx)
  intro d
  induction d with
  | zero =>
    intro i last hi hlast hf
    refine Evt.next (f := fun k => tenorref14_Net.l1 k (l.map toR) (((K.take i).map (flK (l.map pf))).map toR) last (-1) 0) ?_ (fun k => by rw [tenorref14_Net.l0])
    refine least_go hl ho _ last _ l.length 0 (-1) (by omega) fun c' hc' => ?_
    have hfd : Found last (l.map fun x => (pf x).1) c' := by
      rw [hc', List.drop_zero]
      exact found_all (last := last) _ (S := []) (fun _ h => by cases h) hps (Or.inl ⟨rfl, fun _ h => by cases h⟩)
    have hc1 := (found_next hps hm hs (by omega) hlast hfd).1 (by omega)
    refine Evt.ifT (by omega) (Evt.const fun _ => ?_)
    rw [List.take_of_length_le (by omega), if_pos (List.all_eq_true.2 fun k hk => by
      obtain ⟨j, hj, rfl⟩ := List.getElem_of_mem hk
      exact hf j hj (by omega))]
  | succ d ih =>
    intro i last hi hlast hf
    have hlt : i < K.length := by omega
    refine Evt.next (f := fun k => tenorref14_Net.l1 k (l.map toR) (((K.take i).map (flK (l.map pf))).map toR) last (-1) 0) ?_ (fun k => by rw [tenorref14_Net.l0])
    refine least_go hl ho _ last _ l.length 0 (-1) (by omega) fun c' hc' => ?_
    have hfd : Found last (l.map fun x => (pf x).1) c' := by
      rw [hc', List.drop_zero]
      exact found_all (last := last) _ (S := []) (fun _ h => by cases h) hps (Or.inl ⟨rfl, fun _ h => by cases h⟩)
    have hc1 := (found_next hps hm hs (by omega) hlast hfd).2 hlt
    have hk : SmP K[i] := hps _ ((hm _).1 (List.getElem_mem hlt))
    have hn := keyP_nn hk
    refine Evt.ifF (by omega) ?_
    rw [hc1]
    have h0 := sum_go hl hw ho (((K.take i).map (flK (l.map pf))).map toR) (by rw [List.length_map, List.length_map, List.length_take]; omega) hk (if K.all (fun k => fin (valK (l.map pf) k)) = true then ((K.map (flK (l.map pf))).map toR, 0) else ([], 91))
      (fun hfin => by
        have h1 := ih (i + 1) (keyP K[i]) (by omega) (Or.inr ⟨by omega, by omega, by simp⟩) (fun j hj hji => by
          rcases Nat.lt_or_eq_of_le (show j ≤ i by omega) with c | c
          · exact hf j hj c
          · subst c; exact hfin)
        rw [List.take_succ_eq_append_getElem hlt, List.map_append, List.map_append] at h1
        exact h1)
      (fun hfin => by
        rw [if_neg]
        intro hall
        have := List.all_eq_true.1 hall _ (List.getElem_mem hlt)
        rw [hfin] at this; cases this)
      l.length 0 false 0 0 (by omega) (by rw [List.take_zero]; exact Sum.none)
    rw [Tn.dg_zero] at h0
    exact h0
theorem rnet_e {l : List S46} (hw : w64L l) (hl : l.length ≤ 4096) : Evt (fun k => tenorref14_Net.f k (l.map toR)) ((netE l).1.map toR, (netE l).2) := by
  unfold tenorref14_Net.f
  refine (rchk_e l hw).bind ?_
  by_cases h : (chkA l).1 = 0
  · obtain ⟨h1, h2⟩ := chkA_ok h
    have ho : ∀ x ∈ l, okx x := fun x hx => h2 x hx
    have hg := good_sm (good_of h1 hw ho)
    have hmem : ∀ k, k ∈ sortK (keysF (l.map pf)) ↔ k ∈ l.map fun x => (pf x).1 := fun k => by
      rw [sortK_mem hg, mem_keysF]
      constructor
      · rintro ⟨f, hf, rfl⟩
        obtain ⟨x, hx, rfl⟩ := List.mem_map.1 hf
        exact List.mem_map.2 ⟨x, hx, rfl⟩
      · intro hk
        obtain ⟨x, hx, rfl⟩ := List.mem_map.1 hk
        exact ⟨pf x, List.mem_map.2 ⟨x, hx, rfl⟩, rfl⟩
    have hlen : (sortK (keysF (l.map pf))).length ≤ 4096 := by
      rw [sortK_len]
      have := keysF_len (l.map pf)
      rw [List.length_map] at this; omega
    refine Evt.ifT h ?_
    have := net_go h1 hw ho hmem (sortK_sorted hg (keysF_nodup _)) hlen (sortK (keysF (l.map pf))).length 0 (-1) (by omega) (Or.inl ⟨rfl, rfl⟩) (fun j hj hji => by omega)
    have e : netE l = netF l := by unfold netE; rw [if_pos h]
    rw [e]
    unfold netF
    split
    · rename_i hall
      rw [if_pos hall] at this
      exact this
    · rename_i hall
      rw [if_neg hall] at this
      exact this
  · have e : netE l = ([], (chkA l).1) := by unfold netE; rw [if_neg h]
    rw [e]
    exact Evt.ifF h (Evt.const fun _ => rfl)
theorem netE_len {l : List S46} : (netE l).1.length ≤ l.length := by
  unfold netE
  split
  · unfold netF
    split
    · show (List.map _ _).length ≤ _
      rw [List.length_map, sortK_len]
      have := keysF_len (l.map pf)
      rwa [List.length_map] at this
    · exact Nat.zero_le _
  · exact Nat.zero_le _
theorem rsame_e (l : List S46) (hl : l.length < 5864062014805) : Evt (fun k => tenorref14_Same.f k l (l.map toR)) true := by
  obtain ⟨k, hk⟩ := same_go l hl l.length 0 (by omega)
  refine evt (tenorref14_Same.mono l (l.map toR)) ⟨k, ?_⟩
  unfold tenorref14_Same.f
  rw [if_pos (by rw [List.length_map])]
  exact hk
theorem law (l : List S46) (hw : w64L l) (hl : l.length < 5864062014805) : ∃ k, tenorlaw14_FlowNets.f k l = some true := by
  suffices h : Evt (fun k => tenorlaw14_FlowNets.f k l) true by
    obtain ⟨k, hk⟩ := h
    exact ⟨k, hk k (Nat.le_refl k)⟩
  unfold tenorlaw14_FlowNets.f
  refine Evt.after (few_f l) ?_
  by_cases hf : (l.length : Int) ≤ 120
  · refine Evt.ifT (decide_eq_true hf) ?_
    refine (net_e l hw).bind ?_
    refine (of_f l hl).bind ?_
    refine (rnet_e hw (by omega)).bind ?_
    have := netE_len (l := l)
    refine (rsame_e _ (by omega)).bind ?_
    exact Evt.ifT rfl (Evt.ifT rfl (Evt.const fun _ => rfl))
  · exact Evt.ifF (by simpa using hf) (Evt.const fun _ => rfl)
end Go.Proofs.YtepcegiciecogaaGreat.FN
