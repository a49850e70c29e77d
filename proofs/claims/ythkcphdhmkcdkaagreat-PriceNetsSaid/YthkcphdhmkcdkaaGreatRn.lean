/- PriceNets, the plain law. No walk. -/
import Derived.Test.YthkcphdhmkcdkaaGreatFV2x1
import Derived.Sort.AssemblyPlain
namespace Go.Proofs.YthkcphdhmkcdkaaGreat.FV2
open Go.RowKit Go.Proofs.YthkcphdhmkcdkaaGreatW.PrintWords Go.Proofs.YthkcphdhmkcdkaaGreatW.PrintLast Go.Proofs.YthkcphdhmkcdkaaGreatW.PrintMore Tn
open Go.Proofs.YthkcphdhmkcdkaaGreat.FX Go.Proofs.YthkcphdhmkcdkaaGreat.FB Go.Proofs.YthkcphdhmkcdkaaGreat.FP Go.Proofs.YthkcphdhmkcdkaaGreat.FQ Go.Proofs.YthkcphdhmkcdkaaGreat.EV
set_option linter.unusedVariables false
theorem sgn_mag {x : Nat} (hx : x < 18446744073709551616) : (if sgn x = true then 9223372036854775808 else 0) + mag x = x := by
  unfold sgn mag
  by_cases h : 9223372036854775808 ≤ x
  · rw [if_pos (decide_eq_true h)]; omega
  · rw [if_neg (by simpa using h)]; omega
/-! ### places in order -/
/-! ### sums -/
theorem rneM_zero (d : Nat) : rneM 0 d false = 0 := by
  unfold rneM
  rw [Nat.zero_div, Nat.zero_div, if_neg (fun h => absurd h.1 (by decide))]
theorem nearU_zero : nearU 0 false = 0 := by
  unfold nearU
  generalize nearK 0 = K
  rw [rneM_zero]; exact nr_zero _
theorem overV_one (Z : Int) : overV Z false false 1 = (if Z < 0 then 9223372036854775808 else 0) + nearU Z.natAbs false := by
  unfold overV
  rw [if_neg (by simp), if_neg (by simp), if_neg (by simp), Nat.div_one, Nat.mod_one]
  rfl
theorem overV_zero : overV 0 false false 1 = 0 := by
  rw [overV_one, if_neg (by omega), show (0 : Int).natAbs = 0 from rfl, nearU_zero]
theorem nearU_nr {q : Nat} (hq : 1 ≤ q) : nearU q false = nr q (-2148) := by
  unfold nearU
  have hk : 1 ≤ nearK q := by unfold nearK; omega
  rw [rneM_false hk]
  have h := join_core (E := -2148) (X := (nearK q : Int)) hq (by unfold nearK; omega)
  rw [Int.toNat_natCast] at h
  rw [← h]
  congr 1
  try omega
theorem overV_units {y : Nat} (hy : y < 18446744073709551616) (hf : fin y = true) (hz : y ≠ 9223372036854775808) : overV (units y) false false 1 = y := by
  rw [overV_one]
  by_cases h0 : mag y = 0
  · have : y = 0 := by
      unfold mag at h0
      omega
    subst this
    rw [units_none (show spm 0 = 0 by decide +kernel), if_neg (by omega), show (0 : Int).natAbs = 0 from rfl, nearU_zero]
  · have hb := spe_bd y
    have hm : dm (mag y) ≠ 0 := by
      unfold dm; split
      · exact h0
      · omega
    have e1 : (units y).natAbs = dm (mag y) * 2 ^ (spe y + 2148).toNat := by
      unfold units spm
      rw [if_pos hf, Int.natAbs_mul, Int.natAbs_pow]
      cases sgn y <;> simp
    have e2 : spe y = dp (mag y) := by unfold spe; rw [if_pos hf, if_neg h0]
    have hp := Nat.two_pow_pos (spe y + 2148).toNat
    have e3 : nearU (units y).natAbs false = mag y := by
      rw [e1, nearU_nr (Nat.mul_pos (by omega) hp), nr_scale']
      rw [show -2148 + (((spe y + 2148).toNat : Nat) : Int) = dp (mag y) by omega]
      unfold fin at hf
      exact nr_self (of_decide_eq_true hf)
    have e4 : decide (units y < 0) = sgn y := by
      unfold units spm
      rw [if_pos hf]
      have hpi : (0 : Int) < 2 ^ (spe y + 2148).toNat := Int.pow_pos (by decide)
      cases hs : sgn y
      · rw [if_neg (by decide)]
        refine decide_eq_false (Int.not_lt.2 (Int.mul_nonneg (by omega) (Int.le_of_lt hpi)))
      · rw [if_pos rfl]
        refine decide_eq_true ?_
        rw [Int.neg_mul]
        have : (0 : Int) < (dm (mag y) : Int) * 2 ^ (spe y + 2148).toNat := Int.mul_pos (by omega) hpi
        omega
    rw [e3]
    have h5 := sgn_mag hy
    cases hs : sgn y
    · rw [hs] at e4 h5
      rw [if_neg (of_decide_eq_false e4)]
      rw [if_neg (by decide)] at h5
      exact h5
    · rw [hs] at e4 h5
      rw [if_pos (of_decide_eq_true e4)]
      rw [if_pos rfl] at h5
      exact h5
/-- a sum is no -0. -/
def okx (x : S31) : Prop := (0 ≤ x.f0 ∧ x.f0 ≤ 109572) ∧ fin x.f1 = true ∧ (1 ≤ x.f2 ∧ x.f2 ≤ 8)
def w64L (l : List S31) : Prop := ∀ x ∈ l, x.f1 < 18446744073709551616
theorem good_of {l : List S31} (hl : l.length ≤ 4096) (hw : w64L l) (h : ∀ x ∈ l, okx x) : goodL l = true := by
  unfold goodL
  rw [Bool.and_eq_true, List.all_eq_true]
  refine ⟨decide_eq_true hl, fun x hx => ?_⟩
  obtain ⟨h1, h2, h3⟩ := h x hx
  rw [Bool.and_eq_true, decide_eq_true_iff]
  exact ⟨⟨h1.1, h1.2, hw x hx, h3⟩, h2⟩
theorem fchkL_of : ∀ {l : List S31}, (∀ x ∈ l, okx x) → fchkL l = 0
  | [], _ => rfl
  | f :: l, h => by
    obtain ⟨h1, h2, h3⟩ := h f (List.mem_cons_self ..)
    have e : fchk1 f = 0 := by unfold fchk1; rw [if_neg (by omega), if_pos h2, if_neg (by omega)]
    rw [fchkL, if_pos e]; exact fchkL_of fun x hx => h x (List.mem_cons_of_mem _ hx)
theorem fchk_of {l : List S31} (hl : l.length ≤ 4096) (h : ∀ x ∈ l, okx x) : fchk l = 0 := by
  unfold fchk; rw [if_neg (by omega)]; exact fchkL_of h
/-- what Net tells. -/
def netE (l : List S31) : List S31 × Int := if fchk l = 0 then netF l else ([], fchk l)
theorem net_e (l : List S31) (hw : w64L l) : Evt (fun k => flow_Net.f k l) (netE l) := by
  obtain ⟨p, hp⟩ := fchk_is l hw
  unfold flow_Net.f netE
  refine hp.bind ?_
  by_cases h : fchk l = 0
  · obtain ⟨h1, h2⟩ := fchk_zero h
    rw [if_pos h, if_pos h]
    exact Evt.const fun _ => if_pos (good_of h1 hw fun x hx => h2 x hx)
  · rw [if_neg h, if_neg h]
    exact Evt.const fun _ => rfl
theorem good_sm {l : List S31} (h : goodL l = true) : ∀ k ∈ keysF (l.map pf), SmP k := by
  have := good_keys h (m := l.length)
  rwa [List.take_length] at this
/-- where Net has an answer. -/
theorem netE_ok {l : List S31} (h : (netE l).2 = 0) : l.length ≤ 4096 ∧ (∀ x ∈ l, okx x) ∧ netE l = netF l ∧ (∀ k ∈ sortK (keysF (l.map pf)), fin (valK (l.map pf) k) = true) ∧ (netF l).1 = (sortK (keysF (l.map pf))).map (flK (l.map pf)) := by
  unfold netE at h ⊢
  by_cases c : fchk l = 0
  · obtain ⟨h1, h2⟩ := fchk_zero c
    rw [if_pos c] at h ⊢
    refine ⟨h1, fun x hx => h2 x hx, rfl, ?_⟩
    unfold netF at h ⊢
    by_cases d : (sortK (keysF (l.map pf))).all (fun k => fin (valK (l.map pf) k)) = true
    · rw [if_pos d]
      exact ⟨fun k hk => List.all_eq_true.1 d k hk, rfl⟩
    · rw [if_neg d] at h; exact absurd (show (91 : Int) = 0 from h) (by decide)
  · rw [if_neg c] at h; exact absurd h c
theorem keysFrom_self : ∀ (p : List (Pla × Nat)) (ks : List Pla), (ks ++ p.map (·.1)).Nodup → keysFrom ks p = ks ++ p.map (·.1)
  | [], ks, _ => by rw [keysFrom, List.map_nil, List.append_nil]
  | f :: p, ks, h => by
    rw [List.map_cons] at h ⊢
    have h2 : f.1 ∉ ks := fun hm => by
      rw [List.nodup_append] at h
      exact h.2.2 f.1 hm f.1 List.mem_cons_self rfl
    have e : ks ++ f.1 :: p.map (·.1) = (ks ++ [f.1]) ++ p.map (·.1) := by rw [List.append_assoc]; rfl
    rw [e] at h ⊢
    rw [keysFrom, if_neg h2]
    exact keysFrom_self p (ks ++ [f.1]) h

theorem sumF_one : ∀ {l : List S31}, (l.map fun x => (pf x).1).Nodup → ∀ {x : S31}, x ∈ l → sumF (pf x).1 (l.map pf) = units x.f1
  | [], _, x, h => by cases h
  | a :: l, hd, x, h => by
    rw [List.map_cons, List.nodup_cons] at hd
    rw [List.map_cons, sumF]
    by_cases c : (pf a).1 = (pf x).1
    · have ex : x = a := by
        rcases List.mem_cons.1 h with h | h
        · exact h
        · exact absurd (List.mem_map.2 ⟨x, h, c.symm⟩) hd.1
      subst ex
      have e : sumF (pf x).1 (l.map pf) = 0 := sumF_none fun hm => by
        obtain ⟨f, hf, e⟩ := mem_keysF.1 hm
        obtain ⟨y, hy, rfl⟩ := List.mem_map.1 hf
        exact hd.1 (List.mem_map.2 ⟨y, hy, e⟩)
      rw [if_pos c, e, Int.add_zero]; rfl
    · have hx : x ∈ l := by
        rcases List.mem_cons.1 h with rfl | h
        · exact absurd rfl c
        · exact h
      rw [if_neg c, Int.zero_add]
      exact sumF_one hd.2 hx
/-- one flow alone nets to itself (to +0 from -0). -/
theorem val_one {y : Nat} (hy : y < 18446744073709551616) (hf : fin y = true) : sV (overV (units y) false false 1) = sV y := by
  by_cases z : y = 9223372036854775808
  · subst z
    rw [show units 9223372036854775808 = 0 by rw [units_sV (by decide), show sV 9223372036854775808 = 0 by decide, Int.zero_mul], overV_zero]; decide
  · rw [overV_units hy hf z]
theorem sumE_map {cur b kd : Int} {ds : List Int} {fs : List Nat} {g : S31 → S31} : ∀ {l : List S31}, (∀ x ∈ l, worth1 cur b kd ds fs (g x) = worth1 cur b kd ds fs x) → sumE cur b kd ds fs (l.map g) = sumE cur b kd ds fs l
  | [], _ => rfl
  | x :: l, h => by
    rw [List.map_cons, sumE, sumE, h x (List.mem_cons_self ..), sumE_map fun y hy => h y (List.mem_cons_of_mem _ hy)]
theorem nets_pres {l : List S31} {cur b kd : Int} {ds : List Int} {fs : List Nat} (hw : w64L l) (hwf : ∀ y ∈ fs, y < 18446744073709551616) (hk : (l.map fun x => (pf x).1).Nodup) (h : (netE l).2 = 0) (hp : (presV l cur b kd ds fs).2 = 0) :
    presV (netE l).1 cur b kd ds fs = presV l cur b kd ds fs ∧ w64L (netE l).1 ∧ (netE l).1.length ≤ 4096 := by
  obtain ⟨h1, h2, h3, h4, h5⟩ := netE_ok h
  have he : eachE cur b kd ds fs l = 0 := by
    unfold presV at hp
    by_cases c : eachE cur b kd ds fs l = 0
    · exact c
    · rw [if_neg c] at hp; exact absurd hp c
  obtain ⟨g1, g2, g3, g4⟩ := eachE_zero he
  have hkey : keysF (l.map pf) = l.map fun x => (pf x).1 := by
    unfold keysF
    rw [keysFrom_self _ [] (by rw [List.nil_append, List.map_map]; exact hk), List.nil_append, List.map_map]; rfl
  have hK := good_sm (good_of h1 hw h2)
  have hperm := sortK_perm hK
  rw [hkey] at hperm h4 h5
  have hP : ((sortK (l.map fun x => (pf x).1)).map (flK (l.map pf))).Perm (l.map fun x => flK (l.map pf) (pf x).1) := by
    have := hperm.map (flK (l.map pf))
    rwa [List.map_map] at this
  have hv : ∀ x ∈ l, fin (valK (l.map pf) (pf x).1) = true ∧ sV (valK (l.map pf) (pf x).1) = sV x.f1 := fun x hx => by
    refine ⟨h4 _ (hperm.mem_iff.2 (List.mem_map.2 ⟨x, hx, rfl⟩)), ?_⟩
    unfold valK
    rw [sumF_one hk hx]
    exact val_one (hw x hx) (h2 x hx).2.1
  have hmem : ∀ y ∈ (netE l).1, ∃ x ∈ l, y = flK (l.map pf) (pf x).1 := fun y hy => by
    rw [h3, h5] at hy
    obtain ⟨x, hx, e⟩ := List.mem_map.1 (hP.mem_iff.1 hy)
    exact ⟨x, hx, e.symm⟩
  have hlen : (netE l).1.length = l.length := by rw [h3, h5, hP.length_eq, List.length_map]
  have hs : sumE cur b kd ds fs (netE l).1 = sumE cur b kd ds fs l := by
    rw [h3, h5, sumE_perm hP]
    refine sumE_map fun x hx => ?_
    show worth1 cur b kd ds fs ⟨x.f0, valK (l.map pf) (pf x).1, x.f2⟩ = _
    obtain ⟨v1, v2⟩ := hv x hx
    unfold worth1
    by_cases c : counts cur b x = true
    · rw [if_pos c, if_pos (show counts cur b ⟨x.f0, valK (l.map pf) (pf x).1, x.f2⟩ = true from c)]
      have p := (posf_is (factor_pos hwf (firstE_zero.1 g4 x hx c)).2).1
      rw [unitsP_sV (h2 x hx).2.1 p]
      show unitsP (valK (l.map pf) (pf x).1) (facV b kd ds fs x.f0).1 = _
      rw [unitsP_sV v1 p, v2]
    · rw [if_neg c, if_neg (show ¬ counts cur b ⟨x.f0, valK (l.map pf) (pf x).1, x.f2⟩ = true from c)]
  have hen : eachE cur b kd ds fs (netE l).1 = 0 := by
    unfold eachE
    rw [if_pos (fchk_of (by rw [hlen]; exact h1) fun y hy => by
      obtain ⟨x, hx, rfl⟩ := hmem y hy
      exact ⟨(h2 x hx).1, (hv x hx).1, (h2 x hx).2.2⟩), if_neg (by omega), if_pos g3]
    refine firstE_zero.2 fun y hy hc => ?_
    obtain ⟨x, hx, rfl⟩ := hmem y hy
    exact firstE_zero.1 g4 x hx hc
  refine ⟨?_, fun y hy => ?_, by rw [hlen]; exact h1⟩
  · unfold presV
    rw [if_pos hen, if_pos he, hs]
  · obtain ⟨x, hx, rfl⟩ := hmem y hy
    exact over_lt _ _
theorem awake15 : law15_awakeX.f = some true := rfl
theorem small15 (l : List S31) (b kd : Int) (ds : List Int) (fs : List Nat) : tenorlaw15_small.f l b kd ds fs = some (decide (l.length ≤ 60 ∧ ds.length ≤ 12 ∧ fs.length ≤ 12)) := by
  unfold tenorlaw15_small.f
  by_cases c1 : (l.length : Int) ≤ 60
  · rw [if_pos c1]
    by_cases c2 : (ds.length : Int) ≤ 12
    · rw [if_pos c2]; congr 1; rw [Bool.eq_iff_iff, decide_eq_true_iff, decide_eq_true_iff]; omega
    · rw [if_neg c2, decide_eq_false (by omega)]
  · rw [if_neg c1, decide_eq_false (by omega)]
section
variable (l : List S31) (cur b kd : Int) (ds : List Int) (fs : List Nat)
/-- no two ahead of i share both. -/
def Dst (l : List S31) (i : Nat) : Prop := ∀ (p : Nat) (hp : p < l.length) (q : Nat) (hq : q < l.length), p < i → q < p → ¬ (l[p].f0 = l[q].f0 ∧ l[p].f2 = l[q].f2)
theorem nets_l1 (hl : l.length ≤ 60) {i : Nat} (hi : i < l.length) (hD : Dst l i) (ih : Dst l (i + 1) → Evt (fun k => tenorlaw15_PriceNets.l0 k l cur ((i + 1 : Nat) : Int) b kd ds fs) true) :
    ∀ (n j : Nat), j + n = i → (∀ (q : Nat) (hq : q < l.length), q < j → ¬ (l[i].f0 = l[q].f0 ∧ l[i].f2 = l[q].f2)) → Evt (fun k => tenorlaw15_PriceNets.l1 k l cur (i : Int) (j : Int) b kd ds fs) true
  | 0, j, hj, hA => by
    obtain ⟨K, hK⟩ := ih (fun p hp q hq h1 h2 => by
      by_cases e : p = i
      · subst e; exact hA q hq (by omega)
      · exact hD p hp q hq (by omega) h2)
    have w1 : wrap64 ((i : Int) + 1) = ((i + 1 : Nat) : Int) := by unfold wrap64; omega
    refine ⟨K + 1, fun n hn => ?_⟩
    obtain ⟨n, rfl⟩ : ∃ m, n = m + 1 := ⟨n - 1, by omega⟩
    have h4 : tenorlaw15_PriceNets.l0 _ _ _ _ _ _ _ _ = _ := hK n (by omega)
    show tenorlaw15_PriceNets.l1 _ _ _ _ _ _ _ _ _ = _
    rw [tenorlaw15_PriceNets.l1, if_neg (by omega), w1]; exact h4
  | n + 1, j, hj, hA => by
    have w1 : wrap64 ((j : Int) + 1) = ((j + 1 : Nat) : Int) := by unfold wrap64; omega
    have hj' : j < l.length := by omega
    by_cases c : l[i].f0 = l[j].f0 ∧ l[i].f2 = l[j].f2
    · refine ⟨1, fun n hn => ?_⟩
      obtain ⟨n, rfl⟩ : ∃ m, n = m + 1 := ⟨n - 1, by omega⟩
      show tenorlaw15_PriceNets.l1 _ _ _ _ _ _ _ _ _ = _
      rw [tenorlaw15_PriceNets.l1, if_pos (by omega), if_pos (by omega), if_pos (by omega), if_pos (by omega), if_pos (by omega), rd_z hi, rd_z hj', if_pos c.1, if_pos c.2, awake15]; rfl
    obtain ⟨K, hK⟩ := nets_l1 hl hi hD ih n (j + 1) (by omega) (fun q hq h1 => by
      by_cases e : q = j
      · subst e; exact c
      · exact hA q hq (by omega))
    refine ⟨K + 1, fun n hn => ?_⟩
    obtain ⟨n, rfl⟩ : ∃ m, n = m + 1 := ⟨n - 1, by omega⟩
    have h4 : tenorlaw15_PriceNets.l1 _ _ _ _ _ _ _ _ _ = _ := hK n (by omega)
    show tenorlaw15_PriceNets.l1 _ _ _ _ _ _ _ _ _ = _
    rw [tenorlaw15_PriceNets.l1, if_pos (by omega), if_pos (by omega), if_pos (by omega), if_pos (by omega), if_pos (by omega), rd_z hi, rd_z hj', w1]
    by_cases c1 : l[i].f0 = l[j].f0
    · rw [if_pos c1, if_neg (fun h => c ⟨c1, h⟩)]; exact h4
    · rw [if_neg c1]; exact h4
theorem nets_l0 (hl : l.length ≤ 60) (hw : w64L l) (hwf : ∀ y ∈ fs, y < 18446744073709551616) : ∀ (m i : Nat), i + m = l.length → Dst l i → Evt (fun k => tenorlaw15_PriceNets.l0 k l cur (i : Int) b kd ds fs) true
  | 0, i, hi, hD => by
    have hk : (l.map fun x => (pf x).1).Nodup := by
      refine List.pairwise_iff_getElem.2 fun p q hp hq hpq e => ?_
      rw [List.length_map] at hp hq
      rw [List.getElem_map, List.getElem_map] at e
      have e1 := congrArg Prod.fst e
      have e2 := congrArg Prod.snd e
      exact hD q hq p hp (by omega) hpq ⟨e2.symm, e1.symm⟩
    obtain ⟨K, hK⟩ := net_e l hw
    have o1 : price_Present.f l cur b kd ds fs = some (presV l cur b kd ds fs) := by unfold price_Present.f; rw [if_pos (okW_of (by omega) hw hwf)]
    refine ⟨K + 2, fun n hn => ?_⟩
    obtain ⟨n, rfl⟩ : ∃ m, n = m + 1 + 1 := ⟨n - 2, by omega⟩
    have h4 : flow_Net.f (n + 1) l = some (netE l) := hK (n + 1) (by omega)
    have hj : ∀ x y, tenorlaw15_PriceNets.j2 (n + 1) cur x y true b kd ds fs = some true := fun x y => by rw [tenorlaw15_PriceNets.j2, if_pos rfl, awake15]; rfl
    show tenorlaw15_PriceNets.l0 _ _ _ _ _ _ _ _ = _
    rw [tenorlaw15_PriceNets.l0, if_neg (by omega), h4, Option.bind_some, o1, Option.bind_some]
    by_cases c1 : (netE l).2 = 0
    rotate_left
    · rw [if_neg c1]; exact hj _ _
    rw [if_pos c1]
    by_cases c2 : (presV l cur b kd ds fs).2 = 0
    rotate_left
    · rw [show ((presV l cur b kd ds fs).2 != 0) = true from bne_iff_ne.2 c2]; exact hj _ _
    obtain ⟨e1, e2, e3⟩ := nets_pres hw hwf hk c1 c2
    have o2 : price_Present.f (netE l).1 cur b kd ds fs = some (presV l cur b kd ds fs) := by unfold price_Present.f; rw [if_pos (okW_of (by omega) e2 hwf), e1]
    rw [show ((presV l cur b kd ds fs).2 != 0) = false from bne_eq_false_iff_eq.2 c2, tenorlaw15_PriceNets.j2, if_neg (by decide), o2, Option.bind_some, if_pos c2]
    unfold api_Bits.f
    rw [Option.bind_some, Option.bind_some, if_pos rfl, awake15]; rfl
  | m + 1, i, hi, hD => by
    obtain ⟨K, hK⟩ := nets_l1 l cur b kd ds fs hl (show i < l.length by omega) hD (fun h => nets_l0 hl hw hwf m (i + 1) (by omega) h) i 0 (by omega) (fun q hq h => by omega)
    refine ⟨K + 1, fun n hn => ?_⟩
    obtain ⟨n, rfl⟩ : ∃ m, n = m + 1 := ⟨n - 1, by omega⟩
    have h4 : tenorlaw15_PriceNets.l1 _ _ _ _ _ _ _ _ _ = _ := hK n (by omega)
    show tenorlaw15_PriceNets.l0 _ _ _ _ _ _ _ _ = _
    rw [tenorlaw15_PriceNets.l0, if_pos (by omega)]; exact h4
/-- THE LAW. -/
theorem law (hw : w64L l) (hwf : ∀ y ∈ fs, y < 18446744073709551616) : ∃ k, tenorlaw15_PriceNets.f k l cur b kd ds fs = some true := by
  unfold tenorlaw15_PriceNets.f
  rw [small15]
  simp only [Option.bind_some]
  by_cases s1 : l.length ≤ 60 ∧ ds.length ≤ 12 ∧ fs.length ≤ 12
  rotate_left
  · refine ⟨1, ?_⟩
    rw [decide_eq_false s1, if_neg (by decide), awake15]; rfl
  obtain ⟨K, hK⟩ := nets_l0 l cur b kd ds fs s1.1 hw hwf l.length 0 (by omega) (fun p hp q hq h => by omega)
  refine ⟨K, ?_⟩
  rw [decide_eq_true s1, if_pos rfl]
  exact hK K (Nat.le_refl _)
end
end Go.Proofs.YthkcphdhmkcdkaaGreat.FV2
