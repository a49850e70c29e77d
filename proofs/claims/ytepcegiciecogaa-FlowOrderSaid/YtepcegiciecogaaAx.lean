/- FlowOrder, the plain law: Net hangs on which flows there are; Net of Net is Net; a list and its Give net to noughts. No walk. -/
import Derived.Test.YtepcegiciecogaaFOgx1
import Derived.Test.YtepcegiciecogaaFObx1
import Derived.Test.YtepcegiciecogaaAt
import Derived.Sort.AssemblyPlain
namespace Go.Proofs.Ytepcegiciecogaa.FO
open Go.RowKit Go.Proofs.YtepcegiciecogaaW.PrintWords Go.Proofs.YtepcegiciecogaaW.PrintLast Go.Proofs.YtepcegiciecogaaW.PrintMore Tn
open Go.Proofs.Ytepcegiciecogaa.FX Go.Proofs.Ytepcegiciecogaa.FB Go.Proofs.Ytepcegiciecogaa.FP
set_option linter.unusedVariables false

/-! ### places in order -/
def ltQ (x y : Pla) : Prop := x.1 < y.1 ∨ (x.1 = y.1 ∧ x.2 < y.2)
theorem ltQ_irr {x y : Pla} (h : ltQ x y) (h2 : ltQ y x) : x = y := by
  obtain ⟨a, b⟩ := x
  obtain ⟨c, d⟩ := y
  unfold ltQ at h h2
  simp only at h h2
  omega
theorem sortK_mem {l : List Pla} (h : ∀ k ∈ l, SmP k) {k : Pla} : k ∈ sortK l ↔ k ∈ l := (sortK_perm h).mem_iff
theorem sortK_nodup {l : List Pla} (h : ∀ k ∈ l, SmP k) (hd : l.Nodup) : (sortK l).Nodup := (sortK_perm h).nodup_iff.2 hd
theorem sortK_sorted {l : List Pla} (h : ∀ k ∈ l, SmP k) (hd : l.Nodup) : (sortK l).Pairwise ltQ := by
  have hn := sortK_nodup h hd
  obtain ⟨_, hs⟩ := Go.Sort.pdq_sorts (ltOf cfP) swoP (l.map vPl).toArray 0 (l.map vPl).toArray.size (Lib.bitLen (l.map vPl).toArray.size) true true (Nat.zero_le _) (Nat.le_refl _) (Or.inl rfl)
  have hz := pdqK_size (l.map vPl).toArray
  unfold sortK at hn ⊢
  generalize Go.Sort.pdq (ltOf cfP) (l.map vPl).toArray 0 (l.map vPl).toArray.size (Lib.bitLen (l.map vPl).toArray.size) true true = D at hn hs hz ⊢
  rw [List.pairwise_map] 
  have hn2 := List.pairwise_map.1 hn
  rw [List.pairwise_iff_getElem] at hn2 ⊢
  intro i j hi hj hij
  have h1 := hn2 i j hi hj hij
  have h2 := hs i j (Nat.zero_le _) hij (by rw [← hz]; simpa using hj)
  rw [getElem!_pos D j (by simpa using hj), getElem!_pos D i (by simpa using hi), ltP] at h2
  simp only [decide_eq_false_iff_not] at h2
  have e1 : D.toList[i] = D[i]'(by simpa using hi) := by simp
  have e2 : D.toList[j] = D[j]'(by simpa using hj) := by simp
  rw [e1, e2] at h1 ⊢
  generalize D[i]'(by simpa using hi) = x at h1 h2 ⊢
  generalize D[j]'(by simpa using hj) = y at h1 h2 ⊢
  unfold ltQ plV
  have h3 : ¬ (x.1.val = y.1.val ∧ x.2.val = y.2.val) := fun ⟨a, b⟩ => h1 (by unfold plV; rw [a, b])
  simp only
  omega
theorem sorted_same {l m : List Pla} (hl : l.Pairwise ltQ) (hm : m.Pairwise ltQ) (hp : l.Perm m) : l = m :=
  List.Perm.eq_of_pairwise (fun a b _ _ h1 h2 => ltQ_irr h1 h2) hl hm hp
theorem sortK_eq {l m : List Pla} (hl : ∀ k ∈ l, SmP k) (hd : l.Nodup) (he : m.Nodup) (h : ∀ k, k ∈ l ↔ k ∈ m) : sortK l = sortK m := by
  have hm : ∀ k ∈ m, SmP k := fun k hk => hl k ((h k).2 hk)
  exact sorted_same (sortK_sorted hl hd) (sortK_sorted hm he) ((sortK_perm hl).trans (((List.perm_ext_iff_of_nodup hd he).2 h).trans (sortK_perm hm).symm))
theorem sortK_self {l : List Pla} (hl : ∀ k ∈ l, SmP k) (hs : l.Pairwise ltQ) : sortK l = l := by
  have hd : l.Nodup := hs.imp (fun {a b} h e => by subst e; unfold ltQ at h; omega)
  exact sorted_same (sortK_sorted hl hd) hs (sortK_perm hl)

/-! ### sums -/
theorem sumF_perm {k : Pla} {p q : List (Pla × Nat)} (h : p.Perm q) : sumF k p = sumF k q := by
  induction h with
  | nil => rfl
  | cons x _ ih => rw [sumF, sumF, ih]
  | swap x y l => rw [sumF, sumF, sumF, sumF]; omega
  | trans _ _ h1 h2 => exact h1.trans h2
theorem keysF_perm {p q : List (Pla × Nat)} (h : p.Perm q) (k : Pla) : k ∈ keysF p ↔ k ∈ keysF q := by
  rw [mem_keysF, mem_keysF]
  constructor
  · rintro ⟨f, hf, e⟩; exact ⟨f, h.mem_iff.1 hf, e⟩
  · rintro ⟨f, hf, e⟩; exact ⟨f, h.mem_iff.2 hf, e⟩
theorem sgn_fneg {x : Nat} (hx : x < 18446744073709551616) : sgn (fneg x) = !sgn x ∧ mag (fneg x) = mag x := by
  have h := fneg_val hx
  have hm : mag x < 9223372036854775808 := by unfold mag; omega
  cases hs : sgn x
  · rw [hs, if_neg (by decide)] at h
    refine ⟨?_, ?_⟩
    · rw [h]; unfold sgn; simp; try omega
    · rw [h]; unfold mag at hm ⊢; omega
  · rw [hs, if_pos rfl] at h
    refine ⟨?_, ?_⟩
    · rw [h]; unfold sgn; simp; omega
    · rw [h]; unfold mag at hm ⊢; omega
theorem units_fneg {x : Nat} (hx : x < 18446744073709551616) : units (fneg x) = -units x := by
  obtain ⟨h1, h2⟩ := sgn_fneg hx
  have hf : fin (fneg x) = fin x := by unfold fin; rw [h2]
  unfold units
  have e1 : spm (fneg x) = -spm x := by
    unfold spm
    rw [hf, h1, h2]
    cases fin x <;> cases sgn x <;> simp
  have e2 : spe (fneg x) = spe x := by unfold spe; rw [hf, h2]
  rw [e1, e2, Int.neg_mul]
theorem rneM_zero (d : Nat) : rneM 0 d false = 0 := by
  unfold rneM
  rw [Nat.zero_div, Nat.zero_div, if_neg (fun h => absurd h.1 (by decide))]
theorem nearU_zero : nearU 0 false = 0 := by
  unfold nearU
  generalize nearK 0 = K
  rw [rneM_zero]; exact nr_zero _
theorem overV_one (Z : Int) : overV Z false false 1 = (if Z < 0 then 9223372036854775808 else 0) + nearU Z.natAbs false := by
  unfold overV
  rw [if_neg (by simp), if_neg (by simp), if_neg (by simp), Nat.div_one, Nat.mod_one]
  rfl
theorem overV_zero : overV 0 false false 1 = 0 := by
  rw [overV_one, if_neg (by omega), show (0 : Int).natAbs = 0 from rfl, nearU_zero]
theorem nearU_nr {q : Nat} (hq : 1 ≤ q) : nearU q false = nr q (-2148) := by
  unfold nearU
  have hk : 1 ≤ nearK q := by unfold nearK; omega
  rw [rneM_false hk]
  have h := join_core (E := -2148) (X := (nearK q : Int)) hq (by unfold nearK; omega)
  rw [Int.toNat_natCast] at h
  rw [← h]
  congr 1
  try omega
theorem overV_units {y : Nat} (hy : y < 18446744073709551616) (hf : fin y = true) (hz : y ≠ 9223372036854775808) : overV (units y) false false 1 = y := by
  rw [overV_one]
  by_cases h0 : mag y = 0
  · have : y = 0 := by
      unfold mag at h0
      omega
    subst this
    rw [units_none (show spm 0 = 0 by decide +kernel), if_neg (by omega), show (0 : Int).natAbs = 0 from rfl, nearU_zero]
  · have hb := spe_bd y
    have hm : dm (mag y) ≠ 0 := by
      unfold dm; split
      · exact h0
      · omega
    have e1 : (units y).natAbs = dm (mag y) * 2 ^ (spe y + 2148).toNat := by
      unfold units spm
      rw [if_pos hf, Int.natAbs_mul, Int.natAbs_pow]
      cases sgn y <;> simp
    have e2 : spe y = dp (mag y) := by unfold spe; rw [if_pos hf, if_neg h0]
    have hp := Nat.two_pow_pos (spe y + 2148).toNat
    have e3 : nearU (units y).natAbs false = mag y := by
      rw [e1, nearU_nr (Nat.mul_pos (by omega) hp), nr_scale']
      rw [show -2148 + (((spe y + 2148).toNat : Nat) : Int) = dp (mag y) by omega]
      unfold fin at hf
      exact nr_self (of_decide_eq_true hf)
    have e4 : decide (units y < 0) = sgn y := by
      unfold units spm
      rw [if_pos hf]
      have hpi : (0 : Int) < 2 ^ (spe y + 2148).toNat := Int.pow_pos (by decide)
      cases hs : sgn y
      · rw [if_neg (by decide)]
        refine decide_eq_false (Int.not_lt.2 (Int.mul_nonneg (by omega) (Int.le_of_lt hpi)))
      · rw [if_pos rfl]
        refine decide_eq_true ?_
        rw [Int.neg_mul]
        have : (0 : Int) < (dm (mag y) : Int) * 2 ^ (spe y + 2148).toNat := Int.mul_pos (by omega) hpi
        omega
    rw [e3]
    have h5 := sgn_mag hy
    cases hs : sgn y
    · rw [hs] at e4 h5
      rw [if_neg (of_decide_eq_false e4)]
      rw [if_neg (by decide)] at h5
      exact h5
    · rw [hs] at e4 h5
      rw [if_pos (of_decide_eq_true e4)]
      rw [if_pos rfl] at h5
      exact h5
/-- a sum is no -0. -/
theorem units_dvd (n : Nat) (hn : n = 1074) (x : Nat) : ∃ z : Int, units x = z * 2 ^ n := by
  have h := spe_bd x
  refine ⟨spm x * 2 ^ (spe x + 1074).toNat, ?_⟩
  unfold units
  rw [Int.mul_assoc, ← Int.pow_add, show (spe x + 2148).toNat = (spe x + 1074).toNat + n by omega]
theorem sumF_dvd (n : Nat) (hn : n = 1074) (k : Pla) : ∀ p : List (Pla × Nat), ∃ z : Int, sumF k p = z * 2 ^ n
  | [] => ⟨0, by rw [sumF, Int.zero_mul]⟩
  | f :: l => by
    obtain ⟨z, hz⟩ := sumF_dvd n hn k l
    obtain ⟨u, hu⟩ := units_dvd n hn f.2
    rw [sumF, hz]
    by_cases c : f.1 = k
    · rw [if_pos c, hu]; exact ⟨u + z, by rw [Int.add_mul]⟩
    · rw [if_neg c]; exact ⟨z, by rw [Int.zero_add]⟩
theorem nr_pos {m : Nat} (h : 1 ≤ m) {e : Int} (he : -1074 ≤ e) : nr m e ≠ 0 := by
  unfold nr
  rw [if_neg (by omega)]
  have hl : -1074 ≤ last m e := by unfold last; omega
  by_cases c : last m e = -1074
  · have h1 : 1 ≤ rnd m (e - last m e) := by
      unfold rnd
      rw [if_pos (by omega)]
      exact Nat.mul_pos (by omega) (Nat.two_pow_pos _)
    omega
  · omega
theorem valK_nz (k : Pla) (p : List (Pla × Nat)) : valK p k ≠ 9223372036854775808 := by
  unfold valK
  rw [overV_one]
  obtain ⟨n, hn⟩ : ∃ n : Nat, n = 1074 := ⟨_, rfl⟩
  obtain ⟨z, hz⟩ := sumF_dvd n hn k p
  have hle := nearU_le (sumF k p).natAbs false
  by_cases c : sumF k p < 0
  · rw [if_pos c]
    have h1 : 1 ≤ (sumF k p).natAbs := by omega
    rw [nearU_nr h1]
    rw [nearU_nr h1] at hle
    have e : (sumF k p).natAbs = z.natAbs * 2 ^ n := by rw [hz, Int.natAbs_mul, Int.natAbs_pow]; rfl
    rw [e, nr_scale']
    have hz1 : 1 ≤ z.natAbs := by
      rw [e] at h1
      rcases Nat.eq_zero_or_pos z.natAbs with h0 | h0
      · rw [h0, Nat.zero_mul] at h1; omega
      · exact h0
    have := nr_pos hz1 (e := -2148 + (n : Int)) (by omega)
    omega
  · rw [if_neg c]; omega

/-! ### lists of flows -/
def okx (x : S42) : Prop := (0 ≤ x.f0 ∧ x.f0 ≤ 109572) ∧ fin x.f1 = true ∧ (1 ≤ x.f2 ∧ x.f2 ≤ 8)
theorem chkF_of : ∀ (l : List S42) (i : Int), (∀ x ∈ l, okx x) → chkF l i = (0, 0)
  | [], _, _ => rfl
  | y :: l, i, h => by
    obtain ⟨h1, h2, h3⟩ := h y List.mem_cons_self
    rw [chkF, if_neg (by omega), if_pos h2, if_pos h3]
    exact chkF_of l (i + 1) fun x hx => h x (List.mem_cons_of_mem _ hx)
theorem chkA_of {l : List S42} (hl : l.length ≤ 4096) (h : ∀ x ∈ l, okx x) : chkA l = (0, 0) := by
  unfold chkA; rw [if_neg (by omega)]; exact chkF_of l 0 h
def w64L (l : List S42) : Prop := ∀ x ∈ l, x.f1 < 18446744073709551616
theorem good_of {l : List S42} (hl : l.length ≤ 4096) (hw : w64L l) (h : ∀ x ∈ l, okx x) : goodL l = true := by
  unfold goodL
  rw [Bool.and_eq_true, List.all_eq_true]
  refine ⟨decide_eq_true hl, fun x hx => ?_⟩
  obtain ⟨h1, h2, h3⟩ := h x hx
  rw [Bool.and_eq_true, decide_eq_true_iff]
  exact ⟨⟨h1.1, h1.2, hw x hx, h3⟩, h2⟩
/-- what Net tells. -/
def netE (l : List S42) : List S42 × Int := if (chkA l).1 = 0 then netF l else ([], (chkA l).1)
theorem net_e (l : List S42) (hw : w64L l) : Evt (fun k => flow_Net.f k l) (netE l) := by
  unfold flow_Net.f netE
  refine (chk_e l hw).bind ?_
  by_cases h : (chkA l).1 = 0
  · obtain ⟨h1, h2⟩ := chkA_ok h
    rw [if_pos h, if_pos h]
    exact Evt.const fun _ => if_pos (good_of h1 hw fun x hx => h2 x hx)
  · rw [if_neg h, if_neg h]
    exact Evt.const fun _ => rfl
theorem good_sm {l : List S42} (h : goodL l = true) : ∀ k ∈ keysF (l.map pf), SmP k := by
  have := good_keys h (m := l.length)
  rwa [List.take_length] at this
theorem netF_perm {l m : List S42} (hp : m.Perm l) (hg : goodL l = true) : netF m = netF l := by
  have hpm : (m.map pf).Perm (l.map pf) := hp.map pf
  have e1 : sortK (keysF (m.map pf)) = sortK (keysF (l.map pf)) := (sortK_eq (good_sm hg) (keysF_nodup _) (keysF_nodup _) fun k => (keysF_perm hpm k).symm).symm
  have e2 : ∀ k, valK (m.map pf) k = valK (l.map pf) k := fun k => by unfold valK; rw [sumF_perm hpm]
  have e3 : flK (m.map pf) = flK (l.map pf) := funext fun k => by unfold flK; rw [e2]
  unfold netF
  rw [e1, e3]
  simp only [e2]
theorem netE_perm {l m : List S42} (hl : l.length ≤ 4096) (hw : w64L l) (hp : m.Perm l) : (netE m).2 = 0 ↔ (netE l).2 = 0 := by
  unfold netE
  by_cases h : (chkA l).1 = 0
  · obtain ⟨h1, h2⟩ := chkA_ok h
    have hm : chkA m = (0, 0) := chkA_of (by rw [hp.length_eq]; exact hl) fun x hx => h2 x (hp.mem_iff.1 hx)
    rw [if_pos h, if_pos (by rw [hm]), netF_perm hp (good_of h1 hw fun x hx => h2 x hx)]
  · have hm : ¬ (chkA m).1 = 0 := fun h0 => h (by
      obtain ⟨h1, h2⟩ := chkA_ok h0
      rw [chkA_of hl fun x hx => h2 x (hp.mem_iff.2 hx)])
    rw [if_neg h, if_neg hm]
    exact ⟨fun e => absurd e hm, fun e => absurd e h⟩
/-- where Net has an answer. -/
theorem netE_ok {l : List S42} (h : (netE l).2 = 0) : l.length ≤ 4096 ∧ (∀ x ∈ l, okx x) ∧ netE l = netF l ∧ (∀ k ∈ sortK (keysF (l.map pf)), fin (valK (l.map pf) k) = true) ∧ (netF l).1 = (sortK (keysF (l.map pf))).map (flK (l.map pf)) := by
  unfold netE at h ⊢
  by_cases c : (chkA l).1 = 0
  · obtain ⟨h1, h2⟩ := chkA_ok c
    rw [if_pos c] at h ⊢
    refine ⟨h1, fun x hx => h2 x hx, rfl, ?_⟩
    unfold netF at h ⊢
    by_cases d : (sortK (keysF (l.map pf))).all (fun k => fin (valK (l.map pf) k)) = true
    · rw [if_pos d]
      exact ⟨fun k hk => List.all_eq_true.1 d k hk, rfl⟩
    · rw [if_neg d] at h; exact absurd (show (91 : Int) = 0 from h) (by decide)
  · rw [if_neg c] at h; exact absurd h c
theorem netF_of {l : List S42} (h : ∀ k ∈ sortK (keysF (l.map pf)), fin (valK (l.map pf) k) = true) : netF l = ((sortK (keysF (l.map pf))).map (flK (l.map pf)), 0) := by
  unfold netF
  rw [if_pos (List.all_eq_true.2 h)]
/-! ### Net of Net -/
theorem keysFrom_self : ∀ (p : List (Pla × Nat)) (ks : List Pla), (ks ++ p.map (·.1)).Nodup → keysFrom ks p = ks ++ p.map (·.1)
  | [], ks, _ => by rw [keysFrom, List.map_nil, List.append_nil]
  | f :: p, ks, h => by
    rw [List.map_cons] at h ⊢
    have h2 : f.1 ∉ ks := fun hm => by
      rw [List.nodup_append] at h
      exact h.2.2 f.1 hm f.1 List.mem_cons_self rfl
    have e : ks ++ f.1 :: p.map (·.1) = (ks ++ [f.1]) ++ p.map (·.1) := by rw [List.append_assoc]; rfl
    rw [e] at h ⊢
    rw [keysFrom, if_neg h2]
    exact keysFrom_self p (ks ++ [f.1]) h
theorem sumF_once {k : Pla} {v : Pla → Nat} : ∀ {K : List Pla}, K.Nodup → k ∈ K → sumF k (K.map fun x => (x, v x)) = units (v k)
  | [], _, h => by cases h
  | a :: K, hd, h => by
    rw [List.nodup_cons] at hd
    rw [List.map_cons, sumF]
    by_cases c : a = k
    · subst c
      have e : sumF a (K.map fun x => (x, v x)) = 0 := sumF_none fun hm => by
        obtain ⟨f, hf, e⟩ := mem_keysF.1 hm
        obtain ⟨y, hy, rfl⟩ := List.mem_map.1 hf
        exact hd.1 (e ▸ hy)
      rw [if_pos rfl, e, Int.add_zero]
    · have hk : k ∈ K := by
        rcases List.mem_cons.1 h with h | h
        · exact absurd h.symm c
        · exact h
      rw [if_neg c, Int.zero_add]
      exact sumF_once hd.2 hk
theorem pf_flK (p : List (Pla × Nat)) (K : List Pla) : (K.map (flK p)).map pf = K.map fun k => (k, valK p k) := by
  rw [List.map_map]; rfl
theorem valK_lt (p : List (Pla × Nat)) (k : Pla) : valK p k < 18446744073709551616 := over_lt _ _
theorem net_net {l : List S42} (hw : w64L l) (h : (netE l).2 = 0) : netE (netE l).1 = ((netE l).1, 0) ∧ w64L (netE l).1 ∧ (netE l).1.length ≤ l.length := by
  obtain ⟨h1, h2, h3, h4, h5⟩ := netE_ok h
  have hg := good_of h1 hw h2
  have hK := good_sm hg
  have hd := keysF_nodup (l.map pf)
  have hs := sortK_sorted hK hd
  have hlen : (sortK (keysF (l.map pf))).length ≤ l.length := by
    rw [sortK_len]; have := keysF_len (l.map pf); rwa [List.length_map] at this
  rw [h3, h5]
  have hsm : ∀ k ∈ sortK (keysF (l.map pf)), ∃ x ∈ l, (pf x).1 = k := fun k hk => by
    obtain ⟨f, hf, e⟩ := mem_keysF.1 ((sortK_mem hK).1 hk)
    obtain ⟨x, hx, rfl⟩ := List.mem_map.1 hf
    exact ⟨x, hx, e⟩
  have hnd := sortK_nodup hK hd
  have hK2 : ∀ k ∈ sortK (keysF (l.map pf)), SmP k := fun k hk => hK k ((sortK_mem hK).1 hk)
  generalize hp : l.map pf = p at *
  generalize sortK (keysF p) = K at *
  have hw2 : w64L (K.map (flK p)) := fun x hx => by
    obtain ⟨k, _, rfl⟩ := List.mem_map.1 hx
    exact valK_lt p k
  have hok : ∀ x ∈ K.map (flK p), okx x := fun x hx => by
    obtain ⟨k, hk, rfl⟩ := List.mem_map.1 hx
    obtain ⟨y, hy, e⟩ := hsm k hk
    obtain ⟨o1, _, o3⟩ := h2 y hy
    subst e
    exact ⟨o1, h4 _ hk, o3⟩
  refine ⟨?_, hw2, by rw [List.length_map]; exact hlen⟩
  have hc := chkA_of (l := K.map (flK p)) (by rw [List.length_map]; omega) hok
  unfold netE
  rw [if_pos (by rw [hc])]
  have e0 : keysF ((K.map (flK p)).map pf) = K := by
    rw [pf_flK]
    unfold keysF
    rw [keysFrom_self _ [] (by rw [List.nil_append, List.map_map]; exact (List.map_id K).symm ▸ hnd), List.nil_append, List.map_map]
    exact List.map_id K
  have e1 : sortK K = K := sortK_self hK2 hs
  have e2 : ∀ k ∈ K, valK ((K.map (flK p)).map pf) k = valK p k := fun k hk => by
    rw [pf_flK]
    show overV (sumF k (K.map fun k => (k, valK p k))) false false 1 = _
    rw [sumF_once hnd hk]
    exact overV_units (valK_lt p k) (h4 k hk) (valK_nz k p)
  have e3 : netF (K.map (flK p)) = ((sortK (keysF ((K.map (flK p)).map pf))).map (flK ((K.map (flK p)).map pf)), 0) := netF_of (by
    rw [e0, e1]; exact fun k hk => by rw [e2 k hk]; exact h4 k hk)
  rw [e3, e0, e1]
  congr 1
  exact List.map_congr_left fun k hk => by
    show (⟨k.2, valK _ k, k.1⟩ : S42) = ⟨k.2, valK p k, k.1⟩
    rw [e2 k hk]

/-! ### a list and its Give -/
theorem sumF_give (k : Pla) : ∀ (l : List S42), w64L l → sumF k ((l.map gv).map pf) = -sumF k (l.map pf)
  | [], _ => rfl
  | x :: l, h => by
    have ih := sumF_give k l fun y hy => h y (List.mem_cons_of_mem _ hy)
    have e : (pf (gv x)).1 = (pf x).1 := rfl
    have e2 : (pf (gv x)).2 = fneg (pf x).2 := rfl
    rw [List.map_cons, List.map_cons, List.map_cons, sumF, sumF, ih, e, e2, units_fneg (show (pf x).2 < 18446744073709551616 from h x List.mem_cons_self)]
    by_cases c : (pf x).1 = k
    · rw [if_pos c, if_pos c]; omega
    · rw [if_neg c, if_neg c]; omega
def nil0 (k : Pla) : S42 := ⟨k.2, 0, k.1⟩
theorem net_give {l : List S42} (hw : w64L l) (hl : l.length ≤ 120) (h : (netE l).2 = 0) : netE (l ++ l.map gv) = ((sortK (keysF (l.map pf))).map nil0, 0) ∧ w64L (l ++ l.map gv) := by
  obtain ⟨h1, h2, h3, h4, h5⟩ := netE_ok h
  have hok : ∀ x ∈ l ++ l.map gv, okx x := fun x hx => by
    rcases List.mem_append.1 hx with hx | hx
    · exact h2 x hx
    · obtain ⟨y, hy, rfl⟩ := List.mem_map.1 hx
      obtain ⟨o1, o2, o3⟩ := h2 y hy
      exact ⟨o1, (fin_fneg (hw y hy) o2).1, o3⟩
  have hw2 : w64L (l ++ l.map gv) := fun x hx => by
    rcases List.mem_append.1 hx with hx | hx
    · exact hw x hx
    · obtain ⟨y, hy, rfl⟩ := List.mem_map.1 hx
      exact (fin_fneg (hw y hy) (h2 y hy).2.1).2
  have hlen : (l ++ l.map gv).length ≤ 4096 := by rw [List.length_append, List.length_map]; omega
  refine ⟨?_, hw2⟩
  have hc := chkA_of hlen hok
  have hg := good_of h1 hw h2
  have hg2 := good_of hlen hw2 hok
  unfold netE
  rw [if_pos (by rw [hc])]
  have e0 : sortK (keysF ((l ++ l.map gv).map pf)) = sortK (keysF (l.map pf)) := by
    refine (sortK_eq (good_sm hg) (keysF_nodup _) (keysF_nodup _) fun k => ?_).symm
    rw [mem_keysF, mem_keysF, List.map_append]
    constructor
    · rintro ⟨f, hf, e⟩; exact ⟨f, List.mem_append_left _ hf, e⟩
    · rintro ⟨f, hf, e⟩
      rcases List.mem_append.1 hf with hf | hf
      · exact ⟨f, hf, e⟩
      · rw [List.map_map] at hf
        obtain ⟨y, hy, rfl⟩ := List.mem_map.1 hf
        exact ⟨pf y, List.mem_map_of_mem hy, e⟩
  have e1 : ∀ k, valK ((l ++ l.map gv).map pf) k = 0 := fun k => by
    unfold valK
    rw [List.map_append, sumF_append, sumF_give k l hw, show sumF k (l.map pf) + -sumF k (l.map pf) = 0 by omega]
    exact overV_zero
  rw [netF_of (fun k _ => by rw [e1]; decide +kernel), e0]
  congr 1
  exact List.map_congr_left fun k _ => by
    show (⟨k.2, valK _ k, k.1⟩ : S42) = ⟨k.2, 0, k.1⟩
    rw [e1]
/-! ### Mixed -/
theorem swap_eta {xs : List S42} {i j : Nat} (hi : i < xs.length) (hj : j < xs.length) : ((xs.set i (⟨(rd_T42 xs (j : Int)).f0, (rd_T42 xs (j : Int)).f1, (rd_T42 xs (j : Int)).f2⟩ : S42)).set j (⟨(rd_T42 xs (i : Int)).f0, (rd_T42 xs (i : Int)).f1, (rd_T42 xs (i : Int)).f2⟩ : S42)).Perm xs := by
  rw [rd_at hi, rd_at hj]
  exact List.set_set_perm hi hj
theorem mix_go (l : List S42) (hl : l.length < 5864062014805) (by_ : List Int) : ∀ (d i : Nat) (xs : List S42), i + d = l.length → xs.Perm l → ∃ m, m.Perm l ∧ Evt (fun k => tenorlaw14_Mixed.l0 k by_ xs (i : Int)) m
  | 0, i, xs, h, hp => ⟨xs, hp, by
    refine Evt.next (f := fun _ => some xs) (Evt.const fun _ => rfl) fun k => ?_
    rw [tenorlaw14_Mixed.l0, if_neg (by rw [hp.length_eq]; omega)]⟩
  | d + 1, i, xs, h, hp => by
    have hn := hp.length_eq
    by_cases hb : (i : Int) < (by_.length : Int)
    · obtain ⟨j, hj, hj2⟩ : ∃ j : Nat, Int.tmod (wrap64 ((Int.tmod (rd by_ (i : Int)) (xs.length : Int)) + (xs.length : Int))) (xs.length : Int) = (j : Int) ∧ j < xs.length := by
        generalize rd by_ (i : Int) = b
        have hpos : (0 : Int) < (xs.length : Int) := by omega
        have h1 := Int.tmod_lt_of_pos b hpos
        have h2 : -(xs.length : Int) < Int.tmod b (xs.length : Int) := by
          have := Int.lt_tmod_of_pos b hpos
          omega
        generalize Int.tmod b (xs.length : Int) = t at h1 h2
        have e : wrap64 (t + (xs.length : Int)) = t + xs.length := by unfold wrap64; omega
        rw [e, Int.tmod_eq_emod_of_nonneg (by omega)]
        have h3 := Int.emod_nonneg (t + (xs.length : Int)) (show (xs.length : Int) ≠ 0 by omega)
        have h4 := Int.emod_lt_of_pos (t + (xs.length : Int)) hpos
        exact ⟨((t + (xs.length : Int)) % (xs.length : Int)).toNat, by omega, by omega⟩
      obtain ⟨m, hm, he⟩ := mix_go l hl by_ d (i + 1) _ (by omega) ((swap_eta (xs := xs) (i := i) (j := j) (by omega) hj2).trans hp)
      refine ⟨m, hm, Evt.next he fun k => ?_⟩
      rw [tenorlaw14_Mixed.l0, if_pos (by omega), if_pos hb, if_pos (by omega), if_neg (by omega), hj, if_pos (by omega), if_pos (by omega), Int.toNat_natCast, Int.toNat_natCast, wr (n := l.length) (by omega) (by omega)]
    · refine ⟨xs, hp, Evt.next (f := fun _ => some xs) (Evt.const fun _ => rfl) fun k => ?_⟩
      rw [tenorlaw14_Mixed.l0, if_pos (by omega), if_neg hb]
theorem mix_e (l : List S42) (hl : l.length < 5864062014805) (by_ : List Int) : ∃ m, m.Perm l ∧ Evt (fun k => tenorlaw14_Mixed.f k l by_) m := by
  obtain ⟨m, hm, he⟩ := mix_go l hl by_ l.length 0 l (by omega) (List.Perm.refl _)
  refine ⟨m, hm, ?_⟩
  unfold tenorlaw14_Mixed.f
  refine Evt.after rfl (Evt.ifT (by simpa using hl) ?_)
  exact he
/-! ### the law -/
theorem same_of {l m : List S42} (e : l = m) (hl : l.length < 5864062014805) : Evt (fun k => tenorlaw14_same.f k l m) true := by
  subst e; exact same_f l hl
theorem rdn_at {α : Type} {K : List Pla} {f : Pla → S42} {i : Nat} (hi : i < K.length) : rd_T42 (K.map f) (i : Int) = f K[i] := by
  have h2 : i < (K.map f).length := by rw [List.length_map]; exact hi
  rw [rd_at h2, List.getElem_map]
theorem loop_go {p : List (Pla × Nat)} {K : List Pla} (hs : K.Pairwise ltQ) (hK : K.length ≤ 4096) : ∀ d i : Nat, i + d = K.length → Evt (fun k => Go.Proofs.Ytepcegiciecogaa.FOg.tenorlaw14_FlowOrder.l0 k (K.map (flK p)) (K.map nil0) (i : Int)) true
  | 0, i, h => by
    refine Evt.next (f := fun _ => some true) (Evt.const fun _ => rfl) fun k => ?_
    rw [Go.Proofs.Ytepcegiciecogaa.FOg.tenorlaw14_FlowOrder.l0, if_neg (by rw [List.length_map]; omega)]
    rfl
  | d + 1, i, h => by
    have ih := loop_go (p := p) hs hK d (i + 1) (by omega)
    have hi : i < K.length := by omega
    refine Evt.next ih fun k => ?_
    rw [Go.Proofs.Ytepcegiciecogaa.FOg.tenorlaw14_FlowOrder.l0, if_pos (by rw [List.length_map]; omega), if_pos (by omega), rdn_at (α := Nat) (f := nil0) hi, rdn_at (α := Nat) (f := flK p) hi]
    unfold api_Bits.f
    rw [Option.bind_some, if_pos (show ((nil0 K[i]).f1 : Int) = 0 from rfl), if_pos (by rw [List.length_map]; omega), if_pos (show (nil0 K[i]).f0 = (flK p K[i]).f0 from rfl), if_pos (show (nil0 K[i]).f2 = (flK p K[i]).f2 from rfl), wr (n := K.length) hi (by omega)]
    by_cases h0 : (i : Int) > 0
    · obtain ⟨j, rfl⟩ : ∃ j, i = j + 1 := ⟨i - 1, by omega⟩
      have e : wrap64 (((j + 1 : Nat) : Int) - 1) = (j : Int) := by unfold wrap64; omega
      have hj : j < K.length := by omega
      have hlt := List.pairwise_iff_getElem.1 hs j (j + 1) hj hi (by omega)
      rw [if_pos h0, e, if_pos (by omega), if_pos (by rw [List.length_map]; omega), rdn_at (α := Nat) (f := flK p) hj]
      have a1 : (flK p K[j + 1]).f2 = (K[j + 1]).1 := rfl
      have a2 : (flK p K[j]).f2 = (K[j]).1 := rfl
      have a3 : (flK p K[j + 1]).f0 = (K[j + 1]).2 := rfl
      have a4 : (flK p K[j]).f0 = (K[j]).2 := rfl
      rw [a1, a2, a3, a4]
      unfold ltQ at hlt
      rw [if_neg (by omega)]
      by_cases c : (K[j + 1]).1 = (K[j]).1
      · rw [if_pos c, if_neg (by omega)]
      · rw [if_neg c]
    · rw [if_neg h0]
theorem law_good (l : List S42) (hw : w64L l) (hl : l.length ≤ 120) (by_ : List Int) (h : (netE l).2 = 0) : Evt (fun k => Go.Proofs.Ytepcegiciecogaa.FOg.tenorlaw14_FlowOrder.f k l by_) true := by
  have hL : l.length < 5864062014805 := by omega
  obtain ⟨m, hm, he⟩ := mix_e l hL by_
  obtain ⟨h1, h2, h3, h4, h5⟩ := netE_ok h
  have hg := good_of h1 hw h2
  have hwm : w64L m := fun x hx => hw x (hm.mem_iff.1 hx)
  have hmE : netE m = netE l := by
    have := (netE_perm h1 hw hm).2 h
    rw [(netE_ok this).2.2.1, h3, netF_perm hm hg]
  obtain ⟨n1, n2, n3⟩ := net_net hw h
  obtain ⟨g1, g2⟩ := net_give hw hl h
  have hs := sortK_sorted (good_sm hg) (keysF_nodup (l.map pf))
  have hlen : (sortK (keysF (l.map pf))).length ≤ 120 := by
    rw [sortK_len]; have := keysF_len (l.map pf); rw [List.length_map] at this; omega
  unfold Go.Proofs.Ytepcegiciecogaa.FOg.tenorlaw14_FlowOrder.f
  refine Evt.after (few_f l) (Evt.ifT (decide_eq_true (by omega)) ?_)
  refine (net_e l hw).bind (he.bind ((net_e m hwm).bind ?_))
  rw [hmE]
  refine Evt.ifT h (Evt.ifT h ?_)
  refine (net_e _ n2).bind ?_
  refine (same_of rfl (by omega)).bind (Evt.ifT rfl ?_)
  rw [n1]
  refine Evt.ifT rfl ((same_of rfl (show (netE l).1.length < 5864062014805 by omega)).bind (Evt.ifT rfl ?_))
  refine Evt.after rfl (Evt.ifT (by simpa using hL) (Evt.after rfl ((give_f l hL).bind ?_)))
  refine Evt.ifT (by rw [List.length_map, List.nil_append]; omega) ?_
  rw [List.nil_append]
  refine (net_e _ g2).bind ?_
  rw [g1, h3, h5]
  refine Evt.ifT rfl (Evt.ifT (by rw [List.length_map, List.length_map]) ?_)
  exact loop_go hs (by omega) _ 0 (by rw [Nat.zero_add])
theorem law_bad (l : List S42) (hw : w64L l) (hL : l.length < 5864062014805) (by_ : List Int) (h : ¬ (l.length ≤ 120 ∧ (netE l).2 = 0)) : Evt (fun k => Go.Proofs.Ytepcegiciecogaa.FOb.tenorlaw14_FlowOrder.f k l by_) true := by
  unfold Go.Proofs.Ytepcegiciecogaa.FOb.tenorlaw14_FlowOrder.f
  refine Evt.after (few_f l) ?_
  by_cases hl : (l.length : Int) ≤ 120
  · have h2 : ¬ (netE l).2 = 0 := fun e => h ⟨by omega, e⟩
    obtain ⟨m, hm, he⟩ := mix_e l hL by_
    have hwm : w64L m := fun x hx => hw x (hm.mem_iff.1 hx)
    have h3 : ¬ (netE m).2 = 0 := fun e => h2 ((netE_perm (by omega) hw hm).1 e)
    refine Evt.ifT (decide_eq_true hl) ((net_e l hw).bind (he.bind ((net_e m hwm).bind (Evt.ifF h2 ?_))))
    refine Evt.next (f := fun _ => some true) (Evt.const fun _ => rfl) fun k => ?_
    rw [Go.Proofs.Ytepcegiciecogaa.FOb.tenorlaw14_FlowOrder.j0, if_pos rfl, if_pos (by rw [bne_iff_ne.2 h2, bne_iff_ne.2 h3]; rfl)]
    rfl
  · exact Evt.ifF (by simpa using hl) (Evt.const fun _ => rfl)
end Go.Proofs.Ytepcegiciecogaa.FO
