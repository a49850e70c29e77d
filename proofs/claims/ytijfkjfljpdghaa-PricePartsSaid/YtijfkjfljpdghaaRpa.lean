/- PriceParts: two lists apart and put together are worth the same; turned, and gone. -/
import Derived.Test.YtijfkjfljpdghaaFUx1
import Derived.Test.YtijfkjfljpdghaaFOx1
namespace Go.Proofs.Ytijfkjfljpdghaa.FB
open Go.RowKit Go.Proofs.YtijfkjfljpdghaaW.PrintWords Go.Proofs.YtijfkjfljpdghaaW.PrintLast Go.Proofs.YtijfkjfljpdghaaW.PrintMore Go.Proofs.Ytijfkjfljpdghaa.FX Go.Proofs.Ytijfkjfljpdghaa.EV Go.Proofs.Ytijfkjfljpdghaa.FP Tn
attribute [local go_sem] run_store_float run_neg_float run_fmul isSome_setCell
set_option linter.unusedVariables false
set_option linter.unusedSimpArgs false
def MW (w : World) (L : List (Nat × Nat × Int)) : Prop := ∀ x ∈ L, worth w x.1 x.2.1 x.2.2
theorem MW.nil (w : World) : MW w [] := fun x hx => by cases hx
theorem MW.cons {w : World} {g b : Nat} {Z : Int} {L : List (Nat × Nat × Int)} (h : worth w g b Z) (hL : MW w L) : MW w ((g, b, Z) :: L) := fun x hx => by
 rcases List.mem_cons.1 hx with rfl | hx
 ·exact h
 ·exact hL x hx
theorem MW.below {w w' : World} {L : List (Nat × Nat × Int)} (h : MW w L) (hb : Below w.heap.size w w') : MW w' L := fun x hx => (h x hx).below hb
theorem MW.get {w : World} {g b : Nat} {Z : Int} {L : List (Nat × Nat × Int)} (h : MW w L) (hm : (g, b, Z) ∈ L) : worth w g b Z := h _ hm
theorem small_val (l : List S50) (b kd : Int) (ds : List Int) (fs : List Nat) : FU.tenorlaw15_small.f l b kd ds fs = some (decide (l.length ≤ 60 ∧ ds.length ≤ 12 ∧ fs.length ≤ 12)) := by
 unfold FU.tenorlaw15_small.f
 by_cases c1 : (l.length : Int) ≤ 60
 ·rw [if_pos c1]
  by_cases c2 : (ds.length : Int) ≤ 12
  ·rw [if_pos c2]; congr 1; rw [Bool.eq_iff_iff, decide_eq_true_iff, decide_eq_true_iff]; omega
  ·rw [if_neg c2, decide_eq_false (by omega)]
 ·rw [if_neg c1, decide_eq_false (by omega)]
theorem of_ok (A0 : Option Addr) (c0 : Nat) (l : List S50) (cur b kd : Int) (A1 : Option Addr) (c1 : Nat) (ds : List Int) (A2 : Option Addr) (c2 : Nat) (fs : List Nat) (w : World) (hr0 : Kd.C k50 w A0 l.length l) (hc0 : l.length ≤ c0) (hr1 : Kd.C (Kd.int .i64) w A1 ds.length ds) (hc1 : ds.length ≤ c1) (hr2 : Kd.C Kd.flt w A2 fs.length fs) (hc2 : fs.length ≤ c2) (hwl : ∀ f ∈ l, f.f1 < 18446744073709551616) (hwf : ∀ y ∈ fs, y < 18446744073709551616) (h : eachE cur b kd ds fs l = 0) :
  Calls Try.prog 6 #[.slice A0 l.length c0, .int .i64 cur, .agg #[.int .i64 b, .int .i64 kd, .slice A1 ds.length c1, .slice A2 fs.length c2]] w fun e w' => ∃ g gb : Nat, e = .returned (.tuple #[.pointer (some ⟨g, 0, none⟩), .int .i64 0]) ∧ Aside0 (Below w.heap.size w w') ∧ Aside0 (worth w' g gb (sumE cur b kd ds fs l)) :=
 (of_any A0 c0 l cur b kd A1 c1 ds A2 c2 fs w hr0 hc0 hr1 hc1 hr2 hc2 hwl hwf).mono fun e w' ⟨hb, h2⟩ => by
  rcases h2 with ⟨hn, _⟩ | ⟨_, g, gb, he, _, _, hw⟩
  ·exact absurd h hn
  ·exact ⟨g, gb, he, hb, hw⟩
theorem of_err (A0 : Option Addr) (c0 : Nat) (l : List S50) (cur b kd : Int) (A1 : Option Addr) (c1 : Nat) (ds : List Int) (A2 : Option Addr) (c2 : Nat) (fs : List Nat) (w : World) (hr0 : Kd.C k50 w A0 l.length l) (hc0 : l.length ≤ c0) (hr1 : Kd.C (Kd.int .i64) w A1 ds.length ds) (hc1 : ds.length ≤ c1) (hr2 : Kd.C Kd.flt w A2 fs.length fs) (hc2 : fs.length ≤ c2) (hwl : ∀ f ∈ l, f.f1 < 18446744073709551616) (hwf : ∀ y ∈ fs, y < 18446744073709551616) (h : eachE cur b kd ds fs l ≠ 0) :
  Calls Try.prog 6 #[.slice A0 l.length c0, .int .i64 cur, .agg #[.int .i64 b, .int .i64 kd, .slice A1 ds.length c1, .slice A2 fs.length c2]] w fun e w' => e = .returned (.tuple #[.pointer none, .int .i64 (eachE cur b kd ds fs l)]) ∧ Aside0 (Below w.heap.size w w') :=
 (of_any A0 c0 l cur b kd A1 c1 ds A2 c2 fs w hr0 hc0 hr1 hc1 hr2 hc2 hwl hwf).mono fun e w' ⟨hb, h2⟩ => by
  rcases h2 with ⟨_, he⟩ | ⟨hn, _⟩
  ·exact ⟨he, hb⟩
  ·exact absurd hn h
theorem rd_at {l : List S50} {i : Nat} (hi : i < l.length) : rd_T50 l (i : Int) = l[i] := rd_z hi
def gv (x : S50) : S50 := ⟨x.f0, fneg x.f1, x.f2⟩
theorem give_go (l : List S50) (hl : l.length < 5864062014805) : ∀ m i : Nat, i + m = l.length → ∃ k, flow_Give.l0 k ((l.take i).map gv) l (l.length : Int) (i : Int) = some (l.map gv)
 | 0, i, h => ⟨1, by rw [flow_Give.l0, if_neg (by omega), List.take_of_length_le (by omega)]⟩
 | m + 1, i, h => by
  (obtain ⟨k, hk⟩ := give_go l hl m (i + 1) (by omega));(have hi : i < l.length := by omega);(refine ⟨k + 1, ?_⟩);(rw [flow_Give.l0, if_pos (by omega), if_pos (by omega), if_pos (by omega), if_pos (by rw [List.length_map, List.length_take]; have := Nat.min_le_right i l.length; omega), rd_at hi, wr hi (by omega)]);(rw [List.take_succ_eq_append_getElem hi, List.map_append] at hk);(exact hk)
theorem give_f (l : List S50) (hl : l.length < 5864062014805) : Evt (fun k => flow_Give.f k l) (l.map gv) := by
 (obtain ⟨k, hk⟩ := give_go l hl l.length 0 (by omega));(exact evt (flow_Give.mono l) ⟨k, by unfold flow_Give.f; rw [if_pos (by omega), if_pos (by omega)]; exact hk⟩)
theorem fneg_val {x : Nat} (hx : x < 18446744073709551616) : fneg x = (if sgn x = true then 0 else 9223372036854775808) + mag x := by
 have h1 : fneg x % 2 ^ 63 = mag x := by
  (unfold fneg);(rw [Nat.xor_mod_two_pow, show 9223372036854775808 % 2 ^ 63 = 0 from rfl, Nat.xor_zero]; rfl)
 have h2 : fneg x / 2 ^ 63 = (x / 2 ^ 63) ^^^ 1 := by
  (unfold fneg);(rw [Nat.xor_div_two_pow])
 have h3 : x / 2 ^ 63 = 0 ∨ x / 2 ^ 63 = 1 := by
  rw [show (2 : Nat) ^ 63 = 9223372036854775808 from rfl]; omega
 (have h4 := Nat.div_add_mod (fneg x) (2 ^ 63));(rw [h1, h2] at h4);(rw [show (2 : Nat) ^ 63 = 9223372036854775808 from rfl] at h3 h4);(unfold sgn)
 rcases h3 with h3 | h3
 ·rw [h3] at h4
  (rw [if_neg (by simp; omega), ← h4]);(rfl)
 ·rw [h3] at h4
  rw [if_pos (by simp; omega), ← h4]
  show 9223372036854775808 * 0 + mag x = 0 + mag x
  omega
theorem swap_eta {xs : List S50} {i j : Nat} (hi : i < xs.length) (hj : j < xs.length) : ((xs.set i (⟨(rd_T50 xs (j : Int)).f0, (rd_T50 xs (j : Int)).f1, (rd_T50 xs (j : Int)).f2⟩ : S50)).set j (⟨(rd_T50 xs (i : Int)).f0, (rd_T50 xs (i : Int)).f1, (rd_T50 xs (i : Int)).f2⟩ : S50)).Perm xs := by
 (rw [rd_at hi, rd_at hj]);(exact List.set_set_perm hi hj)
theorem mix_go (l : List S50) (hl : l.length < 5864062014805) (by_ : List Int) : ∀ (d i : Nat) (xs : List S50), i + d = l.length → xs.Perm l → ∃ m, m.Perm l ∧ Evt (fun k => FO.tenorlaw14_Mixed.l0 k by_ xs (i : Int)) m
 | 0, i, xs, h, hp => ⟨xs, hp, by
  refine Evt.next (f := fun _ => some xs) (Evt.const fun _ => rfl) fun k => ?_
  rw [FO.tenorlaw14_Mixed.l0, if_neg (by rw [hp.length_eq]; omega)]⟩
 | d + 1, i, xs, h, hp => by
  have hn := hp.length_eq
  by_cases hb : (i : Int) < (by_.length : Int)
  ·obtain ⟨j, hj, hj2⟩ : ∃ j : Nat, Int.tmod (wrap64 ((Int.tmod (rd by_ (i : Int)) (xs.length : Int)) + (xs.length : Int))) (xs.length : Int) = (j : Int) ∧ j < xs.length := by
    (generalize rd by_ (i : Int) = b);(have hpos : (0 : Int) < (xs.length : Int) := by omega);(have h1 := Int.tmod_lt_of_pos b hpos)
    have h2 : -(xs.length : Int) < Int.tmod b (xs.length : Int) := by
     (have := Int.lt_tmod_of_pos b hpos);(omega)
    (generalize Int.tmod b (xs.length : Int) = t at h1 h2);(have e : wrap64 (t + (xs.length : Int)) = t + xs.length := by unfold wrap64; omega);(rw [e, Int.tmod_eq_emod_of_nonneg (by omega)]);(have h3 := Int.emod_nonneg (t + (xs.length : Int)) (show (xs.length : Int) ≠ 0 by omega));(have h4 := Int.emod_lt_of_pos (t + (xs.length : Int)) hpos);(exact ⟨((t + (xs.length : Int)) % (xs.length : Int)).toNat, by omega, by omega⟩)
   (obtain ⟨m, hm, he⟩ := mix_go l hl by_ d (i + 1) _ (by omega) ((swap_eta (xs := xs) (i := i) (j := j) (by omega) hj2).trans hp));(refine ⟨m, hm, Evt.next he fun k => ?_⟩);(rw [FO.tenorlaw14_Mixed.l0, if_pos (by omega), if_pos hb, if_pos (by omega), if_neg (by omega), hj, if_pos (by omega), if_pos (by omega), Int.toNat_natCast, Int.toNat_natCast, wr (n := l.length) (by omega) (by omega)])
  ·refine ⟨xs, hp, Evt.next (f := fun _ => some xs) (Evt.const fun _ => rfl) fun k => ?_⟩
   rw [FO.tenorlaw14_Mixed.l0, if_pos (by omega), if_neg hb]
theorem mix_e (l : List S50) (hl : l.length < 5864062014805) (by_ : List Int) : ∃ m, m.Perm l ∧ Evt (fun k => FO.tenorlaw14_Mixed.f k l by_) m := by
 (obtain ⟨m, hm, he⟩ := mix_go l hl by_ l.length 0 l (by omega) (List.Perm.refl _));(refine ⟨m, hm, ?_⟩);(unfold FO.tenorlaw14_Mixed.f);(refine Evt.after rfl (Evt.ifT (by simpa using hl) ?_));(exact he)

theorem fchkL_iff : ∀ {l : List S50}, fchkL l = 0 ↔ ∀ f ∈ l, fchk1 f = 0
 | [] => by simp [fchkL]
 | f :: l => by
  have ih := fchkL_iff (l := l)
  by_cases c : fchk1 f = 0
  ·rw [fchkL, if_pos c, ih]; simp [c]
  ·rw [fchkL, if_neg c]; simp [c]
theorem firstE_iff {cur b kd : Int} {ds : List Int} {fs : List Nat} : ∀ {l : List S50}, firstE cur b kd ds fs l = 0 ↔ ∀ f ∈ l, counts cur b f = true → (facV b kd ds fs f.f0).2 = 0
 | [] => by simp [firstE]
 | f :: l => by
  (have ih := firstE_iff (cur := cur) (b := b) (kd := kd) (ds := ds) (fs := fs) (l := l));(rw [firstE])
  by_cases c : counts cur b f = true
  ·rw [if_pos c]
   by_cases c2 : (facV b kd ds fs f.f0).2 = 0
   ·rw [if_pos c2, ih]; simp [c, c2]
   ·rw [if_neg c2]; simp [c, c2]
  ·rw [if_neg c, ih]; simp [c]
theorem eachE_iff {cur b kd : Int} {ds : List Int} {fs : List Nat} {l : List S50} (hl : l.length ≤ 4096) : eachE cur b kd ds fs l = 0 ↔ (∀ f ∈ l, fchk1 f = 0) ∧ (1 ≤ cur ∧ cur ≤ 8) ∧ chkC b kd ds fs = 0 ∧ ∀ f ∈ l, counts cur b f = true → (facV b kd ds fs f.f0).2 = 0 := by
 have hF : fchk l = fchkL l := by unfold fchk; rw [if_neg (by omega)]
 constructor
 ·intro h
  (obtain ⟨h1, h2, h3, h4⟩ := eachE_zero h);(rw [hF] at h1);(exact ⟨fchkL_iff.1 h1, h2, h3, firstE_iff.1 h4⟩)
 ·rintro ⟨h1, h2, h3, h4⟩
  (unfold eachE);(rw [hF, if_pos (fchkL_iff.2 h1), if_neg (by omega), if_pos h3]);(exact firstE_iff.2 h4)
theorem all_iff {cur b kd : Int} {ds : List Int} {fs : List Nat} {l m a : List S50} (hp : a.Perm (l ++ m)) (hl : l.length ≤ 60) (hm : m.length ≤ 60) : eachE cur b kd ds fs a = 0 ↔ eachE cur b kd ds fs l = 0 ∧ eachE cur b kd ds fs m = 0 := by
 (have hn := hp.length_eq);(rw [List.length_append] at hn);(rw [eachE_iff (by omega), eachE_iff (by omega), eachE_iff (by omega)]);(have q : ∀ f, f ∈ a ↔ f ∈ l ∨ f ∈ m := fun f => by rw [hp.mem_iff, List.mem_append])
 constructor
 ·rintro ⟨h1, h2, h3, h4⟩
  exact ⟨⟨fun f hf => h1 f ((q f).2 (.inl hf)), h2, h3, fun f hf => h4 f ((q f).2 (.inl hf))⟩, ⟨fun f hf => h1 f ((q f).2 (.inr hf)), h2, h3, fun f hf => h4 f ((q f).2 (.inr hf))⟩⟩
 ·rintro ⟨⟨h1, h2, h3, h4⟩, ⟨g1, _, _, g4⟩⟩
  exact ⟨fun f hf => ((q f).1 hf).elim (h1 f) (g1 f), h2, h3, fun f hf => ((q f).1 hf).elim (h4 f) (g4 f)⟩
theorem sgn_fneg {x : Nat} (hx : x < 18446744073709551616) : sgn (fneg x) = !sgn x ∧ mag (fneg x) = mag x := by
 (have h := fneg_val hx);(have hm : mag x < 9223372036854775808 := by unfold mag; omega)
 cases hs : sgn x
 ·rw [hs, if_neg (by decide)] at h
  refine ⟨?_, ?_⟩
  ·rw [h]; unfold sgn; simp; try omega
  ·rw [h]; unfold mag at hm ⊢; omega
 ·rw [hs, if_pos rfl] at h
  refine ⟨?_, ?_⟩
  ·rw [h]; unfold sgn; simp; omega
  ·rw [h]; unfold mag at hm ⊢; omega
theorem fneg_lt {x : Nat} (hx : x < 18446744073709551616) : fneg x < 18446744073709551616 := by
 (have h := fneg_val hx);(have hm : mag x < 9223372036854775808 := by unfold mag; omega)
 split at h <;> omega
theorem neg_parts {x : Nat} (hx : x < 18446744073709551616) : fin (fneg x) = fin x ∧ spm (fneg x) = -spm x ∧ spe (fneg x) = spe x := by
 (obtain ⟨h1, h2⟩ := sgn_fneg hx);(have hf : fin (fneg x) = fin x := by unfold fin; rw [h2]);(refine ⟨hf, ?_, by unfold spe; rw [hf, h2]⟩);(unfold spm);(rw [hf, h1, h2])
 cases fin x <;> cases sgn x <;> simp
theorem give_chk {f : S50} (hx : f.f1 < 18446744073709551616) : fchk1 (gv f) = fchk1 f := by
 unfold fchk1
 show (if f.f0 < 0 ∨ 109572 < f.f0 then (51 : Int) else if fin (fneg f.f1) = true then (if f.f2 < 1 ∨ 8 < f.f2 then 140 else 0) else 91) = _
 rw [(neg_parts hx).1]
theorem give_each {cur b kd : Int} {ds : List Int} {fs : List Nat} {l : List S50} (hl : l.length ≤ 4096) (hw : ∀ f ∈ l, f.f1 < 18446744073709551616) (h : eachE cur b kd ds fs l = 0) : eachE cur b kd ds fs (l.map gv) = 0 := by
 (rw [eachE_iff hl] at h);(rw [eachE_iff (by rw [List.length_map]; exact hl)]);(obtain ⟨h1, h2, h3, h4⟩ := h);(refine ⟨fun f hf => ?_, h2, h3, fun f hf hc => ?_⟩)
 ·obtain ⟨y, hy, rfl⟩ := List.mem_map.1 hf
  rw [give_chk (hw y hy)]; exact h1 y hy
 ·obtain ⟨y, hy, rfl⟩ := List.mem_map.1 hf
  exact h4 y hy hc
theorem unitsP_neg {x : Nat} (hx : x < 18446744073709551616) (y : Nat) : unitsP (fneg x) y = -unitsP x y := by
 (obtain ⟨_, h2, h3⟩ := neg_parts hx);(unfold unitsP);(rw [h2, h3, Int.neg_mul, Int.neg_mul])
theorem give_sum {cur b kd : Int} {ds : List Int} {fs : List Nat} : ∀ {l : List S50}, (∀ f ∈ l, f.f1 < 18446744073709551616) → sumE cur b kd ds fs (l.map gv) = -sumE cur b kd ds fs l
 | [], _ => rfl
 | f :: l, hw => by
  have ih := give_sum (cur := cur) (b := b) (kd := kd) (ds := ds) (fs := fs) (l := l) (fun x hx => hw x (List.mem_cons_of_mem _ hx))
  have e : worth1 cur b kd ds fs (gv f) = -worth1 cur b kd ds fs f := by
   unfold worth1
   show (if counts cur b f = true then unitsP (fneg f.f1) (facV b kd ds fs f.f0).1 else 0) = _
   by_cases c : counts cur b f = true
   ·rw [if_pos c, if_pos c, unitsP_neg (hw f (List.mem_cons_self ..))]
   ·rw [if_neg c, if_neg c]; rfl
  rw [List.map_cons, sumE, sumE, ih, e]; omega
theorem sign_neg (Z : Int) : signZ (-Z) = -signZ Z := by
 unfold signZ
 (repeat' split) <;> omega
theorem tH {P : Program} {ops : Array Oper} {Q : Exit → Act → World → Prop} {md : Region.Mode} {S : World → Prop} {v : Value} {fuel : Nat} {listed : Array Bool} {a a' : Act} {w : World} (i : Nat) (oi : Oper) (h : wpAnyH P md ops Q S fuel (listed.setIfInBounds i true) a' w) (hi : ops[i]? = some oi := by exact rfl) (hs : Region.noSelect ops = true := by kernel_rfl) (hf : Region.free md ops listed i = true := by kernel_rfl) (hr : (Region.ready md ops listed).contains i = true := by kernel_rfl) (hQ : ∀ c a w, Q (.panic c) (a.put oi.dst v) w → Q (.panic c) a w := by exact (fun _ _ _ h => h)) (hy : YieldsIf P ops S oi v a := by exact Or.inl ⟨by rfl, by intro w hSw; (try dsimp only at hSw); go_simp; try with_reducible rfl⟩) (hS : S w := by assumption) (ha : a.put oi.dst v = a' := by (simp only [Act.put, List.setIfInBounds_toArray, List.set_cons_zero, List.set_cons_succ]; rfl)) : wpAnyH P md ops Q S (fuel + 1) listed a w :=
 wpAnyH_take hi hs hf hr hQ hy hS (ha ▸ h)
theorem sH {P : Program} {ops : Array Oper} {Q : Exit → Act → World → Prop} {md : Region.Mode} {S : World → Prop} {fuel : Nat} {listed : Array Bool} {a a' : Act} {w : World} (i : Nat) (oi : Oper) (h : wpAnyH P md ops Q S fuel (listed.setIfInBounds i true) a' w) (hi : ops[i]? = some oi := by exact rfl) (hs : Region.noSelect ops = true := by kernel_rfl) (hf : Region.free md ops listed i = true := by kernel_rfl) (hr : (Region.ready md ops listed).contains i = true := by kernel_rfl) (hQ : ∀ c a w, Q (.panic c) (a.put oi.dst undef) w → Q (.panic c) a w := by exact (fun _ _ _ h => h)) (hy : YieldsIf P ops S oi undef a := by exact Or.inr ⟨by rfl, rfl⟩) (hS : S w := by assumption) (ha : a.put oi.dst undef = a' := by (simp only [Act.put, List.setIfInBounds_toArray, List.set_cons_zero, List.set_cons_succ]; rfl)) : wpAnyH P md ops Q S (fuel + 1) listed a w :=
 wpAnyH_take hi hs hf hr hQ hy hS (ha ▸ h)
end Go.Proofs.Ytijfkjfljpdghaa.FB
