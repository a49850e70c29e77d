/- Texts packed into one: Aj Ak Al. No condition. -/
import Derived.Test.YtijfkjfljpdghaaAg
import Derived.ChangeKeysEq
section
/- Contracts of package acc: Copy, Turn. -/
namespace Go.Proofs.Ytijfkjfljpdghaa
open Go.RowKit Go.Proofs.YtijfkjfljpdghaaW.PrintWords Tn

theorem info70 : (Try.prog.info? 61).map (·.size) = some 70 := by kernel_rfl
theorem cells_one (f : Nat → Nat) (u d : Bool) : ∀ q ∈ (cellsF f u d).toList, q.oneCell' = true := by
 (intro q hq);(unfold cellsF at hq)
 rcases List.mem_append.1 hq with hq | hq
 ·obtain ⟨j, _, rfl⟩ := List.mem_map.1 hq
  rfl
 ·simp only [List.mem_cons, List.not_mem_nil, or_false] at hq
  rcases hq with rfl | rfl <;> rfl
theorem zero_acc (w : World) : (zeroValue 61).run Try.prog w = .ok (.agg (cellsF (fun _ => 0) false false)) w := by kernel_rfl

set_option maxRecDepth 100000 in
set_option maxHeartbeats 400000 in
theorem copy_any (b : Nat) (Z : Int) (u d : Bool) (w : World) (h : accZ w b Z u d) :
  Calls Try.prog 21 #[.pointer (some ⟨b, 0, none⟩)] w fun e w' => e = .returned (.pointer (some ⟨w.heap.size, 0, none⟩)) ∧ Aside0 (Below w.heap.size w w') ∧ Aside0 (accZ w' w.heap.size Z u d) := by
 (obtain ⟨cs, hcs⟩ : ∃ cs, cellsF (wd (modB Z)) u d = cs := ⟨_, rfl⟩);(have HH : Aside0 (w.heap[b]? = some (.cells cs 61 (0, 0))) := ⟨by rw [← hcs]; exact h⟩);(have HS : RowKit.Hid (cs.size = 70) := by rw [← hcs]; exact cellsF_size _ _ _);(have HC := Lib.hid hcs);(have HI := Lib.hid info70);(obtain ⟨zs, hzs⟩ : ∃ zs, cellsF (fun _ => 0) false false = zs := ⟨_, rfl⟩);(have hz0 := zero_acc);(rw [hzs] at hz0);(have HSZ : RowKit.Hid (zs.size = 70) := by rw [← hzs]; exact cellsF_size _ _ _);(clear h hcs hzs);(go_enter Try.func21, Try.ntmps21);(have HH2 : Aside0 ((w.alloc (.cells zs 61)).heap[w.heap.size]? = some (.cells zs 61 (0, 0))) := ⟨heap_alloc_new w _⟩);(have HB2 := Aside0.mk (below_alloc (Below.refl w.heap.size w) (.cells zs 61)));(have HO : RowKit.Hid (∀ q ∈ cs.toList, q.oneCell' = true) := by rw [← HC.out]; exact cells_one _ _ _)
 go_wp2_with (first | (refine wpList_load_row rfl 61 (.tmp 5) rfl b rfl 61 cs (0, 0) _ HH.out Try.underlying61 rfl (by rw [HS.out]; exact HI.out) ?_) | (refine wpList_store_row rfl rfl 61 (.tmp 3) (.tmp 6) rfl w.heap.size rfl cs zs 61 rfl HH2.out (by rw [HSZ.out, HS.out]) (by rw [HS.out]; exact HI.out) HO.out ?_; intro w1 HG1 HG2))
 (go_ret);(exact ⟨rfl, ⟨HB2.out.grown HG1.out HB2.out.size (fun k hk => by injection hk with hk; omega)⟩, ⟨by show w1.heap[w.heap.size]? = _; rw [HG2.out, HC.out]⟩⟩)

theorem wpList_store_part {P : Program} {ops : Array Oper} {rest : List Oper} {o : Oper} {a : Act} {Q : Exit → Act → World → Prop} {W : World} (hN : o.dst = none) (hgd : o.guard = none) (t : TypeId) (p x : Operand) (ho : o.op = .store t p x) (g : Nat) (haddr : a.eval p = .pointer (some ⟨g, 0, none⟩)) (cs cur : Array Value) (e : TypeId)
  (hx : a.eval x = .agg cs) (hh : W.heap[g]? = some (.cells cur e (0, 0))) (hs : cs.size ≤ cur.size) (ht : (P.info? t).map (·.size) = some cs.size) (h1 : ∀ q ∈ cs.toList, q.oneCell' = true) (cn : Array Value) (hcn : cn.toList = cs.toList ++ cur.toList.drop cs.size)
  (h : ∀ w1, Aside0 (W.grownBy w1 (some g)) → Aside0 (w1.heap[g]? = some (.cells cn e (0, 0))) → wpList P ops Q rest a w1) : wpList P ops Q (o :: rest) a W := by
 (have hrun := run_store_run (P := P) (o := 0) t (.agg cs) cs.toList hh rfl (by simpa using ht) (by simpa using hs) h1);(obtain ⟨cur', h3, h4, h5⟩ := setCells_row cs.toList 0 W cur hh (by simpa using hs));(obtain ⟨s1, s2, s3, s4⟩ := setCells_same g cs.toList 0 W)
 have hc : cur' = cn := by
  apply Array.toList_inj.1
  rw [h5, hcn, List.take_zero, List.nil_append, Nat.zero_add, Array.length_toList]
 (rw [hc] at h3);(refine wpList_plain hgd fun K hK => ?_);(unfold Oper.wp execOp);(simp only [ho, haddr, hx, Sem.run_bind, Sem.run_pure, Result.andThen_ok, hrun])
 show K (a.put o.dst undef) _
 (rw [hN]);(exact hK a _ (h _ ⟨⟨s1, s2, s3, by rw [s4]; exact Nat.le_refl _, fun k _ hk => setCells_far _ _ k (fun he => hk (by rw [he]))⟩⟩ ⟨h3⟩))
theorem cells_part (f g : Nat → Nat) (u d : Bool) : (cellsF g u d).toList = (rowF g).toList ++ (cellsF f u d).toList.drop (rowF g).size := by
 (rw [rowF_size]);(unfold cellsF rowF);(simp only [List.toList_toArray]);(rw [List.drop_left' (by simp)])
theorem modB_turn (Z : Int) : (0 + B 68 - modB Z) % B 68 = modB (-Z) := by
 (have h := modB_sub 0 (modB Z) (Nat.le_of_lt (modB_lt Z)));(rw [modB_zero] at h);(rw [h])
 have h1 : ((modB (0 - (modB Z : Int)) : Nat) : Int) = ((modB (-Z) : Nat) : Int) := by
  rw [modB_cast, modB_cast, modB_cast, Int.sub_emod 0 (Z % _), Int.emod_emod_of_dvd _ (Int.dvd_refl _), ← Int.sub_emod, Int.zero_sub]
 exact Int.ofNat.inj h1

set_option maxRecDepth 100000 in
set_option maxHeartbeats 400000 in
theorem turn_any (b : Nat) (Z : Int) (u d : Bool) (w : World) (h : accZ w b Z u d) :
  Calls Try.prog 26 #[.pointer (some ⟨b, 0, none⟩)] w fun e w' => e = .returned (.tuple #[]) ∧ Aside0 (w.grownBy w' (some b)) ∧ Aside0 (accZ w' b (-Z) d u) := by
 (obtain ⟨N, hN⟩ : ∃ N, modB Z = N := ⟨_, rfl⟩);(have hT := turned_any N w (by rw [← hN]; exact Nat.le_of_lt (modB_lt Z)));(obtain ⟨M, hM⟩ : ∃ M, (0 + B 68 - N) % B 68 = M := ⟨_, rfl⟩);(rw [hM] at hT);(have HT := Aside0.mk hT);(have HM := Lib.hid (show M = modB (-Z) by rw [← hM, ← hN]; exact modB_turn Z));(have HA : Aside0 (acc w b N u d) := ⟨by rw [← hN]; exact h⟩);(have HI := Lib.hid info68);(have HLT := Lib.hid (show b < w.heap.size from (Array.getElem?_eq_some_iff.1 (show w.heap[b]? = some _ from HA.out)).1));(clear h hN hM hT);(go_enter Try.func26, Try.ntmps26)
 go_upto_region 1 with (first
  | (refine wpList_load_part rfl 59 (.tmp 5) rfl b rfl 61 (cellsF (wd N) u d) (rowF (wd N)) _ HA.out (part_row _ _ _) Try.underlying59 rfl (by rw [rowF_size]; exact HI.out) ?_)
  | (go_at_call 42; refine HT.out.mono ?_; rintro e w' ⟨rfl, hb⟩; have HX := Aside0.mk ((hb.out.block b HLT.out).trans HA.out); have HG0 := Aside0.mk hb.out; clear hb)
  | (refine wpList_store_part rfl rfl 59 (.tmp 9) (.tmp 7) rfl b rfl (rowF (wd M)) (cellsF (wd N) u d) 61 rfl HX.out (by rw [rowF_size, cellsF_size]; decide) (by rw [rowF_size]; exact HI.out) (row_one _) (cellsF (wd M) u d) (cells_part _ _ _ _) ?_; intro w1 HG1 HG2))
 (have HGA : Aside0 (w.grownBy w1.drew (some b)) := ⟨⟨HG1.out.os.trans HG0.out.os, HG1.out.tape.trans HG0.out.tape, HG1.out.output.trans HG0.out.output, Nat.le_trans HG0.out.size HG1.out.size, fun k hk hne => (HG1.out.block k (Nat.lt_of_lt_of_le hk HG0.out.size) hne).trans (HG0.out.block k hk)⟩⟩);(have hac : accF w1.drew b (wd M) u d := HG2.out);(have h68 := accF.up hac);(have h69 := accF.down hac);(have f68 := accF.free hac 68);(have f69 := accF.free hac 69);(have g68 : w1.cell? ⟨b, 68, none⟩ = some (.bool u) := h68);(have g69 : w1.cell? ⟨b, 69, none⟩ = some (.bool d) := h69);(have k68 : w1.frozen? ⟨b, 68, none⟩ = false := f68);(have k69 : w1.frozen? ⟨b, 69, none⟩ = false := f69);(have HAC := Aside0.mk hac);(clear hac HG1 HG2 HX HG0);(go_region);(have HU := Aside0.mk ((accF.setUp HAC.out d).setDown u));(have HV := Aside0.mk (HGA.out.trans ((grown_set w1.drew b 68 (.bool d)).trans (grown_set _ b 69 (.bool u)))));(go_end0);(exact ⟨rfl, ⟨HV.out⟩, ⟨by have h9 := HU.out; rw [HM.out] at h9; exact h9⟩⟩)

set_option maxRecDepth 100000 in
set_option maxHeartbeats 400000 in
theorem merge_any (ba bb : Nat) (hne : bb ≠ ba) (Z Y : Int) (u d p q : Bool) (w : World) (h : accZ w ba Z u d) (h2 : accZ w bb Y p q) :
  Calls Try.prog 22 #[.pointer (some ⟨ba, 0, none⟩), .pointer (some ⟨bb, 0, none⟩)] w fun e w' => e = .returned (.tuple #[]) ∧ Aside0 (w.grownBy w' (some ba)) ∧ Aside0 (accZ w' ba (Z + Y) (u || p) (d || q)) := by
 (obtain ⟨N, hN⟩ : ∃ N, modB Z = N := ⟨_, rfl⟩);(obtain ⟨V, hV⟩ : ∃ V, modB Y = V := ⟨_, rfl⟩);(have HVB : RowKit.Hid (V ≤ B 68) := by rw [← hV]; exact Nat.le_of_lt (modB_lt Y))
 have HM := Lib.hid (show (N + V) % B 68 = modB (Z + Y) by
  rw [← hN, ← hV]
  apply Int.ofNat.inj
  show (((modB Z + modB Y) % B 68 : Nat) : Int) = ((modB (Z + Y) : Nat) : Int)
  rw [Int.natCast_emod, Int.natCast_add, modB_cast, modB_cast, modB_cast, Int.emod_add_emod, Int.add_emod_emod])
 (have HA : Aside0 (accF w ba (wd N) u d) := ⟨by rw [← hN]; exact h⟩);(have HE : Aside0 (accF w bb (wd V) p q) := ⟨by rw [← hV]; exact h2⟩);(have HI := Lib.hid info68);(have HLB := Lib.hid (show bb < w.heap.size from (Array.getElem?_eq_some_iff.1 (show w.heap[bb]? = some _ from HE.out)).1));(obtain ⟨vs, hvs⟩ : ∃ vs, rowF (wd V) = vs := ⟨_, rfl⟩);(have HVS := Lib.hid hvs);(have HSV : RowKit.Hid (vs.size = 68) := by rw [← hvs]; exact rowF_size _);(have HPR : RowKit.Hid (∀ (j : Nat) (v : Value), vs[j]? = some v → (cellsF (wd V) p q)[j]? = some v) := by rw [← hvs]; exact part_row _ _ _);(have HNE := Lib.hid hne);(have HC0 : RowKit.Hid (0 = carry N V 0) := (carry_zero N V).symm);(clear h h2 hN hV hvs hne);(go_enter Try.func22, Try.ntmps22)
 go_wp2_with (refine wpList_load_part rfl 59 (.tmp 11) rfl bb rfl 61 (cellsF (wd V) p q) vs _ HE.out HPR.out Try.underlying59 rfl (by rw [HSV.out]; exact HI.out) ?_)
 go_loopw [4, 13] (fun c i wr => ∃ j cc : Nat, j ≤ 68 ∧ i = .int .i64 j ∧ c = .int .u64 cc ∧ cc ≤ 1 ∧ RowKit.Hid (cc = carry N V j) ∧ Aside0 (w.grownBy wr (some ba)) ∧ Aside0 (accF wr ba (mixW N (N + V) j) u d)) (fun _ i _ => 68 - (intOf i).toNat)
 case atStart =>
  exact ⟨0, 0, by omega, rfl, rfl, by omega, HC0, ⟨World.grownBy.refl _ _⟩, ⟨mix_start HA.out (fun i hi => absurd hi (by omega))⟩⟩
 case round =>
  obtain ⟨j, cc, hj1, rfl, rfl, hc1, HC, HG, HA2⟩ := hrel
  by_cases hlt : j < 68
  ·have hcell := HA2.out.word j hlt
   (rw [mixW_at] at hcell);(have hfree := HA2.out.free j);(have hidx := fun w' => index_row (wd V) j hlt w');(rw [HVS.out] at hidx);(have HW := Lib.hid (put_word_false (N := N) (V := V) hlt HVB.out HC.out));(have HK := Lib.hid (put_carry_false (N := N) (V := V) (j := j) HC.out));(have ha := fun w' => add64_run (wd N j) (wd V j) cc hc1 w');(obtain ⟨ww, hww⟩ : ∃ x, (wd N j + wd V j + cc) % 18446744073709551616 = x := ⟨_, rfl⟩);(obtain ⟨kk, hkk⟩ : ∃ x, (wd N j + wd V j + cc) / 18446744073709551616 = x := ⟨_, rfl⟩);(rw [hww, hkk] at ha);(rw [hww] at HW; rw [hkk] at HK);(clear hww hkk);(generalize wd N j = nn at *);(generalize wd V j = vv at *);(clear HC);(go_wp2);(go_region);(go_wp2);(go_roundw)
   case rel => exact ⟨j + 1, kk, by omega, by go_num, rfl, by rw [HK.out]; exact carry_le N V _, HK, ⟨HG.out.trans ((grown_set _ ba j _).trans (grown_drew _ _))⟩, ⟨mix_next HA2.out hlt HW.out⟩⟩
   case measure => simp [intOf]; omega
  ·obtain rfl : j = 68 := by omega
   (have HEA : Aside0 (acc wr ba ((N + V) % B 68) u d) := ⟨mix_end HA2.out⟩);(have HEB : Aside0 (accF wr bb (wd V) p q) := ⟨(HG.out.block bb HLB.out (fun hh => HNE.out (by injection hh))).trans HE.out⟩);(clear HA2 HC HC0);(generalize (N + V) % B 68 = S at *);(have a68 := accF.up HEA.out);(have a69 := accF.down HEA.out);(have f68 := accF.free HEA.out 68);(have f69 := accF.free HEA.out 69);(have b68 := accF.up HEB.out);(have b69 := accF.down HEB.out);(have c68 : wr.drew.cell? ⟨ba, 68, none⟩ = some (.bool u) := a68);(have c69 : wr.drew.cell? ⟨ba, 69, none⟩ = some (.bool d) := a69);(have d68 : wr.drew.cell? ⟨bb, 68, none⟩ = some (.bool p) := b68);(have d69 : wr.drew.cell? ⟨bb, 69, none⟩ = some (.bool q) := b69);(have g68 : wr.drew.frozen? ⟨ba, 68, none⟩ = false := f68);(have g69 : wr.drew.frozen? ⟨ba, 69, none⟩ = false := f69);(have HU := Aside0.mk ((accF.setUp (show accF wr.drew ba (wd S) u d from HEA.out) (u || p)).setDown (d || q)));(have HV := Aside0.mk (HG.out.trans ((grown_drew wr _).trans ((grown_set wr.drew ba 68 (.bool (u || p))).trans (grown_set _ ba 69 (.bool (d || q)))))))
   cases u <;> cases d
   all_goals
    (go_wp2);(go_region);(go_end0);(exact ⟨rfl, ⟨HV.out⟩, ⟨by have h9 := HU.out; rw [HM.out] at h9; exact h9⟩⟩)

def eqW (N M : Nat) : List Nat → Bool
 | [] => true
 | i :: l => decide (wd N i = wd M i) && eqW N M l
theorem eqW_iff {N M : Nat} : ∀ l : List Nat, eqW N M l = true ↔ ∀ i ∈ l, wd N i = wd M i
 | [] => by simp [eqW]
 | i :: l => by simp [eqW, eqW_iff l]
theorem mod_words {N M : Nat} : ∀ n, (∀ i, i < n → wd N i = wd M i) → N % B n = M % B n
 | 0, _ => by rw [B_zero, Nat.mod_one, Nat.mod_one]
 | n + 1, h => by
  (have h1 := mod_words n (fun i hi => h i (by omega)));(have h2 := h n (by omega));(unfold wd at h2);(rw [B_succ, Nat.mod_mul, Nat.mod_mul, h1, h2])
theorem eqW_all {N M : Nat} (hN : N < B 68) (hM : M < B 68) : eqW N M (List.range 68) = decide (N = M) := by
 rw [Bool.eq_iff_iff, decide_eq_true_iff, eqW_iff]
 constructor
 ·intro h
  have := mod_words 68 (fun i hi => h i (List.mem_range.2 hi))
  rwa [Nat.mod_eq_of_lt hN, Nat.mod_eq_of_lt hM] at this
 ·rintro rfl i _; rfl
theorem part_word (f : Nat → Nat) (j : Nat) (hj : j < 68) (w : World) : (part 39 (rowF f) (j * 1)).run Try.prog w = .ok (.int .u64 ((f j : Nat) : Int)) w := by
 (have h1 := rowF_word f j hj);(have hi : (Try.prog.info? 39).map (·.size) = some 1 := by kernel_rfl);(obtain ⟨i, hi1, hi2⟩ := Option.map_eq_some_iff.1 hi);(rw [Nat.mul_one]);(simp [sizeOf, typeInfo, hi1, hi2, part, Sem.run_bind, h1])
theorem eq_word (d : Nat) (a b : Nat) (w : World) : (Op.equalIn (d + 1) 39 (.int .u64 (a : Int)) (.int .u64 (b : Int))).run Try.prog w = .ok (decide (a = b)) w := by
 (have hu : (underlying 39).run Try.prog w = .ok _ w := run_underlying Try.underlying39 w);(simp only [Op.equalIn, Sem.run_bind, hu, Result.andThen_ok]);(simp);(rw [Bool.eq_iff_iff]; simp);(omega)
theorem eq_items (d : Nat) (N M : Nat) (w : World) : ∀ l : List Nat, (∀ i ∈ l, i < 68) → (Op.eqItems (d + 1) 39 1 (rowF (wd N)) (rowF (wd M)) l).run Try.prog w = .ok (eqW N M l) w
 | [], _ => by simp [Op.eqItems, eqW]
 | i :: l, h => by
  (have h1 := part_word (wd N) i (h i (List.mem_cons_self ..)) w);(have h2 := part_word (wd M) i (h i (List.mem_cons_self ..)) w);(have h3 := eq_word d (wd N i) (wd M i) w);(have h4 := eq_items d N M w l (fun j hj => h j (List.mem_cons_of_mem _ hj)));(simp only [Op.eqItems, Sem.run_bind, h1, h2, h3, Result.andThen_ok, eqW])
  cases decide (wd N i = wd M i)
  ·simp
  ·simpa using h4
theorem row_eq0 (d N M : Nat) (hN : N < B 68) (hM : M < B 68) (w : World) : (Op.equalIn (d + 1 + 1) 59 (.agg (rowF (wd N))) (.agg (rowF (wd M)))).run Try.prog w = .ok (decide (N = M)) w := by
 (have hi : (Try.prog.info? 39).isSome = true := by kernel_rfl);(obtain ⟨i, hi⟩ := Option.isSome_iff_exists.1 hi);(have hc : Try.prog.cellsOf 39 = 1 := by kernel_rfl);(rw [run_equalIn_array w (d + 1) (rowF (wd N)) (rowF (wd M)) Try.underlying59 hi, hc, eq_items d N M w _ (fun i hi => List.mem_range.1 hi), eqW_all hN hM])
theorem row_eq (N M : Nat) (hN : N < B 68) (hM : M < B 68) (w : World) : (Op.equalIn 10000 59 (.agg (rowF (wd N))) (.agg (rowF (wd M)))).run Try.prog w = .ok (decide (N = M)) w := row_eq0 9998 N M hN hM w

end Go.Proofs.Ytijfkjfljpdghaa
end

section
/- Contracts of package acc: Same (sums of numbers). -/
namespace Go.Proofs.Ytijfkjfljpdghaa
open Go.RowKit Go.Proofs.YtijfkjfljpdghaaW.PrintWords Tn

theorem load_sum {b : Nat} {f : Nat → Nat} {u d : Bool} {w : World} (h : accF w b f u d) : (loadVar 59 ⟨b, 0, none⟩).run Try.prog w = .ok (.agg (rowF f)) w := by
 have hl : (loadCells ⟨b, 0, none⟩ (rowF f).toList.length).run Try.prog w = .ok (rowF f).toList.toArray w :=
  run_loadCells_list (P := Try.prog) (w := w) ⟨b, 0, none⟩ (rowF f).toList (fun j v hv => by
   rw [add_plain, cell_of_row w b j _ _ (0, 0) h]
   exact part_row _ _ _ j v (by simpa using hv))
 obtain ⟨i, hi1, hi2⟩ := Option.map_eq_some_iff.1 info68
 have hagg : (isAgg 59).run Try.prog w = .ok true w := by
  (unfold isAgg);(rw [Sem.run_bind, run_underlying Try.underlying59 w]);(rfl)
 (rw [Array.length_toList, rowF_size, Array.toArray_toList] at hl);(simp [loadVar, Sem.run_bind, hagg, sizeOf, typeInfo, hi1, hi2, hl])

theorem quiet_load {P : Program} {C : World → Prop} {a : Act} {o : Oper} {K : Act → Prop} (ty : TypeId) (x : Operand) (ad : Addr) (v : Value) (ho : o.op = .load ty x) (hx : a.eval x = .pointer (some ad)) (hl : ∀ w, C w → (loadVar ty ad).run P w = .ok v w) (hk : K (a.put o.dst v)) : o.quiet P a C K := by
 (refine ⟨v, fun w hC => ?_, hk⟩);(unfold Oper.quietAt);(have h := hl w hC);(simp only [execOp, ho, hx, Instr.loadAt, Instr.sureAddr, Sem.run_bind, Sem.run_pure, Result.andThen_ok, h]);(exact ⟨rfl, rfl⟩)

set_option maxRecDepth 100000 in
set_option maxHeartbeats 400000 in
theorem same_fin (ba bb : Nat) (Z Y : Int) (w : World) (h : accZ w ba Z false false) (h2 : accZ w bb Y false false) :
  Calls Try.prog 23 #[.pointer (some ⟨ba, 0, none⟩), .pointer (some ⟨bb, 0, none⟩)] w fun e w' => e = .returned (.bool (decide (modB Z = modB Y))) ∧ Aside0 (Below w.heap.size w w') := by
 (have a68 := accF.up h);(have a69 := accF.down h);(have b68 := accF.up h2);(have b69 := accF.down h2);(have HE := Aside0.mk (row_eq (modB Z) (modB Y) (modB_lt Z) (modB_lt Y)));(have HA := Aside0.mk (show acc w ba (modB Z) false false from h));(have HB := Aside0.mk (show acc w bb (modB Y) false false from h2));(clear h h2);(go_enter Try.func23, Try.ntmps23);(go_wp2)
 go_quiet (fail)
 go_wp2
 rename_i nq K0 hK0
 (have HW : Aside0 (Below w.heap.size w (w.drewN nq)) := ⟨pw_below_drewN (Below.refl _ _) _⟩);(have HA1 : Aside0 (acc (w.drewN nq) ba (modB Z) false false) := ⟨HA.out⟩);(have HB1 : Aside0 (acc (w.drewN nq) bb (modB Y) false false) := ⟨HB.out⟩);(clear HA HB a68 a69 b68 b69);(generalize w.drewN nq = w1 at *);(have a68 := accF.up HA1.out);(have a69 := accF.down HA1.out);(have b68 := accF.up HB1.out);(have b69 := accF.down HB1.out);(have hl1 := fun m => load_sum (show accF (w1.drewN m) ba _ _ _ from HA1.out));(have hl2 := fun m => load_sum (show accF (w1.drewN m) bb _ _ _ from HB1.out));(refine wp_region_quiet_lit (by kernel_rfl) (by kernel_rfl) ?_)
 iterate 14 (quiet_step (fail))
 refine BigFrame.wpQuiet_want (by rfl) (fun K hK => quiet_load 59 (.tmp 42) ⟨ba, 0, none⟩ (.agg (rowF (wd (modB Z)))) rfl rfl (fun w2 hC => ?_) (hK _ ?_))
 ·obtain ⟨n, rfl⟩ := hC
  exact hl1 n
 (clear hK K);(simp only [Act.put, List.setIfInBounds_toArray, List.set_cons_zero, List.set_cons_succ])
 iterate 3 (quiet_step (fail))
 refine BigFrame.wpQuiet_want (by rfl) (fun K hK => quiet_load 59 (.tmp 46) ⟨bb, 0, none⟩ (.agg (rowF (wd (modB Y)))) rfl rfl (fun w2 hC => ?_) (hK _ ?_))
 ·obtain ⟨n, rfl⟩ := hC
  exact hl2 n
 (clear hK K);(simp only [Act.put, List.setIfInBounds_toArray, List.set_cons_zero, List.set_cons_succ]);(have he := HE.out);(obtain ⟨R, hR⟩ : ∃ R, decide (modB Z = modB Y) = R := ⟨_, rfl⟩);(rw [hR] at he);(have HR := Lib.hid hR);(clear hR HE);(generalize rowF (wd (modB Z)) = x at *);(generalize rowF (wd (modB Y)) = y at *);(clear hl1 hl2)
 iterate 3 (quiet_step (fail))
 (refine wpQuiet_nil ?_);(intro _ hw');(obtain ⟨nq2, hw''⟩ := hw');(subst hw'');(go_wp2);(go_ret);(exact ⟨by rw [HR.out]; rfl, ⟨pw_below_drewN HW.out _⟩⟩)
def signZ (Z : Int) : Int := if Z < 0 then -1 else if Z = 0 then 0 else 1
theorem modB_none {Z : Int} (h : Z.natAbs < B 67) : decide (modB Z = 0) = decide (Z = 0) := by
 rw [Bool.eq_iff_iff, decide_eq_true_iff, decide_eq_true_iff]
 constructor
 ·intro h0
  by_cases c : 0 ≤ Z
  ·rw [modB_posi h c] at h0; omega
  ·have h1 := modB_neg h (by omega)
   (rw [h0, Nat.zero_add, Nat.sub_zero, Nat.mod_self] at h1);(omega)
 ·rintro rfl; exact modB_zero
theorem row_none : rowF (wd 0) = rowF (fun _ => 0) := rowF_congr fun i _ => by unfold wd; simp

set_option maxRecDepth 100000 in
set_option maxHeartbeats 400000 in
theorem sign_fin (b : Nat) (Z : Int) (w : World) (hZ : Z.natAbs < B 67) (h : accZ w b Z false false) :
  Calls Try.prog 15 #[.pointer (some ⟨b, 0, none⟩)] w fun e w' => e = .returned (.int .i64 (signZ Z)) ∧ w = w' := by
 (have a68 := accF.up h);(have a69 := accF.down h);(have HA := Aside0.mk (show acc w b (modB Z) false false from h));(have HB := Lib.hid (below_sign hZ));(have HI := Lib.hid info68);(have he := fun w' => row_eq (modB Z) 0 (modB_lt Z) (B_pos 68) w');(rw [modB_none hZ, row_none] at he);(have hz0 := zero_row);(obtain ⟨x, hx⟩ : ∃ x, rowF (wd (modB Z)) = x := ⟨_, rfl⟩);(obtain ⟨y, hy⟩ : ∃ y, rowF (fun _ => 0) = y := ⟨_, rfl⟩);(have HSX : RowKit.Hid (x.size = 68) := by rw [← hx]; exact rowF_size _);(have HPR : RowKit.Hid (∀ (j : Nat) (v : Value), x[j]? = some v → (cellsF (wd (modB Z)) false false)[j]? = some v) := by rw [← hx]; exact part_row _ _ _);(rw [hx, hy] at he);(rw [hy] at hz0);(clear h hZ hx hy)
 rcases Int.lt_trichotomy Z 0 with hs | hs | hs
 ·have b0 : decide (Z < 0) = true := decide_eq_true (by omega)
  (have HR := Lib.hid (show signZ Z = -1 from by unfold signZ; rw [if_pos (by omega)]));(rw [b0] at HB);(clear hs b0);(go_enter Try.func15, Try.ntmps15)
  go_wp2_with (first | (refine wpList_load_part rfl 59 (.tmp 31) rfl b rfl 61 (cellsF (wd (modB Z)) false false) x _ HA.out HPR.out Try.underlying59 rfl (by rw [HSX.out]; exact HI.out) ?_) | (go_at_call 27; refine (below_any b (modB Z) false false _ HA.out).mono ?_; rintro e w' ⟨rfl, rfl⟩; rw [HB.out]))
  (go_ret);(exact ⟨ret_i HR.out.symm, rfl⟩)
 ·have b0 : decide (Z < 0) = false := decide_eq_false (by omega)
  (have b1 : decide (Z = 0) = true := decide_eq_true (by omega));(have HR := Lib.hid (show signZ Z = 0 from by unfold signZ; rw [if_neg (by omega), if_pos (by omega)]));(rw [b0] at HB);(rw [b1] at he);(clear hs b0 b1);(go_enter Try.func15, Try.ntmps15)
  go_wp2_with (first | (refine wpList_load_part rfl 59 (.tmp 31) rfl b rfl 61 (cellsF (wd (modB Z)) false false) x _ HA.out HPR.out Try.underlying59 rfl (by rw [HSX.out]; exact HI.out) ?_) | (go_at_call 27; refine (below_any b (modB Z) false false _ HA.out).mono ?_; rintro e w' ⟨rfl, rfl⟩; rw [HB.out]))
  (go_ret);(exact ⟨ret_i HR.out.symm, rfl⟩)
 ·have b0 : decide (Z < 0) = false := decide_eq_false (by omega)
  (have b1 : decide (Z = 0) = false := decide_eq_false (by omega));(have HR := Lib.hid (show signZ Z = 1 from by unfold signZ; rw [if_neg (by omega), if_neg (by omega)]));(rw [b0] at HB);(rw [b1] at he);(clear hs b0 b1);(go_enter Try.func15, Try.ntmps15)
  go_wp2_with (first | (refine wpList_load_part rfl 59 (.tmp 31) rfl b rfl 61 (cellsF (wd (modB Z)) false false) x _ HA.out HPR.out Try.underlying59 rfl (by rw [HSX.out]; exact HI.out) ?_) | (go_at_call 27; refine (below_any b (modB Z) false false _ HA.out).mono ?_; rintro e w' ⟨rfl, rfl⟩; rw [HB.out]))
  (go_ret);(exact ⟨ret_i HR.out.symm, rfl⟩)

end Go.Proofs.Ytijfkjfljpdghaa
end

section
/- Contracts of package price: Nothing, Turned, Plus. -/
namespace Go.Proofs.Ytijfkjfljpdghaa
open Go.RowKit Go.Proofs.YtijfkjfljpdghaaW.PrintWords Tn

structure worth (w : World) (g b : Nat) (Z : Int) : Prop where
 p : w.heap[g]? = some (.cells #[.pointer (some ⟨b, 0, none⟩)] 44 (0, 0))
 a : accZ w b Z false false
theorem worth.cell {w : World} {g b : Nat} {Z : Int} (h : worth w g b Z) : w.cell? ⟨g, 0, none⟩ = some (.pointer (some ⟨b, 0, none⟩)) := (blk_cell h.p 0).trans rfl
theorem worth.lt {w : World} {g b : Nat} {Z : Int} (h : worth w g b Z) : g < w.heap.size ∧ b < w.heap.size := ⟨(Array.getElem?_eq_some_iff.1 h.p).1, (Array.getElem?_eq_some_iff.1 (show w.heap[b]? = some _ from h.a)).1⟩
theorem worth.ne {w : World} {g b : Nat} {Z : Int} (h : worth w g b Z) : g ≠ b := by
 (rintro rfl);(have h1 : w.heap[g]? = some (.cells (cellsF (wd (modB Z)) false false) 61 (0, 0)) := h.a);(rw [h.p] at h1);(have h2 := Option.some.inj h1)
 injection h2 with _ h3 _
 exact absurd h3 (by decide)
theorem worth.below {w w' : World} {g b : Nat} {Z : Int} (h : worth w g b Z) (hb : Below w.heap.size w w') : worth w' g b Z := by
 (obtain ⟨h1, h2⟩ := h.lt);(exact ⟨(hb.block g h1).trans h.p, (hb.block b h2).trans h.a⟩)
theorem acc_new2 (W : World) : accZ (W.alloc (.cells (cellsF (fun _ => 0) false false) 61)) W.heap.size 0 false false := by
 (have h := heap_alloc_new W (.cells (cellsF (fun _ => 0) false false) 61));(have e : cellsF (wd (modB 0)) false false = cellsF (fun _ => 0) false false := cellsF_congr _ _ (fun i _ => by simp [wd, modB]));(unfold accZ acc accF);(rw [e]; exact h)
theorem worth_alloc {W : World} {b : Nat} {Z : Int} (h : accZ W b Z false false) : worth (W.alloc (.cells #[.pointer (some ⟨b, 0, none⟩)] 44)) W.heap.size b Z :=
 ⟨heap_alloc_new W _, (blk_alloc h _ : _)⟩

set_option maxRecDepth 100000 in
set_option maxHeartbeats 400000 in
theorem nothing_any (w : World) :
  Calls Try.prog 16 #[] w fun e w' => e = .returned (.pointer (some ⟨w.heap.size + 1, 0, none⟩)) ∧ Aside0 (Below w.heap.size w w') ∧ Aside0 (worth w' (w.heap.size + 1) w.heap.size 0) := by
 (have HA := Aside0.mk (acc_new2 w));(have HB := Aside0.mk (below_alloc (Below.refl w.heap.size w) (.cells (cellsF (fun _ => 0) false false) 61)));(have HS : RowKit.Hid ((w.alloc (.cells (cellsF (fun _ => 0) false false) 61)).heap.size = w.heap.size + 1) := by unfold World.alloc; exact Array.size_push _);(go_enter Try.func16, Try.ntmps16)
 go_wp2_with (go_at_call 28; refine (new_any _).mono ?_; rintro e w' ⟨rfl, rfl⟩; have HS' := HS.out; generalize w.alloc (.cells (cellsF (fun _ => 0) false false) 61) = W1 at *)
 (go_ret);(have h1 := worth_alloc HA.out);(rw [HS.out] at h1);(exact ⟨rfl, ⟨below_alloc HB.out _⟩, ⟨h1⟩⟩)

set_option maxRecDepth 100000 in
set_option maxHeartbeats 400000 in
theorem turned_worth (g b : Nat) (Z : Int) (w : World) (h : worth w g b Z) :
  Calls Try.prog 14 #[.pointer (some ⟨g, 0, none⟩)] w fun e w' => ∃ g2 b2 : Nat, e = .returned (.pointer (some ⟨g2, 0, none⟩)) ∧ w.heap.size ≤ g2 ∧ w.heap.size ≤ b2 ∧ Aside0 (Below w.heap.size w w') ∧ Aside0 (worth w' g2 b2 (-Z)) := by
 (have hc := h.cell);(have HW := Aside0.mk h);(clear h);(go_enter Try.func14, Try.ntmps14)
 go_upto_region 2 with (go_at_call 21; refine (copy_any b Z false false _ HW.out.a).mono ?_; rintro e w1 ⟨rfl, hb, ha⟩; have HB1 := Aside0.mk hb.out; have HA1 := Aside0.mk ha.out; clear hb ha)
 (have HW2 := Aside0.mk (worth_alloc HA1.out));(have HB2 := Aside0.mk (below_alloc HB1.out (.cells #[.pointer (some ⟨w.heap.size, 0, none⟩)] 44)));(have HG := Lib.hid HB1.out.size);(clear HA1 HB1);(generalize w1.alloc (.cells #[.pointer (some ⟨w.heap.size, 0, none⟩)] 44) = W2 at *);(generalize w1.heap.size = g2 at *);(have hc2 := HW2.out.cell)
 go_wp2_with (go_at_call 26; refine (turn_any w.heap.size Z false false _ HW2.out.a).mono ?_; rintro e w3 ⟨rfl, hg, ha⟩)
 (go_ret);(have hlt := HW2.out.lt);(exact ⟨g2, w.heap.size, rfl, HG.out, Nat.le_refl _, ⟨HB2.out.grown hg.out HB2.out.size (fun k hk => by cases hk; exact Nat.le_refl _)⟩, ⟨⟨(hg.out.block g2 hlt.1 (fun hh => HW2.out.ne (by injection hh))).trans HW2.out.p, ha.out⟩⟩⟩)

set_option maxRecDepth 100000 in
set_option maxHeartbeats 400000 in
theorem plus_worth (g b : Nat) (Z : Int) (g3 b3 : Nat) (Y : Int) (w : World) (h : worth w g b Z) (h3 : worth w g3 b3 Y) :
  Calls Try.prog 9 #[.pointer (some ⟨g, 0, none⟩), .pointer (some ⟨g3, 0, none⟩)] w fun e w' => ∃ g2 b2 : Nat, e = .returned (.pointer (some ⟨g2, 0, none⟩)) ∧ w.heap.size ≤ g2 ∧ w.heap.size ≤ b2 ∧ Aside0 (Below w.heap.size w w') ∧ Aside0 (worth w' g2 b2 (Z + Y)) := by
 (have hc := h.cell);(have HW := Aside0.mk h);(have HV := Aside0.mk h3);(clear h h3);(go_enter Try.func9, Try.ntmps9)
 go_upto_region 2 with (go_at_call 21; refine (copy_any b Z false false _ HW.out.a).mono ?_; rintro e w1 ⟨rfl, hb, ha⟩; have HB1 := Aside0.mk hb.out; have HA1 := Aside0.mk ha.out; clear hb ha)
 (have HW2 := Aside0.mk (worth_alloc HA1.out));(have HB2 := Aside0.mk (below_alloc HB1.out (.cells #[.pointer (some ⟨w.heap.size, 0, none⟩)] 44)));(have HG := Lib.hid HB1.out.size);(clear HA1 HB1);(generalize w1.alloc (.cells #[.pointer (some ⟨w.heap.size, 0, none⟩)] 44) = W2 at *);(generalize w1.heap.size = g2 at *);(have hc2 := HW2.out.cell);(have HV2 := Aside0.mk (HV.out.below HB2.out));(have hltv := Lib.hid HV.out.lt);(have hd2 := HV2.out.cell)
 go_upto_region 3 with fail
 (have hc3 : W2.drew.cell? ⟨g2, 0, none⟩ = some (.pointer (some ⟨w.heap.size, 0, none⟩)) := hc2);(have hd3 : W2.drew.cell? ⟨g3, 0, none⟩ = some (.pointer (some ⟨b3, 0, none⟩)) := hd2);(have HB3 := Aside0.mk (show Below w.heap.size w W2.drew from below_drew HB2.out));(have HW3 := Aside0.mk (show worth W2.drew g2 w.heap.size Z from ⟨HW2.out.p, HW2.out.a⟩));(have HV3 := Aside0.mk (show worth W2.drew g3 b3 Y from ⟨HV2.out.p, HV2.out.a⟩));(have hlt := Lib.hid HW3.out.lt);(have HM := Aside0.mk (merge_any w.heap.size b3 (by have := hltv.out.2; omega) Z Y false false false false W2.drew HW3.out.a HV3.out.a))
 go_region_with (go_at_call 22; refine HM.out.mono ?_; rintro e w3 ⟨rfl, hg, ha⟩)
 all_goals
  go_wp2_with fail
  (go_ret);(exact ⟨g2, w.heap.size, rfl, HG.out, Nat.le_refl _, ⟨HB3.out.grown hg.out HB3.out.size (fun k hk => by cases hk; exact Nat.le_refl _)⟩, ⟨⟨(hg.out.block g2 hlt.out.1 (fun hh => HW3.out.ne (by injection hh))).trans HW3.out.p, ha.out⟩⟩⟩)

set_option maxRecDepth 100000 in
set_option maxHeartbeats 400000 in
theorem plus_nil (g b : Nat) (Z : Int) (w : World) (h : worth w g b Z) :
  Calls Try.prog 9 #[.pointer (some ⟨g, 0, none⟩), .pointer none] w fun e w' => ∃ g2 b2 : Nat, e = .returned (.pointer (some ⟨g2, 0, none⟩)) ∧ w.heap.size ≤ g2 ∧ w.heap.size ≤ b2 ∧ Aside0 (Below w.heap.size w w') ∧ Aside0 (worth w' g2 b2 Z) := by
 (have hc := h.cell);(have HW := Aside0.mk h);(clear h);(go_enter Try.func9, Try.ntmps9)
 go_upto_region 2 with (go_at_call 21; refine (copy_any b Z false false _ HW.out.a).mono ?_; rintro e w1 ⟨rfl, hb, ha⟩; have HB1 := Aside0.mk hb.out; have HA1 := Aside0.mk ha.out; clear hb ha)
 (have HW2 := Aside0.mk (worth_alloc HA1.out));(have HB2 := Aside0.mk (below_alloc HB1.out (.cells #[.pointer (some ⟨w.heap.size, 0, none⟩)] 44)));(have HG := Lib.hid HB1.out.size);(clear HA1 HB1);(generalize w1.alloc (.cells #[.pointer (some ⟨w.heap.size, 0, none⟩)] 44) = W2 at *);(generalize w1.heap.size = g2 at *);(have hc2 := HW2.out.cell);(go_wp2);(go_ret);(exact ⟨g2, w.heap.size, rfl, HG.out, Nat.le_refl _, HB2, HW2⟩)

set_option maxRecDepth 100000 in
set_option maxHeartbeats 8000000 in
theorem same_worth (g b : Nat) (Z : Int) (g3 b3 : Nat) (Y : Int) (w : World) (h : worth w g b Z) (h3 : worth w g3 b3 Y) :
  Calls Try.prog 10 #[.pointer (some ⟨g, 0, none⟩), .pointer (some ⟨g3, 0, none⟩)] w fun e w' => e = .returned (.bool (decide (modB Z = modB Y))) ∧ Aside0 (Below w.heap.size w w') := by
 (have hc : w.drew.cell? ⟨g, 0, none⟩ = some (.pointer (some ⟨b, 0, none⟩)) := h.cell);(have hd : w.drew.cell? ⟨g3, 0, none⟩ = some (.pointer (some ⟨b3, 0, none⟩)) := h3.cell);(have HM := Aside0.mk (same_fin b b3 Z Y w.drew h.a h3.a));(have HB := Aside0.mk (show Below w.heap.size w w.drew from below_drew (Below.refl _ _)));(clear h h3);(generalize decide (modB Z = modB Y) = R at *);(go_enter Try.func10, Try.ntmps10)
 go_upto_region 1 with fail
 go_region_with (go_at_call 23; refine HM.out.mono ?_; rintro e w3 ⟨rfl, hb⟩)
 all_goals
  go_wp2_with fail
  (go_ret);(exact ⟨rfl, ⟨below_step HB.out hb.out⟩⟩)

end Go.Proofs.Ytijfkjfljpdghaa
end
