/- Contracts of package acc: sums told as whole numbers. -/
import Derived.Test.YtepcegiciecogaaGreatAc
import Derived.WalkKit
import Derived.Lib.Hide
import Derived.WalkSpells
import Derived.WalkLawsBesides
import Derived.Deep.QuietTactic
import Derived.BigQuiet
import Derived.BigRegion
import Derived.Laws.Rows
import Derived.StillTailTactics
namespace Go.Proofs.YtepcegiciecogaaGreat
open Go.RowKit Go.Proofs.YtepcegiciecogaaGreatW.PrintWords Tn

/-- the block at b holds the sum Z, in units, and two flags. -/
def accZ (w : World) (b : Nat) (Z : Int) (u d : Bool) : Prop := acc w b (modB Z) u d

set_option maxRecDepth 100000 in
set_option maxHeartbeats 400000 in
theorem add_fin (b x : Nat) (Z : Int) (u d : Bool) (w : World) (h : accZ w b Z u d) (hx : x < 18446744073709551616) (hf : fin x = true) :
    Calls Tryz.prog 34 #[.pointer (some ⟨b, 0, none⟩), .float .f64 x] w fun e w' => e = .returned (.tuple #[]) ∧ Aside0 (w.grownBy w' (some b)) ∧ Aside0 (accZ w' b (Z + units x) u d) := by
  obtain ⟨hm1, hm2⟩ := spm_bd x
  have HM : RowKit.Hid (-9223372036854775808 ≤ spm x ∧ spm x < 9223372036854775808) := ⟨by omega, by omega⟩
  have HA := Aside0.mk h
  have H := Lib.hid hx
  clear h hx
  rcases Int.lt_trichotomy (spm x) 0 with hs | hs | hs
  · obtain ⟨k, r, hk, hr, he, hu⟩ := units_neg (x := x) hs
    have HU := Lib.hid hu
    have hn : (spm x).natAbs < 18446744073709551616 := by omega
    have HN := Lib.hid hn
    have HV := Lib.hid (putV_le (hi := 0) (by decide) hn hk hr)
    clear hn hu
    have b0 : (spm x != 0) = true := bne_iff_ne.2 (by omega)
    have b1 : decide (spm x < 0) = true := decide_eq_true (by omega)
    have HS := split_any x H.out w
    rw [hf] at HS
    have HS' := Aside0.mk HS
    clear HS hf
    generalize units x = U at *
    generalize spm x = m at *
    obtain ⟨q, hq⟩ : ∃ q, spe x = q := ⟨_, rfl⟩
    rw [hq] at HS' he
    have h0 : -1074 ≤ q := by rw [← hq]; exact (spe_bd x).1
    have h1 : q ≤ 971 := by rw [← hq]; exact (spe_bd x).2
    clear hq
    have HE := Lib.hid he
    clear he
    go_enter Tryz.func34, Tryz.ntmps34
    go_wp2_with (first | (go_at_call 60; refine HS'.out.mono ?_; rintro e w' ⟨rfl, rfl⟩) | (go_at_call 63; refine (abs_acc _ HM.out.1 HM.out.2 _).mono ?_; rintro e w' ⟨rfl, rfl⟩) | (go_at_call 62; rw [HE.out]; refine (put_sub b (modB Z) 0 m.natAbs k r u d _ HA.out (by decide) HN.out hk hr).mono ?_; rintro e w' ⟨rfl, hg, ha⟩))
    go_end0
    exact ⟨rfl, hg, ⟨by have h3 := ha.out; rw [modB_sub _ _ HV.out] at h3; show acc _ _ (modB _) _ _; rw [← HU.out]; exact h3⟩⟩
  · have HZ := Lib.hid (units_none hs)
    have HS := split_any x H.out w
    rw [hf, hs] at HS
    have HS' := Aside0.mk HS
    clear HS hf hs hm1 hm2 HM
    generalize spe x = q at *
    go_enter Tryz.func34, Tryz.ntmps34
    go_wp2_with (go_at_call 60; refine HS'.out.mono ?_; rintro e w' ⟨rfl, rfl⟩)
    go_end0
    exact ⟨rfl, ⟨World.grownBy.refl _ _⟩, ⟨by rw [HZ.out, Int.add_zero]; exact HA.out⟩⟩
  · obtain ⟨k, r, hk, hr, he, hu⟩ := units_pos (x := x) (by omega)
    have HU := Lib.hid hu
    have hn : (spm x).natAbs < 18446744073709551616 := by omega
    have HN := Lib.hid hn
    have HV := Lib.hid (putV_le (hi := 0) (by decide) hn hk hr)
    clear hn hu
    have b0 : (spm x != 0) = true := bne_iff_ne.2 (by omega)
    have b1 : decide (spm x < 0) = false := decide_eq_false (by omega)
    have HS := split_any x H.out w
    rw [hf] at HS
    have HS' := Aside0.mk HS
    clear HS hf
    generalize units x = U at *
    generalize spm x = m at *
    obtain ⟨q, hq⟩ : ∃ q, spe x = q := ⟨_, rfl⟩
    rw [hq] at HS' he
    have h0 : -1074 ≤ q := by rw [← hq]; exact (spe_bd x).1
    have h1 : q ≤ 971 := by rw [← hq]; exact (spe_bd x).2
    clear hq
    have HE := Lib.hid he
    clear he
    go_enter Tryz.func34, Tryz.ntmps34
    go_wp2_with (first | (go_at_call 60; refine HS'.out.mono ?_; rintro e w' ⟨rfl, rfl⟩) | (go_at_call 63; refine (abs_acc _ HM.out.1 HM.out.2 _).mono ?_; rintro e w' ⟨rfl, rfl⟩) | (go_at_call 62; rw [HE.out]; refine (put_add b (modB Z) 0 m.natAbs k r u d _ HA.out (by decide) HN.out hk hr).mono ?_; rintro e w' ⟨rfl, hg, ha⟩))
    go_end0
    exact ⟨rfl, hg, ⟨by have h3 := ha.out; rw [modB_add] at h3; show acc _ _ (modB _) _ _; rw [← HU.out]; exact h3⟩⟩

set_option maxRecDepth 100000 in
set_option maxHeartbeats 400000 in
theorem wpList_store_row {P : Program} {ops : Array Oper} {rest : List Oper} {o : Oper} {a : Act} {Q : Exit → Act → World → Prop} {W : World} (hN : o.dst = none) (hgd : o.guard = none) (t : TypeId) (p x : Operand) (ho : o.op = .store t p x) (g : Nat) (haddr : a.eval p = .pointer (some ⟨g, 0, none⟩)) (cs cur : Array Value) (e : TypeId)
    (hx : a.eval x = .agg cs) (hh : W.heap[g]? = some (.cells cur e (0, 0))) (hs : cur.size = cs.size) (ht : (P.info? t).map (·.size) = some cs.size) (h1 : ∀ q ∈ cs.toList, q.oneCell' = true)
    (h : ∀ w1, Aside0 (W.grownBy w1 (some g)) → Aside0 (w1.heap[g]? = some (.cells cs e (0, 0))) → wpList P ops Q rest a w1) : wpList P ops Q (o :: rest) a W := by
  have hrun := run_store_run (P := P) (o := 0) t (.agg cs) cs.toList hh rfl (by simpa using ht) (by simp [hs]) h1
  obtain ⟨cur', h3, h4, h5⟩ := setCells_row cs.toList 0 W cur hh (by simp [hs])
  obtain ⟨s1, s2, s3, s4⟩ := setCells_same g cs.toList 0 W
  have hc : cur' = cs := by
    apply Array.toList_inj.1
    rw [h5, List.take_zero, List.nil_append, List.drop_of_length_le (by simp [hs]), List.append_nil]
  rw [hc] at h3
  refine wpList_plain hgd fun K hK => ?_
  unfold Oper.wp execOp
  simp only [ho, haddr, hx, Sem.run_bind, Sem.run_pure, Result.andThen_ok, hrun]
  show K (a.put o.dst undef) _
  rw [hN]
  exact hK a _ (h _ ⟨⟨s1, s2, s3, by rw [s4]; exact Nat.le_refl _, fun k _ hk => setCells_far _ _ k (fun he => hk (by rw [he]))⟩⟩ ⟨h3⟩)
theorem row_one (f : Nat → Nat) : ∀ q ∈ (rowF f).toList, q.oneCell' = true := by
  intro q hq
  unfold rowF at hq
  obtain ⟨j, _, rfl⟩ := List.mem_map.1 hq
  rfl
theorem index_row (f : Nat → Nat) (j : Nat) (hj : j < 68) (w : World) : (Instr.index 105 (.agg (rowF f)) (.int .i64 (j : Int))).run Tryz.prog w = .ok (.int .u64 ((f j : Nat) : Int)) w := by
  have h1 := rowF_word f j hj
  have hu := Tryz.underlying105
  have hi : (Tryz.prog.info? 36).map (·.size) = some 1 := by kernel_rfl
  obtain ⟨i, hi1, hi2⟩ := Option.map_eq_some_iff.1 hi
  have hul : (underlying 105).run Tryz.prog w = .ok _ w := run_underlying hu w
  simp only [Instr.index, asIntOf, Sem.run_bind, Sem.run_pure, Result.andThen_ok, hul]
  rw [if_pos ⟨Int.natCast_nonneg j, by omega⟩]
  simp [sizeOf, typeInfo, hi1, hi2, part, Sem.run_bind, h1]
theorem zero_row (w : World) : (zeroValue 105).run Tryz.prog w = .ok (.agg (rowF fun _ => 0)) w := by kernel_rfl

theorem info68 : (Tryz.prog.info? 105).map (·.size) = some 68 := by kernel_rfl
theorem row_end (N R : Nat) : rowF (mixW N R 68) = rowF (wd (R % B 68)) := rowF_congr fun i hi => by unfold mixW; rw [if_pos hi, wd_mod _ _ _ hi]
theorem row_next {N R j ww : Nat} (hw : ww = wd R j) : rowF (upd (mixW N R j) j ww) = rowF (mixW N R (j + 1)) := by
  refine rowF_congr fun i _ => ?_
  unfold upd mixW
  by_cases c : i = j
  · rw [if_pos c, if_pos (by omega), hw, c]
  · rw [if_neg c]
    by_cases c2 : i < j
    · rw [if_pos c2, if_pos (by omega)]
    · rw [if_neg c2, if_neg (by omega)]
set_option maxRecDepth 100000 in
set_option maxHeartbeats 400000 in
theorem turned_any (N : Nat) (w : World) (hN : N ≤ B 68) : Calls Tryz.prog 94 #[.agg (rowF (wd N))] w fun e w' => e = .returned (.agg (rowF (wd ((0 + B 68 - N) % B 68)))) ∧ Aside0 (Below w.heap.size w w') := by
  have HN := Lib.hid hN
  clear hN
  obtain ⟨D, hD⟩ : ∃ D, 0 + B 68 - N = D := ⟨_, rfl⟩
  rw [hD]
  obtain ⟨cs, hcs⟩ : ∃ cs, rowF (wd N) = cs := ⟨_, rfl⟩
  obtain ⟨R, hR⟩ : ∃ R, rowF (wd (D % B 68)) = R := ⟨_, rfl⟩
  rw [hcs, hR]
  obtain ⟨zs, hzs⟩ : ∃ zs, rowF (fun _ => 0) = zs := ⟨_, rfl⟩
  have hz0 := zero_row
  rw [hzs] at hz0
  have HS : RowKit.Hid (cs.size = 68) := by rw [← hcs]; exact rowF_size _
  have HSZ : RowKit.Hid (zs.size = 68) := by rw [← hzs]; exact rowF_size _
  have HSR : RowKit.Hid (R.size = 68) := by rw [← hR]; exact rowF_size _
  have HRR := Lib.hid hR
  have HC := Lib.hid hcs
  have HI := Lib.hid info68
  have HH : Aside0 (((w.alloc (.cells cs 105)).alloc (.cells zs 105)).heap[w.heap.size]? = some (.cells cs 105 (0, 0))) := ⟨heap_alloc2_old w _ _⟩
  have HH2 : Aside0 (((w.alloc (.cells cs 105)).alloc (.cells zs 105)).heap[w.heap.size + 1]? = some (.cells zs 105 (0, 0))) := ⟨heap_alloc2_new w _ _⟩
  have HB : Aside0 (Below w.heap.size w ((w.alloc (.cells cs 105)).alloc (.cells zs 105))) := ⟨((Below.refl _ _).alloc (Nat.le_refl _) _).alloc (by simp) _⟩
  have HD := Lib.hid hD
  clear hcs hzs hR hD
  go_enter Tryz.func94, Tryz.ntmps94
  go_wp2_with (refine wpList_load_row rfl 105 (.tmp 1) rfl w.heap.size rfl 105 cs (0, 0) _ HH.out Tryz.underlying105 rfl (by rw [HS.out]; exact HI.out) ?_)
  go_loopw [3, 7] (fun c i wr => ∃ j cc : Nat, j ≤ 68 ∧ i = .int .i64 j ∧ c = .int .u64 cc ∧ cc ≤ 1 ∧ RowKit.Hid (cc = borrow 0 N j) ∧ Aside0 (Below w.heap.size w wr) ∧ Aside0 (wr.heap[w.heap.size]? = some (.cells (rowF (mixW N D j)) 105 (0, 0))) ∧ Aside0 (wr.heap[w.heap.size + 1]? = some (.cells zs 105 (0, 0)))) (fun _ i _ => 68 - (intOf i).toNat)
  case atStart =>
    exact ⟨0, 0, by omega, rfl, rfl, by omega, (borrow_zero 0 N).symm, HB, ⟨by rw [show rowF (mixW N D 0) = cs from by rw [← HC.out]; exact rowF_congr fun i _ => by unfold mixW; rw [if_neg (by omega)]]; exact HH.out⟩, HH2⟩
  case round =>
    obtain ⟨j, cc, hj, rfl, rfl, hc1, HCC, HB2, HR1, HR2⟩ := hrel
    by_cases hlt : j < 68
    · have hcell : wr.cell? ⟨w.heap.size, j, none⟩ = some (.int .u64 ((wd N j : Nat) : Int)) := by
        rw [blk_cell HR1.out, rowF_word _ j hlt, mixW_at]
      have hfree : wr.frozen? ⟨w.heap.size, j, none⟩ = false := blk_frozen HR1.out j
      have hidx := fun w' => index_row (wd N) j hlt w'
      rw [HC.out] at hidx
      have HW := Lib.hid (put_word_true (N := 0) (V := N) hlt HN.out HCC.out)
      have HK := Lib.hid (put_carry_true (N := 0) (V := N) (j := j) HCC.out)
      rw [wd_zero, HD.out] at HW
      rw [wd_zero] at HK
      have ha := fun w' => sub64_run 0 (wd N j) cc hc1 w'
      obtain ⟨ww, hww⟩ : ∃ x, (0 + 18446744073709551616 - wd N j - cc) % 18446744073709551616 = x := ⟨_, rfl⟩
      obtain ⟨kk, hkk⟩ : ∃ x, (if 0 < wd N j + cc then 1 else 0) = x := ⟨_, rfl⟩
      rw [hww, hkk] at ha
      rw [hww] at HW; rw [hkk] at HK
      rw [show ((0 : Nat) : Int) = 0 from rfl] at ha
      clear hww hkk HCC
      generalize wd N j = nn at *
      go_wp2
      go_roundw
      case rel => exact ⟨j + 1, kk, by omega, by go_num, rfl, by rw [HK.out]; exact borrow_le _ _ _, HK, ⟨HB2.out.setCell (by simp) _⟩, ⟨by rw [blk_set HR1.out, rowF_set _ j ww hlt]; rw [row_next HW.out]⟩, ⟨blk_far HR2.out (by simp) _⟩⟩
      case measure => simp [intOf]; omega
    · obtain rfl : j = 68 := by omega
      have HE : RowKit.Hid (rowF (mixW N D 68) = R) := by
        rw [← HRR.out]; exact row_end N _
      have HR1' : Aside0 (wr.heap[w.heap.size]? = some (.cells R 105 (0, 0))) := ⟨by rw [← HE.out]; exact HR1.out⟩
      go_wp2_with (first | (refine wpList_load_row rfl 105 (.tmp 1) rfl w.heap.size rfl 105 R (0, 0) _ HR1'.out Tryz.underlying105 rfl (by rw [HSR.out]; exact HI.out) ?_) | (refine wpList_store_row rfl rfl 105 (.tmp 2) (.tmp 20) rfl (w.heap.size + 1) rfl R zs 105 rfl HR2.out (by rw [HSZ.out, HSR.out]) (by rw [HSR.out]; exact HI.out) (by rw [← HRR.out]; exact row_one _) ?_; intro w1 HG1 HG2))
      exact bodyPost_ret (results_cell_row rfl _ _ (w.heap.size + 1) 105 R (0, 0) _ rfl HG2.out Tryz.underlying105 rfl (by rw [HSR.out]; exact HI.out)) rfl ⟨rfl, ⟨HB2.out.grown HG1.out (by have := HB2.out.size; omega) (fun k hk => by injection hk with hk; omega)⟩⟩

end Go.Proofs.YtepcegiciecogaaGreat
