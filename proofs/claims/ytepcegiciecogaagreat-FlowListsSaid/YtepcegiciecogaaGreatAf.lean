/- Contracts of package acc: Over and Value. -/
import Derived.Test.YtepcegiciecogaaGreatAe
import Derived.WalkKit
import Derived.Lib.Hide
import Derived.WalkSpells
import Derived.WalkLawsBesides
import Derived.Deep.QuietTactic
import Derived.BigQuiet
import Derived.Laws.Rows
import Derived.Outline
import Derived.Deep.DeepCutAuto
import Derived.Deep.CutBlock
import Derived.Deep.LoopGhost
namespace Go.Proofs.YtepcegiciecogaaGreat
open Go.RowKit Go.Proofs.YtepcegiciecogaaGreatW.PrintWords Tn

/-- the first cells of a block, as a whole array. -/
theorem wpList_load_part {P : Program} {ops : Array Oper} {rest : List Oper} {o : Oper} {a : Act} {w : World} {Q : Exit → Act → World → Prop} (hgd : o.guard = none) (ty : TypeId) (x : Operand) (ho : o.op = .load ty x)
    (g : Nat) (hx : a.eval x = .pointer (some ⟨g, 0, none⟩)) (t : TypeId) (cur cs : Array Value) (d : TypeDesc) (hg : w.heap[g]? = some (.cells cur t (0, 0))) (hcs : ∀ (j : Nat) (v : Value), cs[j]? = some v → cur[j]? = some v)
    (hu : P.underlying ty = some d) (hd : (match d with | .struct _ | .array _ _ => true | _ => false) = true) (hi : (P.info? ty).map (·.size) = some cs.size)
    (h : wpList P ops Q rest (a.put o.dst (.agg cs)) w) : wpList P ops Q (o :: rest) a w := by
  have hl : (loadCells ⟨g, 0, none⟩ cs.toList.length).run P w = .ok cs.toList.toArray w :=
    run_loadCells_list (P := P) (w := w) ⟨g, 0, none⟩ cs.toList (fun j v hv => by
      rw [add_plain, cell_of_row w g j cur t (0, 0) hg]
      exact hcs j v (by simpa using hv))
  have hrun : (loadVar ty ⟨g, 0, none⟩).run P w = .ok (.agg cs) w := by
    obtain ⟨i, hi1, hi2⟩ := Option.map_eq_some_iff.1 hi
    have hagg : (isAgg ty).run P w = .ok true w := by
      unfold isAgg
      rw [Sem.run_bind, run_underlying hu w]
      cases d <;> simp_all
    simp only [Array.length_toList, Array.toArray_toList] at hl
    simp [loadVar, Sem.run_bind, hagg, sizeOf, typeInfo, hi1, hi2, hl]
  refine wpList_plain hgd fun K hK => ?_
  unfold Oper.wp execOp
  simp only [ho, hx, Instr.loadAt, Instr.sureAddr, Sem.run_bind, Sem.run_pure, Result.andThen_ok, hrun]
  exact hK _ _ h
theorem part_row (f : Nat → Nat) (u d : Bool) : ∀ (j : Nat) (v : Value), (rowF f)[j]? = some v → (cellsF f u d)[j]? = some v := by
  intro j v h
  have hj : j < 68 := by
    rcases Nat.lt_or_ge j 68 with h1 | h1
    · exact h1
    · rw [Array.getElem?_eq_none (by rw [rowF_size]; exact h1)] at h; cases h
  rw [rowF_word f j hj] at h
  rw [cellsF_word f u d j hj]; exact h

set_option maxRecDepth 100000 in
set_option maxHeartbeats 400000 in
theorem nan_any (w : World) : Calls Tryz.prog 91 #[] w fun e w' => e = .returned (.float .f64 9221120237041090561) ∧ w = w' := by
  go_enter Tryz.func91, Tryz.ntmps91
  go_wp2
  go_ret
  exact ⟨rfl, rfl⟩

set_option maxRecDepth 100000 in
set_option maxHeartbeats 400000 in
theorem infm_any (w : World) : Calls Tryz.prog 92 #[.int .i64 (-1)] w fun e w' => e = .returned (.float .f64 18442240474082181120) ∧ w = w' := by
  go_enter Tryz.func92, Tryz.ntmps92
  go_wp2
  go_ret
  exact ⟨rfl, rfl⟩

/-- Div64 by n, wherever its high word is below n. -/
def DivBy (n : Nat) : Prop := ∀ (hi lo : Nat) (w : World), hi < n → lo < 18446744073709551616 →
    Calls Tryz.prog 95 #[.int .u64 hi, .int .u64 lo, .int .u64 n] w fun e w' => e = .returned (.tuple #[.int .u64 (((hi * 18446744073709551616 + lo) / n : Nat) : Int), .int .u64 (((hi * 18446744073709551616 + lo) % n : Nat) : Int)]) ∧ Aside0 (∃ k, w' = w.drewN k)

theorem ret_uu {k : IntKind} {a b c d : Int} (h : a = b) (h2 : c = d) : Ending.returned (.tuple #[.int k a, .int k c]) = Ending.returned (.tuple #[.int k b, .int k d]) := by rw [h, h2]
theorem neg_run {x y : Nat} (w : World) (h : x ^^^ 9223372036854775808 = y) : (Op.unary .neg (.float .f64 x)).run Tryz.prog w = .ok (.float .f64 y) w := by
  rw [← h]; rfl
theorem zc_size : Tryz.zeroCells105.size = 68 := by kernel_rfl

set_option maxRecDepth 100000 in
set_option maxHeartbeats 400000 in
theorem div64_low (lo n : Nat) (w : World) (h : lo < 18446744073709551616) (hn : 1 ≤ n) : Calls Tryz.prog 95 #[.int .u64 0, .int .u64 lo, .int .u64 n] w fun e w' => e = .returned (.tuple #[.int .u64 ((lo / n : Nat) : Int), .int .u64 ((lo % n : Nat) : Int)]) ∧ Aside0 (∃ k, w' = w.drewN k) := by
  have b0 : ((n : Int) == 0) = false := beq_eq_false_iff_ne.2 (by omega)
  have b1 : decide ((n : Int) ≤ 0) = false := decide_eq_false (by omega)
  have b2 : (n : Int) ≠ 0 := by omega
  have b3 : (0 : Int) ≤ n := by omega
  have b4 : (0 : Int) < n := by omega
  have b5 : ¬ (n : Int) ≤ 0 := by omega
  have hq : IntKind.u64.wrap ((lo : Int) / (n : Int)) = ((lo / n : Nat) : Int) := by
    have h1 : lo / n < 18446744073709551616 := Nat.lt_of_le_of_lt (Nat.div_le_self _ _) h
    rw [← Int.natCast_ediv]; exact wrap_u64_nat h1
  have hr : (lo : Int) % (n : Int) = ((lo % n : Nat) : Int) := (Int.natCast_emod _ _).symm
  generalize lo / n = A at *
  generalize lo % n = R at *
  have H := Lib.hid h
  clear h
  go_enter Tryz.func95, Tryz.ntmps95
  go_wp2
  go_quiet (fail)
  go_wp2
  go_ret2
  exact ⟨ret_uu rfl hr, ⟨_, rfl⟩⟩

theorem divBy_one : DivBy 1 := fun hi lo w h hlo => by
  obtain rfl : hi = 0 := by omega
  have := div64_low lo 1 w hlo (by omega)
  rw [Nat.zero_mul, Nat.zero_add]
  exact this
theorem div_start (M n : Nat) : rowF (divW M n 68) = rowF (wd M) := rowF_congr fun i hi => by unfold divW; rw [if_neg (by omega)]
theorem div_end (M n : Nat) : rowF (divW M n 0) = rowF (wd (M / n)) := rowF_congr fun i _ => by unfold divW; rw [if_pos (by omega)]
theorem div_next {M n j v : Nat} (hv : v = wd (M / n) j) : rowF (upd (divW M n (j + 1)) j v) = rowF (divW M n j) := by
  refine rowF_congr fun i _ => ?_
  unfold upd divW
  by_cases c : i = j
  · rw [if_pos c, if_pos (by omega), hv, c]
  · rw [if_neg c]
    by_cases c2 : j ≤ i
    · rw [if_pos c2, if_pos (by omega)]
    · rw [if_neg c2, if_neg (by omega)]
theorem grown_drewN (w : World) (k : Nat) (row : Option Nat) : w.grownBy (w.drewN k) row := ⟨rfl, rfl, rfl, Nat.le_refl _, fun _ _ _ => rfl⟩
theorem divW_at (M n j : Nat) : divW M n (j + 1) j = wd M j := by unfold divW; rw [if_neg (by omega)]

set_option maxRecDepth 100000 in
set_option maxHeartbeats 2000000 in
theorem over_neg (b n : Nat) (Z : Int) (w : World) (h : accZ w b Z false false) (hn0 : 1 ≤ n) (hn1 : n < 9223372036854775808) (hZ : Z.natAbs < B 67) (hD : DivBy n) (hs : Z < 0) :
    Calls Tryz.prog 57 #[.pointer (some ⟨b, 0, none⟩), .int .i64 n] w fun e w' => e = .returned (.tuple #[.float .f64 (overV Z false false n), .bool true]) ∧ Aside0 (Below w.heap.size w w') := by
  have hsg := below_sign hZ
  rw [decide_eq_true hs] at hsg
  obtain ⟨res, hres⟩ : ∃ res, nearU (Z.natAbs / n) (decide (Z.natAbs % n ≠ 0)) = res := ⟨_, rfl⟩
  have HO : RowKit.Hid (overV Z false false n = 9223372036854775808 + res) := by
    show overV Z false false n = _
    unfold overV
    rw [if_neg (by simp), if_neg (by simp), if_neg (by simp), hres]
    rw [if_pos hs]
  have HXR : RowKit.Hid (res ^^^ 9223372036854775808 = 9223372036854775808 + res) := by rw [← hres]; exact xor_sign (nearU_le _ _)
  have HR := Lib.hid hres
  have HA := Aside0.mk h
  have hb := blk_lt h
  have HZ := Lib.hid hZ
  have HM := Lib.hid (modB_neg hZ hs)
  clear h hZ hres hs
  have h68 := accF.up HA.out
  have h69 := accF.down HA.out
  have HI := Lib.hid info68
  have HDIV := Lib.hid hD
  clear hD
  have HNL : RowKit.Hid (modB Z ≤ B 68) := Nat.le_of_lt (modB_lt Z)
  have HML : RowKit.Hid (Z.natAbs < B 68) := Nat.lt_of_lt_of_le HZ.out (B_le (by omega))
  obtain ⟨M, hM⟩ : ∃ M, Z.natAbs = M := ⟨_, rfl⟩
  rw [hM] at HR HM HML HZ
  clear hM
  obtain ⟨N, hN⟩ : ∃ N, modB Z = N := ⟨_, rfl⟩
  have HA2 : Aside0 (w.heap[b]? = some (.cells (cellsF (wd N) false false) 107 (0, 0))) := ⟨by rw [← hN]; exact HA.out⟩
  have HBA := Lib.hid (fun w' (hh : accZ w' b Z false false) => below_any b (modB Z) false false w' hh)
  rw [hN] at HM HNL
  rw [hN] at hsg
  rw [hN] at HBA
  have HBEL := Lib.hid hsg
  have HAB : Aside0 (∀ w' row, w.grownBy w' row → some b ≠ row → accZ w' b Z false false) := ⟨fun w' row hg hr => by unfold accZ acc accF; rw [hg.block b hb hr]; exact HA.out⟩
  have hbx : some b ≠ some w.heap.size := by intro e; injection e with e; omega
  have HBX := Lib.hid hbx
  have HSZ := Lib.hid zc_size
  clear hN hsg hbx
  go_enter Tryz.func57, Tryz.ntmps57
  go_wp2_with (first
    | (refine wpList_load_part rfl 105 (.tmp 39) rfl b rfl 107 (cellsF (wd N) false false) (rowF (wd N)) _ HA2.out (part_row _ _ _) Tryz.underlying105 rfl (by rw [rowF_size]; exact HI.out) ?_)
    | (refine wpList_store_row rfl rfl 105 (.tmp 6) (.tmp 40) rfl w.heap.size rfl (rowF (wd N)) Tryz.zeroCells105 105 rfl (heap_alloc_new w _) (by rw [rowF_size]; exact HSZ.out) (by rw [rowF_size]; exact HI.out) (row_one _) ?_; intro w1 HG1 HG2; have HW1 : Aside0 (w.grownBy w1 (some w.heap.size)) := ⟨(World.grownBy_alloc w _ _).trans HG1.out⟩; clear HG1)
    | (go_at_call 93; refine (HBA.out _ (HAB.out _ _ HW1.out HBX.out)).mono ?_; rintro e w' ⟨rfl, rfl⟩; rw [HBEL.out])
    | (refine wpList_load_row rfl 105 (.tmp 6) rfl w.heap.size rfl 105 (rowF (wd N)) (0, 0) _ HG2.out Tryz.underlying105 rfl (by rw [rowF_size]; exact HI.out) ?_)
    | (go_at_call 94; refine (turned_any N _ HNL.out).mono ?_; rintro e w2 ⟨rfl, HT2⟩; rw [HM.out]; have HW2 : Aside0 (w.grownBy w2 (some w.heap.size)) := ⟨HW1.out.trans (grown_of_below HT2.out _)⟩; have HG3 : Aside0 (w2.heap[w.heap.size]? = some (.cells (rowF (wd N)) 105 (0, 0))) := ⟨blk_below HG2.out HT2.out⟩; clear HT2)
    | (refine wpList_store_row rfl rfl 105 (.tmp 6) (.tmp 44) rfl w.heap.size rfl (rowF (wd M)) (rowF (wd N)) 105 rfl HG3.out (by rw [rowF_size, rowF_size]) (by rw [rowF_size]; exact HI.out) (row_one _) ?_; intro w3 HG4 HG5; have HW3 : Aside0 (w.grownBy w3 (some w.heap.size)) := ⟨HW2.out.trans HG4.out⟩; clear HG4))
  clear HA2 HG2
  go_loopg [7, 8] 68 (fun g rr ii wr => g ≤ 68 ∧ ii = .int .i64 ((g : Int) - 1) ∧ rr = .int .u64 ((M / B g % n : Nat) : Int) ∧ Aside0 (w.grownBy wr (some w.heap.size)) ∧ Aside0 (wr.heap[w.heap.size]? = some (.cells (rowF (divW M n g)) 105 (0, 0))))
  case atStart =>
    exact ⟨Nat.le_refl _, rfl, by rw [Nat.div_eq_of_lt HML.out, Nat.zero_mod]; rfl, HW3, ⟨by rw [div_start]; exact HG5.out⟩⟩
  case round =>
    obtain ⟨hg, rfl, rfl, HWR, HXC⟩ := hrel
    clear HW3 HG5
    have hwn : IntKind.u64.wrap (n : Int) = n := wrap_u64_nat (by omega)
    cases gk with
    | succ j =>
      rw [show ((j + 1 : Nat) : Int) - 1 = (j : Int) by omega]
      have hcell := row_cell HXC.out j (by omega)
      rw [divW_at] at hcell
      have hfree : wr.frozen? ⟨w.heap.size, j, none⟩ = false := blk_frozen HXC.out j
      have hds := div_step M n j (by omega)
      have hdv : ((M / B (j + 1) % n) * 18446744073709551616 + wd M j) / n = wd (M / n) j := by rw [← hds.1, Nat.mod_eq_of_lt hds.2.2]
      have hdc := fun w' => HDIV.out (M / B (j + 1) % n) (wd M j) w' (Nat.mod_lt _ (by omega)) (wd_lt M j)
      rw [hdv, hds.2.1] at hdc
      have HDC := Lib.hid hdc
      clear hdc hdv hds
      obtain ⟨v, hv⟩ : ∃ v, wd (M / n) j = v := ⟨_, rfl⟩
      rw [hv] at HDC
      have HV := Lib.hid hv
      clear hv
      obtain ⟨r1, hr1⟩ : ∃ r, M / B (j + 1) % n = r := ⟨_, rfl⟩
      rw [hr1] at HDC ⊢
      clear hr1
      obtain ⟨r0, hr0⟩ : ∃ r, M / B j % n = r := ⟨_, rfl⟩
      rw [hr0] at HDC
      have HR0 := Lib.hid hr0
      clear hr0
      generalize wd M j = lo at *
      go_wp2_with (go_at_call 95; refine (HDC.out _).mono ?_; rintro e w' ⟨rfl, ⟨⟨kd, rfl⟩⟩⟩)
      go_roundg j
      case measure => omega
      case rel => exact ⟨by omega, by go_num, by rw [HR0.out], ⟨HWR.out.trans ((grown_drewN _ _ _).trans (grown_set _ _ j _))⟩, ⟨by rw [blk_set (blk_drewN HXC.out _), rowF_set _ j v (by omega), div_next HV.out.symm]⟩⟩
    | zero =>
      have hmore : (((M / B 0 % n : Nat) : Int) != 0) = decide (M % n ≠ 0) := by rw [B_zero, Nat.div_one]; exact bne_nat _
      have HNE := Lib.hid (fun w' => near_any (M / n) (decide (M % n ≠ 0)) w' (Nat.lt_of_le_of_lt (Nat.div_le_self _ _) HZ.out))
      rw [HR.out] at HNE
      obtain ⟨mb, hmb⟩ : ∃ mb, decide (M % n ≠ 0) = mb := ⟨_, rfl⟩
      rw [hmb] at hmore HNE
      clear hmb
      obtain ⟨r0, hr0⟩ : ∃ r, M / B 0 % n = r := ⟨_, rfl⟩
      rw [hr0] at hmore ⊢
      clear hr0
      have HXD : Aside0 (wr.heap[w.heap.size]? = some (.cells (rowF (wd (M / n))) 105 (0, 0))) := ⟨by rw [← div_end]; exact HXC.out⟩
      have hxor := fun w' => neg_run w' HXR.out
      go_wp2_with (first
        | (refine wpList_load_row rfl 105 (.tmp 6) rfl w.heap.size rfl 105 (rowF (wd (M / n))) (0, 0) _ HXD.out Tryz.underlying105 rfl (by rw [rowF_size]; exact HI.out) ?_)
        | (go_at_call 96; refine (HNE.out _).mono ?_; rintro e w5 ⟨rfl, HN5⟩; have HW5 : Aside0 (w.grownBy w5 (some w.heap.size)) := ⟨HWR.out.trans (grown_of_below HN5.out _)⟩)
        | (go_at_call 93; refine (HBA.out _ (HAB.out _ _ HW5.out HBX.out)).mono ?_; rintro e w' ⟨rfl, rfl⟩; rw [HBEL.out]))
      go_ret2
      exact ⟨by rw [HO.out]; rfl, ⟨(Below.refl _ _).grown HW5.out (Nat.le_refl _) (fun k hk => by injection hk with hk; omega)⟩⟩

set_option maxRecDepth 100000 in
set_option maxHeartbeats 2000000 in
theorem over_pos (b n : Nat) (Z : Int) (w : World) (h : accZ w b Z false false) (hn0 : 1 ≤ n) (hn1 : n < 9223372036854775808) (hZ : Z.natAbs < B 67) (hD : DivBy n) (hs : ¬ Z < 0) :
    Calls Tryz.prog 57 #[.pointer (some ⟨b, 0, none⟩), .int .i64 n] w fun e w' => e = .returned (.tuple #[.float .f64 (overV Z false false n), .bool true]) ∧ Aside0 (Below w.heap.size w w') := by
  have hsg := below_sign hZ
  rw [decide_eq_false hs] at hsg
  obtain ⟨res, hres⟩ : ∃ res, nearU (Z.natAbs / n) (decide (Z.natAbs % n ≠ 0)) = res := ⟨_, rfl⟩
  have HO : RowKit.Hid (overV Z false false n = res) := by
    show overV Z false false n = _
    unfold overV
    rw [if_neg (by simp), if_neg (by simp), if_neg (by simp), hres]
    rw [if_neg hs, Nat.zero_add]
  have HXR : RowKit.Hid (True) := trivial
  have HR := Lib.hid hres
  have HA := Aside0.mk h
  have hb := blk_lt h
  have HZ := Lib.hid hZ
  have HM := Lib.hid (modB_posi hZ (by omega))
  clear h hZ hres hs
  have h68 := accF.up HA.out
  have h69 := accF.down HA.out
  have HI := Lib.hid info68
  have HDIV := Lib.hid hD
  clear hD
  have HNL : RowKit.Hid (modB Z ≤ B 68) := Nat.le_of_lt (modB_lt Z)
  have HML : RowKit.Hid (Z.natAbs < B 68) := Nat.lt_of_lt_of_le HZ.out (B_le (by omega))
  obtain ⟨M, hM⟩ : ∃ M, Z.natAbs = M := ⟨_, rfl⟩
  rw [hM] at HR HM HML HZ
  clear hM
  obtain ⟨N, hN⟩ : ∃ N, modB Z = N := ⟨_, rfl⟩
  have HA2 : Aside0 (w.heap[b]? = some (.cells (cellsF (wd N) false false) 107 (0, 0))) := ⟨by rw [← hN]; exact HA.out⟩
  have HBA := Lib.hid (fun w' (hh : accZ w' b Z false false) => below_any b (modB Z) false false w' hh)
  rw [hN] at HM HNL
  rw [hN] at hsg
  rw [hN] at HBA
  have HBEL := Lib.hid hsg
  have HAB : Aside0 (∀ w' row, w.grownBy w' row → some b ≠ row → accZ w' b Z false false) := ⟨fun w' row hg hr => by unfold accZ acc accF; rw [hg.block b hb hr]; exact HA.out⟩
  have hbx : some b ≠ some w.heap.size := by intro e; injection e with e; omega
  have HBX := Lib.hid hbx
  have HSZ := Lib.hid zc_size
  clear hN hsg hbx
  go_enter Tryz.func57, Tryz.ntmps57
  go_wp2_with (first
    | (refine wpList_load_part rfl 105 (.tmp 39) rfl b rfl 107 (cellsF (wd N) false false) (rowF (wd N)) _ HA2.out (part_row _ _ _) Tryz.underlying105 rfl (by rw [rowF_size]; exact HI.out) ?_)
    | (refine wpList_store_row rfl rfl 105 (.tmp 6) (.tmp 40) rfl w.heap.size rfl (rowF (wd N)) Tryz.zeroCells105 105 rfl (heap_alloc_new w _) (by rw [rowF_size]; exact HSZ.out) (by rw [rowF_size]; exact HI.out) (row_one _) ?_; intro w1 HG1 HG2; have HW1 : Aside0 (w.grownBy w1 (some w.heap.size)) := ⟨(World.grownBy_alloc w _ _).trans HG1.out⟩; clear HG1)
    | (go_at_call 93; refine (HBA.out _ (HAB.out _ _ HW1.out HBX.out)).mono ?_; rintro e w' ⟨rfl, rfl⟩; rw [HBEL.out]))
  have HW3 := HW1
  have HG5 := HG2
  rw [HM.out] at HG5
  clear HA2 HG2
  go_loopg [7, 8] 68 (fun g rr ii wr => g ≤ 68 ∧ ii = .int .i64 ((g : Int) - 1) ∧ rr = .int .u64 ((M / B g % n : Nat) : Int) ∧ Aside0 (w.grownBy wr (some w.heap.size)) ∧ Aside0 (wr.heap[w.heap.size]? = some (.cells (rowF (divW M n g)) 105 (0, 0))))
  case atStart =>
    exact ⟨Nat.le_refl _, rfl, by rw [Nat.div_eq_of_lt HML.out, Nat.zero_mod]; rfl, HW3, ⟨by rw [div_start]; exact HG5.out⟩⟩
  case round =>
    obtain ⟨hg, rfl, rfl, HWR, HXC⟩ := hrel
    clear HW3 HG5
    have hwn : IntKind.u64.wrap (n : Int) = n := wrap_u64_nat (by omega)
    cases gk with
    | succ j =>
      rw [show ((j + 1 : Nat) : Int) - 1 = (j : Int) by omega]
      have hcell := row_cell HXC.out j (by omega)
      rw [divW_at] at hcell
      have hfree : wr.frozen? ⟨w.heap.size, j, none⟩ = false := blk_frozen HXC.out j
      have hds := div_step M n j (by omega)
      have hdv : ((M / B (j + 1) % n) * 18446744073709551616 + wd M j) / n = wd (M / n) j := by rw [← hds.1, Nat.mod_eq_of_lt hds.2.2]
      have hdc := fun w' => HDIV.out (M / B (j + 1) % n) (wd M j) w' (Nat.mod_lt _ (by omega)) (wd_lt M j)
      rw [hdv, hds.2.1] at hdc
      have HDC := Lib.hid hdc
      clear hdc hdv hds
      obtain ⟨v, hv⟩ : ∃ v, wd (M / n) j = v := ⟨_, rfl⟩
      rw [hv] at HDC
      have HV := Lib.hid hv
      clear hv
      obtain ⟨r1, hr1⟩ : ∃ r, M / B (j + 1) % n = r := ⟨_, rfl⟩
      rw [hr1] at HDC ⊢
      clear hr1
      obtain ⟨r0, hr0⟩ : ∃ r, M / B j % n = r := ⟨_, rfl⟩
      rw [hr0] at HDC
      have HR0 := Lib.hid hr0
      clear hr0
      generalize wd M j = lo at *
      go_wp2_with (go_at_call 95; refine (HDC.out _).mono ?_; rintro e w' ⟨rfl, ⟨⟨kd, rfl⟩⟩⟩)
      go_roundg j
      case measure => omega
      case rel => exact ⟨by omega, by go_num, by rw [HR0.out], ⟨HWR.out.trans ((grown_drewN _ _ _).trans (grown_set _ _ j _))⟩, ⟨by rw [blk_set (blk_drewN HXC.out _), rowF_set _ j v (by omega), div_next HV.out.symm]⟩⟩
    | zero =>
      have hmore : (((M / B 0 % n : Nat) : Int) != 0) = decide (M % n ≠ 0) := by rw [B_zero, Nat.div_one]; exact bne_nat _
      have HNE := Lib.hid (fun w' => near_any (M / n) (decide (M % n ≠ 0)) w' (Nat.lt_of_le_of_lt (Nat.div_le_self _ _) HZ.out))
      rw [HR.out] at HNE
      obtain ⟨mb, hmb⟩ : ∃ mb, decide (M % n ≠ 0) = mb := ⟨_, rfl⟩
      rw [hmb] at hmore HNE
      clear hmb
      obtain ⟨r0, hr0⟩ : ∃ r, M / B 0 % n = r := ⟨_, rfl⟩
      rw [hr0] at hmore ⊢
      clear hr0
      have HXD : Aside0 (wr.heap[w.heap.size]? = some (.cells (rowF (wd (M / n))) 105 (0, 0))) := ⟨by rw [← div_end]; exact HXC.out⟩
      go_wp2_with (first
        | (refine wpList_load_row rfl 105 (.tmp 6) rfl w.heap.size rfl 105 (rowF (wd (M / n))) (0, 0) _ HXD.out Tryz.underlying105 rfl (by rw [rowF_size]; exact HI.out) ?_)
        | (go_at_call 96; refine (HNE.out _).mono ?_; rintro e w5 ⟨rfl, HN5⟩; have HW5 : Aside0 (w.grownBy w5 (some w.heap.size)) := ⟨HWR.out.trans (grown_of_below HN5.out _)⟩)
        | (go_at_call 93; refine (HBA.out _ (HAB.out _ _ HW5.out HBX.out)).mono ?_; rintro e w' ⟨rfl, rfl⟩; rw [HBEL.out]))
      go_ret2
      exact ⟨by rw [HO.out]; rfl, ⟨(Below.refl _ _).grown HW5.out (Nat.le_refl _) (fun k hk => by injection hk with hk; omega)⟩⟩

set_option maxRecDepth 100000 in
set_option maxHeartbeats 400000 in
theorem over_any (b n : Nat) (Z : Int) (u d : Bool) (w : World) (h : accZ w b Z u d) (hn0 : 1 ≤ n) (hn1 : n < 9223372036854775808) (hZ : Z.natAbs < B 67) (hD : DivBy n) :
    Calls Tryz.prog 57 #[.pointer (some ⟨b, 0, none⟩), .int .i64 n] w fun e w' => e = .returned (.tuple #[.float .f64 (overV Z u d n), .bool true]) ∧ Aside0 (Below w.heap.size w w') := by
  by_cases hu : u = false ∧ d = false
  · obtain ⟨rfl, rfl⟩ := hu
    by_cases hs : Z < 0
    · exact over_neg b n Z w h hn0 hn1 hZ hD hs
    · exact over_pos b n Z w h hn0 hn1 hZ hD hs
  · have h68 := accF.up h
    have h69 := accF.down h
    clear h hD hZ
    cases u <;> cases d
    · exact absurd ⟨rfl, rfl⟩ hu
    all_goals
      clear hu
      go_enter Tryz.func57, Tryz.ntmps57
      go_wp2_with (first | (go_at_call 91; refine (nan_any _).mono ?_; rintro e w' ⟨rfl, rfl⟩) | (go_at_call 92; refine (infm_any _).mono ?_; rintro e w' ⟨rfl, rfl⟩) | (go_at_call 92; refine (inf1_any _).mono ?_; rintro e w' ⟨rfl, rfl⟩))
      go_ret2
      exact ⟨rfl, ⟨Below.refl _ _⟩⟩

set_option maxRecDepth 100000 in
set_option maxHeartbeats 400000 in
theorem value_any (b : Nat) (Z : Int) (u d : Bool) (w : World) (h : accZ w b Z u d) (hZ : Z.natAbs < B 67) :
    Calls Tryz.prog 37 #[.pointer (some ⟨b, 0, none⟩)] w fun e w' => e = .returned (.float .f64 (overV Z u d 1)) ∧ Aside0 (Below w.heap.size w w') := by
  have HO := Lib.hid (over_any b 1 Z u d w h (by omega) (by omega) hZ divBy_one)
  clear h hZ
  obtain ⟨res, hres⟩ : ∃ res, overV Z u d 1 = res := ⟨_, rfl⟩
  rw [hres] at HO ⊢
  clear hres
  go_enter Tryz.func37, Tryz.ntmps37
  go_wp2_with (go_at_call 57; refine HO.out.mono ?_; rintro e w' ⟨rfl, HB⟩)
  go_ret
  exact ⟨rfl, HB⟩

end Go.Proofs.YtepcegiciecogaaGreat
