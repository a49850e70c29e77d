/- interp.over: near of the sum of weights times values, divided by n; sort.SearchInts in the print's shape. -/
import Derived.Test.YtmdoljecjliehaaGreatAg
import Derived.Test.YtmdoljecjliehaaGreatFz
import Derived.Test.YtmdoljecjliehaaGreatDv1
namespace Go.Proofs.YtmdoljecjliehaaGreat.FX
open Go.RowKit Go.Proofs.YtmdoljecjliehaaGreatW.PrintWords Go.Proofs.YtmdoljecjliehaaGreatW.PrintLast Go.Proofs.YtmdoljecjliehaaGreatW.PrintMore Tn Go.Shelf
attribute [local go_sem] run_store_float run_neg_float run_fmul isSome_setCell
set_option linter.unusedVariables false
set_option linter.unusedSimpArgs false

theorem foi_mg {n : Int} (h : n.natAbs ≤ 9223372036854775808) : Mg (floatOfInt .f64 n) 63 := by
 have e : floatOfInt .f64 n = sgB (decide (n < 0)) + nr n.natAbs 0 := by
  show Ieee.double.nearest (decide (n < 0)) n.natAbs 0 = _
  rw [nearest_nr]; unfold sgB; rfl
 rw [e]
 apply Mg.of _ (by decide)
 apply nr_le_rung (by decide) (by decide) (by decide)
 (refine Nat.le_trans (Nat.mul_le_mul_right _ h) (Nat.le_of_eq ?_));(rw [show (9223372036854775808 : Nat) = 2 ^ 63 from rfl, ← Nat.pow_add]; congr 1)
def sumW : List Int → List Nat → Int
 | a :: l, y :: m => unitsP (floatOfInt .f64 a) y + sumW l m
 | _, _ => 0
theorem sumW_next : ∀ {l : List Int} {m : List Nat} {i : Nat} (hi : i < l.length) (hj : i < m.length), sumW (l.take (i + 1)) (m.take (i + 1)) = sumW (l.take i) (m.take i) + unitsP (floatOfInt .f64 l[i]) m[i]
 | a :: l, y :: m, 0, _, _ => by simp [sumW]
 | a :: l, y :: m, i + 1, hi, hj => by
  (have h := sumW_next (l := l) (m := m) (i := i) (by simpa using hi) (by simpa using hj));(rw [List.take_succ_cons, List.take_succ_cons, List.take_succ_cons, List.take_succ_cons, sumW, sumW, h, List.getElem_cons_succ, List.getElem_cons_succ, Int.add_assoc])
theorem unitsP_bd (x y : Nat) : (unitsP x y).natAbs ≤ B 66 := by
 (obtain ⟨h1, h2⟩ := spe_bd x);(obtain ⟨h3, h4⟩ := spe_bd y);(obtain ⟨h5, h6⟩ := spm_bd x);(obtain ⟨h7, h8⟩ := spm_bd y);(unfold unitsP);(rw [Int.natAbs_mul, Int.natAbs_mul, Int.natAbs_pow]);(have e1 : (spm x).natAbs * (spm y).natAbs ≤ B 1 * B 1 := Nat.mul_le_mul (by unfold B; omega) (by unfold B; omega));(have e2 : (2 : Int).natAbs ^ (spe x + spe y + 2148).toNat ≤ B 64 := pow_B (show (spe x + spe y + 2148).toNat ≤ 64 * 64 by omega));(rw [show (66 : Nat) = 1 + 1 + 64 from rfl, B_add, B_add]);(exact Nat.mul_le_mul e1 e2)
theorem sumW_bd : ∀ (l : List Int) (m : List Nat), (sumW l m).natAbs ≤ l.length * B 66
 | [], _ => by simp [sumW]
 | _ :: _, [] => by simp [sumW]
 | a :: l, y :: m => by
  (rw [sumW, List.length_cons, Nat.add_mul, Nat.one_mul]);(have h1 := sumW_bd l m);(have h2 := unitsP_bd (floatOfInt .f64 a) y);(have := Int.natAbs_add_le (unitsP (floatOfInt .f64 a) y) (sumW l m));(omega)
theorem sumW_lt (l : List Int) (m : List Nat) (h : l.length ≤ 1048576) : (sumW l m).natAbs < B 67 := by
 exact Nat.lt_of_le_of_lt (sumW_bd l m) (few_B h (by decide))
def goodW (n : Int) (ws : List Int) (ys : List Nat) : Bool := decide (1 ≤ n ∧ n < 9223372036854775808) && decide (ws.length ≤ 1048576 ∧ ws.length = ys.length) && ws.all (fun x => decide (x.natAbs ≤ 9223372036854775808)) && ys.all fun x => decide (x < 18446744073709551616) && fin x
theorem goodW_n {n : Int} {ws : List Int} {ys : List Nat} (h : goodW n ws ys = true) : 1 ≤ n ∧ n < 9223372036854775808 := by
 (unfold goodW at h);(rw [Bool.and_eq_true, Bool.and_eq_true, Bool.and_eq_true] at h);(exact of_decide_eq_true h.1.1.1)
theorem goodW_len {n : Int} {ws : List Int} {ys : List Nat} (h : goodW n ws ys = true) : ws.length ≤ 1048576 ∧ ws.length = ys.length := by
 (unfold goodW at h);(rw [Bool.and_eq_true, Bool.and_eq_true, Bool.and_eq_true] at h);(exact of_decide_eq_true h.1.1.2)
theorem goodW_w {n : Int} {ws : List Int} {ys : List Nat} (h : goodW n ws ys = true) {i : Nat} (hi : i < ws.length) : (floatOfInt .f64 ws[i]) < 18446744073709551616 ∧ fin (floatOfInt .f64 ws[i]) = true := by
 (unfold goodW at h);(rw [Bool.and_eq_true, Bool.and_eq_true, Bool.and_eq_true, List.all_eq_true] at h);(have h2 := foi_mg (of_decide_eq_true (h.1.2 ws[i] (List.getElem_mem hi))));(exact ⟨h2.w, h2.fin (by decide)⟩)
theorem goodW_y {n : Int} {ws : List Int} {ys : List Nat} (h : goodW n ws ys = true) {i : Nat} (hi : i < ys.length) : ys[i] < 18446744073709551616 ∧ fin ys[i] = true := by
 (unfold goodW at h);(rw [Bool.and_eq_true, Bool.and_eq_true, Bool.and_eq_true, List.all_eq_true, List.all_eq_true] at h);(have h2 := h.2 ys[i] (List.getElem_mem hi));(rw [Bool.and_eq_true, decide_eq_true_iff] at h2);(exact h2)
theorem rdfo_at {l : List Nat} {i : Nat} (hi : i < l.length) : rdOf (0 : Nat) l (i : Int) = l[i] := by
 (unfold rdOf);(rw [Int.toNat_natCast, List.getD_eq_getElem?_getD, List.getElem?_eq_getElem hi]; rfl)
theorem rdio_at {l : List Int} {i : Nat} (hi : i < l.length) : rd l (i : Int) = l[i] := by
 (unfold rd);(rw [Int.toNat_natCast, List.getD_eq_getElem?_getD, List.getElem?_eq_getElem hi]; rfl)
theorem acc_new1 (W : World) : accZ (W.alloc (.cells (cellsF (fun _ => 0) false false) 160)) W.heap.size 0 false false := by
 (have h := heap_alloc_new W (.cells (cellsF (fun _ => 0) false false) 160));(have e : cellsF (wd (modB 0)) false false = cellsF (fun _ => 0) false false := cellsF_congr _ _ (fun i _ => by simp [wd, modB]));(unfold accZ acc accF);(rw [e]; exact h)
def interp_over.f (n : Int) (ws : List Int) (ys : List Nat) : Option Nat := if goodW n ws ys = true then some (overV (sumW ws ys) false false n.toNat) else none
set_option maxRecDepth 100000 in
set_option maxHeartbeats 1000000 in
theorem interp_over.calls (n : Int) (A1 : Option Addr) (c1 : Nat) (l1 : List Int) (A2 : Option Addr) (c2 : Nat) (l2 : List Nat) (r : Nat) (w : World) (hr1 : Kd.C (Kd.int .i64) w A1 l1.length l1) (hc1 : l1.length ≤ c1) (hr2 : Kd.C Kd.flt w A2 l2.length l2) (hc2 : l2.length ≤ c2) (h : interp_over.f n l1 l2 = some r) :
  Calls Tryz.prog 192 #[.int .i64 n, .slice A1 l1.length c1, .slice A2 l2.length c2] w fun e w' => e = .returned (.float .f64 r) ∧ Below w.heap.size w w' := by
 unfold interp_over.f at h
 by_cases hg : goodW n l1 l2 = true
 rotate_left
 ·rw [if_neg hg] at h; cases h
 (rw [if_pos hg] at h);(have hres := Option.some.inj h);(have HRES := Lib.hid hres);(obtain ⟨m, rfl⟩ : ∃ m : Nat, n = (m : Int) := ⟨n.toNat, by have := goodW_n hg; omega⟩);(have HN := Lib.hid (goodW_n hg));(have HLn := Lib.hid (goodW_len hg));(have HG := Lib.hid hg);(have HC1 := Aside0.mk hr1);(have HC2 := Aside0.mk hr2);(clear hr1 hc1 hr2 hc2 h hres hg);(go_enter Tryz.func192, Tryz.ntmps192)
 go_upto_region 2 with (go_at_call 134; refine (new_any _).mono ?_; rintro e w' ⟨rfl, rfl⟩)
 (have HA0 := Aside0.mk (acc_new1 w));(have HB0 := Aside0.mk (below_alloc (Below.refl w.heap.size w) (.cells (cellsF (fun _ => 0) false false) 160)));(have HW : ∀ (A : Addr) (v : Value), w.cell? A = some v → A.block < w.heap.size := fun A v h => World.block_lt_of_cell? w _ h);(generalize w.alloc (.cells (cellsF (fun _ => 0) false false) 160) = W0 at *);(generalize hsz : w.heap.size = b at *);(have HWW := Aside0.mk HW);(have HSZ := Lib.hid hsz);(clear HW hsz)
 go_wp2_with fail
 go_loopg [14] l1.length (fun n v14 wr => ∃ i : Nat, i + n = l1.length ∧ v14 = .int .i64 i ∧ Aside0 (accZ wr b (sumW (l1.take i) (l2.take i)) false false) ∧ Aside0 (Below b w wr))
 case atStart => exact ⟨0, by omega, rfl, HA0, HB0⟩
 case round =>
  (clear HA0 HB0);(obtain ⟨i, hin, rfl, HA, HBr⟩ := hrel)
  by_cases hlt : i < l1.length
  ·have hlt2 : i < l2.length := by have := HLn.out; omega
   (have hX := Lib.hid (goodW_w HG.out hlt));(have hY := Lib.hid (goodW_y HG.out hlt2));(obtain ⟨ad, e1, hx0⟩ := Kd.at_int HC1.out (i : Int) (by omega) (by omega));(cases e1);(obtain ⟨ae, e2, hy0⟩ := Kd.at_flt HC2.out (i : Int) (by omega) (by omega));(cases e2);(rw [rdio_at hlt, Int.toNat_natCast] at hx0);(rw [rdfo_at hlt2, Int.toNat_natCast] at hy0);(replace hx0 := (HBr.out.cell (HWW.out _ _ hx0)).trans hx0);(replace hy0 := (HBr.out.cell (HWW.out _ _ hy0)).trans hy0);(have hT := Lib.hid (sumW_next hlt hlt2));(generalize l1[i] = x at *);(generalize l2[i] = y at *);(have h1 : decide ((i : Int) < (l1.length : Int)) = true := decide_eq_true (by omega));(have h2 : decide ((i : Int) < (l2.length : Int)) = true := decide_eq_true (by omega))
   go_upto_region 5 with fail
   (have HA2 := Aside0.mk (show accZ wr.drew b (sumW (l1.take i) (l2.take i)) false false from HA.out));(have d1 : wr.drew.cell? (ad.add i) = some (.int .i64 x) := hx0);(have d2 : wr.drew.cell? (ae.add i) = some (.float .f64 y) := hy0);(have HBr2 := Aside0.mk (show Below b w wr.drew from below_drew HBr.out))
   go_region_with (go_at_call 93; refine (prod_fin b (floatOfInt .f64 x) y _ false false _ HA2.out hX.out.1 hY.out.1 hX.out.2 hY.out.2).mono ?_; rintro e w' ⟨rfl, hgr, hac⟩)
   all_goals
    (have HB5 := Aside0.mk (HBr2.out.grown hgr.out (by have := HBr2.out.size; rw [HSZ.out] at this; exact this) (fun k hk => by cases hk; exact Nat.le_refl _)));(clear d1 d2 HA2 HA HBr2 hgr)
    go_wp2_with fail
    go_roundg (gk - 1)
    case measure => omega
    case rel => exact ⟨i + 1, by omega, by have := HLn.out; exact congrArg (Value.int .i64) (by unfold wrap64; omega), ⟨by rw [hT.out]; exact hac.out⟩, ⟨HB5.out⟩⟩
  ·obtain rfl : i = l1.length := by omega
   (rw [List.take_length, show l2.take l1.length = l2 from List.take_of_length_le (by have := HLn.out; omega)] at HA);(have h1 : decide ((l1.length : Int) < (l1.length : Int)) = false := decide_eq_false (by omega));(have HO := Lib.hid (fun W' h => over_any b m (sumW l1 l2) false false W' h (by have := HN.out; omega) (by have := HN.out; omega) (sumW_lt l1 l2 HLn.out.1) (FV.divBy_any (by have := HN.out; omega) (by have := HN.out; omega))));(have HRV := Lib.hid (show overV (sumW l1 l2) false false m = r from HRES.out));(rw [HRV.out] at HO)
   go_wp2_with (go_at_call 101; refine (HO.out _ HA.out).mono ?_; rintro e w' ⟨rfl, hb9⟩)
   (go_ret);(exact ⟨rfl, by have h9 := below_step (show Below w.heap.size w wr by rw [HSZ.out]; exact HBr.out) hb9.out; exact h9⟩)

instance pwDec (l : List Int) : Decidable (l.Pairwise (· ≤ ·)) := inferInstance
def sort_SearchInts.f (l : List Int) (x : Int) : Option Int := if 0 < l.length ∧ l.length < 4611686018427387904 ∧ l.Pairwise (· ≤ ·) then some ((l.countP (fun y => !decide (x ≤ y)) : Nat) : Int) else none
theorem sort_SearchInts.calls (A : Option Addr) (c : Nat) (l : List Int) (x r : Int) (w : World) (hr : Kd.C (Kd.int .i64) w A l.length l) (hc : l.length ≤ c) (h : sort_SearchInts.f l x = some r) :
  Calls Tryz.prog 241 #[.slice A l.length c, .int .i64 x] w fun e w' => e = .returned (.int .i64 r) ∧ Below w.heap.size w w' := by
 unfold sort_SearchInts.f at h
 by_cases hg : 0 < l.length ∧ l.length < 4611686018427387904 ∧ l.Pairwise (· ≤ ·)
 rotate_left
 ·rw [if_neg hg] at h; cases h
 (rw [if_pos hg] at h);(obtain ⟨hl0, hl1, hp⟩ := hg);(obtain rfl := Option.some.inj h);(obtain ⟨ad, rfl, h0⟩ := Kd.at_int hr 0 (by omega) (by omega));(have hb := World.block_lt_of_cell? w _ h0);(obtain ⟨blk, off, spot⟩ := ad)
 have hs : spot = none := by
  unfold World.cell? at h0
  split at h0
  ·split at h0
   ·cases h0
   ·rename_i hn; simpa [Addr.add] using hn
  ·cases h0
 subst hs
 have hgt : ∀ i : Nat, i < l.length → l.toArray[i]! = rd l (i : Int) := fun i hi => by
  rw [rdio_at hi, getElem!_pos l.toArray i (by simpa using hi)]; simp
 refine Tryz.sort_SearchInts blk off c l.toArray x w (fun i hi => ?_) hb (by simpa using hl1) (fun a b hab hb h => ?_)
 ·have hi' : i < l.length := by simpa using hi
  (obtain ⟨ad', e, h1⟩ := Kd.at_int hr (i : Int) (by omega) (by omega));(cases e);(rw [hgt i hi']);(rw [Int.toNat_natCast] at h1);(unfold Addr.add at h1)
  by_cases ci : i = 0
  ·subst ci; rw [if_pos rfl] at h1; exact h1
  ·rw [if_neg ci] at h1; exact h1
 ·have hb' : b < l.length := by simpa using hb
  (rw [hgt a (by omega), rdio_at (show a < l.length by omega), decide_eq_true_iff] at h);(rw [hgt b hb', rdio_at hb', decide_eq_true_iff])
  rcases Nat.lt_or_eq_of_le hab with c | c
  ·have := (List.pairwise_iff_getElem.1 hp) a b (by omega) hb' c
   omega
  ·subst c; exact h
end Go.Proofs.YtmdoljecjliehaaGreat.FX
