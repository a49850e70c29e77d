/- grid.Mean: near of the exact sum, over how many there are. -/
import Derived.Test.YtmdoljecjliehaaGreatFGx2
import Derived.Test.YtmdoljecjliehaaGreatDv1
namespace Go.Proofs.YtmdoljecjliehaaGreat.FG
open Go.RowKit Go.Proofs.YtmdoljecjliehaaGreatW.PrintWords Go.Proofs.YtmdoljecjliehaaGreatW.PrintLast Go.Proofs.YtmdoljecjliehaaGreatW.PrintMore Tn
open Go.Proofs.YtmdoljecjliehaaGreat.FX
attribute [local go_sem] run_store_float run_neg_float run_fmul isSome_setCell
set_option linter.unusedVariables false
set_option linter.unusedSimpArgs false

def sumL : List Nat → Int
 | [] => 0
 | x :: l => units x + sumL l
theorem sumL_append : ∀ l m : List Nat, sumL (l ++ m) = sumL l + sumL m
 | [], m => by rw [List.nil_append, sumL, Int.zero_add]
 | x :: l, m => by rw [List.cons_append, sumL, sumL, sumL_append l m, Int.add_assoc]
theorem sumL_next {l : List Nat} {i : Nat} (hi : i < l.length) : sumL (l.take (i + 1)) = sumL (l.take i) + units l[i] := by
 rw [List.take_succ_eq_append_getElem hi, sumL_append]
 show _ + (_ + 0) = _
 rw [Int.add_zero]
theorem sumL_bd (b : Nat) (hb : ∀ x, (units x).natAbs ≤ b) : ∀ l : List Nat, (sumL l).natAbs ≤ l.length * b
 | [] => by simp [sumL]
 | x :: l => by
  (rw [sumL, List.length_cons, Nat.add_mul, Nat.one_mul]);(have h1 := sumL_bd b hb l);(have h2 := hb x);(have := Int.natAbs_add_le (units x) (sumL l));(omega)
theorem sumL_lt (l : List Nat) (h : l.length ≤ 1048576) : (sumL l).natAbs < B 67 :=
 Nat.lt_of_le_of_lt (sumL_bd (B 50) units_bd l) (few_B h (by decide))
def meanF (l : List Nat) : Nat := overV (sumL l) false false l.length
def goodN (l : List Nat) : Bool := decide (1 ≤ l.length ∧ l.length ≤ 1048576) && l.all fun x => decide (x < 18446744073709551616) && fin x
theorem goodN_len {l : List Nat} (h : goodN l = true) : 1 ≤ l.length ∧ l.length ≤ 1048576 := by
 (unfold goodN at h);(rw [Bool.and_eq_true] at h);(exact of_decide_eq_true h.1)
theorem goodN_at {l : List Nat} (h : goodN l = true) {i : Nat} (hi : i < l.length) : l[i] < 18446744073709551616 ∧ fin l[i] = true := by
 (unfold goodN at h);(rw [Bool.and_eq_true, List.all_eq_true] at h);(have h2 := h.2 l[i] (List.getElem_mem hi));(rw [Bool.and_eq_true, decide_eq_true_iff] at h2);(exact h2)
def grid_Mean.f (k : Nat) (l0 : List Nat) : Option (Nat × Int) :=
 (grid_check.f k l0).bind fun t => if t = 0 then (if goodN l0 = true then some (meanF l0, 0) else none) else some (0, t)
theorem rdfm_at {l : List Nat} {i : Nat} (hi : i < l.length) : rdOf (0 : Nat) l (i : Int) = l[i] := by
 (unfold rdOf);(rw [Int.toNat_natCast, List.getD_eq_getElem?_getD, List.getElem?_eq_getElem hi]; rfl)
theorem acc_new0 (W : World) : accZ (W.alloc (.cells (cellsF (fun _ => 0) false false) 160)) W.heap.size 0 false false := by
 (have h := heap_alloc_new W (.cells (cellsF (fun _ => 0) false false) 160));(have e : cellsF (wd (modB 0)) false false = cellsF (fun _ => 0) false false := cellsF_congr _ _ (fun i _ => by simp [wd, modB]));(unfold accZ acc accF);(rw [e]; exact h)
set_option maxRecDepth 100000 in
set_option maxHeartbeats 1000000 in
theorem mean_bad (k : Nat) (A0 : Option Addr) (c0 : Nat) (l0 : List Nat) (r1 : Int) (w : World) (hr0 : Kd.C Kd.flt w A0 l0.length l0) (hc0 : l0.length ≤ c0) (h : grid_check.f k l0 = some r1) (h0 : r1 ≠ 0) :
  Calls Tryz.prog 73 #[.slice A0 l0.length c0] w fun e w' => e = .returned (.tuple #[.float .f64 0, .int .i64 r1]) ∧ Below w.heap.size w w' := by
 (have HC := Aside0.mk hr0);(have HL := Aside0.mk hc0);(have H := Aside0.mk h);(have hb : (r1 != 0) = true := by simp [h0]);(clear hr0 hc0 h h0);(go_enter Tryz.func73, Tryz.ntmps73)
 go_wp2_with (go_at_call 131; refine (grid_check.calls k A0 c0 l0 r1 _ HC.out HL.out H.out).mono ?_; rintro e w' ⟨rfl, hb1⟩; have HB := Aside0.mk (hb1.below); clear hb1)
 (go_ret2);(exact ⟨rfl, HB.out⟩)
set_option maxRecDepth 100000 in
set_option maxHeartbeats 1000000 in
theorem mean_good (k : Nat) (A0 : Option Addr) (c0 : Nat) (l0 : List Nat) (w : World) (hr0 : Kd.C Kd.flt w A0 l0.length l0) (hc0 : l0.length ≤ c0) (h : grid_check.f k l0 = some 0) (hg : goodN l0 = true) :
  Calls Tryz.prog 73 #[.slice A0 l0.length c0] w fun e w' => e = .returned (.tuple #[.float .f64 (meanF l0), .int .i64 0]) ∧ Below w.heap.size w w' := by
 (have HC := Aside0.mk hr0);(have HL := Aside0.mk hc0);(have H := Aside0.mk h);(have HG := Lib.hid hg);(have HLn := Lib.hid (goodN_len hg));(obtain ⟨res, hres⟩ : ∃ res, meanF l0 = res := ⟨_, rfl⟩);(rw [hres]);(have HRES := Lib.hid hres);(clear hr0 hc0 h hg hres);(go_enter Tryz.func73, Tryz.ntmps73)
 go_upto_region 4 with (go_at_call 131; refine (grid_check.calls k A0 c0 l0 0 _ HC.out HL.out H.out).mono ?_; rintro e w' ⟨rfl, hb1⟩; have HB := Aside0.mk (hb1.below); clear hb1)
 rename_i w1
 go_upto_region 5 with (go_at_call 134; refine (new_any _).mono ?_; rintro e w' ⟨rfl, rfl⟩)
 (have HA0 := Aside0.mk (acc_new0 w'));(have HB0 := Aside0.mk (below_alloc HB.out (.cells (cellsF (fun _ => 0) false false) 160)));(have HBb := Lib.hid HB.out.size);(generalize w'.alloc (.cells (cellsF (fun _ => 0) false false) 160) = W0 at *);(generalize w'.heap.size = b at *)
 go_wp2_with fail
 go_loopg [18] l0.length (fun n v18 wr => ∃ i : Nat, i + n = l0.length ∧ v18 = .int .i64 i ∧ Aside0 (accZ wr b (sumL (l0.take i)) false false) ∧ Aside0 (Below w.heap.size w wr))
 case atStart => exact ⟨0, by omega, rfl, HA0, HB0⟩
 case round =>
  (clear HA0 HB0);(obtain ⟨i, hin, rfl, HA, HBr⟩ := hrel)
  by_cases hlt : i < l0.length
  ·have hX := Lib.hid (goodN_at HG.out hlt)
   (obtain ⟨ad, e1, hx0⟩ := Kd.at_flt HC.out (i : Int) (by omega) (by omega));(cases e1);(rw [rdfm_at hlt, Int.toNat_natCast] at hx0);(replace hx0 := (HBr.out.cell (World.block_lt_of_cell? w _ hx0)).trans hx0);(have hT := Lib.hid (sumL_next hlt));(generalize l0[i] = x at *);(have h1 : decide ((i : Int) < (l0.length : Int)) = true := decide_eq_true (by omega))
   go_wp2_with (go_at_call 135; refine (add_fin b x _ false false _ HA.out hX.out.1 hX.out.2).mono ?_; rintro e w' ⟨rfl, hgr, hac⟩)
   rename_i w5
   have HB5 := Aside0.mk (HBr.out.grown hgr.out HBr.out.size (fun k hk => by cases hk; exact HBb.out))
   go_roundg (gk - 1)
   case measure => omega
   case rel => exact ⟨i + 1, by omega, by have := HLn.out; exact congrArg (Value.int .i64) (by unfold wrap64; omega), ⟨by rw [hT.out]; exact hac.out⟩, ⟨HB5.out⟩⟩
  ·obtain rfl : i = l0.length := by omega
   (rw [List.take_length] at HA);(have h1 : decide ((l0.length : Int) < (l0.length : Int)) = false := decide_eq_false (by omega));(have HO := Lib.hid (fun W' h => over_any b l0.length (sumL l0) false false W' h HLn.out.1 (by have := HLn.out; omega) (sumL_lt l0 HLn.out.2) (FV.divBy_any HLn.out.1 (by have := HLn.out; omega))));(have HRV := Lib.hid (show overV (sumL l0) false false l0.length = res from HRES.out));(rw [HRV.out] at HO)
   go_wp2_with (go_at_call 101; refine (HO.out _ HA.out).mono ?_; rintro e w' ⟨rfl, hb9⟩)
   (go_ret2);(exact ⟨rfl, below_step HBr.out hb9.out⟩)
theorem grid_Mean.calls (k : Nat) (A0 : Option Addr) (c0 : Nat) (l0 : List Nat) (r1 : Nat) (r2 : Int) (w : World) (hr0 : Kd.C Kd.flt w A0 l0.length l0) (hc0 : l0.length ≤ c0) (h : grid_Mean.f k l0 = some (r1, r2)) :
  Calls Tryz.prog 73 #[.slice A0 l0.length c0] w fun e w' => e = .returned (.tuple #[.float .f64 r1, .int .i64 r2]) ∧ Below w.heap.size w w' := by
 (unfold grid_Mean.f at h);(obtain ⟨t, h1, h2⟩ := Option.bind_eq_some_iff.1 h)
 by_cases c : t = 0
 ·subst c
  rw [if_pos rfl] at h2
  by_cases d : goodN l0 = true
  ·rw [if_pos d] at h2
   (cases h2);(exact mean_good k A0 c0 l0 w hr0 hc0 h1 d)
  ·rw [if_neg d] at h2; cases h2
 ·rw [if_neg c] at h2
  (cases h2);(exact mean_bad k A0 c0 l0 r2 w hr0 hc0 h1 c)
end Go.Proofs.YtmdoljecjliehaaGreat.FG
