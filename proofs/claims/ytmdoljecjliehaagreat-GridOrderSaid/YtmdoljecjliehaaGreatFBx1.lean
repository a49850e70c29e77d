/- Texts packed into one: FBx0 FBx1. No condition. -/
import Derived.Test.YtmdoljecjliehaaGreatFy
import Derived.Test.YtmdoljecjliehaaGreatZ0
import Derived.Test.YtmdoljecjliehaaGreatFw
section
/- Written by the session's fprint.py out of the translation. -/
namespace Go.Proofs.YtmdoljecjliehaaGreat.FB
open Go.RowKit Go.Proofs.YtmdoljecjliehaaGreatW.PrintWords Go.Proofs.YtmdoljecjliehaaGreatW.PrintLast Go.Proofs.YtmdoljecjliehaaGreatW.PrintMore
attribute [local go_sem] max2_int min2_int max_two min_two max_three min_three max_four min_four   -- for this text's walks alone
open Go.Proofs.YtmdoljecjliehaaGreat.FX
attribute [local go_sem] run_store_float run_neg_float run_fmul run_fadd run_fsub run_fdiv run_ftoi isSome_setCell 
set_option linter.unusedVariables false
set_option linter.unusedSimpArgs false



def errW : Option Int → Value
 | none => .nilIface
 | some c => .iface 0 (.int .i64 c)
theorem errW_none : errW none = .nilIface := rfl
theorem errW_some (c : Int) : errW (some c) = .iface 0 (.int .i64 c) := rfl

structure S104 where
 f0 : Int
 f1 : Nat
 f2 : Int
def z104 : S104 := ⟨(0 : Int), (0 : Nat), (0 : Int)⟩
def k104 : Kd S104 := Kd.iso (Kd.pair (Kd.int .i64) (Kd.pair Kd.flt (Kd.int .i64))) (fun x : S104 => (x.f0, x.f1, x.f2))
theorem k104_open {w : World} {x : S104} {cs : List Value} (h : k104.K w x cs) : cs = [.int .i64 x.f0, .float .f64 x.f1, .int .i64 x.f2] := by
 (obtain ⟨_, _, rfl, rfl, ⟨_, _, rfl, rfl, rfl⟩⟩ := h);(exact rfl)
theorem k104_mk (w : World) (x : S104)  : k104.K w x [.int .i64 x.f0, .float .f64 x.f1, .int .i64 x.f2] := ⟨[.int .i64 x.f0], [.float .f64 x.f1, .int .i64 x.f2], rfl, rfl, ⟨[.float .f64 x.f1], [.int .i64 x.f2], rfl, rfl, rfl⟩⟩
def rd_T104 (xs : List S104) (i : Int) : S104 := xs.getD i.toNat z104
theorem at_T104 {w : World} {A : Option Addr} {n : Nat} {xs : List S104} (h : Kd.C k104 w A n xs) (i : Int) (h0 : 0 ≤ i) (h1 : i < n) : ∃ ad , A = some ad ∧ w.cell? (ad.add (i.toNat * 3)) = some (.int .i64 (rd_T104 xs i).f0) ∧ w.cell? ⟨(ad.add (i.toNat * 3)).block, (ad.add (i.toNat * 3)).off + 1, none⟩ = some (.float .f64 (rd_T104 xs i).f1) ∧ w.cell? ⟨(ad.add (i.toNat * 3)).block, (ad.add (i.toNat * 3)).off + 2, none⟩ = some (.int .i64 (rd_T104 xs i).f2) := by
 (obtain ⟨ad, c, e, _, hK, hc0⟩ := Kd.C_get h z104 i h0 h1);(have hc : ∀ j u, c[j]? = some u → w.cell? (ad.add (i.toNat * 3 + j)) = some u := hc0);(obtain rfl := k104_open hK);(exact ⟨ad, e, hc 0 _ rfl, by rw [← add_field _ _ 1 (by omega)]; exact hc 1 _ rfl, by rw [← add_field _ _ 2 (by omega)]; exact hc 2 _ rfl⟩)

end Go.Proofs.YtmdoljecjliehaaGreat.FB
end

section
/- Written by the session's fprint.py out of the translation. -/
namespace Go.Proofs.YtmdoljecjliehaaGreat.FB
open Go.RowKit Go.Proofs.YtmdoljecjliehaaGreatW.PrintWords Go.Proofs.YtmdoljecjliehaaGreatW.PrintLast Go.Proofs.YtmdoljecjliehaaGreatW.PrintMore
attribute [local go_sem] max2_int min2_int max_two min_two max_three min_three max_four min_four   -- for this text's walks alone
open Go.Proofs.YtmdoljecjliehaaGreat.FX
attribute [local go_sem] run_store_float run_neg_float run_fmul run_fadd run_fsub run_fdiv run_ftoi isSome_setCell 
set_option linter.unusedVariables false
set_option linter.unusedSimpArgs false

def flow_currency.f (a0 : Int) : Option (Bool) := if a0 ≥ 1 then (some (decide (a0 ≤ 8))) else (some false)
set_option maxHeartbeats 8000000 in
set_option maxRecDepth 100000 in
theorem flow_currency.calls (a0 : Int) (r : Bool) (w : World) (h : flow_currency.f a0 = some r) :
  Calls Tryz.prog 212 #[.int .i64 a0] w fun e w' => e = .returned (.bool r) ∧ Drawn0 w w' := by
 (have H : (if a0 ≥ 1 then (some (decide (a0 ≤ 8))) else (some false)) = some r := h);(clear h)
 by_cases c2 : a0 ≥ 1
 ·rw [if_pos c2] at H
  (have c2b0 : decide (1 ≤ a0) = true := decide_eq_true c2);(clear c2);(obtain rfl := Option.some.inj H);(go_enter Tryz.func212, Tryz.ntmps212);(go_wp2);(go_ret);(exact ⟨sA, dA⟩)
 ·rw [if_neg c2] at H
  (have c2b0 : decide (1 ≤ a0) = false := decide_eq_false c2);(clear c2);(obtain rfl := Option.some.inj H);(go_enter Tryz.func212, Tryz.ntmps212);(go_wp2);(go_ret);(exact ⟨sA, dA⟩)

mutual
def flow_Check.l0 : Nat → List (S104) → Int → Int → Option (Int × Int)
 | 0, _, _, _ => none
 | k + 1, x9, x10, x11 => if x11 < x10 then (if 0 ≤ x11 then (if x11 < (x9.length : Int) then (if ((rd_T104 x9 x11).f0) < 0 then (flow_Check.j1 k x11 x9 x10 x11 true ((rd_T104 x9 x11).f0) ((rd_T104 x9 x11).f1) ((rd_T104 x9 x11).f2)) else (flow_Check.j1 k x11 x9 x10 x11 (decide (((rd_T104 x9 x11).f0) > 109572)) ((rd_T104 x9 x11).f0) ((rd_T104 x9 x11).f1) ((rd_T104 x9 x11).f2))) else (none)) else (none)) else (some (0, 0))
def flow_Check.j1 : Nat → Int → List (S104) → Int → Int → Bool → Int → Nat → Int → Option (Int × Int)
 | 0, _, _, _, _, _, _, _, _ => none
 | k + 1, x4, x9, x10, x11, x16, x103000, x103001, x103002 => if x16 = true then (some (51, x4)) else ((flow_number.f x103001).bind fun t103 => (if t103 = true then ((flow_currency.f x103002).bind fun t104 => (if t104 = true then (flow_Check.l0 k x9 x10 (wrap64 (x11 + 1))) else (some (140, x4)))) else (some (91, x4))))
end
def flow_Check.f (k : Nat) (l0 : List (S104)) : Option (Int × Int) := if (l0.length : Int) > 4096 then (some (81, 0)) else (flow_Check.l0 k l0 (l0.length : Int) 0)
theorem flow_Check.mono_l : ∀ k, (∀ y0 y1 y2, LeO (flow_Check.l0 k y0 y1 y2) (flow_Check.l0 (k + 1) y0 y1 y2)) ∧ (∀ y0 y1 y2 y3 y4 y5 y6 y7, LeO (flow_Check.j1 k y0 y1 y2 y3 y4 y5 y6 y7) (flow_Check.j1 (k + 1) y0 y1 y2 y3 y4 y5 y6 y7))
 | 0 => ⟨fun _ _ _ r h => by simp [flow_Check.l0] at h, fun _ _ _ _ _ _ _ _ r h => by simp [flow_Check.j1] at h⟩
 | k + 1 => by
  (obtain ⟨ih0, ih1⟩ := flow_Check.mono_l k);(refine ⟨?_, ?_⟩)
  ·intro y0 y1 y2
   unfold flow_Check.l0
   repeat' first
   | (with_reducible exact ih0 _ _ _)
   | (with_reducible exact ih1 _ _ _ _ _ _ _ _)
   | (with_reducible exact LeO.refl _)
   | (with_reducible exact LeO.none _)
   | (with_reducible refine LeO.ite ?_ ?_)
   | (with_reducible refine LeO.bind ?_ (fun _ => ?_))
   | exact ih0 _ _ _
   | exact ih1 _ _ _ _ _ _ _ _
   | exact LeO.none _
   | refine LeO.ite ?_ ?_
   | refine LeO.bind ?_ (fun _ => ?_)
  ·intro y0 y1 y2 y3 y4 y5 y6 y7
   unfold flow_Check.j1
   repeat' first
   | (with_reducible exact ih0 _ _ _)
   | (with_reducible exact ih1 _ _ _ _ _ _ _ _)
   | (with_reducible exact LeO.refl _)
   | (with_reducible exact LeO.none _)
   | (with_reducible refine LeO.ite ?_ ?_)
   | (with_reducible refine LeO.bind ?_ (fun _ => ?_))
   | exact ih0 _ _ _
   | exact ih1 _ _ _ _ _ _ _ _
   | exact LeO.none _
   | refine LeO.ite ?_ ?_
   | refine LeO.bind ?_ (fun _ => ?_)
theorem flow_Check.mono : ∀ a0 k, LeO (flow_Check.f k a0) (flow_Check.f (k + 1) a0) := by
 (intro a0 k);(obtain ⟨ih0, ih1⟩ := flow_Check.mono_l k);(unfold flow_Check.f)
 repeat' first
  | (with_reducible exact ih0 _ _ _)
  | (with_reducible exact ih1 _ _ _ _ _ _ _ _)
  | (with_reducible exact LeO.refl _)
  | (with_reducible exact LeO.none _)
  | (with_reducible refine LeO.ite ?_ ?_)
  | (with_reducible refine LeO.bind ?_ (fun _ => ?_))
  | exact ih0 _ _ _
  | exact ih1 _ _ _ _ _ _ _ _
  | exact LeO.none _
  | refine LeO.ite ?_ ?_
  | refine LeO.bind ?_ (fun _ => ?_)
set_option maxHeartbeats 8000000 in
set_option maxRecDepth 100000 in
theorem flow_Check.calls (k : Nat) (A0 : Option Addr) (c0 : Nat) (l0 : List (S104)) (r1 : Int) (r2 : Int) (w : World) (hr0 : Kd.C k104 w A0 l0.length l0) (hc0 : l0.length ≤ c0) (h : flow_Check.f k l0 = some (r1, r2)) :
  Calls Tryz.prog 152 #[.slice A0 l0.length c0] w fun e w' => e = .returned (.tuple #[.int .i64 r1, .int .i64 r2]) ∧ Below w.heap.size w w' := by
 (have hu104 := Tryz.underlying104);(have HR0 := aM hr0);(have HC0 := aM hc0);(clear hr0 hc0);(have HB := aM (Below.refl w.heap.size w));(have H : (if (l0.length : Int) > 4096 then (some (81, 0)) else (flow_Check.l0 k l0 (l0.length : Int) 0)) = some (r1, r2) := h);(clear h)
 by_cases c2 : (l0.length : Int) > 4096
 ·rw [if_pos c2] at H
  (have c2b0 : decide (4096 < (l0.length : Int)) = true := decide_eq_true c2);(have c2b1 : decide (4096 < l0.length) = true := decide_eq_true (by omega));(clear c2);(simp only [Option.some.injEq, Prod.mk.injEq] at H);(obtain ⟨rfl, rfl⟩ := H);(go_enter Tryz.func152, Tryz.ntmps152);(go_wp2);(go_ret2);(exact ⟨eA, bA HB.out⟩)
 (rw [if_neg c2] at H);(have c2b0 : decide (4096 < (l0.length : Int)) = false := decide_eq_false c2);(have c2b1 : decide (4096 < l0.length) = false := decide_eq_false (by omega));(clear c2);(have H' := aM H);(clear H);(go_enter Tryz.func152, Tryz.ntmps152);(go_wp2)
 go_loopg [11] k (fun kq v11 w' => ∃ (x11_1 : Int), v11 = .int .i64 x11_1 ∧ Aside0 (flow_Check.l0 kq l0 (l0.length : Int) x11_1 = some (r1, r2)) ∧ Aside0 (kq ≤ k) ∧ Aside0 (Below w.heap.size w w'))
 case atStart => exact ⟨(0), sA, H', ⟨Nat.le_refl _⟩, ⟨bA HB.out⟩⟩
 case round =>
  (clear H');(try clear c1);(try clear c2);(try clear c2b0);(try clear c2b1);(try clear p2);(obtain ⟨x11_1, rfl, HA, HK1, HB⟩ := hrel)
  cases gk with
  | zero => exact absurd HA.out (by simp [flow_Check.l0])
  | succ k1 =>
   (have H := HA.out);(clear HA);(simp only [flow_Check.l0] at H)
   by_cases c3 : x11_1 < (l0.length : Int)
   rotate_left
   ·rw [if_neg c3] at H
    (have c3b0 : decide (x11_1 < (l0.length : Int)) = false := decide_eq_false c3);(clear c3);(simp only [Option.some.injEq, Prod.mk.injEq] at H);(obtain ⟨rfl, rfl⟩ := H);(go_wp2);(go_ret2);(exact ⟨eA, bA HB.out⟩)
   (rw [if_pos c3] at H);(have c3b0 : decide (x11_1 < (l0.length : Int)) = true := decide_eq_true c3);(clear c3);(revert H);(refine ifP fun c4 H => ?_);(have c4b0 := decide_eq_true c4);(clear c4);(revert H);(refine ifP fun c5 H => ?_);(have c5b0 := decide_eq_true c5);(clear c5);(have HC6 := aM H);(clear H);(have p101 : 0 ≤ (x11_1 : Int) := of_decide_eq_true asA);(have q101 : x11_1 < (l0.length : Int) := of_decide_eq_true asA);(obtain ⟨ad101, e101, hx101_0, hx101_1, hx101_2⟩ := at_T104 HR0.out x11_1 p101 q101);(cases e101);(replace hx101_0 := (HB.out.cell (World.block_lt_of_cell? w _ hx101_0)).trans hx101_0);(replace hx101_1 := (HB.out.cell (World.block_lt_of_cell? w _ hx101_1)).trans hx101_1);(replace hx101_2 := (HB.out.cell (World.block_lt_of_cell? w _ hx101_2)).trans hx101_2);(replace p101 := eq_true p101);(replace q101 := eq_true q101)
   go_upto_region 6 with (first | ((with_reducible refine gD 5 rfl ?_); refine boxW (N := 5) #[.int .i64 0, .float .f64 (0 : Nat), .int .i64 0] 104 HB ?_; clear HB; intro gb102 w7 BK102 HB GW102; have GE102 := GW102; obtain ⟨hcz8_0, hcz8_1, hcz8_2, hfz8_0, hfz8_1, hfz8_2⟩ := cz3 BK102.out))
   (try simp only [Act.put, List.setIfInBounds_toArray, List.set_cons_zero, List.set_cons_succ])
   go_cut [16] (fun v16 wc => ∃ (kq : Nat) (x16_5 : Bool), v16 = .bool x16_5 ∧ Aside0 (flow_Check.j1 kq x11_1 l0 (l0.length : Int) x11_1 x16_5 ((rd_T104 l0 x11_1).f0) ((rd_T104 l0 x11_1).f1) ((rd_T104 l0 x11_1).f2) = some (r1, r2)) ∧ Aside0 (kq ≤ k1) ∧ Aside0 (wc.heap[gb102]? = some (.cells #[.int .i64 ((rd_T104 l0 x11_1).f0), .float .f64 ((rd_T104 l0 x11_1).f1), .int .i64 ((rd_T104 l0 x11_1).f2)] 104 (0, 0))) ∧ Aside0 (Below w.heap.size w wc))
   case first =>
    (have H := HC6.out);(clear HC6)
    by_cases c9 : ((rd_T104 l0 x11_1).f0) < 0
    ·rw [if_pos c9] at H
     (have c9b0 : decide (((rd_T104 l0 x11_1).f0) < 0) = true := decide_eq_true c9);(clear c9)
     (first | rw [c9b0] | (simp only [i64_w, i32_w]; rw [c9b0]) | skip)
     (have H' := aM H);(clear H);(obtain ⟨hcz10_0, hcz10_1, hcz10_2, hfz10_0, hfz10_1, hfz10_2⟩ := cz3 BK102.out);(go_wp2);(go_meet)
     case rel => exact ⟨_, (true), sA, H', ⟨by have := HK1.out; first | omega | exact Nat.le_refl _⟩, ⟨by (with_reducible repeat (first | refine blk_drewN ?_ _ | refine blk_drew ?_ | refine blk_alloc ?_ _)); refine blk_put (cs := #[.int .i64 ((rd_T104 l0 x11_1).f0), .float .f64 ((rd_T104 l0 x11_1).f1), .int .i64 0]) ?_ 2 _ rfl; (with_reducible repeat (first | refine blk_drewN ?_ _ | refine blk_drew ?_ | refine blk_alloc ?_ _)); refine blk_put (cs := #[.int .i64 ((rd_T104 l0 x11_1).f0), .float .f64 (0 : Nat), .int .i64 0]) ?_ 1 _ rfl; (with_reducible repeat (first | refine blk_drewN ?_ _ | refine blk_drew ?_ | refine blk_alloc ?_ _)); refine blk_put (cs := #[.int .i64 0, .float .f64 (0 : Nat), .int .i64 0]) ?_ 0 _ rfl; (with_reducible repeat (first | refine blk_drewN ?_ _ | refine blk_drew ?_ | refine blk_alloc ?_ _)); exact BK102.out⟩, ⟨bG HB.out⟩⟩
    (rw [if_neg c9] at H);(have c9b0 : decide (((rd_T104 l0 x11_1).f0) < 0) = false := decide_eq_false c9);(clear c9)
    (first | rw [c9b0] | (simp only [i64_w, i32_w]; rw [c9b0]) | skip)
    (have H' := aM H);(clear H);(obtain ⟨hcz11_0, hcz11_1, hcz11_2, hfz11_0, hfz11_1, hfz11_2⟩ := cz3 BK102.out);(go_wp2);(go_meet)
    case rel => exact ⟨_, (decide (((rd_T104 l0 x11_1).f0) > 109572)), sA, H', ⟨by have := HK1.out; first | omega | exact Nat.le_refl _⟩, ⟨by (with_reducible repeat (first | refine blk_drewN ?_ _ | refine blk_drew ?_ | refine blk_alloc ?_ _)); refine blk_put (cs := #[.int .i64 ((rd_T104 l0 x11_1).f0), .float .f64 ((rd_T104 l0 x11_1).f1), .int .i64 0]) ?_ 2 _ rfl; (with_reducible repeat (first | refine blk_drewN ?_ _ | refine blk_drew ?_ | refine blk_alloc ?_ _)); refine blk_put (cs := #[.int .i64 ((rd_T104 l0 x11_1).f0), .float .f64 (0 : Nat), .int .i64 0]) ?_ 1 _ rfl; (with_reducible repeat (first | refine blk_drewN ?_ _ | refine blk_drew ?_ | refine blk_alloc ?_ _)); refine blk_put (cs := #[.int .i64 0, .float .f64 (0 : Nat), .int .i64 0]) ?_ 0 _ rfl; (with_reducible repeat (first | refine blk_drewN ?_ _ | refine blk_drew ?_ | refine blk_alloc ?_ _)); exact BK102.out⟩, ⟨bG HB.out⟩⟩
   case rest =>
    (clear HC6);(try clear c1);(try clear p1);(try clear q1);(try clear hx1);(try clear c2);(try clear c2b0);(try clear c2b1);(try clear p2);(try clear c3);(try clear c3b0);(try clear c4);(try clear c4b0);(try clear c5);(try clear c5b0);(try clear c9);(try clear c9b0);(try clear p10);(try clear q10);(try clear hx10);(try clear hcz10_0);(try clear hcz10_1);(try clear hcz10_2);(try clear hcz11_0);(try clear hcz11_1);(try clear hcz11_2);(try clear hcz8_0);(try clear hcz8_1);(try clear hcz8_2);(try clear hfz10_0);(try clear hfz10_1);(try clear hfz10_2);(try clear hfz11_0);(try clear hfz11_1);(try clear hfz11_2);(try clear hfz8_0);(try clear hfz8_1);(try clear hfz8_2);(try clear hx101_0);(try clear hx101_1);(try clear hx101_2);(try clear p101);(try clear p2);(try clear q101);(obtain ⟨kq, x16_5, rfl, HA, HJ5, BK102, HB⟩ := hcut)
    cases kq with
    | zero => exact absurd HA.out (by simp [flow_Check.j1])
    | succ kj5 =>
     (have H := HA.out);(clear HA);(simp only [flow_Check.j1] at H)
     by_cases c12 : x16_5 = true
     ·subst c12
      (have H1 : (some (51, x11_1)) = some (r1, r2) := by rw [if_pos rfl] at H; exact H);(clear H);(have H := H1);(clear H1);(simp only [Option.some.injEq, Prod.mk.injEq] at H);(obtain ⟨rfl, rfl⟩ := H);(go_wp2);(go_ret2);(exact ⟨eA, bG HB.out⟩)
     (replace c12 := Bool.eq_false_iff.mpr c12);(subst c12);(have H1 : ((flow_number.f ((rd_T104 l0 x11_1).f1)).bind fun t103 => (if t103 = true then ((flow_currency.f ((rd_T104 l0 x11_1).f2)).bind fun t104 => (if t104 = true then (flow_Check.l0 kj5 l0 (l0.length : Int) (wrap64 (x11_1 + 1))) else (some (140, x11_1)))) else (some (91, x11_1)))) = some (r1, r2) := by rw [if_neg (show ¬ (false = true) by decide)] at H; exact H);(clear H);(have H := H1);(clear H1);(revert H);(refine bE ?_);(rintro t103 A13 H)
     by_cases c14 : t103 = true
     rotate_left
     ·replace c14 := Bool.eq_false_iff.mpr c14
      (subst c14);(have H1 : (some (91, x11_1)) = some (r1, r2) := by rw [if_neg (show ¬ (false = true) by decide)] at H; exact H);(clear H);(have H := H1);(clear H1);(simp only [Option.some.injEq, Prod.mk.injEq] at H);(obtain ⟨rfl, rfl⟩ := H);(obtain ⟨hcz19_0, hcz19_1, hcz19_2, hfz19_0, hfz19_1, hfz19_2⟩ := cz3 BK102.out)
      go_wp2_with (first | ((with_reducible refine gate_callee (f := 211) rfl ?_); refine goL (N := some 29) Tryz.func211 #[.float .f64 ((rd_T104 l0 x11_1).f1)] ?_; (with_reducible refine (flow_number.calls ((rd_T104 l0 x11_1).f1) false _ A13.out).mono ?_); rintro e w' ⟨rfl, ⟨nd, rfl⟩⟩; refine ⟨_, rfl, ?_⟩))
      (go_ret2);(exact ⟨eA, bG HB.out⟩)
     (subst c14);(have H1 : ((flow_currency.f ((rd_T104 l0 x11_1).f2)).bind fun t104 => (if t104 = true then (flow_Check.l0 kj5 l0 (l0.length : Int) (wrap64 (x11_1 + 1))) else (some (140, x11_1)))) = some (r1, r2) := by rw [if_pos rfl] at H; exact H);(clear H);(have H := H1);(clear H1);(revert H);(refine bE ?_);(rintro t104 A15 H)
     by_cases c16 : t104 = true
     rotate_left
     ·replace c16 := Bool.eq_false_iff.mpr c16
      (subst c16);(have H1 : (some (140, x11_1)) = some (r1, r2) := by rw [if_neg (show ¬ (false = true) by decide)] at H; exact H);(clear H);(have H := H1);(clear H1);(simp only [Option.some.injEq, Prod.mk.injEq] at H);(obtain ⟨rfl, rfl⟩ := H);(obtain ⟨hcz18_0, hcz18_1, hcz18_2, hfz18_0, hfz18_1, hfz18_2⟩ := cz3 BK102.out)
      go_wp2_with (first | ((with_reducible refine gate_callee (f := 211) rfl ?_); refine goL (N := some 29) Tryz.func211 #[.float .f64 ((rd_T104 l0 x11_1).f1)] ?_; (with_reducible refine (flow_number.calls ((rd_T104 l0 x11_1).f1) true _ A13.out).mono ?_); rintro e w' ⟨rfl, ⟨nd, rfl⟩⟩; refine ⟨_, rfl, ?_⟩) | ((with_reducible refine gate_callee (f := 212) rfl ?_); refine goL (N := some 35) Tryz.func212 #[.int .i64 ((rd_T104 l0 x11_1).f2)] ?_; (with_reducible refine (flow_currency.calls ((rd_T104 l0 x11_1).f2) false _ A15.out).mono ?_); rintro e w' ⟨rfl, ⟨nd, rfl⟩⟩; refine ⟨_, rfl, ?_⟩))
      (go_ret2);(exact ⟨eA, bG HB.out⟩)
     (subst c16);(have H1 : (flow_Check.l0 kj5 l0 (l0.length : Int) (wrap64 (x11_1 + 1))) = some (r1, r2) := by rw [if_pos rfl] at H; exact H);(clear H);(have H := H1);(clear H1);(have H' := aM H);(clear H);(obtain ⟨hcz17_0, hcz17_1, hcz17_2, hfz17_0, hfz17_1, hfz17_2⟩ := cz3 BK102.out)
     go_wp2_with (first | ((with_reducible refine gate_callee (f := 211) rfl ?_); refine goL (N := some 29) Tryz.func211 #[.float .f64 ((rd_T104 l0 x11_1).f1)] ?_; (with_reducible refine (flow_number.calls ((rd_T104 l0 x11_1).f1) true _ A13.out).mono ?_); rintro e w' ⟨rfl, ⟨nd, rfl⟩⟩; refine ⟨_, rfl, ?_⟩) | ((with_reducible refine gate_callee (f := 212) rfl ?_); refine goL (N := some 35) Tryz.func212 #[.int .i64 ((rd_T104 l0 x11_1).f2)] ?_; (with_reducible refine (flow_currency.calls ((rd_T104 l0 x11_1).f2) true _ A15.out).mono ?_); rintro e w' ⟨rfl, ⟨nd, rfl⟩⟩; refine ⟨_, rfl, ?_⟩))
     go_roundg kj5
     case measure => have := HK1.out; have := HJ5.out; omega
     case rel => exact ⟨(wrap64 (x11_1 + 1)), sA, H', ⟨by have := HK1.out; have := HJ5.out; omega⟩, ⟨bG HB.out⟩⟩

end Go.Proofs.YtmdoljecjliehaaGreat.FB
end
