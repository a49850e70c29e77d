/- Texts packed into one: FVx0 FVx1. No condition. -/
import Derived.Test.YtmdoljecjliehaaGreatDv0
import Derived.Test.YtmdoljecjliehaaGreatZ0
import Derived.Test.YtmdoljecjliehaaGreatFw
section
/- Written by the session's fprint.py out of the translation. -/
namespace Go.Proofs.YtmdoljecjliehaaGreat.FV
open Go.RowKit Go.Proofs.YtmdoljecjliehaaGreatW.PrintWords Go.Proofs.YtmdoljecjliehaaGreatW.PrintLast Go.Proofs.YtmdoljecjliehaaGreatW.PrintMore
attribute [local go_sem] max2_int min2_int max_two min_two max_three min_three max_four min_four   -- for this text's walks alone
open Go.Proofs.YtmdoljecjliehaaGreat.FX
attribute [local go_sem] run_store_float run_neg_float run_fmul run_fadd run_fsub run_fdiv run_ftoi isSome_setCell 
set_option linter.unusedVariables false
set_option linter.unusedSimpArgs false



def errW : Option Int → Value
 | none => .nilIface
 | some c => .iface 0 (.int .i64 c)
theorem errW_none : errW none = .nilIface := rfl
theorem errW_some (c : Int) : errW (some c) = .iface 0 (.int .i64 c) := rfl

-- the values' own types

end Go.Proofs.YtmdoljecjliehaaGreat.FV
end

section
/- Written by the session's fprint.py out of the translation. -/
namespace Go.Proofs.YtmdoljecjliehaaGreat.FV
open Go.RowKit Go.Proofs.YtmdoljecjliehaaGreatW.PrintWords Go.Proofs.YtmdoljecjliehaaGreatW.PrintLast Go.Proofs.YtmdoljecjliehaaGreatW.PrintMore
attribute [local go_sem] max2_int min2_int max_two min_two max_three min_three max_four min_four   -- for this text's walks alone
open Go.Proofs.YtmdoljecjliehaaGreat.FX
attribute [local go_sem] run_store_float run_neg_float run_fmul run_fadd run_fsub run_fdiv run_ftoi isSome_setCell 
set_option linter.unusedVariables false
set_option linter.unusedSimpArgs false

mutual
def bits_Div64.j2 : Nat → Int → Int → Int → Int → Int → Int → Int → Int → Option (Int × Int)
 | 0, _, _, _, _, _, _, _, _ => none
 | k + 1, x2, x8, x9, x10, x11, x13, x14, x15 => if x9 = 0 then (none) else (bits_Div64.l1 k x2 x8 x9 x10 x14 x15 (IntKind.u64.wrap ((IntKind.u64.wrap ((IntKind.u64.wrap ((IntKind.u64.wrap (x11 * 4294967296)) + x13)) - (IntKind.u64.wrap (x15 * x2)))) - (IntKind.u64.wrap ((IntKind.u64.wrap (Int.tdiv (IntKind.u64.wrap ((IntKind.u64.wrap ((IntKind.u64.wrap (x11 * 4294967296)) + x13)) - (IntKind.u64.wrap (x15 * x2)))) x9)) * x9)))) (IntKind.u64.wrap ((IntKind.u64.wrap ((IntKind.u64.wrap (x11 * 4294967296)) + x13)) - (IntKind.u64.wrap (x15 * x2)))) (IntKind.u64.wrap (Int.tdiv (IntKind.u64.wrap ((IntKind.u64.wrap ((IntKind.u64.wrap (x11 * 4294967296)) + x13)) - (IntKind.u64.wrap (x15 * x2)))) x9)))
def bits_Div64.l1 : Nat → Int → Int → Int → Int → Int → Int → Int → Int → Int → Option (Int × Int)
 | 0, _, _, _, _, _, _, _, _, _ => none
 | k + 1, x2, x8, x9, x10, x14, x15, x16, x17, x18 => if x18 ≥ 4294967296 then (bits_Div64.j4 k x2 x8 x9 x10 x14 x15 x16 x17 x18 true) else (bits_Div64.j4 k x2 x8 x9 x10 x14 x15 x16 x17 x18 (decide ((IntKind.u64.wrap (x18 * x10)) > (IntKind.u64.wrap ((IntKind.u64.wrap (4294967296 * x16)) + x14)))))
def bits_Div64.j4 : Nat → Int → Int → Int → Int → Int → Int → Int → Int → Int → Bool → Option (Int × Int)
 | 0, _, _, _, _, _, _, _, _, _, _ => none
 | k + 1, x2, x8, x9, x10, x14, x15, x16, x17, x18, x113 => if x113 = true then (if (IntKind.u64.wrap (x16 + x9)) ≥ 4294967296 then (if 0 ≤ x8 then (some (IntKind.u64.wrap ((IntKind.u64.wrap (x15 * 4294967296)) + (IntKind.u64.wrap (x18 - 1))), shr .u64 (IntKind.u64.wrap ((IntKind.u64.wrap ((IntKind.u64.wrap (x17 * 4294967296)) + x14)) - (IntKind.u64.wrap ((IntKind.u64.wrap (x18 - 1)) * x2)))) x8)) else (none)) else (bits_Div64.l1 k x2 x8 x9 x10 x14 x15 (IntKind.u64.wrap (x16 + x9)) x17 (IntKind.u64.wrap (x18 - 1)))) else (if 0 ≤ x8 then (some (IntKind.u64.wrap ((IntKind.u64.wrap (x15 * 4294967296)) + x18), shr .u64 (IntKind.u64.wrap ((IntKind.u64.wrap ((IntKind.u64.wrap (x17 * 4294967296)) + x14)) - (IntKind.u64.wrap (x18 * x2)))) x8)) else (none))
def bits_Div64.l0 : Nat → Int → Int → Int → Int → Int → Int → Int → Int → Int → Option (Int × Int)
 | 0, _, _, _, _, _, _, _, _, _ => none
 | k + 1, x2, x8, x9, x10, x11, x13, x14, x15, x16 => if x15 ≥ 4294967296 then (bits_Div64.j1 k x2 x8 x9 x10 x11 x13 x14 x15 x16 true) else (bits_Div64.j1 k x2 x8 x9 x10 x11 x13 x14 x15 x16 (decide ((IntKind.u64.wrap (x15 * x10)) > (IntKind.u64.wrap ((IntKind.u64.wrap (4294967296 * x16)) + x13)))))
def bits_Div64.j1 : Nat → Int → Int → Int → Int → Int → Int → Int → Int → Int → Bool → Option (Int × Int)
 | 0, _, _, _, _, _, _, _, _, _, _ => none
 | k + 1, x2, x8, x9, x10, x11, x13, x14, x15, x16, x78 => if x78 = true then (if (IntKind.u64.wrap (x16 + x9)) ≥ 4294967296 then (bits_Div64.j2 k x2 x8 x9 x10 x11 x13 x14 (IntKind.u64.wrap (x15 - 1))) else (bits_Div64.l0 k x2 x8 x9 x10 x11 x13 x14 (IntKind.u64.wrap (x15 - 1)) (IntKind.u64.wrap (x16 + x9)))) else (bits_Div64.j2 k x2 x8 x9 x10 x11 x13 x14 x15)
end
def bits_Div64.f (k : Nat) (a0 : Int) (a1 : Int) (a2 : Int) : Option (Int × Int) := if a2 = 0 then (none) else (if a2 ≤ a0 then (none) else (if a0 = 0 then (some (IntKind.u64.wrap (Int.tdiv a1 a2), Int.tmod a1 a2)) else ((bits_Lz.f a2).bind fun t101 => (if 0 ≤ (IntKind.u64.wrap (t101)) then (if 0 ≤ (IntKind.u64.wrap (64 - (IntKind.u64.wrap (t101)))) then (if ((shl .u64 a2 (IntKind.u64.wrap (t101))) / 4294967296) = 0 then (none) else (bits_Div64.l0 k (shl .u64 a2 (IntKind.u64.wrap (t101))) (IntKind.u64.wrap (t101)) ((shl .u64 a2 (IntKind.u64.wrap (t101))) / 4294967296) (Go.bits .and .u64 (shl .u64 a2 (IntKind.u64.wrap (t101))) 4294967295) (Go.bits .or .u64 (shl .u64 a0 (IntKind.u64.wrap (t101))) (shr .u64 a1 (IntKind.u64.wrap (64 - (IntKind.u64.wrap (t101)))))) ((shl .u64 a1 (IntKind.u64.wrap (t101))) / 4294967296) (Go.bits .and .u64 (shl .u64 a1 (IntKind.u64.wrap (t101))) 4294967295) (IntKind.u64.wrap (Int.tdiv (Go.bits .or .u64 (shl .u64 a0 (IntKind.u64.wrap (t101))) (shr .u64 a1 (IntKind.u64.wrap (64 - (IntKind.u64.wrap (t101)))))) ((shl .u64 a2 (IntKind.u64.wrap (t101))) / 4294967296))) (IntKind.u64.wrap ((Go.bits .or .u64 (shl .u64 a0 (IntKind.u64.wrap (t101))) (shr .u64 a1 (IntKind.u64.wrap (64 - (IntKind.u64.wrap (t101)))))) - (IntKind.u64.wrap ((IntKind.u64.wrap (Int.tdiv (Go.bits .or .u64 (shl .u64 a0 (IntKind.u64.wrap (t101))) (shr .u64 a1 (IntKind.u64.wrap (64 - (IntKind.u64.wrap (t101)))))) ((shl .u64 a2 (IntKind.u64.wrap (t101))) / 4294967296))) * ((shl .u64 a2 (IntKind.u64.wrap (t101))) / 4294967296))))))) else (none)) else (none)))))
set_option maxHeartbeats 8000000 in
set_option maxRecDepth 100000 in
theorem bits_Div64.calls (k : Nat) (a0 : Int) (a1 : Int) (a2 : Int) (r1 : Int) (r2 : Int) (w : World) (h : bits_Div64.f k a0 a1 a2 = some (r1, r2)) :
  Calls Tryz.prog 170 #[.int .u64 a0, .int .u64 a1, .int .u64 a2] w fun e w' => e = .returned (.tuple #[.int .u64 r1, .int .u64 r2]) ∧ Drawn0 w w' := by
 (have H : (if a2 = 0 then (none) else (if a2 ≤ a0 then (none) else (if a0 = 0 then (some (IntKind.u64.wrap (Int.tdiv a1 a2), Int.tmod a1 a2)) else ((bits_Lz.f a2).bind fun t101 => (if 0 ≤ (IntKind.u64.wrap (t101)) then (if 0 ≤ (IntKind.u64.wrap (64 - (IntKind.u64.wrap (t101)))) then (if ((shl .u64 a2 (IntKind.u64.wrap (t101))) / 4294967296) = 0 then (none) else (bits_Div64.l0 k (shl .u64 a2 (IntKind.u64.wrap (t101))) (IntKind.u64.wrap (t101)) ((shl .u64 a2 (IntKind.u64.wrap (t101))) / 4294967296) (Go.bits .and .u64 (shl .u64 a2 (IntKind.u64.wrap (t101))) 4294967295) (Go.bits .or .u64 (shl .u64 a0 (IntKind.u64.wrap (t101))) (shr .u64 a1 (IntKind.u64.wrap (64 - (IntKind.u64.wrap (t101)))))) ((shl .u64 a1 (IntKind.u64.wrap (t101))) / 4294967296) (Go.bits .and .u64 (shl .u64 a1 (IntKind.u64.wrap (t101))) 4294967295) (IntKind.u64.wrap (Int.tdiv (Go.bits .or .u64 (shl .u64 a0 (IntKind.u64.wrap (t101))) (shr .u64 a1 (IntKind.u64.wrap (64 - (IntKind.u64.wrap (t101)))))) ((shl .u64 a2 (IntKind.u64.wrap (t101))) / 4294967296))) (IntKind.u64.wrap ((Go.bits .or .u64 (shl .u64 a0 (IntKind.u64.wrap (t101))) (shr .u64 a1 (IntKind.u64.wrap (64 - (IntKind.u64.wrap (t101)))))) - (IntKind.u64.wrap ((IntKind.u64.wrap (Int.tdiv (Go.bits .or .u64 (shl .u64 a0 (IntKind.u64.wrap (t101))) (shr .u64 a1 (IntKind.u64.wrap (64 - (IntKind.u64.wrap (t101)))))) ((shl .u64 a2 (IntKind.u64.wrap (t101))) / 4294967296))) * ((shl .u64 a2 (IntKind.u64.wrap (t101))) / 4294967296))))))) else (none)) else (none)))))) = some (r1, r2) := h);(clear h)
 by_cases c4 : a2 = 0
 ·rw [if_pos c4] at H
  exact absurd H (by simp)
 ·rw [if_neg c4] at H
  (have c4b0 : (a2 == 0) = false := beq_eq_false_iff_ne.mpr c4);(have c4b1 : (a2 != 0) = true := bne_iff_ne.mpr c4)
  by_cases c5 : a2 ≤ a0
  ·rw [if_pos c5] at H
   exact absurd H (by simp)
  ·rw [if_neg c5] at H
   (have c5b0 : decide (a2 ≤ a0) = false := decide_eq_false c5);(clear c5)
   by_cases c6 : a0 = 0
   ·rw [if_pos c6] at H
    (have c6b0 : (a0 == 0) = true := beq_iff_eq.mpr c6);(have c6b1 : (a0 != 0) = false := bne_eq_false_iff_eq.mpr c6);(clear c6);(simp only [Option.some.injEq, Prod.mk.injEq] at H);(obtain ⟨rfl, rfl⟩ := H);(go_enter Tryz.func170, Tryz.ntmps170);(go_wp2)
    repeat (go_quiet (fail); try go_wp2)
    (go_ret2);(exact ⟨sA, dA⟩)
   (rw [if_neg c6] at H);(have c6b0 : (a0 == 0) = false := beq_eq_false_iff_ne.mpr c6);(have c6b1 : (a0 != 0) = true := bne_iff_ne.mpr c6);(revert H);(refine bE ?_);(rintro t101 A7 H);(generalize hji8 : (IntKind.u64.wrap (t101)) = ji8 at H)
   (try rw [hji8] at A7)
   (revert H);(refine ifP fun c9 H => ?_);(have c9b0 := eq_true c9);(have c9b1 : decide (0 ≤ (ji8)) = true := decide_eq_true c9);(clear c9);(generalize hji10 : (shl .u64 a2 (ji8)) = ji10 at H)
   (try rw [hji10] at A7)
   (have hji10_ : (IntKind.u64.wrap (a2 * 2 ^ min (ji8).toNat 64)) = ji10 := hji10);(have hji10z : (ji8) ≤ 64 → (IntKind.u64.wrap (a2 * 2 ^ (ji8).toNat)) = ji10 := shl_small hji10);(have c11b0 := eq_true (of_decide_eq_true asA : 0 ≤ (ji8)));(generalize hji12 : (shl .u64 a0 (ji8)) = ji12 at H)
   (try rw [hji12] at A7)
   (have hji12_ : (IntKind.u64.wrap (a0 * 2 ^ min (ji8).toNat 64)) = ji12 := hji12);(have hji12z : (ji8) ≤ 64 → (IntKind.u64.wrap (a0 * 2 ^ (ji8).toNat)) = ji12 := shl_small hji12);(generalize hji13 : (IntKind.u64.wrap (64 - (ji8))) = ji13 at H)
   (try rw [hji13] at A7)
   (revert H);(refine ifP fun c14 H => ?_);(have c14b0 := eq_true c14);(have c14b1 : decide (0 ≤ (ji13)) = true := decide_eq_true c14);(clear c14);(generalize hji15 : (shr .u64 a1 (ji13)) = ji15 at H)
   (try rw [hji15] at A7)
   (have hji15_ : (a1 / 2 ^ min (ji13).toNat 64) = ji15 := hji15);(have hji15z : (ji13) ≤ 64 → (a1 / 2 ^ (ji13).toNat) = ji15 := shr_small hji15);(have c16b0 := eq_true (of_decide_eq_true asA : 0 ≤ (ji8)));(generalize hji17 : (shl .u64 a1 (ji8)) = ji17 at H)
   (try rw [hji17] at A7)
   (have hji17_ : (IntKind.u64.wrap (a1 * 2 ^ min (ji8).toNat 64)) = ji17 := hji17);(have hji17z : (ji8) ≤ 64 → (IntKind.u64.wrap (a1 * 2 ^ (ji8).toNat)) = ji17 := shl_small hji17)
   by_cases c18 : ((ji10) / 4294967296) = 0
   ·rw [if_pos c18] at H
    exact absurd H (by simp)
   ·rw [if_neg c18] at H
    (have c18b0 : (((ji10) / 4294967296) == 0) = false := beq_eq_false_iff_ne.mpr c18);(have c18b1 : (((ji10) / 4294967296) != 0) = true := bne_iff_ne.mpr c18);(have HC19 := aM H);(clear H);(go_enter Tryz.func170, Tryz.ntmps170)
    go_upto_block 0 with (first | (go_at_call 224; (with_reducible refine (bits_Lz.calls a2 t101 _ A7.out).mono ?_); rintro e w' ⟨rfl, ⟨nd, rfl⟩⟩; (try exact ddA)))
    repeat (go_quiet (first | (go_at_call 224; (with_reducible refine (bits_Lz.calls a2 t101 _ A7.out).mono ?_); rintro e w' ⟨rfl, ⟨nd, rfl⟩⟩; (try exact ddA))); go_upto_block 0 with (first | (go_at_call 224; (with_reducible refine (bits_Lz.calls a2 t101 _ A7.out).mono ?_); rintro e w' ⟨rfl, ⟨nd, rfl⟩⟩; (try exact ddA))))
    (try simp only [Act.put, List.setIfInBounds_toArray, List.set_cons_zero, List.set_cons_succ])
    go_cut [15] (fun v15 wc => ∃ (kq : Nat) (x15_18 : Int), v15 = .int .u64 x15_18 ∧ Aside0 (bits_Div64.j2 kq ji10 ji8 ((ji10) / 4294967296) (Go.bits .and .u64 (ji10) 4294967295) (Go.bits .or .u64 (ji12) (ji15)) ((ji17) / 4294967296) (Go.bits .and .u64 (ji17) 4294967295) x15_18 = some (r1, r2)) ∧ Aside0 (kq ≤ k) ∧ Drawn0 w wc)
    case first =>
     (have H := HC19.out);(clear HC19);(have H' := aM H);(clear H);(go_wp2)
     repeat (go_quiet (fail); try go_wp2)
     go_loopg [15, 16] k (fun kq v15 v16 w' => ∃ (x15_1 : Int) (x16_1 : Int), v15 = .int .u64 x15_1 ∧ v16 = .int .u64 x16_1 ∧ Aside0 (bits_Div64.l0 kq ji10 ji8 ((ji10) / 4294967296) (Go.bits .and .u64 (ji10) 4294967295) (Go.bits .or .u64 (ji12) (ji15)) ((ji17) / 4294967296) (Go.bits .and .u64 (ji17) 4294967295) x15_1 x16_1 = some (r1, r2)) ∧ Aside0 (kq ≤ k) ∧ Drawn0 w w')
     case atStart => exact ⟨(IntKind.u64.wrap (Int.tdiv (Go.bits .or .u64 (ji12) (ji15)) ((ji10) / 4294967296))), (IntKind.u64.wrap ((Go.bits .or .u64 (ji12) (ji15)) - (IntKind.u64.wrap ((IntKind.u64.wrap (Int.tdiv (Go.bits .or .u64 (ji12) (ji15)) ((ji10) / 4294967296))) * ((ji10) / 4294967296))))), (by first | rfl | (simp; done) | (simp only [← hji10, ← hji12, ← hji15] <;> (first | rfl | simp)) | (simp [*]; done)), (by first | rfl | (simp; done) | (simp only [← hji10, ← hji12, ← hji15] <;> (first | rfl | simp)) | (simp [*]; done)), H', ⟨Nat.le_refl _⟩, by repeat (first | exact Drawn0.refl _ | apply Drawn0.step)⟩
     case round =>
      (clear H');(try clear c1);(try clear p2);(try clear c4);(try clear c4b0);(try clear c4b1);(try clear c5);(try clear c5b0);(try clear c6);(try clear c6b0);(try clear c6b1);(try clear c9);(try clear c9b0);(try clear c9b1);(try clear c11);(try clear c11b0);(try clear c14);(try clear c14b0);(try clear c14b1);(try clear c16);(try clear c16b0);(try clear c17);(try clear c18);(try clear c18b0);(try clear c18b1);(obtain ⟨x15_1, x16_1, rfl, rfl, HA, HK1, ⟨m1, rfl⟩⟩ := hrel)
      cases gk with
      | zero => exact absurd HA.out (by simp [bits_Div64.l0])
      | succ k1 =>
       (have H := HA.out);(clear HA);(simp only [bits_Div64.l0] at H);(have HC20 := aM H);(clear H)
       go_upto_region 17 with (fail)
       repeat (go_quiet (fail); go_upto_region 17 with (fail))
       go_cut [78] (fun v78 wc => ∃ (kq : Nat) (x78_19 : Bool), v78 = .bool x78_19 ∧ Aside0 (bits_Div64.j1 kq ji10 ji8 ((ji10) / 4294967296) (Go.bits .and .u64 (ji10) 4294967295) (Go.bits .or .u64 (ji12) (ji15)) ((ji17) / 4294967296) (Go.bits .and .u64 (ji17) 4294967295) x15_1 x16_1 x78_19 = some (r1, r2)) ∧ Aside0 (kq ≤ k1) ∧ Drawn0 w wc)
       case first =>
        (have H := HC20.out);(clear HC20)
        by_cases c21 : x15_1 ≥ 4294967296
        ·rw [if_pos c21] at H
         (have c21b0 : decide (4294967296 ≤ x15_1) = true := decide_eq_true c21);(clear c21)
         (first | rw [c21b0] | (simp only [i64_w, i32_w]; rw [c21b0]) | skip)
         (have H' := aM H);(clear H);(go_wp2)
         repeat (go_quiet (fail); try go_wp2)
         go_meet
         case rel => exact ⟨_, (true), sA, H', ⟨by have := HK1.out; first | omega | exact Nat.le_refl _⟩, by repeat (first | exact Drawn0.refl _ | apply Drawn0.step)⟩
        (rw [if_neg c21] at H);(have c21b0 : decide (4294967296 ≤ x15_1) = false := decide_eq_false c21);(clear c21)
        (first | rw [c21b0] | (simp only [i64_w, i32_w]; rw [c21b0]) | skip)
        (have H' := aM H);(clear H);(go_wp2)
        repeat (go_quiet (fail); try go_wp2)
        go_meet
        case rel => exact ⟨_, (decide ((IntKind.u64.wrap (x15_1 * (Go.bits .and .u64 (ji10) 4294967295))) > (IntKind.u64.wrap ((IntKind.u64.wrap (4294967296 * x16_1)) + ((ji17) / 4294967296))))), (by first | rfl | (simp; done) | (simp only [← hji10, ← hji17] <;> (first | rfl | simp)) | (simp [*]; done)), H', ⟨by have := HK1.out; first | omega | exact Nat.le_refl _⟩, by repeat (first | exact Drawn0.refl _ | apply Drawn0.step)⟩
       case rest =>
        (clear HC20);(try clear c1);(try clear c2);(try clear p2);(try clear c4);(try clear c4b0);(try clear c4b1);(try clear c5);(try clear c5b0);(try clear c6);(try clear c6b0);(try clear c6b1);(try clear c9);(try clear c9b0);(try clear c9b1);(try clear c11);(try clear c11b0);(try clear c14);(try clear c14b0);(try clear c14b1);(try clear c16);(try clear c16b0);(try clear c17);(try clear c18);(try clear c18b0);(try clear c18b1);(try clear c21);(try clear c21b0);(try clear p2);(obtain ⟨kq, x78_19, rfl, HA, HJ19, ⟨mc19, rfl⟩⟩ := hcut)
        cases kq with
        | zero => exact absurd HA.out (by simp [bits_Div64.j1])
        | succ kj19 =>
         (have H := HA.out);(clear HA);(simp only [bits_Div64.j1] at H)
         by_cases c22 : x78_19 = true
         rotate_left
         ·replace c22 := Bool.eq_false_iff.mpr c22
          (subst c22);(have H1 : (bits_Div64.j2 kj19 ji10 ji8 ((ji10) / 4294967296) (Go.bits .and .u64 (ji10) 4294967295) (Go.bits .or .u64 (ji12) (ji15)) ((ji17) / 4294967296) (Go.bits .and .u64 (ji17) 4294967295) x15_1) = some (r1, r2) := by rw [if_neg (show ¬ (false = true) by decide)] at H; exact H);(clear H);(have H := H1);(clear H1);(have H' := aM H);(clear H);(go_wp2)
          repeat (go_quiet (fail); try go_wp2)
          go_meet
          case rel => exact ⟨_, (x15_1), sA, H', ⟨by have := HK1.out; have := HJ19.out; first | omega | exact Nat.le_refl _⟩, by repeat (first | exact Drawn0.refl _ | apply Drawn0.step)⟩
         (subst c22);(have H1 : (if (IntKind.u64.wrap (x16_1 + ((ji10) / 4294967296))) ≥ 4294967296 then (bits_Div64.j2 kj19 ji10 ji8 ((ji10) / 4294967296) (Go.bits .and .u64 (ji10) 4294967295) (Go.bits .or .u64 (ji12) (ji15)) ((ji17) / 4294967296) (Go.bits .and .u64 (ji17) 4294967295) (IntKind.u64.wrap (x15_1 - 1))) else (bits_Div64.l0 kj19 ji10 ji8 ((ji10) / 4294967296) (Go.bits .and .u64 (ji10) 4294967295) (Go.bits .or .u64 (ji12) (ji15)) ((ji17) / 4294967296) (Go.bits .and .u64 (ji17) 4294967295) (IntKind.u64.wrap (x15_1 - 1)) (IntKind.u64.wrap (x16_1 + ((ji10) / 4294967296))))) = some (r1, r2) := by rw [if_pos rfl] at H; exact H);(clear H);(have H := H1);(clear H1)
         by_cases c23 : (IntKind.u64.wrap (x16_1 + ((ji10) / 4294967296))) ≥ 4294967296
         ·rw [if_pos c23] at H
          (have c23b0 : decide (4294967296 ≤ (IntKind.u64.wrap (x16_1 + ((ji10) / 4294967296)))) = true := decide_eq_true c23);(clear c23);(have H' := aM H);(clear H);(go_wp2)
          repeat (go_quiet (fail); try go_wp2)
          go_meet
          case rel => exact ⟨_, (IntKind.u64.wrap (x15_1 - 1)), sA, H', ⟨by have := HK1.out; have := HJ19.out; first | omega | exact Nat.le_refl _⟩, by repeat (first | exact Drawn0.refl _ | apply Drawn0.step)⟩
         (rw [if_neg c23] at H);(have c23b0 : decide (4294967296 ≤ (IntKind.u64.wrap (x16_1 + ((ji10) / 4294967296)))) = false := decide_eq_false c23);(clear c23);(have H' := aM H);(clear H);(go_wp2)
         repeat (go_quiet (fail); try go_wp2)
         go_roundg kj19
         case measure => have := HK1.out; have := HJ19.out; omega
         case rel => exact ⟨(IntKind.u64.wrap (x15_1 - 1)), (IntKind.u64.wrap (x16_1 + ((ji10) / 4294967296))), sA, (by first | rfl | (simp; done) | (simp only [← hji10] <;> (first | rfl | simp)) | (simp [*]; done)), H', ⟨by have := HK1.out; have := HJ19.out; omega⟩, by repeat (first | exact Drawn0.refl _ | apply Drawn0.step)⟩
    case rest =>
     (clear HC19);(try clear c1);(try clear c2);(try clear p2);(try clear c4);(try clear c4b0);(try clear c4b1);(try clear c5);(try clear c5b0);(try clear c6);(try clear c6b0);(try clear c6b1);(try clear c9);(try clear c9b0);(try clear c9b1);(try clear c11);(try clear c11b0);(try clear c14);(try clear c14b0);(try clear c14b1);(try clear c16);(try clear c16b0);(try clear c17);(try clear c18);(try clear c18b0);(try clear c18b1);(try clear c19);(try clear c21);(try clear c21b0);(try clear c22);(try clear c23);(try clear c23b0);(try clear p2);(obtain ⟨kq, x15_18, rfl, HA, HJ18, ⟨mc18, rfl⟩⟩ := hcut)
     cases kq with
     | zero => exact absurd HA.out (by simp [bits_Div64.j2])
     | succ kj18 =>
      (have H := HA.out);(clear HA);(simp only [bits_Div64.j2] at H)
      by_cases c24 : ((ji10) / 4294967296) = 0
      ·rw [if_pos c24] at H
       exact absurd H (by simp)
      ·rw [if_neg c24] at H
       (have c24b0 : (((ji10) / 4294967296) == 0) = false := beq_eq_false_iff_ne.mpr c24);(have c24b1 : (((ji10) / 4294967296) != 0) = true := bne_iff_ne.mpr c24);(have H' := aM H);(clear H);(go_wp2)
       repeat (go_quiet (fail); try go_wp2)
       go_loopg [16, 18] kj18 (fun kq v16 v18 w' => ∃ (x16_2 : Int) (x18_2 : Int), v16 = .int .u64 x16_2 ∧ v18 = .int .u64 x18_2 ∧ Aside0 (bits_Div64.l1 kq ji10 ji8 ((ji10) / 4294967296) (Go.bits .and .u64 (ji10) 4294967295) (Go.bits .and .u64 (ji17) 4294967295) x15_18 x16_2 (IntKind.u64.wrap ((IntKind.u64.wrap ((IntKind.u64.wrap ((Go.bits .or .u64 (ji12) (ji15)) * 4294967296)) + ((ji17) / 4294967296))) - (IntKind.u64.wrap (x15_18 * ji10)))) x18_2 = some (r1, r2)) ∧ Aside0 (kq ≤ kj18) ∧ Drawn0 w w')
       case atStart => exact ⟨(IntKind.u64.wrap ((IntKind.u64.wrap ((IntKind.u64.wrap ((IntKind.u64.wrap ((Go.bits .or .u64 (ji12) (ji15)) * 4294967296)) + ((ji17) / 4294967296))) - (IntKind.u64.wrap (x15_18 * ji10)))) - (IntKind.u64.wrap ((IntKind.u64.wrap (Int.tdiv (IntKind.u64.wrap ((IntKind.u64.wrap ((IntKind.u64.wrap ((Go.bits .or .u64 (ji12) (ji15)) * 4294967296)) + ((ji17) / 4294967296))) - (IntKind.u64.wrap (x15_18 * ji10)))) ((ji10) / 4294967296))) * ((ji10) / 4294967296))))), (IntKind.u64.wrap (Int.tdiv (IntKind.u64.wrap ((IntKind.u64.wrap ((IntKind.u64.wrap ((Go.bits .or .u64 (ji12) (ji15)) * 4294967296)) + ((ji17) / 4294967296))) - (IntKind.u64.wrap (x15_18 * ji10)))) ((ji10) / 4294967296))), (by first | rfl | (simp; done) | (simp only [← hji10, ← hji12, ← hji15, ← hji17] <;> (first | rfl | simp)) | (simp [*]; done)), (by first | rfl | (simp; done) | (simp only [← hji10, ← hji12, ← hji15, ← hji17] <;> (first | rfl | simp)) | (simp [*]; done)), H', ⟨Nat.le_refl _⟩, by repeat (first | exact Drawn0.refl _ | apply Drawn0.step)⟩
       case round =>
        (clear H');(try clear c1);(try clear c2);(try clear p2);(try clear c4);(try clear c4b0);(try clear c4b1);(try clear c5);(try clear c5b0);(try clear c6);(try clear c6b0);(try clear c6b1);(try clear c9);(try clear c9b0);(try clear c9b1);(try clear c11);(try clear c11b0);(try clear c14);(try clear c14b0);(try clear c14b1);(try clear c16);(try clear c16b0);(try clear c17);(try clear c18);(try clear c18b0);(try clear c18b1);(try clear c19);(try clear c21);(try clear c21b0);(try clear c22);(try clear c23);(try clear c23b0);(try clear c24);(try clear c24b0);(try clear c24b1);(try clear p2);(obtain ⟨x16_2, x18_2, rfl, rfl, HA, HK2, ⟨m2, rfl⟩⟩ := hrel)
        cases gk with
        | zero => exact absurd HA.out (by simp [bits_Div64.l1])
        | succ k2 =>
         (have H := HA.out);(clear HA);(simp only [bits_Div64.l1] at H);(have HC25 := aM H);(clear H)
         go_upto_region 24 with (fail)
         repeat (go_quiet (fail); go_upto_region 24 with (fail))
         go_cut [113] (fun v113 wc => ∃ (kq : Nat) (x113_24 : Bool), v113 = .bool x113_24 ∧ Aside0 (bits_Div64.j4 kq ji10 ji8 ((ji10) / 4294967296) (Go.bits .and .u64 (ji10) 4294967295) (Go.bits .and .u64 (ji17) 4294967295) x15_18 x16_2 (IntKind.u64.wrap ((IntKind.u64.wrap ((IntKind.u64.wrap ((Go.bits .or .u64 (ji12) (ji15)) * 4294967296)) + ((ji17) / 4294967296))) - (IntKind.u64.wrap (x15_18 * ji10)))) x18_2 x113_24 = some (r1, r2)) ∧ Aside0 (kq ≤ k2) ∧ Drawn0 w wc)
         case first =>
          (have H := HC25.out);(clear HC25)
          by_cases c26 : x18_2 ≥ 4294967296
          ·rw [if_pos c26] at H
           (have c26b0 : decide (4294967296 ≤ x18_2) = true := decide_eq_true c26);(clear c26)
           (first | rw [c26b0] | (simp only [i64_w, i32_w]; rw [c26b0]) | skip)
           (have H' := aM H);(clear H);(go_wp2)
           repeat (go_quiet (fail); try go_wp2)
           go_meet
           case rel => exact ⟨_, (true), sA, H', ⟨by have := HJ18.out; have := HK2.out; first | omega | exact Nat.le_refl _⟩, by repeat (first | exact Drawn0.refl _ | apply Drawn0.step)⟩
          (rw [if_neg c26] at H);(have c26b0 : decide (4294967296 ≤ x18_2) = false := decide_eq_false c26);(clear c26)
          (first | rw [c26b0] | (simp only [i64_w, i32_w]; rw [c26b0]) | skip)
          (have H' := aM H);(clear H);(go_wp2)
          repeat (go_quiet (fail); try go_wp2)
          go_meet
          case rel => exact ⟨_, (decide ((IntKind.u64.wrap (x18_2 * (Go.bits .and .u64 (ji10) 4294967295))) > (IntKind.u64.wrap ((IntKind.u64.wrap (4294967296 * x16_2)) + (Go.bits .and .u64 (ji17) 4294967295))))), (by first | rfl | (simp; done) | (simp only [← hji10, ← hji17] <;> (first | rfl | simp)) | (simp [*]; done)), H', ⟨by have := HJ18.out; have := HK2.out; first | omega | exact Nat.le_refl _⟩, by repeat (first | exact Drawn0.refl _ | apply Drawn0.step)⟩
         case rest =>
          (clear HC25);(try clear c1);(try clear c2);(try clear p2);(try clear c4);(try clear c4b0);(try clear c4b1);(try clear c5);(try clear c5b0);(try clear c6);(try clear c6b0);(try clear c6b1);(try clear c9);(try clear c9b0);(try clear c9b1);(try clear c11);(try clear c11b0);(try clear c14);(try clear c14b0);(try clear c14b1);(try clear c16);(try clear c16b0);(try clear c17);(try clear c18);(try clear c18b0);(try clear c18b1);(try clear c19);(try clear c21);(try clear c21b0);(try clear c22);(try clear c23);(try clear c23b0);(try clear c24);(try clear c24b0);(try clear c24b1);(try clear c26);(try clear c26b0);(try clear p2);(obtain ⟨kq, x113_24, rfl, HA, HJ24, ⟨mc24, rfl⟩⟩ := hcut)
          cases kq with
          | zero => exact absurd HA.out (by simp [bits_Div64.j4])
          | succ kj24 =>
           (have H := HA.out);(clear HA);(simp only [bits_Div64.j4] at H)
           by_cases c27 : x113_24 = true
           rotate_left
           ·replace c27 := Bool.eq_false_iff.mpr c27
            (subst c27);(have H1 : (if 0 ≤ ji8 then (some (IntKind.u64.wrap ((IntKind.u64.wrap (x15_18 * 4294967296)) + x18_2), shr .u64 (IntKind.u64.wrap ((IntKind.u64.wrap ((IntKind.u64.wrap ((IntKind.u64.wrap ((IntKind.u64.wrap ((IntKind.u64.wrap ((Go.bits .or .u64 (ji12) (ji15)) * 4294967296)) + ((ji17) / 4294967296))) - (IntKind.u64.wrap (x15_18 * ji10)))) * 4294967296)) + (Go.bits .and .u64 (ji17) 4294967295))) - (IntKind.u64.wrap (x18_2 * ji10)))) ji8)) else (none)) = some (r1, r2) := by rw [if_neg (show ¬ (false = true) by decide)] at H; exact H);(clear H);(have H := H1);(clear H1);(revert H);(refine ifP fun c31 H => ?_);(have c31b0 := eq_true c31);(have c31b1 : decide (0 ≤ ji8) = true := decide_eq_true c31);(clear c31);(generalize hji32 : (shr .u64 (IntKind.u64.wrap ((IntKind.u64.wrap ((IntKind.u64.wrap ((IntKind.u64.wrap ((IntKind.u64.wrap ((IntKind.u64.wrap ((Go.bits .or .u64 (ji12) (ji15)) * 4294967296)) + ((ji17) / 4294967296))) - (IntKind.u64.wrap (x15_18 * ji10)))) * 4294967296)) + (Go.bits .and .u64 (ji17) 4294967295))) - (IntKind.u64.wrap (x18_2 * ji10)))) ji8) = ji32 at H);(have hji32_ : ((IntKind.u64.wrap ((IntKind.u64.wrap ((IntKind.u64.wrap ((IntKind.u64.wrap ((IntKind.u64.wrap ((IntKind.u64.wrap ((Go.bits .or .u64 (ji12) (ji15)) * 4294967296)) + ((ji17) / 4294967296))) - (IntKind.u64.wrap (x15_18 * ji10)))) * 4294967296)) + (Go.bits .and .u64 (ji17) 4294967295))) - (IntKind.u64.wrap (x18_2 * ji10)))) / 2 ^ min ji8.toNat 64) = ji32 := hji32);(have hji32z : ji8 ≤ 64 → ((IntKind.u64.wrap ((IntKind.u64.wrap ((IntKind.u64.wrap ((IntKind.u64.wrap ((IntKind.u64.wrap ((IntKind.u64.wrap ((Go.bits .or .u64 (ji12) (ji15)) * 4294967296)) + ((ji17) / 4294967296))) - (IntKind.u64.wrap (x15_18 * ji10)))) * 4294967296)) + (Go.bits .and .u64 (ji17) 4294967295))) - (IntKind.u64.wrap (x18_2 * ji10)))) / 2 ^ ji8.toNat) = ji32 := shr_small hji32);(simp only [Option.some.injEq, Prod.mk.injEq] at H);(obtain ⟨rfl, rfl⟩ := H);(go_wp2)
            repeat (go_quiet (fail); try go_wp2)
            (go_ret2);(exact ⟨by first | rfl | (simp; done) | (simp only [← hji8, ← hji10, ← hji12, ← hji13, ← hji15, ← hji17, ← hji32] <;> (first | rfl | simp)) | (simp [*]; done), by repeat (first | exact Drawn0.refl _ | apply Drawn0.step)⟩)
           (subst c27);(have H1 : (if (IntKind.u64.wrap (x16_2 + ((ji10) / 4294967296))) ≥ 4294967296 then (if 0 ≤ ji8 then (some (IntKind.u64.wrap ((IntKind.u64.wrap (x15_18 * 4294967296)) + (IntKind.u64.wrap (x18_2 - 1))), shr .u64 (IntKind.u64.wrap ((IntKind.u64.wrap ((IntKind.u64.wrap ((IntKind.u64.wrap ((IntKind.u64.wrap ((IntKind.u64.wrap ((Go.bits .or .u64 (ji12) (ji15)) * 4294967296)) + ((ji17) / 4294967296))) - (IntKind.u64.wrap (x15_18 * ji10)))) * 4294967296)) + (Go.bits .and .u64 (ji17) 4294967295))) - (IntKind.u64.wrap ((IntKind.u64.wrap (x18_2 - 1)) * ji10)))) ji8)) else (none)) else (bits_Div64.l1 kj24 ji10 ji8 ((ji10) / 4294967296) (Go.bits .and .u64 (ji10) 4294967295) (Go.bits .and .u64 (ji17) 4294967295) x15_18 (IntKind.u64.wrap (x16_2 + ((ji10) / 4294967296))) (IntKind.u64.wrap ((IntKind.u64.wrap ((IntKind.u64.wrap ((Go.bits .or .u64 (ji12) (ji15)) * 4294967296)) + ((ji17) / 4294967296))) - (IntKind.u64.wrap (x15_18 * ji10)))) (IntKind.u64.wrap (x18_2 - 1)))) = some (r1, r2) := by rw [if_pos rfl] at H; exact H);(clear H);(have H := H1);(clear H1)
           by_cases c28 : (IntKind.u64.wrap (x16_2 + ((ji10) / 4294967296))) ≥ 4294967296
           rotate_left
           ·rw [if_neg c28] at H
            (have c28b0 : decide (4294967296 ≤ (IntKind.u64.wrap (x16_2 + ((ji10) / 4294967296)))) = false := decide_eq_false c28);(clear c28);(have H' := aM H);(clear H);(go_wp2)
            repeat (go_quiet (fail); try go_wp2)
            go_roundg kj24
            case measure => have := HJ18.out; have := HK2.out; have := HJ24.out; omega
            case rel => exact ⟨(IntKind.u64.wrap (x16_2 + ((ji10) / 4294967296))), (IntKind.u64.wrap (x18_2 - 1)), (by first | rfl | (simp; done) | (simp only [← hji10] <;> (first | rfl | simp)) | (simp [*]; done)), sA, H', ⟨by have := HJ18.out; have := HK2.out; have := HJ24.out; omega⟩, by repeat (first | exact Drawn0.refl _ | apply Drawn0.step)⟩
           (rw [if_pos c28] at H);(have c28b0 : decide (4294967296 ≤ (IntKind.u64.wrap (x16_2 + ((ji10) / 4294967296)))) = true := decide_eq_true c28);(clear c28);(revert H);(refine ifP fun c29 H => ?_);(have c29b0 := eq_true c29);(have c29b1 : decide (0 ≤ ji8) = true := decide_eq_true c29);(clear c29);(generalize hji30 : (shr .u64 (IntKind.u64.wrap ((IntKind.u64.wrap ((IntKind.u64.wrap ((IntKind.u64.wrap ((IntKind.u64.wrap ((IntKind.u64.wrap ((Go.bits .or .u64 (ji12) (ji15)) * 4294967296)) + ((ji17) / 4294967296))) - (IntKind.u64.wrap (x15_18 * ji10)))) * 4294967296)) + (Go.bits .and .u64 (ji17) 4294967295))) - (IntKind.u64.wrap ((IntKind.u64.wrap (x18_2 - 1)) * ji10)))) ji8) = ji30 at H);(have hji30_ : ((IntKind.u64.wrap ((IntKind.u64.wrap ((IntKind.u64.wrap ((IntKind.u64.wrap ((IntKind.u64.wrap ((IntKind.u64.wrap ((Go.bits .or .u64 (ji12) (ji15)) * 4294967296)) + ((ji17) / 4294967296))) - (IntKind.u64.wrap (x15_18 * ji10)))) * 4294967296)) + (Go.bits .and .u64 (ji17) 4294967295))) - (IntKind.u64.wrap ((IntKind.u64.wrap (x18_2 - 1)) * ji10)))) / 2 ^ min ji8.toNat 64) = ji30 := hji30);(have hji30z : ji8 ≤ 64 → ((IntKind.u64.wrap ((IntKind.u64.wrap ((IntKind.u64.wrap ((IntKind.u64.wrap ((IntKind.u64.wrap ((IntKind.u64.wrap ((Go.bits .or .u64 (ji12) (ji15)) * 4294967296)) + ((ji17) / 4294967296))) - (IntKind.u64.wrap (x15_18 * ji10)))) * 4294967296)) + (Go.bits .and .u64 (ji17) 4294967295))) - (IntKind.u64.wrap ((IntKind.u64.wrap (x18_2 - 1)) * ji10)))) / 2 ^ ji8.toNat) = ji30 := shr_small hji30);(simp only [Option.some.injEq, Prod.mk.injEq] at H);(obtain ⟨rfl, rfl⟩ := H);(go_wp2)
           repeat (go_quiet (fail); try go_wp2)
           (go_ret2);(exact ⟨by first | rfl | (simp; done) | (simp only [← hji8, ← hji10, ← hji12, ← hji13, ← hji15, ← hji17, ← hji30] <;> (first | rfl | simp)) | (simp [*]; done), by repeat (first | exact Drawn0.refl _ | apply Drawn0.step)⟩)

end Go.Proofs.YtmdoljecjliehaaGreat.FV
end
