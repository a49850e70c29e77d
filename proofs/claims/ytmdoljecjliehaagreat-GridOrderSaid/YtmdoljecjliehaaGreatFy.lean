/- What the float print leans on: floats as elements, and the contracts of the scalars on floats. -/
import Derived.Test.YtmdoljecjliehaaGreatA3
import Derived.Test.YtmdoljecjliehaaGreatZ0
namespace Go.Proofs.YtmdoljecjliehaaGreatW.PrintWords.Kd
def flt : Kd Nat := scalar (Value.float .f64) (fun _ => rfl)
theorem at_flt {w : World} {A : Option Addr} {n : Nat} {xs : List Nat} (h : flt.C w A n xs) (i : Int) (h0 : 0 ≤ i) (h1 : i < n) : ∃ ad, A = some ad ∧ w.cell? (ad.add i.toNat) = some (.float .f64 (rdOf (0 : Nat) xs i)) :=
 ReadsOf.at_ (reads_of_C (enc := Value.float .f64) (d := (0 : Nat)) (h1 := fun _ => rfl) h) i h0 h1
section
open Go.RowKit
variable {P : Program} {ops : Array Oper} {rest : List Oper} {o : Oper} {a : Act} {Q : Exit → Act → World → Prop} {W : World} {α : Type}
theorem R_make0 (d : Kd α) {w0 W : World} (base e : Nat) (hgd : o.guard = none) {N : Tmp} (_hd : o.dst = some N) (t : TypeId) (x y : Operand) (ho : o.op = .makeSlice t x y) (n : Int) (hx : a.eval x = .int .i64 0) (hy : a.eval y = .int .i64 n)
  (ht : P.underlying t = some (.slice e)) (z : Value) (bytes : Nat) (hinfo : (P.info? e).map (fun i => (i.zero, i.size, i.bytes)) = some (some z, d.sz, bytes)) (_hz : z.cells.size = d.sz) (_hs0 : 0 < d.sz) (hb0 : 0 < bytes)
  (z0 : α) {ok okp : Nat → Prop} (_hzero : d.M W base okp z0 z.cells.toList) (_hok : ∀ k, okp k → ok k) (hfresh : ok W.heap.size) (h0 : 0 ≤ n) (hl : n.toNat * bytes ≤ 281474976710656) (HB : Below base w0 W) (hbase : base ≤ W.heap.size)
  (h : ∀ v1 w1, d.R e w1 base ok v1 [] → Below base w0 w1 → W.grownBy w1 none → (∃ b, v1.ownBlock = some b ∧ W.heap.size ≤ b) → wpList P ops Q rest (a.put o.dst v1) w1) : wpList P ops Q (o :: rest) a W := by
 (obtain ⟨m, rfl⟩ := Int.eq_ofNat_of_zero_le h0);(simp only [Int.toNat_natCast] at hl);(obtain ⟨i0, hi, hzz⟩ := Option.map_eq_some_iff.1 hinfo);(simp only [Prod.mk.injEq] at hzz);(obtain ⟨hz0, hz1, hz2⟩ := hzz);(have hm : m ≤ 281474976710656 := Nat.le_trans (Nat.le_mul_of_pos_right _ hb0) hl)
 have hr := run_make (P := P) W t e i0 z ht hi hz0 .i64 .i64 0 (m : Int) (by omega) (by omega)
  (by
   have h3 : ((i0.bytes * m : Nat) : Int) ≤ 281474976710656 := by rw [hz2, Nat.mul_comm]; omega
   rwa [Int.natCast_mul] at h3) (by omega)
 (simp only [Int.toNat_natCast] at hr);(refine event_run hgd (v := .slice (some ⟨W.heap.size, 0, none⟩) 0 m) (w1 := W.alloc (.cells (madeCells z.cells (m * i0.size)) e)) ?_ (h _ _ ⟨fun k hk => ?_, [], ?_, Reps.none _ _⟩ (HB.alloc hbase _) (World.grownBy_alloc W _ none) ⟨W.heap.size, by simp [Value.ownBlock], Nat.le_refl _⟩))
 ·simp [execOp, ho, hx, hy, hr]
 ·have : W.heap.size = k := by simpa [Value.ownBlock] using hk
  (subst this);(exact hfresh)
 ·refine ⟨by simp, .inr ⟨W.heap.size, m, _, rfl, hbase, heap_alloc_new W _, by simp, by simp only [maxLen]; omega, by rw [size_madeCells, hz1], by simp⟩⟩
end
end Go.Proofs.YtmdoljecjliehaaGreatW.PrintWords.Kd

namespace Go.Proofs.YtmdoljecjliehaaGreat
open Go.RowKit Go.Proofs.YtmdoljecjliehaaGreatW.PrintWords Go.Shelf
theorem run_store_float {P : Program} {w : World} {a : Addr} {m : Mode} (k : FloatKind) (b : Nat) : (store a (.float k b) m).run P w = stored P w a (.float k b) m := run_store P w a _ m rfl


def fneg (x : Nat) : Nat := x ^^^ 9223372036854775808
theorem run_neg_float {P : Program} {w : World} (x : Nat) : (Op.unary .neg (.float .f64 x)).run P w = .ok (.float .f64 (fneg x)) w := rfl
theorem isSome_setCell (w : World) (a b : Addr) (v : Value) : ((w.setCell a v).cell? b).isSome = (w.cell? b).isSome := by
 (unfold World.cell? World.setCell);(rw [Array.getElem?_modify])
 by_cases h : a.block = b.block
 ·rw [if_pos h, ← h]
  cases w.heap[a.block]? with
  | none => rfl
  | some o =>
   cases o with
   | cells c e fr =>
    simp only [Option.map_some]
    by_cases hs : b.spot.isSome = true
    ·simp [hs]
    ·by_cases hs2 : a.spot.isSome = true
     ·simp [hs, hs2]
     ·simp [hs, hs2, Array.getElem?_setIfInBounds]
      split
      ·rename_i e
       rw [e]
       by_cases hb : b.off < c.size <;> simp [hb]
      ·rfl
   | _ => rfl
 ·rw [if_neg h]
def fmulK (x y : Nat) : Bool := (Ieee.double.mul x y).isSome
def fmulV (x y : Nat) : Nat := (Ieee.double.mul x y).getD 0
theorem run_fmul {P : Program} {w : World} {t : TypeId} (x y : Nat) (h : fmulK x y = true) : (binOp .mul t (.float .f64 x) (.float .f64 y)).run P w = .ok (.float .f64 (fmulV x y)) w := by
 (unfold fmulK at h);(obtain ⟨r, hr⟩ := Option.isSome_iff_exists.1 h);(have e : fmulV x y = r := by unfold fmulV; rw [hr]; rfl);(rw [e]; exact run_float_arith w .mul t .f64 x y r hr)
def faddK (x y : Nat) : Bool := (Ieee.double.add x y).isSome
def faddV (x y : Nat) : Nat := (Ieee.double.add x y).getD 0
theorem run_fadd {P : Program} {w : World} {t : TypeId} (x y : Nat) (h : faddK x y = true) : (binOp .add t (.float .f64 x) (.float .f64 y)).run P w = .ok (.float .f64 (faddV x y)) w := by
 (unfold faddK at h);(obtain ⟨r, hr⟩ := Option.isSome_iff_exists.1 h);(have e : faddV x y = r := by unfold faddV; rw [hr]; rfl);(rw [e]; exact run_float_arith w .add t .f64 x y r hr)
def fsubK (x y : Nat) : Bool := (Ieee.double.sub x y).isSome
def fsubV (x y : Nat) : Nat := (Ieee.double.sub x y).getD 0
theorem run_fsub {P : Program} {w : World} {t : TypeId} (x y : Nat) (h : fsubK x y = true) : (binOp .sub t (.float .f64 x) (.float .f64 y)).run P w = .ok (.float .f64 (fsubV x y)) w := by
 (unfold fsubK at h);(obtain ⟨r, hr⟩ := Option.isSome_iff_exists.1 h);(have e : fsubV x y = r := by unfold fsubV; rw [hr]; rfl);(rw [e]; exact run_float_arith w .sub t .f64 x y r hr)
def fdivK (x y : Nat) : Bool := (Ieee.double.div x y).isSome
def fdivV (x y : Nat) : Nat := (Ieee.double.div x y).getD 0
theorem run_fdiv {P : Program} {w : World} {t : TypeId} (x y : Nat) (h : fdivK x y = true) : (binOp .quo t (.float .f64 x) (.float .f64 y)).run P w = .ok (.float .f64 (fdivV x y)) w := by
 (unfold fdivK at h);(obtain ⟨r, hr⟩ := Option.isSome_iff_exists.1 h);(have e : fdivV x y = r := by unfold fdivV; rw [hr]; rfl);(rw [e]; exact run_float_arith w .quo t .f64 x y r hr)
def ftoiK (x : Nat) : Bool := (floatToIntVal .f64 x .i64).isSome
def ftoiV (x : Nat) : Int := (floatToIntVal .f64 x .i64).getD 0
theorem run_ftoi {P : Program} {w : World} {src dst : TypeId} (x : Nat) (hs : (P.underlying src).isSome = true) (hd : P.underlying dst = some (.int .i64)) (h : ftoiK x = true) : (convert src dst (.float .f64 x)).run P w = .ok (.int .i64 (ftoiV x)) w := by
 (unfold ftoiK at h);(obtain ⟨r, hr⟩ := Option.isSome_iff_exists.1 h);(have e : ftoiV x = r := by unfold ftoiV; rw [hr]; rfl);(rw [e]; exact run_convert_float_int w src dst .f64 .i64 x r hs hd hr)
namespace FX
theorem bA {b : Nat} {w W w' : World} (h : Below b w W) (k : Below b w W → Below b w w' := by intro hh; repeat (first | (with_reducible first | exact hh | apply below_alloc | apply pw_below_drewN | apply below_drew1) | exact hh)) : Below b w w' := k h
theorem kA {w w' : World} {g : Nat} {o : Obj} (h : w.heap[g]? = some o) (k : w.heap[g]? = some o → w'.heap[g]? = some o := by intro hh; (with_reducible repeat (first | refine blk_drewN ?_ _ | refine blk_drew ?_ | refine blk_alloc ?_ _)); exact hh) : w'.heap[g]? = some o := k h
theorem rA {α : Type} {d : Kd α} {e : Nat} {w w' : World} {base : Nat} {ok : Nat → Prop} {v : Value} {xs : List α} (h : d.R e w base ok v xs) (k : d.R e w base ok v xs → d.R e w' base ok v xs := by intro hh; (with_reducible repeat (first | apply Kd.R_alloc | apply Kd.R_drewN | apply Kd.R_drew)); exact hh) : d.R e w' base ok v xs := k h
theorem cA {α : Type} {d : Kd α} {w w' : World} {A : Option Addr} {n : Nat} {xs : List α} (h : d.C w A n xs) (k : d.C w A n xs → d.C w' A n xs := by intro hh; repeat (first | exact hh | (with_reducible refine Kd.C_alloc ?_ _) | (with_reducible refine Kd.C_drewN ?_ _) | (with_reducible refine Kd.C_drew ?_))) : d.C w' A n xs := k h
theorem bG {b : Nat} {w W w' : World} (h : Below b w W) (k : Below b w W → Below b w w' := by intro hh; repeat (first | (with_reducible first | exact hh | apply below_alloc | apply pw_below_drewN | apply below_drew1 | refine below_set ?_ (Aside0.out (by assumption))) | exact hh)) : Below b w w' := k h
theorem mA {p : Prop} (h : p := by (try simp only [List.map_toArray, List.map_cons, List.map_nil]); first | done | rfl | (simp only [List.length_drop, List.length_take]; rfl)) : p := h
theorem asA {p : Prop} (h : p := by first | (with_reducible assumption) | assumption) : p := h
theorem ddA {p : Prop} (h : p := by first | exact ⟨rfl, _, World.drewN_drewN _ _ _⟩ | exact ⟨rfl, _, Eq.trans (World.drewN_drewN _ _ _) (congrArg (World.drewN _) (Nat.add_assoc _ _ _))⟩) : p := h
theorem sA {p : Prop} (h : p := by first | rfl | (simp; done) | (simp [*]; done)) : p := h
theorem dA {w w' : World} (h : Drawn0 w w' := by repeat (first | exact Drawn0.refl _ | apply Drawn0.step)) : Drawn0 w w' := h
def dnA (n m : Nat) : Array Bool := ⟨(List.range n).map fun i => m.testBit i⟩
def api_Bits.f (a0 : Nat) : Option Int := some (a0 : Int)
theorem api_Bits.calls (a0 : Nat) (r : Int) (w : World) (h : api_Bits.f a0 = some r) :
  Calls Tryz.prog 18 #[.float .f64 a0] w fun e w' => e = .returned (.int .u64 r) ∧ Drawn0 w w' := by
 (obtain rfl := Option.some.inj h);(exact (bits_any a0 w).mono fun e w' ⟨he, hw⟩ => ⟨he, ⟨⟨0, hw ▸ rfl⟩⟩⟩)
end FX

set_option maxRecDepth 100000 in
set_option maxHeartbeats 400000 in
theorem flow_number_any (a : Nat) (h : a < 18446744073709551616) (w : World) : Calls Tryz.prog 211 #[.float .f64 a] w fun e w' => e = .returned (.bool (Tn.fin a)) ∧ w = w' := by
 (have H := Lib.hid h);(have HC : RowKit.Hid (Tn.fin a = decide (Tn.cls a < 4)) := Tn.cls_fin a);(clear h);(go_enter Tryz.func211, Tryz.ntmps211)
 go_wp2_with (go_at_call 78; refine (class_any _ H.out _).mono ?_; rintro e w' ⟨rfl, rfl⟩)
 (go_ret);(exact ⟨ret_b HC.out.symm, rfl⟩)
namespace FX
def flow_number.f (a0 : Nat) : Option Bool := if a0 < 18446744073709551616 then some (Tn.fin a0) else none
theorem flow_number.calls (a0 : Nat) (r : Bool) (w : World) (h : flow_number.f a0 = some r) :
  Calls Tryz.prog 211 #[.float .f64 a0] w fun e w' => e = .returned (.bool r) ∧ Drawn0 w w' := by
 unfold flow_number.f at h
 split at h
 ·rename_i hb
  (obtain rfl := Option.some.inj h);(exact (flow_number_any a0 hb w).mono fun e w' ⟨he, hw⟩ => ⟨he, ⟨⟨0, hw ▸ rfl⟩⟩⟩)
 ·cases h
end FX

set_option maxRecDepth 100000 in
set_option maxHeartbeats 400000 in
theorem grid_number_any (a : Nat) (h : a < 18446744073709551616) (w : World) : Calls Tryz.prog 75 #[.float .f64 a] w fun e w' => e = .returned (.bool (Tn.fin a)) ∧ w = w' := by
 (have H := Lib.hid h);(have HC : RowKit.Hid (Tn.fin a = decide (Tn.cls a < 4)) := Tn.cls_fin a);(clear h);(go_enter Tryz.func75, Tryz.ntmps75)
 go_wp2_with (go_at_call 78; refine (class_any _ H.out _).mono ?_; rintro e w' ⟨rfl, rfl⟩)
 (go_ret);(exact ⟨ret_b HC.out.symm, rfl⟩)
namespace FX
def grid_number.f (a0 : Nat) : Option Bool := if a0 < 18446744073709551616 then some (Tn.fin a0) else none
theorem grid_number.calls (a0 : Nat) (r : Bool) (w : World) (h : grid_number.f a0 = some r) :
  Calls Tryz.prog 75 #[.float .f64 a0] w fun e w' => e = .returned (.bool r) ∧ Drawn0 w w' := by
 unfold grid_number.f at h
 split at h
 ·rename_i hb
  (obtain rfl := Option.some.inj h);(exact (grid_number_any a0 hb w).mono fun e w' ⟨he, hw⟩ => ⟨he, ⟨⟨0, hw ▸ rfl⟩⟩⟩)
 ·cases h
end FX

end Go.Proofs.YtmdoljecjliehaaGreat
