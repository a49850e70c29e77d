/- What the float print leans on: floats as elements, and the contracts of the scalars on floats. -/
import Derived.Test.YtepcegiciecogaaA3
import Derived.Test.YtepcegiciecogaaWFoot
import Derived.Test.YtepcegiciecogaaWMore
import Derived.WalkKit
import Derived.Lib.Hide
import Derived.WalkSpells
import Derived.WalkLawsBesides
import Derived.Deep.QuietTactic
import Derived.BigQuiet
namespace Go.Proofs.YtepcegiciecogaaW.PrintWords.Kd
/-- a float, as an element. -/
def flt : Kd Nat := scalar (Value.float .f64) (fun _ => rfl)
theorem at_flt {w : World} {A : Option Addr} {n : Nat} {xs : List Nat} (h : flt.C w A n xs) (i : Int) (h0 : 0 ≤ i) (h1 : i < n) : ∃ ad, A = some ad ∧ w.cell? (ad.add i.toNat) = some (.float .f64 (rdOf (0 : Nat) xs i)) :=
  ReadsOf.at_ (reads_of_C (enc := Value.float .f64) (d := (0 : Nat)) (h1 := fun _ => rfl) h) i h0 h1
section
open Go.RowKit
variable {P : Program} {ops : Array Oper} {rest : List Oper} {o : Oper} {a : Act} {Q : Exit → Act → World → Prop} {W : World} {α : Type}
end
end Go.Proofs.YtepcegiciecogaaW.PrintWords.Kd

namespace Go.Proofs.Ytepcegiciecogaa
open Go.RowKit Go.Proofs.YtepcegiciecogaaW.PrintWords Go.Shelf
theorem run_store_float {P : Program} {w : World} {a : Addr} {m : Mode} (k : FloatKind) (b : Nat) : (store a (.float k b) m).run P w = stored P w a (.float k b) m := run_store P w a _ m rfl


/-- -x, bit by bit. -/
def fneg (x : Nat) : Nat := x ^^^ 9223372036854775808
theorem run_neg_float {P : Program} {w : World} (x : Nat) : (Op.unary .neg (.float .f64 x)).run P w = .ok (.float .f64 (fneg x)) w := rfl
theorem isSome_setCell (w : World) (a b : Addr) (v : Value) : ((w.setCell a v).cell? b).isSome = (w.cell? b).isSome := by
  unfold World.cell? World.setCell
  rw [Array.getElem?_modify]
  by_cases h : a.block = b.block
  · rw [if_pos h, ← h]
    cases w.heap[a.block]? with
    | none => rfl
    | some o =>
      cases o with
      | cells c e fr =>
        simp only [Option.map_some]
        by_cases hs : b.spot.isSome = true
        · simp [hs]
        · by_cases hs2 : a.spot.isSome = true
          · simp [hs, hs2]
          · simp [hs, hs2, Array.getElem?_setIfInBounds]
            split
            · rename_i e
              rw [e]
              by_cases hb : b.off < c.size <;> simp [hb]
            · rfl
      | _ => rfl
  · rw [if_neg h]
/-- a product, where it is no NaN. -/
def fmulK (x y : Nat) : Bool := (Ieee.double.mul x y).isSome
def fmulV (x y : Nat) : Nat := (Ieee.double.mul x y).getD 0
theorem run_fmul {P : Program} {w : World} {t : TypeId} (x y : Nat) (h : fmulK x y = true) : (binOp .mul t (.float .f64 x) (.float .f64 y)).run P w = .ok (.float .f64 (fmulV x y)) w := by
  unfold fmulK at h
  obtain ⟨r, hr⟩ := Option.isSome_iff_exists.1 h
  have e : fmulV x y = r := by unfold fmulV; rw [hr]; rfl
  rw [e]; exact run_float_arith w .mul t .f64 x y r hr
namespace FX
/-- which of n steps are done, by the bits of a number. -/
def dnA (n m : Nat) : Array Bool := ⟨(List.range n).map fun i => m.testBit i⟩
def api_Bits.f (a0 : Nat) : Option Int := some (a0 : Int)
theorem api_Bits.calls (a0 : Nat) (r : Int) (w : World) (h : api_Bits.f a0 = some r) :
    Calls Try.prog 17 #[.float .f64 a0] w fun e w' => e = .returned (.int .u64 r) ∧ Drawn0 w w' := by
  obtain rfl := Option.some.inj h
  exact (bits_any a0 w).mono fun e w' ⟨he, hw⟩ => ⟨he, ⟨⟨0, hw ▸ rfl⟩⟩⟩
end FX

set_option maxRecDepth 100000 in
set_option maxHeartbeats 400000 in
theorem flow_number_any (a : Nat) (h : a < 18446744073709551616) (w : World) : Calls Try.prog 28 #[.float .f64 a] w fun e w' => e = .returned (.bool (Tn.fin a)) ∧ w = w' := by
  have H := Lib.hid h
  have HC : RowKit.Hid (Tn.fin a = decide (Tn.cls a < 4)) := Tn.cls_fin a
  clear h
  go_enter Try.func28, Try.ntmps28
  go_wp2_with (go_at_call 47; refine (class_any _ H.out _).mono ?_; rintro e w' ⟨rfl, rfl⟩)
  go_ret
  exact ⟨ret_b HC.out.symm, rfl⟩
namespace FX
def flow_number.f (a0 : Nat) : Option Bool := if a0 < 18446744073709551616 then some (Tn.fin a0) else none
theorem flow_number.calls (a0 : Nat) (r : Bool) (w : World) (h : flow_number.f a0 = some r) :
    Calls Try.prog 28 #[.float .f64 a0] w fun e w' => e = .returned (.bool r) ∧ Drawn0 w w' := by
  unfold flow_number.f at h
  split at h
  · rename_i hb
    obtain rfl := Option.some.inj h
    exact (flow_number_any a0 hb w).mono fun e w' ⟨he, hw⟩ => ⟨he, ⟨⟨0, hw ▸ rfl⟩⟩⟩
  · cases h
end FX

set_option maxRecDepth 100000 in
set_option maxHeartbeats 400000 in
theorem grid_number_any (a : Nat) (h : a < 18446744073709551616) (w : World) : Calls Try.prog 61 #[.float .f64 a] w fun e w' => e = .returned (.bool (Tn.fin a)) ∧ w = w' := by
  have H := Lib.hid h
  have HC : RowKit.Hid (Tn.fin a = decide (Tn.cls a < 4)) := Tn.cls_fin a
  clear h
  go_enter Try.func61, Try.ntmps61
  go_wp2_with (go_at_call 47; refine (class_any _ H.out _).mono ?_; rintro e w' ⟨rfl, rfl⟩)
  go_ret
  exact ⟨ret_b HC.out.symm, rfl⟩
namespace FX
def grid_number.f (a0 : Nat) : Option Bool := if a0 < 18446744073709551616 then some (Tn.fin a0) else none
theorem grid_number.calls (a0 : Nat) (r : Bool) (w : World) (h : grid_number.f a0 = some r) :
    Calls Try.prog 61 #[.float .f64 a0] w fun e w' => e = .returned (.bool r) ∧ Drawn0 w w' := by
  unfold grid_number.f at h
  split at h
  · rename_i hb
    obtain rfl := Option.some.inj h
    exact (grid_number_any a0 hb w).mono fun e w' ⟨he, hw⟩ => ⟨he, ⟨⟨0, hw ▸ rfl⟩⟩⟩
  · cases h
end FX

end Go.Proofs.Ytepcegiciecogaa
