/- Contracts of package ieee and of math, in the print's shape. -/
import Derived.Test.YtmdoljecjliehaaGreatFy
import Derived.Test.YtmdoljecjliehaaGreatKin
namespace Go.Proofs.YtmdoljecjliehaaGreat
open Go.RowKit Go.Proofs.YtmdoljecjliehaaGreatW.PrintWords Go.Shelf
set_option maxRecDepth 100000 in
set_option maxHeartbeats 400000 in
theorem nan_any (w : World) : Calls Tryz.prog 167 #[] w fun e w' => e = .returned (.float .f64 9221120237041090561) ∧ w = w' := by
 (go_enter Tryz.func167, Tryz.ntmps167);(go_wp2);(go_ret);(exact ⟨rfl, rfl⟩)

theorem integral_num {x : Nat} {s : Bool} {m : Nat} {i : Int} (h : FloatKind.f64.decode x = .number s m i) (nm : String) (way : Ieee.Toward) : Extern.MathFloor.toIntegral nm way #[.float .f64 x] = pure (.float .f64 (FloatKind.f64.encode ((Ieee.Datum.number s m i).integral way))) := by
 show Extern.MathFloor.toIntegral.match_1 _ (FloatKind.f64.decode x) _ _ = _
 rw [h]
theorem run_archFloor (x : Nat) (hx : x < 18446744073709551616) (hf : Tn.fin x = true) (w : World) : (callFunc 264 #[.float .f64 x]).run Tryz.prog w = .ok (.value (.float .f64 (Tn.flr x))) w := by
 (rw [run_callFunc_extern (e := Extern.MathFloor.toIntegral "math.archFloor" .down) Tryz.func264 (by kernel_rfl) (by kernel_rfl) (by kernel_rfl) (by kernel_rfl)]);(have h1 := Tn.flr_is hx hf);(rw [Tn.read_fin hx hf] at h1);(rw [integral_num (show FloatKind.f64.decode x = _ from Tn.read_fin hx hf)])
 show Result.ok _ w = _
 rw [show FloatKind.f64.encode ((Ieee.Datum.number (Tn.sgn x) (Tn.dm (Tn.mag x)) (Tn.dp (Tn.mag x))).integral .down) = Tn.flr x from h1]
attribute [local go_sem] run_archFloor
set_option maxRecDepth 100000 in
set_option maxHeartbeats 400000 in
theorem floor_any (x : Nat) (hx : x < 18446744073709551616) (hf : Tn.fin x = true) (w : World) : Calls Tryz.prog 228 #[.float .f64 x] w fun e w' => e = .returned (.float .f64 (Tn.flr x)) ∧ w = w' := by
 (go_enter Tryz.func228, Tryz.ntmps228);(go_wp2);(go_ret);(exact ⟨rfl, rfl⟩)

namespace FX
def math_Floor.f (a0 : Nat) : Option Nat := if a0 < 18446744073709551616 ∧ Tn.fin a0 = true then some (Tn.flr a0) else none
theorem math_Floor.calls (a0 : Nat) (r : Nat) (w : World) (h : math_Floor.f a0 = some r) :
  Calls Tryz.prog 228 #[.float .f64 a0] w fun e w' => e = .returned (.float .f64 r) ∧ Drawn0 w w' := by
 unfold math_Floor.f at h
 split at h
 ·rename_i hb
  (obtain rfl := Option.some.inj h);(exact (floor_any a0 hb.1 hb.2 w).mono fun e w' ⟨he, hw⟩ => ⟨he, ⟨⟨0, hw ▸ rfl⟩⟩⟩)
 ·cases h
def ieee_Class.f (a0 : Nat) : Option Int := if a0 < 18446744073709551616 then some (Tn.cls a0) else none
theorem ieee_Class.calls (a0 : Nat) (r : Int) (w : World) (h : ieee_Class.f a0 = some r) :
  Calls Tryz.prog 78 #[.float .f64 a0] w fun e w' => e = .returned (.int .i64 r) ∧ Drawn0 w w' := by
 unfold ieee_Class.f at h
 split at h
 ·rename_i hb
  (obtain rfl := Option.some.inj h);(exact (class_any a0 hb w).mono fun e w' ⟨he, hw⟩ => ⟨he, ⟨⟨0, hw ▸ rfl⟩⟩⟩)
 ·cases h
def ieee_Split.f (a0 : Nat) : Option (Int × Int × Bool) := if a0 < 18446744073709551616 then some (Tn.spm a0, Tn.spe a0, Tn.fin a0) else none
theorem ieee_Split.calls (a0 : Nat) (r1 : Int) (r2 : Int) (r3 : Bool) (w : World) (h : ieee_Split.f a0 = some (r1, r2, r3)) :
  Calls Tryz.prog 153 #[.float .f64 a0] w fun e w' => e = .returned (.tuple #[.int .i64 r1, .int .i64 r2, .bool r3]) ∧ Drawn0 w w' := by
 unfold ieee_Split.f at h
 split at h
 ·rename_i hb
  (simp only [Option.some.injEq, Prod.mk.injEq] at h);(obtain ⟨rfl, rfl, rfl⟩ := h);(exact (split_any a0 hb w).mono fun e w' ⟨he, hw⟩ => ⟨he, ⟨⟨0, hw ▸ rfl⟩⟩⟩)
 ·cases h
def ieee_Join.f (a0 a1 : Int) : Option Nat := if -9223372036854775808 ≤ a0 ∧ a0 < 9223372036854775808 then some (Tn.jn a0 a1) else none
theorem ieee_Join.calls (a0 a1 : Int) (r : Nat) (w : World) (h : ieee_Join.f a0 a1 = some r) :
  Calls Tryz.prog 244 #[.int .i64 a0, .int .i64 a1] w fun e w' => e = .returned (.float .f64 r) ∧ Drawn0 w w' := by
 unfold ieee_Join.f at h
 split at h
 ·rename_i hb
  (obtain rfl := Option.some.inj h);(exact (join_any a0 a1 hb.1 hb.2 w).mono fun e w' ⟨he, n, hw⟩ => ⟨he, ⟨⟨n, hw⟩⟩⟩)
 ·cases h
def math_Abs.f (a0 : Nat) : Option Nat := if a0 < 18446744073709551616 then some (Tn.mag a0) else none
theorem math_Abs.calls (a0 : Nat) (r : Nat) (w : World) (h : math_Abs.f a0 = some r) :
  Calls Tryz.prog 276 #[.float .f64 a0] w fun e w' => e = .returned (.float .f64 r) ∧ Drawn0 w w' := by
 unfold math_Abs.f at h
 split at h
 ·rename_i hb
  (obtain rfl := Option.some.inj h);(exact (abs_any a0 hb w).mono fun e w' ⟨he, hw⟩ => ⟨he, ⟨⟨0, hw ▸ rfl⟩⟩⟩)
 ·cases h
def math_Inf.f (a0 : Int) : Option Nat := if a0 = 1 then some 9218868437227405312 else none
theorem math_Inf.calls (a0 : Int) (r : Nat) (w : World) (h : math_Inf.f a0 = some r) :
  Calls Tryz.prog 168 #[.int .i64 a0] w fun e w' => e = .returned (.float .f64 r) ∧ Drawn0 w w' := by
 unfold math_Inf.f at h
 split at h
 ·rename_i hb
  (subst hb);(obtain rfl := Option.some.inj h);(exact (inf1_any w).mono fun e w' ⟨he, hw⟩ => ⟨he, ⟨⟨0, hw ▸ rfl⟩⟩⟩)
 ·cases h
def math_NaN.f : Option Nat := some 9221120237041090561
theorem math_NaN.calls (r : Nat) (w : World) (h : math_NaN.f = some r) :
  Calls Tryz.prog 167 #[] w fun e w' => e = .returned (.float .f64 r) ∧ Drawn0 w w' := by
 (obtain rfl := Option.some.inj h);(exact (nan_any w).mono fun e w' ⟨he, hw⟩ => ⟨he, ⟨⟨0, hw ▸ rfl⟩⟩⟩)
end FX
end Go.Proofs.YtmdoljecjliehaaGreat
