/- bits.LeadingZeros64 off the shelf, in the print's form. -/
import Derived.Test.YtmdoljecjliehaaGreatFy
namespace Go.Proofs.YtmdoljecjliehaaGreat.FX
open Go.RowKit Go.Proofs.YtmdoljecjliehaaGreatW.PrintWords
def bits_Lz.f (a : Int) : Option Int := if 0 ≤ a ∧ a ≤ 18446744073709551615 then some (64 - (Lib.bitLen a.toNat : Int)) else none
theorem bits_Lz.calls (a r : Int) (w : World) (h : bits_Lz.f a = some r) :
  Calls Tryz.prog 224 #[.int .u64 a] w fun e w' => e = .returned (.int .i64 r) ∧ Drawn0 w w' := by
 unfold bits_Lz.f at h
 split at h
 ·rename_i hb
  (obtain rfl := Option.some.inj h);(exact (Tryz.bits_LeadingZeros64 a w hb.1 hb.2).mono fun e w' ⟨he, hw⟩ => ⟨he, ⟨⟨0, hw⟩⟩⟩)
 ·cases h
end Go.Proofs.YtmdoljecjliehaaGreat.FX
