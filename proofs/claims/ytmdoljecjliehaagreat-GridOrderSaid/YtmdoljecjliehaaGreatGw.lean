/- grid.ways: the table of the kinds' doings. -/
import Derived.Test.YtmdoljecjliehaaGreatFGax1
namespace Go.Proofs.YtmdoljecjliehaaGreat.FGa
open Go.RowKit Go.Proofs.YtmdoljecjliehaaGreatW.PrintWords Go.Proofs.YtmdoljecjliehaaGreatW.PrintLast Go.Proofs.YtmdoljecjliehaaGreatW.PrintMore Go.Proofs.YtmdoljecjliehaaGreat.FX Go.Proofs.YtmdoljecjliehaaGreat.EV Go.Proofs.YtmdoljecjliehaaGreat.FP Go.Proofs.YtmdoljecjliehaaGreat.FB Tn
set_option linter.unusedVariables false
set_option linter.unusedSimpArgs false
theorem ways_any (w : World) : Calls Tryz.prog 77 #[] w fun e w' => ∃ g : Nat, e = .returned (.slice (some ⟨g, 0, none⟩) 4 4) ∧ Below w.heap.size w w' ∧ w'.heap[g]? = some (.cells #[.nilFunc, .func (.func 137) #[] #[], .func (.func 138) #[] #[], .func (.func 139) #[] #[]] 45 (0, 0)) ∧ w.heap.size ≤ g := by
 (go_enter Tryz.func77, Tryz.ntmps77);(go_wp2);(go_ret);(exact ⟨_, rfl, below_alloc (Below.refl _ _) _, heap_alloc_new _ _, Nat.le_refl _⟩)
end Go.Proofs.YtmdoljecjliehaaGreat.FGa
