/- Texts packed into one: Aj Ak Al. No condition. -/
import Derived.Test.YtmdoljecjliehaaGreatAg
import Derived.ChangeKeysEq
section
/- Contracts of package acc: Copy, Turn. -/
namespace Go.Proofs.YtmdoljecjliehaaGreat
open Go.RowKit Go.Proofs.YtmdoljecjliehaaGreatW.PrintWords Tn

end Go.Proofs.YtmdoljecjliehaaGreat
end

section
/- Contracts of package acc: Same (sums of numbers). -/
namespace Go.Proofs.YtmdoljecjliehaaGreat
open Go.RowKit Go.Proofs.YtmdoljecjliehaaGreatW.PrintWords Tn

end Go.Proofs.YtmdoljecjliehaaGreat
end

section
/- Contracts of package price: Nothing, Turned, Plus. -/
namespace Go.Proofs.YtmdoljecjliehaaGreat
open Go.RowKit Go.Proofs.YtmdoljecjliehaaGreatW.PrintWords Tn

structure worth (w : World) (g b : Nat) (Z : Int) : Prop where
 p : w.heap[g]? = some (.cells #[.pointer (some ⟨b, 0, none⟩)] 84 (0, 0))
 a : accZ w b Z false false
theorem worth.cell {w : World} {g b : Nat} {Z : Int} (h : worth w g b Z) : w.cell? ⟨g, 0, none⟩ = some (.pointer (some ⟨b, 0, none⟩)) := (blk_cell h.p 0).trans rfl
theorem worth.lt {w : World} {g b : Nat} {Z : Int} (h : worth w g b Z) : g < w.heap.size ∧ b < w.heap.size := ⟨(Array.getElem?_eq_some_iff.1 h.p).1, (Array.getElem?_eq_some_iff.1 (show w.heap[b]? = some _ from h.a)).1⟩
theorem worth.ne {w : World} {g b : Nat} {Z : Int} (h : worth w g b Z) : g ≠ b := by
 (rintro rfl);(have h1 : w.heap[g]? = some (.cells (cellsF (wd (modB Z)) false false) 160 (0, 0)) := h.a);(rw [h.p] at h1);(have h2 := Option.some.inj h1)
 injection h2 with _ h3 _
 exact absurd h3 (by decide)
theorem worth.below {w w' : World} {g b : Nat} {Z : Int} (h : worth w g b Z) (hb : Below w.heap.size w w') : worth w' g b Z := by
 (obtain ⟨h1, h2⟩ := h.lt);(exact ⟨(hb.block g h1).trans h.p, (hb.block b h2).trans h.a⟩)
theorem acc_new2 (W : World) : accZ (W.alloc (.cells (cellsF (fun _ => 0) false false) 160)) W.heap.size 0 false false := by
 (have h := heap_alloc_new W (.cells (cellsF (fun _ => 0) false false) 160));(have e : cellsF (wd (modB 0)) false false = cellsF (fun _ => 0) false false := cellsF_congr _ _ (fun i _ => by simp [wd, modB]));(unfold accZ acc accF);(rw [e]; exact h)
theorem worth_alloc {W : World} {b : Nat} {Z : Int} (h : accZ W b Z false false) : worth (W.alloc (.cells #[.pointer (some ⟨b, 0, none⟩)] 84)) W.heap.size b Z :=
 ⟨heap_alloc_new W _, (blk_alloc h _ : _)⟩

set_option maxRecDepth 100000 in
set_option maxHeartbeats 400000 in
theorem nothing_any (w : World) :
  Calls Tryz.prog 91 #[] w fun e w' => e = .returned (.pointer (some ⟨w.heap.size + 1, 0, none⟩)) ∧ Aside0 (Below w.heap.size w w') ∧ Aside0 (worth w' (w.heap.size + 1) w.heap.size 0) := by
 (have HA := Aside0.mk (acc_new2 w));(have HB := Aside0.mk (below_alloc (Below.refl w.heap.size w) (.cells (cellsF (fun _ => 0) false false) 160)));(have HS : RowKit.Hid ((w.alloc (.cells (cellsF (fun _ => 0) false false) 160)).heap.size = w.heap.size + 1) := by unfold World.alloc; exact Array.size_push _);(go_enter Tryz.func91, Tryz.ntmps91)
 go_wp2_with (go_at_call 134; refine (new_any _).mono ?_; rintro e w' ⟨rfl, rfl⟩; have HS' := HS.out; generalize w.alloc (.cells (cellsF (fun _ => 0) false false) 160) = W1 at *)
 (go_ret);(have h1 := worth_alloc HA.out);(rw [HS.out] at h1);(exact ⟨rfl, ⟨below_alloc HB.out _⟩, ⟨h1⟩⟩)

end Go.Proofs.YtmdoljecjliehaaGreat
end
