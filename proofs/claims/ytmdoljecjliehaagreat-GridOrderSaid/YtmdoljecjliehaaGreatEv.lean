/- What is told from some round on. No program. -/
import Derived.Test.YtmdoljecjliehaaGreatZ0
import Derived.Test.YtmdoljecjliehaaGreatPl
namespace Go.Proofs.YtmdoljecjliehaaGreat.EV
open Go.RowKit Go.Proofs.YtmdoljecjliehaaGreatW.PrintWords Tn
set_option linter.unusedVariables false

theorem w64 {i : Int} (h1 : -9223372036854775808 ≤ i) (h2 : i < 9223372036854775808) : wrap64 i = i := by unfold wrap64; omega
theorem wr {i n : Nat} (h : i < n) (hn : n ≤ 1152921504606846976) : wrap64 ((i : Int) + 1) = ((i + 1 : Nat) : Int) := by unfold wrap64; omega
theorem up {α : Type} {f : Nat → Option α} (hm : ∀ k, LeO (f k) (f (k + 1))) {k : Nat} {r : α} (h : f k = some r) : ∀ n, f (k + n) = some r
 | 0 => h
 | n + 1 => hm (k + n) r (up hm h n)
def Evt {α : Type} (f : Nat → Option α) (r : α) : Prop := ∃ k, ∀ n, k ≤ n → f n = some r
theorem evt {α : Type} {f : Nat → Option α} (hm : ∀ k, LeO (f k) (f (k + 1))) {r : α} (h : ∃ k, f k = some r) : Evt f r := by
 (obtain ⟨k, hk⟩ := h);(refine ⟨k, fun n hn => ?_⟩);(have := up hm hk (n - k))
 rwa [show k + (n - k) = n by omega] at this
theorem Evt.bind {α β : Type} {f : Nat → Option α} {g : Nat → α → Option β} {a : α} {b : β} (h1 : Evt f a) (h2 : Evt (fun k => g k a) b) : Evt (fun k => (f k).bind (g k)) b := by
 (obtain ⟨k, hk⟩ := h1);(obtain ⟨m, hm⟩ := h2);(refine ⟨k + m, fun n hn => ?_⟩)
 show (f n).bind (g n) = some b
 (rw [hk n (by omega), Option.bind_some]);(exact hm n (by omega))
theorem Evt.const {α : Type} {f : Nat → Option α} {r : α} (h : ∀ k, f k = some r) : Evt f r := ⟨0, fun n _ => h n⟩
theorem Evt.next {α : Type} {f g : Nat → Option α} {r : α} (h : Evt f r) (he : ∀ k, g (k + 1) = f k) : Evt g r := by
 (obtain ⟨k, hk⟩ := h);(refine ⟨k + 1, fun n hn => ?_⟩);(obtain ⟨m, rfl⟩ : ∃ m, n = m + 1 := ⟨n - 1, by omega⟩);(rw [he m]; exact hk m (by omega))
theorem Evt.last {α : Type} {g : Nat → Option α} {r : α} (he : ∀ k, g (k + 1) = some r) : Evt g r := Evt.next (f := fun _ => some r) (Evt.const fun _ => rfl) he
theorem Evt.congr {α : Type} {f g : Nat → Option α} {r : α} (h : Evt f r) (he : ∀ k, g k = f k) : Evt g r := by
 (obtain ⟨k, hk⟩ := h);(exact ⟨k, fun n hn => by rw [he n]; exact hk n hn⟩)
theorem Evt.ifT {α : Type} {p : Prop} [Decidable p] {f g : Nat → Option α} {r : α} (hp : p) (h : Evt f r) : Evt (fun k => if p then f k else g k) r := h.congr fun _ => if_pos hp
theorem Evt.ifF {α : Type} {p : Prop} [Decidable p] {f g : Nat → Option α} {r : α} (hp : ¬ p) (h : Evt g r) : Evt (fun k => if p then f k else g k) r := h.congr fun _ => if_neg hp
theorem Evt.after {α β : Type} {g : Nat → α → Option β} {x : Option α} {a : α} {b : β} (hx : x = some a) (h2 : Evt (fun k => g k a) b) : Evt (fun k => x.bind (g k)) b := h2.congr fun _ => by rw [hx]; rfl
theorem Evt.get {α : Type} {f : Nat → Option α} {r : α} (h : Evt f r) : ∃ k, f k = some r := by
 (obtain ⟨k, hk⟩ := h);(exact ⟨k, hk k (Nat.le_refl k)⟩)
theorem Evt.uniq {α : Type} {f : Nat → Option α} {r s : α} (h : Evt f r) (h2 : Evt f s) : r = s := by
 (obtain ⟨k, hk⟩ := h);(obtain ⟨m, hm⟩ := h2);(have := (hk (k + m) (by omega)).symm.trans (hm (k + m) (by omega)));(exact Option.some.inj this)
theorem rdf_at {l : List Nat} {i : Nat} (hi : i < l.length) : rdOf (0 : Nat) l (i : Int) = l[i] := by
 (unfold rdOf);(rw [Int.toNat_natCast, List.getD_eq_getElem?_getD, List.getElem?_eq_getElem hi]; rfl)
theorem rdi_at {l : List Int} {i : Nat} (hi : i < l.length) : rd l (i : Int) = l[i] := by
 (unfold rd);(rw [Int.toNat_natCast, List.getD_eq_getElem?_getD, List.getElem?_eq_getElem hi]; rfl)
end Go.Proofs.YtmdoljecjliehaaGreat.EV
