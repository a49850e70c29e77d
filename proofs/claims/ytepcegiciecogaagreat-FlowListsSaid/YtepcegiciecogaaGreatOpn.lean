/- Slices that come in, opened: whatever the elements' kind. -/
import Derived.Test.YtepcegiciecogaaGreatZ0
import Derived.ChangeArms
import Derived.DataElems
import Derived.DataReads
import Derived.Laws.Cover2
namespace Go.Proofs.YtepcegiciecogaaGreatW.PrintWords
open Go.RowKit

theorem trod_float {H : Type} {enc : TypeId × Value → H} {P : Program} {w : World} {base : Nat} {spare : Nat → Bool} {held : Bool} {t : TypeId} {k : FloatKind} {fuel : Nat} {cs : List Value} {x : DataW H × List MemPlace}
    (ht : P.underlying t = some (.float k)) (h : DataW.trod enc P w base spare held fuel t cs = some x) : ∃ n, cs = [.float k n] ∧ x = (.lit (.float k n), []) ∧ (Lit.float k n).wf = true := by
  cases fuel with
  | zero => simp [DataW.trod] at h
  | succ n =>
    unfold DataW.trod at h
    rw [ht] at h
    split at h <;> simp_all

theorem listed {α : Type} {Q : Nat → α → Prop} : ∀ n, (∀ j, j < n → ∃ x, Q j x) → ∃ xs : List α, xs.length = n ∧ ∀ j x, xs[j]? = some x → Q j x
  | 0, _ => ⟨[], rfl, fun j x h => by simp at h⟩
  | n + 1, h => by
    obtain ⟨xs, hl, hx⟩ := listed n (fun j hj => h j (by omega))
    obtain ⟨y, hy⟩ := h n (by omega)
    refine ⟨xs ++ [y], by simp [hl], fun j x hj => ?_⟩
    rcases Nat.lt_or_ge j xs.length with c | c
    · rw [List.getElem?_append_left c] at hj; exact hx j x hj
    · have hj' : j = n := by
        have := (List.getElem?_eq_some_iff.1 hj).1
        rw [List.length_append, List.length_singleton] at this; omega
      subst hj'
      rw [← hl] at hj
      have : y = x := by simpa using hj
      rw [← this]; exact hy

/-- A slice that came in reads as a list of what its elements are. -/
theorem open_C {α : Type} (d : Kd α) (ok : α → Prop) {H : Type} {enc : TypeId × Value → H} {P : Program} {w : World} {base : Nat} {spare : Nat → Bool} {held : Bool} {t e : TypeId} {A : Option Addr} {len cap : Nat} {dd : DataW H} {ps : List MemPlace}
    (ht : P.underlying t = some (.slice e)) (hsz : P.cellsOf e = d.sz)
    (hel : ∀ n cs y, DataW.trod enc P w base spare held n e cs = some y → ∃ x : α, d.K w x cs ∧ ok x)
    (h : DataW.Trod enc P w base spare held t (.slice A len cap) dd ps) : ∃ xs : List α, xs.length = len ∧ d.C w A len xs ∧ len ≤ cap ∧ ∀ x ∈ xs, ok x := by
  obtain ⟨fuel, hf⟩ := h
  rcases DataW.trod_slice ht hf with ⟨hcs, _⟩ | ⟨a, l, c, elems, rest, n, _, hcs, _, hb, hl, hm, hlen, hel2, _, _⟩
  · simp [Value.cells] at hcs
    obtain ⟨rfl, rfl, rfl⟩ := hcs
    exact ⟨[], rfl, ⟨rfl, by decide, fun h => absurd h (by decide)⟩, Nat.le_refl _, fun x hx => by cases hx⟩
  · simp [Value.cells] at hcs
    obtain ⟨rfl, rfl, rfl⟩ := hcs
    have each : ∀ j, j < len → ∃ x : α, (∃ c, c.length = d.sz ∧ d.K w x c ∧ ∀ i u, c[i]? = some u → w.cell? (a.add (j * d.sz + i)) = some u) ∧ ok x := by
      intro j hj
      have h1 := hel2 j hj
      have hj' : j < elems.length := by omega
      rw [List.getElem?_eq_getElem hj', Option.bind_eq_some_iff] at h1
      obtain ⟨cs', hc, ht'⟩ := h1
      obtain ⟨x, hx, hok⟩ := hel _ _ _ ht'
      obtain ⟨_, hl', hcell⟩ := World.cells?_some hc
      refine ⟨x, ⟨cs', by rw [hl', hsz], hx, fun i u hu => ?_⟩, hok⟩
      have hi : i < P.cellsOf e := by
        have := (List.getElem?_eq_some_iff.1 hu).1; omega
      have := hcell i hi
      rw [Addr.add_add, hsz] at this
      rw [this, hu]
    obtain ⟨xs, hxl, hxs⟩ := listed len each
    refine ⟨xs, hxl, ⟨hxl, by simp only [maxLen] at hm; omega, fun _ => ⟨a, rfl, fun j p hp => (hxs j p hp).1⟩⟩, hl, fun x hx => ?_⟩
    obtain ⟨j, hj⟩ := List.getElem?_of_mem hx
    exact (hxs j x hj).2
end Go.Proofs.YtepcegiciecogaaGreatW.PrintWords
