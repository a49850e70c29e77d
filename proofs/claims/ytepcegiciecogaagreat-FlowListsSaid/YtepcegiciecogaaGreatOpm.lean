/- Slices that come in, opened: how long they are; elements that are a whole number, a float and a whole number. -/
import Derived.Test.YtepcegiciecogaaGreatOpn
import Derived.SizedLaws
import Derived.ChangeSlices
import Derived.Deep.Strs
namespace Go.Proofs.YtepcegiciecogaaGreatW.PrintWords
open Go.RowKit Go.ChangeShapes Go.WideShapes Go.Deep

theorem sized_C {H : Type} {enc : TypeId × Value → H} {P : Program} {W : World} {base : Nat} {spare : Nat → Bool} {held : Bool} {t e : TypeId} {a : Option Addr} {len cap : Nat} {d : DataW H} {ps : List MemPlace} {ts : List TypeId} {ds : List (DataW H)} {j : Nat}
    (hsz : (DataW.weightsEach P ts ds).all (· ≤ reachBytes) = true) (ht : ts[j]? = some t) (hd : ds[j]? = some d) (hu : P.underlying t = some (.slice e)) {B : Nat} (hB : P.bytesOf e = B)
    (h : DataW.Trod enc P W base spare held t (.slice a len cap) d ps) : len * B ≤ 140737488351232 := by
  obtain ⟨fuel, hf⟩ := h
  rcases DataW.trod_slice hu hf with ⟨hcs, _⟩ | ⟨x, l, c, elems, rest, n, _, hcs, hx, _, hl, _, hlen, _, _, _⟩
  · simp [Value.cells] at hcs
    obtain ⟨rfl, rfl, rfl⟩ := hcs
    simp
  · simp [Value.cells] at hcs
    obtain ⟨rfl, rfl, rfl⟩ := hcs
    obtain ⟨hx, _⟩ := Prod.mk.inj hx
    subst hx
    have z := sized_slice hsz ht hd hu
    rw [hB, List.length_map, List.length_map, hlen] at z
    exact Nat.le_trans (Nat.mul_le_mul_right _ (Nat.le_add_right _ _)) z
/-- a whole number, a float, a whole number. -/
theorem trod_ifi {H : Type} {enc : TypeId × Value → H} {P : Program} {w : World} {base : Nat} {spare : Nat → Bool} {held : Bool} {t ti tf : TypeId} {fuel : Nat} {cs : List Value} {x : DataW H × List MemPlace} {f0 f1 f2 : Field}
    (ht : P.underlying t = some (.struct #[f0, f1, f2])) (hi : P.underlying ti = some (.int .i64)) (hf : P.underlying tf = some (.float .f64)) (e0 : f0.type = ti) (e1 : f1.type = tf) (e2 : f2.type = ti) (o0 : f0.offset = 0) (o1 : f1.offset = 1) (o2 : f2.offset = 2) (ci : P.cellsOf ti = 1) (cf : P.cellsOf tf = 1) (ct : P.cellsOf t = 3)
    (h : DataW.trod enc P w base spare held fuel t cs = some x) : ∃ (a : Int) (b : Nat) (c : Int), cs = [.int .i64 a, .float .f64 b, .int .i64 c] ∧ b < 18446744073709551616 ∧ (Lit.int .i64 a).wf = true ∧ (Lit.int .i64 c).wf = true := by
  obtain ⟨y0, y1, y2, n, _, hl, h0, h1, h2⟩ := trod_struct3 ht h
  rw [ct] at hl
  match cs, hl with
  | [u, v, z], _ =>
    rw [e0, o0, ci] at h0
    rw [e1, o1, cf] at h1
    rw [e2, o2, ci] at h2
    simp at h0 h1 h2
    obtain ⟨a, ha, _, wa⟩ := DataW.trod_int hi h0
    obtain ⟨b, hb, _, wb⟩ := trod_float hf h1
    obtain ⟨c, hc, _, wc⟩ := DataW.trod_int hi h2
    simp at ha hb hc
    subst ha hb hc
    exact ⟨a, b, c, rfl, by simpa [Lit.wf] using wb, wa, wc⟩
end Go.Proofs.YtepcegiciecogaaGreatW.PrintWords
