/- Texts packed into one: Opn Opm Opc. No condition. -/
import Derived.Test.YtmdoljecjliehaaGreatZ0
import Derived.ChangeArms
import Derived.DataElems
import Derived.DataReads
import Derived.Laws.Cover2
import Derived.SizedLaws
import Derived.ChangeSlices
import Derived.Deep.Strs
import Derived.Test.YtmdoljecjliehaaGreatFy
section
/- Slices that come in, opened: whatever the elements' kind. -/
namespace Go.Proofs.YtmdoljecjliehaaGreatW.PrintWords
open Go.RowKit

theorem trod_float {H : Type} {enc : TypeId × Value → H} {P : Program} {w : World} {base : Nat} {spare : Nat → Bool} {held : Bool} {t : TypeId} {k : FloatKind} {fuel : Nat} {cs : List Value} {x : DataW H × List MemPlace}
  (ht : P.underlying t = some (.float k)) (h : DataW.trod enc P w base spare held fuel t cs = some x) : ∃ n, cs = [.float k n] ∧ x = (.lit (.float k n), []) ∧ (Lit.float k n).wf = true := by
 cases fuel with
 | zero => simp [DataW.trod] at h
 | succ n =>
  (unfold DataW.trod at h);(rw [ht] at h)
  split at h <;> simp_all

theorem listed {α : Type} {Q : Nat → α → Prop} : ∀ n, (∀ j, j < n → ∃ x, Q j x) → ∃ xs : List α, xs.length = n ∧ ∀ j x, xs[j]? = some x → Q j x
 | 0, _ => ⟨[], rfl, fun j x h => by simp at h⟩
 | n + 1, h => by
  (obtain ⟨xs, hl, hx⟩ := listed n (fun j hj => h j (by omega)));(obtain ⟨y, hy⟩ := h n (by omega));(refine ⟨xs ++ [y], by simp [hl], fun j x hj => ?_⟩)
  rcases Nat.lt_or_ge j xs.length with c | c
  ·rw [List.getElem?_append_left c] at hj; exact hx j x hj
  ·have hj' : j = n := by
    (have := (List.getElem?_eq_some_iff.1 hj).1);(rw [List.length_append, List.length_singleton] at this; omega)
   (subst hj');(rw [← hl] at hj);(have : y = x := by simpa using hj);(rw [← this]; exact hy)

theorem open_C {α : Type} (d : Kd α) (ok : α → Prop) {H : Type} {enc : TypeId × Value → H} {P : Program} {w : World} {base : Nat} {spare : Nat → Bool} {held : Bool} {t e : TypeId} {A : Option Addr} {len cap : Nat} {dd : DataW H} {ps : List MemPlace}
  (ht : P.underlying t = some (.slice e)) (hsz : P.cellsOf e = d.sz)
  (hel : ∀ n cs y, DataW.trod enc P w base spare held n e cs = some y → ∃ x : α, d.K w x cs ∧ ok x)
  (h : DataW.Trod enc P w base spare held t (.slice A len cap) dd ps) : ∃ xs : List α, xs.length = len ∧ d.C w A len xs ∧ len ≤ cap ∧ ∀ x ∈ xs, ok x := by
 obtain ⟨fuel, hf⟩ := h
 rcases DataW.trod_slice ht hf with ⟨hcs, _⟩ | ⟨a, l, c, elems, rest, n, _, hcs, _, hb, hl, hm, hlen, hel2, _, _⟩
 ·simp [Value.cells] at hcs
  (obtain ⟨rfl, rfl, rfl⟩ := hcs);(exact ⟨[], rfl, ⟨rfl, by decide, fun h => absurd h (by decide)⟩, Nat.le_refl _, fun x hx => by cases hx⟩)
 ·simp [Value.cells] at hcs
  obtain ⟨rfl, rfl, rfl⟩ := hcs
  have each : ∀ j, j < len → ∃ x : α, (∃ c, c.length = d.sz ∧ d.K w x c ∧ ∀ i u, c[i]? = some u → w.cell? (a.add (j * d.sz + i)) = some u) ∧ ok x := by
   (intro j hj);(have h1 := hel2 j hj);(have hj' : j < elems.length := by omega);(rw [List.getElem?_eq_getElem hj', Option.bind_eq_some_iff] at h1);(obtain ⟨cs', hc, ht'⟩ := h1);(obtain ⟨x, hx, hok⟩ := hel _ _ _ ht');(obtain ⟨_, hl', hcell⟩ := World.cells?_some hc);(refine ⟨x, ⟨cs', by rw [hl', hsz], hx, fun i u hu => ?_⟩, hok⟩)
   have hi : i < P.cellsOf e := by
    have := (List.getElem?_eq_some_iff.1 hu).1; omega
   (have := hcell i hi);(rw [Addr.add_add, hsz] at this);(rw [this, hu])
  (obtain ⟨xs, hxl, hxs⟩ := listed len each);(refine ⟨xs, hxl, ⟨hxl, by simp only [maxLen] at hm; omega, fun _ => ⟨a, rfl, fun j p hp => (hxs j p hp).1⟩⟩, hl, fun x hx => ?_⟩);(obtain ⟨j, hj⟩ := List.getElem?_of_mem hx);(exact (hxs j x hj).2)
end Go.Proofs.YtmdoljecjliehaaGreatW.PrintWords
end

section
/- Slices that come in, opened: how long they are; elements that are a whole number, a float and a whole number. -/
namespace Go.Proofs.YtmdoljecjliehaaGreatW.PrintWords
open Go.RowKit Go.ChangeShapes Go.WideShapes Go.Deep

theorem trod_ifi {H : Type} {enc : TypeId × Value → H} {P : Program} {w : World} {base : Nat} {spare : Nat → Bool} {held : Bool} {t ti tf : TypeId} {fuel : Nat} {cs : List Value} {x : DataW H × List MemPlace} {f0 f1 f2 : Field}
  (ht : P.underlying t = some (.struct #[f0, f1, f2])) (hi : P.underlying ti = some (.int .i64)) (hf : P.underlying tf = some (.float .f64)) (e0 : f0.type = ti) (e1 : f1.type = tf) (e2 : f2.type = ti) (o0 : f0.offset = 0) (o1 : f1.offset = 1) (o2 : f2.offset = 2) (ci : P.cellsOf ti = 1) (cf : P.cellsOf tf = 1) (ct : P.cellsOf t = 3)
  (h : DataW.trod enc P w base spare held fuel t cs = some x) : ∃ (a : Int) (b : Nat) (c : Int), cs = [.int .i64 a, .float .f64 b, .int .i64 c] ∧ b < 18446744073709551616 ∧ (Lit.int .i64 a).wf = true ∧ (Lit.int .i64 c).wf = true := by
 (obtain ⟨y0, y1, y2, n, _, hl, h0, h1, h2⟩ := trod_struct3 ht h);(rw [ct] at hl)
 match cs, hl with
 | [u, v, z], _ =>
  (rw [e0, o0, ci] at h0);(rw [e1, o1, cf] at h1);(rw [e2, o2, ci] at h2)
  simp at h0 h1 h2
  (obtain ⟨a, ha, _, wa⟩ := DataW.trod_int hi h0);(obtain ⟨b, hb, _, wb⟩ := trod_float hf h1);(obtain ⟨c, hc, _, wc⟩ := DataW.trod_int hi h2)
  simp at ha hb hc
  (subst ha hb hc);(exact ⟨a, b, c, rfl, by simpa [Lit.wf] using wb, wa, wc⟩)
end Go.Proofs.YtmdoljecjliehaaGreatW.PrintWords
end

section
/- A curve that comes in, opened: base, kind, days, factors. -/
namespace Go.Proofs.YtmdoljecjliehaaGreatW.PrintWords
open Go.RowKit Go.ChangeShapes Go.WideShapes Go.Deep

theorem open_curve {H : Type} {enc : TypeId × Value → H} {P : Program} {w : World} {r : Reach} {b0 : Nat} {base : Nat} {spare : Nat → Bool} {held : Bool} {t ti tl tm tf : TypeId} {v : Value} {d : DataW H} {ps : List MemPlace} {f0 f1 f2 f3 : Field}
  (ht : P.underlying t = some (.struct #[f0, f1, f2, f3])) (hi : P.underlying ti = some (.int .i64)) (hf : P.underlying tf = some (.float .f64)) (hl : P.underlying tl = some (.slice ti)) (hm : P.underlying tm = some (.slice tf))
  (e0 : f0.type = ti) (e1 : f1.type = ti) (e2 : f2.type = tl) (e3 : f3.type = tm) (o0 : f0.offset = 0) (o1 : f1.offset = 1) (o2 : f2.offset = 2) (o3 : f3.offset = 3)
  (ci : P.cellsOf ti = 1) (cf : P.cellsOf tf = 1) (cl : P.cellsOf tl = 1) (cm : P.cellsOf tm = 1) (ct : P.cellsOf t = 4)
  (hval : Value.okWide P w r b0 t v) (h : DataW.Trod enc P w base spare held t v d ps) :
  ∃ (b kd : Int) (A1 : Option Addr) (c1 : Nat) (ds : List Int) (A2 : Option Addr) (c2 : Nat) (fs : List Nat), v = .agg #[.int .i64 b, .int .i64 kd, .slice A1 ds.length c1, .slice A2 fs.length c2] ∧
   Kd.C (Kd.int .i64) w A1 ds.length ds ∧ ds.length ≤ c1 ∧ Kd.C Kd.flt w A2 fs.length fs ∧ fs.length ≤ c2 ∧ (∀ y ∈ fs, y < 18446744073709551616) ∧ (Lit.int .i64 b).wf = true ∧ (Lit.int .i64 kd).wf = true ∧ ∀ x ∈ ds, (Lit.int .i64 x).wf = true := by
 (obtain ⟨cs, rfl, hsz⟩ := okWide_struct ht hval);(obtain ⟨fuel, hd⟩ := h);(have hcs : (Value.agg cs).cells.toList = cs.toList := rfl);(rw [hcs] at hd);(obtain ⟨xs, n, _, _, hlen0, hxs, hfld⟩ := DataW.trod_struct ht hd);(have hsz4 : cs.toList.length = 4 := by rw [Array.length_toList, hsz, ct]);(have p0 := hfld 0 f0 rfl);(have p1 := hfld 1 f1 rfl);(have p2 := hfld 2 f2 rfl);(have p3 := hfld 3 f3 rfl);(have hx4 : xs.length = 4 := hxs);(rw [e0, o0, ci] at p0);(rw [e1, o1, ci] at p1);(rw [e2, o2, cl] at p2);(rw [e3, o3, cm] at p3)
 match hq : cs.toList, hsz4 with
 | [u0, u1, u2, u3], _ =>
  match xs, hx4 with
  | [y0, y1, y2, y3], _ =>
  rw [hq] at p0 p1 p2 p3
  simp at p0 p1 p2 p3
  (obtain ⟨a, ha, _, wa⟩ := DataW.trod_int hi p0);(obtain ⟨b, hb, _, wb⟩ := DataW.trod_int hi p1)
  simp at ha hb
  subst ha hb
  have hs2 : ∃ A n c, u2 = .slice A n c := by
   rcases DataW.trod_slice hl p2 with ⟨h, _⟩ | ⟨x, l, c, _, _, _, _, h, _⟩
   ·simp at h; exact ⟨_, _, _, h⟩
   ·simp at h; exact ⟨_, _, _, h⟩
  have hs3 : ∃ A n c, u3 = .slice A n c := by
   rcases DataW.trod_slice hm p3 with ⟨h, _⟩ | ⟨x, l, c, _, _, _, _, h, _⟩
   ·simp at h; exact ⟨_, _, _, h⟩
   ·simp at h; exact ⟨_, _, _, h⟩
  (obtain ⟨A1, n1, c1, rfl⟩ := hs2);(obtain ⟨A2, n2, c2, rfl⟩ := hs3)
  obtain ⟨ds, l1, C1, k1, w1⟩ := open_C (Kd.int .i64) (fun x => (Lit.int .i64 x).wf = true) (w := w) (A := A1) (len := n1) (cap := c1) (dd := y2.1) (ps := y2.2) hl ci (fun n cs y hy => by
   obtain ⟨a, rfl, _, wa⟩ := DataW.trod_int hi hy
   exact ⟨a, rfl, wa⟩) ⟨n, p2⟩
  obtain ⟨fs, l2, C2, k2, w2⟩ := open_C Kd.flt (fun x => x < 18446744073709551616) (w := w) (A := A2) (len := n2) (cap := c2) (dd := y3.1) (ps := y3.2) hm cf (fun n cs y hy => by
   obtain ⟨a, rfl, _, wa⟩ := trod_float hf hy
   exact ⟨a, rfl, by simpa [Lit.wf] using wa⟩) ⟨n, p3⟩
  (subst l1 l2);(refine ⟨a, b, A1, c1, ds, A2, c2, fs, ?_, C1, k1, C2, k2, w2, wa, wb, w1⟩);(have : cs = #[.int .i64 a, .int .i64 b, .slice A1 ds.length c1, .slice A2 fs.length c2] := by rw [← Array.toArray_toList (xs := cs), hq]);(rw [this])
end Go.Proofs.YtmdoljecjliehaaGreatW.PrintWords
end
