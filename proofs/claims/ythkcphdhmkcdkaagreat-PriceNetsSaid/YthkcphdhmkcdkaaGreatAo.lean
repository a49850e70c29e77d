/- MERGED: Am An Ao. -/
import Derived.Test.YthkcphdhmkcdkaaGreatAg
import Derived.Test.YthkcphdhmkcdkaaGreatPl
import Derived.WalkKit
import Derived.Lib.Hide
import Derived.Laws.StructEq
import Derived.MapKept
import Derived.ChangeMaps4
import Derived.Maps.OwnOps
import Derived.OwnWalk
import Derived.DeepKeys4
import Derived.Test.YthkcphdhmkcdkaaGreatFy
import Derived.Test.YthkcphdhmkcdkaaGreatZ0
import Derived.Sort.Row
import Derived.Sort.Statements
import Derived.Shelf.SlSortCmp.WholeK
import Derived.Test.YthkcphdhmkcdkaaGreatShelf
namespace Go.Proofs.YthkcphdhmkcdkaaGreat
open Go.RowKit Go.Proofs.YthkcphdhmkcdkaaGreatW.PrintWords Tn Go.ChangeMaps Go.MapKept


def pv (k : Pla) : Value := .agg #[.int .i64 k.1, .int .i64 k.2]
def entry (x : (Pla × Nat) × Nat) : MapEntry := { key := pv x.1.1, val := .pointer (some ⟨x.1.2, 0, none⟩), born := x.2 }
def entsOf (es : List (Pla × Nat)) : Array MapEntry := (es.zipIdx.map entry).toArray
/-- block b is a map of these places, in the order of their coming, to these blocks. -/
def mapAt (w : World) (b : Nat) (es : List (Pla × Nat)) : Prop := w.heap[b]? = some (.map (entsOf es) es.length)
def seek (k : Pla) (es : List (Pla × Nat)) : Option Nat := (es.find? fun x => decide (k = x.1)).map (·.2)

set_option maxRecDepth 100000 in
theorem place_row : (84 : Nat) < Tryz.prog.types.size := of_decide_eq_true (by kernel_rfl)
theorem place_key (k : Pla) (h : -9223372036854775808 ≤ k.1 ∧ k.1 < 9223372036854775808 ∧ -9223372036854775808 ≤ k.2 ∧ k.2 < 9223372036854775808) : ∃ l, keyOf Tryz.prog 84 (pv k) = some l := by
  obtain ⟨a, b⟩ := k
  have wa : (Lit.int .i64 a).wf = true := by simp [Lit.wf, IntKind.min, IntKind.max, IntKind.bits, IntKind.signed]; omega
  have wb : (Lit.int .i64 b).wf = true := by simp [Lit.wf, IntKind.min, IntKind.max, IntKind.bits, IntKind.signed]; omega
  have hk : Tryz.prog.keyType 84 = true := by kernel_rfl
  have hc : Tryz.prog.cellsOf 84 = 2 := by kernel_rfl
  have hc1 : Tryz.prog.cellsOf 3 = 1 := by kernel_rfl
  have hf : (pv (a, b)).formed Tryz.prog 84 = true := by simp [Value.formed, pv, Tryz.underlying84, hc]
  obtain ⟨n, hn⟩ : ∃ n, Tryz.prog.types.size + 1 = n + 2 := ⟨Tryz.prog.types.size - 1, by have h : 1 ≤ Tryz.prog.types.size := Nat.le_trans (by decide) (Nat.le_of_lt place_row); omega⟩
  unfold keyOf
  rw [Tryz.underlying84, hn]
  simp only [hk, hf, Bool.and_self, if_true]
  simp [Program.keyLits, pv, Value.cells, Tryz.underlying84, Tryz.underlying3, hc, hc1, wa, wb]
theorem place_wide : (match Tryz.prog.underlying 84 with | some (.array _ _) | some (.struct _) => true | _ => false) = true := by rw [Tryz.underlying84]
set_option maxRecDepth 100000 in
theorem map_laidOut : laidOutB Tryz.prog = true := by kernel_rfl
set_option maxRecDepth 100000 in
theorem place_law : WideMaps.KeyLaw Tryz.prog 84 := deep_law_laid map_laidOut (m := 2) (by omega) place_row (by kernel_rfl) place_wide

/-- a place within int's bounds. -/
def InB (k : Pla) : Prop := -9223372036854775808 ≤ k.1 ∧ k.1 < 9223372036854775808 ∧ -9223372036854775808 ≤ k.2 ∧ k.2 < 9223372036854775808
theorem pv_inj {k l : Pla} (h : pv k = pv l) : k = l := by
  obtain ⟨a, b⟩ := k
  obtain ⟨c, d⟩ := l
  unfold pv at h
  injection h with h
  simp at h
  rw [h.1, h.2]
theorem ents_get (es : List (Pla × Nat)) (j : Nat) : (entsOf es).toList[j]? = (es[j]?).map fun x => entry (x, j) := by
  unfold entsOf
  rw [List.toList_toArray, List.getElem?_map, List.getElem?_zipIdx]
  cases es[j]? <;> simp
theorem seek_some {es : List (Pla × Nat)} (hd : es.Pairwise fun x y => x.1 ≠ y.1) {j : Nat} {x : Pla × Nat} (h : es[j]? = some x) : seek x.1 es = some x.2 := by
  unfold seek
  have hm := List.mem_of_getElem? h
  have : es.find? (fun y => decide (x.1 = y.1)) = some x := by
    induction es generalizing j with
    | nil => simp at h
    | cons e es ih =>
      rw [List.pairwise_cons] at hd
      rw [List.find?_cons]
      cases j with
      | zero =>
        simp at h
        subst h
        simp
      | succ j =>
        rw [List.getElem?_cons_succ] at h
        have hne := hd.1 x (List.mem_of_getElem? h)
        rw [decide_eq_false (fun e2 => hne e2.symm)]
        exact ih hd.2 h (List.mem_of_getElem? h)
  rw [this]; rfl
theorem seek_none {k : Pla} {es : List (Pla × Nat)} (h : ∀ x ∈ es, x.1 ≠ k) : seek k es = none := by
  unfold seek
  rw [List.find?_eq_none.2 (fun x hx => by simp; exact fun e => h x hx e.symm)]; rfl
theorem find_ents {k : Pla} (hk : InB k) {es : List (Pla × Nat)} (he : ∀ x ∈ es, InB x.1) (hd : es.Pairwise fun x y => x.1 ≠ y.1) (w : World) :
    ((Instr.findKey 84 (pv k) (entsOf es).toList).run Tryz.prog w = .ok none w ∧ seek k es = none) ∨ ∃ j b, (Instr.findKey 84 (pv k) (entsOf es).toList).run Tryz.prog w = .ok (some (j, .pointer (some ⟨b, 0, none⟩))) w ∧ seek k es = some b := by
  obtain ⟨l, hl⟩ := place_key k hk
  have hall : ∀ e ∈ (entsOf es).toList, ∃ l, keyOf Tryz.prog 84 e.key = some l := by
    intro e h
    obtain ⟨j, hj⟩ := List.getElem?_of_mem h
    rw [ents_get] at hj
    obtain ⟨x, hx, rfl⟩ := Option.map_eq_some_iff.1 hj
    exact place_key x.1 (he x (List.mem_of_getElem? hx))
  rcases place_law.find w hl _ hall with ⟨h1, h2⟩ | ⟨j, e, h1, h2, h3⟩
  · refine .inl ⟨h1, seek_none fun x hx hxk => ?_⟩
    obtain ⟨j, hj⟩ := List.getElem?_of_mem hx
    have : (entsOf es).toList[j]? = some (entry (x, j)) := by rw [ents_get, hj]; rfl
    exact h2 _ (List.mem_of_getElem? this) (by show pv x.1 = _; rw [hxk])
  · rw [ents_get] at h2
    obtain ⟨x, hx, rfl⟩ := Option.map_eq_some_iff.1 h2
    have hxk : x.1 = k := pv_inj h3
    exact .inr ⟨j, x.2, h1, by rw [← hxk]; exact seek_some hd hx⟩
/-- what a look-up tells. -/
def ptrOf : Option Nat → Value
  | none => .pointer none
  | some b => .pointer (some ⟨b, 0, none⟩)
theorem look_place {k : Pla} (hk : InB k) {es : List (Pla × Nat)} (he : ∀ x ∈ es, InB x.1) (hd : es.Pairwise fun x y => x.1 ≠ y.1) {w : World} {b : Nat} (h : mapAt w b es) :
    (Instr.lookup 81 (.map (some b)) (pv k) false).run Tryz.prog w = .ok (ptrOf (seek k es)) w := by
  obtain ⟨l, hl⟩ := place_key k hk
  rcases find_ents hk he hd w with ⟨h1, h2⟩ | ⟨j, c, h1, h2⟩
  · rw [h2]
    simp [Instr.lookup, run_underlying Tryz.underlying81, MapKept.run_getObj_map h, place_law.check w _ hl, h1, Result.andThen, ptrOf]
  · rw [h2]
    simp [Instr.lookup, run_underlying Tryz.underlying81, MapKept.run_getObj_map h, place_law.check w _ hl, h1, Result.andThen, ptrOf]
theorem store_place {k : Pla} (hk : InB k) {es : List (Pla × Nat)} (he : ∀ x ∈ es, InB x.1) (hd : es.Pairwise fun x y => x.1 ≠ y.1) {w : World} {b c : Nat} (h : mapAt w b es) (hn : seek k es = none) :
    (Instr.mapUpdate 81 (.map (some b)) (pv k) (.pointer (some ⟨c, 0, none⟩))).run Tryz.prog w = .ok () (setBlock w b (.map (entsOf (es ++ [(k, c)])) (es ++ [(k, c)]).length)) := by
  obtain ⟨l, hl⟩ := place_key k hk
  have e1 : (entsOf es).push { key := pv k, val := .pointer (some ⟨c, 0, none⟩), born := es.length } = entsOf (es ++ [(k, c)]) := by
    unfold entsOf
    rw [List.zipIdx_append, List.map_append]
    simp [entry]
  rcases find_ents hk he hd w with ⟨h1, h2⟩ | ⟨j, d, h1, h2⟩
  · simp [Instr.mapUpdate, run_underlying Tryz.underlying81, MapKept.run_getObj_map h, place_law.check w _ hl, h1, Result.andThen, MapKept.run_setObj_map _ h, e1]
    rfl
  · rw [hn] at h2; cases h2
end Go.Proofs.YthkcphdhmkcdkaaGreat

namespace Go.Proofs.YthkcphdhmkcdkaaGreat
open Go.RowKit Go.Proofs.YthkcphdhmkcdkaaGreatW.PrintWords Tn Go.Shelf

/-- places that are small. -/
abbrev Pl := Fin 16 × Fin 131072
def plV (x : Pl) : Pla := ((x.1.val : Int), (x.2.val : Int))
def vPl (k : Pla) : Pl := (Fin.ofNat 16 k.1.toNat, Fin.ofNat 131072 k.2.toNat)
def encP (x : Pl) : List Value := [.int .i64 (x.1.val : Nat), .int .i64 (x.2.val : Nat)]
def cfP (a b : Pl) : Int := if a.1.val = b.1.val then (a.2.val : Int) - b.2.val else (a.1.val : Int) - b.1.val
def SmP (k : Pla) : Prop := 0 ≤ k.1 ∧ k.1 < 16 ∧ 0 ≤ k.2 ∧ k.2 < 131072
theorem plV_vPl {k : Pla} (h : SmP k) : plV (vPl k) = k := by
  obtain ⟨a, b⟩ := k
  obtain ⟨h1, h2, h3, h4⟩ := h
  show (((a.toNat % 16 : Nat) : Int), ((b.toNat % 131072 : Nat) : Int)) = (a, b)
  have h5 : a.toNat % 16 = a.toNat := Nat.mod_eq_of_lt (by have : a < 16 := h2; omega)
  have h6 : b.toNat % 131072 = b.toNat := Nat.mod_eq_of_lt (by have : b < 131072 := h4; omega)
  rw [h5, h6, Int.toNat_of_nonneg h1, Int.toNat_of_nonneg h3]
theorem ltP (x y : Pl) : ltOf cfP x y = decide (x.1.val < y.1.val ∨ (x.1.val = y.1.val ∧ x.2.val < y.2.val)) := by
  unfold ltOf cfP
  by_cases h1 : x.1.val = y.1.val
  · rw [if_pos h1, Bool.eq_iff_iff, decide_eq_true_iff, decide_eq_true_iff]; omega
  · rw [if_neg h1, Bool.eq_iff_iff, decide_eq_true_iff, decide_eq_true_iff]; omega
theorem swoP : Go.Sort.SWO (ltOf cfP) where
  irrefl x := by rw [ltP]; simp
  trans x y z h1 h2 := by rw [ltP] at *; simp only [decide_eq_true_iff] at *; omega
  ntrans x y z h1 h2 := by rw [ltP] at *; simp only [decide_eq_false_iff_not] at *; omega
/-- the places, sorted. -/
def sortK (l : List Pla) : List Pla := (Go.Sort.pdq (ltOf cfP) (l.map vPl).toArray 0 (l.map vPl).toArray.size (Lib.bitLen (l.map vPl).toArray.size) true true).toList.map plV

set_option maxRecDepth 100000 in
set_option maxHeartbeats 400000 in
theorem sortP_cmp (x y : Pl) (w : World) : Calls Tryz.prog 40 #[.agg (encP x).toArray, .agg (encP y).toArray] w fun e w' => e = .returned (.int .i64 (cfP x y)) ∧ ∃ q os', w' = Go.Sort.grow (w.drewN q) os' := by
  have h1 := x.1.isLt
  have h2 := y.1.isLt
  have h3 := x.2.isLt
  have h4 := y.2.isLt
  unfold encP cfP
  revert h1 h2 h3 h4
  generalize x.1.val = a
  generalize y.1.val = b
  generalize x.2.val = c
  generalize y.2.val = d
  intro h1 h2 h3 h4
  have hu := Tryz.underlying84
  have H5 := Lib.hid (show wrap64 ((a : Int) - b) = (a : Int) - b by unfold wrap64; omega)
  have H6 := Lib.hid (show wrap64 ((c : Int) - d) = (c : Int) - d by unfold wrap64; omega)
  clear h1 h2 h3 h4
  by_cases hc : a = b
  · rw [if_pos hc]
    have e : (((a : Int) != (b : Int))) = false := by simp [hc]
    have E := Lib.hid hc; clear hc
    go_enter Tryz.func40, Tryz.ntmps40
    go_wp2
    go_ret
    refine ⟨ret_i H6.out, 0, #[.cells #[.int .i64 a, .int .i64 c] 84 (0, 0), .cells #[.int .i64 b, .int .i64 d] 84 (0, 0)], ?_⟩
    rw [Go.Sort.alloc_eq_grow, Go.Sort.alloc_eq_grow, Go.Sort.grow_grow]
    rfl
  · rw [if_neg hc]
    have e : (((a : Int) != (b : Int))) = true := by simp; omega
    have E := Lib.hid hc; clear hc
    go_enter Tryz.func40, Tryz.ntmps40
    go_wp2
    go_ret
    refine ⟨ret_i H5.out, 0, #[.cells #[.int .i64 a, .int .i64 c] 84 (0, 0), .cells #[.int .i64 b, .int .i64 d] 84 (0, 0)], ?_⟩
    rw [Go.Sort.alloc_eq_grow, Go.Sort.alloc_eq_grow, Go.Sort.grow_grow]
    rfl

/-! ### a row of the call's own, sorted -/
def kpl : Kd Pla := Kd.pair (Kd.int .i64) (Kd.int .i64)
theorem kpl_open {w : World} {x : Pla} {cs : List Value} (h : kpl.K w x cs) : cs = [.int .i64 x.1, .int .i64 x.2] := by
  obtain ⟨_, _, rfl, rfl, rfl⟩ := h
  exact rfl
theorem kpl_mk (w : World) (x : Pla) : kpl.K w x [.int .i64 x.1, .int .i64 x.2] := ⟨[.int .i64 x.1], [.int .i64 x.2], rfl, rfl, rfl⟩
theorem kpl_mkM (w : World) (base : Nat) (ok : Nat → Prop) (x : Pla) : kpl.M w base ok x [.int .i64 x.1, .int .i64 x.2] := ⟨[.int .i64 x.1], [.int .i64 x.2], rfl, rfl, rfl⟩
theorem enc_vPl {k : Pla} (h : SmP k) : encP (vPl k) = [.int .i64 k.1, .int .i64 k.2] := by
  have e := plV_vPl h
  show [Value.int .i64 (plV (vPl k)).1, Value.int .i64 (plV (vPl k)).2] = _
  rw [e]
theorem pdqK_size (d : Array Pl) : (Go.Sort.pdq (ltOf cfP) d 0 d.size (Lib.bitLen d.size) true true).size = d.size :=
  (Go.Sort.pdq_sorts (ltOf cfP) swoP d 0 d.size (Lib.bitLen d.size) true true (Nat.zero_le _) (Nat.le_refl _) (Or.inl rfl)).1.1
theorem sortK_len (l : List Pla) : (sortK l).length = l.length := by
  unfold sortK; rw [List.length_map, Array.length_toList, pdqK_size]; simp
theorem perm_out {D d : Array Pl} (h1 : D.size = d.size) (h3 : (D.extract 0 d.size).toList.Perm (d.extract 0 d.size).toList) : D.toList.Perm d.toList := by
  rw [Array.extract_size] at h3
  rw [← h1, Array.extract_size] at h3
  exact h3
theorem sortK_perm {l : List Pla} (h : ∀ k ∈ l, SmP k) : (sortK l).Perm l := by
  obtain ⟨⟨h1, _, h3⟩, _⟩ := Go.Sort.pdq_sorts (ltOf cfP) swoP (l.map vPl).toArray 0 (l.map vPl).toArray.size (Lib.bitLen (l.map vPl).toArray.size) true true (Nat.zero_le _) (Nat.le_refl _) (Or.inl rfl)
  have e2 : (l.map vPl).map plV = l := by
    rw [List.map_map]
    exact (List.map_congr_left (g := id) fun k hk => plV_vPl (h k hk)).trans (List.map_id l)
  have h5 := (perm_out h1 h3).map plV
  unfold sortK
  refine h5.trans ?_
  rw [show (l.map vPl).toArray.toList = l.map vPl from rfl, e2]
theorem at_pl {w : World} {A : Option Addr} {n : Nat} {xs : List Pla} (h : kpl.C w A n xs) {i : Nat} (hi : i < xs.length) : ∃ ad, A = some ad ∧ w.cell? (ad.add (i * 2)) = some (.int .i64 (xs[i]).1) ∧ w.cell? ⟨(ad.add (i * 2)).block, (ad.add (i * 2)).off + 1, none⟩ = some (.int .i64 (xs[i]).2) := by
  have hl := Kd.C_len h
  obtain ⟨ad, c, e, _, hK, hc0⟩ := Kd.C_get h (0, 0) (i : Int) (by omega) (by omega)
  rw [Int.toNat_natCast, List.getD_eq_getElem?_getD, List.getElem?_eq_getElem hi] at hK
  rw [Int.toNat_natCast] at hc0
  have hc : ∀ j u, c[j]? = some u → w.cell? (ad.add (i * 2 + j)) = some u := hc0
  obtain rfl := kpl_open hK
  exact ⟨ad, e, hc 0 _ rfl, by rw [← add_field _ _ 1 (by omega)]; exact hc 1 _ rfl⟩
theorem kput_far (W : World) (g k : Nat) (hk : k ≠ g) (d : Array Pl) : (Go.Sort.putRowK encP 2 W g 0 d).heap[k]? = W.heap[k]? := by
  show (W.heap.modify g _)[k]? = _
  rw [Array.getElem?_modify, if_neg (Ne.symm hk)]
theorem kgrown (W : World) (g m : Nat) (d : Array Pl) (os : Array Obj) : W.grownBy (sortWorldK encP 2 W g 0 m d os) (some g) := by
  refine ⟨rfl, rfl, rfl, size_sortWorldK_c encP 2 W g 0 m d os, fun k hk hne => ?_⟩
  show (((Go.Sort.putRowK encP 2 (Go.Sort.ahead W m) g 0 d).heap) ++ os)[k]? = _
  have hsz : k < (Go.Sort.putRowK encP 2 (Go.Sort.ahead W m) g 0 d).heap.size := by
    show k < (W.heap.modify g _).size
    rw [Array.size_modify]; exact hk
  rw [Array.getElem?_append_left hsz, kput_far _ _ _ (fun e => hne (by rw [e]))]
  rfl
theorem holds_places {W : World} {base e g n cap : Nat} {ok : Nat → Prop} {ks : List Pla} (hk : ∀ k ∈ ks, SmP k) (h : kpl.R e W base ok (.slice (some ⟨g, 0, none⟩) n cap) ks) : Go.Sort.HoldsK encP 2 W g 0 (ks.map vPl).toArray := by
  obtain ⟨hn, _, hC⟩ := Kd.R_reads' h
  intro j hj
  have hj2 : j < ks.length * 2 := by simpa using hj
  rw [Go.Sort.get_flatK _ _ _ _ (by simpa using hj)]
  have hi : j / 2 < ks.length := by omega
  obtain ⟨ad, c, e1, hcl, hK, hc⟩ := Kd.C_get hC (0, 0) ((j / 2 : Nat) : Int) (by omega) (by omega)
  cases e1
  have hkk : ks.getD (j / 2) (0, 0) = ks[j / 2] := by rw [List.getD_eq_getElem?_getD, List.getElem?_eq_getElem hi]; rfl
  rw [Int.toNat_natCast] at hK hc
  have hoc := kpl_open hK
  rw [hkk] at hoc
  have hg : (ks.map vPl).toArray[j / 2]! = vPl ks[j / 2] := by
    rw [getElem!_pos _ _ (by simpa using hi)]; simp
  rw [hg, enc_vPl (hk _ (List.getElem_mem hi)), ← hoc]
  have hl2 : j % 2 < c.length := by rw [hoc]; simp; omega
  have h3 := hc (j % 2) c[j % 2] (List.getElem?_eq_getElem hl2)
  have hsz : kpl.sz = 2 := rfl
  rw [hsz, add_plain, show j / 2 * 2 + j % 2 = j by omega] at h3
  rw [getElem!_pos c _ hl2, Nat.zero_add]
  refine ⟨h3, ?_⟩
  obtain ⟨cells, hb⟩ := Kd.R_typed h g rfl
  exact blk_frozen hb j
theorem reads_places {W : World} {g : Nat} {d : Array Pl} (h : Go.Sort.HoldsK encP 2 W g 0 d) (hs : d.size < 9223372036854775808) : kpl.C W (some ⟨g, 0, none⟩) d.size (d.toList.map plV) := by
  refine ⟨by simp, by omega, fun _ => ⟨_, rfl, fun j p hj => ?_⟩⟩
  rw [List.getElem?_map] at hj
  obtain ⟨x, hx, rfl⟩ := Option.map_eq_some_iff.1 hj
  refine ⟨[.int .i64 (plV x).1, .int .i64 (plV x).2], rfl, kpl_mk W (plV x), fun i u hu => ?_⟩
  rw [Array.getElem?_toList] at hx
  obtain ⟨hlt, hxe⟩ := Array.getElem?_eq_some_iff.1 hx
  have hi : i < 2 := by
    have := (List.getElem?_eq_some_iff.1 hu).1; simpa using this
  have h2 := (h.cell hlt hi).1
  rw [getElem!_pos d j hlt, hxe] at h2
  have hsz : kpl.sz = 2 := rfl
  rw [hsz, add_plain]
  rw [Nat.zero_add] at h2
  rw [h2]
  have : encP x = [.int .i64 (plV x).1, .int .i64 (plV x).2] := rfl
  rw [this, List.getElem!_eq_getElem?_getD, hu]; rfl
set_option maxRecDepth 100000 in
set_option maxHeartbeats 400000 in
theorem sortP_call {W : World} {base n cap : Nat} {ok : Nat → Prop} {A : Option Addr} (ks : List Pla) (hk : ∀ k ∈ ks, SmP k) (hl : ks.length < 1099511627776)
    (h : kpl.R 84 W base ok (.slice A n cap) ks) :
    Calls Tryz.prog 39 #[.slice A n cap, .func (.func 40) #[] #[]] W fun e w' =>
      e = .returned (.tuple #[]) ∧ kpl.C w' A ks.length (sortK ks) ∧ W.grownBy w' (Value.slice A n cap).ownBlock := by
  obtain ⟨hn, _, hC⟩ := Kd.R_reads' h
  by_cases h0 : ks.length = 0
  · obtain rfl := List.eq_nil_of_length_eq_zero h0
    have hs : sortK [] = [] := List.eq_nil_of_length_eq_zero (sortK_len [])
    rw [hs]
    subst hn
    refine (Tryz.slices_SortFuncK_none A cap _ W).mono ?_
    rintro e w' ⟨rfl, rfl⟩
    exact ⟨rfl, hC, ⟨rfl, rfl, rfl, Nat.le_refl _, fun _ _ _ => rfl⟩⟩
  · obtain ⟨g, cap', he, hgb, hglt, hcells⟩ := Kd.R_form h (by omega)
    injection he with he1 he2 he3
    subst he1
    subst he3
    have hds : (ks.map vPl).toArray.size = ks.length := by simp
    have hO : ∀ args w, (callFunc 40 args).run Tryz.prog w = .ok (.enter 40 args) w := enters_of Tryz.func40 (by kernel_rfl) rfl
    have aE : ∀ w, (isAgg 84).run Tryz.prog w = .ok true w := Tryz.isAgg84
    have zE : ∀ w, (Go.sizeOf 84).run Tryz.prog w = .ok 2 w := Tryz.sizeOf84
    have hH := holds_places hk h
    have hcmp : CmpLays Tryz.prog 40 #[] encP 2 cfP g 0 (ks.map vPl).toArray.size W := fun m os dk _ x y => sortP_cmp x y _
    have hone : ∀ x, ∀ v ∈ encP x, v.oneCell' = true := by
      intro x v hv
      unfold encP at hv
      rcases List.mem_cons.1 hv with rfl | hv
      · rfl
      · rw [List.mem_singleton] at hv; rw [hv]; rfl
    have H := Tryz.slices_SortFuncK 2 aE zE encP (fun _ => rfl) hone cfP swoP 40 #[] g 0 cap (ks.map vPl).toArray W hO hcmp hH hglt (by rw [hds]; omega)
    rw [hds, ← hn] at H
    rw [← hn]
    refine H.mono ?_
    rintro e w' ⟨rfl, m, os, rfl⟩
    refine ⟨rfl, ?_, kgrown W g m _ os⟩
    have hsz : (Go.Sort.pdq (ltOf cfP) (ks.map vPl).toArray 0 (ks.map vPl).toArray.size (Lib.bitLen (ks.map vPl).toArray.size) true true).size = n := by rw [pdqK_size, hds, hn]
    have H2 := reads_places (holdsK_sortWorldK_c encP 2 W g 0 (ks.map vPl).toArray _ m os hH hglt (pdqK_size _)) (by rw [hsz]; omega)
    unfold sortK
    rw [hsz] at H2
    rw [hds] at H2 ⊢
    rw [← hn] at H2 ⊢
    exact H2
end Go.Proofs.YthkcphdhmkcdkaaGreat

namespace Go.Proofs.YthkcphdhmkcdkaaGreat
open Go.RowKit Go.Proofs.YthkcphdhmkcdkaaGreatW.PrintWords Tn Go.ChangeMaps

/-- block B is a map from the places ks to blocks, each with what lies on its place. -/
def NetM (w : World) (B : Nat) (p : List (Pla × Nat)) (ks : List Pla) (W : World) (es : List (Pla × Nat)) : Prop :=
  Below w.heap.size w W ∧ w.heap.size ≤ B ∧ mapAt W B es ∧ es.map (·.1) = ks ∧ (∀ x ∈ es, accZ W x.2 (sumF x.1 p) false false ∧ w.heap.size ≤ x.2) ∧ es.Pairwise (fun x y => x.2 ≠ y.2)
section
variable {w W W' : World} {B : Nat} {p : List (Pla × Nat)} {ks : List Pla} {es : List (Pla × Nat)}
theorem accZ.lt {b : Nat} {Z : Int} {u d : Bool} (h : accZ W b Z u d) : b < W.heap.size := blk_lt h
theorem NetM.lt (h : NetM w B p ks W es) : B < W.heap.size := blk_lt h.2.2.1
theorem NetM.move (h : NetM w B p ks W es) (hb : Below w.heap.size w W') (hm : W'.heap[B]? = W.heap[B]?) (ha : ∀ x ∈ es, W'.heap[x.2]? = W.heap[x.2]?) : NetM w B p ks W' es :=
  ⟨hb, h.2.1, hm.trans h.2.2.1, h.2.2.2.1, fun x hx => ⟨(ha x hx).trans (h.2.2.2.2.1 x hx).1, (h.2.2.2.2.1 x hx).2⟩, h.2.2.2.2.2⟩
theorem NetM.below (h : NetM w B p ks W es) (hb : Below W.heap.size W W') : NetM w B p ks W' es :=
  h.move (below_step h.1 hb) (hb.block B h.lt) (fun x hx => hb.block x.2 (h.2.2.2.2.1 x hx).1.lt)
theorem NetM.grown (h : NetM w B p ks W es) {row : Option Nat} (hg : W.grownBy W' row) (hrow : ∀ k, row = some k → w.heap.size ≤ k ∧ ∃ cells, W.heap[k]? = some (.cells cells 84 (0, 0))) : NetM w B p ks W' es := by
  refine h.move (h.1.grown hg h.1.size (fun k hk => (hrow k hk).1)) (hg.block B h.lt (fun e => ?_)) (fun x hx => hg.block x.2 (h.2.2.2.2.1 x hx).1.lt (fun e => ?_))
  · obtain ⟨cells, hc⟩ := (hrow B e.symm).2
    have := h.2.2.1.symm.trans hc
    cases this
  · obtain ⟨cells, hc⟩ := (hrow x.2 e.symm).2
    have h1 : W.heap[x.2]? = some (.cells _ 106 (0, 0)) := (h.2.2.2.2.1 x hx).1
    have h2 := h1.symm.trans hc
    injection h2 with h2
    injection h2 with _ h3
    exact absurd h3 (by decide)
theorem NetM.nodup (h : NetM w B p ks W es) (hd : ks.Nodup) : es.Pairwise fun x y => x.1 ≠ y.1 := by
  have h1 := h.2.2.2.1
  subst h1
  exact List.pairwise_map.1 hd
theorem seek_cases (k : Pla) (es : List (Pla × Nat)) : (∃ b, seek k es = some b ∧ (k, b) ∈ es) ∨ (seek k es = none ∧ k ∉ es.map (·.1)) := by
  unfold seek
  cases hf : es.find? (fun x => decide (k = x.1)) with
  | none =>
    refine .inr ⟨rfl, fun hm => ?_⟩
    obtain ⟨x, hx, e⟩ := List.mem_map.1 hm
    have := List.find?_eq_none.1 hf x hx
    simp at this
    exact this e.symm
  | some x =>
    have h1 := List.find?_some hf
    have h2 := List.mem_of_find?_eq_some hf
    have h3 : k = x.1 := of_decide_eq_true h1
    exact .inl ⟨x.2, rfl, by rw [h3]; exact h2⟩
theorem setBlock_grown (W : World) (B : Nat) (o : Obj) : W.grownBy (setBlock W B o) (some B) :=
  ⟨rfl, rfl, rfl, by show _ ≤ (W.heap.setIfInBounds B _).size; rw [Array.size_setIfInBounds]; exact Nat.le_refl _, fun j _ hj => by
    show (W.heap.setIfInBounds B _)[j]? = _
    rw [Array.getElem?_setIfInBounds, if_neg (fun e => hj (by rw [e]))]⟩
theorem NetM.put (h : NetM w B p ks W es) {k : Pla} {c : Nat} (hs0 : sumF k p = 0) (hac : accZ W c 0 false false) (hc : w.heap.size ≤ c) (hcn : ∀ x ∈ es, x.2 ≠ c) : NetM w B p (ks ++ [k]) (setBlock W B (.map (entsOf (es ++ [(k, c)])) (es ++ [(k, c)]).length)) (es ++ [(k, c)]) := by
  have hB := h.lt
  have hne : ∀ j, j ≠ B → (setBlock W B (.map (entsOf (es ++ [(k, c)])) (es ++ [(k, c)]).length)).heap[j]? = W.heap[j]? := fun j hj => by
    show (W.heap.setIfInBounds B _)[j]? = _
    rw [Array.getElem?_setIfInBounds, if_neg (Ne.symm hj)]
  have hcB : ∀ {b : Nat} {Z : Int}, accZ W b Z false false → b ≠ B := fun {b Z} ha e => by
    subst e
    have := h.2.2.1.symm.trans ha
    cases this
  refine ⟨?_, h.2.1, ?_, by rw [List.map_append, h.2.2.2.1]; rfl, fun x hx => ?_, ?_⟩
  · exact h.1.grown (setBlock_grown W B _) h.1.size (fun j hj => by cases hj; exact h.2.1)
  · show (W.heap.setIfInBounds B _)[B]? = _
    rw [Array.getElem?_setIfInBounds, if_pos rfl, if_pos hB]
  · rcases List.mem_append.1 hx with hx | hx
    · have ha := h.2.2.2.2.1 x hx
      exact ⟨(hne x.2 (hcB ha.1)).trans ha.1, ha.2⟩
    · rw [List.mem_singleton] at hx
      subst hx
      refine ⟨(hne c (hcB hac)).trans ?_, hc⟩
      show accZ W c (sumF k p) false false
      rw [hs0]; exact hac
  · rw [List.pairwise_append]
    exact ⟨h.2.2.2.2.2, List.pairwise_singleton _ _, fun a ha b hb => by rw [List.mem_singleton] at hb; rw [hb]; exact hcn a ha⟩
theorem NetM.add (h : NetM w B p ks W es) (hd : ks.Nodup) {k : Pla} {x b : Nat} (hm : (k, b) ∈ es) (hg : W.grownBy W' (some b)) (ha : accZ W' b (sumF k p + units x) false false) : NetM w B (p ++ [(k, x)]) ks W' es := by
  have hdd := h.nodup hd
  refine ⟨h.1.grown hg h.1.size (fun j hj => by cases hj; exact (h.2.2.2.2.1 _ hm).2), h.2.1, ?_, h.2.2.2.1, fun y hy => ?_, h.2.2.2.2.2⟩
  · refine (hg.block B h.lt (fun e => ?_)).trans h.2.2.1
    injection e with e
    have h1 := (h.2.2.2.2.1 _ hm).1
    rw [← e] at h1
    have := h.2.2.1.symm.trans h1
    cases this
  · have hy2 := h.2.2.2.2.1 y hy
    by_cases e : y.2 = b
    · have : y = (k, b) := pairwise_inj h.2.2.2.2.2 hy hm e
      subst this
      refine ⟨?_, hy2.2⟩
      rw [sumF_snoc, if_pos rfl]
      exact ha
    · refine ⟨?_, hy2.2⟩
      have hk : ¬ k = y.1 := fun e2 => e (by rw [pairwise_inj hdd hy hm e2.symm])
      rw [sumF_snoc, if_neg hk, Int.add_zero]
      exact (hg.block y.2 hy2.1.lt (fun e2 => e (by injection e2))).trans hy2.1
theorem NetM.inB (h : NetM w B p ks W es) (hs : ∀ k ∈ ks, SmP k) : ∀ x ∈ es, InB x.1 := fun x hx => by
  have h1 := h.2.2.2.1
  subst h1
  obtain ⟨a, b, c, d⟩ := hs x.1 (List.mem_map_of_mem hx)
  exact ⟨by omega, by omega, by omega, by omega⟩
theorem NetM.start (hb : Below w.heap.size w W) : NetM w W.heap.size [] [] (W.alloc (.map #[] 0)) [] :=
  ⟨hb.alloc hb.size _, hb.size, heap_alloc_new W _, rfl, (fun x hx => absurd hx (by simp)), List.Pairwise.nil⟩
theorem NetM.rowne {v : Value} {base : Nat} {xs : List Pla} {ok : Nat → Prop} (h : NetM w B p ks W es) (hr : kpl.R 84 W base ok v xs) : some B ≠ v.ownBlock := fun e => by
  obtain ⟨cells, hc⟩ := Kd.R_typed hr B e.symm
  have := h.2.2.1.symm.trans hc
  cases this
theorem accZ.rowne {v : Value} {base b : Nat} {Z : Int} {u d : Bool} {xs : List Pla} {ok : Nat → Prop} (h : accZ W b Z u d) (hr : kpl.R 84 W base ok v xs) : some b ≠ v.ownBlock := fun e => by
  obtain ⟨cells, hc⟩ := Kd.R_typed hr b e.symm
  have h1 : W.heap[b]? = some (.cells _ 106 (0, 0)) := h
  have h2 := h1.symm.trans hc
  injection h2 with h2
  injection h2 with _ h3
  exact absurd h3 (by decide)
end
end Go.Proofs.YthkcphdhmkcdkaaGreat
