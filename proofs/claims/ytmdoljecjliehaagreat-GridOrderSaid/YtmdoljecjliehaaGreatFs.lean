/- Floats in order: ieee.key, ieee.Less, ieee.Sort. -/
import Derived.Test.YtmdoljecjliehaaGreatFy
import Derived.Sort.Row
import Derived.Sort.Statements
import Derived.Sort.AssemblyPlain
namespace Go.Proofs.YtmdoljecjliehaaGreat
open Go.RowKit Go.Proofs.YtmdoljecjliehaaGreatW.PrintWords Go.Shelf

def keyN (a : Nat) : Nat := if Tn.nan a = true then 18446744073709551615 else if Tn.sgn a = true then 18446744073709551615 - a else a + 9223372036854775808
theorem not_u64 (a : Nat) (h : a < 18446744073709551616) : Go.bits .xor .u64 IntKind.u64.max (a : Int) = ((18446744073709551615 - a : Nat) : Int) := by
 (have h1 := u64_xor_nat 18446744073709551615 a (by decide) h);(rw [show IntKind.u64.max = ((18446744073709551615 : Nat) : Int) from by decide, h1])
 congr 1
 have h2 := Tn.nat_and_xor 18446744073709551615 a
 have h3 : 18446744073709551615 &&& a = a := by
  (rw [Nat.and_comm, show 18446744073709551615 = 2 ^ 64 - 1 from rfl, Nat.and_two_pow_sub_one_eq_mod]);(exact Nat.mod_eq_of_lt h)
 (rw [h3] at h2);(omega)
theorem key_nan {a : Nat} (h : Tn.nan a = true) : keyN a = 18446744073709551615 := by unfold keyN; rw [if_pos h]
theorem key_neg {a : Nat} (h : a < 18446744073709551616) (hn : Tn.nan a = false) (hs : Tn.sgn a = true) : Go.bits .xor .u64 IntKind.u64.max (a : Int) = ((keyN a : Nat) : Int) := by
 unfold keyN; rw [if_neg (by rw [hn]; decide), if_pos hs]; exact not_u64 a h
theorem key_pos {a : Nat} (hn : Tn.nan a = false) (hs : Tn.sgn a = false) : Go.bits .or .u64 (a : Int) 9223372036854775808 = ((keyN a : Nat) : Int) := by
 (unfold keyN; rw [if_neg (by rw [hn]; decide), if_neg (by rw [hs]; decide)]);(have hl : a < 9223372036854775808 := by unfold Tn.sgn at hs; have := of_decide_eq_false hs; omega);(have h1 := u64_or_nat a 9223372036854775808 (by omega) (by decide));(rw [show ((9223372036854775808 : Nat) : Int) = (9223372036854775808 : Int) from rfl] at h1);(rw [h1, Nat.or_comm, nat_join 63 _ _ (by decide) (by omega)])
 congr 1; omega
theorem sgn_bit (a : Nat) (h : a < 18446744073709551616) : ((a : Int) / 9223372036854775808 == 1) = Tn.sgn a := by
 unfold Tn.sgn; rw [Bool.eq_iff_iff, beq_iff_eq, decide_eq_true_iff]; omega
set_option maxRecDepth 100000 in
set_option maxHeartbeats 400000 in
theorem key_any (a : Nat) (h : a < 18446744073709551616) (w : World) :
  Calls Tryz.prog 198 #[.float .f64 a] w fun e w' => e = .returned (.int .u64 (keyN a : Nat)) ∧ w = w' := by
 have e0 := sgn_bit a h
 cases hn : Tn.nan a
 ·have e1 : (Tn.cls a == 5) = false := Tn.cls_eq5 hn
  cases hs : Tn.sgn a
  ·have e2 := key_pos hn hs
   (rw [hs] at e0);(have H := Lib.hid h; clear h hn hs);(go_enter Tryz.func198, Tryz.ntmps198)
   go_wp2_with (first | (go_at_call 78; refine (class_any _ H.out _).mono ?_; rintro e w' ⟨rfl, rfl⟩) | (go_at_call 18; refine (bits_any _ _).mono ?_; rintro e w' ⟨rfl, rfl⟩))
   (go_ret);(exact ⟨ret_i rfl, rfl⟩)
  ·have e2 := key_neg h hn hs
   (rw [hs] at e0);(have H := Lib.hid h; clear h hn hs);(go_enter Tryz.func198, Tryz.ntmps198)
   go_wp2_with (first | (go_at_call 78; refine (class_any _ H.out _).mono ?_; rintro e w' ⟨rfl, rfl⟩) | (go_at_call 18; refine (bits_any _ _).mono ?_; rintro e w' ⟨rfl, rfl⟩))
   go_ret
   all_goals exact ⟨ret_i rfl, rfl⟩
 ·have e1 : (Tn.cls a == 5) = true := Tn.cls_eq5 hn
  (have e2 := key_nan hn);(have H := Lib.hid h; clear h hn);(go_enter Tryz.func198, Tryz.ntmps198)
  go_wp2_with (first | (go_at_call 78; refine (class_any _ H.out _).mono ?_; rintro e w' ⟨rfl, rfl⟩) | (go_at_call 18; refine (bits_any _ _).mono ?_; rintro e w' ⟨rfl, rfl⟩))
  (go_ret);(exact ⟨ret_i (by rw [e2]; rfl), rfl⟩)

set_option maxRecDepth 100000 in
set_option maxHeartbeats 400000 in
theorem less_any (a b : Nat) (h : a < 18446744073709551616) (h' : b < 18446744073709551616) (w : World) :
  Calls Tryz.prog 133 #[.float .f64 a, .float .f64 b] w fun e w' => e = .returned (.bool (decide (keyN a < keyN b))) ∧ w = w' := by
 (have H := Lib.hid h; clear h);(have H' := Lib.hid h'; clear h');(go_enter Tryz.func133, Tryz.ntmps133)
 go_wp2_with (go_at_call 198; refine (key_any _ (by first | exact H.out | exact H'.out) _).mono ?_; rintro e w' ⟨rfl, rfl⟩)
 (go_ret);(exact ⟨ret_b (by simp), rfl⟩)

namespace FX
def ieee_Less.f (a0 a1 : Nat) : Option Bool := if a0 < 18446744073709551616 ∧ a1 < 18446744073709551616 then some (decide (keyN a0 < keyN a1)) else none
theorem ieee_Less.calls (a0 a1 : Nat) (r : Bool) (w : World) (h : ieee_Less.f a0 a1 = some r) :
  Calls Tryz.prog 133 #[.float .f64 a0, .float .f64 a1] w fun e w' => e = .returned (.bool r) ∧ Drawn0 w w' := by
 unfold ieee_Less.f at h
 split at h
 ·rename_i hb
  (obtain rfl := Option.some.inj h);(exact (less_any a0 a1 hb.1 hb.2 w).mono fun e w' ⟨he, hw⟩ => ⟨he, ⟨⟨0, hw ▸ rfl⟩⟩⟩)
 ·cases h
end FX
abbrev W64 := Fin 18446744073709551616
def cfS (a b : W64) : Int := if keyN a.val < keyN b.val then -1 else if keyN b.val < keyN a.val then 1 else 0
def encW (x : W64) : Value := .float .f64 x.val
def sortF (l : List Nat) : List Nat := ((Go.Sort.pdq (ltOf cfS) (l.map (fun x => (Fin.ofNat 18446744073709551616 x : W64))).toArray 0 l.length (Lib.bitLen l.length) true true).toList.map Fin.val)
theorem ltS (x y : W64) : ltOf cfS x y = decide (keyN x.val < keyN y.val) := by
 unfold ltOf cfS
 by_cases h1 : keyN x.val < keyN y.val
 ·simp [h1]
 ·by_cases h2 : keyN y.val < keyN x.val <;> simp [h1, h2]
theorem swoS : Go.Sort.SWO (ltOf cfS) where
 irrefl x := by rw [ltS]; simp
 trans x y z h1 h2 := by rw [ltS] at *; simp at *; omega
 ntrans x y z h1 h2 := by rw [ltS] at *; simp at *; omega
set_option maxRecDepth 100000 in
set_option maxHeartbeats 400000 in
theorem sort_cmp (x y : W64) (w : World) : Calls Tryz.prog 197 #[.float .f64 x.val, .float .f64 y.val] w fun e w' => e = .returned (.int .i64 (cfS x y)) ∧ w = w' := by
 (have h := x.isLt);(have h' := y.isLt);(unfold cfS);(revert h h');(generalize x.val = a);(generalize y.val = b);(intro h h');(have H := Lib.hid h; clear h);(have H' := Lib.hid h'; clear h')
 by_cases c1 : keyN a < keyN b
 ·have e1 : decide (keyN a < keyN b) = true := decide_eq_true c1
  (have C1 := Lib.hid c1; clear c1);(go_enter Tryz.func197, Tryz.ntmps197)
  go_wp2_with (go_at_call 133; refine (less_any _ _ (by first | exact H.out | exact H'.out) (by first | exact H.out | exact H'.out) _).mono ?_; rintro e w' ⟨rfl, rfl⟩)
  (go_ret);(exact ⟨rfl, rfl⟩)
 ·have e1 : decide (keyN a < keyN b) = false := decide_eq_false c1
  have C1 := Lib.hid c1; clear c1
  by_cases c2 : keyN b < keyN a
  ·have e2 : decide (keyN b < keyN a) = true := decide_eq_true c2
   (have C2 := Lib.hid c2; clear c2);(go_enter Tryz.func197, Tryz.ntmps197)
   go_wp2_with (go_at_call 133; refine (less_any _ _ (by first | exact H.out | exact H'.out) (by first | exact H.out | exact H'.out) _).mono ?_; rintro e w' ⟨rfl, rfl⟩)
   (go_ret);(exact ⟨rfl, rfl⟩)
  ·have e2 : decide (keyN b < keyN a) = false := decide_eq_false c2
   (have C2 := Lib.hid c2; clear c2);(go_enter Tryz.func197, Tryz.ntmps197)
   go_wp2_with (go_at_call 133; refine (less_any _ _ (by first | exact H.out | exact H'.out) (by first | exact H.out | exact H'.out) _).mono ?_; rintro e w' ⟨rfl, rfl⟩)
   (go_ret);(exact ⟨rfl, rfl⟩)
theorem sort_reads (blk off size : Nat) (w : World) : CmpReads Tryz.prog 197 #[] encW cfS blk off size w := fun m os dk _ x y => (sort_cmp x y _).mono fun e w' ⟨he, hw⟩ => ⟨he, 0, by rw [← hw]; rfl⟩

theorem putRow_block {α : Type} [Inhabited α] (enc : α → Value) {W : World} {g e : Nat} {cur : Array Value} (hh : W.heap[g]? = some (.cells cur e (0, 0))) (d : Array α) : (Go.Sort.putRow enc W g 0 d).heap[g]? = some (.cells (Go.Sort.putCells enc 0 d cur) e (0, 0)) := by
 show (W.heap.modify g _)[g]? = _
 rw [Array.getElem?_modify, if_pos rfl, hh]; rfl
theorem putRow_far {α : Type} [Inhabited α] (enc : α → Value) (W : World) (g k : Nat) (hk : k ≠ g) (d : Array α) : (Go.Sort.putRow enc W g 0 d).heap[k]? = W.heap[k]? := by
 show (W.heap.modify g _)[k]? = _
 rw [Array.getElem?_modify, if_neg (Ne.symm hk)]
theorem sortWorld_at {α : Type} [Inhabited α] (enc : α → Value) (W : World) (g m k : Nat) (d : Array α) (os : Array Obj) (hk : k < W.heap.size) : (sortWorld enc W g 0 m d os).heap[k]? = (Go.Sort.putRow enc W g 0 d).heap[k]? := by
 show (((Go.Sort.putRow enc W g 0 d).heap) ++ os)[k]? = _
 rw [Array.getElem?_append_left (by rw [Go.Sort.size_putRow]; exact hk)]
theorem take_putCells {α : Type} [Inhabited α] (enc : α → Value) (d : Array α) (cur : Array Value) (h : d.size ≤ cur.size) : (Go.Sort.putCells enc 0 d cur).toList.take d.size = d.toList.map enc := by
 apply List.ext_getElem?
 (intro i);(rw [List.getElem?_take])
 by_cases hi : i < d.size
 ·rw [if_pos hi, List.getElem?_map, Array.getElem?_toList, Array.getElem?_toList, Array.getElem?_eq_getElem hi, Option.map_some]
  (unfold Go.Sort.putCells);(rw [Array.getElem?_mapIdx, Array.getElem?_eq_getElem (by omega), Option.map_some, if_pos (by omega), Nat.sub_zero, getElem!_pos _ i hi])
 ·rw [if_neg hi, List.getElem?_map, Array.getElem?_toList, Array.getElem?_eq_none (by omega)]; rfl
theorem own_sorted {α : Type} [Inhabited α] {enc : α → Value} {W : World} {base e g n cap : Nat} {xs : List Value} (h : W.ownsRow base e 1 (.slice (some ⟨g, 0, none⟩) n cap) n xs) (d : Array α) (hd : d.size = n) (m : Nat) (os : Array Obj) :
  (sortWorld enc W g 0 m d os).ownsRow base e 1 (.slice (some ⟨g, 0, none⟩) n cap) n (d.toList.map enc) := by
 refine ⟨by simp [hd], .inr ?_⟩
 rcases h.2 with ⟨h', _⟩ | ⟨g', cap', cur, h', hb, hh, hn, hm, hs, _⟩
 ·cases h'
 ·obtain ⟨rfl, rfl⟩ : g = g' ∧ cap = cap' := by injection h' with h1 h2 h3; injection h1 with h1; injection h1 with h1; exact ⟨h1, h3⟩
  refine ⟨g, cap, Go.Sort.putCells enc 0 d cur, rfl, hb, ?_, hn, hm, by rw [← hs]; simp [Go.Sort.putCells], ?_⟩
  ·rw [sortWorld_at _ _ _ _ _ _ _ (blk_lt hh)]; exact putRow_block enc hh d
  ·rw [Nat.mul_one, ← hd]; exact take_putCells enc d cur (by omega)
theorem holds_own {α : Type} [Inhabited α] {enc : α → Value} {W : World} {base e g n cap : Nat} (d : Array α) (h : W.ownsRow base e 1 (.slice (some ⟨g, 0, none⟩) n cap) n (d.toList.map enc)) : Go.Sort.Holds enc W g 0 d := by
 (intro j hj);(have h1 := h.cells (g := g) rfl j (enc d[j]!) (by rw [List.getElem?_map, Array.getElem?_toList, Array.getElem?_eq_getElem hj, getElem!_pos _ j hj]; rfl));(rw [add_plain] at h1);(rw [Nat.zero_add]);(refine ⟨h1, ?_⟩)
 rcases h.2 with ⟨h', _⟩ | ⟨g', cap', cur, h', hb, hh, hn, hm, hs, _⟩
 ·cases h'
 ·obtain ⟨rfl, rfl⟩ : g = g' ∧ cap = cap' := by injection h' with h1 h2 h3; injection h1 with h1; injection h1 with h1; exact ⟨h1, h3⟩
  exact blk_frozen hh j
theorem below_sorted {α : Type} [Inhabited α] {enc : α → Value} {w0 W : World} {B g : Nat} (hb : Below B w0 W) (hB : B ≤ g) (hg : g < W.heap.size) (d : Array α) (m : Nat) (os : Array Obj) : Below B w0 (sortWorld enc W g 0 m d os) :=
 hb.trans ⟨rfl, rfl, rfl, by show _ ≤ ((Go.Sort.putRow enc W g 0 d).heap ++ os).size; rw [Array.size_append, Go.Sort.size_putRow]; omega, fun k hk => by
  rw [sortWorld_at _ _ _ _ _ _ _ (by omega), putRow_far _ _ _ _ (by omega)]⟩
theorem pdq_size {α : Type} [Inhabited α] {lt : α → α → Bool} (hO : Go.Sort.SWO lt) (d : Array α) : (Go.Sort.pdq lt d 0 d.size (Lib.bitLen d.size) true true).size = d.size :=
 (Go.Sort.pdq_sorts lt hO d 0 d.size (Lib.bitLen d.size) true true (Nat.zero_le _) (Nat.le_refl _) (Or.inl rfl)).1.1
theorem sortF_len (l : List Nat) : (sortF l).length = l.length := by
 (have h := pdq_size swoS (l.map (fun x => (Fin.ofNat 18446744073709551616 x : W64))).toArray);(have hs : (l.map (fun x => (Fin.ofNat 18446744073709551616 x : W64))).toArray.size = l.length := by simp);(rw [hs] at h);(unfold sortF);(rw [List.length_map, Array.length_toList]);(exact h)
theorem sort_call {w0 w1 : World} {g cap : Nat} (l : List Nat) (hw : ∀ x ∈ l, x < 18446744073709551616) (hl : l.length < 1099511627776)
  (h : (Kd.scalar (Value.float .f64) (fun _ => rfl)).R 30 w1 w0.heap.size (fun _ => True) (.slice (some ⟨g, 0, none⟩) l.length cap) (l.take (min l.length (List.replicate l.length 0).length) ++ (List.replicate l.length 0).drop (min l.length (List.replicate l.length 0).length)))
  (hb : Below w0.heap.size w0 w1) :
  Calls Tryz.prog 196 #[.slice (some ⟨g, 0, none⟩) l.length cap, .func (.func 197) #[] #[]] w1 fun e w' =>
   e = .returned (.tuple #[]) ∧ w'.ownsRow w0.heap.size 30 1 (.slice (some ⟨g, 0, none⟩) l.length cap) l.length (encs (Value.float .f64) (sortF l)) ∧ Below w0.heap.size w0 w' := by
 (have e0 : l.take (min l.length (List.replicate l.length 0).length) ++ (List.replicate l.length 0).drop (min l.length (List.replicate l.length 0).length) = l := by simp);(rw [e0] at h);(have ho := Kd.own_of_R h);(obtain ⟨d, hd⟩ : ∃ d, d = (l.map (fun x => (Fin.ofNat 18446744073709551616 x : W64))).toArray := ⟨_, rfl⟩);(have hds : d.size = l.length := by rw [hd]; simp)
 have hde : d.toList.map encW = encs (Value.float .f64) l := by
  rw [hd]
  show (l.map _).map encW = _
  (unfold encs);(rw [List.map_map]);(refine List.map_congr_left fun x hx => ?_)
  show Value.float .f64 (x % 18446744073709551616) = Value.float .f64 x
  rw [Nat.mod_eq_of_lt (hw x hx)]
 (rw [← hde, ← hds] at ho);(rw [← hds]);(have hO : ∀ args w, (callFunc 197 args).run Tryz.prog w = .ok (.enter 197 args) w := enters_of Tryz.func197 (by kernel_rfl) rfl);(have hg : g < w1.heap.size := own_lt ho g rfl);(have hgb : w0.heap.size ≤ g := own_base ho g rfl);(refine (Tryz.slices_SortFunc_eq encW (fun _ => rfl) cfS swoS 197 #[] g 0 cap d w1 hO (sort_reads g 0 d.size w1).lays (holds_own d ho) hg (by omega)).mono ?_);(rintro e w' ⟨rfl, n, os, rfl⟩);(refine ⟨rfl, ?_, below_sorted hb hgb hg _ _ _⟩);(have hsz : (Go.Sort.pdq (ltOf cfS) d 0 d.size (Lib.bitLen d.size) true true).size = d.size := pdq_size swoS d);(have h3 := own_sorted (enc := encW) ho _ hsz n os)
 have h4 : (Go.Sort.pdq (ltOf cfS) d 0 d.size (Lib.bitLen d.size) true true).toList.map encW = encs (Value.float .f64) (sortF l) := by
  (unfold sortF encs);(rw [List.map_map, ← hd, ← hds]);(rfl)
 (rw [h4] at h3);(exact h3)
namespace FX
def ieee_Sort.f (l0 : List Nat) : Option (List Nat) := if (l0.all fun x => decide (x < 18446744073709551616)) = true ∧ l0.length < 1099511627776 then some (sortF l0) else none
set_option maxRecDepth 100000 in
set_option maxHeartbeats 400000 in
theorem ieee_Sort.calls (A0 : Option Addr) (c0 : Nat) (l0 : List Nat) (r : List Nat) (w : World) (hr0 : Kd.C Kd.flt w A0 l0.length l0) (_hc0 : l0.length ≤ c0) (h : ieee_Sort.f l0 = some r) :
  Calls Tryz.prog 132 #[.slice A0 l0.length c0] w fun e w' => ∃ v0_ : Value, e = .returned (v0_) ∧ Kd.R Kd.flt 30 w' w.heap.size (fun _ => True) v0_ r ∧ Below w.heap.size w w' := by
 unfold ieee_Sort.f at h
 by_cases hcond : (l0.all fun x => decide (x < 18446744073709551616)) = true ∧ l0.length < 1099511627776
 case neg => rw [if_neg hcond] at h; cases h
 (rw [if_pos hcond] at h);(obtain ⟨hall, hlen⟩ := hcond);(have hw : ∀ x ∈ l0, x < 18446744073709551616 := fun x hx => of_decide_eq_true (List.all_eq_true.1 hall x hx));(obtain rfl := Option.some.inj h);(clear h hall);(have HR0 := Aside0.mk hr0);(have HW := Lib.hid hw);(clear hr0 hw);(have hmk := print_make_of (P := Tryz.prog) 23 30 (.float .f64 0) 8 Tryz.underlying23 (by kernel_rfl) rfl (by decide) l0.length (by omega))
 have HO : Aside0 ((Kd.scalar (Value.float .f64) (fun _ => rfl)).R 30 (w.alloc (.cells (madeCells #[.float .f64 0] l0.length) 30)) w.heap.size (fun _ => True) (.slice (some ⟨w.heap.size, 0, none⟩) l0.length l0.length) (List.replicate l0.length 0)) :=
  ⟨Kd.R_of_own (by rw [List.length_replicate]; exact own_made_of (enc := Value.float .f64) (d := 0) w w.heap.size 30 l0.length (Nat.le_refl _) (by omega)) (fun _ _ => trivial)⟩
 (have HC : Aside0 ((Kd.scalar (Value.float .f64) (fun _ => rfl)).C (w.alloc (.cells (madeCells #[.float .f64 0] l0.length) 30)) A0 l0.length l0) := ⟨Kd.C_below HR0.out (below_alloc (Below.refl _ _) _)⟩);(have HB : Aside0 (Below w.heap.size w (w.alloc (.cells (madeCells #[.float .f64 0] l0.length) 30))) := ⟨below_alloc (Below.refl _ _) _⟩);(have hi : (Tryz.prog.info? 30).map (·.size) = some 1 := by kernel_rfl);(have HI := Aside0.mk hi);(clear hi);(obtain ⟨n, hn⟩ : ∃ n, n = l0.length := ⟨_, rfl⟩);(have HN := Aside0.mk hn);(clear hn);(go_enter Tryz.func132, Tryz.ntmps132)
 go_wp2_with (first | (refine Kd.R_copy (enc := Value.float .f64) (h1 := fun _ => rfl) 0 (w0 := w) w.heap.size rfl (.tmp 7) (.tmp 8) 23 23 30 rfl Tryz.underlying23 HI.out _ (List.replicate l0.length 0) l0 A0 l0.length c0 (fun _ => True) rfl rfl HO.out HC.out HB.out (by simp) ?_; intro w1 hr1 hb1 hg1; have HR1 := Aside0.mk hr1; have HB1 := Aside0.mk hb1; clear hr1 hb1 hg1) | (go_at_call 196; refine (sort_call l0 HW.out hlen HR1.out HB1.out).mono ?_; rintro e w' ⟨rfl, hr2, hb2⟩; have HR2 := Aside0.mk hr2; have HB2 := Aside0.mk hb2; clear hr2 hb2))
 (go_ret);(exact ⟨_, rfl, Kd.R_of_own (by rw [sortF_len]; exact HR2.out) (fun _ _ => trivial), HB2.out⟩)
end FX
end Go.Proofs.YtmdoljecjliehaaGreat
