/- Texts packed into one: Ac Ad Ae Af Ag. No condition. -/
import Derived.Test.YtmdoljecjliehaaGreatA3
import Derived.Test.YtmdoljecjliehaaGreatOpc
import Derived.BigRegion
import Derived.StillTailTactics
import Derived.Outline
section
/- Contracts of package acc: exact sums. -/
namespace Go.Proofs.YtmdoljecjliehaaGreat
open Go.RowKit Go.Proofs.YtmdoljecjliehaaGreatW.PrintWords Tn

def cellsF (f : Nat → Nat) (u d : Bool) : Array Value := (((List.range 68).map fun j => Value.int .u64 (f j : Nat)) ++ [Value.bool u, Value.bool d]).toArray
def rowF (f : Nat → Nat) : Array Value := ((List.range 68).map fun j => Value.int .u64 (f j : Nat)).toArray
def accF (w : World) (b : Nat) (f : Nat → Nat) (u d : Bool) : Prop := w.heap[b]? = some (.cells (cellsF f u d) 160 (0, 0))
def acc (w : World) (b N : Nat) (u d : Bool) : Prop := accF w b (wd N) u d
theorem cellsF_word (f : Nat → Nat) (u d : Bool) (i : Nat) (h : i < 68) : (cellsF f u d)[i]? = some (.int .u64 (f i : Nat)) := by
 (unfold cellsF);(rw [List.getElem?_toArray, List.getElem?_append_left (by simpa using h), List.getElem?_map, List.getElem?_range h]; rfl)
theorem cellsF_up (f : Nat → Nat) (u d : Bool) : (cellsF f u d)[68]? = some (.bool u) := by
 (unfold cellsF);(rw [List.getElem?_toArray, List.getElem?_append_right (by simp)]; rfl)
theorem cellsF_down (f : Nat → Nat) (u d : Bool) : (cellsF f u d)[69]? = some (.bool d) := by
 (unfold cellsF);(rw [List.getElem?_toArray, List.getElem?_append_right (by simp)]; rfl)
theorem rowF_size (f : Nat → Nat) : (rowF f).size = 68 := by simp [rowF]
theorem rowF_word (f : Nat → Nat) (i : Nat) (h : i < 68) : (rowF f)[i]? = some (.int .u64 (f i : Nat)) := by
 (unfold rowF);(rw [List.getElem?_toArray, List.getElem?_map, List.getElem?_range h]; rfl)
theorem cellsF_congr {f g : Nat → Nat} (u d : Bool) (h : ∀ i, i < 68 → f i = g i) : cellsF f u d = cellsF g u d := by
 unfold cellsF
 congr 2
 exact List.map_congr_left fun i hi => by rw [h i (List.mem_range.1 hi)]
theorem rowF_congr {f g : Nat → Nat} (h : ∀ i, i < 68 → f i = g i) : rowF f = rowF g := by
 unfold rowF
 congr 1
 exact List.map_congr_left fun i hi => by rw [h i (List.mem_range.1 hi)]
def upd (f : Nat → Nat) (i v : Nat) (j : Nat) : Nat := if j = i then v else f j
theorem map_set (f : Nat → Nat) (i v n : Nat) (h : i < n) : ((List.range n).map fun j => Value.int .u64 (f j : Nat)).set i (.int .u64 (v : Nat)) = (List.range n).map fun j => Value.int .u64 (upd f i v j : Nat) := by
 apply List.ext_getElem?
 (intro j);(rw [List.getElem?_set])
 by_cases hj : j < n
 ·rw [List.getElem?_map, List.getElem?_map, List.getElem?_range hj]
  unfold upd
  by_cases c : i = j
  ·subst c; simp [h]
  ·rw [if_neg c]; simp [show ¬ j = i from fun e => c e.symm]
 ·rw [List.getElem?_eq_none (by simp; omega), List.getElem?_eq_none (by simp; omega)]; simp; omega
theorem cellsF_set (f : Nat → Nat) (u d : Bool) (i v : Nat) (h : i < 68) : (cellsF f u d).setIfInBounds i (.int .u64 (v : Nat)) = cellsF (upd f i v) u d := by
 (unfold cellsF);(rw [List.setIfInBounds_toArray, List.set_append_left _ _ (by simpa using h), map_set f i v 68 h])
theorem rowF_set (f : Nat → Nat) (i v : Nat) (h : i < 68) : (rowF f).setIfInBounds i (.int .u64 (v : Nat)) = rowF (upd f i v) := by
 (unfold rowF);(rw [List.setIfInBounds_toArray, map_set f i v 68 h])
theorem grown_drew (w : World) (row : Option Nat) : w.grownBy w.drew row := ⟨rfl, rfl, rfl, Nat.le_refl _, fun _ _ _ => rfl⟩
theorem grown_set (w : World) (b i : Nat) (v : Value) : w.grownBy (w.setCell ⟨b, i, none⟩ v) (some b) :=
 ⟨rfl, rfl, rfl, by simp, fun k _ hk => Below.heap_setCell w ⟨b, i, none⟩ v k (fun e => hk (by rw [e]))⟩
section
variable {w : World} {b : Nat} {f : Nat → Nat} {u d : Bool}
theorem accF.word (h : accF w b f u d) (i : Nat) (hi : i < 68) : w.cell? ⟨b, i, none⟩ = some (.int .u64 (f i : Nat)) := by rw [blk_cell h]; exact cellsF_word f u d i hi
theorem accF.up (h : accF w b f u d) : w.cell? ⟨b, 68, none⟩ = some (.bool u) := by rw [blk_cell h]; exact cellsF_up f u d
theorem accF.down (h : accF w b f u d) : w.cell? ⟨b, 69, none⟩ = some (.bool d) := by rw [blk_cell h]; exact cellsF_down f u d
theorem accF.free (h : accF w b f u d) (i : Nat) : w.frozen? ⟨b, i, none⟩ = false := blk_frozen h i
theorem accF.set (h : accF w b f u d) (i v : Nat) (hi : i < 68) : accF (w.setCell ⟨b, i, none⟩ (.int .u64 (v : Nat))) b (upd f i v) u d := by
 unfold accF; rw [blk_set h, cellsF_set f u d i v hi]
end

set_option maxRecDepth 100000 in
set_option maxHeartbeats 400000 in
theorem new_any (w : World) : Calls Tryz.prog 134 #[] w fun e w' => e = .returned (.pointer (some ⟨w.heap.size, 0, none⟩)) ∧ w' = w.alloc (.cells (cellsF (fun _ => 0) false false) 160) := by
 (go_enter Tryz.func134, Tryz.ntmps134);(go_wp2);(go_ret);(exact ⟨rfl, rfl⟩)

set_option maxRecDepth 100000 in
set_option maxHeartbeats 400000 in
theorem below_any (b N : Nat) (u d : Bool) (w : World) (h : acc w b N u d) : Calls Tryz.prog 103 #[.pointer (some ⟨b, 0, none⟩)] w fun e w' => e = .returned (.bool (decide (9223372036854775808 ≤ wd N 67))) ∧ w = w' := by
 (have hc := accF.word h 67 (by decide));(have hw := Lib.hid (wd_lt N 67));(clear h);(generalize wd N 67 = x at *);(go_enter Tryz.func103, Tryz.ntmps103);(go_wp2);(go_ret);(exact ⟨ret_b (by rw [Bool.eq_iff_iff, beq_iff_eq, decide_eq_true_iff]; have := hw.out; omega), rfl⟩)

set_option maxRecDepth 100000 in
set_option maxHeartbeats 400000 in
theorem abs_acc (m : Int) (h0 : -9223372036854775808 ≤ m) (h1 : m < 9223372036854775808) (w : World) : Calls Tryz.prog 155 #[.int .i64 m] w fun e w' => e = .returned (.int .u64 (m.natAbs : Nat)) ∧ w = w' := by
 by_cases c : m < 0
 ·have H := Lib.hid h0; have H' := Lib.hid h1; clear h0 h1
  (go_enter Tryz.func155, Tryz.ntmps155);(go_wp2);(go_ret);(exact ⟨ret_i (by rw [IntKind.wrap_u64]; have := H.out; have := H'.out; try unfold wrap64; omega), rfl⟩)
 ·have H := Lib.hid h0; have H' := Lib.hid h1; clear h0 h1
  (go_enter Tryz.func155, Tryz.ntmps155);(go_wp2);(go_ret);(exact ⟨ret_i (by rw [IntKind.wrap_u64]; have := H.out; have := H'.out; omega), rfl⟩)

def sub64R : Array Value → Sem Value := fun args => do
 let (x, y, b) ← Extern.MathBitsCarry.three "Sub64" args
 pure (Extern.MathBitsCarry.pair ((x + Extern.MathBitsCarry.m64 - y - b) % Extern.MathBitsCarry.m64) (if x < y + b then 1 else 0))
theorem sub64_row (x y b : Nat) (hb : b ≤ 1) (w : World) :
  (sub64R #[.int .u64 x, .int .u64 y, .int .u64 b]).run Tryz.prog w =
   .ok (.tuple #[.int .u64 (((x + 18446744073709551616 - y - b) % 18446744073709551616 : Nat) : Int), .int .u64 ((if x < y + b then 1 else 0 : Nat) : Int)]) w := by
 have : b = 0 ∨ b = 1 := by omega
 rcases this with rfl | rfl <;> rfl
theorem add64_run (x y c : Nat) (hc : c ≤ 1) (w : World) :
  (callFunc 215 #[.int .u64 x, .int .u64 y, .int .u64 c]).run Tryz.prog w =
   .ok (.value (.tuple #[.int .u64 (((x + y + c) % 18446744073709551616 : Nat) : Int), .int .u64 (((x + y + c) / 18446744073709551616 : Nat) : Int)])) w := by
 (rw [run_callFunc_extern Tryz.func215 (by kernel_rfl) (by kernel_rfl) (by kernel_rfl) (e := add64Entry) (by kernel_rfl), run_add64 x y c (by omega) (by omega) (by omega) (by omega)]);(simp only [Result.andThen])
 congr 5 <;> omega
theorem sub64_run (x y b : Nat) (hb : b ≤ 1) (w : World) :
  (callFunc 214 #[.int .u64 x, .int .u64 y, .int .u64 b]).run Tryz.prog w =
   .ok (.value (.tuple #[.int .u64 (((x + 18446744073709551616 - y - b) % 18446744073709551616 : Nat) : Int), .int .u64 ((if x < y + b then 1 else 0 : Nat) : Int)])) w := by
 (rw [run_callFunc_extern Tryz.func214 (by kernel_rfl) (by kernel_rfl) (by kernel_rfl) (e := sub64R) (by kernel_rfl), sub64_row x y b hb]);(rfl)

def mixW (N R j : Nat) (t : Nat) : Nat := if t < j then wd R t else wd N t
theorem mixW_at (N R j : Nat) : mixW N R j j = wd N j := by unfold mixW; rw [if_neg (Nat.lt_irrefl j)]
theorem accF_congr {w : World} {b : Nat} {f g : Nat → Nat} {u d : Bool} (h : accF w b f u d) (e : ∀ i, i < 68 → f i = g i) : accF w b g u d := by
 unfold accF at h ⊢; rw [← cellsF_congr u d e]; exact h
theorem mix_start {w : World} {b N R k : Nat} {u d : Bool} (h : accF w b (wd N) u d) (e : ∀ i, i < k → wd R i = wd N i) : accF w b (mixW N R k) u d :=
 accF_congr h fun i _ => by
  unfold mixW
  by_cases c : i < k
  ·rw [if_pos c, e i c]
  ·rw [if_neg c]
theorem mix_next {w : World} {b N R j ww : Nat} {u d : Bool} (h : accF w b (mixW N R j) u d) (hj : j < 68) (hw : ww = wd R j) : accF (w.setCell ⟨b, j, none⟩ (.int .u64 (ww : Nat))).drew b (mixW N R (j + 1)) u d := by
 (refine accF_congr (f := upd (mixW N R j) j ww) (h.set j ww hj) fun i _ => ?_);(unfold upd mixW)
 by_cases c : i = j
 ·rw [if_pos c, if_pos (by omega), hw, c]
 ·rw [if_neg c]
  by_cases c2 : i < j
  ·rw [if_pos c2, if_pos (by omega)]
  ·rw [if_neg c2, if_neg (by omega)]
theorem mix_end {w : World} {b N R : Nat} {u d : Bool} (h : accF w b (mixW N R 68) u d) : acc w b (R % B 68) u d :=
 accF_congr h fun i hi => by unfold mixW; rw [if_pos hi, wd_mod _ _ _ hi]
theorem put_word_false {N V j cc : Nat} (_h : j < 68) (_hV : V ≤ B 68) (hc : cc = carry N V j) : (wd N j + wd V j + cc) % 18446744073709551616 = wd (N + V) j := by rw [hc]; exact (add_step N V j).1
theorem put_carry_false {N V j cc : Nat} (hc : cc = carry N V j) : (wd N j + wd V j + cc) / 18446744073709551616 = carry N V (j + 1) := by rw [hc]; exact (add_step N V j).2
theorem put_word_true {N V j cc : Nat} (h : j < 68) (hV : V ≤ B 68) (hc : cc = borrow N V j) : (wd N j + 18446744073709551616 - wd V j - cc) % 18446744073709551616 = wd (N + B 68 - V) j := by rw [hc]; exact sub_word N V 68 j h hV
theorem put_carry_true {N V j cc : Nat} (hc : cc = borrow N V j) : (if wd N j < wd V j + cc then 1 else 0) = borrow N V (j + 1) := by rw [hc]; exact sub_borrow N V j
theorem put_zero_false {N V k : Nat} (h : V % B k = 0) : 0 = carry N V k := by
 unfold carry; rw [h, Nat.add_zero, Nat.div_eq_of_lt (Nat.mod_lt _ (B_pos k))]
theorem put_zero_true {N V k : Nat} (h : V % B k = 0) : 0 = borrow N V k := by
 unfold borrow; rw [h, if_neg (by omega)]
theorem mod_low {V k : Nat} (h : V % B k = 0) {i : Nat} (hi : i ≤ k) : V % B i = 0 := by
 (obtain ⟨m, rfl⟩ : ∃ m, k = i + m := ⟨k - i, by omega⟩);(rw [B_add] at h);(have := Nat.mod_mul_right_mod V (B i) (B m));(rw [h, Nat.zero_mod] at this; exact this.symm)
theorem mix_low_false {N V k : Nat} (_hk : k ≤ 65) (h : ∀ i, i < k → wd V i = 0) (hm : V % B k = 0) (_hV : V ≤ B 68) : ∀ i, i < k → wd (N + V) i = wd N i := fun i hi => by
 (rw [← (add_step N V i).1, h i hi, ← put_zero_false (mod_low hm (by omega))]);(exact Nat.mod_eq_of_lt (wd_lt N i))
theorem mix_low_true {N V k : Nat} (hk : k ≤ 65) (h : ∀ i, i < k → wd V i = 0) (hm : V % B k = 0) (hV : V ≤ B 68) : ∀ i, i < k → wd (N + B 68 - V) i = wd N i := fun i hi => by
 (rw [← sub_word N V 68 i (by omega) hV, h i hi, ← put_zero_true (mod_low hm (by omega))]);(have := wd_lt N i);(omega)

set_option maxRecDepth 100000 in
set_option maxHeartbeats 400000 in
theorem put_add (b N hi lo k r : Nat) (u d : Bool) (w : World) (h : acc w b N u d) (hhi : hi < 18446744073709551616) (hlo : lo < 18446744073709551616) (hk : k ≤ 65) (hr : r < 64) :
  Calls Tryz.prog 156 #[.pointer (some ⟨b, 0, none⟩), .int .u64 hi, .int .u64 lo, .int .i64 ((64 * k + r : Nat) : Int), .bool false] w fun e w' => e = .returned (.tuple #[]) ∧ Aside0 (w.grownBy w' (some b)) ∧ Aside0 (acc w' b ((N + putV hi lo k r) % B 68) u d) := by
 (obtain ⟨V, hV⟩ : ∃ V, V = putV hi lo k r := ⟨_, rfl⟩);(rw [← hV]);(obtain ⟨p0, p1, p2, p3, p4, p5⟩ := put_words hhi hlo hr)
 have hVB : V < B (k + 3) := by
  rw [hV, Nat.add_comm, B_add]; exact Nat.mul_lt_mul_of_pos_right p3 (B_pos k)
 (have hb := blk_lt h);(have HVS : RowKit.Hid (∀ i, k + 3 ≤ i → wd V i = 0) := fun i hi => wd_small (Nat.lt_of_lt_of_le hVB (B_le hi)));(have HVL : RowKit.Hid (∀ i, i < k → wd V i = 0) := fun i hi => by rw [hV]; exact putV_low hi);(have HVM : RowKit.Hid (V % B k = 0) := by rw [hV]; exact putV_mod _ _ _ _);(have HVB : RowKit.Hid (V ≤ B 68) := Nat.le_of_lt (Nat.lt_of_lt_of_le hVB (B_le (by omega))))
 have hx0 : IntKind.u64.wrap ((lo : Int) * 2 ^ r) = ((wd V (k + 0) : Nat) : Int) := by
  rw [hV, putV_word, ← p0, IntKind.wrap_u64]; simp
 have hx2 : (hi : Int) / 2 ^ (64 - r) = ((wd V (k + 2) : Nat) : Int) := by
  rw [hV, putV_word, ← p2]; simp
 have hx1 : bits .or .u64 (IntKind.u64.wrap ((hi : Int) * 2 ^ r)) ((lo : Int) / 2 ^ (64 - r)) = ((wd V (k + 1) : Nat) : Int) := by
  (have e0 : IntKind.u64.wrap ((hi : Int) * 2 ^ r) = (((hi * 2 ^ r) % 18446744073709551616 : Nat) : Int) := by rw [IntKind.wrap_u64]; simp);(have e1 : (lo : Int) / 2 ^ (64 - r) = ((lo / 2 ^ (64 - r) : Nat) : Int) := by simp);(rw [hV, putV_word, ← p1, e0, e1]);(exact put_or ⟨r, hr, rfl⟩ p4 (Nat.mod_lt _ (by decide)) p5)
 (clear p0 p1 p2 p3 p4 p5 hVB);(have e1 : (((64 * k + r : Nat) : Int) / 64) = k := by omega);(have e2 : (((64 * k + r : Nat) : Int) % 64) = r := by omega);(have e3 : (0 : Int) ≤ ((64 * k + r : Nat) : Int) := by omega);(have e4 : ((64 * k + r : Nat) : Int) ≤ 10000 := by omega);(have HA := Aside0.mk h);(clear h hV);(obtain ⟨n, hn⟩ : ∃ n : Int, n = ((64 * k + r : Nat) : Int) := ⟨_, rfl⟩);(rw [← hn] at e1 e2 e3 e4 ⊢);(clear hn);(have HH := Lib.hid hhi; have HL := Lib.hid hlo);(clear hhi hlo);(obtain ⟨x0, hX0⟩ : ∃ x, wd V (k + 0) = x := ⟨_, rfl⟩);(obtain ⟨x1, hX1⟩ : ∃ x, wd V (k + 1) = x := ⟨_, rfl⟩);(obtain ⟨x2, hX2⟩ : ∃ x, wd V (k + 2) = x := ⟨_, rfl⟩);(rw [hX0] at hx0; rw [hX1] at hx1; rw [hX2] at hx2);(have HX0 := Lib.hid hX0; have HX1 := Lib.hid hX1; have HXX := Lib.hid hX2);(clear hX0 hX1 hX2);(have HC0 : RowKit.Hid (0 = carry N V k) := put_zero_false HVM.out);(go_enter Tryz.func156, Tryz.ntmps156);(go_wp2);(go_region);(simp only [e1, e2]);(go_wp2);(clear hx0 hx1 hx2 e1 e2 e3 e4);(have HG0 : Aside0 (w.grownBy (w.alloc (.cells #[.int .u64 x0, .int .u64 x1, .int .u64 x2] 246)).drew (some b)) := ⟨(World.grownBy_alloc w _ _).trans (grown_drew _ _)⟩);(have HA0 : Aside0 (accF (w.alloc (.cells #[.int .u64 x0, .int .u64 x1, .int .u64 x2] 246)).drew b (wd N) u d) := ⟨(blk_alloc HA.out _ : _)⟩);(have HX : Aside0 ((w.alloc (.cells #[.int .u64 x0, .int .u64 x1, .int .u64 x2] 246)).drew.heap[w.heap.size]? = some (.cells #[.int .u64 x0, .int .u64 x1, .int .u64 x2] 246 (0, 0))) := ⟨blk_new w _⟩)
 go_loopw [13, 14] (fun c i wr => ∃ j cc : Nat, k ≤ j ∧ j ≤ 68 ∧ i = .int .i64 j ∧ c = .int .u64 cc ∧ cc ≤ 1 ∧ RowKit.Hid (cc = carry N V j) ∧ Aside0 (w.grownBy wr (some b)) ∧ Aside0 (accF wr b (mixW N (N + V) j) u d) ∧ Aside0 (wr.heap[w.heap.size]? = some (.cells #[.int .u64 x0, .int .u64 x1, .int .u64 x2] 246 (0, 0)))) (fun _ i _ => 68 - (intOf i).toNat)
 case atStart =>
  exact ⟨k, 0, Nat.le_refl _, by omega, rfl, rfl, by omega, HC0, HG0, ⟨mix_start HA0.out (mix_low_false hk HVL.out HVM.out HVB.out)⟩, HX⟩
 case round =>
  obtain ⟨j, cc, hj0, hj1, rfl, rfl, hc1, HC, HG, HA2, HX2⟩ := hrel
  by_cases hlt : j < 68
  ·have hcell := HA2.out.word j hlt
   (rw [mixW_at] at hcell);(have hfree := HA2.out.free j);(have HW := Lib.hid (put_word_false (N := N) (V := V) hlt HVB.out HC.out));(have HK := Lib.hid (put_carry_false (N := N) (V := V) (j := j) HC.out))
   by_cases hj3 : j < k + 3
   ·have hcx : wr.cell? ⟨w.heap.size, j - k, none⟩ = some (.int .u64 ((wd V j : Nat) : Int)) := by
     (rw [blk_cell HX2.out]);(obtain ⟨t, rfl⟩ : ∃ t, j = k + t := ⟨j - k, by omega⟩);(rw [show k + t - k = t by omega]);(have ht : t = 0 ∨ t = 1 ∨ t = 2 := by omega)
     rcases ht with rfl | rfl | rfl
     ·rw [HX0.out]; rfl
     ·rw [HX1.out]; rfl
     ·rw [HXX.out]; rfl
    (have ha := fun w' => add64_run (wd N j) (wd V j) cc hc1 w');(obtain ⟨ww, hww⟩ : ∃ x, (wd N j + wd V j + cc) % 18446744073709551616 = x := ⟨_, rfl⟩);(obtain ⟨kk, hkk⟩ : ∃ x, (wd N j + wd V j + cc) / 18446744073709551616 = x := ⟨_, rfl⟩);(rw [hww, hkk] at ha);(rw [hww] at HW; rw [hkk] at HK);(clear hww hkk);(generalize wd N j = nn at *);(generalize wd V j = vv at *);(have hi0 : (0 : Int) ≤ (j : Int) - k := by omega);(have hi1 : (j : Int) - k < 3 := by omega);(clear HC);(go_wp2);(go_region);(go_wp2);(go_roundw)
    case rel => exact ⟨j + 1, kk, by omega, by omega, by go_num, rfl, by rw [HK.out]; exact carry_le N V _, HK, ⟨HG.out.trans ((grown_set _ b j _).trans (grown_drew _ _))⟩, ⟨mix_next HA2.out hlt HW.out⟩, ⟨blk_drew (blk_far HX2.out (Nat.ne_of_gt hb) _)⟩⟩
    case measure => simp [intOf]; omega
   ·have HV0 := Lib.hid (HVS.out j (by omega))
    (have ha := fun w' => add64_run (wd N j) 0 cc hc1 w');(rw [HV0.out] at HW HK);(obtain ⟨ww, hww⟩ : ∃ x, (wd N j + 0 + cc) % 18446744073709551616 = x := ⟨_, rfl⟩);(obtain ⟨kk, hkk⟩ : ∃ x, (wd N j + 0 + cc) / 18446744073709551616 = x := ⟨_, rfl⟩);(rw [hww, hkk] at ha);(rw [hww] at HW; rw [hkk] at HK);(rw [show ((0 : Nat) : Int) = 0 from rfl] at ha);(clear hww hkk);(generalize wd N j = nn at *);(clear HC);(go_wp2);(go_region);(go_wp2);(go_roundw)
    case rel => exact ⟨j + 1, kk, by omega, by omega, by go_num, rfl, by rw [HK.out]; exact carry_le N V _, HK, ⟨HG.out.trans ((grown_set _ b j _).trans (grown_drew _ _))⟩, ⟨mix_next HA2.out hlt HW.out⟩, ⟨blk_drew (blk_far HX2.out (Nat.ne_of_gt hb) _)⟩⟩
    case measure => simp [intOf]; omega
  ·obtain rfl : j = 68 := by omega
   (go_wp2);(go_end0);(exact ⟨rfl, HG, ⟨mix_end HA2.out⟩⟩)

set_option maxRecDepth 100000 in
set_option maxHeartbeats 400000 in
theorem put_sub (b N hi lo k r : Nat) (u d : Bool) (w : World) (h : acc w b N u d) (hhi : hi < 18446744073709551616) (hlo : lo < 18446744073709551616) (hk : k ≤ 65) (hr : r < 64) :
  Calls Tryz.prog 156 #[.pointer (some ⟨b, 0, none⟩), .int .u64 hi, .int .u64 lo, .int .i64 ((64 * k + r : Nat) : Int), .bool true] w fun e w' => e = .returned (.tuple #[]) ∧ Aside0 (w.grownBy w' (some b)) ∧ Aside0 (acc w' b ((N + B 68 - putV hi lo k r) % B 68) u d) := by
 (obtain ⟨V, hV⟩ : ∃ V, V = putV hi lo k r := ⟨_, rfl⟩);(rw [← hV]);(obtain ⟨p0, p1, p2, p3, p4, p5⟩ := put_words hhi hlo hr)
 have hVB : V < B (k + 3) := by
  rw [hV, Nat.add_comm, B_add]; exact Nat.mul_lt_mul_of_pos_right p3 (B_pos k)
 (have hb := blk_lt h);(have HVS : RowKit.Hid (∀ i, k + 3 ≤ i → wd V i = 0) := fun i hi => wd_small (Nat.lt_of_lt_of_le hVB (B_le hi)));(have HVL : RowKit.Hid (∀ i, i < k → wd V i = 0) := fun i hi => by rw [hV]; exact putV_low hi);(have HVM : RowKit.Hid (V % B k = 0) := by rw [hV]; exact putV_mod _ _ _ _);(have HVB : RowKit.Hid (V ≤ B 68) := Nat.le_of_lt (Nat.lt_of_lt_of_le hVB (B_le (by omega))))
 have hx0 : IntKind.u64.wrap ((lo : Int) * 2 ^ r) = ((wd V (k + 0) : Nat) : Int) := by
  rw [hV, putV_word, ← p0, IntKind.wrap_u64]; simp
 have hx2 : (hi : Int) / 2 ^ (64 - r) = ((wd V (k + 2) : Nat) : Int) := by
  rw [hV, putV_word, ← p2]; simp
 have hx1 : bits .or .u64 (IntKind.u64.wrap ((hi : Int) * 2 ^ r)) ((lo : Int) / 2 ^ (64 - r)) = ((wd V (k + 1) : Nat) : Int) := by
  (have e0 : IntKind.u64.wrap ((hi : Int) * 2 ^ r) = (((hi * 2 ^ r) % 18446744073709551616 : Nat) : Int) := by rw [IntKind.wrap_u64]; simp);(have e1 : (lo : Int) / 2 ^ (64 - r) = ((lo / 2 ^ (64 - r) : Nat) : Int) := by simp);(rw [hV, putV_word, ← p1, e0, e1]);(exact put_or ⟨r, hr, rfl⟩ p4 (Nat.mod_lt _ (by decide)) p5)
 (clear p0 p1 p2 p3 p4 p5 hVB);(have e1 : (((64 * k + r : Nat) : Int) / 64) = k := by omega);(have e2 : (((64 * k + r : Nat) : Int) % 64) = r := by omega);(have e3 : (0 : Int) ≤ ((64 * k + r : Nat) : Int) := by omega);(have e4 : ((64 * k + r : Nat) : Int) ≤ 10000 := by omega);(have HA := Aside0.mk h);(clear h hV);(obtain ⟨n, hn⟩ : ∃ n : Int, n = ((64 * k + r : Nat) : Int) := ⟨_, rfl⟩);(rw [← hn] at e1 e2 e3 e4 ⊢);(clear hn);(have HH := Lib.hid hhi; have HL := Lib.hid hlo);(clear hhi hlo);(obtain ⟨x0, hX0⟩ : ∃ x, wd V (k + 0) = x := ⟨_, rfl⟩);(obtain ⟨x1, hX1⟩ : ∃ x, wd V (k + 1) = x := ⟨_, rfl⟩);(obtain ⟨x2, hX2⟩ : ∃ x, wd V (k + 2) = x := ⟨_, rfl⟩);(rw [hX0] at hx0; rw [hX1] at hx1; rw [hX2] at hx2);(have HX0 := Lib.hid hX0; have HX1 := Lib.hid hX1; have HXX := Lib.hid hX2);(clear hX0 hX1 hX2);(have HC0 : RowKit.Hid (0 = borrow N V k) := put_zero_true HVM.out);(go_enter Tryz.func156, Tryz.ntmps156);(go_wp2);(go_region);(simp only [e1, e2]);(go_wp2);(clear hx0 hx1 hx2 e1 e2 e3 e4);(have HG0 : Aside0 (w.grownBy (w.alloc (.cells #[.int .u64 x0, .int .u64 x1, .int .u64 x2] 246)).drew (some b)) := ⟨(World.grownBy_alloc w _ _).trans (grown_drew _ _)⟩);(have HA0 : Aside0 (accF (w.alloc (.cells #[.int .u64 x0, .int .u64 x1, .int .u64 x2] 246)).drew b (wd N) u d) := ⟨(blk_alloc HA.out _ : _)⟩);(have HX : Aside0 ((w.alloc (.cells #[.int .u64 x0, .int .u64 x1, .int .u64 x2] 246)).drew.heap[w.heap.size]? = some (.cells #[.int .u64 x0, .int .u64 x1, .int .u64 x2] 246 (0, 0))) := ⟨blk_new w _⟩)
 go_loopw [13, 14] (fun c i wr => ∃ j cc : Nat, k ≤ j ∧ j ≤ 68 ∧ i = .int .i64 j ∧ c = .int .u64 cc ∧ cc ≤ 1 ∧ RowKit.Hid (cc = borrow N V j) ∧ Aside0 (w.grownBy wr (some b)) ∧ Aside0 (accF wr b (mixW N (N + B 68 - V) j) u d) ∧ Aside0 (wr.heap[w.heap.size]? = some (.cells #[.int .u64 x0, .int .u64 x1, .int .u64 x2] 246 (0, 0)))) (fun _ i _ => 68 - (intOf i).toNat)
 case atStart =>
  exact ⟨k, 0, Nat.le_refl _, by omega, rfl, rfl, by omega, HC0, HG0, ⟨mix_start HA0.out (mix_low_true hk HVL.out HVM.out HVB.out)⟩, HX⟩
 case round =>
  obtain ⟨j, cc, hj0, hj1, rfl, rfl, hc1, HC, HG, HA2, HX2⟩ := hrel
  by_cases hlt : j < 68
  ·have hcell := HA2.out.word j hlt
   (rw [mixW_at] at hcell);(have hfree := HA2.out.free j);(have HW := Lib.hid (put_word_true (N := N) (V := V) hlt HVB.out HC.out));(have HK := Lib.hid (put_carry_true (N := N) (V := V) (j := j) HC.out))
   by_cases hj3 : j < k + 3
   ·have hcx : wr.cell? ⟨w.heap.size, j - k, none⟩ = some (.int .u64 ((wd V j : Nat) : Int)) := by
     (rw [blk_cell HX2.out]);(obtain ⟨t, rfl⟩ : ∃ t, j = k + t := ⟨j - k, by omega⟩);(rw [show k + t - k = t by omega]);(have ht : t = 0 ∨ t = 1 ∨ t = 2 := by omega)
     rcases ht with rfl | rfl | rfl
     ·rw [HX0.out]; rfl
     ·rw [HX1.out]; rfl
     ·rw [HXX.out]; rfl
    (have ha := fun w' => sub64_run (wd N j) (wd V j) cc hc1 w');(obtain ⟨ww, hww⟩ : ∃ x, (wd N j + 18446744073709551616 - wd V j - cc) % 18446744073709551616 = x := ⟨_, rfl⟩);(obtain ⟨kk, hkk⟩ : ∃ x, (if wd N j < wd V j + cc then 1 else 0) = x := ⟨_, rfl⟩);(rw [hww, hkk] at ha);(rw [hww] at HW; rw [hkk] at HK);(clear hww hkk);(generalize wd N j = nn at *);(generalize wd V j = vv at *);(have hi0 : (0 : Int) ≤ (j : Int) - k := by omega);(have hi1 : (j : Int) - k < 3 := by omega);(clear HC);(go_wp2);(go_region);(go_wp2);(go_roundw)
    case rel => exact ⟨j + 1, kk, by omega, by omega, by go_num, rfl, by rw [HK.out]; exact borrow_le N V _, HK, ⟨HG.out.trans ((grown_set _ b j _).trans (grown_drew _ _))⟩, ⟨mix_next HA2.out hlt HW.out⟩, ⟨blk_drew (blk_far HX2.out (Nat.ne_of_gt hb) _)⟩⟩
    case measure => simp [intOf]; omega
   ·have HV0 := Lib.hid (HVS.out j (by omega))
    (have ha := fun w' => sub64_run (wd N j) 0 cc hc1 w');(rw [HV0.out] at HW HK);(obtain ⟨ww, hww⟩ : ∃ x, (wd N j + 18446744073709551616 - 0 - cc) % 18446744073709551616 = x := ⟨_, rfl⟩);(obtain ⟨kk, hkk⟩ : ∃ x, (if wd N j < 0 + cc then 1 else 0) = x := ⟨_, rfl⟩);(rw [hww, hkk] at ha);(rw [hww] at HW; rw [hkk] at HK);(rw [show ((0 : Nat) : Int) = 0 from rfl] at ha);(clear hww hkk);(generalize wd N j = nn at *);(clear HC);(go_wp2);(go_region);(go_wp2);(go_roundw)
    case rel => exact ⟨j + 1, kk, by omega, by omega, by go_num, rfl, by rw [HK.out]; exact borrow_le N V _, HK, ⟨HG.out.trans ((grown_set _ b j _).trans (grown_drew _ _))⟩, ⟨mix_next HA2.out hlt HW.out⟩, ⟨blk_drew (blk_far HX2.out (Nat.ne_of_gt hb) _)⟩⟩
    case measure => simp [intOf]; omega
  ·obtain rfl : j = 68 := by omega
   (go_wp2);(go_end0);(exact ⟨rfl, HG, ⟨mix_end HA2.out⟩⟩)

end Go.Proofs.YtmdoljecjliehaaGreat
end

section
/- Contracts of package acc: sums told as whole numbers. -/
namespace Go.Proofs.YtmdoljecjliehaaGreat
open Go.RowKit Go.Proofs.YtmdoljecjliehaaGreatW.PrintWords Tn

def accZ (w : World) (b : Nat) (Z : Int) (u d : Bool) : Prop := acc w b (modB Z) u d

set_option maxRecDepth 100000 in
set_option maxHeartbeats 400000 in
theorem add_fin (b x : Nat) (Z : Int) (u d : Bool) (w : World) (h : accZ w b Z u d) (hx : x < 18446744073709551616) (hf : fin x = true) :
  Calls Tryz.prog 135 #[.pointer (some ⟨b, 0, none⟩), .float .f64 x] w fun e w' => e = .returned (.tuple #[]) ∧ Aside0 (w.grownBy w' (some b)) ∧ Aside0 (accZ w' b (Z + units x) u d) := by
 (obtain ⟨hm1, hm2⟩ := spm_bd x);(have HM : RowKit.Hid (-9223372036854775808 ≤ spm x ∧ spm x < 9223372036854775808) := ⟨by omega, by omega⟩);(have HA := Aside0.mk h);(have H := Lib.hid hx);(clear h hx)
 rcases Int.lt_trichotomy (spm x) 0 with hs | hs | hs
 ·obtain ⟨k, r, hk, hr, he, hu⟩ := units_neg (x := x) hs
  (have HU := Lib.hid hu);(have hn : (spm x).natAbs < 18446744073709551616 := by omega);(have HN := Lib.hid hn);(have HV := Lib.hid (putV_le (hi := 0) (by decide) hn hk hr));(clear hn hu);(have b0 : (spm x != 0) = true := bne_iff_ne.2 (by omega));(have b1 : decide (spm x < 0) = true := decide_eq_true (by omega));(have HS := split_any x H.out w);(rw [hf] at HS);(have HS' := Aside0.mk HS);(clear HS hf);(generalize units x = U at *);(generalize spm x = m at *);(obtain ⟨q, hq⟩ : ∃ q, spe x = q := ⟨_, rfl⟩);(rw [hq] at HS' he);(have h0 : -1074 ≤ q := by rw [← hq]; exact (spe_bd x).1);(have h1 : q ≤ 971 := by rw [← hq]; exact (spe_bd x).2);(clear hq);(have HE := Lib.hid he);(clear he);(go_enter Tryz.func135, Tryz.ntmps135)
  go_wp2_with (first | (go_at_call 153; refine HS'.out.mono ?_; rintro e w' ⟨rfl, rfl⟩) | (go_at_call 155; refine (abs_acc _ HM.out.1 HM.out.2 _).mono ?_; rintro e w' ⟨rfl, rfl⟩) | (go_at_call 156; rw [HE.out]; refine (put_sub b (modB Z) 0 m.natAbs k r u d _ HA.out (by decide) HN.out hk hr).mono ?_; rintro e w' ⟨rfl, hg, ha⟩))
  (go_end0);(exact ⟨rfl, hg, ⟨by have h3 := ha.out; rw [modB_sub _ _ HV.out] at h3; show acc _ _ (modB _) _ _; rw [← HU.out]; exact h3⟩⟩)
 ·have HZ := Lib.hid (units_none hs)
  (have HS := split_any x H.out w);(rw [hf, hs] at HS);(have HS' := Aside0.mk HS);(clear HS hf hs hm1 hm2 HM);(generalize spe x = q at *);(go_enter Tryz.func135, Tryz.ntmps135)
  go_wp2_with (go_at_call 153; refine HS'.out.mono ?_; rintro e w' ⟨rfl, rfl⟩)
  (go_end0);(exact ⟨rfl, ⟨World.grownBy.refl _ _⟩, ⟨by rw [HZ.out, Int.add_zero]; exact HA.out⟩⟩)
 ·obtain ⟨k, r, hk, hr, he, hu⟩ := units_pos (x := x) (by omega)
  (have HU := Lib.hid hu);(have hn : (spm x).natAbs < 18446744073709551616 := by omega);(have HN := Lib.hid hn);(have HV := Lib.hid (putV_le (hi := 0) (by decide) hn hk hr));(clear hn hu);(have b0 : (spm x != 0) = true := bne_iff_ne.2 (by omega));(have b1 : decide (spm x < 0) = false := decide_eq_false (by omega));(have HS := split_any x H.out w);(rw [hf] at HS);(have HS' := Aside0.mk HS);(clear HS hf);(generalize units x = U at *);(generalize spm x = m at *);(obtain ⟨q, hq⟩ : ∃ q, spe x = q := ⟨_, rfl⟩);(rw [hq] at HS' he);(have h0 : -1074 ≤ q := by rw [← hq]; exact (spe_bd x).1);(have h1 : q ≤ 971 := by rw [← hq]; exact (spe_bd x).2);(clear hq);(have HE := Lib.hid he);(clear he);(go_enter Tryz.func135, Tryz.ntmps135)
  go_wp2_with (first | (go_at_call 153; refine HS'.out.mono ?_; rintro e w' ⟨rfl, rfl⟩) | (go_at_call 155; refine (abs_acc _ HM.out.1 HM.out.2 _).mono ?_; rintro e w' ⟨rfl, rfl⟩) | (go_at_call 156; rw [HE.out]; refine (put_add b (modB Z) 0 m.natAbs k r u d _ HA.out (by decide) HN.out hk hr).mono ?_; rintro e w' ⟨rfl, hg, ha⟩))
  (go_end0);(exact ⟨rfl, hg, ⟨by have h3 := ha.out; rw [modB_add] at h3; show acc _ _ (modB _) _ _; rw [← HU.out]; exact h3⟩⟩)

set_option maxRecDepth 100000 in
set_option maxHeartbeats 400000 in
theorem wpList_store_row {P : Program} {ops : Array Oper} {rest : List Oper} {o : Oper} {a : Act} {Q : Exit → Act → World → Prop} {W : World} (hN : o.dst = none) (hgd : o.guard = none) (t : TypeId) (p x : Operand) (ho : o.op = .store t p x) (g : Nat) (haddr : a.eval p = .pointer (some ⟨g, 0, none⟩)) (cs cur : Array Value) (e : TypeId)
  (hx : a.eval x = .agg cs) (hh : W.heap[g]? = some (.cells cur e (0, 0))) (hs : cur.size = cs.size) (ht : (P.info? t).map (·.size) = some cs.size) (h1 : ∀ q ∈ cs.toList, q.oneCell' = true)
  (h : ∀ w1, Aside0 (W.grownBy w1 (some g)) → Aside0 (w1.heap[g]? = some (.cells cs e (0, 0))) → wpList P ops Q rest a w1) : wpList P ops Q (o :: rest) a W := by
 (have hrun := run_store_run (P := P) (o := 0) t (.agg cs) cs.toList hh rfl (by simpa using ht) (by simp [hs]) h1);(obtain ⟨cur', h3, h4, h5⟩ := setCells_row cs.toList 0 W cur hh (by simp [hs]));(obtain ⟨s1, s2, s3, s4⟩ := setCells_same g cs.toList 0 W)
 have hc : cur' = cs := by
  apply Array.toList_inj.1
  rw [h5, List.take_zero, List.nil_append, List.drop_of_length_le (by simp [hs]), List.append_nil]
 (rw [hc] at h3);(refine wpList_plain hgd fun K hK => ?_);(unfold Oper.wp execOp);(simp only [ho, haddr, hx, Sem.run_bind, Sem.run_pure, Result.andThen_ok, hrun])
 show K (a.put o.dst undef) _
 (rw [hN]);(exact hK a _ (h _ ⟨⟨s1, s2, s3, by rw [s4]; exact Nat.le_refl _, fun k _ hk => setCells_far _ _ k (fun he => hk (by rw [he]))⟩⟩ ⟨h3⟩))
theorem row_one (f : Nat → Nat) : ∀ q ∈ (rowF f).toList, q.oneCell' = true := by
 (intro q hq);(unfold rowF at hq);(obtain ⟨j, _, rfl⟩ := List.mem_map.1 hq);(rfl)
theorem index_row (f : Nat → Nat) (j : Nat) (hj : j < 68) (w : World) : (Instr.index 158 (.agg (rowF f)) (.int .i64 (j : Int))).run Tryz.prog w = .ok (.int .u64 ((f j : Nat) : Int)) w := by
 (have h1 := rowF_word f j hj);(have hu := Tryz.underlying158);(have hi : (Tryz.prog.info? 33).map (·.size) = some 1 := by kernel_rfl);(obtain ⟨i, hi1, hi2⟩ := Option.map_eq_some_iff.1 hi);(have hul : (underlying 158).run Tryz.prog w = .ok _ w := run_underlying hu w);(simp only [Instr.index, asIntOf, Sem.run_bind, Sem.run_pure, Result.andThen_ok, hul]);(rw [if_pos ⟨Int.natCast_nonneg j, by omega⟩]);(simp [sizeOf, typeInfo, hi1, hi2, part, Sem.run_bind, h1])
theorem zero_row (w : World) : (zeroValue 158).run Tryz.prog w = .ok (.agg (rowF fun _ => 0)) w := by kernel_rfl

theorem info68 : (Tryz.prog.info? 158).map (·.size) = some 68 := by kernel_rfl
theorem row_end (N R : Nat) : rowF (mixW N R 68) = rowF (wd (R % B 68)) := rowF_congr fun i hi => by unfold mixW; rw [if_pos hi, wd_mod _ _ _ hi]
theorem row_next {N R j ww : Nat} (hw : ww = wd R j) : rowF (upd (mixW N R j) j ww) = rowF (mixW N R (j + 1)) := by
 (refine rowF_congr fun i _ => ?_);(unfold upd mixW)
 by_cases c : i = j
 ·rw [if_pos c, if_pos (by omega), hw, c]
 ·rw [if_neg c]
  by_cases c2 : i < j
  ·rw [if_pos c2, if_pos (by omega)]
  ·rw [if_neg c2, if_neg (by omega)]
set_option maxRecDepth 100000 in
set_option maxHeartbeats 400000 in
theorem turned_any (N : Nat) (w : World) (hN : N ≤ B 68) : Calls Tryz.prog 169 #[.agg (rowF (wd N))] w fun e w' => e = .returned (.agg (rowF (wd ((0 + B 68 - N) % B 68)))) ∧ Aside0 (Below w.heap.size w w') := by
 (have HN := Lib.hid hN);(clear hN);(obtain ⟨D, hD⟩ : ∃ D, 0 + B 68 - N = D := ⟨_, rfl⟩);(rw [hD]);(obtain ⟨cs, hcs⟩ : ∃ cs, rowF (wd N) = cs := ⟨_, rfl⟩);(obtain ⟨R, hR⟩ : ∃ R, rowF (wd (D % B 68)) = R := ⟨_, rfl⟩);(rw [hcs, hR]);(obtain ⟨zs, hzs⟩ : ∃ zs, rowF (fun _ => 0) = zs := ⟨_, rfl⟩);(have hz0 := zero_row);(rw [hzs] at hz0);(have HS : RowKit.Hid (cs.size = 68) := by rw [← hcs]; exact rowF_size _);(have HSZ : RowKit.Hid (zs.size = 68) := by rw [← hzs]; exact rowF_size _);(have HSR : RowKit.Hid (R.size = 68) := by rw [← hR]; exact rowF_size _);(have HRR := Lib.hid hR);(have HC := Lib.hid hcs);(have HI := Lib.hid info68);(have HH : Aside0 (((w.alloc (.cells cs 158)).alloc (.cells zs 158)).heap[w.heap.size]? = some (.cells cs 158 (0, 0))) := ⟨heap_alloc2_old w _ _⟩);(have HH2 : Aside0 (((w.alloc (.cells cs 158)).alloc (.cells zs 158)).heap[w.heap.size + 1]? = some (.cells zs 158 (0, 0))) := ⟨heap_alloc2_new w _ _⟩);(have HB : Aside0 (Below w.heap.size w ((w.alloc (.cells cs 158)).alloc (.cells zs 158))) := ⟨((Below.refl _ _).alloc (Nat.le_refl _) _).alloc (by simp) _⟩);(have HD := Lib.hid hD);(clear hcs hzs hR hD);(go_enter Tryz.func169, Tryz.ntmps169)
 go_wp2_with (refine wpList_load_row rfl 158 (.tmp 1) rfl w.heap.size rfl 158 cs (0, 0) _ HH.out Tryz.underlying158 rfl (by rw [HS.out]; exact HI.out) ?_)
 go_loopw [3, 7] (fun c i wr => ∃ j cc : Nat, j ≤ 68 ∧ i = .int .i64 j ∧ c = .int .u64 cc ∧ cc ≤ 1 ∧ RowKit.Hid (cc = borrow 0 N j) ∧ Aside0 (Below w.heap.size w wr) ∧ Aside0 (wr.heap[w.heap.size]? = some (.cells (rowF (mixW N D j)) 158 (0, 0))) ∧ Aside0 (wr.heap[w.heap.size + 1]? = some (.cells zs 158 (0, 0)))) (fun _ i _ => 68 - (intOf i).toNat)
 case atStart =>
  exact ⟨0, 0, by omega, rfl, rfl, by omega, (borrow_zero 0 N).symm, HB, ⟨by rw [show rowF (mixW N D 0) = cs from by rw [← HC.out]; exact rowF_congr fun i _ => by unfold mixW; rw [if_neg (by omega)]]; exact HH.out⟩, HH2⟩
 case round =>
  obtain ⟨j, cc, hj, rfl, rfl, hc1, HCC, HB2, HR1, HR2⟩ := hrel
  by_cases hlt : j < 68
  ·have hcell : wr.cell? ⟨w.heap.size, j, none⟩ = some (.int .u64 ((wd N j : Nat) : Int)) := by
    rw [blk_cell HR1.out, rowF_word _ j hlt, mixW_at]
   (have hfree : wr.frozen? ⟨w.heap.size, j, none⟩ = false := blk_frozen HR1.out j);(have hidx := fun w' => index_row (wd N) j hlt w');(rw [HC.out] at hidx);(have HW := Lib.hid (put_word_true (N := 0) (V := N) hlt HN.out HCC.out));(have HK := Lib.hid (put_carry_true (N := 0) (V := N) (j := j) HCC.out));(rw [wd_zero, HD.out] at HW);(rw [wd_zero] at HK);(have ha := fun w' => sub64_run 0 (wd N j) cc hc1 w');(obtain ⟨ww, hww⟩ : ∃ x, (0 + 18446744073709551616 - wd N j - cc) % 18446744073709551616 = x := ⟨_, rfl⟩);(obtain ⟨kk, hkk⟩ : ∃ x, (if 0 < wd N j + cc then 1 else 0) = x := ⟨_, rfl⟩);(rw [hww, hkk] at ha);(rw [hww] at HW; rw [hkk] at HK);(rw [show ((0 : Nat) : Int) = 0 from rfl] at ha);(clear hww hkk HCC);(generalize wd N j = nn at *);(go_wp2);(go_roundw)
   case rel => exact ⟨j + 1, kk, by omega, by go_num, rfl, by rw [HK.out]; exact borrow_le _ _ _, HK, ⟨HB2.out.setCell (by simp) _⟩, ⟨by rw [blk_set HR1.out, rowF_set _ j ww hlt]; rw [row_next HW.out]⟩, ⟨blk_far HR2.out (by simp) _⟩⟩
   case measure => simp [intOf]; omega
  ·obtain rfl : j = 68 := by omega
   have HE : RowKit.Hid (rowF (mixW N D 68) = R) := by
    rw [← HRR.out]; exact row_end N _
   have HR1' : Aside0 (wr.heap[w.heap.size]? = some (.cells R 158 (0, 0))) := ⟨by rw [← HE.out]; exact HR1.out⟩
   go_wp2_with (first | (refine wpList_load_row rfl 158 (.tmp 1) rfl w.heap.size rfl 158 R (0, 0) _ HR1'.out Tryz.underlying158 rfl (by rw [HSR.out]; exact HI.out) ?_) | (refine wpList_store_row rfl rfl 158 (.tmp 2) (.tmp 20) rfl (w.heap.size + 1) rfl R zs 158 rfl HR2.out (by rw [HSZ.out, HSR.out]) (by rw [HSR.out]; exact HI.out) (by rw [← HRR.out]; exact row_one _) ?_; intro w1 HG1 HG2))
   exact bodyPost_ret (results_cell_row rfl _ _ (w.heap.size + 1) 158 R (0, 0) _ rfl HG2.out Tryz.underlying158 rfl (by rw [HSR.out]; exact HI.out)) rfl ⟨rfl, ⟨HB2.out.grown HG1.out (by have := HB2.out.size; omega) (fun k hk => by injection hk with hk; omega)⟩⟩

end Go.Proofs.YtmdoljecjliehaaGreat
end

section
/- Contracts of package acc: the number nearest to a sum. -/
namespace Go.Proofs.YtmdoljecjliehaaGreat
open Go.RowKit Go.Proofs.YtmdoljecjliehaaGreatW.PrintWords Tn

theorem row_cell {w : World} {g : Nat} {f : Nat → Nat} {t : TypeId} (h : w.heap[g]? = some (.cells (rowF f) t (0, 0))) (i : Nat) (hi : i < 68) : w.cell? ⟨g, i, none⟩ = some (.int .u64 ((f i : Nat) : Int)) := by
 rw [blk_cell h]; exact rowF_word f i hi

def TopAt (q t : Nat) : Prop := q < B (t + 1) ∧ (t = 0 ∨ wd q t ≠ 0)

theorem slice_row (g n : Nat) (hn : n ≤ 66) (w : World) : (Instr.sliceAt 158 (.pointer (some ⟨g, 0, none⟩)) none (some (.int .i64 (n : Int))) none).run Tryz.prog w = .ok (.slice (some ⟨g, 0, none⟩) n 68) w := by
 (have hi : (Tryz.prog.info? 33).map (·.size) = some 1 := by kernel_rfl);(obtain ⟨i, hi1, hi2⟩ := Option.map_eq_some_iff.1 hi);(have hul : (underlying 158).run Tryz.prog w = .ok _ w := run_underlying Tryz.underlying158 w)
 have hb : (Instr.sliceBounds false 68 68 none (some (.int .i64 (n : Int))) none).run Tryz.prog w = .ok (0, n, 68) w := by
  (simp only [Instr.sliceBounds, Instr.sliceBound, asIntOf, Sem.run_bind, Sem.run_pure, Result.andThen_ok]);(rw [if_pos ⟨Int.natCast_nonneg n, by omega⟩]);(simp)
 simp [Instr.sliceAt, Instr.sureAddr, Sem.run_bind, hul, hb, sizeOf, typeInfo, hi1, hi2, Addr.add]
theorem rest_next (q j : Nat) (r0 : Bool) : (r0 || decide (q % B (j + 1) ≠ 0)) = ((r0 || decide (q % B j ≠ 0)) || decide (wd q j ≠ 0)) := by
 (have hp := B_pos j);(rw [Bool.or_assoc])
 congr 1
 rw [mod_succ, Bool.eq_iff_iff, Bool.or_eq_true, decide_eq_true_iff, decide_eq_true_iff, decide_eq_true_iff]
 rcases Nat.eq_zero_or_pos (wd q j) with h | h
 ·rw [h]; simp
 ·have : 0 < B j * wd q j := Nat.mul_pos hp h
  omega
theorem wrap_mask {r : Nat} (hr : r < 64) : IntKind.u64.wrap (IntKind.u64.wrap ((2 : Int) ^ r) - 1) = (2 : Int) ^ r - 1 := by
 (have hp := pow_le (show r ≤ 63 by omega));(rw [show 2 ^ 63 = 9223372036854775808 from by decide] at hp);(have hp0 := Nat.two_pow_pos r);(have e : (2 : Int) ^ r = ((2 ^ r : Nat) : Int) := by simp);(rw [e]);(generalize 2 ^ r = p at *);(rw [IntKind.wrap_u64, IntKind.wrap_u64]; omega)
theorem bne_nat (y : Nat) : ((y : Int) != 0) = decide (y ≠ 0) := by rw [Bool.eq_iff_iff, bne_iff_ne, decide_eq_true_iff]; omega
theorem near_or {xi xj r m : Nat} (hr : r < 64) (h : xi / 2 ^ r + (xj * 2 ^ (64 - r)) % 18446744073709551616 = m) (h1 : xi / 2 ^ r < 2 ^ (64 - r)) (h2 : (xj * 2 ^ (64 - r)) % 18446744073709551616 % 2 ^ (64 - r) = 0) :
  bits .or .u64 ((xi : Int) / 2 ^ r) (IntKind.u64.wrap ((xj : Int) * 2 ^ (64 - r))) = (m : Int) := by
 (have e0 : IntKind.u64.wrap ((xj : Int) * 2 ^ (64 - r)) = (((xj * 2 ^ (64 - r)) % 18446744073709551616 : Nat) : Int) := by rw [IntKind.wrap_u64]; simp);(rw [shr_bit, e0, ← h])
 rcases Nat.eq_zero_or_pos r with h0 | h0
 ·subst h0
  (have e1 : (xj * 2 ^ (64 - 0)) % 18446744073709551616 = 0 := by rw [Nat.sub_zero, pow_64, Nat.mul_mod_left]);(rw [e1, Nat.add_zero]);(rw [Nat.pow_zero, Nat.div_one] at h1 ⊢);(rw [Nat.sub_zero, pow_64] at h1);(have := u64_or_nat xi 0 h1 (by decide))
  rwa [Nat.or_zero] at this
 ·have hp := pow_le (show 64 - r ≤ 63 by omega)
  (rw [show 2 ^ 63 = 9223372036854775808 from by decide] at hp);(have hc : (xj * 2 ^ (64 - r)) % 18446744073709551616 < 18446744073709551616 := Nat.mod_lt _ (by decide));(have h3 := put_or ⟨64 - r, by omega, rfl⟩ h1 hc h2);(rw [u64_or_nat _ _ hc (by omega)] at h3);(rw [u64_or_nat _ _ (by omega) hc, Nat.or_comm, h3, Nat.add_comm])

set_option maxRecDepth 100000 in
set_option maxHeartbeats 4000000 in
theorem near_any (q : Nat) (more : Bool) (w : World) (hq : q < B 67) : Calls Tryz.prog 171 #[.agg (rowF (wd q)), .bool more] w fun e w' => e = .returned (.float .f64 (nearU q more)) ∧ Aside0 (Below w.heap.size w w') := by
 (have HQ := Lib.hid hq);(have HZ : RowKit.Hid (wd q 67 = 0) := wd_small hq);(clear hq);(obtain ⟨res, hres⟩ : ∃ res, nearU q more = res := ⟨_, rfl⟩);(rw [hres]);(have HRES := Lib.hid hres);(clear hres);(obtain ⟨cs, hcs⟩ : ∃ cs, rowF (wd q) = cs := ⟨_, rfl⟩);(rw [hcs]);(have HC := Lib.hid hcs);(clear hcs);(have HH : Aside0 ((w.alloc (.cells cs 158)).heap[w.heap.size]? = some (.cells (rowF (wd q)) 158 (0, 0))) := ⟨by rw [HC.out]; exact heap_alloc_new w _⟩);(have HB : Aside0 (Below w.heap.size w (w.alloc (.cells cs 158))) := ⟨(Below.refl _ _).alloc (Nat.le_refl _) _⟩);(go_enter Tryz.func171, Tryz.ntmps171)
 go_upto_block 0 with fail
 generalize w.alloc (.cells cs 158) = W at *
 go_cut [5] (fun i wx => ∃ t : Nat, t ≤ 66 ∧ i = .int .i64 t ∧ RowKit.Hid (TopAt q t) ∧ wx = W)
 case first =>
  go_wp2_with fail
  go_loopg [5] 67 (fun n i wx => n ≤ 67 ∧ i = .int .i64 n ∧ RowKit.Hid (q < B (n + 1)) ∧ wx = W)
  case atStart => exact ⟨by omega, rfl, Nat.lt_of_lt_of_le HQ.out (B_le (by omega)), rfl⟩
  case round =>
   (obtain ⟨ht, rfl, HT, rfl⟩ := hrel);(have hcell := row_cell HH.out gk (by omega));(have hfree : wr.frozen? ⟨w.heap.size, gk, none⟩ = false := blk_frozen HH.out gk)
   by_cases c0 : 0 < gk
   ·by_cases c1 : wd q gk = 0
    ·rw [c1] at hcell
     have HT' : RowKit.Hid (q < B gk) := by
      (have h1 := HT.out);(have h2 : q % B (gk + 1) = q := Nat.mod_eq_of_lt h1);(rw [mod_succ, c1, Nat.mul_zero, Nat.add_zero] at h2);(rw [← h2]; exact Nat.mod_lt _ (B_pos gk))
     (clear c1);(go_wp2)
     go_roundg (gk - 1)
     case measure => omega
     case rel => exact ⟨by omega, by go_num, by rw [show gk - 1 + 1 = gk by omega]; exact HT'.out, rfl⟩
    ·have h67 : gk ≠ 67 := by intro e; rw [e] at c1; exact c1 HZ.out
     (have HE : RowKit.Hid (TopAt q gk) := ⟨HT.out, .inr c1⟩);(have b1 : (((wd q gk : Nat) : Int) == 0) = false := beq_eq_false_iff_ne.2 (by omega));(clear c1);(generalize wd q gk = x at *);(go_wp2);(go_meet);(exact ⟨gk, by omega, rfl, HE, rfl⟩)
   ·obtain rfl : gk = 0 := by omega
    (have HE : RowKit.Hid (TopAt q 0) := ⟨HT.out, .inl rfl⟩);(go_wp2);(go_meet);(exact ⟨0, by omega, rfl, HE, rfl⟩)
 case rest =>
  (obtain ⟨t, ht, rfl, HT, rfl⟩ := hcut);(have hcell := row_cell HH.out t (by omega));(have hfree : wc.frozen? ⟨w.heap.size, t, none⟩ = false := blk_frozen HH.out t);(have HL := Lib.hid (bl_top HT.out.1 HT.out.2));(have HW := Lib.hid (wd_lt q t));(obtain ⟨k1, k2, k3⟩ := nearK_bd HQ.out);(have HKD : RowKit.Hid (nearK q = max (bl q - 53) 1074) := rfl);(have HRM : RowKit.Hid (res = nr (rneM q (nearK q) more) ((nearK q : Int) - 2148)) := HRES.out.symm);(generalize nearK q = K at *);(obtain ⟨L, hL⟩ : ∃ L, bl (wd q t) = L := ⟨_, rfl⟩);(rw [hL] at HL);(have HLE : L ≤ 64 := by rw [← hL]; exact bl_le HW.out);(have hlen := fun w' => len64_any (wd q t) HW.out w');(rw [hL] at hlen);(have HLEN := Lib.hid hlen);(clear hlen hL)
  have hmax : max (64 * (t : Int) + (L : Int) - 53) 1074 = (K : Int) := by
   (have h1 := HL.out);(have h2 := HKD.out);(omega)
  (clear HKD HL);(generalize wd q t = x at *);(obtain ⟨i, e1⟩ : ∃ i : Nat, (K : Int) / 64 = i := ⟨K / 64, by omega⟩);(obtain ⟨r, e2⟩ : ∃ r : Nat, (K : Int) % 64 = r := ⟨K % 64, by omega⟩);(obtain ⟨i1, e3⟩ : ∃ i : Nat, ((K : Int) - 1) / 64 = i := ⟨(K - 1) / 64, by omega⟩);(obtain ⟨r1, e4⟩ : ∃ r : Nat, ((K : Int) - 1) % 64 = r := ⟨(K - 1) % 64, by omega⟩);(have hi : i ≤ 66 := by omega);(have hr : r < 64 := by omega);(have hi1 : i1 ≤ 66 := by omega);(have hr1 : r1 < 64 := by omega);(have HI : RowKit.Hid (i = K / 64 ∧ r = K % 64 ∧ i1 = (K - 1) / 64 ∧ r1 = (K - 1) % 64) := ⟨by omega, by omega, by omega, by omega⟩);(have hci := row_cell HH.out i (by omega));(have hcj := row_cell HH.out (i + 1) (by omega));(have hck := row_cell HH.out i1 (by omega));(have hfi : wc.frozen? ⟨w.heap.size, i, none⟩ = false := blk_frozen HH.out _);(have hfj : wc.frozen? ⟨w.heap.size, i + 1, none⟩ = false := blk_frozen HH.out _);(have hfk : wc.frozen? ⟨w.heap.size, i1, none⟩ = false := blk_frozen HH.out _)
  have HM : RowKit.Hid (wd q i / 2 ^ r + (wd q (i + 1) * 2 ^ (64 - r)) % 18446744073709551616 = q / 2 ^ K ∧ wd q i / 2 ^ r < 2 ^ (64 - r) ∧ (wd q (i + 1) * 2 ^ (64 - r)) % 18446744073709551616 % 2 ^ (64 - r) = 0) := by
   (have := near_word (q := q) (k := K) (by omega));(rw [← HI.out.1, ← HI.out.2.1] at this; exact this)
  (have HW0 := Lib.hid (wd_lt q i));(have HW1 := Lib.hid (wd_lt q (i + 1)));(have HW2 := Lib.hid (wd_lt q i1));(have HB1 : RowKit.Hid (wd q i1 / 2 ^ r1 % 2 = q / 2 ^ (K - 1) % 2) := by rw [HI.out.2.2.1, HI.out.2.2.2]; exact near_bit q (K - 1));(have HB2 : RowKit.Hid ((decide (wd q i1 % 2 ^ r1 ≠ 0) || decide (q % B i1 ≠ 0)) = decide (q % 2 ^ (K - 1) ≠ 0)) := by rw [HI.out.2.2.1, HI.out.2.2.2]; exact near_rest q (K - 1));(generalize wd q i = xi at *);(generalize wd q (i + 1) = xj at *);(generalize wd q i1 = xk at *);(obtain ⟨m, hm⟩ : ∃ m, q / 2 ^ K = m := ⟨_, rfl⟩);(rw [hm] at k3 HM);(have HMD := Lib.hid hm);(clear hm);(have hm : bits .or .u64 ((xi : Int) / 2 ^ r) (IntKind.u64.wrap ((xj : Int) * 2 ^ (64 - r))) = (m : Int) := near_or hr HM.out.1 HM.out.2.1 HM.out.2.2);(obtain ⟨s9, hs9⟩ : ∃ s9 : Nat, (xk : Int) / 2 ^ r1 = s9 := ⟨xk / 2 ^ r1, by simp⟩)
  have h9 : bits .and .u64 ((xk : Int) / 2 ^ r1) 1 = ((xk / 2 ^ r1 % 2 : Nat) : Int) := by
   rw [shr_bit]; exact and_one_nat (Nat.lt_of_le_of_lt (Nat.div_le_self _ _) HW2.out)
  (rw [HB1.out] at h9);(have HH2 : RowKit.Hid (q / 2 ^ (K - 1) % 2 < 2) := Nat.mod_lt _ (by decide));(obtain ⟨hf, hhf⟩ : ∃ hf, q / 2 ^ (K - 1) % 2 = hf := ⟨_, rfl⟩);(rw [hhf] at h9 HH2);(have HHF := Lib.hid hhf);(clear hhf hs9 HB1)
  have h10 : bits .and .u64 (xk : Int) (IntKind.u64.wrap (IntKind.u64.wrap ((2 : Int) ^ r1) - 1)) = ((xk % 2 ^ r1 : Nat) : Int) := by
   rw [wrap_mask hr1]; exact and_low HW2.out hr1
  (obtain ⟨y, hy⟩ : ∃ y, xk % 2 ^ r1 = y := ⟨_, rfl⟩);(rw [hy] at h10);(have HY := Lib.hid hy);(clear hy)
  go_upto_region 6 with (go_at_call 225; refine (HLEN.out _).mono ?_; rintro e w' ⟨rfl, rfl⟩)
  go_upto_region 9 with fail
  go_wp2_with fail
  go_cut [11] (fun rest wx => rest = .bool (more || decide (y ≠ 0)) ∧ ∃ n, wx = wc.drewN n)
  case first =>
   cases more
   ·go_quiet (fail)
    (go_wp2);(go_meet);(exact ⟨by rw [bne_nat, Bool.false_or], _, rfl⟩)
   ·go_quiet (fail)
    (go_wp2);(go_meet);(exact ⟨rfl, _, rfl⟩)
  case rest =>
   (obtain ⟨rfl, n0, rfl⟩ := hcut);(have HBD : Aside0 (Below w.heap.size w (wc.drewN n0)) := ⟨pw_below_drewN HB.out _⟩);(have HHD : Aside0 ((wc.drewN n0).heap[w.heap.size]? = some (.cells (rowF (wd q)) 158 (0, 0))) := HH);(generalize wc.drewN n0 = W2 at *);(obtain ⟨r0, hr0⟩ : ∃ r0, (more || decide (y ≠ 0)) = r0 := ⟨_, rfl⟩);(rw [hr0]);(have HR0 := Lib.hid hr0);(clear hr0);(have hsl := fun w' => slice_row w.heap.size i1 hi1 w')
   go_wp2_with fail
   go_loopg [11, 85] i1 (fun n rest c wx => ∃ j : Nat, j + n = i1 ∧ c = .int .i64 j ∧ rest = .bool (r0 || decide (q % B j ≠ 0)) ∧ wx = W2)
   case atStart => exact ⟨0, by omega, rfl, by rw [mod_zero]; simp, rfl⟩
   case round =>
    obtain ⟨j, hj, rfl, rfl, rfl⟩ := hrel
    by_cases hlt : j < i1
    ·have hcl := row_cell HHD.out j (by omega)
     (have hfl : wr.frozen? ⟨w.heap.size, j, none⟩ = false := blk_frozen HHD.out _);(have HN := Lib.hid (rest_next q j r0));(obtain ⟨rj, hrj⟩ : ∃ rj, (r0 || decide (q % B j ≠ 0)) = rj := ⟨_, rfl⟩);(rw [hrj] at HN ⊢);(clear hrj);(generalize wd q j = z at *);(cases rj)
     ·go_wp2
      go_roundg (gk - 1)
      case measure => omega
      case rel => exact ⟨j + 1, by omega, by go_num, by rw [HN.out, Bool.false_or, bne_nat], rfl⟩
     ·go_wp2
      go_roundg (gk - 1)
      case measure => omega
      case rel => exact ⟨j + 1, by omega, by go_num, by rw [HN.out, Bool.true_or], rfl⟩
    ·obtain rfl : j = i1 := by omega
     have HR1 : RowKit.Hid ((r0 || decide (q % B j ≠ 0)) = (more || decide (q % 2 ^ (K - 1) ≠ 0))) := by
      show _ = _
      rw [← HR0.out, ← HB2.out, HY.out, Bool.or_assoc]
     (obtain ⟨r2, hr2⟩ : ∃ r2, (r0 || decide (q % B j ≠ 0)) = r2 := ⟨_, rfl⟩);(rw [hr2] at HR1 ⊢);(clear hr2);(have hmod : bits .and .u64 (m : Int) 1 = ((m % 2 : Nat) : Int) := and_one_nat (by omega));(have hfl := floatOfInt_nat m);(have hfl1 : floatOfInt .f64 ((m : Int) + 1) = nr (m + 1) 0 := floatOfInt_nat (m + 1))
     have HX : RowKit.Hid (rneM q K more = m + (if hf = 1 ∧ (r2 = true ∨ m % 2 = 1) then 1 else 0)) := by
      show _ = _
      (unfold rneM);(rw [HMD.out, HHF.out])
      congr 2
      rw [HR1.out, Bool.or_eq_true, decide_eq_true_iff, or_assoc, or_left_comm]
     (rw [HX.out] at HRM);(clear HX HR1 HRES HMD HHF HM HB2 HY hm h9 h10 hmax HT HC);(have hf01 : hf = 0 ∨ hf = 1 := by have := HH2.out; omega);(have HLD := Lib.hid (fun w' => Ldexp_all m ((K : Int) - 2148) (by omega) (by omega) (by omega) w'));(have HLD1 := Lib.hid (fun w' => Ldexp_all (m + 1) ((K : Int) - 2148) (by omega) (by omega) (by omega) w'))
     rcases hf01 with rfl | rfl
     ·rw [if_neg (by omega), Nat.add_zero] at HRM
      go_wp2_with (go_at_call 226; (with_reducible refine (HLD.out _).mono ?_); rintro e w' ⟨rfl, rfl⟩)
      (go_ret);(exact ⟨ret_f HRM.out.symm, HBD⟩)
     ·cases r2
      ·by_cases hmo : m % 2 = 1
       ·rw [if_pos ⟨rfl, .inr hmo⟩] at HRM
        (rw [hmo] at hmod);(clear hmo)
        go_wp2_with (go_at_call 226; (with_reducible refine (HLD1.out _).mono ?_); rintro e w' ⟨rfl, rfl⟩)
        (go_ret);(exact ⟨ret_f HRM.out.symm, HBD⟩)
       ·rw [if_neg (by simp [hmo])] at HRM
        (have hm0 : m % 2 = 0 := by omega);(rw [hm0] at hmod);(clear hmo hm0)
        go_wp2_with (go_at_call 226; (with_reducible refine (HLD.out _).mono ?_); rintro e w' ⟨rfl, rfl⟩)
        (go_ret);(exact ⟨ret_f HRM.out.symm, HBD⟩)
      ·rw [if_pos ⟨rfl, .inl rfl⟩] at HRM
       go_wp2_with (go_at_call 226; (with_reducible refine (HLD1.out _).mono ?_); rintro e w' ⟨rfl, rfl⟩)
       (go_ret);(exact ⟨ret_f HRM.out.symm, HBD⟩)

end Go.Proofs.YtmdoljecjliehaaGreat
end

section
/- Contracts of package acc: Over and Value. -/
namespace Go.Proofs.YtmdoljecjliehaaGreat
open Go.RowKit Go.Proofs.YtmdoljecjliehaaGreatW.PrintWords Tn

theorem wpList_load_part {P : Program} {ops : Array Oper} {rest : List Oper} {o : Oper} {a : Act} {w : World} {Q : Exit → Act → World → Prop} (hgd : o.guard = none) (ty : TypeId) (x : Operand) (ho : o.op = .load ty x)
  (g : Nat) (hx : a.eval x = .pointer (some ⟨g, 0, none⟩)) (t : TypeId) (cur cs : Array Value) (d : TypeDesc) (hg : w.heap[g]? = some (.cells cur t (0, 0))) (hcs : ∀ (j : Nat) (v : Value), cs[j]? = some v → cur[j]? = some v)
  (hu : P.underlying ty = some d) (hd : (match d with | .struct _ | .array _ _ => true | _ => false) = true) (hi : (P.info? ty).map (·.size) = some cs.size)
  (h : wpList P ops Q rest (a.put o.dst (.agg cs)) w) : wpList P ops Q (o :: rest) a w := by
 have hl : (loadCells ⟨g, 0, none⟩ cs.toList.length).run P w = .ok cs.toList.toArray w :=
  run_loadCells_list (P := P) (w := w) ⟨g, 0, none⟩ cs.toList (fun j v hv => by
   rw [add_plain, cell_of_row w g j cur t (0, 0) hg]
   exact hcs j v (by simpa using hv))
 have hrun : (loadVar ty ⟨g, 0, none⟩).run P w = .ok (.agg cs) w := by
  obtain ⟨i, hi1, hi2⟩ := Option.map_eq_some_iff.1 hi
  have hagg : (isAgg ty).run P w = .ok true w := by
   (unfold isAgg);(rw [Sem.run_bind, run_underlying hu w])
   cases d <;> simp_all
  (simp only [Array.length_toList, Array.toArray_toList] at hl);(simp [loadVar, Sem.run_bind, hagg, sizeOf, typeInfo, hi1, hi2, hl])
 (refine wpList_plain hgd fun K hK => ?_);(unfold Oper.wp execOp);(simp only [ho, hx, Instr.loadAt, Instr.sureAddr, Sem.run_bind, Sem.run_pure, Result.andThen_ok, hrun]);(exact hK _ _ h)
theorem part_row (f : Nat → Nat) (u d : Bool) : ∀ (j : Nat) (v : Value), (rowF f)[j]? = some v → (cellsF f u d)[j]? = some v := by
 intro j v h
 have hj : j < 68 := by
  rcases Nat.lt_or_ge j 68 with h1 | h1
  ·exact h1
  ·rw [Array.getElem?_eq_none (by rw [rowF_size]; exact h1)] at h; cases h
 (rw [rowF_word f j hj] at h);(rw [cellsF_word f u d j hj]; exact h)

set_option maxRecDepth 100000 in
set_option maxHeartbeats 400000 in
theorem nan_any (w : World) : Calls Tryz.prog 167 #[] w fun e w' => e = .returned (.float .f64 9221120237041090561) ∧ w = w' := by
 (go_enter Tryz.func167, Tryz.ntmps167);(go_wp2);(go_ret);(exact ⟨rfl, rfl⟩)

set_option maxRecDepth 100000 in
set_option maxHeartbeats 400000 in
theorem infm_any (w : World) : Calls Tryz.prog 168 #[.int .i64 (-1)] w fun e w' => e = .returned (.float .f64 18442240474082181120) ∧ w = w' := by
 (go_enter Tryz.func168, Tryz.ntmps168);(go_wp2);(go_ret);(exact ⟨rfl, rfl⟩)

def DivBy (n : Nat) : Prop := ∀ (hi lo : Nat) (w : World), hi < n → lo < 18446744073709551616 →
  Calls Tryz.prog 170 #[.int .u64 hi, .int .u64 lo, .int .u64 n] w fun e w' => e = .returned (.tuple #[.int .u64 (((hi * 18446744073709551616 + lo) / n : Nat) : Int), .int .u64 (((hi * 18446744073709551616 + lo) % n : Nat) : Int)]) ∧ Aside0 (∃ k, w' = w.drewN k)

theorem ret_uu {k : IntKind} {a b c d : Int} (h : a = b) (h2 : c = d) : Ending.returned (.tuple #[.int k a, .int k c]) = Ending.returned (.tuple #[.int k b, .int k d]) := by rw [h, h2]
theorem neg_run {x y : Nat} (w : World) (h : x ^^^ 9223372036854775808 = y) : (Op.unary .neg (.float .f64 x)).run Tryz.prog w = .ok (.float .f64 y) w := by
 rw [← h]; rfl
theorem zc_size : Tryz.zeroCells158.size = 68 := by kernel_rfl

set_option maxRecDepth 100000 in
set_option maxHeartbeats 400000 in
theorem div64_low (lo n : Nat) (w : World) (h : lo < 18446744073709551616) (hn : 1 ≤ n) : Calls Tryz.prog 170 #[.int .u64 0, .int .u64 lo, .int .u64 n] w fun e w' => e = .returned (.tuple #[.int .u64 ((lo / n : Nat) : Int), .int .u64 ((lo % n : Nat) : Int)]) ∧ Aside0 (∃ k, w' = w.drewN k) := by
 (have b0 : ((n : Int) == 0) = false := beq_eq_false_iff_ne.2 (by omega));(have b1 : decide ((n : Int) ≤ 0) = false := decide_eq_false (by omega));(have b2 : (n : Int) ≠ 0 := by omega);(have b3 : (0 : Int) ≤ n := by omega);(have b4 : (0 : Int) < n := by omega);(have b5 : ¬ (n : Int) ≤ 0 := by omega)
 have hq : IntKind.u64.wrap ((lo : Int) / (n : Int)) = ((lo / n : Nat) : Int) := by
  (have h1 : lo / n < 18446744073709551616 := Nat.lt_of_le_of_lt (Nat.div_le_self _ _) h);(rw [← Int.natCast_ediv]; exact wrap_u64_nat h1)
 (have hr : (lo : Int) % (n : Int) = ((lo % n : Nat) : Int) := (Int.natCast_emod _ _).symm);(generalize lo / n = A at *);(generalize lo % n = R at *);(have H := Lib.hid h);(clear h);(go_enter Tryz.func170, Tryz.ntmps170);(go_wp2)
 go_quiet (fail)
 (go_wp2);(go_ret2);(exact ⟨ret_uu rfl hr, ⟨_, rfl⟩⟩)

theorem divBy_one : DivBy 1 := fun hi lo w h hlo => by
 (obtain rfl : hi = 0 := by omega);(have := div64_low lo 1 w hlo (by omega));(rw [Nat.zero_mul, Nat.zero_add]);(exact this)
theorem div_start (M n : Nat) : rowF (divW M n 68) = rowF (wd M) := rowF_congr fun i hi => by unfold divW; rw [if_neg (by omega)]
theorem div_end (M n : Nat) : rowF (divW M n 0) = rowF (wd (M / n)) := rowF_congr fun i _ => by unfold divW; rw [if_pos (by omega)]
theorem div_next {M n j v : Nat} (hv : v = wd (M / n) j) : rowF (upd (divW M n (j + 1)) j v) = rowF (divW M n j) := by
 (refine rowF_congr fun i _ => ?_);(unfold upd divW)
 by_cases c : i = j
 ·rw [if_pos c, if_pos (by omega), hv, c]
 ·rw [if_neg c]
  by_cases c2 : j ≤ i
  ·rw [if_pos c2, if_pos (by omega)]
  ·rw [if_neg c2, if_neg (by omega)]
theorem grown_drewN (w : World) (k : Nat) (row : Option Nat) : w.grownBy (w.drewN k) row := ⟨rfl, rfl, rfl, Nat.le_refl _, fun _ _ _ => rfl⟩
theorem divW_at (M n j : Nat) : divW M n (j + 1) j = wd M j := by unfold divW; rw [if_neg (by omega)]

set_option maxRecDepth 100000 in
set_option maxHeartbeats 2000000 in
theorem over_neg (b n : Nat) (Z : Int) (w : World) (h : accZ w b Z false false) (hn0 : 1 ≤ n) (hn1 : n < 9223372036854775808) (hZ : Z.natAbs < B 67) (hD : DivBy n) (hs : Z < 0) :
  Calls Tryz.prog 101 #[.pointer (some ⟨b, 0, none⟩), .int .i64 n] w fun e w' => e = .returned (.tuple #[.float .f64 (overV Z false false n), .bool true]) ∧ Aside0 (Below w.heap.size w w') := by
 (have hsg := below_sign hZ);(rw [decide_eq_true hs] at hsg);(obtain ⟨res, hres⟩ : ∃ res, nearU (Z.natAbs / n) (decide (Z.natAbs % n ≠ 0)) = res := ⟨_, rfl⟩)
 have HO : RowKit.Hid (overV Z false false n = 9223372036854775808 + res) := by
  show overV Z false false n = _
  (unfold overV);(rw [if_neg (by simp), if_neg (by simp), if_neg (by simp), hres]);(rw [if_pos hs])
 (have HXR : RowKit.Hid (res ^^^ 9223372036854775808 = 9223372036854775808 + res) := by rw [← hres]; exact xor_sign (nearU_le _ _));(have HR := Lib.hid hres);(have HA := Aside0.mk h);(have hb := blk_lt h);(have HZ := Lib.hid hZ);(have HM := Lib.hid (modB_neg hZ hs));(clear h hZ hres hs);(have h68 := accF.up HA.out);(have h69 := accF.down HA.out);(have HI := Lib.hid info68);(have HDIV := Lib.hid hD);(clear hD);(have HNL : RowKit.Hid (modB Z ≤ B 68) := Nat.le_of_lt (modB_lt Z));(have HML : RowKit.Hid (Z.natAbs < B 68) := Nat.lt_of_lt_of_le HZ.out (B_le (by omega)));(obtain ⟨M, hM⟩ : ∃ M, Z.natAbs = M := ⟨_, rfl⟩);(rw [hM] at HR HM HML HZ);(clear hM);(obtain ⟨N, hN⟩ : ∃ N, modB Z = N := ⟨_, rfl⟩);(have HA2 : Aside0 (w.heap[b]? = some (.cells (cellsF (wd N) false false) 160 (0, 0))) := ⟨by rw [← hN]; exact HA.out⟩);(have HBA := Lib.hid (fun w' (hh : accZ w' b Z false false) => below_any b (modB Z) false false w' hh));(rw [hN] at HM HNL);(rw [hN] at hsg);(rw [hN] at HBA);(have HBEL := Lib.hid hsg);(have HAB : Aside0 (∀ w' row, w.grownBy w' row → some b ≠ row → accZ w' b Z false false) := ⟨fun w' row hg hr => by unfold accZ acc accF; rw [hg.block b hb hr]; exact HA.out⟩);(have hbx : some b ≠ some w.heap.size := by intro e; injection e with e; omega);(have HBX := Lib.hid hbx);(have HSZ := Lib.hid zc_size);(clear hN hsg hbx);(go_enter Tryz.func101, Tryz.ntmps101)
 go_wp2_with (first
  | (refine wpList_load_part rfl 158 (.tmp 39) rfl b rfl 160 (cellsF (wd N) false false) (rowF (wd N)) _ HA2.out (part_row _ _ _) Tryz.underlying158 rfl (by rw [rowF_size]; exact HI.out) ?_)
  | (refine wpList_store_row rfl rfl 158 (.tmp 6) (.tmp 40) rfl w.heap.size rfl (rowF (wd N)) Tryz.zeroCells158 158 rfl (heap_alloc_new w _) (by rw [rowF_size]; exact HSZ.out) (by rw [rowF_size]; exact HI.out) (row_one _) ?_; intro w1 HG1 HG2; have HW1 : Aside0 (w.grownBy w1 (some w.heap.size)) := ⟨(World.grownBy_alloc w _ _).trans HG1.out⟩; clear HG1)
  | (go_at_call 103; refine (HBA.out _ (HAB.out _ _ HW1.out HBX.out)).mono ?_; rintro e w' ⟨rfl, rfl⟩; rw [HBEL.out])
  | (refine wpList_load_row rfl 158 (.tmp 6) rfl w.heap.size rfl 158 (rowF (wd N)) (0, 0) _ HG2.out Tryz.underlying158 rfl (by rw [rowF_size]; exact HI.out) ?_)
  | (go_at_call 169; refine (turned_any N _ HNL.out).mono ?_; rintro e w2 ⟨rfl, HT2⟩; rw [HM.out]; have HW2 : Aside0 (w.grownBy w2 (some w.heap.size)) := ⟨HW1.out.trans (grown_of_below HT2.out _)⟩; have HG3 : Aside0 (w2.heap[w.heap.size]? = some (.cells (rowF (wd N)) 158 (0, 0))) := ⟨blk_below HG2.out HT2.out⟩; clear HT2)
  | (refine wpList_store_row rfl rfl 158 (.tmp 6) (.tmp 44) rfl w.heap.size rfl (rowF (wd M)) (rowF (wd N)) 158 rfl HG3.out (by rw [rowF_size, rowF_size]) (by rw [rowF_size]; exact HI.out) (row_one _) ?_; intro w3 HG4 HG5; have HW3 : Aside0 (w.grownBy w3 (some w.heap.size)) := ⟨HW2.out.trans HG4.out⟩; clear HG4))
 clear HA2 HG2
 go_loopg [7, 8] 68 (fun g rr ii wr => g ≤ 68 ∧ ii = .int .i64 ((g : Int) - 1) ∧ rr = .int .u64 ((M / B g % n : Nat) : Int) ∧ Aside0 (w.grownBy wr (some w.heap.size)) ∧ Aside0 (wr.heap[w.heap.size]? = some (.cells (rowF (divW M n g)) 158 (0, 0))))
 case atStart =>
  exact ⟨Nat.le_refl _, rfl, by rw [Nat.div_eq_of_lt HML.out, Nat.zero_mod]; rfl, HW3, ⟨by rw [div_start]; exact HG5.out⟩⟩
 case round =>
  (obtain ⟨hg, rfl, rfl, HWR, HXC⟩ := hrel);(clear HW3 HG5);(have hwn : IntKind.u64.wrap (n : Int) = n := wrap_u64_nat (by omega))
  cases gk with
  | succ j =>
   (rw [show ((j + 1 : Nat) : Int) - 1 = (j : Int) by omega]);(have hcell := row_cell HXC.out j (by omega));(rw [divW_at] at hcell);(have hfree : wr.frozen? ⟨w.heap.size, j, none⟩ = false := blk_frozen HXC.out j);(have hds := div_step M n j (by omega));(have hdv : ((M / B (j + 1) % n) * 18446744073709551616 + wd M j) / n = wd (M / n) j := by rw [← hds.1, Nat.mod_eq_of_lt hds.2.2]);(have hdc := fun w' => HDIV.out (M / B (j + 1) % n) (wd M j) w' (Nat.mod_lt _ (by omega)) (wd_lt M j));(rw [hdv, hds.2.1] at hdc);(have HDC := Lib.hid hdc);(clear hdc hdv hds);(obtain ⟨v, hv⟩ : ∃ v, wd (M / n) j = v := ⟨_, rfl⟩);(rw [hv] at HDC);(have HV := Lib.hid hv);(clear hv);(obtain ⟨r1, hr1⟩ : ∃ r, M / B (j + 1) % n = r := ⟨_, rfl⟩);(rw [hr1] at HDC ⊢);(clear hr1);(obtain ⟨r0, hr0⟩ : ∃ r, M / B j % n = r := ⟨_, rfl⟩);(rw [hr0] at HDC);(have HR0 := Lib.hid hr0);(clear hr0);(generalize wd M j = lo at *)
   go_wp2_with (go_at_call 170; refine (HDC.out _).mono ?_; rintro e w' ⟨rfl, ⟨⟨kd, rfl⟩⟩⟩)
   go_roundg j
   case measure => omega
   case rel => exact ⟨by omega, by go_num, by rw [HR0.out], ⟨HWR.out.trans ((grown_drewN _ _ _).trans (grown_set _ _ j _))⟩, ⟨by rw [blk_set (blk_drewN HXC.out _), rowF_set _ j v (by omega), div_next HV.out.symm]⟩⟩
  | zero =>
   (have hmore : (((M / B 0 % n : Nat) : Int) != 0) = decide (M % n ≠ 0) := by rw [B_zero, Nat.div_one]; exact bne_nat _);(have HNE := Lib.hid (fun w' => near_any (M / n) (decide (M % n ≠ 0)) w' (Nat.lt_of_le_of_lt (Nat.div_le_self _ _) HZ.out)));(rw [HR.out] at HNE);(obtain ⟨mb, hmb⟩ : ∃ mb, decide (M % n ≠ 0) = mb := ⟨_, rfl⟩);(rw [hmb] at hmore HNE);(clear hmb);(obtain ⟨r0, hr0⟩ : ∃ r, M / B 0 % n = r := ⟨_, rfl⟩);(rw [hr0] at hmore ⊢);(clear hr0);(have HXD : Aside0 (wr.heap[w.heap.size]? = some (.cells (rowF (wd (M / n))) 158 (0, 0))) := ⟨by rw [← div_end]; exact HXC.out⟩);(have hxor := fun w' => neg_run w' HXR.out)
   go_wp2_with (first
    | (refine wpList_load_row rfl 158 (.tmp 6) rfl w.heap.size rfl 158 (rowF (wd (M / n))) (0, 0) _ HXD.out Tryz.underlying158 rfl (by rw [rowF_size]; exact HI.out) ?_)
    | (go_at_call 171; refine (HNE.out _).mono ?_; rintro e w5 ⟨rfl, HN5⟩; have HW5 : Aside0 (w.grownBy w5 (some w.heap.size)) := ⟨HWR.out.trans (grown_of_below HN5.out _)⟩)
    | (go_at_call 103; refine (HBA.out _ (HAB.out _ _ HW5.out HBX.out)).mono ?_; rintro e w' ⟨rfl, rfl⟩; rw [HBEL.out]))
   (go_ret2);(exact ⟨by rw [HO.out]; rfl, ⟨(Below.refl _ _).grown HW5.out (Nat.le_refl _) (fun k hk => by injection hk with hk; omega)⟩⟩)

set_option maxRecDepth 100000 in
set_option maxHeartbeats 2000000 in
theorem over_pos (b n : Nat) (Z : Int) (w : World) (h : accZ w b Z false false) (hn0 : 1 ≤ n) (hn1 : n < 9223372036854775808) (hZ : Z.natAbs < B 67) (hD : DivBy n) (hs : ¬ Z < 0) :
  Calls Tryz.prog 101 #[.pointer (some ⟨b, 0, none⟩), .int .i64 n] w fun e w' => e = .returned (.tuple #[.float .f64 (overV Z false false n), .bool true]) ∧ Aside0 (Below w.heap.size w w') := by
 (have hsg := below_sign hZ);(rw [decide_eq_false hs] at hsg);(obtain ⟨res, hres⟩ : ∃ res, nearU (Z.natAbs / n) (decide (Z.natAbs % n ≠ 0)) = res := ⟨_, rfl⟩)
 have HO : RowKit.Hid (overV Z false false n = res) := by
  show overV Z false false n = _
  (unfold overV);(rw [if_neg (by simp), if_neg (by simp), if_neg (by simp), hres]);(rw [if_neg hs, Nat.zero_add])
 (have HXR : RowKit.Hid (True) := trivial);(have HR := Lib.hid hres);(have HA := Aside0.mk h);(have hb := blk_lt h);(have HZ := Lib.hid hZ);(have HM := Lib.hid (modB_posi hZ (by omega)));(clear h hZ hres hs);(have h68 := accF.up HA.out);(have h69 := accF.down HA.out);(have HI := Lib.hid info68);(have HDIV := Lib.hid hD);(clear hD);(have HNL : RowKit.Hid (modB Z ≤ B 68) := Nat.le_of_lt (modB_lt Z));(have HML : RowKit.Hid (Z.natAbs < B 68) := Nat.lt_of_lt_of_le HZ.out (B_le (by omega)));(obtain ⟨M, hM⟩ : ∃ M, Z.natAbs = M := ⟨_, rfl⟩);(rw [hM] at HR HM HML HZ);(clear hM);(obtain ⟨N, hN⟩ : ∃ N, modB Z = N := ⟨_, rfl⟩);(have HA2 : Aside0 (w.heap[b]? = some (.cells (cellsF (wd N) false false) 160 (0, 0))) := ⟨by rw [← hN]; exact HA.out⟩);(have HBA := Lib.hid (fun w' (hh : accZ w' b Z false false) => below_any b (modB Z) false false w' hh));(rw [hN] at HM HNL);(rw [hN] at hsg);(rw [hN] at HBA);(have HBEL := Lib.hid hsg);(have HAB : Aside0 (∀ w' row, w.grownBy w' row → some b ≠ row → accZ w' b Z false false) := ⟨fun w' row hg hr => by unfold accZ acc accF; rw [hg.block b hb hr]; exact HA.out⟩);(have hbx : some b ≠ some w.heap.size := by intro e; injection e with e; omega);(have HBX := Lib.hid hbx);(have HSZ := Lib.hid zc_size);(clear hN hsg hbx);(go_enter Tryz.func101, Tryz.ntmps101)
 go_wp2_with (first
  | (refine wpList_load_part rfl 158 (.tmp 39) rfl b rfl 160 (cellsF (wd N) false false) (rowF (wd N)) _ HA2.out (part_row _ _ _) Tryz.underlying158 rfl (by rw [rowF_size]; exact HI.out) ?_)
  | (refine wpList_store_row rfl rfl 158 (.tmp 6) (.tmp 40) rfl w.heap.size rfl (rowF (wd N)) Tryz.zeroCells158 158 rfl (heap_alloc_new w _) (by rw [rowF_size]; exact HSZ.out) (by rw [rowF_size]; exact HI.out) (row_one _) ?_; intro w1 HG1 HG2; have HW1 : Aside0 (w.grownBy w1 (some w.heap.size)) := ⟨(World.grownBy_alloc w _ _).trans HG1.out⟩; clear HG1)
  | (go_at_call 103; refine (HBA.out _ (HAB.out _ _ HW1.out HBX.out)).mono ?_; rintro e w' ⟨rfl, rfl⟩; rw [HBEL.out]))
 (have HW3 := HW1);(have HG5 := HG2);(rw [HM.out] at HG5);(clear HA2 HG2)
 go_loopg [7, 8] 68 (fun g rr ii wr => g ≤ 68 ∧ ii = .int .i64 ((g : Int) - 1) ∧ rr = .int .u64 ((M / B g % n : Nat) : Int) ∧ Aside0 (w.grownBy wr (some w.heap.size)) ∧ Aside0 (wr.heap[w.heap.size]? = some (.cells (rowF (divW M n g)) 158 (0, 0))))
 case atStart =>
  exact ⟨Nat.le_refl _, rfl, by rw [Nat.div_eq_of_lt HML.out, Nat.zero_mod]; rfl, HW3, ⟨by rw [div_start]; exact HG5.out⟩⟩
 case round =>
  (obtain ⟨hg, rfl, rfl, HWR, HXC⟩ := hrel);(clear HW3 HG5);(have hwn : IntKind.u64.wrap (n : Int) = n := wrap_u64_nat (by omega))
  cases gk with
  | succ j =>
   (rw [show ((j + 1 : Nat) : Int) - 1 = (j : Int) by omega]);(have hcell := row_cell HXC.out j (by omega));(rw [divW_at] at hcell);(have hfree : wr.frozen? ⟨w.heap.size, j, none⟩ = false := blk_frozen HXC.out j);(have hds := div_step M n j (by omega));(have hdv : ((M / B (j + 1) % n) * 18446744073709551616 + wd M j) / n = wd (M / n) j := by rw [← hds.1, Nat.mod_eq_of_lt hds.2.2]);(have hdc := fun w' => HDIV.out (M / B (j + 1) % n) (wd M j) w' (Nat.mod_lt _ (by omega)) (wd_lt M j));(rw [hdv, hds.2.1] at hdc);(have HDC := Lib.hid hdc);(clear hdc hdv hds);(obtain ⟨v, hv⟩ : ∃ v, wd (M / n) j = v := ⟨_, rfl⟩);(rw [hv] at HDC);(have HV := Lib.hid hv);(clear hv);(obtain ⟨r1, hr1⟩ : ∃ r, M / B (j + 1) % n = r := ⟨_, rfl⟩);(rw [hr1] at HDC ⊢);(clear hr1);(obtain ⟨r0, hr0⟩ : ∃ r, M / B j % n = r := ⟨_, rfl⟩);(rw [hr0] at HDC);(have HR0 := Lib.hid hr0);(clear hr0);(generalize wd M j = lo at *)
   go_wp2_with (go_at_call 170; refine (HDC.out _).mono ?_; rintro e w' ⟨rfl, ⟨⟨kd, rfl⟩⟩⟩)
   go_roundg j
   case measure => omega
   case rel => exact ⟨by omega, by go_num, by rw [HR0.out], ⟨HWR.out.trans ((grown_drewN _ _ _).trans (grown_set _ _ j _))⟩, ⟨by rw [blk_set (blk_drewN HXC.out _), rowF_set _ j v (by omega), div_next HV.out.symm]⟩⟩
  | zero =>
   (have hmore : (((M / B 0 % n : Nat) : Int) != 0) = decide (M % n ≠ 0) := by rw [B_zero, Nat.div_one]; exact bne_nat _);(have HNE := Lib.hid (fun w' => near_any (M / n) (decide (M % n ≠ 0)) w' (Nat.lt_of_le_of_lt (Nat.div_le_self _ _) HZ.out)));(rw [HR.out] at HNE);(obtain ⟨mb, hmb⟩ : ∃ mb, decide (M % n ≠ 0) = mb := ⟨_, rfl⟩);(rw [hmb] at hmore HNE);(clear hmb);(obtain ⟨r0, hr0⟩ : ∃ r, M / B 0 % n = r := ⟨_, rfl⟩);(rw [hr0] at hmore ⊢);(clear hr0);(have HXD : Aside0 (wr.heap[w.heap.size]? = some (.cells (rowF (wd (M / n))) 158 (0, 0))) := ⟨by rw [← div_end]; exact HXC.out⟩)
   go_wp2_with (first
    | (refine wpList_load_row rfl 158 (.tmp 6) rfl w.heap.size rfl 158 (rowF (wd (M / n))) (0, 0) _ HXD.out Tryz.underlying158 rfl (by rw [rowF_size]; exact HI.out) ?_)
    | (go_at_call 171; refine (HNE.out _).mono ?_; rintro e w5 ⟨rfl, HN5⟩; have HW5 : Aside0 (w.grownBy w5 (some w.heap.size)) := ⟨HWR.out.trans (grown_of_below HN5.out _)⟩)
    | (go_at_call 103; refine (HBA.out _ (HAB.out _ _ HW5.out HBX.out)).mono ?_; rintro e w' ⟨rfl, rfl⟩; rw [HBEL.out]))
   (go_ret2);(exact ⟨by rw [HO.out]; rfl, ⟨(Below.refl _ _).grown HW5.out (Nat.le_refl _) (fun k hk => by injection hk with hk; omega)⟩⟩)

set_option maxRecDepth 100000 in
set_option maxHeartbeats 400000 in
theorem over_any (b n : Nat) (Z : Int) (u d : Bool) (w : World) (h : accZ w b Z u d) (hn0 : 1 ≤ n) (hn1 : n < 9223372036854775808) (hZ : Z.natAbs < B 67) (hD : DivBy n) :
  Calls Tryz.prog 101 #[.pointer (some ⟨b, 0, none⟩), .int .i64 n] w fun e w' => e = .returned (.tuple #[.float .f64 (overV Z u d n), .bool true]) ∧ Aside0 (Below w.heap.size w w') := by
 by_cases hu : u = false ∧ d = false
 ·obtain ⟨rfl, rfl⟩ := hu
  by_cases hs : Z < 0
  ·exact over_neg b n Z w h hn0 hn1 hZ hD hs
  ·exact over_pos b n Z w h hn0 hn1 hZ hD hs
 ·have h68 := accF.up h
  (have h69 := accF.down h);(clear h hD hZ)
  cases u <;> cases d
  ·exact absurd ⟨rfl, rfl⟩ hu
  all_goals
   (clear hu);(go_enter Tryz.func101, Tryz.ntmps101)
   go_wp2_with (first | (go_at_call 167; refine (nan_any _).mono ?_; rintro e w' ⟨rfl, rfl⟩) | (go_at_call 168; refine (infm_any _).mono ?_; rintro e w' ⟨rfl, rfl⟩) | (go_at_call 168; refine (inf1_any _).mono ?_; rintro e w' ⟨rfl, rfl⟩))
   (go_ret2);(exact ⟨rfl, ⟨Below.refl _ _⟩⟩)

set_option maxRecDepth 100000 in
set_option maxHeartbeats 400000 in
theorem value_any (b : Nat) (Z : Int) (u d : Bool) (w : World) (h : accZ w b Z u d) (hZ : Z.natAbs < B 67) :
  Calls Tryz.prog 44 #[.pointer (some ⟨b, 0, none⟩)] w fun e w' => e = .returned (.float .f64 (overV Z u d 1)) ∧ Aside0 (Below w.heap.size w w') := by
 (have HO := Lib.hid (over_any b 1 Z u d w h (by omega) (by omega) hZ divBy_one));(clear h hZ);(obtain ⟨res, hres⟩ : ∃ res, overV Z u d 1 = res := ⟨_, rfl⟩);(rw [hres] at HO ⊢);(clear hres);(go_enter Tryz.func44, Tryz.ntmps44)
 go_wp2_with (go_at_call 101; refine HO.out.mono ?_; rintro e w' ⟨rfl, HB⟩)
 (go_ret);(exact ⟨rfl, HB⟩)

end Go.Proofs.YtmdoljecjliehaaGreat
end

section
/- Contracts of package acc: products. -/
namespace Go.Proofs.YtmdoljecjliehaaGreat
open Go.RowKit Go.Proofs.YtmdoljecjliehaaGreatW.PrintWords Tn

def unitsP (x y : Nat) : Int := spm x * spm y * 2 ^ (spe x + spe y + 2148).toNat
theorem unitsP_none {x y : Nat} (h : spm x = 0 ∨ spm y = 0) : unitsP x y = 0 := by
 unfold unitsP
 rcases h with h | h
 ·rw [h, Int.zero_mul, Int.zero_mul]
 ·rw [h, Int.mul_zero, Int.zero_mul]
theorem unitsP_put (x y : Nat) : ∃ k r : Nat, k ≤ 65 ∧ r < 64 ∧ spe x + spe y + 2148 = ((64 * k + r : Nat) : Int) ∧ putV ((spm x).natAbs * (spm y).natAbs / 18446744073709551616) ((spm x).natAbs * (spm y).natAbs % 18446744073709551616) k r = (unitsP x y).natAbs := by
 (obtain ⟨h1, h2⟩ := spe_bd x);(obtain ⟨h3, h4⟩ := spe_bd y);(refine ⟨(spe x + spe y + 2148).toNat / 64, (spe x + spe y + 2148).toNat % 64, by omega, by omega, by omega, ?_⟩);(unfold unitsP putV B);(rw [Nat.mul_comm _ 18446744073709551616, Nat.div_add_mod, Nat.mul_assoc, ← Nat.pow_add, show (spe x + spe y + 2148).toNat % 64 + 64 * ((spe x + spe y + 2148).toNat / 64) = (spe x + spe y + 2148).toNat by omega]);(rw [Int.natAbs_mul, Int.natAbs_mul, Int.natAbs_pow]; rfl)
theorem unitsP_pos {x y : Nat} (h : decide (spm x < 0) = decide (spm y < 0)) : ((unitsP x y).natAbs : Int) = unitsP x y := by
 have h0 : 0 ≤ unitsP x y := by
  (unfold unitsP);(refine Int.mul_nonneg ?_ (Int.le_of_lt (Int.pow_pos (by decide))))
  by_cases c : spm x < 0
  ·rw [decide_eq_true c] at h
   exact Int.mul_nonneg_of_nonpos_of_nonpos (by omega) (by have := of_decide_eq_true h.symm; omega)
  ·rw [decide_eq_false c] at h
   exact Int.mul_nonneg (by omega) (by have := of_decide_eq_false h.symm; omega)
 omega
theorem unitsP_neg {x y : Nat} (h : decide (spm x < 0) = !decide (spm y < 0)) : -((unitsP x y).natAbs : Int) = unitsP x y := by
 have h0 : unitsP x y ≤ 0 := by
  (unfold unitsP);(refine Int.mul_nonpos_of_nonpos_of_nonneg ?_ (Int.le_of_lt (Int.pow_pos (by decide))))
  by_cases c : spm x < 0
  ·rw [decide_eq_true c] at h
   exact Int.mul_nonpos_of_nonpos_of_nonneg (by omega) (by have := of_decide_eq_false (p := spm y < 0) (by simpa using h.symm); omega)
  ·rw [decide_eq_false c] at h
   exact Int.mul_nonpos_of_nonneg_of_nonpos (by omega) (by have := of_decide_eq_true (p := spm y < 0) (by simpa using h.symm); omega)
 omega
theorem natAbs_mul_lt {a b : Nat} (ha : a < 9007199254740992) (hb : b < 9007199254740992) : a * b / 18446744073709551616 < 18446744073709551616 := by
 (have := Nat.mul_lt_mul'' ha hb);(omega)
theorem put_add_is {b : Nat} {Z : Int} {u d : Bool} {hi lo k r : Nat} {U : Int} {w' : World} (h : acc w' b ((modB Z + putV hi lo k r) % B 68) u d) (hU : ((putV hi lo k r : Nat) : Int) = U) : accZ w' b (Z + U) u d := by
 rw [modB_add, hU] at h; exact h
theorem put_sub_is {b : Nat} {Z : Int} {u d : Bool} {hi lo k r : Nat} {U : Int} {w' : World} (h : acc w' b ((modB Z + B 68 - putV hi lo k r) % B 68) u d) (hV : putV hi lo k r ≤ B 68) (hU : -((putV hi lo k r : Nat) : Int) = U) : accZ w' b (Z + U) u d := by
 (rw [modB_sub _ _ hV] at h);(rw [← hU, ← Int.sub_eq_add_neg]; exact h)

set_option maxRecDepth 100000 in
set_option maxHeartbeats 1600000 in
theorem prod_fin (b x y : Nat) (Z : Int) (u d : Bool) (w : World) (h : accZ w b Z u d) (hx : x < 18446744073709551616) (hy : y < 18446744073709551616) (hf : fin x = true) (hg : fin y = true) :
  Calls Tryz.prog 93 #[.pointer (some ⟨b, 0, none⟩), .float .f64 x, .float .f64 y] w fun e w' => e = .returned (.tuple #[]) ∧ Aside0 (w.grownBy w' (some b)) ∧ Aside0 (accZ w' b (Z + unitsP x y) u d) := by
 (obtain ⟨hm1, hm2⟩ := spm_bd x);(obtain ⟨hm3, hm4⟩ := spm_bd y);(have HM : RowKit.Hid (-9223372036854775808 ≤ spm x ∧ spm x < 9223372036854775808) := ⟨by omega, by omega⟩);(have HM' : RowKit.Hid (-9223372036854775808 ≤ spm y ∧ spm y < 9223372036854775808) := ⟨by omega, by omega⟩);(have HA := Aside0.mk h);(have H := Lib.hid hx);(have H' := Lib.hid hy);(clear h hx hy)
 by_cases h0 : spm x = 0 ∨ spm y = 0
 ·have HZ := Lib.hid (unitsP_none h0)
  (have HS := split_any x H.out);(rw [hf] at HS);(have HS' := Aside0.mk HS);(have HT := split_any y H'.out);(rw [hg] at HT);(have HT' := Aside0.mk HT)
  have b0 : ((spm x != 0) = true ∧ (spm y != 0) = false) ∨ (spm x != 0) = false := by
   by_cases c : spm x = 0
   ·exact .inr (by simp [c])
   ·exact .inl ⟨bne_iff_ne.2 c, by rcases h0 with h0 | h0; exact absurd h0 c; simp [h0]⟩
  (clear HS HT hf hg hm1 hm2 hm3 hm4 HM HM' h0);(generalize unitsP x y = U at *);(generalize spm x = m at *);(generalize spm y = n at *);(generalize spe x = q at *);(generalize spe y = p at *)
  rcases b0 with ⟨b0, b1⟩ | b0
  all_goals
   go_enter Tryz.func93, Tryz.ntmps93
   go_wp2_with (go_at_call 153; first | (with_reducible refine (HS'.out _).mono ?_; rintro e w' ⟨rfl, rfl⟩) | (with_reducible refine (HT'.out _).mono ?_; rintro e w' ⟨rfl, rfl⟩))
   (go_end0);(exact ⟨rfl, ⟨World.grownBy.refl _ _⟩, ⟨by rw [HZ.out, Int.add_zero]; exact HA.out⟩⟩)
 rcases Int.lt_or_le (spm x) 0 with sx | sx
 ·rcases Int.lt_or_le (spm y) 0 with sy | sy
  ·have b2 : decide (spm x < 0) = true := decide_eq_true (by omega)
   (have b3 : decide (spm y < 0) = true := decide_eq_true (by omega));(have b0 : (spm x != 0) = true := bne_iff_ne.2 (by omega));(have b1 : (spm y != 0) = true := bne_iff_ne.2 (by omega));(have hU0 := unitsP_pos (x := x) (y := y) (by rw [b2, b3]));(obtain ⟨k, r, hk, hr, he, hu⟩ := unitsP_put x y);(rw [← hu] at hU0);(have hxa : (spm x).natAbs < 18446744073709551616 := by omega);(have hya : (spm y).natAbs < 18446744073709551616 := by omega);(have hlt : (spm x).natAbs * (spm y).natAbs / 18446744073709551616 < 18446744073709551616 := natAbs_mul_lt (by omega) (by omega));(have hlo : (spm x).natAbs * (spm y).natAbs % 18446744073709551616 < 18446744073709551616 := Nat.mod_lt _ (by decide));(have HMUL := Aside0.mk (Tryz.bits_Mul64 _ _ hxa hya));(have HX := Lib.hid hxa);(have HY := Lib.hid hya);(clear hu hxa hya);(obtain ⟨hi, hhi⟩ : ∃ hi, (spm x).natAbs * (spm y).natAbs / 18446744073709551616 = hi := ⟨_, rfl⟩);(obtain ⟨lo, hhl⟩ : ∃ lo, (spm x).natAbs * (spm y).natAbs % 18446744073709551616 = lo := ⟨_, rfl⟩);(rw [hhi, hhl] at HMUL hU0);(rw [hhi] at hlt);(rw [hhl] at hlo);(clear hhi hhl);(have HU := Lib.hid hU0);(have HL := Lib.hid hlt);(have HO := Lib.hid hlo);(have HV := Lib.hid (putV_le hlt hlo hk hr));(clear hU0 hlt hlo);(have HS := split_any x H.out);(rw [hf] at HS);(have HS' := Aside0.mk HS);(have HT := split_any y H'.out);(rw [hg] at HT);(have HT' := Aside0.mk HT);(clear HS HT hf hg);(generalize unitsP x y = U at *);(generalize spm x = m at *);(generalize spm y = n at *);(have h0 := (spe_bd x).1);(have h1 := (spe_bd x).2);(have h2 := (spe_bd y).1);(have h3 := (spe_bd y).2);(generalize spe x = q at *);(generalize spe y = p at *);(have HE := Lib.hid he);(clear he);(go_enter Tryz.func93, Tryz.ntmps93)
   go_wp2_with (first | (go_at_call 153; first | (with_reducible refine (HS'.out _).mono ?_; rintro e w' ⟨rfl, rfl⟩) | (with_reducible refine (HT'.out _).mono ?_; rintro e w' ⟨rfl, rfl⟩)) | (go_at_call 155; first | (with_reducible refine (abs_acc m HM.out.1 HM.out.2 _).mono ?_; rintro e w' ⟨rfl, rfl⟩) | (with_reducible refine (abs_acc n HM'.out.1 HM'.out.2 _).mono ?_; rintro e w' ⟨rfl, rfl⟩)) | (go_at_call 154; refine (HMUL.out _).mono ?_; rintro e w' ⟨rfl, rfl⟩) | (go_at_call 156; rw [HE.out]; refine (put_add b (modB Z) hi lo k r u d _ HA.out HL.out HO.out hk hr).mono ?_; rintro e w' ⟨rfl, hg, ha⟩))
   (go_end0);(exact ⟨rfl, hg, ⟨put_add_is ha.out HU.out⟩⟩)
  ·have b2 : decide (spm x < 0) = true := decide_eq_true (by omega)
   (have b3 : decide (spm y < 0) = false := decide_eq_false (by omega));(have b0 : (spm x != 0) = true := bne_iff_ne.2 (by omega));(have b1 : (spm y != 0) = true := bne_iff_ne.2 (by omega));(have hU0 := unitsP_neg (x := x) (y := y) (by rw [b2, b3]; rfl));(obtain ⟨k, r, hk, hr, he, hu⟩ := unitsP_put x y);(rw [← hu] at hU0);(have hxa : (spm x).natAbs < 18446744073709551616 := by omega);(have hya : (spm y).natAbs < 18446744073709551616 := by omega);(have hlt : (spm x).natAbs * (spm y).natAbs / 18446744073709551616 < 18446744073709551616 := natAbs_mul_lt (by omega) (by omega));(have hlo : (spm x).natAbs * (spm y).natAbs % 18446744073709551616 < 18446744073709551616 := Nat.mod_lt _ (by decide));(have HMUL := Aside0.mk (Tryz.bits_Mul64 _ _ hxa hya));(have HX := Lib.hid hxa);(have HY := Lib.hid hya);(clear hu hxa hya);(obtain ⟨hi, hhi⟩ : ∃ hi, (spm x).natAbs * (spm y).natAbs / 18446744073709551616 = hi := ⟨_, rfl⟩);(obtain ⟨lo, hhl⟩ : ∃ lo, (spm x).natAbs * (spm y).natAbs % 18446744073709551616 = lo := ⟨_, rfl⟩);(rw [hhi, hhl] at HMUL hU0);(rw [hhi] at hlt);(rw [hhl] at hlo);(clear hhi hhl);(have HU := Lib.hid hU0);(have HL := Lib.hid hlt);(have HO := Lib.hid hlo);(have HV := Lib.hid (putV_le hlt hlo hk hr));(clear hU0 hlt hlo);(have HS := split_any x H.out);(rw [hf] at HS);(have HS' := Aside0.mk HS);(have HT := split_any y H'.out);(rw [hg] at HT);(have HT' := Aside0.mk HT);(clear HS HT hf hg);(generalize unitsP x y = U at *);(generalize spm x = m at *);(generalize spm y = n at *);(have h0 := (spe_bd x).1);(have h1 := (spe_bd x).2);(have h2 := (spe_bd y).1);(have h3 := (spe_bd y).2);(generalize spe x = q at *);(generalize spe y = p at *);(have HE := Lib.hid he);(clear he);(go_enter Tryz.func93, Tryz.ntmps93)
   go_wp2_with (first | (go_at_call 153; first | (with_reducible refine (HS'.out _).mono ?_; rintro e w' ⟨rfl, rfl⟩) | (with_reducible refine (HT'.out _).mono ?_; rintro e w' ⟨rfl, rfl⟩)) | (go_at_call 155; first | (with_reducible refine (abs_acc m HM.out.1 HM.out.2 _).mono ?_; rintro e w' ⟨rfl, rfl⟩) | (with_reducible refine (abs_acc n HM'.out.1 HM'.out.2 _).mono ?_; rintro e w' ⟨rfl, rfl⟩)) | (go_at_call 154; refine (HMUL.out _).mono ?_; rintro e w' ⟨rfl, rfl⟩) | (go_at_call 156; rw [HE.out]; refine (put_sub b (modB Z) hi lo k r u d _ HA.out HL.out HO.out hk hr).mono ?_; rintro e w' ⟨rfl, hg, ha⟩))
   (go_end0);(exact ⟨rfl, hg, ⟨put_sub_is ha.out HV.out HU.out⟩⟩)
 ·rcases Int.lt_or_le (spm y) 0 with sy | sy
  ·have b2 : decide (spm x < 0) = false := decide_eq_false (by omega)
   (have b3 : decide (spm y < 0) = true := decide_eq_true (by omega));(have b0 : (spm x != 0) = true := bne_iff_ne.2 (by omega));(have b1 : (spm y != 0) = true := bne_iff_ne.2 (by omega));(have hU0 := unitsP_neg (x := x) (y := y) (by rw [b2, b3]; rfl));(obtain ⟨k, r, hk, hr, he, hu⟩ := unitsP_put x y);(rw [← hu] at hU0);(have hxa : (spm x).natAbs < 18446744073709551616 := by omega);(have hya : (spm y).natAbs < 18446744073709551616 := by omega);(have hlt : (spm x).natAbs * (spm y).natAbs / 18446744073709551616 < 18446744073709551616 := natAbs_mul_lt (by omega) (by omega));(have hlo : (spm x).natAbs * (spm y).natAbs % 18446744073709551616 < 18446744073709551616 := Nat.mod_lt _ (by decide));(have HMUL := Aside0.mk (Tryz.bits_Mul64 _ _ hxa hya));(have HX := Lib.hid hxa);(have HY := Lib.hid hya);(clear hu hxa hya);(obtain ⟨hi, hhi⟩ : ∃ hi, (spm x).natAbs * (spm y).natAbs / 18446744073709551616 = hi := ⟨_, rfl⟩);(obtain ⟨lo, hhl⟩ : ∃ lo, (spm x).natAbs * (spm y).natAbs % 18446744073709551616 = lo := ⟨_, rfl⟩);(rw [hhi, hhl] at HMUL hU0);(rw [hhi] at hlt);(rw [hhl] at hlo);(clear hhi hhl);(have HU := Lib.hid hU0);(have HL := Lib.hid hlt);(have HO := Lib.hid hlo);(have HV := Lib.hid (putV_le hlt hlo hk hr));(clear hU0 hlt hlo);(have HS := split_any x H.out);(rw [hf] at HS);(have HS' := Aside0.mk HS);(have HT := split_any y H'.out);(rw [hg] at HT);(have HT' := Aside0.mk HT);(clear HS HT hf hg);(generalize unitsP x y = U at *);(generalize spm x = m at *);(generalize spm y = n at *);(have h0 := (spe_bd x).1);(have h1 := (spe_bd x).2);(have h2 := (spe_bd y).1);(have h3 := (spe_bd y).2);(generalize spe x = q at *);(generalize spe y = p at *);(have HE := Lib.hid he);(clear he);(go_enter Tryz.func93, Tryz.ntmps93)
   go_wp2_with (first | (go_at_call 153; first | (with_reducible refine (HS'.out _).mono ?_; rintro e w' ⟨rfl, rfl⟩) | (with_reducible refine (HT'.out _).mono ?_; rintro e w' ⟨rfl, rfl⟩)) | (go_at_call 155; first | (with_reducible refine (abs_acc m HM.out.1 HM.out.2 _).mono ?_; rintro e w' ⟨rfl, rfl⟩) | (with_reducible refine (abs_acc n HM'.out.1 HM'.out.2 _).mono ?_; rintro e w' ⟨rfl, rfl⟩)) | (go_at_call 154; refine (HMUL.out _).mono ?_; rintro e w' ⟨rfl, rfl⟩) | (go_at_call 156; rw [HE.out]; refine (put_sub b (modB Z) hi lo k r u d _ HA.out HL.out HO.out hk hr).mono ?_; rintro e w' ⟨rfl, hg, ha⟩))
   (go_end0);(exact ⟨rfl, hg, ⟨put_sub_is ha.out HV.out HU.out⟩⟩)
  ·have b2 : decide (spm x < 0) = false := decide_eq_false (by omega)
   (have b3 : decide (spm y < 0) = false := decide_eq_false (by omega));(have b0 : (spm x != 0) = true := bne_iff_ne.2 (by omega));(have b1 : (spm y != 0) = true := bne_iff_ne.2 (by omega));(have hU0 := unitsP_pos (x := x) (y := y) (by rw [b2, b3]));(obtain ⟨k, r, hk, hr, he, hu⟩ := unitsP_put x y);(rw [← hu] at hU0);(have hxa : (spm x).natAbs < 18446744073709551616 := by omega);(have hya : (spm y).natAbs < 18446744073709551616 := by omega);(have hlt : (spm x).natAbs * (spm y).natAbs / 18446744073709551616 < 18446744073709551616 := natAbs_mul_lt (by omega) (by omega));(have hlo : (spm x).natAbs * (spm y).natAbs % 18446744073709551616 < 18446744073709551616 := Nat.mod_lt _ (by decide));(have HMUL := Aside0.mk (Tryz.bits_Mul64 _ _ hxa hya));(have HX := Lib.hid hxa);(have HY := Lib.hid hya);(clear hu hxa hya);(obtain ⟨hi, hhi⟩ : ∃ hi, (spm x).natAbs * (spm y).natAbs / 18446744073709551616 = hi := ⟨_, rfl⟩);(obtain ⟨lo, hhl⟩ : ∃ lo, (spm x).natAbs * (spm y).natAbs % 18446744073709551616 = lo := ⟨_, rfl⟩);(rw [hhi, hhl] at HMUL hU0);(rw [hhi] at hlt);(rw [hhl] at hlo);(clear hhi hhl);(have HU := Lib.hid hU0);(have HL := Lib.hid hlt);(have HO := Lib.hid hlo);(have HV := Lib.hid (putV_le hlt hlo hk hr));(clear hU0 hlt hlo);(have HS := split_any x H.out);(rw [hf] at HS);(have HS' := Aside0.mk HS);(have HT := split_any y H'.out);(rw [hg] at HT);(have HT' := Aside0.mk HT);(clear HS HT hf hg);(generalize unitsP x y = U at *);(generalize spm x = m at *);(generalize spm y = n at *);(have h0 := (spe_bd x).1);(have h1 := (spe_bd x).2);(have h2 := (spe_bd y).1);(have h3 := (spe_bd y).2);(generalize spe x = q at *);(generalize spe y = p at *);(have HE := Lib.hid he);(clear he);(go_enter Tryz.func93, Tryz.ntmps93)
   go_wp2_with (first | (go_at_call 153; first | (with_reducible refine (HS'.out _).mono ?_; rintro e w' ⟨rfl, rfl⟩) | (with_reducible refine (HT'.out _).mono ?_; rintro e w' ⟨rfl, rfl⟩)) | (go_at_call 155; first | (with_reducible refine (abs_acc m HM.out.1 HM.out.2 _).mono ?_; rintro e w' ⟨rfl, rfl⟩) | (with_reducible refine (abs_acc n HM'.out.1 HM'.out.2 _).mono ?_; rintro e w' ⟨rfl, rfl⟩)) | (go_at_call 154; refine (HMUL.out _).mono ?_; rintro e w' ⟨rfl, rfl⟩) | (go_at_call 156; rw [HE.out]; refine (put_add b (modB Z) hi lo k r u d _ HA.out HL.out HO.out hk hr).mono ?_; rintro e w' ⟨rfl, hg, ha⟩))
   (go_end0);(exact ⟨rfl, hg, ⟨put_add_is ha.out HU.out⟩⟩)

end Go.Proofs.YtmdoljecjliehaaGreat
end
