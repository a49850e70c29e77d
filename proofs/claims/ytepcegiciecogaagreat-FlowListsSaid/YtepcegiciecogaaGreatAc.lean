/- Contracts of package acc: exact sums. -/
import Derived.Test.YtepcegiciecogaaGreatRows
import Derived.Test.YtepcegiciecogaaGreatA1
import Derived.Test.YtepcegiciecogaaGreatA2
import Derived.Test.YtepcegiciecogaaGreatA3
import Derived.Test.YtepcegiciecogaaGreatPl
import Derived.Test.YtepcegiciecogaaGreatShelf
import Derived.Test.YtepcegiciecogaaGreatZ0
import Derived.Test.YtepcegiciecogaaGreatOpn
import Derived.WalkKit
import Derived.Lib.Hide
import Derived.WalkSpells
import Derived.WalkLawsBesides
import Derived.Deep.QuietTactic
import Derived.BigQuiet
import Derived.BigRegion
import Derived.Laws.Rows
import Derived.StillTailTactics
namespace Go.Proofs.YtepcegiciecogaaGreat
open Go.RowKit Go.Proofs.YtepcegiciecogaaGreatW.PrintWords Tn

/-- a sum's words and its two flags, as cells. -/
def cellsF (f : Nat → Nat) (u d : Bool) : Array Value := (((List.range 68).map fun j => Value.int .u64 (f j : Nat)) ++ [Value.bool u, Value.bool d]).toArray
/-- an array of 68 words, as cells. -/
def rowF (f : Nat → Nat) : Array Value := ((List.range 68).map fun j => Value.int .u64 (f j : Nat)).toArray
def accF (w : World) (b : Nat) (f : Nat → Nat) (u d : Bool) : Prop := w.heap[b]? = some (.cells (cellsF f u d) 107 (0, 0))
def acc (w : World) (b N : Nat) (u d : Bool) : Prop := accF w b (wd N) u d
theorem cellsF_word (f : Nat → Nat) (u d : Bool) (i : Nat) (h : i < 68) : (cellsF f u d)[i]? = some (.int .u64 (f i : Nat)) := by
  unfold cellsF
  rw [List.getElem?_toArray, List.getElem?_append_left (by simpa using h), List.getElem?_map, List.getElem?_range h]; rfl
theorem cellsF_up (f : Nat → Nat) (u d : Bool) : (cellsF f u d)[68]? = some (.bool u) := by
  unfold cellsF
  rw [List.getElem?_toArray, List.getElem?_append_right (by simp)]; rfl
theorem cellsF_down (f : Nat → Nat) (u d : Bool) : (cellsF f u d)[69]? = some (.bool d) := by
  unfold cellsF
  rw [List.getElem?_toArray, List.getElem?_append_right (by simp)]; rfl
theorem rowF_size (f : Nat → Nat) : (rowF f).size = 68 := by simp [rowF]
theorem rowF_word (f : Nat → Nat) (i : Nat) (h : i < 68) : (rowF f)[i]? = some (.int .u64 (f i : Nat)) := by
  unfold rowF
  rw [List.getElem?_toArray, List.getElem?_map, List.getElem?_range h]; rfl
theorem cellsF_congr {f g : Nat → Nat} (u d : Bool) (h : ∀ i, i < 68 → f i = g i) : cellsF f u d = cellsF g u d := by
  unfold cellsF
  congr 2
  exact List.map_congr_left fun i hi => by rw [h i (List.mem_range.1 hi)]
theorem rowF_congr {f g : Nat → Nat} (h : ∀ i, i < 68 → f i = g i) : rowF f = rowF g := by
  unfold rowF
  congr 1
  exact List.map_congr_left fun i hi => by rw [h i (List.mem_range.1 hi)]
/-- f with another word at i. -/
def upd (f : Nat → Nat) (i v : Nat) (j : Nat) : Nat := if j = i then v else f j
theorem map_set (f : Nat → Nat) (i v n : Nat) (h : i < n) : ((List.range n).map fun j => Value.int .u64 (f j : Nat)).set i (.int .u64 (v : Nat)) = (List.range n).map fun j => Value.int .u64 (upd f i v j : Nat) := by
  apply List.ext_getElem?
  intro j
  rw [List.getElem?_set]
  by_cases hj : j < n
  · rw [List.getElem?_map, List.getElem?_map, List.getElem?_range hj]
    unfold upd
    by_cases c : i = j
    · subst c; simp [h]
    · rw [if_neg c]; simp [show ¬ j = i from fun e => c e.symm]
  · rw [List.getElem?_eq_none (by simp; omega), List.getElem?_eq_none (by simp; omega)]; simp; omega
theorem cellsF_set (f : Nat → Nat) (u d : Bool) (i v : Nat) (h : i < 68) : (cellsF f u d).setIfInBounds i (.int .u64 (v : Nat)) = cellsF (upd f i v) u d := by
  unfold cellsF
  rw [List.setIfInBounds_toArray, List.set_append_left _ _ (by simpa using h), map_set f i v 68 h]
theorem rowF_set (f : Nat → Nat) (i v : Nat) (h : i < 68) : (rowF f).setIfInBounds i (.int .u64 (v : Nat)) = rowF (upd f i v) := by
  unfold rowF
  rw [List.setIfInBounds_toArray, map_set f i v 68 h]
theorem grown_drew (w : World) (row : Option Nat) : w.grownBy w.drew row := ⟨rfl, rfl, rfl, Nat.le_refl _, fun _ _ _ => rfl⟩
theorem grown_set (w : World) (b i : Nat) (v : Value) : w.grownBy (w.setCell ⟨b, i, none⟩ v) (some b) :=
  ⟨rfl, rfl, rfl, by simp, fun k _ hk => Below.heap_setCell w ⟨b, i, none⟩ v k (fun e => hk (by rw [e]))⟩
section
variable {w : World} {b : Nat} {f : Nat → Nat} {u d : Bool}
theorem accF.word (h : accF w b f u d) (i : Nat) (hi : i < 68) : w.cell? ⟨b, i, none⟩ = some (.int .u64 (f i : Nat)) := by rw [blk_cell h]; exact cellsF_word f u d i hi
theorem accF.up (h : accF w b f u d) : w.cell? ⟨b, 68, none⟩ = some (.bool u) := by rw [blk_cell h]; exact cellsF_up f u d
theorem accF.down (h : accF w b f u d) : w.cell? ⟨b, 69, none⟩ = some (.bool d) := by rw [blk_cell h]; exact cellsF_down f u d
theorem accF.free (h : accF w b f u d) (i : Nat) : w.frozen? ⟨b, i, none⟩ = false := blk_frozen h i
theorem accF.set (h : accF w b f u d) (i v : Nat) (hi : i < 68) : accF (w.setCell ⟨b, i, none⟩ (.int .u64 (v : Nat))) b (upd f i v) u d := by
  unfold accF; rw [blk_set h, cellsF_set f u d i v hi]
end

set_option maxRecDepth 100000 in
set_option maxHeartbeats 400000 in
theorem new_any (w : World) : Calls Tryz.prog 33 #[] w fun e w' => e = .returned (.pointer (some ⟨w.heap.size, 0, none⟩)) ∧ w' = w.alloc (.cells (cellsF (fun _ => 0) false false) 107) := by
  go_enter Tryz.func33, Tryz.ntmps33
  go_wp2
  go_ret
  exact ⟨rfl, rfl⟩

set_option maxRecDepth 100000 in
set_option maxHeartbeats 400000 in
theorem below_any (b N : Nat) (u d : Bool) (w : World) (h : acc w b N u d) : Calls Tryz.prog 93 #[.pointer (some ⟨b, 0, none⟩)] w fun e w' => e = .returned (.bool (decide (9223372036854775808 ≤ wd N 67))) ∧ w = w' := by
  have hc := accF.word h 67 (by decide)
  have hw := Lib.hid (wd_lt N 67)
  clear h
  generalize wd N 67 = x at *
  go_enter Tryz.func93, Tryz.ntmps93
  go_wp2
  go_ret
  exact ⟨ret_b (by rw [Bool.eq_iff_iff, beq_iff_eq, decide_eq_true_iff]; have := hw.out; omega), rfl⟩

set_option maxRecDepth 100000 in
set_option maxHeartbeats 400000 in
theorem abs_acc (m : Int) (h0 : -9223372036854775808 ≤ m) (h1 : m < 9223372036854775808) (w : World) : Calls Tryz.prog 63 #[.int .i64 m] w fun e w' => e = .returned (.int .u64 (m.natAbs : Nat)) ∧ w = w' := by
  by_cases c : m < 0
  · have H := Lib.hid h0; have H' := Lib.hid h1; clear h0 h1
    go_enter Tryz.func63, Tryz.ntmps63
    go_wp2
    go_ret
    exact ⟨ret_i (by rw [IntKind.wrap_u64]; have := H.out; have := H'.out; try unfold wrap64; omega), rfl⟩
  · have H := Lib.hid h0; have H' := Lib.hid h1; clear h0 h1
    go_enter Tryz.func63, Tryz.ntmps63
    go_wp2
    go_ret
    exact ⟨ret_i (by rw [IntKind.wrap_u64]; have := H.out; have := H'.out; omega), rfl⟩

/-- the model's row for math/bits.Sub64. -/
def sub64R : Array Value → Sem Value := fun args => do
  let (x, y, b) ← Extern.MathBitsCarry.three "Sub64" args
  pure (Extern.MathBitsCarry.pair ((x + Extern.MathBitsCarry.m64 - y - b) % Extern.MathBitsCarry.m64) (if x < y + b then 1 else 0))
theorem sub64_row (x y b : Nat) (hb : b ≤ 1) (w : World) :
    (sub64R #[.int .u64 x, .int .u64 y, .int .u64 b]).run Tryz.prog w =
      .ok (.tuple #[.int .u64 (((x + 18446744073709551616 - y - b) % 18446744073709551616 : Nat) : Int), .int .u64 ((if x < y + b then 1 else 0 : Nat) : Int)]) w := by
  have : b = 0 ∨ b = 1 := by omega
  rcases this with rfl | rfl <;> rfl
theorem add64_run (x y c : Nat) (hc : c ≤ 1) (w : World) :
    (callFunc 102 #[.int .u64 x, .int .u64 y, .int .u64 c]).run Tryz.prog w =
      .ok (.value (.tuple #[.int .u64 (((x + y + c) % 18446744073709551616 : Nat) : Int), .int .u64 (((x + y + c) / 18446744073709551616 : Nat) : Int)])) w := by
  rw [run_callFunc_extern Tryz.func102 (by kernel_rfl) (by kernel_rfl) (by kernel_rfl) (e := add64Entry) (by kernel_rfl), run_add64 x y c (by omega) (by omega) (by omega) (by omega)]
  simp only [Result.andThen]
  congr 5 <;> omega
theorem sub64_run (x y b : Nat) (hb : b ≤ 1) (w : World) :
    (callFunc 101 #[.int .u64 x, .int .u64 y, .int .u64 b]).run Tryz.prog w =
      .ok (.value (.tuple #[.int .u64 (((x + 18446744073709551616 - y - b) % 18446744073709551616 : Nat) : Int), .int .u64 ((if x < y + b then 1 else 0 : Nat) : Int)])) w := by
  rw [run_callFunc_extern Tryz.func101 (by kernel_rfl) (by kernel_rfl) (by kernel_rfl) (e := sub64R) (by kernel_rfl), sub64_row x y b hb]
  rfl

/-- the first words turned. -/
def mixW (N R j : Nat) (t : Nat) : Nat := if t < j then wd R t else wd N t
theorem mixW_at (N R j : Nat) : mixW N R j j = wd N j := by unfold mixW; rw [if_neg (Nat.lt_irrefl j)]
theorem accF_congr {w : World} {b : Nat} {f g : Nat → Nat} {u d : Bool} (h : accF w b f u d) (e : ∀ i, i < 68 → f i = g i) : accF w b g u d := by
  unfold accF at h ⊢; rw [← cellsF_congr u d e]; exact h
theorem mix_start {w : World} {b N R k : Nat} {u d : Bool} (h : accF w b (wd N) u d) (e : ∀ i, i < k → wd R i = wd N i) : accF w b (mixW N R k) u d :=
  accF_congr h fun i _ => by
    unfold mixW
    by_cases c : i < k
    · rw [if_pos c, e i c]
    · rw [if_neg c]
theorem mix_next {w : World} {b N R j ww : Nat} {u d : Bool} (h : accF w b (mixW N R j) u d) (hj : j < 68) (hw : ww = wd R j) : accF (w.setCell ⟨b, j, none⟩ (.int .u64 (ww : Nat))).drew b (mixW N R (j + 1)) u d := by
  refine accF_congr (f := upd (mixW N R j) j ww) (h.set j ww hj) fun i _ => ?_
  unfold upd mixW
  by_cases c : i = j
  · rw [if_pos c, if_pos (by omega), hw, c]
  · rw [if_neg c]
    by_cases c2 : i < j
    · rw [if_pos c2, if_pos (by omega)]
    · rw [if_neg c2, if_neg (by omega)]
theorem mix_end {w : World} {b N R : Nat} {u d : Bool} (h : accF w b (mixW N R 68) u d) : acc w b (R % B 68) u d :=
  accF_congr h fun i hi => by unfold mixW; rw [if_pos hi, wd_mod _ _ _ hi]
theorem put_word_false {N V j cc : Nat} (_h : j < 68) (_hV : V ≤ B 68) (hc : cc = carry N V j) : (wd N j + wd V j + cc) % 18446744073709551616 = wd (N + V) j := by rw [hc]; exact (add_step N V j).1
theorem put_carry_false {N V j cc : Nat} (hc : cc = carry N V j) : (wd N j + wd V j + cc) / 18446744073709551616 = carry N V (j + 1) := by rw [hc]; exact (add_step N V j).2
theorem put_word_true {N V j cc : Nat} (h : j < 68) (hV : V ≤ B 68) (hc : cc = borrow N V j) : (wd N j + 18446744073709551616 - wd V j - cc) % 18446744073709551616 = wd (N + B 68 - V) j := by rw [hc]; exact sub_word N V 68 j h hV
theorem put_carry_true {N V j cc : Nat} (hc : cc = borrow N V j) : (if wd N j < wd V j + cc then 1 else 0) = borrow N V (j + 1) := by rw [hc]; exact sub_borrow N V j
theorem put_zero_false {N V k : Nat} (h : V % B k = 0) : 0 = carry N V k := by
  unfold carry; rw [h, Nat.add_zero, Nat.div_eq_of_lt (Nat.mod_lt _ (B_pos k))]
theorem put_zero_true {N V k : Nat} (h : V % B k = 0) : 0 = borrow N V k := by
  unfold borrow; rw [h, if_neg (by omega)]
theorem mod_low {V k : Nat} (h : V % B k = 0) {i : Nat} (hi : i ≤ k) : V % B i = 0 := by
  obtain ⟨m, rfl⟩ : ∃ m, k = i + m := ⟨k - i, by omega⟩
  rw [B_add] at h
  have := Nat.mod_mul_right_mod V (B i) (B m)
  rw [h, Nat.zero_mod] at this; exact this.symm
theorem mix_low_false {N V k : Nat} (_hk : k ≤ 65) (h : ∀ i, i < k → wd V i = 0) (hm : V % B k = 0) (_hV : V ≤ B 68) : ∀ i, i < k → wd (N + V) i = wd N i := fun i hi => by
  rw [← (add_step N V i).1, h i hi, ← put_zero_false (mod_low hm (by omega))]
  exact Nat.mod_eq_of_lt (wd_lt N i)
theorem mix_low_true {N V k : Nat} (hk : k ≤ 65) (h : ∀ i, i < k → wd V i = 0) (hm : V % B k = 0) (hV : V ≤ B 68) : ∀ i, i < k → wd (N + B 68 - V) i = wd N i := fun i hi => by
  rw [← sub_word N V 68 i (by omega) hV, h i hi, ← put_zero_true (mod_low hm (by omega))]
  have := wd_lt N i
  omega

set_option maxRecDepth 100000 in
set_option maxHeartbeats 400000 in
theorem put_add (b N hi lo k r : Nat) (u d : Bool) (w : World) (h : acc w b N u d) (hhi : hi < 18446744073709551616) (hlo : lo < 18446744073709551616) (hk : k ≤ 65) (hr : r < 64) :
    Calls Tryz.prog 62 #[.pointer (some ⟨b, 0, none⟩), .int .u64 hi, .int .u64 lo, .int .i64 ((64 * k + r : Nat) : Int), .bool false] w fun e w' => e = .returned (.tuple #[]) ∧ Aside0 (w.grownBy w' (some b)) ∧ Aside0 (acc w' b ((N + putV hi lo k r) % B 68) u d) := by
  obtain ⟨V, hV⟩ : ∃ V, V = putV hi lo k r := ⟨_, rfl⟩
  rw [← hV]
  obtain ⟨p0, p1, p2, p3, p4, p5⟩ := put_words hhi hlo hr
  have hVB : V < B (k + 3) := by
    rw [hV, Nat.add_comm, B_add]; exact Nat.mul_lt_mul_of_pos_right p3 (B_pos k)
  have hb := blk_lt h
  have HVS : RowKit.Hid (∀ i, k + 3 ≤ i → wd V i = 0) := fun i hi => wd_small (Nat.lt_of_lt_of_le hVB (B_le hi))
  have HVL : RowKit.Hid (∀ i, i < k → wd V i = 0) := fun i hi => by rw [hV]; exact putV_low hi
  have HVM : RowKit.Hid (V % B k = 0) := by rw [hV]; exact putV_mod _ _ _ _
  have HVB : RowKit.Hid (V ≤ B 68) := Nat.le_of_lt (Nat.lt_of_lt_of_le hVB (B_le (by omega)))
  have hx0 : IntKind.u64.wrap ((lo : Int) * 2 ^ r) = ((wd V (k + 0) : Nat) : Int) := by
    rw [hV, putV_word, ← p0, IntKind.wrap_u64]; simp
  have hx2 : (hi : Int) / 2 ^ (64 - r) = ((wd V (k + 2) : Nat) : Int) := by
    rw [hV, putV_word, ← p2]; simp
  have hx1 : bits .or .u64 (IntKind.u64.wrap ((hi : Int) * 2 ^ r)) ((lo : Int) / 2 ^ (64 - r)) = ((wd V (k + 1) : Nat) : Int) := by
    have e0 : IntKind.u64.wrap ((hi : Int) * 2 ^ r) = (((hi * 2 ^ r) % 18446744073709551616 : Nat) : Int) := by rw [IntKind.wrap_u64]; simp
    have e1 : (lo : Int) / 2 ^ (64 - r) = ((lo / 2 ^ (64 - r) : Nat) : Int) := by simp
    rw [hV, putV_word, ← p1, e0, e1]
    exact put_or ⟨r, hr, rfl⟩ p4 (Nat.mod_lt _ (by decide)) p5
  clear p0 p1 p2 p3 p4 p5 hVB
  have e1 : (((64 * k + r : Nat) : Int) / 64) = k := by omega
  have e2 : (((64 * k + r : Nat) : Int) % 64) = r := by omega
  have e3 : (0 : Int) ≤ ((64 * k + r : Nat) : Int) := by omega
  have e4 : ((64 * k + r : Nat) : Int) ≤ 10000 := by omega
  have HA := Aside0.mk h
  clear h hV
  obtain ⟨n, hn⟩ : ∃ n : Int, n = ((64 * k + r : Nat) : Int) := ⟨_, rfl⟩
  rw [← hn] at e1 e2 e3 e4 ⊢
  clear hn
  have HH := Lib.hid hhi; have HL := Lib.hid hlo
  clear hhi hlo
  obtain ⟨x0, hX0⟩ : ∃ x, wd V (k + 0) = x := ⟨_, rfl⟩
  obtain ⟨x1, hX1⟩ : ∃ x, wd V (k + 1) = x := ⟨_, rfl⟩
  obtain ⟨x2, hX2⟩ : ∃ x, wd V (k + 2) = x := ⟨_, rfl⟩
  rw [hX0] at hx0; rw [hX1] at hx1; rw [hX2] at hx2
  have HX0 := Lib.hid hX0; have HX1 := Lib.hid hX1; have HXX := Lib.hid hX2
  clear hX0 hX1 hX2
  have HC0 : RowKit.Hid (0 = carry N V k) := put_zero_false HVM.out
  go_enter Tryz.func62, Tryz.ntmps62
  go_wp2
  go_region
  simp only [e1, e2]
  go_wp2
  clear hx0 hx1 hx2 e1 e2 e3 e4
  have HG0 : Aside0 (w.grownBy (w.alloc (.cells #[.int .u64 x0, .int .u64 x1, .int .u64 x2] 139)).drew (some b)) := ⟨(World.grownBy_alloc w _ _).trans (grown_drew _ _)⟩
  have HA0 : Aside0 (accF (w.alloc (.cells #[.int .u64 x0, .int .u64 x1, .int .u64 x2] 139)).drew b (wd N) u d) := ⟨(blk_alloc HA.out _ : _)⟩
  have HX : Aside0 ((w.alloc (.cells #[.int .u64 x0, .int .u64 x1, .int .u64 x2] 139)).drew.heap[w.heap.size]? = some (.cells #[.int .u64 x0, .int .u64 x1, .int .u64 x2] 139 (0, 0))) := ⟨blk_new w _⟩
  go_loopw [13, 14] (fun c i wr => ∃ j cc : Nat, k ≤ j ∧ j ≤ 68 ∧ i = .int .i64 j ∧ c = .int .u64 cc ∧ cc ≤ 1 ∧ RowKit.Hid (cc = carry N V j) ∧ Aside0 (w.grownBy wr (some b)) ∧ Aside0 (accF wr b (mixW N (N + V) j) u d) ∧ Aside0 (wr.heap[w.heap.size]? = some (.cells #[.int .u64 x0, .int .u64 x1, .int .u64 x2] 139 (0, 0)))) (fun _ i _ => 68 - (intOf i).toNat)
  case atStart =>
    exact ⟨k, 0, Nat.le_refl _, by omega, rfl, rfl, by omega, HC0, HG0, ⟨mix_start HA0.out (mix_low_false hk HVL.out HVM.out HVB.out)⟩, HX⟩
  case round =>
    obtain ⟨j, cc, hj0, hj1, rfl, rfl, hc1, HC, HG, HA2, HX2⟩ := hrel
    by_cases hlt : j < 68
    · have hcell := HA2.out.word j hlt
      rw [mixW_at] at hcell
      have hfree := HA2.out.free j
      have HW := Lib.hid (put_word_false (N := N) (V := V) hlt HVB.out HC.out)
      have HK := Lib.hid (put_carry_false (N := N) (V := V) (j := j) HC.out)
      by_cases hj3 : j < k + 3
      · have hcx : wr.cell? ⟨w.heap.size, j - k, none⟩ = some (.int .u64 ((wd V j : Nat) : Int)) := by
          rw [blk_cell HX2.out]
          obtain ⟨t, rfl⟩ : ∃ t, j = k + t := ⟨j - k, by omega⟩
          rw [show k + t - k = t by omega]
          have ht : t = 0 ∨ t = 1 ∨ t = 2 := by omega
          rcases ht with rfl | rfl | rfl
          · rw [HX0.out]; rfl
          · rw [HX1.out]; rfl
          · rw [HXX.out]; rfl
        have ha := fun w' => add64_run (wd N j) (wd V j) cc hc1 w'
        obtain ⟨ww, hww⟩ : ∃ x, (wd N j + wd V j + cc) % 18446744073709551616 = x := ⟨_, rfl⟩
        obtain ⟨kk, hkk⟩ : ∃ x, (wd N j + wd V j + cc) / 18446744073709551616 = x := ⟨_, rfl⟩
        rw [hww, hkk] at ha
        rw [hww] at HW; rw [hkk] at HK
        clear hww hkk
        generalize wd N j = nn at *
        generalize wd V j = vv at *
        have hi0 : (0 : Int) ≤ (j : Int) - k := by omega
        have hi1 : (j : Int) - k < 3 := by omega
        clear HC
        go_wp2
        go_region
        go_wp2
        go_roundw
        case rel => exact ⟨j + 1, kk, by omega, by omega, by go_num, rfl, by rw [HK.out]; exact carry_le N V _, HK, ⟨HG.out.trans ((grown_set _ b j _).trans (grown_drew _ _))⟩, ⟨mix_next HA2.out hlt HW.out⟩, ⟨blk_drew (blk_far HX2.out (Nat.ne_of_gt hb) _)⟩⟩
        case measure => simp [intOf]; omega
      · have HV0 := Lib.hid (HVS.out j (by omega))
        have ha := fun w' => add64_run (wd N j) 0 cc hc1 w'
        rw [HV0.out] at HW HK
        obtain ⟨ww, hww⟩ : ∃ x, (wd N j + 0 + cc) % 18446744073709551616 = x := ⟨_, rfl⟩
        obtain ⟨kk, hkk⟩ : ∃ x, (wd N j + 0 + cc) / 18446744073709551616 = x := ⟨_, rfl⟩
        rw [hww, hkk] at ha
        rw [hww] at HW; rw [hkk] at HK
        rw [show ((0 : Nat) : Int) = 0 from rfl] at ha
        clear hww hkk
        generalize wd N j = nn at *
        clear HC
        go_wp2
        go_region
        go_wp2
        go_roundw
        case rel => exact ⟨j + 1, kk, by omega, by omega, by go_num, rfl, by rw [HK.out]; exact carry_le N V _, HK, ⟨HG.out.trans ((grown_set _ b j _).trans (grown_drew _ _))⟩, ⟨mix_next HA2.out hlt HW.out⟩, ⟨blk_drew (blk_far HX2.out (Nat.ne_of_gt hb) _)⟩⟩
        case measure => simp [intOf]; omega
    · obtain rfl : j = 68 := by omega
      go_wp2
      go_end0
      exact ⟨rfl, HG, ⟨mix_end HA2.out⟩⟩

set_option maxRecDepth 100000 in
set_option maxHeartbeats 400000 in
theorem put_sub (b N hi lo k r : Nat) (u d : Bool) (w : World) (h : acc w b N u d) (hhi : hi < 18446744073709551616) (hlo : lo < 18446744073709551616) (hk : k ≤ 65) (hr : r < 64) :
    Calls Tryz.prog 62 #[.pointer (some ⟨b, 0, none⟩), .int .u64 hi, .int .u64 lo, .int .i64 ((64 * k + r : Nat) : Int), .bool true] w fun e w' => e = .returned (.tuple #[]) ∧ Aside0 (w.grownBy w' (some b)) ∧ Aside0 (acc w' b ((N + B 68 - putV hi lo k r) % B 68) u d) := by
  obtain ⟨V, hV⟩ : ∃ V, V = putV hi lo k r := ⟨_, rfl⟩
  rw [← hV]
  obtain ⟨p0, p1, p2, p3, p4, p5⟩ := put_words hhi hlo hr
  have hVB : V < B (k + 3) := by
    rw [hV, Nat.add_comm, B_add]; exact Nat.mul_lt_mul_of_pos_right p3 (B_pos k)
  have hb := blk_lt h
  have HVS : RowKit.Hid (∀ i, k + 3 ≤ i → wd V i = 0) := fun i hi => wd_small (Nat.lt_of_lt_of_le hVB (B_le hi))
  have HVL : RowKit.Hid (∀ i, i < k → wd V i = 0) := fun i hi => by rw [hV]; exact putV_low hi
  have HVM : RowKit.Hid (V % B k = 0) := by rw [hV]; exact putV_mod _ _ _ _
  have HVB : RowKit.Hid (V ≤ B 68) := Nat.le_of_lt (Nat.lt_of_lt_of_le hVB (B_le (by omega)))
  have hx0 : IntKind.u64.wrap ((lo : Int) * 2 ^ r) = ((wd V (k + 0) : Nat) : Int) := by
    rw [hV, putV_word, ← p0, IntKind.wrap_u64]; simp
  have hx2 : (hi : Int) / 2 ^ (64 - r) = ((wd V (k + 2) : Nat) : Int) := by
    rw [hV, putV_word, ← p2]; simp
  have hx1 : bits .or .u64 (IntKind.u64.wrap ((hi : Int) * 2 ^ r)) ((lo : Int) / 2 ^ (64 - r)) = ((wd V (k + 1) : Nat) : Int) := by
    have e0 : IntKind.u64.wrap ((hi : Int) * 2 ^ r) = (((hi * 2 ^ r) % 18446744073709551616 : Nat) : Int) := by rw [IntKind.wrap_u64]; simp
    have e1 : (lo : Int) / 2 ^ (64 - r) = ((lo / 2 ^ (64 - r) : Nat) : Int) := by simp
    rw [hV, putV_word, ← p1, e0, e1]
    exact put_or ⟨r, hr, rfl⟩ p4 (Nat.mod_lt _ (by decide)) p5
  clear p0 p1 p2 p3 p4 p5 hVB
  have e1 : (((64 * k + r : Nat) : Int) / 64) = k := by omega
  have e2 : (((64 * k + r : Nat) : Int) % 64) = r := by omega
  have e3 : (0 : Int) ≤ ((64 * k + r : Nat) : Int) := by omega
  have e4 : ((64 * k + r : Nat) : Int) ≤ 10000 := by omega
  have HA := Aside0.mk h
  clear h hV
  obtain ⟨n, hn⟩ : ∃ n : Int, n = ((64 * k + r : Nat) : Int) := ⟨_, rfl⟩
  rw [← hn] at e1 e2 e3 e4 ⊢
  clear hn
  have HH := Lib.hid hhi; have HL := Lib.hid hlo
  clear hhi hlo
  obtain ⟨x0, hX0⟩ : ∃ x, wd V (k + 0) = x := ⟨_, rfl⟩
  obtain ⟨x1, hX1⟩ : ∃ x, wd V (k + 1) = x := ⟨_, rfl⟩
  obtain ⟨x2, hX2⟩ : ∃ x, wd V (k + 2) = x := ⟨_, rfl⟩
  rw [hX0] at hx0; rw [hX1] at hx1; rw [hX2] at hx2
  have HX0 := Lib.hid hX0; have HX1 := Lib.hid hX1; have HXX := Lib.hid hX2
  clear hX0 hX1 hX2
  have HC0 : RowKit.Hid (0 = borrow N V k) := put_zero_true HVM.out
  go_enter Tryz.func62, Tryz.ntmps62
  go_wp2
  go_region
  simp only [e1, e2]
  go_wp2
  clear hx0 hx1 hx2 e1 e2 e3 e4
  have HG0 : Aside0 (w.grownBy (w.alloc (.cells #[.int .u64 x0, .int .u64 x1, .int .u64 x2] 139)).drew (some b)) := ⟨(World.grownBy_alloc w _ _).trans (grown_drew _ _)⟩
  have HA0 : Aside0 (accF (w.alloc (.cells #[.int .u64 x0, .int .u64 x1, .int .u64 x2] 139)).drew b (wd N) u d) := ⟨(blk_alloc HA.out _ : _)⟩
  have HX : Aside0 ((w.alloc (.cells #[.int .u64 x0, .int .u64 x1, .int .u64 x2] 139)).drew.heap[w.heap.size]? = some (.cells #[.int .u64 x0, .int .u64 x1, .int .u64 x2] 139 (0, 0))) := ⟨blk_new w _⟩
  go_loopw [13, 14] (fun c i wr => ∃ j cc : Nat, k ≤ j ∧ j ≤ 68 ∧ i = .int .i64 j ∧ c = .int .u64 cc ∧ cc ≤ 1 ∧ RowKit.Hid (cc = borrow N V j) ∧ Aside0 (w.grownBy wr (some b)) ∧ Aside0 (accF wr b (mixW N (N + B 68 - V) j) u d) ∧ Aside0 (wr.heap[w.heap.size]? = some (.cells #[.int .u64 x0, .int .u64 x1, .int .u64 x2] 139 (0, 0)))) (fun _ i _ => 68 - (intOf i).toNat)
  case atStart =>
    exact ⟨k, 0, Nat.le_refl _, by omega, rfl, rfl, by omega, HC0, HG0, ⟨mix_start HA0.out (mix_low_true hk HVL.out HVM.out HVB.out)⟩, HX⟩
  case round =>
    obtain ⟨j, cc, hj0, hj1, rfl, rfl, hc1, HC, HG, HA2, HX2⟩ := hrel
    by_cases hlt : j < 68
    · have hcell := HA2.out.word j hlt
      rw [mixW_at] at hcell
      have hfree := HA2.out.free j
      have HW := Lib.hid (put_word_true (N := N) (V := V) hlt HVB.out HC.out)
      have HK := Lib.hid (put_carry_true (N := N) (V := V) (j := j) HC.out)
      by_cases hj3 : j < k + 3
      · have hcx : wr.cell? ⟨w.heap.size, j - k, none⟩ = some (.int .u64 ((wd V j : Nat) : Int)) := by
          rw [blk_cell HX2.out]
          obtain ⟨t, rfl⟩ : ∃ t, j = k + t := ⟨j - k, by omega⟩
          rw [show k + t - k = t by omega]
          have ht : t = 0 ∨ t = 1 ∨ t = 2 := by omega
          rcases ht with rfl | rfl | rfl
          · rw [HX0.out]; rfl
          · rw [HX1.out]; rfl
          · rw [HXX.out]; rfl
        have ha := fun w' => sub64_run (wd N j) (wd V j) cc hc1 w'
        obtain ⟨ww, hww⟩ : ∃ x, (wd N j + 18446744073709551616 - wd V j - cc) % 18446744073709551616 = x := ⟨_, rfl⟩
        obtain ⟨kk, hkk⟩ : ∃ x, (if wd N j < wd V j + cc then 1 else 0) = x := ⟨_, rfl⟩
        rw [hww, hkk] at ha
        rw [hww] at HW; rw [hkk] at HK
        clear hww hkk
        generalize wd N j = nn at *
        generalize wd V j = vv at *
        have hi0 : (0 : Int) ≤ (j : Int) - k := by omega
        have hi1 : (j : Int) - k < 3 := by omega
        clear HC
        go_wp2
        go_region
        go_wp2
        go_roundw
        case rel => exact ⟨j + 1, kk, by omega, by omega, by go_num, rfl, by rw [HK.out]; exact borrow_le N V _, HK, ⟨HG.out.trans ((grown_set _ b j _).trans (grown_drew _ _))⟩, ⟨mix_next HA2.out hlt HW.out⟩, ⟨blk_drew (blk_far HX2.out (Nat.ne_of_gt hb) _)⟩⟩
        case measure => simp [intOf]; omega
      · have HV0 := Lib.hid (HVS.out j (by omega))
        have ha := fun w' => sub64_run (wd N j) 0 cc hc1 w'
        rw [HV0.out] at HW HK
        obtain ⟨ww, hww⟩ : ∃ x, (wd N j + 18446744073709551616 - 0 - cc) % 18446744073709551616 = x := ⟨_, rfl⟩
        obtain ⟨kk, hkk⟩ : ∃ x, (if wd N j < 0 + cc then 1 else 0) = x := ⟨_, rfl⟩
        rw [hww, hkk] at ha
        rw [hww] at HW; rw [hkk] at HK
        rw [show ((0 : Nat) : Int) = 0 from rfl] at ha
        clear hww hkk
        generalize wd N j = nn at *
        clear HC
        go_wp2
        go_region
        go_wp2
        go_roundw
        case rel => exact ⟨j + 1, kk, by omega, by omega, by go_num, rfl, by rw [HK.out]; exact borrow_le N V _, HK, ⟨HG.out.trans ((grown_set _ b j _).trans (grown_drew _ _))⟩, ⟨mix_next HA2.out hlt HW.out⟩, ⟨blk_drew (blk_far HX2.out (Nat.ne_of_gt hb) _)⟩⟩
        case measure => simp [intOf]; omega
    · obtain rfl : j = 68 := by omega
      go_wp2
      go_end0
      exact ⟨rfl, HG, ⟨mix_end HA2.out⟩⟩

end Go.Proofs.YtepcegiciecogaaGreat
