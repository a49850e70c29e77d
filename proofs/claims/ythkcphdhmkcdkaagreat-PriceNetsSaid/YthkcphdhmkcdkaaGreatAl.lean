/- Texts packed into one: Aj Ak Al. No condition. -/
import Derived.Test.YthkcphdhmkcdkaaGreatAg
import Derived.WalkKit
import Derived.Lib.Hide
import Derived.WalkSpells
import Derived.WalkLawsBesides
import Derived.Deep.QuietTactic
import Derived.BigQuiet
import Derived.BigRegion
import Derived.Laws.Rows
import Derived.ChangeKeysEq
section
/- Contracts of package acc: Copy, Turn. -/
namespace Go.Proofs.YthkcphdhmkcdkaaGreat
open Go.RowKit Go.Proofs.YthkcphdhmkcdkaaGreatW.PrintWords Tn

def eqW (N M : Nat) : List Nat → Bool
  | [] => true
  | i :: l => decide (wd N i = wd M i) && eqW N M l
theorem eqW_iff {N M : Nat} : ∀ l : List Nat, eqW N M l = true ↔ ∀ i ∈ l, wd N i = wd M i
  | [] => by simp [eqW]
  | i :: l => by simp [eqW, eqW_iff l]
theorem mod_words {N M : Nat} : ∀ n, (∀ i, i < n → wd N i = wd M i) → N % B n = M % B n
  | 0, _ => by rw [B_zero, Nat.mod_one, Nat.mod_one]
  | n + 1, h => by
    have h1 := mod_words n (fun i hi => h i (by omega))
    have h2 := h n (by omega)
    unfold wd at h2
    rw [B_succ, Nat.mod_mul, Nat.mod_mul, h1, h2]
theorem eqW_all {N M : Nat} (hN : N < B 68) (hM : M < B 68) : eqW N M (List.range 68) = decide (N = M) := by
  rw [Bool.eq_iff_iff, decide_eq_true_iff, eqW_iff]
  constructor
  · intro h
    have := mod_words 68 (fun i hi => h i (List.mem_range.2 hi))
    rwa [Nat.mod_eq_of_lt hN, Nat.mod_eq_of_lt hM] at this
  · rintro rfl i _; rfl
theorem part_word (f : Nat → Nat) (j : Nat) (hj : j < 68) (w : World) : (part 37 (rowF f) (j * 1)).run Tryz.prog w = .ok (.int .u64 ((f j : Nat) : Int)) w := by
  have h1 := rowF_word f j hj
  have hi : (Tryz.prog.info? 37).map (·.size) = some 1 := by kernel_rfl
  obtain ⟨i, hi1, hi2⟩ := Option.map_eq_some_iff.1 hi
  rw [Nat.mul_one]
  simp [sizeOf, typeInfo, hi1, hi2, part, Sem.run_bind, h1]
theorem eq_word (d : Nat) (a b : Nat) (w : World) : (Op.equalIn (d + 1) 37 (.int .u64 (a : Int)) (.int .u64 (b : Int))).run Tryz.prog w = .ok (decide (a = b)) w := by
  have hu : (underlying 37).run Tryz.prog w = .ok _ w := run_underlying Tryz.underlying37 w
  simp only [Op.equalIn, Sem.run_bind, hu, Result.andThen_ok]
  simp
  rw [Bool.eq_iff_iff]; simp
  omega
theorem eq_items (d : Nat) (N M : Nat) (w : World) : ∀ l : List Nat, (∀ i ∈ l, i < 68) → (Op.eqItems (d + 1) 37 1 (rowF (wd N)) (rowF (wd M)) l).run Tryz.prog w = .ok (eqW N M l) w
  | [], _ => by simp [Op.eqItems, eqW]
  | i :: l, h => by
    have h1 := part_word (wd N) i (h i (List.mem_cons_self ..)) w
    have h2 := part_word (wd M) i (h i (List.mem_cons_self ..)) w
    have h3 := eq_word d (wd N i) (wd M i) w
    have h4 := eq_items d N M w l (fun j hj => h j (List.mem_cons_of_mem _ hj))
    simp only [Op.eqItems, Sem.run_bind, h1, h2, h3, Result.andThen_ok, eqW]
    cases decide (wd N i = wd M i)
    · simp
    · simpa using h4
theorem row_eq0 (d N M : Nat) (hN : N < B 68) (hM : M < B 68) (w : World) : (Op.equalIn (d + 1 + 1) 104 (.agg (rowF (wd N))) (.agg (rowF (wd M)))).run Tryz.prog w = .ok (decide (N = M)) w := by
  have hi : (Tryz.prog.info? 37).isSome = true := by kernel_rfl
  obtain ⟨i, hi⟩ := Option.isSome_iff_exists.1 hi
  have hc : Tryz.prog.cellsOf 37 = 1 := by kernel_rfl
  rw [run_equalIn_array w (d + 1) (rowF (wd N)) (rowF (wd M)) Tryz.underlying104 hi, hc, eq_items d N M w _ (fun i hi => List.mem_range.1 hi), eqW_all hN hM]
theorem row_eq (N M : Nat) (hN : N < B 68) (hM : M < B 68) (w : World) : (Op.equalIn 10000 104 (.agg (rowF (wd N))) (.agg (rowF (wd M)))).run Tryz.prog w = .ok (decide (N = M)) w := row_eq0 9998 N M hN hM w

end Go.Proofs.YthkcphdhmkcdkaaGreat
end

section
/- Contracts of package acc: Same (sums of numbers). -/
namespace Go.Proofs.YthkcphdhmkcdkaaGreat
open Go.RowKit Go.Proofs.YthkcphdhmkcdkaaGreatW.PrintWords Tn

def signZ (Z : Int) : Int := if Z < 0 then -1 else if Z = 0 then 0 else 1
theorem modB_none {Z : Int} (h : Z.natAbs < B 67) : decide (modB Z = 0) = decide (Z = 0) := by
  rw [Bool.eq_iff_iff, decide_eq_true_iff, decide_eq_true_iff]
  constructor
  · intro h0
    by_cases c : 0 ≤ Z
    · rw [modB_posi h c] at h0; omega
    · have h1 := modB_neg h (by omega)
      rw [h0, Nat.zero_add, Nat.sub_zero, Nat.mod_self] at h1
      omega
  · rintro rfl; exact modB_zero
theorem row_none : rowF (wd 0) = rowF (fun _ => 0) := rowF_congr fun i _ => by unfold wd; simp

set_option maxRecDepth 100000 in
set_option maxHeartbeats 400000 in
theorem sign_fin (b : Nat) (Z : Int) (w : World) (hZ : Z.natAbs < B 67) (h : accZ w b Z false false) :
    Calls Tryz.prog 22 #[.pointer (some ⟨b, 0, none⟩)] w fun e w' => e = .returned (.int .i64 (signZ Z)) ∧ w = w' := by
  have a68 := accF.up h
  have a69 := accF.down h
  have HA := Aside0.mk (show acc w b (modB Z) false false from h)
  have HB := Lib.hid (below_sign hZ)
  have HI := Lib.hid info68
  have he := fun w' => row_eq (modB Z) 0 (modB_lt Z) (B_pos 68) w'
  rw [modB_none hZ, row_none] at he
  have hz0 := zero_row
  obtain ⟨x, hx⟩ : ∃ x, rowF (wd (modB Z)) = x := ⟨_, rfl⟩
  obtain ⟨y, hy⟩ : ∃ y, rowF (fun _ => 0) = y := ⟨_, rfl⟩
  have HSX : RowKit.Hid (x.size = 68) := by rw [← hx]; exact rowF_size _
  have HPR : RowKit.Hid (∀ (j : Nat) (v : Value), x[j]? = some v → (cellsF (wd (modB Z)) false false)[j]? = some v) := by rw [← hx]; exact part_row _ _ _
  rw [hx, hy] at he
  rw [hy] at hz0
  clear h hZ hx hy
  rcases Int.lt_trichotomy Z 0 with hs | hs | hs
  · have b0 : decide (Z < 0) = true := decide_eq_true (by omega)
    have HR := Lib.hid (show signZ Z = -1 from by unfold signZ; rw [if_pos (by omega)])
    rw [b0] at HB
    clear hs b0
    go_enter Tryz.func22, Tryz.ntmps22
    go_wp2_with (first | (refine wpList_load_part rfl 104 (.tmp 31) rfl b rfl 106 (cellsF (wd (modB Z)) false false) x _ HA.out HPR.out Tryz.underlying104 rfl (by rw [HSX.out]; exact HI.out) ?_) | (go_at_call 56; refine (below_any b (modB Z) false false _ HA.out).mono ?_; rintro e w' ⟨rfl, rfl⟩; rw [HB.out]))
    go_ret
    exact ⟨ret_i HR.out.symm, rfl⟩
  · have b0 : decide (Z < 0) = false := decide_eq_false (by omega)
    have b1 : decide (Z = 0) = true := decide_eq_true (by omega)
    have HR := Lib.hid (show signZ Z = 0 from by unfold signZ; rw [if_neg (by omega), if_pos (by omega)])
    rw [b0] at HB
    rw [b1] at he
    clear hs b0 b1
    go_enter Tryz.func22, Tryz.ntmps22
    go_wp2_with (first | (refine wpList_load_part rfl 104 (.tmp 31) rfl b rfl 106 (cellsF (wd (modB Z)) false false) x _ HA.out HPR.out Tryz.underlying104 rfl (by rw [HSX.out]; exact HI.out) ?_) | (go_at_call 56; refine (below_any b (modB Z) false false _ HA.out).mono ?_; rintro e w' ⟨rfl, rfl⟩; rw [HB.out]))
    go_ret
    exact ⟨ret_i HR.out.symm, rfl⟩
  · have b0 : decide (Z < 0) = false := decide_eq_false (by omega)
    have b1 : decide (Z = 0) = false := decide_eq_false (by omega)
    have HR := Lib.hid (show signZ Z = 1 from by unfold signZ; rw [if_neg (by omega), if_neg (by omega)])
    rw [b0] at HB
    rw [b1] at he
    clear hs b0 b1
    go_enter Tryz.func22, Tryz.ntmps22
    go_wp2_with (first | (refine wpList_load_part rfl 104 (.tmp 31) rfl b rfl 106 (cellsF (wd (modB Z)) false false) x _ HA.out HPR.out Tryz.underlying104 rfl (by rw [HSX.out]; exact HI.out) ?_) | (go_at_call 56; refine (below_any b (modB Z) false false _ HA.out).mono ?_; rintro e w' ⟨rfl, rfl⟩; rw [HB.out]))
    go_ret
    exact ⟨ret_i HR.out.symm, rfl⟩

end Go.Proofs.YthkcphdhmkcdkaaGreat
end

section
/- Contracts of package price: Nothing, Turned, Plus. -/
namespace Go.Proofs.YthkcphdhmkcdkaaGreat
open Go.RowKit Go.Proofs.YthkcphdhmkcdkaaGreatW.PrintWords Tn

/-- the block at g points to a sum, at b, of the worth Z (in units), all of numbers. -/
structure worth (w : World) (g b : Nat) (Z : Int) : Prop where
  p : w.heap[g]? = some (.cells #[.pointer (some ⟨b, 0, none⟩)] 61 (0, 0))
  a : accZ w b Z false false
theorem worth.cell {w : World} {g b : Nat} {Z : Int} (h : worth w g b Z) : w.cell? ⟨g, 0, none⟩ = some (.pointer (some ⟨b, 0, none⟩)) := (blk_cell h.p 0).trans rfl
theorem worth.lt {w : World} {g b : Nat} {Z : Int} (h : worth w g b Z) : g < w.heap.size ∧ b < w.heap.size := ⟨(Array.getElem?_eq_some_iff.1 h.p).1, (Array.getElem?_eq_some_iff.1 (show w.heap[b]? = some _ from h.a)).1⟩
theorem worth.ne {w : World} {g b : Nat} {Z : Int} (h : worth w g b Z) : g ≠ b := by
  rintro rfl
  have h1 : w.heap[g]? = some (.cells (cellsF (wd (modB Z)) false false) 106 (0, 0)) := h.a
  rw [h.p] at h1
  have h2 := Option.some.inj h1
  injection h2 with _ h3 _
  exact absurd h3 (by decide)
theorem worth.below {w w' : World} {g b : Nat} {Z : Int} (h : worth w g b Z) (hb : Below w.heap.size w w') : worth w' g b Z := by
  obtain ⟨h1, h2⟩ := h.lt
  exact ⟨(hb.block g h1).trans h.p, (hb.block b h2).trans h.a⟩
theorem acc_new2 (W : World) : accZ (W.alloc (.cells (cellsF (fun _ => 0) false false) 106)) W.heap.size 0 false false := by
  have h := heap_alloc_new W (.cells (cellsF (fun _ => 0) false false) 106)
  have e : cellsF (wd (modB 0)) false false = cellsF (fun _ => 0) false false := cellsF_congr _ _ (fun i _ => by simp [wd, modB])
  unfold accZ acc accF
  rw [e]; exact h
theorem worth_alloc {W : World} {b : Nat} {Z : Int} (h : accZ W b Z false false) : worth (W.alloc (.cells #[.pointer (some ⟨b, 0, none⟩)] 61)) W.heap.size b Z :=
  ⟨heap_alloc_new W _, (blk_alloc h _ : _)⟩

set_option maxRecDepth 100000 in
set_option maxHeartbeats 400000 in
theorem nothing_any (w : World) :
    Calls Tryz.prog 35 #[] w fun e w' => e = .returned (.pointer (some ⟨w.heap.size + 1, 0, none⟩)) ∧ Aside0 (Below w.heap.size w w') ∧ Aside0 (worth w' (w.heap.size + 1) w.heap.size 0) := by
  have HA := Aside0.mk (acc_new2 w)
  have HB := Aside0.mk (below_alloc (Below.refl w.heap.size w) (.cells (cellsF (fun _ => 0) false false) 106))
  have HS : RowKit.Hid ((w.alloc (.cells (cellsF (fun _ => 0) false false) 106)).heap.size = w.heap.size + 1) := by unfold World.alloc; exact Array.size_push _
  go_enter Tryz.func35, Tryz.ntmps35
  go_wp2_with (go_at_call 37; refine (new_any _).mono ?_; rintro e w' ⟨rfl, rfl⟩; have HS' := HS.out; generalize w.alloc (.cells (cellsF (fun _ => 0) false false) 106) = W1 at *)
  go_ret
  have h1 := worth_alloc HA.out
  rw [HS.out] at h1
  exact ⟨rfl, ⟨below_alloc HB.out _⟩, ⟨h1⟩⟩

end Go.Proofs.YthkcphdhmkcdkaaGreat
end
