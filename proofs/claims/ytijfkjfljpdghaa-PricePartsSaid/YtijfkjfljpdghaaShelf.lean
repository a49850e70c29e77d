/-
 DERIVED: THE SHELF's CONTRACTS AT THIS DUMP, IN PLAIN WORDS (tools/lay-plain.mjs out of 'TryShelf.lean', which tools/lay-shelf.mjs wrote): THE SAME DECLARATIONS UNDER THE SAME NAMES: 'import', 'namespace', 'open', 'def', 'theorem' AND NOTHING ELSE: no command of the shelf's: FOR A HAND-IN. Each laying: the table of numbers ('.._ren') and one theorem, a field a fact of the dump's own or the kernel's comparison; each contract: ONE APPLICATION.
-/
import Derived.Shelf.Small.Bits
import Derived.Shelf.Strconv.Itoa0
import Derived.Shelf.Bits.Mul64
import Derived.Shelf.SlSorted.Search
import Derived.Test.YtijfkjfljpdghaaProg
namespace Go.Proofs
open Go.Shelf
def Try.lays134_ren : Go.Shelf.Ren := ⟨fun | 134 => 54 | 129 => 55 | n => n, fun | 53 => 39 | 3 => 3 | 4 => 4 | 46 => 78 | 5 => 5 | 9 => 9 | n => n, fun | n => n⟩
theorem Try.lays134 : Go.Proofs.Lays.n134 Try.prog Try.lays134_ren := {
 mixed := by kernel_rfl
 f129 := Try.func55.trans (congrArg some (by kernel_rfl))
 f134 := Try.func54.trans (congrArg some (by kernel_rfl))
 t3 := Try.underlying3
 a3 := Try.isAgg3
 z3 := Try.sizeOf3
 v3 := Try.zeroValue3
 t4 := Try.underlying4
 a4 := Try.isAgg4
 z4 := Try.sizeOf4
 v4 := Try.zeroValue4
 t5 := Try.underlying5
 a5 := Try.isAgg5
 z5 := Try.sizeOf5
 v5 := Try.zeroValue5
 t9 := Try.underlying9
 a9 := Try.isAgg9
 z9 := Try.sizeOf9
 v9 := Try.zeroValue9
 t46 := Try.underlying78
 a46 := Try.isAgg78
 z46 := Try.sizeOf78
 v46 := Try.zeroValue78
 t53 := Try.underlying39
 a53 := Try.isAgg39
 z53 := Try.sizeOf39
 v53 := Try.zeroValue39 }
theorem Try.bits_LeadingZeros64 (x : Int) (w : World) (h0 : 0 ≤ x) (h1 : x ≤ 18446744073709551615) :
  Calls Try.prog 54 #[.int .u64 x] w fun e w' => e = .returned (.int .i64 (64 - (Lib.bitLen x.toNat : Int))) ∧ w' = w := Any.bits_LeadingZeros64 Try.lays134 x w h0 h1
def Try.lays129_ren : Go.Shelf.Ren := ⟨fun | 129 => 55 | n => n, fun | 53 => 39 | 3 => 3 | 4 => 4 | 46 => 78 | 5 => 5 | 9 => 9 | n => n, fun | n => n⟩
theorem Try.lays129 : Go.Proofs.Lays.n129 Try.prog Try.lays129_ren := {
 mixed := by kernel_rfl
 f129 := Try.func55.trans (congrArg some (by kernel_rfl))
 t3 := Try.underlying3
 a3 := Try.isAgg3
 z3 := Try.sizeOf3
 v3 := Try.zeroValue3
 t4 := Try.underlying4
 a4 := Try.isAgg4
 z4 := Try.sizeOf4
 v4 := Try.zeroValue4
 t5 := Try.underlying5
 a5 := Try.isAgg5
 z5 := Try.sizeOf5
 v5 := Try.zeroValue5
 t9 := Try.underlying9
 a9 := Try.isAgg9
 z9 := Try.sizeOf9
 v9 := Try.zeroValue9
 t46 := Try.underlying78
 a46 := Try.isAgg78
 z46 := Try.sizeOf78
 v46 := Try.zeroValue78
 t53 := Try.underlying39
 a53 := Try.isAgg39
 z53 := Try.sizeOf39
 v53 := Try.zeroValue39 }
theorem Try.bits_Len64 (x : Int) (w : World) (h0 : 0 ≤ x) (h1 : x ≤ 18446744073709551615) :
  Calls Try.prog 55 #[.int .u64 x] w fun e w' => e = .returned (.int .i64 (Lib.bitLen x.toNat)) ∧ w' = w := Any.bits_Len64 Try.lays129 x w h0 h1
def Try.lays264_ren : Go.Shelf.Ren := ⟨fun | 264 => 35 | n => n, fun | 53 => 39 | 46 => 78 | n => n, fun | n => n⟩
theorem Try.lays264 : Go.Proofs.Lays.n264 Try.prog Try.lays264_ren := {
 mixed := by kernel_rfl
 f264 := Try.func35.trans (congrArg some (by kernel_rfl))
 t46 := Try.underlying78
 a46 := Try.isAgg78
 z46 := Try.sizeOf78
 v46 := Try.zeroValue78
 t53 := Try.underlying39
 a53 := Try.isAgg39
 z53 := Try.sizeOf39
 v53 := Try.zeroValue39 }
open Go.RowKit Go.Lib in
theorem Try.bits_Mul64 (x y : Nat) (hx : x < 18446744073709551616) (hy : y < 18446744073709551616) (w : World) :
  Calls Try.prog 35 #[.int .u64 x, .int .u64 y] w fun e w' => e = .returned (.tuple #[.int .u64 ((x * y / 18446744073709551616 : Nat) : Int), .int .u64 ((x * y % 18446744073709551616 : Nat) : Int)]) ∧ w' = w := Any.bits_Mul64 Try.lays264 x y hx hy w
def Try.searchInts_ren : Go.Shelf.Ren := ⟨fun | 14 => 75 | 22 => 83 | 16 => 82 | n => n, fun | 28 => 23 | 3 => 3 | 0 => 0 | 35 => 80 | 4 => 4 | 38 => 78 | n => n, fun | n => n⟩
theorem Try.searchInts : Go.Proofs.SlLaysO.n14 Try.prog Try.searchInts_ren := {
 mixed := by kernel_rfl
 f14 := Try.func75.trans (congrArg some (by kernel_rfl))
 f16 := Try.func82.trans (congrArg some (by kernel_rfl))
 f22 := Try.func83.trans (congrArg some (by kernel_rfl))
 t0 := Try.underlying0
 a0 := Try.isAgg0
 z0 := Try.sizeOf0
 v0 := Try.zeroValue0
 t3 := Try.underlying3
 a3 := Try.isAgg3
 z3 := Try.sizeOf3
 v3 := Try.zeroValue3
 t4 := Try.underlying4
 a4 := Try.isAgg4
 z4 := Try.sizeOf4
 v4 := Try.zeroValue4
 t28 := Try.underlying23
 a28 := Try.isAgg23
 z28 := Try.sizeOf23
 v28 := Try.zeroValue23
 t35 := Try.underlying80
 a35 := Try.isAgg80
 z35 := Try.sizeOf80
 v35 := Try.zeroValue80
 t38 := Try.underlying78
 a38 := Try.isAgg78
 z38 := Try.sizeOf78
 v38 := Try.zeroValue78 }
open Go.RowKit Go.Lib Go.Sort in
theorem Try.sort_SearchInts (blk off cap : Nat) (d : Array Int) (x : Int) (w : World) (hc : ∀ i, i < d.size → w.cell? ⟨blk, off + i, none⟩ = some (.int .i64 d[i]!)) (hblk : blk < w.heap.size) (hsz : d.size < 4611686018427387904) (hs : ∀ a b, a ≤ b → b < d.size → (decide (x ≤ d[a]!)) = true → (decide (x ≤ d[b]!)) = true) :
  Calls Try.prog 75 #[.slice (some ⟨blk, off, none⟩) d.size cap, .int .i64 x] w fun e w' => e = .returned (.int .i64 (d.toList.countP (fun y => !decide (x ≤ y)) : Nat)) ∧ Below w.heap.size w w' := Any.sort_SearchInts Try.searchInts blk off cap d x w hc hblk hsz hs
end Go.Proofs
