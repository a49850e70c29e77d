/-
 DERIVED: THE SHELF's CONTRACTS AT THIS DUMP, IN PLAIN WORDS (tools/lay-plain.mjs out of 'TryzShelf.lean', which tools/lay-shelf.mjs wrote): THE SAME DECLARATIONS UNDER THE SAME NAMES: 'import', 'namespace', 'open', 'def', 'theorem' AND NOTHING ELSE: no command of the shelf's: FOR A HAND-IN. Each laying: the table of numbers ('.._ren') and one theorem, a field a fact of the dump's own or the kernel's comparison; each contract: ONE APPLICATION.
-/
import Derived.Shelf.Small.Bits
import Derived.Shelf.Strconv.Itoa0
import Derived.Shelf.Bits.Mul64
import Derived.Ground.SlsfProg
import Derived.Shelf.SlSortCmp.Insertion
import Derived.Shelf.SlSortCmp.SiftDown1
import Derived.Shelf.SlSortCmp.HeapSort1
import Derived.Shelf.SlSortCmp.Insertion1
import Derived.Shelf.SlSortCmp.Median1
import Derived.Shelf.SlSortCmp.Pivot1
import Derived.Shelf.SlSortCmp.ReverseRange1
import Derived.Shelf.SlSortCmp.PartialInsertion1
import Derived.Shelf.SlSortCmp.PartitionEqual1
import Derived.Shelf.SlSortCmp.Partition1
import Derived.Shelf.SlSortCmp.Pdq1
import Derived.Shelf.SlSortCmp.Whole1
import Derived.Shelf.SlSortCmp.NoneTotal
import Derived.Shelf.SlSorted.Search
import Derived.Test.YtmdoljecjliehaaGreatProg
namespace Go.Proofs
open Go.Shelf
def Tryz.lays134_ren : Go.Shelf.Ren := ⟨fun | 134 => 224 | 129 => 225 | n => n, fun | 53 => 33 | 3 => 3 | 4 => 4 | 46 => 216 | 5 => 5 | 9 => 9 | n => n, fun | n => n⟩
theorem Tryz.lays134 : Go.Proofs.Lays.n134 Tryz.prog Tryz.lays134_ren := {
 mixed := by kernel_rfl
 f129 := Tryz.func225.trans (congrArg some (by kernel_rfl))
 f134 := Tryz.func224.trans (congrArg some (by kernel_rfl))
 t3 := Tryz.underlying3
 a3 := Tryz.isAgg3
 z3 := Tryz.sizeOf3
 v3 := Tryz.zeroValue3
 t4 := Tryz.underlying4
 a4 := Tryz.isAgg4
 z4 := Tryz.sizeOf4
 v4 := Tryz.zeroValue4
 t5 := Tryz.underlying5
 a5 := Tryz.isAgg5
 z5 := Tryz.sizeOf5
 v5 := Tryz.zeroValue5
 t9 := Tryz.underlying9
 a9 := Tryz.isAgg9
 z9 := Tryz.sizeOf9
 v9 := Tryz.zeroValue9
 t46 := Tryz.underlying216
 a46 := Tryz.isAgg216
 z46 := Tryz.sizeOf216
 v46 := Tryz.zeroValue216
 t53 := Tryz.underlying33
 a53 := Tryz.isAgg33
 z53 := Tryz.sizeOf33
 v53 := Tryz.zeroValue33 }
theorem Tryz.bits_LeadingZeros64 (x : Int) (w : World) (h0 : 0 ≤ x) (h1 : x ≤ 18446744073709551615) :
  Calls Tryz.prog 224 #[.int .u64 x] w fun e w' => e = .returned (.int .i64 (64 - (Lib.bitLen x.toNat : Int))) ∧ w' = w := Any.bits_LeadingZeros64 Tryz.lays134 x w h0 h1
def Tryz.lays129_ren : Go.Shelf.Ren := ⟨fun | 129 => 225 | n => n, fun | 53 => 33 | 3 => 3 | 4 => 4 | 46 => 216 | 5 => 5 | 9 => 9 | n => n, fun | n => n⟩
theorem Tryz.lays129 : Go.Proofs.Lays.n129 Tryz.prog Tryz.lays129_ren := {
 mixed := by kernel_rfl
 f129 := Tryz.func225.trans (congrArg some (by kernel_rfl))
 t3 := Tryz.underlying3
 a3 := Tryz.isAgg3
 z3 := Tryz.sizeOf3
 v3 := Tryz.zeroValue3
 t4 := Tryz.underlying4
 a4 := Tryz.isAgg4
 z4 := Tryz.sizeOf4
 v4 := Tryz.zeroValue4
 t5 := Tryz.underlying5
 a5 := Tryz.isAgg5
 z5 := Tryz.sizeOf5
 v5 := Tryz.zeroValue5
 t9 := Tryz.underlying9
 a9 := Tryz.isAgg9
 z9 := Tryz.sizeOf9
 v9 := Tryz.zeroValue9
 t46 := Tryz.underlying216
 a46 := Tryz.isAgg216
 z46 := Tryz.sizeOf216
 v46 := Tryz.zeroValue216
 t53 := Tryz.underlying33
 a53 := Tryz.isAgg33
 z53 := Tryz.sizeOf33
 v53 := Tryz.zeroValue33 }
theorem Tryz.bits_Len64 (x : Int) (w : World) (h0 : 0 ≤ x) (h1 : x ≤ 18446744073709551615) :
  Calls Tryz.prog 225 #[.int .u64 x] w fun e w' => e = .returned (.int .i64 (Lib.bitLen x.toNat)) ∧ w' = w := Any.bits_Len64 Tryz.lays129 x w h0 h1
def Tryz.lays264_ren : Go.Shelf.Ren := ⟨fun | 264 => 154 | n => n, fun | 53 => 33 | 46 => 216 | n => n, fun | n => n⟩
theorem Tryz.lays264 : Go.Proofs.Lays.n264 Tryz.prog Tryz.lays264_ren := {
 mixed := by kernel_rfl
 f264 := Tryz.func154.trans (congrArg some (by kernel_rfl))
 t46 := Tryz.underlying216
 a46 := Tryz.isAgg216
 z46 := Tryz.sizeOf216
 v46 := Tryz.zeroValue216
 t53 := Tryz.underlying33
 a53 := Tryz.isAgg33
 z53 := Tryz.sizeOf33
 v53 := Tryz.zeroValue33 }
open Go.RowKit Go.Lib in
theorem Tryz.bits_Mul64 (x y : Nat) (hx : x < 18446744073709551616) (hy : y < 18446744073709551616) (w : World) :
  Calls Tryz.prog 154 #[.int .u64 x, .int .u64 y] w fun e w' => e = .returned (.tuple #[.int .u64 ((x * y / 18446744073709551616 : Nat) : Int), .int .u64 ((x * y % 18446744073709551616 : Nat) : Int)]) ∧ w' = w := Any.bits_Mul64 Tryz.lays264 x y hx hy w
def Tryz.laysSlF6_f196_ren : Go.Shelf.Ren := ⟨fun | 6 => 196 | 15 => 246 | 14 => 245 | 28 => 287 | 29 => 225 | 20 => 279 | 21 => 280 | 22 => 281 | 23 => 282 | 24 => 283 | 25 => 284 | 26 => 285 | 27 => 286 | 46 => 303 | 47 => 304 | 48 => 305 | 49 => 306 | 50 => 307 | 57 => 312 | n => n, fun | 22 => 23 | 24 => 30 | 25 => 238 | 3 => 3 | 39 => 216 | 0 => 0 | 53 => 304 | 55 => 33 | 4 => 4 | 46 => 298 | 45 => 297 | 50 => 183 | 5 => 5 | 9 => 9 | 66 => 320 | 70 => 324 | 76 => 328 | 77 => 55 | n => n, fun | n => n⟩
theorem Tryz.laysSlF6_f196 : Go.Proofs.SlLaysF.n6 Tryz.prog Tryz.laysSlF6_f196_ren := {
 mixed := by kernel_rfl
 f6 := ⟨Tryz.f196.name, by decide, Tryz.func196.trans (congrArg some (by kernel_rfl))⟩
 f14 := ⟨Tryz.f245.name, by decide, Tryz.func245.trans (congrArg some (by kernel_rfl))⟩
 f15 := Tryz.func246.trans (congrArg some (by kernel_rfl))
 f20 := ⟨Tryz.f279.name, by decide, Tryz.func279.trans (congrArg some (by kernel_rfl))⟩
 f21 := ⟨Tryz.f280.name, by decide, Tryz.func280.trans (congrArg some (by kernel_rfl))⟩
 f22 := ⟨Tryz.f281.name, by decide, Tryz.func281.trans (congrArg some (by kernel_rfl))⟩
 f23 := ⟨Tryz.f282.name, by decide, Tryz.func282.trans (congrArg some (by kernel_rfl))⟩
 f24 := ⟨Tryz.f283.name, by decide, Tryz.func283.trans (congrArg some (by kernel_rfl))⟩
 f25 := ⟨Tryz.f284.name, by decide, Tryz.func284.trans (congrArg some (by kernel_rfl))⟩
 f26 := ⟨Tryz.f285.name, by decide, Tryz.func285.trans (congrArg some (by kernel_rfl))⟩
 f27 := ⟨Tryz.f286.name, by decide, Tryz.func286.trans (congrArg some (by kernel_rfl))⟩
 f28 := Tryz.func287.trans (congrArg some (by kernel_rfl))
 f29 := Tryz.func225.trans (congrArg some (by kernel_rfl))
 f46 := ⟨Tryz.f303.name, by decide, Tryz.func303.trans (congrArg some (by kernel_rfl))⟩
 f47 := Tryz.func304.trans (congrArg some (by kernel_rfl))
 f48 := Tryz.func305.trans (congrArg some (by kernel_rfl))
 f49 := ⟨Tryz.f306.name, by decide, Tryz.func306.trans (congrArg some (by kernel_rfl))⟩
 f50 := ⟨Tryz.f307.name, by decide, Tryz.func307.trans (congrArg some (by kernel_rfl))⟩
 f57 := ⟨Tryz.f312.name, by decide, Tryz.func312.trans (congrArg some (by kernel_rfl))⟩
 t0 := Tryz.underlying0
 a0 := Tryz.isAgg0
 z0 := Tryz.sizeOf0
 v0 := Tryz.zeroValue0
 t3 := Tryz.underlying3
 a3 := Tryz.isAgg3
 z3 := Tryz.sizeOf3
 v3 := Tryz.zeroValue3
 t4 := Tryz.underlying4
 a4 := Tryz.isAgg4
 z4 := Tryz.sizeOf4
 v4 := Tryz.zeroValue4
 t5 := Tryz.underlying5
 a5 := Tryz.isAgg5
 z5 := Tryz.sizeOf5
 v5 := Tryz.zeroValue5
 t9 := Tryz.underlying9
 a9 := Tryz.isAgg9
 z9 := Tryz.sizeOf9
 v9 := Tryz.zeroValue9
 t22 := Tryz.underlying23
 a22 := Tryz.isAgg23
 z22 := Tryz.sizeOf23
 v22 := Tryz.zeroValue23
 a24 := Tryz.isAgg30
 z24 := Tryz.sizeOf30
 t25 := Tryz.underlying238
 a25 := Tryz.isAgg238
 z25 := Tryz.sizeOf238
 v25 := Tryz.zeroValue238
 t39 := Tryz.underlying216
 a39 := Tryz.isAgg216
 z39 := Tryz.sizeOf216
 v39 := Tryz.zeroValue216
 t45 := Tryz.underlying297
 a45 := Tryz.isAgg297
 z45 := Tryz.sizeOf297
 v45 := Tryz.zeroValue297
 t46 := Tryz.underlying298
 a46 := Tryz.isAgg298
 z46 := Tryz.sizeOf298
 v46 := Tryz.zeroValue298
 t50 := Tryz.underlying183
 a50 := Tryz.isAgg183
 z50 := Tryz.sizeOf183
 v50 := Tryz.zeroValue183
 t53 := Tryz.underlying304
 a53 := Tryz.isAgg304
 z53 := Tryz.sizeOf304
 v53 := Tryz.zeroValue304
 t55 := Tryz.underlying33
 a55 := Tryz.isAgg33
 z55 := Tryz.sizeOf33
 v55 := Tryz.zeroValue33
 t66 := Tryz.underlying320
 a66 := Tryz.isAgg320
 z66 := Tryz.sizeOf320
 v66 := Tryz.zeroValue320
 t70 := Tryz.underlying324
 a70 := Tryz.isAgg324
 z70 := Tryz.sizeOf324
 v70 := Tryz.zeroValue324
 t76 := Tryz.underlying328
 a76 := Tryz.isAgg328
 z76 := Tryz.sizeOf328
 v76 := Tryz.zeroValue328
 t77 := Tryz.underlying55
 a77 := Tryz.isAgg55
 z77 := Tryz.sizeOf55
 v77 := Tryz.zeroValue55 }
open Go.RowKit Go.Lib Go.Sort in
theorem Tryz.slices_SortFunc_eq {α : Type} [Inhabited α] (enc : α → Value) (h1 : OneCell enc) (cf : α → α → Int) (hO : SWO (ltOf cf)) (g : Nat) (cb : Array Value) (blk off cap : Nat) (d : Array α) (w : World) (eg : ∀ args w, (callFunc g args).run Tryz.prog w = .ok (.enter g args) w) (hcmp : CmpLays1 Tryz.prog g cb enc cf blk off d.size w) (hH : Holds enc w blk off d) (hblk : blk < w.heap.size) (hsz : d.size < 4611686018427387904) :
  Calls Tryz.prog 196 #[.slice (some ⟨blk, off, none⟩) d.size cap, .func (.func g) #[] cb] w fun e w' =>
   e = .returned (.tuple #[]) ∧ ∃ n os, w' = sortWorld enc w blk off n (pdq (ltOf cf) d 0 d.size (Lib.bitLen d.size) true true) os := Any.slices_SortFunc_eq Tryz.laysSlF6_f196 enc h1 cf hO g cb blk off cap d w eg hcmp hH hblk hsz
def Tryz.searchInts_ren : Go.Shelf.Ren := ⟨fun | 14 => 241 | 22 => 274 | 16 => 273 | n => n, fun | 28 => 22 | 3 => 3 | 0 => 0 | 35 => 206 | 4 => 4 | 38 => 216 | n => n, fun | n => n⟩
theorem Tryz.searchInts : Go.Proofs.SlLaysO.n14 Tryz.prog Tryz.searchInts_ren := {
 mixed := by kernel_rfl
 f14 := Tryz.func241.trans (congrArg some (by kernel_rfl))
 f16 := Tryz.func273.trans (congrArg some (by kernel_rfl))
 f22 := Tryz.func274.trans (congrArg some (by kernel_rfl))
 t0 := Tryz.underlying0
 a0 := Tryz.isAgg0
 z0 := Tryz.sizeOf0
 v0 := Tryz.zeroValue0
 t3 := Tryz.underlying3
 a3 := Tryz.isAgg3
 z3 := Tryz.sizeOf3
 v3 := Tryz.zeroValue3
 t4 := Tryz.underlying4
 a4 := Tryz.isAgg4
 z4 := Tryz.sizeOf4
 v4 := Tryz.zeroValue4
 t28 := Tryz.underlying22
 a28 := Tryz.isAgg22
 z28 := Tryz.sizeOf22
 v28 := Tryz.zeroValue22
 t35 := Tryz.underlying206
 a35 := Tryz.isAgg206
 z35 := Tryz.sizeOf206
 v35 := Tryz.zeroValue206
 t38 := Tryz.underlying216
 a38 := Tryz.isAgg216
 z38 := Tryz.sizeOf216
 v38 := Tryz.zeroValue216 }
open Go.RowKit Go.Lib Go.Sort in
theorem Tryz.sort_SearchInts (blk off cap : Nat) (d : Array Int) (x : Int) (w : World) (hc : ∀ i, i < d.size → w.cell? ⟨blk, off + i, none⟩ = some (.int .i64 d[i]!)) (hblk : blk < w.heap.size) (hsz : d.size < 4611686018427387904) (hs : ∀ a b, a ≤ b → b < d.size → (decide (x ≤ d[a]!)) = true → (decide (x ≤ d[b]!)) = true) :
  Calls Tryz.prog 241 #[.slice (some ⟨blk, off, none⟩) d.size cap, .int .i64 x] w fun e w' => e = .returned (.int .i64 (d.toList.countP (fun y => !decide (x ≤ y)) : Nat)) ∧ Below w.heap.size w w' := Any.sort_SearchInts Tryz.searchInts blk off cap d x w hc hblk hsz hs
end Go.Proofs
