/-
  No cell of these rows narrows 'for every input' (looked for: loops, veiled, ifaces, maps, wideKeys, modest, calm, conditions, laid).
  DERIVED. THE GIVEN ROWS OF THIS SEAT. 5 by the template 'for every input the law returns true; each argument reads behind the call as it read before'; 0 by the template 'total and deterministic' (their statements: YtepcegiciecogaaTotals.lean).
  GIVEN WITH THE SEED: the statements are not yours to turn. If you find one false, say at which input.
  Laid BY PROGRAM, IN A SANDBOX (cutbox-rows.mjs): the forced cells as the released guide's own fill.sh prints them over the translation 8d1042d9dbb333b9… (all of the seat's roots in one cut). By AI agents, Wed Nov 11 2026. No macro, syntax, notation, axiom, sorry.
-/
import Derived.Test.YtepcegiciecogaaChecked
import GoSem.Claim
import GoSem.ClaimJoined
import GoSem.ClaimMapViews
import Derived.JoinedTies
import Derived.KernelRfl
namespace Go.Proofs.Ytepcegiciecogaa
/- THE CELL 'sum', in the pinned program and in every row, IS THE sha256 OF THE DUMP (.gsa) THAT YtepcegiciecogaaProg.lean LOADS. Nothing in Lean hashes anything: it is a label: what it is worth is what the hold of that sum in a sandbox is worth. -/
noncomputable def Try.pinned : Pinned := { name := "ytepcegiciecogaa", sum := "8d1042d9dbb333b92f179b34c96c6887cd16fb29f03ab2eb563a22cb3c4f8ca4", checked := Try.checked }
namespace Rows
def none {H : Type} : Left H := { results := [], args := [] }

/-- 'tenorlaw14.FlowChecks': WHATEVER THE INPUT: true; the input reads as it did. -/
def flowChecksSpec : ChangeSpec := { name := "flowChecks", fn := fun _ => fun
  | [d] => { results := [.lit (.bool true)], args := [d] }
  | _ => none }
def flowChecksRow : OpenClaim := { program := "ytepcegiciecogaa", sum := "8d1042d9dbb333b92f179b34c96c6887cd16fb29f03ab2eb563a22cb3c4f8ca4", func := "tenor/tenorlaw14.FlowChecks", spec := "flowChecks", inPlace := ["math.Float64bits", "math/bits.Sub64", "math/bits.Add64", "math.Float64frombits"], unfollowed := true, recurses := true, named := ["math/bits.divideError", "math/bits.overflowError"], plainKeys := false, apart := false }
def FlowChecksSaid : Prop := flowChecksRow.holds Try.pinned (OpenSpec.ofChange flowChecksSpec)

/-- ITS FALSE NEIGHBOUR: 'it returns false'. Refute it at one input. -/
def flowChecksWrong : ChangeSpec := { name := "flowChecks", fn := fun _ => fun
  | [d] => { results := [.lit (.bool false)], args := [d] }
  | _ => none }
def FlowChecksWrongFalsely : Prop := flowChecksRow.holds Try.pinned (OpenSpec.ofChange flowChecksWrong)

/-- 'tenorlaw14.FlowOrder': WHATEVER THE INPUT: true; the input reads as it did. -/
def flowOrderSpec : ChangeSpec := { name := "flowOrder", fn := fun _ => fun
  | [d1, d2] => { results := [.lit (.bool true)], args := [d1, d2] }
  | _ => none }
def flowOrderRow : OpenClaim := { program := "ytepcegiciecogaa", sum := "8d1042d9dbb333b92f179b34c96c6887cd16fb29f03ab2eb563a22cb3c4f8ca4", func := "tenor/tenorlaw14.FlowOrder", spec := "flowOrder", inPlace := ["math.Float64bits", "math/bits.Sub64", "math/bits.Add64", "math.Float64frombits"], unfollowed := true, recurses := true, named := ["math/bits.divideError", "math/bits.overflowError"], plainKeys := false, apart := false }
def FlowOrderSaid : Prop := flowOrderRow.holds Try.pinned (OpenSpec.ofChange flowOrderSpec)

/-- ITS FALSE NEIGHBOUR: 'it returns false'. Refute it at one input. -/
def flowOrderWrong : ChangeSpec := { name := "flowOrder", fn := fun _ => fun
  | [d1, d2] => { results := [.lit (.bool false)], args := [d1, d2] }
  | _ => none }
def FlowOrderWrongFalsely : Prop := flowOrderRow.holds Try.pinned (OpenSpec.ofChange flowOrderWrong)

/-- 'tenorlaw14.FlowTwice': WHATEVER THE INPUT: true; the input reads as it did. -/
def flowTwiceSpec : ChangeSpec := { name := "flowTwice", fn := fun _ => fun
  | [d1, d2, d3, d4] => { results := [.lit (.bool true)], args := [d1, d2, d3, d4] }
  | _ => none }
def flowTwiceRow : OpenClaim := { program := "ytepcegiciecogaa", sum := "8d1042d9dbb333b92f179b34c96c6887cd16fb29f03ab2eb563a22cb3c4f8ca4", func := "tenor/tenorlaw14.FlowTwice", spec := "flowTwice", inPlace := ["math.Float64bits", "math/bits.Sub64", "math/bits.Add64", "math.Float64frombits"], unfollowed := true, recurses := true, named := ["math/bits.divideError", "math/bits.overflowError"], plainKeys := false, apart := false }
def FlowTwiceSaid : Prop := flowTwiceRow.holds Try.pinned (OpenSpec.ofChange flowTwiceSpec)

/-- ITS FALSE NEIGHBOUR: 'it returns false'. Refute it at one input. -/
def flowTwiceWrong : ChangeSpec := { name := "flowTwice", fn := fun _ => fun
  | [d1, d2, d3, d4] => { results := [.lit (.bool false)], args := [d1, d2, d3, d4] }
  | _ => none }
def FlowTwiceWrongFalsely : Prop := flowTwiceRow.holds Try.pinned (OpenSpec.ofChange flowTwiceWrong)

/-- 'tenorlaw25.GridCounts': WHATEVER THE INPUT: true; the input reads as it did. -/
def gridCountsSpec : ChangeSpec := { name := "gridCounts", fn := fun _ => fun
  | [d1, d2] => { results := [.lit (.bool true)], args := [d1, d2] }
  | _ => none }
def gridCountsRow : OpenClaim := { program := "ytepcegiciecogaa", sum := "8d1042d9dbb333b92f179b34c96c6887cd16fb29f03ab2eb563a22cb3c4f8ca4", func := "tenor/tenorlaw25.GridCounts", spec := "gridCounts", inPlace := ["math.Float64bits", "math/bits.Sub64", "math/bits.Add64", "math.Float64frombits"], unfollowed := true, recurses := true, named := ["math/bits.divideError", "math/bits.overflowError"], plainKeys := false, apart := false }
def GridCountsSaid : Prop := gridCountsRow.holds Try.pinned (OpenSpec.ofChange gridCountsSpec)

/-- ITS FALSE NEIGHBOUR: 'it returns false'. Refute it at one input. -/
def gridCountsWrong : ChangeSpec := { name := "gridCounts", fn := fun _ => fun
  | [d1, d2] => { results := [.lit (.bool false)], args := [d1, d2] }
  | _ => none }
def GridCountsWrongFalsely : Prop := gridCountsRow.holds Try.pinned (OpenSpec.ofChange gridCountsWrong)

/-- 'tenorlaw25.GridParts': WHATEVER THE INPUT: true; the input reads as it did. -/
def gridPartsSpec : ChangeSpec := { name := "gridParts", fn := fun _ => fun
  | [d1, d2, d3, d4, d5, d6] => { results := [.lit (.bool true)], args := [d1, d2, d3, d4, d5, d6] }
  | _ => none }
def gridPartsRow : OpenClaim := { program := "ytepcegiciecogaa", sum := "8d1042d9dbb333b92f179b34c96c6887cd16fb29f03ab2eb563a22cb3c4f8ca4", func := "tenor/tenorlaw25.GridParts", spec := "gridParts", inPlace := ["math.Float64bits", "math/bits.Sub64", "math/bits.Add64", "math.Float64frombits"], unfollowed := true, recurses := true, named := ["math/bits.divideError", "math/bits.overflowError"], plainKeys := false, apart := false }
def GridPartsSaid : Prop := gridPartsRow.holds Try.pinned (OpenSpec.ofChange gridPartsSpec)

/-- ITS FALSE NEIGHBOUR: 'it returns false'. Refute it at one input. -/
def gridPartsWrong : ChangeSpec := { name := "gridParts", fn := fun _ => fun
  | [d1, d2, d3, d4, d5, d6] => { results := [.lit (.bool false)], args := [d1, d2, d3, d4, d5, d6] }
  | _ => none }
def GridPartsWrongFalsely : Prop := gridPartsRow.holds Try.pinned (OpenSpec.ofChange gridPartsWrong)

/- THE SECOND FORM. 'bulk': how many values and letters a reading holds, each counted each time it is reached (what is shared counts as often as it is met; a slice's spare places count too). A statement '..UptoSaid' is the law's where the arguments, and the package variables that the reading takes, are together of bulk at most 1048576: NARROWER than '..Said'. Prove '..Said' where nothing that the law and all that it calls make is longer than what came in: it says more and counts as full. Else prove '..UptoSaid'. A law counts once. -/
mutual
def uptoBulk {H : Type} : DataW H → Nat
  | .lit (.string bytes) => bytes.length + 1
  | .lit _ => 1
  | .nil => 1
  | .ptr d => uptoBulk d + 1
  | .slice elems spare => uptoBulkAll elems + uptoBulkAll spare + 1
  | .agg parts => uptoBulkAll parts + 1
  | .iface _ d => uptoBulk d + 1
  | .map entries => uptoBulkEntries entries + 1
  | .held _ => 1
def uptoBulkAll {H : Type} : List (DataW H) → Nat
  | [] => 0
  | d :: r => uptoBulk d + uptoBulkAll r
def uptoBulkEntries {H : Type} : List (Lit × DataW H) → Nat
  | [] => 0
  | x :: r => uptoBulkEntry x + uptoBulkEntries r
def uptoBulkEntry {H : Type} : Lit × DataW H → Nat
  | (.string bytes, d) => bytes.length + uptoBulk d + 1
  | (_, d) => uptoBulk d + 1
 end
def uptoSmall : (H : Type) → List (DataW H) → Bool := fun _ ds => decide (uptoBulkAll ds ≤ 1048576)
def OpenSpec.upto (s : _root_.Go.ChangeSpec) : _root_.Go.OpenSpec := { _root_.Go.OpenSpec.ofChange s with cond := some uptoSmall }

/-- 'tenorlaw14.FlowChecks', WHERE WHAT IT READS IS OF BULK AT MOST 1048576: true; the input reads as it did. -/
def flowChecksUptoRow : OpenClaim := { program := "ytepcegiciecogaa", sum := "8d1042d9dbb333b92f179b34c96c6887cd16fb29f03ab2eb563a22cb3c4f8ca4", func := "tenor/tenorlaw14.FlowChecks", spec := "flowChecks", inPlace := ["math.Float64bits", "math/bits.Sub64", "math/bits.Add64", "math.Float64frombits"], unfollowed := true, recurses := true, named := ["math/bits.divideError", "math/bits.overflowError"], plainKeys := false, apart := false, narrowed := true }
def FlowChecksUptoSaid : Prop := flowChecksUptoRow.holds Try.pinned (OpenSpec.upto flowChecksSpec)

/-- 'tenorlaw14.FlowOrder', WHERE WHAT IT READS IS OF BULK AT MOST 1048576: true; the input reads as it did. -/
def flowOrderUptoRow : OpenClaim := { program := "ytepcegiciecogaa", sum := "8d1042d9dbb333b92f179b34c96c6887cd16fb29f03ab2eb563a22cb3c4f8ca4", func := "tenor/tenorlaw14.FlowOrder", spec := "flowOrder", inPlace := ["math.Float64bits", "math/bits.Sub64", "math/bits.Add64", "math.Float64frombits"], unfollowed := true, recurses := true, named := ["math/bits.divideError", "math/bits.overflowError"], plainKeys := false, apart := false, narrowed := true }
def FlowOrderUptoSaid : Prop := flowOrderUptoRow.holds Try.pinned (OpenSpec.upto flowOrderSpec)

/-- 'tenorlaw14.FlowTwice', WHERE WHAT IT READS IS OF BULK AT MOST 1048576: true; the input reads as it did. -/
def flowTwiceUptoRow : OpenClaim := { program := "ytepcegiciecogaa", sum := "8d1042d9dbb333b92f179b34c96c6887cd16fb29f03ab2eb563a22cb3c4f8ca4", func := "tenor/tenorlaw14.FlowTwice", spec := "flowTwice", inPlace := ["math.Float64bits", "math/bits.Sub64", "math/bits.Add64", "math.Float64frombits"], unfollowed := true, recurses := true, named := ["math/bits.divideError", "math/bits.overflowError"], plainKeys := false, apart := false, narrowed := true }
def FlowTwiceUptoSaid : Prop := flowTwiceUptoRow.holds Try.pinned (OpenSpec.upto flowTwiceSpec)

/-- 'tenorlaw25.GridCounts', WHERE WHAT IT READS IS OF BULK AT MOST 1048576: true; the input reads as it did. -/
def gridCountsUptoRow : OpenClaim := { program := "ytepcegiciecogaa", sum := "8d1042d9dbb333b92f179b34c96c6887cd16fb29f03ab2eb563a22cb3c4f8ca4", func := "tenor/tenorlaw25.GridCounts", spec := "gridCounts", inPlace := ["math.Float64bits", "math/bits.Sub64", "math/bits.Add64", "math.Float64frombits"], unfollowed := true, recurses := true, named := ["math/bits.divideError", "math/bits.overflowError"], plainKeys := false, apart := false, narrowed := true }
def GridCountsUptoSaid : Prop := gridCountsUptoRow.holds Try.pinned (OpenSpec.upto gridCountsSpec)

/-- 'tenorlaw25.GridParts', WHERE WHAT IT READS IS OF BULK AT MOST 1048576: true; the input reads as it did. -/
def gridPartsUptoRow : OpenClaim := { program := "ytepcegiciecogaa", sum := "8d1042d9dbb333b92f179b34c96c6887cd16fb29f03ab2eb563a22cb3c4f8ca4", func := "tenor/tenorlaw25.GridParts", spec := "gridParts", inPlace := ["math.Float64bits", "math/bits.Sub64", "math/bits.Add64", "math.Float64frombits"], unfollowed := true, recurses := true, named := ["math/bits.divideError", "math/bits.overflowError"], plainKeys := false, apart := false, narrowed := true }
def GridPartsUptoSaid : Prop := gridPartsUptoRow.holds Try.pinned (OpenSpec.upto gridPartsSpec)

end Rows
end Go.Proofs.Ytepcegiciecogaa
