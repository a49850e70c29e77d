/-
  No cell of these rows narrows 'for every input' (looked for: loops, veiled, ifaces, maps, wideKeys, modest, calm, conditions, laid).
  DERIVED. THE GIVEN ROWS OF THIS SEAT. 4 by the template 'for every input the law returns true; each argument reads behind the call as it read before'; 0 by the template 'total and deterministic' (their statements: YtepcegiciecogaaGreatTotals.lean).
  GIVEN WITH THE SEED: the statements are not yours to turn. If you find one false, say at which input.
  Laid BY PROGRAM, IN A SANDBOX (cutbox-rows.mjs): the forced cells as the released guide's own fill.sh prints them over the translation 70ba8fa48e6a63a2… (all of the seat's roots in one cut). By AI agents, Wed Nov 11 2026. No macro, syntax, notation, axiom, sorry.
-/
import Derived.Test.YtepcegiciecogaaGreatChecked
import GoSem.Claim
import GoSem.ClaimJoined
import GoSem.ClaimMapViews
import Derived.JoinedTies
import Derived.KernelRfl
namespace Go.Proofs.YtepcegiciecogaaGreat
/- THE CELL 'sum', in the pinned program and in every row, IS THE sha256 OF THE DUMP (.gsa) THAT YtepcegiciecogaaGreatProg.lean LOADS. Nothing in Lean hashes anything: it is a label: what it is worth is what the hold of that sum in a sandbox is worth. -/
noncomputable def Tryz.pinned : Pinned := { name := "ytepcegiciecogaagreat", sum := "70ba8fa48e6a63a2d46247d33aef1ed8cd9dfd78e0612f4b6476a31cf313e13b", checked := Tryz.checked }
namespace Rows
def none {H : Type} : Left H := { results := [], args := [] }

/-- 'tenorlaw14.FlowNets': WHATEVER THE INPUT: true; the input reads as it did. -/
def flowNetsSpec : ChangeSpec := { name := "flowNets", fn := fun _ => fun
  | [d] => { results := [.lit (.bool true)], args := [d] }
  | _ => none }
def flowNetsRow : OpenClaim := { program := "ytepcegiciecogaagreat", sum := "70ba8fa48e6a63a2d46247d33aef1ed8cd9dfd78e0612f4b6476a31cf313e13b", func := "tenor/tenorlaw14.FlowNets", spec := "flowNets", inPlace := ["math.Float64bits", "math/bits.Sub64", "math/bits.Add64", "math.Float64frombits"], unfollowed := true, recurses := true, named := ["math/bits.divideError", "math/bits.overflowError"], plainKeys := false, apart := false }
def FlowNetsSaid : Prop := flowNetsRow.holds Tryz.pinned (OpenSpec.ofChange flowNetsSpec)

/-- ITS FALSE NEIGHBOUR: 'it returns false'. Refute it at one input. -/
def flowNetsWrong : ChangeSpec := { name := "flowNets", fn := fun _ => fun
  | [d] => { results := [.lit (.bool false)], args := [d] }
  | _ => none }
def FlowNetsWrongFalsely : Prop := flowNetsRow.holds Tryz.pinned (OpenSpec.ofChange flowNetsWrong)

/-- 'tenorlaw14.FlowLists': WHATEVER THE INPUT: true; the input reads as it did. -/
def flowListsSpec : ChangeSpec := { name := "flowLists", fn := fun _ => fun
  | [d1, d2, d3, d4, d5] => { results := [.lit (.bool true)], args := [d1, d2, d3, d4, d5] }
  | _ => none }
def flowListsRow : OpenClaim := { program := "ytepcegiciecogaagreat", sum := "70ba8fa48e6a63a2d46247d33aef1ed8cd9dfd78e0612f4b6476a31cf313e13b", func := "tenor/tenorlaw14.FlowLists", spec := "flowLists", inPlace := ["math.Float64bits", "math/bits.Sub64", "math/bits.Add64", "math.Float64frombits"], unfollowed := true, recurses := true, named := ["math/bits.divideError", "math/bits.overflowError"], plainKeys := false, apart := false }
def FlowListsSaid : Prop := flowListsRow.holds Tryz.pinned (OpenSpec.ofChange flowListsSpec)

/-- ITS FALSE NEIGHBOUR: 'it returns false'. Refute it at one input. -/
def flowListsWrong : ChangeSpec := { name := "flowLists", fn := fun _ => fun
  | [d1, d2, d3, d4, d5] => { results := [.lit (.bool false)], args := [d1, d2, d3, d4, d5] }
  | _ => none }
def FlowListsWrongFalsely : Prop := flowListsRow.holds Tryz.pinned (OpenSpec.ofChange flowListsWrong)

/-- 'tenorlaw14.FlowLent': WHATEVER THE INPUT: true; the input reads as it did. -/
def flowLentSpec : ChangeSpec := { name := "flowLent", fn := fun _ => fun
  | [d1, d2, d3, d4, d5] => { results := [.lit (.bool true)], args := [d1, d2, d3, d4, d5] }
  | _ => none }
def flowLentRow : OpenClaim := { program := "ytepcegiciecogaagreat", sum := "70ba8fa48e6a63a2d46247d33aef1ed8cd9dfd78e0612f4b6476a31cf313e13b", func := "tenor/tenorlaw14.FlowLent", spec := "flowLent", inPlace := ["math.Float64bits", "math/bits.Sub64", "math/bits.Add64", "math.Float64frombits"], unfollowed := true, recurses := true, named := ["math/bits.divideError", "math/bits.overflowError"], plainKeys := false, apart := false }
def FlowLentSaid : Prop := flowLentRow.holds Tryz.pinned (OpenSpec.ofChange flowLentSpec)

/-- ITS FALSE NEIGHBOUR: 'it returns false'. Refute it at one input. -/
def flowLentWrong : ChangeSpec := { name := "flowLent", fn := fun _ => fun
  | [d1, d2, d3, d4, d5] => { results := [.lit (.bool false)], args := [d1, d2, d3, d4, d5] }
  | _ => none }
def FlowLentWrongFalsely : Prop := flowLentRow.holds Tryz.pinned (OpenSpec.ofChange flowLentWrong)

/-- 'tenorlaw25.GridNumbers': WHATEVER THE INPUT: true; the input reads as it did. -/
def gridNumbersSpec : ChangeSpec := { name := "gridNumbers", fn := fun _ => fun
  | [d1, d2, d3] => { results := [.lit (.bool true)], args := [d1, d2, d3] }
  | _ => none }
def gridNumbersRow : OpenClaim := { program := "ytepcegiciecogaagreat", sum := "70ba8fa48e6a63a2d46247d33aef1ed8cd9dfd78e0612f4b6476a31cf313e13b", func := "tenor/tenorlaw25.GridNumbers", spec := "gridNumbers", inPlace := ["math.Float64bits", "math/bits.Sub64", "math/bits.Add64", "math.Float64frombits"], unfollowed := true, recurses := true, named := ["math/bits.divideError", "math/bits.overflowError"], plainKeys := false, apart := false }
def GridNumbersSaid : Prop := gridNumbersRow.holds Tryz.pinned (OpenSpec.ofChange gridNumbersSpec)

/-- ITS FALSE NEIGHBOUR: 'it returns false'. Refute it at one input. -/
def gridNumbersWrong : ChangeSpec := { name := "gridNumbers", fn := fun _ => fun
  | [d1, d2, d3] => { results := [.lit (.bool false)], args := [d1, d2, d3] }
  | _ => none }
def GridNumbersWrongFalsely : Prop := gridNumbersRow.holds Tryz.pinned (OpenSpec.ofChange gridNumbersWrong)

/- THE SECOND FORM. 'bulk': how many values and letters a reading holds, each counted each time it is reached (what is shared counts as often as it is met; a slice's spare places count too). A statement '..UptoSaid' is the law's where the arguments, and the package variables that the reading takes, are together of bulk at most 1048576: NARROWER than '..Said'. Prove '..Said' where nothing that the law and all that it calls make is longer than what came in: it says more and counts as full. Else prove '..UptoSaid'. A law counts once. -/
mutual
def uptoBulk {H : Type} : DataW H → Nat
  | .lit (.string bytes) => bytes.length + 1
  | .lit _ => 1
  | .nil => 1
  | .ptr d => uptoBulk d + 1
  | .slice elems spare => uptoBulkAll elems + uptoBulkAll spare + 1
  | .agg parts => uptoBulkAll parts + 1
  | .iface _ d => uptoBulk d + 1
  | .map entries => uptoBulkEntries entries + 1
  | .held _ => 1
def uptoBulkAll {H : Type} : List (DataW H) → Nat
  | [] => 0
  | d :: r => uptoBulk d + uptoBulkAll r
def uptoBulkEntries {H : Type} : List (Lit × DataW H) → Nat
  | [] => 0
  | x :: r => uptoBulkEntry x + uptoBulkEntries r
def uptoBulkEntry {H : Type} : Lit × DataW H → Nat
  | (.string bytes, d) => bytes.length + uptoBulk d + 1
  | (_, d) => uptoBulk d + 1
 end
def uptoSmall : (H : Type) → List (DataW H) → Bool := fun _ ds => decide (uptoBulkAll ds ≤ 1048576)
def OpenSpec.upto (s : _root_.Go.ChangeSpec) : _root_.Go.OpenSpec := { _root_.Go.OpenSpec.ofChange s with cond := some uptoSmall }

/-- 'tenorlaw14.FlowNets', WHERE WHAT IT READS IS OF BULK AT MOST 1048576: true; the input reads as it did. -/
def flowNetsUptoRow : OpenClaim := { program := "ytepcegiciecogaagreat", sum := "70ba8fa48e6a63a2d46247d33aef1ed8cd9dfd78e0612f4b6476a31cf313e13b", func := "tenor/tenorlaw14.FlowNets", spec := "flowNets", inPlace := ["math.Float64bits", "math/bits.Sub64", "math/bits.Add64", "math.Float64frombits"], unfollowed := true, recurses := true, named := ["math/bits.divideError", "math/bits.overflowError"], plainKeys := false, apart := false, narrowed := true }
def FlowNetsUptoSaid : Prop := flowNetsUptoRow.holds Tryz.pinned (OpenSpec.upto flowNetsSpec)

/-- 'tenorlaw14.FlowLists', WHERE WHAT IT READS IS OF BULK AT MOST 1048576: true; the input reads as it did. -/
def flowListsUptoRow : OpenClaim := { program := "ytepcegiciecogaagreat", sum := "70ba8fa48e6a63a2d46247d33aef1ed8cd9dfd78e0612f4b6476a31cf313e13b", func := "tenor/tenorlaw14.FlowLists", spec := "flowLists", inPlace := ["math.Float64bits", "math/bits.Sub64", "math/bits.Add64", "math.Float64frombits"], unfollowed := true, recurses := true, named := ["math/bits.divideError", "math/bits.overflowError"], plainKeys := false, apart := false, narrowed := true }
def FlowListsUptoSaid : Prop := flowListsUptoRow.holds Tryz.pinned (OpenSpec.upto flowListsSpec)

/-- 'tenorlaw14.FlowLent', WHERE WHAT IT READS IS OF BULK AT MOST 1048576: true; the input reads as it did. -/
def flowLentUptoRow : OpenClaim := { program := "ytepcegiciecogaagreat", sum := "70ba8fa48e6a63a2d46247d33aef1ed8cd9dfd78e0612f4b6476a31cf313e13b", func := "tenor/tenorlaw14.FlowLent", spec := "flowLent", inPlace := ["math.Float64bits", "math/bits.Sub64", "math/bits.Add64", "math.Float64frombits"], unfollowed := true, recurses := true, named := ["math/bits.divideError", "math/bits.overflowError"], plainKeys := false, apart := false, narrowed := true }
def FlowLentUptoSaid : Prop := flowLentUptoRow.holds Tryz.pinned (OpenSpec.upto flowLentSpec)

/-- 'tenorlaw25.GridNumbers', WHERE WHAT IT READS IS OF BULK AT MOST 1048576: true; the input reads as it did. -/
def gridNumbersUptoRow : OpenClaim := { program := "ytepcegiciecogaagreat", sum := "70ba8fa48e6a63a2d46247d33aef1ed8cd9dfd78e0612f4b6476a31cf313e13b", func := "tenor/tenorlaw25.GridNumbers", spec := "gridNumbers", inPlace := ["math.Float64bits", "math/bits.Sub64", "math/bits.Add64", "math.Float64frombits"], unfollowed := true, recurses := true, named := ["math/bits.divideError", "math/bits.overflowError"], plainKeys := false, apart := false, narrowed := true }
def GridNumbersUptoSaid : Prop := gridNumbersUptoRow.holds Tryz.pinned (OpenSpec.upto gridNumbersSpec)

end Rows
end Go.Proofs.YtepcegiciecogaaGreat
