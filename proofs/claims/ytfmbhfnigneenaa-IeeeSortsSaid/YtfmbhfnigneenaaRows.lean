/-
  No cell of these rows narrows 'for every input' (looked for: loops, veiled, ifaces, maps, wideKeys, modest, calm, conditions, laid).
  DERIVED. THE GIVEN ROWS OF THIS SEAT. 9 by the template 'for every input the law returns true; each argument reads behind the call as it read before'; 0 by the template 'total and deterministic' (their statements: YtfmbhfnigneenaaTotals.lean).
  GIVEN WITH THE SEED: the statements are not yours to turn. If you find one false, say at which input.
  Laid BY PROGRAM, IN A SANDBOX (cutbox-rows.mjs): the forced cells as the released guide's own fill.sh prints them over the translation eb5a687372c1349d… (all of the seat's roots in one cut). By AI agents, Wed Nov 11 2026. No macro, syntax, notation, axiom, sorry.
-/
import Derived.Test.YtfmbhfnigneenaaChecked
import GoSem.Claim
import GoSem.ClaimJoined
import GoSem.ClaimMapViews
import Derived.JoinedTies
import Derived.KernelRfl
namespace Go.Proofs.Ytfmbhfnigneenaa
/- THE CELL 'sum', in the pinned program and in every row, IS THE sha256 OF THE DUMP (.gsa) THAT YtfmbhfnigneenaaProg.lean LOADS. Nothing in Lean hashes anything: it is a label: what it is worth is what the hold of that sum in a sandbox is worth. -/
noncomputable def Try.pinned : Pinned := { name := "ytfmbhfnigneenaa", sum := "eb5a687372c1349da531b15a418b143639acc160698d58fb1ca37f082b84879d", checked := Try.checked }
namespace Rows
def none {H : Type} : Left H := { results := [], args := [] }

/-- 'tenorlaw1.IeeeRanks': WHATEVER THE INPUT: true; the input reads as it did. -/
def ieeeRanksSpec : ChangeSpec := { name := "ieeeRanks", fn := fun _ => fun
  | [d1, d2] => { results := [.lit (.bool true)], args := [d1, d2] }
  | _ => none }
def ieeeRanksRow : OpenClaim := { program := "ytfmbhfnigneenaa", sum := "eb5a687372c1349da531b15a418b143639acc160698d58fb1ca37f082b84879d", func := "tenor/tenorlaw1.IeeeRanks", spec := "ieeeRanks", inPlace := ["math.Float64bits", "math.Float64frombits"], apart := false }
def IeeeRanksSaid : Prop := ieeeRanksRow.holds Try.pinned (OpenSpec.ofChange ieeeRanksSpec)

/-- ITS FALSE NEIGHBOUR: 'it returns false'. Refute it at one input. -/
def ieeeRanksWrong : ChangeSpec := { name := "ieeeRanks", fn := fun _ => fun
  | [d1, d2] => { results := [.lit (.bool false)], args := [d1, d2] }
  | _ => none }
def IeeeRanksWrongFalsely : Prop := ieeeRanksRow.holds Try.pinned (OpenSpec.ofChange ieeeRanksWrong)

/-- 'tenorlaw1.IeeeMiddle': WHATEVER THE INPUT: true; the input reads as it did. -/
def ieeeMiddleSpec : ChangeSpec := { name := "ieeeMiddle", fn := fun _ => fun
  | [d1, d2, d3] => { results := [.lit (.bool true)], args := [d1, d2, d3] }
  | _ => none }
def ieeeMiddleRow : OpenClaim := { program := "ytfmbhfnigneenaa", sum := "eb5a687372c1349da531b15a418b143639acc160698d58fb1ca37f082b84879d", func := "tenor/tenorlaw1.IeeeMiddle", spec := "ieeeMiddle", inPlace := ["math.Float64bits", "math.Float64frombits"], apart := false }
def IeeeMiddleSaid : Prop := ieeeMiddleRow.holds Try.pinned (OpenSpec.ofChange ieeeMiddleSpec)

/-- ITS FALSE NEIGHBOUR: 'it returns false'. Refute it at one input. -/
def ieeeMiddleWrong : ChangeSpec := { name := "ieeeMiddle", fn := fun _ => fun
  | [d1, d2, d3] => { results := [.lit (.bool false)], args := [d1, d2, d3] }
  | _ => none }
def IeeeMiddleWrongFalsely : Prop := ieeeMiddleRow.holds Try.pinned (OpenSpec.ofChange ieeeMiddleWrong)

/-- 'tenorlaw1.IeeeSingles': WHATEVER THE INPUT: true; the input reads as it did. -/
def ieeeSinglesSpec : ChangeSpec := { name := "ieeeSingles", fn := fun _ => fun
  | [d1, d2] => { results := [.lit (.bool true)], args := [d1, d2] }
  | _ => none }
def ieeeSinglesRow : OpenClaim := { program := "ytfmbhfnigneenaa", sum := "eb5a687372c1349da531b15a418b143639acc160698d58fb1ca37f082b84879d", func := "tenor/tenorlaw1.IeeeSingles", spec := "ieeeSingles", inPlace := ["math.Float32bits", "math.Float64bits", "math.Float64frombits"], apart := false }
def IeeeSinglesSaid : Prop := ieeeSinglesRow.holds Try.pinned (OpenSpec.ofChange ieeeSinglesSpec)

/-- ITS FALSE NEIGHBOUR: 'it returns false'. Refute it at one input. -/
def ieeeSinglesWrong : ChangeSpec := { name := "ieeeSingles", fn := fun _ => fun
  | [d1, d2] => { results := [.lit (.bool false)], args := [d1, d2] }
  | _ => none }
def IeeeSinglesWrongFalsely : Prop := ieeeSinglesRow.holds Try.pinned (OpenSpec.ofChange ieeeSinglesWrong)

/-- 'tenorlaw1.IeeeWidths': WHATEVER THE INPUT: true; the input reads as it did. -/
def ieeeWidthsSpec : ChangeSpec := { name := "ieeeWidths", fn := fun _ => fun
  | [d1, d2, d3] => { results := [.lit (.bool true)], args := [d1, d2, d3] }
  | _ => none }
def ieeeWidthsRow : OpenClaim := { program := "ytfmbhfnigneenaa", sum := "eb5a687372c1349da531b15a418b143639acc160698d58fb1ca37f082b84879d", func := "tenor/tenorlaw1.IeeeWidths", spec := "ieeeWidths", inPlace := ["math.Float32bits", "math.Float64bits", "math.Float64frombits"], apart := false }
def IeeeWidthsSaid : Prop := ieeeWidthsRow.holds Try.pinned (OpenSpec.ofChange ieeeWidthsSpec)

/-- ITS FALSE NEIGHBOUR: 'it returns false'. Refute it at one input. -/
def ieeeWidthsWrong : ChangeSpec := { name := "ieeeWidths", fn := fun _ => fun
  | [d1, d2, d3] => { results := [.lit (.bool false)], args := [d1, d2, d3] }
  | _ => none }
def IeeeWidthsWrongFalsely : Prop := ieeeWidthsRow.holds Try.pinned (OpenSpec.ofChange ieeeWidthsWrong)

/-- 'tenorlaw1.IeeeClasses': WHATEVER THE INPUT: true; the input reads as it did. -/
def ieeeClassesSpec : ChangeSpec := { name := "ieeeClasses", fn := fun _ => fun
  | [d1, d2] => { results := [.lit (.bool true)], args := [d1, d2] }
  | _ => none }
def ieeeClassesRow : OpenClaim := { program := "ytfmbhfnigneenaa", sum := "eb5a687372c1349da531b15a418b143639acc160698d58fb1ca37f082b84879d", func := "tenor/tenorlaw1.IeeeClasses", spec := "ieeeClasses", inPlace := ["math.Float64bits", "math.Float64frombits"], apart := false }
def IeeeClassesSaid : Prop := ieeeClassesRow.holds Try.pinned (OpenSpec.ofChange ieeeClassesSpec)

/-- ITS FALSE NEIGHBOUR: 'it returns false'. Refute it at one input. -/
def ieeeClassesWrong : ChangeSpec := { name := "ieeeClasses", fn := fun _ => fun
  | [d1, d2] => { results := [.lit (.bool false)], args := [d1, d2] }
  | _ => none }
def IeeeClassesWrongFalsely : Prop := ieeeClassesRow.holds Try.pinned (OpenSpec.ofChange ieeeClassesWrong)

/-- 'tenorlaw1.IeeeSteps': WHATEVER THE INPUT: true; the input reads as it did. -/
def ieeeStepsSpec : ChangeSpec := { name := "ieeeSteps", fn := fun _ => fun
  | [d1, d2] => { results := [.lit (.bool true)], args := [d1, d2] }
  | _ => none }
def ieeeStepsRow : OpenClaim := { program := "ytfmbhfnigneenaa", sum := "eb5a687372c1349da531b15a418b143639acc160698d58fb1ca37f082b84879d", func := "tenor/tenorlaw1.IeeeSteps", spec := "ieeeSteps", inPlace := ["math.Float64bits", "math.Float64frombits"], apart := false }
def IeeeStepsSaid : Prop := ieeeStepsRow.holds Try.pinned (OpenSpec.ofChange ieeeStepsSpec)

/-- ITS FALSE NEIGHBOUR: 'it returns false'. Refute it at one input. -/
def ieeeStepsWrong : ChangeSpec := { name := "ieeeSteps", fn := fun _ => fun
  | [d1, d2] => { results := [.lit (.bool false)], args := [d1, d2] }
  | _ => none }
def IeeeStepsWrongFalsely : Prop := ieeeStepsRow.holds Try.pinned (OpenSpec.ofChange ieeeStepsWrong)

/-- 'tenorlaw1.IeeeSplits': WHATEVER THE INPUT: true; the input reads as it did. -/
def ieeeSplitsSpec : ChangeSpec := { name := "ieeeSplits", fn := fun _ => fun
  | [d1, d2, d3] => { results := [.lit (.bool true)], args := [d1, d2, d3] }
  | _ => none }
def ieeeSplitsRow : OpenClaim := { program := "ytfmbhfnigneenaa", sum := "eb5a687372c1349da531b15a418b143639acc160698d58fb1ca37f082b84879d", func := "tenor/tenorlaw1.IeeeSplits", spec := "ieeeSplits", inPlace := ["math.Float64bits", "math.Float64frombits"], apart := false }
def IeeeSplitsSaid : Prop := ieeeSplitsRow.holds Try.pinned (OpenSpec.ofChange ieeeSplitsSpec)

/-- ITS FALSE NEIGHBOUR: 'it returns false'. Refute it at one input. -/
def ieeeSplitsWrong : ChangeSpec := { name := "ieeeSplits", fn := fun _ => fun
  | [d1, d2, d3] => { results := [.lit (.bool false)], args := [d1, d2, d3] }
  | _ => none }
def IeeeSplitsWrongFalsely : Prop := ieeeSplitsRow.holds Try.pinned (OpenSpec.ofChange ieeeSplitsWrong)

/-- 'tenorlaw1.IeeeBack': WHATEVER THE INPUT: true; the input reads as it did. -/
def ieeeBackSpec : ChangeSpec := { name := "ieeeBack", fn := fun _ => fun
  | [d1, d2] => { results := [.lit (.bool true)], args := [d1, d2] }
  | _ => none }
def ieeeBackRow : OpenClaim := { program := "ytfmbhfnigneenaa", sum := "eb5a687372c1349da531b15a418b143639acc160698d58fb1ca37f082b84879d", func := "tenor/tenorlaw1.IeeeBack", spec := "ieeeBack", inPlace := ["math.Float64bits", "math.Float64frombits"], apart := false }
def IeeeBackSaid : Prop := ieeeBackRow.holds Try.pinned (OpenSpec.ofChange ieeeBackSpec)

/-- ITS FALSE NEIGHBOUR: 'it returns false'. Refute it at one input. -/
def ieeeBackWrong : ChangeSpec := { name := "ieeeBack", fn := fun _ => fun
  | [d1, d2] => { results := [.lit (.bool false)], args := [d1, d2] }
  | _ => none }
def IeeeBackWrongFalsely : Prop := ieeeBackRow.holds Try.pinned (OpenSpec.ofChange ieeeBackWrong)

/-- 'tenorlaw1.IeeeSorts': WHATEVER THE INPUT: true; the input reads as it did. -/
def ieeeSortsSpec : ChangeSpec := { name := "ieeeSorts", fn := fun _ => fun
  | [d1, d2, d3] => { results := [.lit (.bool true)], args := [d1, d2, d3] }
  | _ => none }
def ieeeSortsRow : OpenClaim := { program := "ytfmbhfnigneenaa", sum := "eb5a687372c1349da531b15a418b143639acc160698d58fb1ca37f082b84879d", func := "tenor/tenorlaw1.IeeeSorts", spec := "ieeeSorts", inPlace := ["math.Float64bits", "math.Float64frombits"], unfollowed := true, recurses := true, apart := false }
def IeeeSortsSaid : Prop := ieeeSortsRow.holds Try.pinned (OpenSpec.ofChange ieeeSortsSpec)

/-- ITS FALSE NEIGHBOUR: 'it returns false'. Refute it at one input. -/
def ieeeSortsWrong : ChangeSpec := { name := "ieeeSorts", fn := fun _ => fun
  | [d1, d2, d3] => { results := [.lit (.bool false)], args := [d1, d2, d3] }
  | _ => none }
def IeeeSortsWrongFalsely : Prop := ieeeSortsRow.holds Try.pinned (OpenSpec.ofChange ieeeSortsWrong)

/- THE SECOND FORM. 'bulk': how many values and letters a reading holds, each counted each time it is reached (what is shared counts as often as it is met; a slice's spare places count too). A statement '..UptoSaid' is the law's where the arguments, and the package variables that the reading takes, are together of bulk at most 1048576: NARROWER than '..Said'. Prove '..Said' where nothing that the law and all that it calls make is longer than what came in: it says more and counts as full. Else prove '..UptoSaid'. A law counts once. -/
mutual
def uptoBulk {H : Type} : DataW H → Nat
  | .lit (.string bytes) => bytes.length + 1
  | .lit _ => 1
  | .nil => 1
  | .ptr d => uptoBulk d + 1
  | .slice elems spare => uptoBulkAll elems + uptoBulkAll spare + 1
  | .agg parts => uptoBulkAll parts + 1
  | .iface _ d => uptoBulk d + 1
  | .map entries => uptoBulkEntries entries + 1
  | .held _ => 1
def uptoBulkAll {H : Type} : List (DataW H) → Nat
  | [] => 0
  | d :: r => uptoBulk d + uptoBulkAll r
def uptoBulkEntries {H : Type} : List (Lit × DataW H) → Nat
  | [] => 0
  | x :: r => uptoBulkEntry x + uptoBulkEntries r
def uptoBulkEntry {H : Type} : Lit × DataW H → Nat
  | (.string bytes, d) => bytes.length + uptoBulk d + 1
  | (_, d) => uptoBulk d + 1
 end
def uptoSmall : (H : Type) → List (DataW H) → Bool := fun _ ds => decide (uptoBulkAll ds ≤ 1048576)
def OpenSpec.upto (s : _root_.Go.ChangeSpec) : _root_.Go.OpenSpec := { _root_.Go.OpenSpec.ofChange s with cond := some uptoSmall }

/-- 'tenorlaw1.IeeeRanks', WHERE WHAT IT READS IS OF BULK AT MOST 1048576: true; the input reads as it did. -/
def ieeeRanksUptoRow : OpenClaim := { program := "ytfmbhfnigneenaa", sum := "eb5a687372c1349da531b15a418b143639acc160698d58fb1ca37f082b84879d", func := "tenor/tenorlaw1.IeeeRanks", spec := "ieeeRanks", inPlace := ["math.Float64bits", "math.Float64frombits"], apart := false, narrowed := true }
def IeeeRanksUptoSaid : Prop := ieeeRanksUptoRow.holds Try.pinned (OpenSpec.upto ieeeRanksSpec)

/-- 'tenorlaw1.IeeeMiddle', WHERE WHAT IT READS IS OF BULK AT MOST 1048576: true; the input reads as it did. -/
def ieeeMiddleUptoRow : OpenClaim := { program := "ytfmbhfnigneenaa", sum := "eb5a687372c1349da531b15a418b143639acc160698d58fb1ca37f082b84879d", func := "tenor/tenorlaw1.IeeeMiddle", spec := "ieeeMiddle", inPlace := ["math.Float64bits", "math.Float64frombits"], apart := false, narrowed := true }
def IeeeMiddleUptoSaid : Prop := ieeeMiddleUptoRow.holds Try.pinned (OpenSpec.upto ieeeMiddleSpec)

/-- 'tenorlaw1.IeeeSingles', WHERE WHAT IT READS IS OF BULK AT MOST 1048576: true; the input reads as it did. -/
def ieeeSinglesUptoRow : OpenClaim := { program := "ytfmbhfnigneenaa", sum := "eb5a687372c1349da531b15a418b143639acc160698d58fb1ca37f082b84879d", func := "tenor/tenorlaw1.IeeeSingles", spec := "ieeeSingles", inPlace := ["math.Float32bits", "math.Float64bits", "math.Float64frombits"], apart := false, narrowed := true }
def IeeeSinglesUptoSaid : Prop := ieeeSinglesUptoRow.holds Try.pinned (OpenSpec.upto ieeeSinglesSpec)

/-- 'tenorlaw1.IeeeWidths', WHERE WHAT IT READS IS OF BULK AT MOST 1048576: true; the input reads as it did. -/
def ieeeWidthsUptoRow : OpenClaim := { program := "ytfmbhfnigneenaa", sum := "eb5a687372c1349da531b15a418b143639acc160698d58fb1ca37f082b84879d", func := "tenor/tenorlaw1.IeeeWidths", spec := "ieeeWidths", inPlace := ["math.Float32bits", "math.Float64bits", "math.Float64frombits"], apart := false, narrowed := true }
def IeeeWidthsUptoSaid : Prop := ieeeWidthsUptoRow.holds Try.pinned (OpenSpec.upto ieeeWidthsSpec)

/-- 'tenorlaw1.IeeeClasses', WHERE WHAT IT READS IS OF BULK AT MOST 1048576: true; the input reads as it did. -/
def ieeeClassesUptoRow : OpenClaim := { program := "ytfmbhfnigneenaa", sum := "eb5a687372c1349da531b15a418b143639acc160698d58fb1ca37f082b84879d", func := "tenor/tenorlaw1.IeeeClasses", spec := "ieeeClasses", inPlace := ["math.Float64bits", "math.Float64frombits"], apart := false, narrowed := true }
def IeeeClassesUptoSaid : Prop := ieeeClassesUptoRow.holds Try.pinned (OpenSpec.upto ieeeClassesSpec)

/-- 'tenorlaw1.IeeeSteps', WHERE WHAT IT READS IS OF BULK AT MOST 1048576: true; the input reads as it did. -/
def ieeeStepsUptoRow : OpenClaim := { program := "ytfmbhfnigneenaa", sum := "eb5a687372c1349da531b15a418b143639acc160698d58fb1ca37f082b84879d", func := "tenor/tenorlaw1.IeeeSteps", spec := "ieeeSteps", inPlace := ["math.Float64bits", "math.Float64frombits"], apart := false, narrowed := true }
def IeeeStepsUptoSaid : Prop := ieeeStepsUptoRow.holds Try.pinned (OpenSpec.upto ieeeStepsSpec)

/-- 'tenorlaw1.IeeeSplits', WHERE WHAT IT READS IS OF BULK AT MOST 1048576: true; the input reads as it did. -/
def ieeeSplitsUptoRow : OpenClaim := { program := "ytfmbhfnigneenaa", sum := "eb5a687372c1349da531b15a418b143639acc160698d58fb1ca37f082b84879d", func := "tenor/tenorlaw1.IeeeSplits", spec := "ieeeSplits", inPlace := ["math.Float64bits", "math.Float64frombits"], apart := false, narrowed := true }
def IeeeSplitsUptoSaid : Prop := ieeeSplitsUptoRow.holds Try.pinned (OpenSpec.upto ieeeSplitsSpec)

/-- 'tenorlaw1.IeeeBack', WHERE WHAT IT READS IS OF BULK AT MOST 1048576: true; the input reads as it did. -/
def ieeeBackUptoRow : OpenClaim := { program := "ytfmbhfnigneenaa", sum := "eb5a687372c1349da531b15a418b143639acc160698d58fb1ca37f082b84879d", func := "tenor/tenorlaw1.IeeeBack", spec := "ieeeBack", inPlace := ["math.Float64bits", "math.Float64frombits"], apart := false, narrowed := true }
def IeeeBackUptoSaid : Prop := ieeeBackUptoRow.holds Try.pinned (OpenSpec.upto ieeeBackSpec)

/-- 'tenorlaw1.IeeeSorts', WHERE WHAT IT READS IS OF BULK AT MOST 1048576: true; the input reads as it did. -/
def ieeeSortsUptoRow : OpenClaim := { program := "ytfmbhfnigneenaa", sum := "eb5a687372c1349da531b15a418b143639acc160698d58fb1ca37f082b84879d", func := "tenor/tenorlaw1.IeeeSorts", spec := "ieeeSorts", inPlace := ["math.Float64bits", "math.Float64frombits"], unfollowed := true, recurses := true, apart := false, narrowed := true }
def IeeeSortsUptoSaid : Prop := ieeeSortsUptoRow.holds Try.pinned (OpenSpec.upto ieeeSortsSpec)

end Rows
end Go.Proofs.Ytfmbhfnigneenaa
