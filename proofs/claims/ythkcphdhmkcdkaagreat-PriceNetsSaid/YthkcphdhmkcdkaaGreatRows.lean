/-
  No cell of these rows narrows 'for every input' (looked for: loops, veiled, ifaces, maps, wideKeys, modest, calm, conditions, laid).
  DERIVED. THE GIVEN ROWS OF THIS SEAT. 4 by the template 'for every input the law returns true; each argument reads behind the call as it read before'; 0 by the template 'total and deterministic' (their statements: YthkcphdhmkcdkaaGreatTotals.lean).
  GIVEN WITH THE SEED: the statements are not yours to turn. If you find one false, say at which input.
  Laid BY PROGRAM, IN A SANDBOX (cutbox-rows.mjs): the forced cells as the released guide's own fill.sh prints them over the translation 5f89f6e97c61ffc8… (all of the seat's roots in one cut). By AI agents, Wed Nov 11 2026. No macro, syntax, notation, axiom, sorry.
-/
import Derived.Test.YthkcphdhmkcdkaaGreatChecked
import GoSem.Claim
import GoSem.ClaimJoined
import GoSem.ClaimMapViews
import Derived.JoinedTies
import Derived.KernelRfl
namespace Go.Proofs.YthkcphdhmkcdkaaGreat
/- THE CELL 'sum', in the pinned program and in every row, IS THE sha256 OF THE DUMP (.gsa) THAT YthkcphdhmkcdkaaGreatProg.lean LOADS. Nothing in Lean hashes anything: it is a label: what it is worth is what the hold of that sum in a sandbox is worth. -/
noncomputable def Tryz.pinned : Pinned := { name := "ythkcphdhmkcdkaagreat", sum := "5f89f6e97c61ffc8d312192f688ff7fe772ad85d74eccc41b575ddd67d81ae94", checked := Tryz.checked }
namespace Rows
def none {H : Type} : Left H := { results := [], args := [] }

/-- 'tenorlaw15.PriceNets': WHATEVER THE INPUT: true; the input reads as it did. -/
def priceNetsSpec : ChangeSpec := { name := "priceNets", fn := fun _ => fun
  | [d1, d2, d3] => { results := [.lit (.bool true)], args := [d1, d2, d3] }
  | _ => none }
def priceNetsRow : OpenClaim := { program := "ythkcphdhmkcdkaagreat", sum := "5f89f6e97c61ffc8d312192f688ff7fe772ad85d74eccc41b575ddd67d81ae94", func := "tenor/tenorlaw15.PriceNets", spec := "priceNets", inPlace := ["math.Float64bits", "math/bits.Sub64", "math/bits.Add64", "math.Float64frombits", "math.archFloor", "math.archTrunc"], unfollowed := true, recurses := true, named := ["math/bits.divideError", "math/bits.overflowError"], plainKeys := false, apart := false }
def PriceNetsSaid : Prop := priceNetsRow.holds Tryz.pinned (OpenSpec.ofChange priceNetsSpec)

/-- ITS FALSE NEIGHBOUR: 'it returns false'. Refute it at one input. -/
def priceNetsWrong : ChangeSpec := { name := "priceNets", fn := fun _ => fun
  | [d1, d2, d3] => { results := [.lit (.bool false)], args := [d1, d2, d3] }
  | _ => none }
def PriceNetsWrongFalsely : Prop := priceNetsRow.holds Tryz.pinned (OpenSpec.ofChange priceNetsWrong)

/-- 'tenorlaw15.PriceOf': WHATEVER THE INPUT: true; the input reads as it did. -/
def priceOfSpec : ChangeSpec := { name := "priceOf", fn := fun _ => fun
  | [d1, d2, d3] => { results := [.lit (.bool true)], args := [d1, d2, d3] }
  | _ => none }
def priceOfRow : OpenClaim := { program := "ythkcphdhmkcdkaagreat", sum := "5f89f6e97c61ffc8d312192f688ff7fe772ad85d74eccc41b575ddd67d81ae94", func := "tenor/tenorlaw15.PriceOf", spec := "priceOf", inPlace := ["math.Float64bits", "math/bits.Sub64", "math/bits.Add64", "math.Float64frombits", "math.archFloor", "math.archTrunc"], unfollowed := true, recurses := true, named := ["math/bits.divideError", "math/bits.overflowError"], plainKeys := false, apart := false }
def PriceOfSaid : Prop := priceOfRow.holds Tryz.pinned (OpenSpec.ofChange priceOfSpec)

/-- ITS FALSE NEIGHBOUR: 'it returns false'. Refute it at one input. -/
def priceOfWrong : ChangeSpec := { name := "priceOf", fn := fun _ => fun
  | [d1, d2, d3] => { results := [.lit (.bool false)], args := [d1, d2, d3] }
  | _ => none }
def PriceOfWrongFalsely : Prop := priceOfRow.holds Tryz.pinned (OpenSpec.ofChange priceOfWrong)

/-- 'tenorlaw16.RiskBumps': WHATEVER THE INPUT: true; the input reads as it did. -/
def riskBumpsSpec : ChangeSpec := { name := "riskBumps", fn := fun _ => fun
  | [d1, d2, d3] => { results := [.lit (.bool true)], args := [d1, d2, d3] }
  | _ => none }
def riskBumpsRow : OpenClaim := { program := "ythkcphdhmkcdkaagreat", sum := "5f89f6e97c61ffc8d312192f688ff7fe772ad85d74eccc41b575ddd67d81ae94", func := "tenor/tenorlaw16.RiskBumps", spec := "riskBumps", inPlace := ["math.Float64bits", "math.Float64frombits", "math.archFloor", "math.archTrunc", "math/bits.Sub64", "math/bits.Add64"], unfollowed := true, recurses := true, named := ["math/bits.divideError", "math/bits.overflowError"], plainKeys := false, apart := false }
def RiskBumpsSaid : Prop := riskBumpsRow.holds Tryz.pinned (OpenSpec.ofChange riskBumpsSpec)

/-- ITS FALSE NEIGHBOUR: 'it returns false'. Refute it at one input. -/
def riskBumpsWrong : ChangeSpec := { name := "riskBumps", fn := fun _ => fun
  | [d1, d2, d3] => { results := [.lit (.bool false)], args := [d1, d2, d3] }
  | _ => none }
def RiskBumpsWrongFalsely : Prop := riskBumpsRow.holds Tryz.pinned (OpenSpec.ofChange riskBumpsWrong)

/-- 'tenorlaw11.CurveFactors': WHATEVER THE INPUT: true; the input reads as it did. -/
def curveFactorsSpec : ChangeSpec := { name := "curveFactors", fn := fun _ => fun
  | [d1, d2] => { results := [.lit (.bool true)], args := [d1, d2] }
  | _ => none }
def curveFactorsRow : OpenClaim := { program := "ythkcphdhmkcdkaagreat", sum := "5f89f6e97c61ffc8d312192f688ff7fe772ad85d74eccc41b575ddd67d81ae94", func := "tenor/tenorlaw11.CurveFactors", spec := "curveFactors", inPlace := ["math.Float64bits", "math/bits.Sub64", "math/bits.Add64", "math.Float64frombits", "math.archFloor", "math.archTrunc"], unfollowed := true, recurses := true, named := ["math/bits.divideError", "math/bits.overflowError"], plainKeys := false, apart := false }
def CurveFactorsSaid : Prop := curveFactorsRow.holds Tryz.pinned (OpenSpec.ofChange curveFactorsSpec)

/-- ITS FALSE NEIGHBOUR: 'it returns false'. Refute it at one input. -/
def curveFactorsWrong : ChangeSpec := { name := "curveFactors", fn := fun _ => fun
  | [d1, d2] => { results := [.lit (.bool false)], args := [d1, d2] }
  | _ => none }
def CurveFactorsWrongFalsely : Prop := curveFactorsRow.holds Tryz.pinned (OpenSpec.ofChange curveFactorsWrong)

/- THE SECOND FORM. 'bulk': how many values and letters a reading holds, each counted each time it is reached (what is shared counts as often as it is met; a slice's spare places count too). A statement '..UptoSaid' is the law's where the arguments, and the package variables that the reading takes, are together of bulk at most 1048576: NARROWER than '..Said'. Prove '..Said' where nothing that the law and all that it calls make is longer than what came in: it says more and counts as full. Else prove '..UptoSaid'. A law counts once. -/
mutual
def uptoBulk {H : Type} : DataW H → Nat
  | .lit (.string bytes) => bytes.length + 1
  | .lit _ => 1
  | .nil => 1
  | .ptr d => uptoBulk d + 1
  | .slice elems spare => uptoBulkAll elems + uptoBulkAll spare + 1
  | .agg parts => uptoBulkAll parts + 1
  | .iface _ d => uptoBulk d + 1
  | .map entries => uptoBulkEntries entries + 1
  | .held _ => 1
def uptoBulkAll {H : Type} : List (DataW H) → Nat
  | [] => 0
  | d :: r => uptoBulk d + uptoBulkAll r
def uptoBulkEntries {H : Type} : List (Lit × DataW H) → Nat
  | [] => 0
  | x :: r => uptoBulkEntry x + uptoBulkEntries r
def uptoBulkEntry {H : Type} : Lit × DataW H → Nat
  | (.string bytes, d) => bytes.length + uptoBulk d + 1
  | (_, d) => uptoBulk d + 1
 end
def uptoSmall : (H : Type) → List (DataW H) → Bool := fun _ ds => decide (uptoBulkAll ds ≤ 1048576)
def OpenSpec.upto (s : _root_.Go.ChangeSpec) : _root_.Go.OpenSpec := { _root_.Go.OpenSpec.ofChange s with cond := some uptoSmall }

/-- 'tenorlaw15.PriceNets', WHERE WHAT IT READS IS OF BULK AT MOST 1048576: true; the input reads as it did. -/
def priceNetsUptoRow : OpenClaim := { program := "ythkcphdhmkcdkaagreat", sum := "5f89f6e97c61ffc8d312192f688ff7fe772ad85d74eccc41b575ddd67d81ae94", func := "tenor/tenorlaw15.PriceNets", spec := "priceNets", inPlace := ["math.Float64bits", "math/bits.Sub64", "math/bits.Add64", "math.Float64frombits", "math.archFloor", "math.archTrunc"], unfollowed := true, recurses := true, named := ["math/bits.divideError", "math/bits.overflowError"], plainKeys := false, apart := false, narrowed := true }
def PriceNetsUptoSaid : Prop := priceNetsUptoRow.holds Tryz.pinned (OpenSpec.upto priceNetsSpec)

/-- 'tenorlaw15.PriceOf', WHERE WHAT IT READS IS OF BULK AT MOST 1048576: true; the input reads as it did. -/
def priceOfUptoRow : OpenClaim := { program := "ythkcphdhmkcdkaagreat", sum := "5f89f6e97c61ffc8d312192f688ff7fe772ad85d74eccc41b575ddd67d81ae94", func := "tenor/tenorlaw15.PriceOf", spec := "priceOf", inPlace := ["math.Float64bits", "math/bits.Sub64", "math/bits.Add64", "math.Float64frombits", "math.archFloor", "math.archTrunc"], unfollowed := true, recurses := true, named := ["math/bits.divideError", "math/bits.overflowError"], plainKeys := false, apart := false, narrowed := true }
def PriceOfUptoSaid : Prop := priceOfUptoRow.holds Tryz.pinned (OpenSpec.upto priceOfSpec)

/-- 'tenorlaw16.RiskBumps', WHERE WHAT IT READS IS OF BULK AT MOST 1048576: true; the input reads as it did. -/
def riskBumpsUptoRow : OpenClaim := { program := "ythkcphdhmkcdkaagreat", sum := "5f89f6e97c61ffc8d312192f688ff7fe772ad85d74eccc41b575ddd67d81ae94", func := "tenor/tenorlaw16.RiskBumps", spec := "riskBumps", inPlace := ["math.Float64bits", "math.Float64frombits", "math.archFloor", "math.archTrunc", "math/bits.Sub64", "math/bits.Add64"], unfollowed := true, recurses := true, named := ["math/bits.divideError", "math/bits.overflowError"], plainKeys := false, apart := false, narrowed := true }
def RiskBumpsUptoSaid : Prop := riskBumpsUptoRow.holds Tryz.pinned (OpenSpec.upto riskBumpsSpec)

/-- 'tenorlaw11.CurveFactors', WHERE WHAT IT READS IS OF BULK AT MOST 1048576: true; the input reads as it did. -/
def curveFactorsUptoRow : OpenClaim := { program := "ythkcphdhmkcdkaagreat", sum := "5f89f6e97c61ffc8d312192f688ff7fe772ad85d74eccc41b575ddd67d81ae94", func := "tenor/tenorlaw11.CurveFactors", spec := "curveFactors", inPlace := ["math.Float64bits", "math/bits.Sub64", "math/bits.Add64", "math.Float64frombits", "math.archFloor", "math.archTrunc"], unfollowed := true, recurses := true, named := ["math/bits.divideError", "math/bits.overflowError"], plainKeys := false, apart := false, narrowed := true }
def CurveFactorsUptoSaid : Prop := curveFactorsUptoRow.holds Tryz.pinned (OpenSpec.upto curveFactorsSpec)

end Rows
end Go.Proofs.YthkcphdhmkcdkaaGreat
