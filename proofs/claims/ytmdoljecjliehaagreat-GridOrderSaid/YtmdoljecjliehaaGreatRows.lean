/-
  No cell of these rows narrows 'for every input' (looked for: loops, veiled, ifaces, maps, wideKeys, modest, calm, conditions, laid).
  DERIVED. THE GIVEN ROWS OF THIS SEAT. 12 by the template 'for every input the law returns true; each argument reads behind the call as it read before'; 0 by the template 'total and deterministic' (their statements: YtmdoljecjliehaaGreatTotals.lean).
  GIVEN WITH THE SEED: the statements are not yours to turn. If you find one false, say at which input.
  Laid BY PROGRAM, IN A SANDBOX (cutbox-rows.mjs): the forced cells as the released guide's own fill.sh prints them over the translation b7541d33342d224b… (all of the seat's roots in one cut). By AI agents, Wed Nov 11 2026. No macro, syntax, notation, axiom, sorry.
-/
import Derived.Test.YtmdoljecjliehaaGreatChecked
import GoSem.Claim
import GoSem.ClaimJoined
import GoSem.ClaimMapViews
import Derived.JoinedTies
import Derived.KernelRfl
namespace Go.Proofs.YtmdoljecjliehaaGreat
/- THE CELL 'sum', in the pinned program and in every row, IS THE sha256 OF THE DUMP (.gsa) THAT YtmdoljecjliehaaGreatProg.lean LOADS. Nothing in Lean hashes anything: it is a label: what it is worth is what the hold of that sum in a sandbox is worth. -/
noncomputable def Tryz.pinned : Pinned := { name := "ytmdoljecjliehaagreat", sum := "b7541d33342d224bd80d05737788218df1594b057dc923e403d46531e5a6439c", checked := Tryz.checked }
namespace Rows
def none {H : Type} : Left H := { results := [], args := [] }

/-- 'tenorlaw11.CurveFalls': WHATEVER THE INPUT: true; the input reads as it did. -/
def curveFallsSpec : ChangeSpec := { name := "curveFalls", fn := fun _ => fun
  | [d1, d2, d3] => { results := [.lit (.bool true)], args := [d1, d2, d3] }
  | _ => none }
def curveFallsRow : OpenClaim := { program := "ytmdoljecjliehaagreat", sum := "b7541d33342d224bd80d05737788218df1594b057dc923e403d46531e5a6439c", func := "tenor/tenorlaw11.CurveFalls", spec := "curveFalls", inPlace := ["math.Float64bits", "math/bits.Sub64", "math/bits.Add64", "math.Float64frombits", "math.archFloor", "math.archTrunc"], unfollowed := true, recurses := true, named := ["math/bits.divideError", "math/bits.overflowError"], apart := false }
def CurveFallsSaid : Prop := curveFallsRow.holds Tryz.pinned (OpenSpec.ofChange curveFallsSpec)

/-- ITS FALSE NEIGHBOUR: 'it returns false'. Refute it at one input. -/
def curveFallsWrong : ChangeSpec := { name := "curveFalls", fn := fun _ => fun
  | [d1, d2, d3] => { results := [.lit (.bool false)], args := [d1, d2, d3] }
  | _ => none }
def CurveFallsWrongFalsely : Prop := curveFallsRow.holds Tryz.pinned (OpenSpec.ofChange curveFallsWrong)

/-- 'tenorlaw25.GridOrder': WHATEVER THE INPUT: true; the input reads as it did. -/
def gridOrderSpec : ChangeSpec := { name := "gridOrder", fn := fun _ => fun
  | [d1, d2, d3, d4] => { results := [.lit (.bool true)], args := [d1, d2, d3, d4] }
  | _ => none }
def gridOrderRow : OpenClaim := { program := "ytmdoljecjliehaagreat", sum := "b7541d33342d224bd80d05737788218df1594b057dc923e403d46531e5a6439c", func := "tenor/tenorlaw25.GridOrder", spec := "gridOrder", inPlace := ["math.Float64bits", "math/bits.Sub64", "math/bits.Add64", "math.Float64frombits", "math.archFloor", "math.archTrunc"], unfollowed := true, recurses := true, named := ["math/bits.divideError", "math/bits.overflowError"], apart := false }
def GridOrderSaid : Prop := gridOrderRow.holds Tryz.pinned (OpenSpec.ofChange gridOrderSpec)

/-- ITS FALSE NEIGHBOUR: 'it returns false'. Refute it at one input. -/
def gridOrderWrong : ChangeSpec := { name := "gridOrder", fn := fun _ => fun
  | [d1, d2, d3, d4] => { results := [.lit (.bool false)], args := [d1, d2, d3, d4] }
  | _ => none }
def GridOrderWrongFalsely : Prop := gridOrderRow.holds Tryz.pinned (OpenSpec.ofChange gridOrderWrong)

/-- 'tenorlaw11.CurveChecks': WHATEVER THE INPUT: true; the input reads as it did. -/
def curveChecksSpec : ChangeSpec := { name := "curveChecks", fn := fun _ => fun
  | [d1, d2] => { results := [.lit (.bool true)], args := [d1, d2] }
  | _ => none }
def curveChecksRow : OpenClaim := { program := "ytmdoljecjliehaagreat", sum := "b7541d33342d224bd80d05737788218df1594b057dc923e403d46531e5a6439c", func := "tenor/tenorlaw11.CurveChecks", spec := "curveChecks", inPlace := ["math.Float64bits", "math/bits.Sub64", "math/bits.Add64", "math.Float64frombits", "math.archFloor", "math.archTrunc"], unfollowed := true, recurses := true, named := ["math/bits.divideError", "math/bits.overflowError"], apart := false }
def CurveChecksSaid : Prop := curveChecksRow.holds Tryz.pinned (OpenSpec.ofChange curveChecksSpec)

/-- ITS FALSE NEIGHBOUR: 'it returns false'. Refute it at one input. -/
def curveChecksWrong : ChangeSpec := { name := "curveChecks", fn := fun _ => fun
  | [d1, d2] => { results := [.lit (.bool false)], args := [d1, d2] }
  | _ => none }
def CurveChecksWrongFalsely : Prop := curveChecksRow.holds Tryz.pinned (OpenSpec.ofChange curveChecksWrong)

/-- 'tenorlaw11.CurveFactors': WHATEVER THE INPUT: true; the input reads as it did. -/
def curveFactorsSpec : ChangeSpec := { name := "curveFactors", fn := fun _ => fun
  | [d1, d2] => { results := [.lit (.bool true)], args := [d1, d2] }
  | _ => none }
def curveFactorsRow : OpenClaim := { program := "ytmdoljecjliehaagreat", sum := "b7541d33342d224bd80d05737788218df1594b057dc923e403d46531e5a6439c", func := "tenor/tenorlaw11.CurveFactors", spec := "curveFactors", inPlace := ["math.Float64bits", "math/bits.Sub64", "math/bits.Add64", "math.Float64frombits", "math.archFloor", "math.archTrunc"], unfollowed := true, recurses := true, named := ["math/bits.divideError", "math/bits.overflowError"], apart := false }
def CurveFactorsSaid : Prop := curveFactorsRow.holds Tryz.pinned (OpenSpec.ofChange curveFactorsSpec)

/-- ITS FALSE NEIGHBOUR: 'it returns false'. Refute it at one input. -/
def curveFactorsWrong : ChangeSpec := { name := "curveFactors", fn := fun _ => fun
  | [d1, d2] => { results := [.lit (.bool false)], args := [d1, d2] }
  | _ => none }
def CurveFactorsWrongFalsely : Prop := curveFactorsRow.holds Tryz.pinned (OpenSpec.ofChange curveFactorsWrong)

/-- 'tenorlaw15.PriceOf': WHATEVER THE INPUT: true; the input reads as it did. -/
def priceOfSpec : ChangeSpec := { name := "priceOf", fn := fun _ => fun
  | [d1, d2, d3] => { results := [.lit (.bool true)], args := [d1, d2, d3] }
  | _ => none }
def priceOfRow : OpenClaim := { program := "ytmdoljecjliehaagreat", sum := "b7541d33342d224bd80d05737788218df1594b057dc923e403d46531e5a6439c", func := "tenor/tenorlaw15.PriceOf", spec := "priceOf", inPlace := ["math.Float64bits", "math/bits.Sub64", "math/bits.Add64", "math.Float64frombits", "math.archFloor", "math.archTrunc"], unfollowed := true, recurses := true, named := ["math/bits.divideError", "math/bits.overflowError"], apart := false }
def PriceOfSaid : Prop := priceOfRow.holds Tryz.pinned (OpenSpec.ofChange priceOfSpec)

/-- ITS FALSE NEIGHBOUR: 'it returns false'. Refute it at one input. -/
def priceOfWrong : ChangeSpec := { name := "priceOf", fn := fun _ => fun
  | [d1, d2, d3] => { results := [.lit (.bool false)], args := [d1, d2, d3] }
  | _ => none }
def PriceOfWrongFalsely : Prop := priceOfRow.holds Tryz.pinned (OpenSpec.ofChange priceOfWrong)

/-- 'tenorlaw16.RiskBumps': WHATEVER THE INPUT: true; the input reads as it did. -/
def riskBumpsSpec : ChangeSpec := { name := "riskBumps", fn := fun _ => fun
  | [d1, d2, d3] => { results := [.lit (.bool true)], args := [d1, d2, d3] }
  | _ => none }
def riskBumpsRow : OpenClaim := { program := "ytmdoljecjliehaagreat", sum := "b7541d33342d224bd80d05737788218df1594b057dc923e403d46531e5a6439c", func := "tenor/tenorlaw16.RiskBumps", spec := "riskBumps", inPlace := ["math.Float64bits", "math.Float64frombits", "math.archFloor", "math.archTrunc", "math/bits.Sub64", "math/bits.Add64"], unfollowed := true, recurses := true, named := ["math/bits.divideError", "math/bits.overflowError"], apart := false }
def RiskBumpsSaid : Prop := riskBumpsRow.holds Tryz.pinned (OpenSpec.ofChange riskBumpsSpec)

/-- ITS FALSE NEIGHBOUR: 'it returns false'. Refute it at one input. -/
def riskBumpsWrong : ChangeSpec := { name := "riskBumps", fn := fun _ => fun
  | [d1, d2, d3] => { results := [.lit (.bool false)], args := [d1, d2, d3] }
  | _ => none }
def RiskBumpsWrongFalsely : Prop := riskBumpsRow.holds Tryz.pinned (OpenSpec.ofChange riskBumpsWrong)

/-- 'tenorlaw16.RiskLadders': WHATEVER THE INPUT: true; the input reads as it did. -/
def riskLaddersSpec : ChangeSpec := { name := "riskLadders", fn := fun _ => fun
  | [d1, d2, d3, d4] => { results := [.lit (.bool true)], args := [d1, d2, d3, d4] }
  | _ => none }
def riskLaddersRow : OpenClaim := { program := "ytmdoljecjliehaagreat", sum := "b7541d33342d224bd80d05737788218df1594b057dc923e403d46531e5a6439c", func := "tenor/tenorlaw16.RiskLadders", spec := "riskLadders", inPlace := ["math.Float64bits", "math.Float64frombits", "math.archFloor", "math.archTrunc", "math/bits.Sub64", "math/bits.Add64"], unfollowed := true, recurses := true, named := ["math/bits.divideError", "math/bits.overflowError"], apart := false }
def RiskLaddersSaid : Prop := riskLaddersRow.holds Tryz.pinned (OpenSpec.ofChange riskLaddersSpec)

/-- ITS FALSE NEIGHBOUR: 'it returns false'. Refute it at one input. -/
def riskLaddersWrong : ChangeSpec := { name := "riskLadders", fn := fun _ => fun
  | [d1, d2, d3, d4] => { results := [.lit (.bool false)], args := [d1, d2, d3, d4] }
  | _ => none }
def RiskLaddersWrongFalsely : Prop := riskLaddersRow.holds Tryz.pinned (OpenSpec.ofChange riskLaddersWrong)

/-- 'tenorlaw16.RiskDeltas': WHATEVER THE INPUT: true; the input reads as it did. -/
def riskDeltasSpec : ChangeSpec := { name := "riskDeltas", fn := fun _ => fun
  | [d1, d2, d3, d4] => { results := [.lit (.bool true)], args := [d1, d2, d3, d4] }
  | _ => none }
def riskDeltasRow : OpenClaim := { program := "ytmdoljecjliehaagreat", sum := "b7541d33342d224bd80d05737788218df1594b057dc923e403d46531e5a6439c", func := "tenor/tenorlaw16.RiskDeltas", spec := "riskDeltas", inPlace := ["math.Float64bits", "math.Float64frombits", "math.archFloor", "math.archTrunc", "math/bits.Sub64", "math/bits.Add64"], unfollowed := true, recurses := true, named := ["math/bits.divideError", "math/bits.overflowError"], apart := false }
def RiskDeltasSaid : Prop := riskDeltasRow.holds Tryz.pinned (OpenSpec.ofChange riskDeltasSpec)

/-- ITS FALSE NEIGHBOUR: 'it returns false'. Refute it at one input. -/
def riskDeltasWrong : ChangeSpec := { name := "riskDeltas", fn := fun _ => fun
  | [d1, d2, d3, d4] => { results := [.lit (.bool false)], args := [d1, d2, d3, d4] }
  | _ => none }
def RiskDeltasWrongFalsely : Prop := riskDeltasRow.holds Tryz.pinned (OpenSpec.ofChange riskDeltasWrong)

/-- 'tenorlaw16.RiskLent': WHATEVER THE INPUT: true; the input reads as it did. -/
def riskLentSpec : ChangeSpec := { name := "riskLent", fn := fun _ => fun
  | [d1, d2, d3, d4, d5] => { results := [.lit (.bool true)], args := [d1, d2, d3, d4, d5] }
  | _ => none }
def riskLentRow : OpenClaim := { program := "ytmdoljecjliehaagreat", sum := "b7541d33342d224bd80d05737788218df1594b057dc923e403d46531e5a6439c", func := "tenor/tenorlaw16.RiskLent", spec := "riskLent", inPlace := ["math.Float64bits", "math.Float64frombits", "math.archFloor", "math.archTrunc", "math/bits.Sub64", "math/bits.Add64"], unfollowed := true, recurses := true, named := ["math/bits.divideError", "math/bits.overflowError"], apart := false }
def RiskLentSaid : Prop := riskLentRow.holds Tryz.pinned (OpenSpec.ofChange riskLentSpec)

/-- ITS FALSE NEIGHBOUR: 'it returns false'. Refute it at one input. -/
def riskLentWrong : ChangeSpec := { name := "riskLent", fn := fun _ => fun
  | [d1, d2, d3, d4, d5] => { results := [.lit (.bool false)], args := [d1, d2, d3, d4, d5] }
  | _ => none }
def RiskLentWrongFalsely : Prop := riskLentRow.holds Tryz.pinned (OpenSpec.ofChange riskLentWrong)

/-- 'tenorlaw25.GridApplies': WHATEVER THE INPUT: true; the input reads as it did. -/
def gridAppliesSpec : ChangeSpec := { name := "gridApplies", fn := fun _ => fun
  | [d1, d2] => { results := [.lit (.bool true)], args := [d1, d2] }
  | _ => none }
def gridAppliesRow : OpenClaim := { program := "ytmdoljecjliehaagreat", sum := "b7541d33342d224bd80d05737788218df1594b057dc923e403d46531e5a6439c", func := "tenor/tenorlaw25.GridApplies", spec := "gridApplies", inPlace := ["math.Float64bits", "math/bits.Sub64", "math/bits.Add64", "math.Float64frombits", "math.archFloor", "math.archTrunc"], unfollowed := true, recurses := true, named := ["math/bits.divideError", "math/bits.overflowError"], apart := false }
def GridAppliesSaid : Prop := gridAppliesRow.holds Tryz.pinned (OpenSpec.ofChange gridAppliesSpec)

/-- ITS FALSE NEIGHBOUR: 'it returns false'. Refute it at one input. -/
def gridAppliesWrong : ChangeSpec := { name := "gridApplies", fn := fun _ => fun
  | [d1, d2] => { results := [.lit (.bool false)], args := [d1, d2] }
  | _ => none }
def GridAppliesWrongFalsely : Prop := gridAppliesRow.holds Tryz.pinned (OpenSpec.ofChange gridAppliesWrong)

/-- 'tenorlaw25.GridRuns': WHATEVER THE INPUT: true; the input reads as it did. -/
def gridRunsSpec : ChangeSpec := { name := "gridRuns", fn := fun _ => fun
  | [d1, d2, d3, d4] => { results := [.lit (.bool true)], args := [d1, d2, d3, d4] }
  | _ => none }
def gridRunsRow : OpenClaim := { program := "ytmdoljecjliehaagreat", sum := "b7541d33342d224bd80d05737788218df1594b057dc923e403d46531e5a6439c", func := "tenor/tenorlaw25.GridRuns", spec := "gridRuns", inPlace := ["math.Float64bits", "math/bits.Sub64", "math/bits.Add64", "math.Float64frombits", "math.archFloor", "math.archTrunc"], unfollowed := true, recurses := true, named := ["math/bits.divideError", "math/bits.overflowError"], apart := false }
def GridRunsSaid : Prop := gridRunsRow.holds Tryz.pinned (OpenSpec.ofChange gridRunsSpec)

/-- ITS FALSE NEIGHBOUR: 'it returns false'. Refute it at one input. -/
def gridRunsWrong : ChangeSpec := { name := "gridRuns", fn := fun _ => fun
  | [d1, d2, d3, d4] => { results := [.lit (.bool false)], args := [d1, d2, d3, d4] }
  | _ => none }
def GridRunsWrongFalsely : Prop := gridRunsRow.holds Tryz.pinned (OpenSpec.ofChange gridRunsWrong)

/-- 'tenorlaw11.CurveRates': WHATEVER THE INPUT: true; the input reads as it did. -/
def curveRatesSpec : ChangeSpec := { name := "curveRates", fn := fun _ => fun
  | [d1, d2, d3, d4, d5, d6] => { results := [.lit (.bool true)], args := [d1, d2, d3, d4, d5, d6] }
  | _ => none }
def curveRatesRow : OpenClaim := { program := "ytmdoljecjliehaagreat", sum := "b7541d33342d224bd80d05737788218df1594b057dc923e403d46531e5a6439c", func := "tenor/tenorlaw11.CurveRates", spec := "curveRates", inPlace := ["math.Float64bits", "math/bits.Sub64", "math/bits.Add64", "math.Float64frombits", "math.archFloor", "math.archTrunc"], unfollowed := true, recurses := true, named := ["math/bits.divideError", "math/bits.overflowError"], apart := false }
def CurveRatesSaid : Prop := curveRatesRow.holds Tryz.pinned (OpenSpec.ofChange curveRatesSpec)

/-- ITS FALSE NEIGHBOUR: 'it returns false'. Refute it at one input. -/
def curveRatesWrong : ChangeSpec := { name := "curveRates", fn := fun _ => fun
  | [d1, d2, d3, d4, d5, d6] => { results := [.lit (.bool false)], args := [d1, d2, d3, d4, d5, d6] }
  | _ => none }
def CurveRatesWrongFalsely : Prop := curveRatesRow.holds Tryz.pinned (OpenSpec.ofChange curveRatesWrong)

/- THE SECOND FORM. 'bulk': how many values and letters a reading holds, each counted each time it is reached (what is shared counts as often as it is met; a slice's spare places count too). A statement '..UptoSaid' is the law's where the arguments, and the package variables that the reading takes, are together of bulk at most 1048576: NARROWER than '..Said'. Prove '..Said' where nothing that the law and all that it calls make is longer than what came in: it says more and counts as full. Else prove '..UptoSaid'. A law counts once. -/
mutual
def uptoBulk {H : Type} : DataW H → Nat
  | .lit (.string bytes) => bytes.length + 1
  | .lit _ => 1
  | .nil => 1
  | .ptr d => uptoBulk d + 1
  | .slice elems spare => uptoBulkAll elems + uptoBulkAll spare + 1
  | .agg parts => uptoBulkAll parts + 1
  | .iface _ d => uptoBulk d + 1
  | .map entries => uptoBulkEntries entries + 1
  | .held _ => 1
def uptoBulkAll {H : Type} : List (DataW H) → Nat
  | [] => 0
  | d :: r => uptoBulk d + uptoBulkAll r
def uptoBulkEntries {H : Type} : List (Lit × DataW H) → Nat
  | [] => 0
  | x :: r => uptoBulkEntry x + uptoBulkEntries r
def uptoBulkEntry {H : Type} : Lit × DataW H → Nat
  | (.string bytes, d) => bytes.length + uptoBulk d + 1
  | (_, d) => uptoBulk d + 1
 end
def uptoSmall : (H : Type) → List (DataW H) → Bool := fun _ ds => decide (uptoBulkAll ds ≤ 1048576)
def OpenSpec.upto (s : _root_.Go.ChangeSpec) : _root_.Go.OpenSpec := { _root_.Go.OpenSpec.ofChange s with cond := some uptoSmall }

/-- 'tenorlaw11.CurveFalls', WHERE WHAT IT READS IS OF BULK AT MOST 1048576: true; the input reads as it did. -/
def curveFallsUptoRow : OpenClaim := { program := "ytmdoljecjliehaagreat", sum := "b7541d33342d224bd80d05737788218df1594b057dc923e403d46531e5a6439c", func := "tenor/tenorlaw11.CurveFalls", spec := "curveFalls", inPlace := ["math.Float64bits", "math/bits.Sub64", "math/bits.Add64", "math.Float64frombits", "math.archFloor", "math.archTrunc"], unfollowed := true, recurses := true, named := ["math/bits.divideError", "math/bits.overflowError"], apart := false, narrowed := true }
def CurveFallsUptoSaid : Prop := curveFallsUptoRow.holds Tryz.pinned (OpenSpec.upto curveFallsSpec)

/-- 'tenorlaw25.GridOrder', WHERE WHAT IT READS IS OF BULK AT MOST 1048576: true; the input reads as it did. -/
def gridOrderUptoRow : OpenClaim := { program := "ytmdoljecjliehaagreat", sum := "b7541d33342d224bd80d05737788218df1594b057dc923e403d46531e5a6439c", func := "tenor/tenorlaw25.GridOrder", spec := "gridOrder", inPlace := ["math.Float64bits", "math/bits.Sub64", "math/bits.Add64", "math.Float64frombits", "math.archFloor", "math.archTrunc"], unfollowed := true, recurses := true, named := ["math/bits.divideError", "math/bits.overflowError"], apart := false, narrowed := true }
def GridOrderUptoSaid : Prop := gridOrderUptoRow.holds Tryz.pinned (OpenSpec.upto gridOrderSpec)

/-- 'tenorlaw11.CurveChecks', WHERE WHAT IT READS IS OF BULK AT MOST 1048576: true; the input reads as it did. -/
def curveChecksUptoRow : OpenClaim := { program := "ytmdoljecjliehaagreat", sum := "b7541d33342d224bd80d05737788218df1594b057dc923e403d46531e5a6439c", func := "tenor/tenorlaw11.CurveChecks", spec := "curveChecks", inPlace := ["math.Float64bits", "math/bits.Sub64", "math/bits.Add64", "math.Float64frombits", "math.archFloor", "math.archTrunc"], unfollowed := true, recurses := true, named := ["math/bits.divideError", "math/bits.overflowError"], apart := false, narrowed := true }
def CurveChecksUptoSaid : Prop := curveChecksUptoRow.holds Tryz.pinned (OpenSpec.upto curveChecksSpec)

/-- 'tenorlaw11.CurveFactors', WHERE WHAT IT READS IS OF BULK AT MOST 1048576: true; the input reads as it did. -/
def curveFactorsUptoRow : OpenClaim := { program := "ytmdoljecjliehaagreat", sum := "b7541d33342d224bd80d05737788218df1594b057dc923e403d46531e5a6439c", func := "tenor/tenorlaw11.CurveFactors", spec := "curveFactors", inPlace := ["math.Float64bits", "math/bits.Sub64", "math/bits.Add64", "math.Float64frombits", "math.archFloor", "math.archTrunc"], unfollowed := true, recurses := true, named := ["math/bits.divideError", "math/bits.overflowError"], apart := false, narrowed := true }
def CurveFactorsUptoSaid : Prop := curveFactorsUptoRow.holds Tryz.pinned (OpenSpec.upto curveFactorsSpec)

/-- 'tenorlaw15.PriceOf', WHERE WHAT IT READS IS OF BULK AT MOST 1048576: true; the input reads as it did. -/
def priceOfUptoRow : OpenClaim := { program := "ytmdoljecjliehaagreat", sum := "b7541d33342d224bd80d05737788218df1594b057dc923e403d46531e5a6439c", func := "tenor/tenorlaw15.PriceOf", spec := "priceOf", inPlace := ["math.Float64bits", "math/bits.Sub64", "math/bits.Add64", "math.Float64frombits", "math.archFloor", "math.archTrunc"], unfollowed := true, recurses := true, named := ["math/bits.divideError", "math/bits.overflowError"], apart := false, narrowed := true }
def PriceOfUptoSaid : Prop := priceOfUptoRow.holds Tryz.pinned (OpenSpec.upto priceOfSpec)

/-- 'tenorlaw16.RiskBumps', WHERE WHAT IT READS IS OF BULK AT MOST 1048576: true; the input reads as it did. -/
def riskBumpsUptoRow : OpenClaim := { program := "ytmdoljecjliehaagreat", sum := "b7541d33342d224bd80d05737788218df1594b057dc923e403d46531e5a6439c", func := "tenor/tenorlaw16.RiskBumps", spec := "riskBumps", inPlace := ["math.Float64bits", "math.Float64frombits", "math.archFloor", "math.archTrunc", "math/bits.Sub64", "math/bits.Add64"], unfollowed := true, recurses := true, named := ["math/bits.divideError", "math/bits.overflowError"], apart := false, narrowed := true }
def RiskBumpsUptoSaid : Prop := riskBumpsUptoRow.holds Tryz.pinned (OpenSpec.upto riskBumpsSpec)

/-- 'tenorlaw16.RiskLadders', WHERE WHAT IT READS IS OF BULK AT MOST 1048576: true; the input reads as it did. -/
def riskLaddersUptoRow : OpenClaim := { program := "ytmdoljecjliehaagreat", sum := "b7541d33342d224bd80d05737788218df1594b057dc923e403d46531e5a6439c", func := "tenor/tenorlaw16.RiskLadders", spec := "riskLadders", inPlace := ["math.Float64bits", "math.Float64frombits", "math.archFloor", "math.archTrunc", "math/bits.Sub64", "math/bits.Add64"], unfollowed := true, recurses := true, named := ["math/bits.divideError", "math/bits.overflowError"], apart := false, narrowed := true }
def RiskLaddersUptoSaid : Prop := riskLaddersUptoRow.holds Tryz.pinned (OpenSpec.upto riskLaddersSpec)

/-- 'tenorlaw16.RiskDeltas', WHERE WHAT IT READS IS OF BULK AT MOST 1048576: true; the input reads as it did. -/
def riskDeltasUptoRow : OpenClaim := { program := "ytmdoljecjliehaagreat", sum := "b7541d33342d224bd80d05737788218df1594b057dc923e403d46531e5a6439c", func := "tenor/tenorlaw16.RiskDeltas", spec := "riskDeltas", inPlace := ["math.Float64bits", "math.Float64frombits", "math.archFloor", "math.archTrunc", "math/bits.Sub64", "math/bits.Add64"], unfollowed := true, recurses := true, named := ["math/bits.divideError", "math/bits.overflowError"], apart := false, narrowed := true }
def RiskDeltasUptoSaid : Prop := riskDeltasUptoRow.holds Tryz.pinned (OpenSpec.upto riskDeltasSpec)

/-- 'tenorlaw16.RiskLent', WHERE WHAT IT READS IS OF BULK AT MOST 1048576: true; the input reads as it did. -/
def riskLentUptoRow : OpenClaim := { program := "ytmdoljecjliehaagreat", sum := "b7541d33342d224bd80d05737788218df1594b057dc923e403d46531e5a6439c", func := "tenor/tenorlaw16.RiskLent", spec := "riskLent", inPlace := ["math.Float64bits", "math.Float64frombits", "math.archFloor", "math.archTrunc", "math/bits.Sub64", "math/bits.Add64"], unfollowed := true, recurses := true, named := ["math/bits.divideError", "math/bits.overflowError"], apart := false, narrowed := true }
def RiskLentUptoSaid : Prop := riskLentUptoRow.holds Tryz.pinned (OpenSpec.upto riskLentSpec)

/-- 'tenorlaw25.GridApplies', WHERE WHAT IT READS IS OF BULK AT MOST 1048576: true; the input reads as it did. -/
def gridAppliesUptoRow : OpenClaim := { program := "ytmdoljecjliehaagreat", sum := "b7541d33342d224bd80d05737788218df1594b057dc923e403d46531e5a6439c", func := "tenor/tenorlaw25.GridApplies", spec := "gridApplies", inPlace := ["math.Float64bits", "math/bits.Sub64", "math/bits.Add64", "math.Float64frombits", "math.archFloor", "math.archTrunc"], unfollowed := true, recurses := true, named := ["math/bits.divideError", "math/bits.overflowError"], apart := false, narrowed := true }
def GridAppliesUptoSaid : Prop := gridAppliesUptoRow.holds Tryz.pinned (OpenSpec.upto gridAppliesSpec)

/-- 'tenorlaw25.GridRuns', WHERE WHAT IT READS IS OF BULK AT MOST 1048576: true; the input reads as it did. -/
def gridRunsUptoRow : OpenClaim := { program := "ytmdoljecjliehaagreat", sum := "b7541d33342d224bd80d05737788218df1594b057dc923e403d46531e5a6439c", func := "tenor/tenorlaw25.GridRuns", spec := "gridRuns", inPlace := ["math.Float64bits", "math/bits.Sub64", "math/bits.Add64", "math.Float64frombits", "math.archFloor", "math.archTrunc"], unfollowed := true, recurses := true, named := ["math/bits.divideError", "math/bits.overflowError"], apart := false, narrowed := true }
def GridRunsUptoSaid : Prop := gridRunsUptoRow.holds Tryz.pinned (OpenSpec.upto gridRunsSpec)

/-- 'tenorlaw11.CurveRates', WHERE WHAT IT READS IS OF BULK AT MOST 1048576: true; the input reads as it did. -/
def curveRatesUptoRow : OpenClaim := { program := "ytmdoljecjliehaagreat", sum := "b7541d33342d224bd80d05737788218df1594b057dc923e403d46531e5a6439c", func := "tenor/tenorlaw11.CurveRates", spec := "curveRates", inPlace := ["math.Float64bits", "math/bits.Sub64", "math/bits.Add64", "math.Float64frombits", "math.archFloor", "math.archTrunc"], unfollowed := true, recurses := true, named := ["math/bits.divideError", "math/bits.overflowError"], apart := false, narrowed := true }
def CurveRatesUptoSaid : Prop := curveRatesUptoRow.holds Tryz.pinned (OpenSpec.upto curveRatesSpec)

end Rows
end Go.Proofs.YtmdoljecjliehaaGreat
