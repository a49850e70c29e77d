/-
  No cell of these rows narrows 'for every input' (looked for: loops, veiled, ifaces, maps, wideKeys, modest, calm, conditions, laid).
  DERIVED. THE GIVEN ROWS OF THIS SEAT. 8 by the template 'for every input the law returns true; each argument reads behind the call as it read before'; 0 by the template 'total and deterministic' (their statements: YthkcphdhmkcdkaaTotals.lean).
  GIVEN WITH THE SEED: the statements are not yours to turn. If you find one false, say at which input.
  Laid BY PROGRAM, IN A SANDBOX (cutbox-rows.mjs): the forced cells as the released guide's own fill.sh prints them over the translation 1d81c86db1b20386… (all of the seat's roots in one cut). By AI agents, Wed Nov 11 2026. No macro, syntax, notation, axiom, sorry.
-/
import Derived.Test.YthkcphdhmkcdkaaChecked
import GoSem.Claim
import GoSem.ClaimJoined
import GoSem.ClaimMapViews
import Derived.JoinedTies
import Derived.KernelRfl
namespace Go.Proofs.Ythkcphdhmkcdkaa
/- THE CELL 'sum', in the pinned program and in every row, IS THE sha256 OF THE DUMP (.gsa) THAT YthkcphdhmkcdkaaProg.lean LOADS. Nothing in Lean hashes anything: it is a label: what it is worth is what the hold of that sum in a sandbox is worth. -/
noncomputable def Try.pinned : Pinned := { name := "ythkcphdhmkcdkaa", sum := "1d81c86db1b2038697fa40fd5160dd57c5f21eca4643ab97b2e11b4b6e7e8a98", checked := Try.checked }
namespace Rows
def none {H : Type} : Left H := { results := [], args := [] }

/-- 'tenorlaw15.PriceOwn': WHATEVER THE INPUT: true; the input reads as it did. -/
def priceOwnSpec : ChangeSpec := { name := "priceOwn", fn := fun _ => fun
  | [d1, d2, d3, d4] => { results := [.lit (.bool true)], args := [d1, d2, d3, d4] }
  | _ => none }
def priceOwnRow : OpenClaim := { program := "ythkcphdhmkcdkaa", sum := "1d81c86db1b2038697fa40fd5160dd57c5f21eca4643ab97b2e11b4b6e7e8a98", func := "tenor/tenorlaw15.PriceOwn", spec := "priceOwn", inPlace := ["math.Float64bits", "math/bits.Sub64", "math/bits.Add64", "math.Float64frombits", "math.archFloor", "math.archTrunc"], unfollowed := true, recurses := true, named := ["math/bits.divideError", "math/bits.overflowError"], apart := false }
def PriceOwnSaid : Prop := priceOwnRow.holds Try.pinned (OpenSpec.ofChange priceOwnSpec)

/-- ITS FALSE NEIGHBOUR: 'it returns false'. Refute it at one input. -/
def priceOwnWrong : ChangeSpec := { name := "priceOwn", fn := fun _ => fun
  | [d1, d2, d3, d4] => { results := [.lit (.bool false)], args := [d1, d2, d3, d4] }
  | _ => none }
def PriceOwnWrongFalsely : Prop := priceOwnRow.holds Try.pinned (OpenSpec.ofChange priceOwnWrong)

/-- 'tenorlaw15.PriceParts': WHATEVER THE INPUT: true; the input reads as it did. -/
def pricePartsSpec : ChangeSpec := { name := "priceParts", fn := fun _ => fun
  | [d1, d2, d3, d4, d5] => { results := [.lit (.bool true)], args := [d1, d2, d3, d4, d5] }
  | _ => none }
def pricePartsRow : OpenClaim := { program := "ythkcphdhmkcdkaa", sum := "1d81c86db1b2038697fa40fd5160dd57c5f21eca4643ab97b2e11b4b6e7e8a98", func := "tenor/tenorlaw15.PriceParts", spec := "priceParts", inPlace := ["math.Float64bits", "math/bits.Sub64", "math/bits.Add64", "math.Float64frombits", "math.archFloor", "math.archTrunc"], unfollowed := true, recurses := true, named := ["math/bits.divideError", "math/bits.overflowError"], apart := false }
def PricePartsSaid : Prop := pricePartsRow.holds Try.pinned (OpenSpec.ofChange pricePartsSpec)

/-- ITS FALSE NEIGHBOUR: 'it returns false'. Refute it at one input. -/
def pricePartsWrong : ChangeSpec := { name := "priceParts", fn := fun _ => fun
  | [d1, d2, d3, d4, d5] => { results := [.lit (.bool false)], args := [d1, d2, d3, d4, d5] }
  | _ => none }
def PricePartsWrongFalsely : Prop := pricePartsRow.holds Try.pinned (OpenSpec.ofChange pricePartsWrong)

/-- 'tenorlaw15.PriceRises': WHATEVER THE INPUT: true; the input reads as it did. -/
def priceRisesSpec : ChangeSpec := { name := "priceRises", fn := fun _ => fun
  | [d1, d2, d3, d4] => { results := [.lit (.bool true)], args := [d1, d2, d3, d4] }
  | _ => none }
def priceRisesRow : OpenClaim := { program := "ythkcphdhmkcdkaa", sum := "1d81c86db1b2038697fa40fd5160dd57c5f21eca4643ab97b2e11b4b6e7e8a98", func := "tenor/tenorlaw15.PriceRises", spec := "priceRises", inPlace := ["math.Float64bits", "math/bits.Sub64", "math/bits.Add64", "math.Float64frombits", "math.archFloor", "math.archTrunc"], unfollowed := true, recurses := true, named := ["math/bits.divideError", "math/bits.overflowError"], apart := false }
def PriceRisesSaid : Prop := priceRisesRow.holds Try.pinned (OpenSpec.ofChange priceRisesSpec)

/-- ITS FALSE NEIGHBOUR: 'it returns false'. Refute it at one input. -/
def priceRisesWrong : ChangeSpec := { name := "priceRises", fn := fun _ => fun
  | [d1, d2, d3, d4] => { results := [.lit (.bool false)], args := [d1, d2, d3, d4] }
  | _ => none }
def PriceRisesWrongFalsely : Prop := priceRisesRow.holds Try.pinned (OpenSpec.ofChange priceRisesWrong)

/-- 'tenorlaw15.PriceScales': WHATEVER THE INPUT: true; the input reads as it did. -/
def priceScalesSpec : ChangeSpec := { name := "priceScales", fn := fun _ => fun
  | [d1, d2, d3, d4] => { results := [.lit (.bool true)], args := [d1, d2, d3, d4] }
  | _ => none }
def priceScalesRow : OpenClaim := { program := "ythkcphdhmkcdkaa", sum := "1d81c86db1b2038697fa40fd5160dd57c5f21eca4643ab97b2e11b4b6e7e8a98", func := "tenor/tenorlaw15.PriceScales", spec := "priceScales", inPlace := ["math.Float64bits", "math/bits.Sub64", "math/bits.Add64", "math.Float64frombits", "math.archFloor", "math.archTrunc"], unfollowed := true, recurses := true, named := ["math/bits.divideError", "math/bits.overflowError"], apart := false }
def PriceScalesSaid : Prop := priceScalesRow.holds Try.pinned (OpenSpec.ofChange priceScalesSpec)

/-- ITS FALSE NEIGHBOUR: 'it returns false'. Refute it at one input. -/
def priceScalesWrong : ChangeSpec := { name := "priceScales", fn := fun _ => fun
  | [d1, d2, d3, d4] => { results := [.lit (.bool false)], args := [d1, d2, d3, d4] }
  | _ => none }
def PriceScalesWrongFalsely : Prop := priceScalesRow.holds Try.pinned (OpenSpec.ofChange priceScalesWrong)

/-- 'tenorlaw16.RiskOne': WHATEVER THE INPUT: true; the input reads as it did. -/
def riskOneSpec : ChangeSpec := { name := "riskOne", fn := fun _ => fun
  | [d1, d2, d3, d4, d5, d6, d7] => { results := [.lit (.bool true)], args := [d1, d2, d3, d4, d5, d6, d7] }
  | _ => none }
def riskOneRow : OpenClaim := { program := "ythkcphdhmkcdkaa", sum := "1d81c86db1b2038697fa40fd5160dd57c5f21eca4643ab97b2e11b4b6e7e8a98", func := "tenor/tenorlaw16.RiskOne", spec := "riskOne", inPlace := ["math.Float64bits", "math.Float64frombits", "math.archFloor", "math.archTrunc", "math/bits.Sub64", "math/bits.Add64"], unfollowed := true, recurses := true, named := ["math/bits.divideError", "math/bits.overflowError"], apart := false }
def RiskOneSaid : Prop := riskOneRow.holds Try.pinned (OpenSpec.ofChange riskOneSpec)

/-- ITS FALSE NEIGHBOUR: 'it returns false'. Refute it at one input. -/
def riskOneWrong : ChangeSpec := { name := "riskOne", fn := fun _ => fun
  | [d1, d2, d3, d4, d5, d6, d7] => { results := [.lit (.bool false)], args := [d1, d2, d3, d4, d5, d6, d7] }
  | _ => none }
def RiskOneWrongFalsely : Prop := riskOneRow.holds Try.pinned (OpenSpec.ofChange riskOneWrong)

/-- 'tenorlaw16.RiskFar': WHATEVER THE INPUT: true; the input reads as it did. -/
def riskFarSpec : ChangeSpec := { name := "riskFar", fn := fun _ => fun
  | [d1, d2, d3, d4, d5] => { results := [.lit (.bool true)], args := [d1, d2, d3, d4, d5] }
  | _ => none }
def riskFarRow : OpenClaim := { program := "ythkcphdhmkcdkaa", sum := "1d81c86db1b2038697fa40fd5160dd57c5f21eca4643ab97b2e11b4b6e7e8a98", func := "tenor/tenorlaw16.RiskFar", spec := "riskFar", inPlace := ["math.Float64bits", "math.Float64frombits", "math.archFloor", "math.archTrunc", "math/bits.Sub64", "math/bits.Add64"], unfollowed := true, recurses := true, named := ["math/bits.divideError", "math/bits.overflowError"], apart := false }
def RiskFarSaid : Prop := riskFarRow.holds Try.pinned (OpenSpec.ofChange riskFarSpec)

/-- ITS FALSE NEIGHBOUR: 'it returns false'. Refute it at one input. -/
def riskFarWrong : ChangeSpec := { name := "riskFar", fn := fun _ => fun
  | [d1, d2, d3, d4, d5] => { results := [.lit (.bool false)], args := [d1, d2, d3, d4, d5] }
  | _ => none }
def RiskFarWrongFalsely : Prop := riskFarRow.holds Try.pinned (OpenSpec.ofChange riskFarWrong)

/-- 'tenorlaw16.RiskNone': WHATEVER THE INPUT: true; the input reads as it did. -/
def riskNoneSpec : ChangeSpec := { name := "riskNone", fn := fun _ => fun
  | [d1, d2, d3, d4] => { results := [.lit (.bool true)], args := [d1, d2, d3, d4] }
  | _ => none }
def riskNoneRow : OpenClaim := { program := "ythkcphdhmkcdkaa", sum := "1d81c86db1b2038697fa40fd5160dd57c5f21eca4643ab97b2e11b4b6e7e8a98", func := "tenor/tenorlaw16.RiskNone", spec := "riskNone", inPlace := ["math.Float64bits", "math.Float64frombits", "math.archFloor", "math.archTrunc", "math/bits.Sub64", "math/bits.Add64"], unfollowed := true, recurses := true, named := ["math/bits.divideError", "math/bits.overflowError"], apart := false }
def RiskNoneSaid : Prop := riskNoneRow.holds Try.pinned (OpenSpec.ofChange riskNoneSpec)

/-- ITS FALSE NEIGHBOUR: 'it returns false'. Refute it at one input. -/
def riskNoneWrong : ChangeSpec := { name := "riskNone", fn := fun _ => fun
  | [d1, d2, d3, d4] => { results := [.lit (.bool false)], args := [d1, d2, d3, d4] }
  | _ => none }
def RiskNoneWrongFalsely : Prop := riskNoneRow.holds Try.pinned (OpenSpec.ofChange riskNoneWrong)

/-- 'tenorlaw16.RiskFalls': WHATEVER THE INPUT: true; the input reads as it did. -/
def riskFallsSpec : ChangeSpec := { name := "riskFalls", fn := fun _ => fun
  | [d1, d2, d3, d4] => { results := [.lit (.bool true)], args := [d1, d2, d3, d4] }
  | _ => none }
def riskFallsRow : OpenClaim := { program := "ythkcphdhmkcdkaa", sum := "1d81c86db1b2038697fa40fd5160dd57c5f21eca4643ab97b2e11b4b6e7e8a98", func := "tenor/tenorlaw16.RiskFalls", spec := "riskFalls", inPlace := ["math.Float64bits", "math.Float64frombits", "math.archFloor", "math.archTrunc", "math/bits.Sub64", "math/bits.Add64"], unfollowed := true, recurses := true, named := ["math/bits.divideError", "math/bits.overflowError"], apart := false }
def RiskFallsSaid : Prop := riskFallsRow.holds Try.pinned (OpenSpec.ofChange riskFallsSpec)

/-- ITS FALSE NEIGHBOUR: 'it returns false'. Refute it at one input. -/
def riskFallsWrong : ChangeSpec := { name := "riskFalls", fn := fun _ => fun
  | [d1, d2, d3, d4] => { results := [.lit (.bool false)], args := [d1, d2, d3, d4] }
  | _ => none }
def RiskFallsWrongFalsely : Prop := riskFallsRow.holds Try.pinned (OpenSpec.ofChange riskFallsWrong)

/- THE SECOND FORM. 'bulk': how many values and letters a reading holds, each counted each time it is reached (what is shared counts as often as it is met; a slice's spare places count too). A statement '..UptoSaid' is the law's where the arguments, and the package variables that the reading takes, are together of bulk at most 1048576: NARROWER than '..Said'. Prove '..Said' where nothing that the law and all that it calls make is longer than what came in: it says more and counts as full. Else prove '..UptoSaid'. A law counts once. -/
mutual
def uptoBulk {H : Type} : DataW H → Nat
  | .lit (.string bytes) => bytes.length + 1
  | .lit _ => 1
  | .nil => 1
  | .ptr d => uptoBulk d + 1
  | .slice elems spare => uptoBulkAll elems + uptoBulkAll spare + 1
  | .agg parts => uptoBulkAll parts + 1
  | .iface _ d => uptoBulk d + 1
  | .map entries => uptoBulkEntries entries + 1
  | .held _ => 1
def uptoBulkAll {H : Type} : List (DataW H) → Nat
  | [] => 0
  | d :: r => uptoBulk d + uptoBulkAll r
def uptoBulkEntries {H : Type} : List (Lit × DataW H) → Nat
  | [] => 0
  | x :: r => uptoBulkEntry x + uptoBulkEntries r
def uptoBulkEntry {H : Type} : Lit × DataW H → Nat
  | (.string bytes, d) => bytes.length + uptoBulk d + 1
  | (_, d) => uptoBulk d + 1
 end
def uptoSmall : (H : Type) → List (DataW H) → Bool := fun _ ds => decide (uptoBulkAll ds ≤ 1048576)
def OpenSpec.upto (s : _root_.Go.ChangeSpec) : _root_.Go.OpenSpec := { _root_.Go.OpenSpec.ofChange s with cond := some uptoSmall }

/-- 'tenorlaw15.PriceOwn', WHERE WHAT IT READS IS OF BULK AT MOST 1048576: true; the input reads as it did. -/
def priceOwnUptoRow : OpenClaim := { program := "ythkcphdhmkcdkaa", sum := "1d81c86db1b2038697fa40fd5160dd57c5f21eca4643ab97b2e11b4b6e7e8a98", func := "tenor/tenorlaw15.PriceOwn", spec := "priceOwn", inPlace := ["math.Float64bits", "math/bits.Sub64", "math/bits.Add64", "math.Float64frombits", "math.archFloor", "math.archTrunc"], unfollowed := true, recurses := true, named := ["math/bits.divideError", "math/bits.overflowError"], apart := false, narrowed := true }
def PriceOwnUptoSaid : Prop := priceOwnUptoRow.holds Try.pinned (OpenSpec.upto priceOwnSpec)

/-- 'tenorlaw15.PriceParts', WHERE WHAT IT READS IS OF BULK AT MOST 1048576: true; the input reads as it did. -/
def pricePartsUptoRow : OpenClaim := { program := "ythkcphdhmkcdkaa", sum := "1d81c86db1b2038697fa40fd5160dd57c5f21eca4643ab97b2e11b4b6e7e8a98", func := "tenor/tenorlaw15.PriceParts", spec := "priceParts", inPlace := ["math.Float64bits", "math/bits.Sub64", "math/bits.Add64", "math.Float64frombits", "math.archFloor", "math.archTrunc"], unfollowed := true, recurses := true, named := ["math/bits.divideError", "math/bits.overflowError"], apart := false, narrowed := true }
def PricePartsUptoSaid : Prop := pricePartsUptoRow.holds Try.pinned (OpenSpec.upto pricePartsSpec)

/-- 'tenorlaw15.PriceRises', WHERE WHAT IT READS IS OF BULK AT MOST 1048576: true; the input reads as it did. -/
def priceRisesUptoRow : OpenClaim := { program := "ythkcphdhmkcdkaa", sum := "1d81c86db1b2038697fa40fd5160dd57c5f21eca4643ab97b2e11b4b6e7e8a98", func := "tenor/tenorlaw15.PriceRises", spec := "priceRises", inPlace := ["math.Float64bits", "math/bits.Sub64", "math/bits.Add64", "math.Float64frombits", "math.archFloor", "math.archTrunc"], unfollowed := true, recurses := true, named := ["math/bits.divideError", "math/bits.overflowError"], apart := false, narrowed := true }
def PriceRisesUptoSaid : Prop := priceRisesUptoRow.holds Try.pinned (OpenSpec.upto priceRisesSpec)

/-- 'tenorlaw15.PriceScales', WHERE WHAT IT READS IS OF BULK AT MOST 1048576: true; the input reads as it did. -/
def priceScalesUptoRow : OpenClaim := { program := "ythkcphdhmkcdkaa", sum := "1d81c86db1b2038697fa40fd5160dd57c5f21eca4643ab97b2e11b4b6e7e8a98", func := "tenor/tenorlaw15.PriceScales", spec := "priceScales", inPlace := ["math.Float64bits", "math/bits.Sub64", "math/bits.Add64", "math.Float64frombits", "math.archFloor", "math.archTrunc"], unfollowed := true, recurses := true, named := ["math/bits.divideError", "math/bits.overflowError"], apart := false, narrowed := true }
def PriceScalesUptoSaid : Prop := priceScalesUptoRow.holds Try.pinned (OpenSpec.upto priceScalesSpec)

/-- 'tenorlaw16.RiskOne', WHERE WHAT IT READS IS OF BULK AT MOST 1048576: true; the input reads as it did. -/
def riskOneUptoRow : OpenClaim := { program := "ythkcphdhmkcdkaa", sum := "1d81c86db1b2038697fa40fd5160dd57c5f21eca4643ab97b2e11b4b6e7e8a98", func := "tenor/tenorlaw16.RiskOne", spec := "riskOne", inPlace := ["math.Float64bits", "math.Float64frombits", "math.archFloor", "math.archTrunc", "math/bits.Sub64", "math/bits.Add64"], unfollowed := true, recurses := true, named := ["math/bits.divideError", "math/bits.overflowError"], apart := false, narrowed := true }
def RiskOneUptoSaid : Prop := riskOneUptoRow.holds Try.pinned (OpenSpec.upto riskOneSpec)

/-- 'tenorlaw16.RiskFar', WHERE WHAT IT READS IS OF BULK AT MOST 1048576: true; the input reads as it did. -/
def riskFarUptoRow : OpenClaim := { program := "ythkcphdhmkcdkaa", sum := "1d81c86db1b2038697fa40fd5160dd57c5f21eca4643ab97b2e11b4b6e7e8a98", func := "tenor/tenorlaw16.RiskFar", spec := "riskFar", inPlace := ["math.Float64bits", "math.Float64frombits", "math.archFloor", "math.archTrunc", "math/bits.Sub64", "math/bits.Add64"], unfollowed := true, recurses := true, named := ["math/bits.divideError", "math/bits.overflowError"], apart := false, narrowed := true }
def RiskFarUptoSaid : Prop := riskFarUptoRow.holds Try.pinned (OpenSpec.upto riskFarSpec)

/-- 'tenorlaw16.RiskNone', WHERE WHAT IT READS IS OF BULK AT MOST 1048576: true; the input reads as it did. -/
def riskNoneUptoRow : OpenClaim := { program := "ythkcphdhmkcdkaa", sum := "1d81c86db1b2038697fa40fd5160dd57c5f21eca4643ab97b2e11b4b6e7e8a98", func := "tenor/tenorlaw16.RiskNone", spec := "riskNone", inPlace := ["math.Float64bits", "math.Float64frombits", "math.archFloor", "math.archTrunc", "math/bits.Sub64", "math/bits.Add64"], unfollowed := true, recurses := true, named := ["math/bits.divideError", "math/bits.overflowError"], apart := false, narrowed := true }
def RiskNoneUptoSaid : Prop := riskNoneUptoRow.holds Try.pinned (OpenSpec.upto riskNoneSpec)

/-- 'tenorlaw16.RiskFalls', WHERE WHAT IT READS IS OF BULK AT MOST 1048576: true; the input reads as it did. -/
def riskFallsUptoRow : OpenClaim := { program := "ythkcphdhmkcdkaa", sum := "1d81c86db1b2038697fa40fd5160dd57c5f21eca4643ab97b2e11b4b6e7e8a98", func := "tenor/tenorlaw16.RiskFalls", spec := "riskFalls", inPlace := ["math.Float64bits", "math.Float64frombits", "math.archFloor", "math.archTrunc", "math/bits.Sub64", "math/bits.Add64"], unfollowed := true, recurses := true, named := ["math/bits.divideError", "math/bits.overflowError"], apart := false, narrowed := true }
def RiskFallsUptoSaid : Prop := riskFallsUptoRow.holds Try.pinned (OpenSpec.upto riskFallsSpec)

end Rows
end Go.Proofs.Ythkcphdhmkcdkaa
