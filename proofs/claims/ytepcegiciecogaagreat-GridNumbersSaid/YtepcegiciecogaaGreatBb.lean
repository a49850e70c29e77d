/- grid.Count, plainly. No walk. -/
import Derived.Test.YtepcegiciecogaaGreatFGx2
import Derived.Test.YtepcegiciecogaaGreatEv
namespace Go.Proofs.YtepcegiciecogaaGreat.FG
open Go.RowKit Go.Proofs.YtepcegiciecogaaGreatW.PrintWords Go.Proofs.YtepcegiciecogaaGreatW.PrintLast Go.Proofs.YtepcegiciecogaaGreatW.PrintMore Tn
open Go.Proofs.YtepcegiciecogaaGreat.FX Go.Proofs.YtepcegiciecogaaGreat.EV
set_option linter.unusedVariables false

def okN (l : List Nat) : Prop := ∀ x ∈ l, x < 18446744073709551616
def allF (l : List Nat) : Bool := l.all fun x => fin x
theorem num_f {a : Nat} (h : a < 18446744073709551616) : grid_number.f a = some (fin a) := if_pos h
theorem numbers_go (l : List Nat) (hw : okN l) (hl : l.length < 4611686018427387904) : ∀ d i : Nat, i + d = l.length → Evt (fun k => grid_numbers.l0 k l (l.length : Int) (i : Int)) (if allF (l.drop i) = true then 0 else 91)
  | 0, i, h => by
    refine Evt.last fun k => ?_
    rw [grid_numbers.l0, if_neg (by omega), List.drop_of_length_le (by omega)]; rfl
  | d + 1, i, h => by
    have hi : i < l.length := by omega
    have ih := numbers_go l hw hl d (i + 1) (by omega)
    have hx := hw _ (List.getElem_mem hi)
    have e : allF (l.drop i) = (fin l[i] && allF (l.drop (i + 1))) := by rw [List.drop_eq_getElem_cons hi]; rfl
    rw [e]
    cases hf : fin l[i]
    · rw [Bool.false_and, if_neg (by decide)]
      refine Evt.last fun k => ?_
      rw [grid_numbers.l0, if_pos (by omega), if_pos (by omega), if_pos (by omega), rdf_at hi, num_f hx, Option.bind_some, hf, if_neg (by decide)]
    · rw [Bool.true_and]
      refine Evt.next ih fun k => ?_
      rw [grid_numbers.l0, if_pos (by omega), if_pos (by omega), if_pos (by omega), rdf_at hi, num_f hx, Option.bind_some, hf, if_pos rfl, w64 (by omega) (by omega)]
      rfl
theorem numbers_e (l : List Nat) (hw : okN l) (hl : l.length < 4611686018427387904) : Evt (fun k => grid_numbers.f k l) (if allF l = true then 0 else 91) :=
  numbers_go l hw hl l.length 0 (by omega)
end Go.Proofs.YtepcegiciecogaaGreat.FG
