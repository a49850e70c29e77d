/- Texts packed into one: Pf Pg Pe Px. No condition. -/
import Derived.Test.YtmdoljecjliehaaGreatPd
section
/- price.Flat: amounts times factors, by steps, where no step meets a NaN. -/
namespace Go.Proofs.YtmdoljecjliehaaGreat.FB
open Go.RowKit Go.Proofs.YtmdoljecjliehaaGreatW.PrintWords Go.Proofs.YtmdoljecjliehaaGreatW.PrintLast Go.Proofs.YtmdoljecjliehaaGreatW.PrintMore Go.Proofs.YtmdoljecjliehaaGreat.FX Go.Proofs.YtmdoljecjliehaaGreat.EV Go.Proofs.YtmdoljecjliehaaGreat.FP Tn
attribute [local go_sem] run_store_float run_neg_float run_fmul run_fadd isSome_setCell
set_option linter.unusedVariables false
set_option linter.unusedSimpArgs false
end Go.Proofs.YtmdoljecjliehaaGreat.FB
end

section
/- price.Flat, where no step meets a NaN. -/
namespace Go.Proofs.YtmdoljecjliehaaGreat.FB
open Go.RowKit Go.Proofs.YtmdoljecjliehaaGreatW.PrintWords Go.Proofs.YtmdoljecjliehaaGreatW.PrintLast Go.Proofs.YtmdoljecjliehaaGreatW.PrintMore Go.Proofs.YtmdoljecjliehaaGreat.FX Go.Proofs.YtmdoljecjliehaaGreat.EV Go.Proofs.YtmdoljecjliehaaGreat.FP Tn
attribute [local go_sem] run_store_float run_neg_float run_fmul isSome_setCell
set_option linter.unusedVariables false
set_option linter.unusedSimpArgs false
end Go.Proofs.YtmdoljecjliehaaGreat.FB
end

section
/- Under ILinear what is told can be reckoned. -/
namespace Go.Proofs.YtmdoljecjliehaaGreat.FB
open Go.RowKit Go.Proofs.YtmdoljecjliehaaGreatW.PrintWords Go.Proofs.YtmdoljecjliehaaGreatW.PrintLast Go.Proofs.YtmdoljecjliehaaGreatW.PrintMore Go.Proofs.YtmdoljecjliehaaGreat.FX Go.Proofs.YtmdoljecjliehaaGreat.EV Go.Proofs.YtmdoljecjliehaaGreat.FP Tn
set_option linter.unusedVariables false
set_option linter.unusedSimpArgs false
def atL (xs : List Int) (ys : List Nat) (x : Int) : Nat × Int :=
 if x < rd xs 0 ∨ rd xs ((xs.length : Int) - 1) < x then (0, 51)
 else if rd xs ((cnt xs x : Int) - 1) = x then (rdOf (0 : Nat) ys ((cnt xs x : Int) - 1), 0)
 else (linV (rdOf (0 : Nat) ys ((cnt xs x : Int) - 1)) (rdOf (0 : Nat) ys ((cnt xs x : Int) - 1 + 1)) (x - rd xs ((cnt xs x : Int) - 1)) (rd xs ((cnt xs x : Int) - 1 + 1) - rd xs ((cnt xs x : Int) - 1)), 0)
def facL (b : Int) (ds : List Int) (fs : List Nat) (x : Int) : Nat × Int := if chkC b 2 ds fs = 0 then atL (b :: ds) (4607182418800017408 :: fs) x else (0, chkC b 2 ds fs)
def sumL (cur b : Int) (ds : List Int) (fs : List Nat) : List S104 → Int
 | [] => 0
 | f :: l => (if counts cur b f = true then unitsP f.f1 (facL b ds fs f.f0).1 else 0) + sumL cur b ds fs l
theorem C_blk {α : Type} (d : Kd α) {w : World} {g : Nat} {t : TypeId} {cells : Array Value} {xs : List α} (hb : w.heap[g]? = some (.cells cells t (0, 0))) (hm : xs.length ≤ 1000)
  (h : ∀ j p, xs[j]? = some p → ∃ c : List Value, c.length = d.sz ∧ d.K w p c ∧ ∀ i u, c[i]? = some u → cells[j * d.sz + i]? = some u) : d.C w (some ⟨g, 0, none⟩) xs.length xs := by
 (refine ⟨rfl, by omega, fun _ => ⟨⟨g, 0, none⟩, rfl, fun j p hp => ?_⟩⟩);(obtain ⟨c, h1, h2, h3⟩ := h j p hp);(refine ⟨c, h1, h2, fun i u hu => ?_⟩);(have := blk_cell hb (j * d.sz + i));(rw [h3 i u hu] at this);(rw [← this])
 congr 1
 (simp [Addr.add]);(intro e1 e2);(rw [e1, e2])
theorem C_ints {w : World} {g : Nat} {t : TypeId} {cells : Array Value} {xs : List Int} (hb : w.heap[g]? = some (.cells cells t (0, 0))) (hm : xs.length ≤ 1000) (h : cells.toList = xs.map (Value.int .i64)) : Kd.C (Kd.int .i64) w (some ⟨g, 0, none⟩) xs.length xs :=
 C_blk _ hb hm fun j p hp => ⟨[.int .i64 p], rfl, rfl, fun i u hu => by
  have hi : i = 0 := by
   have := (List.getElem?_eq_some_iff.1 hu).1
   simpa using this
  (subst hi);(have e : cells[j]? = some (.int .i64 p) := by rw [← Array.getElem?_toList, h, List.getElem?_map, hp]; rfl);(rw [show j * (Kd.int .i64).sz + 0 = j from Nat.mul_one j, e])
  exact hu⟩
theorem C_flts {w : World} {g : Nat} {t : TypeId} {cells : Array Value} {xs : List Nat} (hb : w.heap[g]? = some (.cells cells t (0, 0))) (hm : xs.length ≤ 1000) (h : cells.toList = xs.map (Value.float .f64)) : Kd.C Kd.flt w (some ⟨g, 0, none⟩) xs.length xs :=
 C_blk _ hb hm fun j p hp => ⟨[.float .f64 p], rfl, rfl, fun i u hu => by
  have hi : i = 0 := by
   have := (List.getElem?_eq_some_iff.1 hu).1
   simpa using this
  (subst hi);(have e : cells[j]? = some (.float .f64 p) := by rw [← Array.getElem?_toList, h, List.getElem?_map, hp]; rfl);(rw [show j * Kd.flt.sz + 0 = j from Nat.mul_one j, e])
  exact hu⟩
end Go.Proofs.YtmdoljecjliehaaGreat.FB
end

section
/- law 15's awake, in the print's shape. -/
namespace Go.Proofs.YtmdoljecjliehaaGreat.FB
open Go.RowKit Go.Proofs.YtmdoljecjliehaaGreatW.PrintWords Go.Proofs.YtmdoljecjliehaaGreat.FX Tn
end Go.Proofs.YtmdoljecjliehaaGreat.FB
end
