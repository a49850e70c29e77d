/- Written by the session's fprint.py out of the translation. -/
import Derived.Test.YtepcegiciecogaaFJx0
namespace Go.Proofs.Ytepcegiciecogaa.FJ
open Go.RowKit Go.Proofs.YtepcegiciecogaaW.PrintWords Go.Proofs.YtepcegiciecogaaW.PrintLast Go.Proofs.YtepcegiciecogaaW.PrintMore
attribute [local go_sem] max2_int min2_int max_two min_two max_three min_three max_four min_four   -- for this text's walks alone
open Go.Proofs.Ytepcegiciecogaa.FX Go.Proofs.Ytepcegiciecogaa.FG Go.Proofs.Ytepcegiciecogaa.FI
attribute [local go_sem] run_store_float run_neg_float run_fmul isSome_setCell 
set_option linter.unusedVariables false
set_option linter.unusedSimpArgs false

/-! ### tenorlaw25_GridParts: function 7 -/
mutual
def tenorlaw25_GridParts.j0 : Nat → List Nat → List Int → Int → Int → Int → List Nat → Bool → Option (Bool)
  | 0, _, _, _, _, _, _, _ => none
  | k + 1, x0, x1, x2, x3, x4, x5, x50 => if x50 = true then ((law25_awake.f).bind fun t101 => (some t101)) else ((some (([] : List Nat) : List Nat)).bind fun y102 => (if y102.length + x0.length < 17592186044416 then (tenorlaw25_GridParts.l0 k x0 x1 x2 x3 x4 x5 (y102 ++ x0) 0) else (none)))
def tenorlaw25_GridParts.j2 : Nat → List Nat → Int → Int → Int → List Nat → List Nat → Option (Bool)
  | 0, _, _, _, _, _, _ => none
  | k + 1, x0, x2, x3, x4, x5, x13 => (grid_Quantile.f k x0 x2 x4).bind fun bt113 => ((grid_Quantile.f k x13 x2 x4).bind fun bt115 => ((grid_Quantile.f k x0 x3 x4).bind fun bt117 => (if bt113.2 = bt115.2 then ((api_Bits.f bt113.1).bind fun t119 => ((api_Bits.f bt115.1).bind fun t120 => (if t119 = t120 then ((grid_Mean.f k x0).bind fun bt121 => ((grid_Mean.f k x13).bind fun bt123 => (if bt121.2 = bt123.2 then ((api_Bits.f bt121.1).bind fun t125 => ((api_Bits.f bt123.1).bind fun t126 => (if t125 = t126 then ((grid_Count.f k x0 x5).bind fun bt127 => ((grid_Count.f k x13 x5).bind fun bt131 => (if bt127.2 = bt131.2 then ((tenorlaw25_same.f k bt127.1 bt131.1).bind fun t135 => (if t135 = true then (if bt127.2 = 0 then (tenorlaw25_GridParts.l1 k x0 x2 x3 x4 bt113.1 bt113.2 bt117.1 bt117.2 bt121.1 bt121.2 bt127.1 0 0) else (tenorlaw25_GridParts.j4 k x0 x2 x3 x4 bt113.1 bt113.2 bt117.1 bt117.2 bt121.1 bt121.2)) else (some false))) else (none)))) else (none)))) else (none)))) else (none)))) else (none))))
def tenorlaw25_GridParts.j4 : Nat → List Nat → Int → Int → Int → Nat → Int → Nat → Int → Nat → Int → Option (Bool)
  | 0, _, _, _, _, _, _, _, _, _, _ => none
  | k + 1, x0, x2, x3, x4, x16, x17, x20, x21, x22, x23 => if x17 = 0 then (if x21 = 0 then (tenorlaw25_GridParts.j5 k x0 x2 x3 x4 x16 x20 x22 (x23 != 0)) else (tenorlaw25_GridParts.j5 k x0 x2 x3 x4 x16 x20 x22 true)) else (tenorlaw25_GridParts.j5 k x0 x2 x3 x4 x16 x20 x22 true)
def tenorlaw25_GridParts.j5 : Nat → List Nat → Int → Int → Int → Nat → Nat → Nat → Bool → Option (Bool)
  | 0, _, _, _, _, _, _, _, _ => none
  | k + 1, x0, x2, x3, x4, x16, x20, x22, x201 => if x201 = true then ((law25_awake.f).bind fun t137 => (some t137)) else ((grid_Quantile.f k x0 0 1).bind fun bt138 => ((grid_Quantile.f k x0 1 1).bind fun bt140 => (tenorlaw25_GridParts.l2 k x0 x2 x3 x4 x16 x20 x22 bt138.1 bt138.2 bt140.1 bt140.2 0 0)))
def tenorlaw25_GridParts.l2 : Nat → List Nat → Int → Int → Int → Nat → Nat → Nat → Nat → Int → Nat → Int → Int → Int → Option (Bool)
  | 0, _, _, _, _, _, _, _, _, _, _, _, _, _ => none
  | k + 1, x0, x2, x3, x4, x16, x20, x22, x32, x33, x34, x35, x36, x37 => if x37 < (x0.length : Int) then (if 0 ≤ x37 then (if (FloatKind.f64.format.order (rdOf (0 : Nat) x0 x37) x16 == some .lt || FloatKind.f64.format.order (rdOf (0 : Nat) x0 x37) x16 == some .eq) = true then (if (FloatKind.f64.format.order (rdOf (0 : Nat) x0 x37) x32 == some .lt) = true then (none) else (if (FloatKind.f64.format.order (rdOf (0 : Nat) x0 x37) x34 == some .gt) = true then (none) else (tenorlaw25_GridParts.l2 k x0 x2 x3 x4 x16 x20 x22 x32 x33 x34 x35 (wrap64 (x36 + 1)) (wrap64 (x37 + 1))))) else (if (FloatKind.f64.format.order (rdOf (0 : Nat) x0 x37) x32 == some .lt) = true then (none) else (if (FloatKind.f64.format.order (rdOf (0 : Nat) x0 x37) x34 == some .gt) = true then (none) else (tenorlaw25_GridParts.l2 k x0 x2 x3 x4 x16 x20 x22 x32 x33 x34 x35 x36 (wrap64 (x37 + 1)))))) else (none)) else (if x33 = 0 then (if x35 = 0 then (if (FloatKind.f64.format.order x32 x22 == some .lt || FloatKind.f64.format.order x32 x22 == some .eq) = true then (if (FloatKind.f64.format.order x22 x34 == some .lt || FloatKind.f64.format.order x22 x34 == some .eq) = true then (if (FloatKind.f64.format.order x32 x16 == some .lt || FloatKind.f64.format.order x32 x16 == some .eq) = true then (if (FloatKind.f64.format.order x16 x34 == some .lt || FloatKind.f64.format.order x16 x34 == some .eq) = true then (if (wrap64 (x36 * x4)) ≥ (wrap64 ((x0.length : Int) * x2)) then (if x2 > x3 then ((law25_awake.f).bind fun t142 => (some t142)) else (if (FloatKind.f64.format.order x16 x20 == some .lt || FloatKind.f64.format.order x16 x20 == some .eq) = true then ((law25_awake.f).bind fun t143 => (some t143)) else (none))) else (none)) else (none)) else (none)) else (none)) else (none)) else (none)) else (none))
def tenorlaw25_GridParts.l1 : Nat → List Nat → Int → Int → Int → Nat → Int → Nat → Int → Nat → Int → List Int → Int → Int → Option (Bool)
  | 0, _, _, _, _, _, _, _, _, _, _, _, _, _ => none
  | k + 1, x0, x2, x3, x4, x16, x17, x20, x21, x22, x23, x26, x30, x31 => if x31 < (x26.length : Int) then (if 0 ≤ x31 then (tenorlaw25_GridParts.l1 k x0 x2 x3 x4 x16 x17 x20 x21 x22 x23 x26 (wrap64 (x30 + (rd x26 x31))) (wrap64 (x31 + 1))) else (none)) else (if x30 = (x0.length : Int) then (tenorlaw25_GridParts.j4 k x0 x2 x3 x4 x16 x17 x20 x21 x22 x23) else (none))
def tenorlaw25_GridParts.l0 : Nat → List Nat → List Int → Int → Int → Int → List Nat → List Nat → Int → Option (Bool)
  | 0, _, _, _, _, _, _, _, _ => none
  | k + 1, x0, x1, x2, x3, x4, x5, x13, x14 => if x14 < (x13.length : Int) then (if x14 < (x1.length : Int) then (if 0 ≤ x14 then (if (x13.length : Int) = 0 then (none) else (if 0 ≤ (Int.tmod (wrap64 ((Int.tmod (rd x1 x14) (x13.length : Int)) + (x13.length : Int))) (x13.length : Int)) then (if (Int.tmod (wrap64 ((Int.tmod (rd x1 x14) (x13.length : Int)) + (x13.length : Int))) (x13.length : Int)) < (x13.length : Int) then (tenorlaw25_GridParts.l0 k x0 x1 x2 x3 x4 x5 ((x13.set (x14 : Int).toNat (rdOf (0 : Nat) x13 (Int.tmod (wrap64 ((Int.tmod (rd x1 x14) (x13.length : Int)) + (x13.length : Int))) (x13.length : Int)))).set ((Int.tmod (wrap64 ((Int.tmod (rd x1 x14) (x13.length : Int)) + (x13.length : Int))) (x13.length : Int)) : Int).toNat (rdOf (0 : Nat) x13 x14)) (wrap64 (x14 + 1))) else (none)) else (none))) else (none)) else (tenorlaw25_GridParts.j2 k x0 x2 x3 x4 x5 x13)) else (tenorlaw25_GridParts.j2 k x0 x2 x3 x4 x5 x13)
end
def tenorlaw25_GridParts.f (k : Nat) (l0 : List Nat) (l1 : List Int) (a2 : Int) (a3 : Int) (a4 : Int) (l5 : List Nat) : Option (Bool) := if (l0.length : Int) > 60 then (tenorlaw25_GridParts.j0 k l0 l1 a2 a3 a4 l5 true) else (if (l0.length : Int) = 0 then (tenorlaw25_GridParts.j0 k l0 l1 a2 a3 a4 l5 true) else (tenorlaw25_GridParts.j0 k l0 l1 a2 a3 a4 l5 (decide ((l5.length : Int) > 40))))
theorem tenorlaw25_GridParts.mono_l : ∀ k, (∀ y0 y1 y2 y3 y4 y5 y6, LeO (tenorlaw25_GridParts.j0 k y0 y1 y2 y3 y4 y5 y6) (tenorlaw25_GridParts.j0 (k + 1) y0 y1 y2 y3 y4 y5 y6)) ∧ (∀ y0 y1 y2 y3 y4 y5, LeO (tenorlaw25_GridParts.j2 k y0 y1 y2 y3 y4 y5) (tenorlaw25_GridParts.j2 (k + 1) y0 y1 y2 y3 y4 y5)) ∧ (∀ y0 y1 y2 y3 y4 y5 y6 y7 y8 y9, LeO (tenorlaw25_GridParts.j4 k y0 y1 y2 y3 y4 y5 y6 y7 y8 y9) (tenorlaw25_GridParts.j4 (k + 1) y0 y1 y2 y3 y4 y5 y6 y7 y8 y9)) ∧ (∀ y0 y1 y2 y3 y4 y5 y6 y7, LeO (tenorlaw25_GridParts.j5 k y0 y1 y2 y3 y4 y5 y6 y7) (tenorlaw25_GridParts.j5 (k + 1) y0 y1 y2 y3 y4 y5 y6 y7)) ∧ (∀ y0 y1 y2 y3 y4 y5 y6 y7 y8 y9 y10 y11 y12, LeO (tenorlaw25_GridParts.l2 k y0 y1 y2 y3 y4 y5 y6 y7 y8 y9 y10 y11 y12) (tenorlaw25_GridParts.l2 (k + 1) y0 y1 y2 y3 y4 y5 y6 y7 y8 y9 y10 y11 y12)) ∧ (∀ y0 y1 y2 y3 y4 y5 y6 y7 y8 y9 y10 y11 y12, LeO (tenorlaw25_GridParts.l1 k y0 y1 y2 y3 y4 y5 y6 y7 y8 y9 y10 y11 y12) (tenorlaw25_GridParts.l1 (k + 1) y0 y1 y2 y3 y4 y5 y6 y7 y8 y9 y10 y11 y12)) ∧ (∀ y0 y1 y2 y3 y4 y5 y6 y7, LeO (tenorlaw25_GridParts.l0 k y0 y1 y2 y3 y4 y5 y6 y7) (tenorlaw25_GridParts.l0 (k + 1) y0 y1 y2 y3 y4 y5 y6 y7))
  | 0 => ⟨fun _ _ _ _ _ _ _ r h => by simp [tenorlaw25_GridParts.j0] at h, fun _ _ _ _ _ _ r h => by simp [tenorlaw25_GridParts.j2] at h, fun _ _ _ _ _ _ _ _ _ _ r h => by simp [tenorlaw25_GridParts.j4] at h, fun _ _ _ _ _ _ _ _ r h => by simp [tenorlaw25_GridParts.j5] at h, fun _ _ _ _ _ _ _ _ _ _ _ _ _ r h => by simp [tenorlaw25_GridParts.l2] at h, fun _ _ _ _ _ _ _ _ _ _ _ _ _ r h => by simp [tenorlaw25_GridParts.l1] at h, fun _ _ _ _ _ _ _ _ r h => by simp [tenorlaw25_GridParts.l0] at h⟩
  | k + 1 => by
    obtain ⟨ih0, ih1, ih2, ih3, ih4, ih5, ih6⟩ := tenorlaw25_GridParts.mono_l k
    refine ⟨?_, ?_, ?_, ?_, ?_, ?_, ?_⟩
    · intro y0 y1 y2 y3 y4 y5 y6
      unfold tenorlaw25_GridParts.j0
      repeat' first
      | (with_reducible exact ih0 _ _ _ _ _ _ _)
      | (with_reducible exact ih1 _ _ _ _ _ _)
      | (with_reducible exact ih2 _ _ _ _ _ _ _ _ _ _)
      | (with_reducible exact ih3 _ _ _ _ _ _ _ _)
      | (with_reducible exact ih4 _ _ _ _ _ _ _ _ _ _ _ _ _)
      | (with_reducible exact ih5 _ _ _ _ _ _ _ _ _ _ _ _ _)
      | (with_reducible exact ih6 _ _ _ _ _ _ _ _)
      | (with_reducible exact grid_Count.mono _ _ _)
      | (with_reducible exact grid_Mean.mono _ _)
      | (with_reducible exact grid_Quantile.mono _ _ _ _)
      | (with_reducible exact tenorlaw25_same.mono _ _ _)
      | (with_reducible exact LeO.refl _)
      | (with_reducible exact LeO.none _)
      | (with_reducible refine LeO.ite ?_ ?_)
      | (with_reducible refine LeO.bind ?_ (fun _ => ?_))
      | exact ih0 _ _ _ _ _ _ _
      | exact ih1 _ _ _ _ _ _
      | exact ih2 _ _ _ _ _ _ _ _ _ _
      | exact ih3 _ _ _ _ _ _ _ _
      | exact ih4 _ _ _ _ _ _ _ _ _ _ _ _ _
      | exact ih5 _ _ _ _ _ _ _ _ _ _ _ _ _
      | exact ih6 _ _ _ _ _ _ _ _
      | exact grid_Count.mono _ _ _
      | exact grid_Mean.mono _ _
      | exact grid_Quantile.mono _ _ _ _
      | exact tenorlaw25_same.mono _ _ _
      | exact LeO.none _
      | refine LeO.ite ?_ ?_
      | refine LeO.bind ?_ (fun _ => ?_)
    · intro y0 y1 y2 y3 y4 y5
      unfold tenorlaw25_GridParts.j2
      repeat' first
      | (with_reducible exact ih0 _ _ _ _ _ _ _)
      | (with_reducible exact ih1 _ _ _ _ _ _)
      | (with_reducible exact ih2 _ _ _ _ _ _ _ _ _ _)
      | (with_reducible exact ih3 _ _ _ _ _ _ _ _)
      | (with_reducible exact ih4 _ _ _ _ _ _ _ _ _ _ _ _ _)
      | (with_reducible exact ih5 _ _ _ _ _ _ _ _ _ _ _ _ _)
      | (with_reducible exact ih6 _ _ _ _ _ _ _ _)
      | (with_reducible exact grid_Count.mono _ _ _)
      | (with_reducible exact grid_Mean.mono _ _)
      | (with_reducible exact grid_Quantile.mono _ _ _ _)
      | (with_reducible exact tenorlaw25_same.mono _ _ _)
      | (with_reducible exact LeO.refl _)
      | (with_reducible exact LeO.none _)
      | (with_reducible refine LeO.ite ?_ ?_)
      | (with_reducible refine LeO.bind ?_ (fun _ => ?_))
      | exact ih0 _ _ _ _ _ _ _
      | exact ih1 _ _ _ _ _ _
      | exact ih2 _ _ _ _ _ _ _ _ _ _
      | exact ih3 _ _ _ _ _ _ _ _
      | exact ih4 _ _ _ _ _ _ _ _ _ _ _ _ _
      | exact ih5 _ _ _ _ _ _ _ _ _ _ _ _ _
      | exact ih6 _ _ _ _ _ _ _ _
      | exact grid_Count.mono _ _ _
      | exact grid_Mean.mono _ _
      | exact grid_Quantile.mono _ _ _ _
      | exact tenorlaw25_same.mono _ _ _
      | exact LeO.none _
      | refine LeO.ite ?_ ?_
      | refine LeO.bind ?_ (fun _ => ?_)
    · intro y0 y1 y2 y3 y4 y5 y6 y7 y8 y9
      unfold tenorlaw25_GridParts.j4
      repeat' first
      | (with_reducible exact ih0 _ _ _ _ _ _ _)
      | (with_reducible exact ih1 _ _ _ _ _ _)
      | (with_reducible exact ih2 _ _ _ _ _ _ _ _ _ _)
      | (with_reducible exact ih3 _ _ _ _ _ _ _ _)
      | (with_reducible exact ih4 _ _ _ _ _ _ _ _ _ _ _ _ _)
      | (with_reducible exact ih5 _ _ _ _ _ _ _ _ _ _ _ _ _)
      | (with_reducible exact ih6 _ _ _ _ _ _ _ _)
      | (with_reducible exact grid_Count.mono _ _ _)
      | (with_reducible exact grid_Mean.mono _ _)
      | (with_reducible exact grid_Quantile.mono _ _ _ _)
      | (with_reducible exact tenorlaw25_same.mono _ _ _)
      | (with_reducible exact LeO.refl _)
      | (with_reducible exact LeO.none _)
      | (with_reducible refine LeO.ite ?_ ?_)
      | (with_reducible refine LeO.bind ?_ (fun _ => ?_))
      | exact ih0 _ _ _ _ _ _ _
      | exact ih1 _ _ _ _ _ _
      | exact ih2 _ _ _ _ _ _ _ _ _ _
      | exact ih3 _ _ _ _ _ _ _ _
      | exact ih4 _ _ _ _ _ _ _ _ _ _ _ _ _
      | exact ih5 _ _ _ _ _ _ _ _ _ _ _ _ _
      | exact ih6 _ _ _ _ _ _ _ _
      | exact grid_Count.mono _ _ _
      | exact grid_Mean.mono _ _
      | exact grid_Quantile.mono _ _ _ _
      | exact tenorlaw25_same.mono _ _ _
      | exact LeO.none _
      | refine LeO.ite ?_ ?_
      | refine LeO.bind ?_ (fun _ => ?_)
    · intro y0 y1 y2 y3 y4 y5 y6 y7
      unfold tenorlaw25_GridParts.j5
      repeat' first
      | (with_reducible exact ih0 _ _ _ _ _ _ _)
      | (with_reducible exact ih1 _ _ _ _ _ _)
      | (with_reducible exact ih2 _ _ _ _ _ _ _ _ _ _)
      | (with_reducible exact ih3 _ _ _ _ _ _ _ _)
      | (with_reducible exact ih4 _ _ _ _ _ _ _ _ _ _ _ _ _)
      | (with_reducible exact ih5 _ _ _ _ _ _ _ _ _ _ _ _ _)
      | (with_reducible exact ih6 _ _ _ _ _ _ _ _)
      | (with_reducible exact grid_Count.mono _ _ _)
      | (with_reducible exact grid_Mean.mono _ _)
      | (with_reducible exact grid_Quantile.mono _ _ _ _)
      | (with_reducible exact tenorlaw25_same.mono _ _ _)
      | (with_reducible exact LeO.refl _)
      | (with_reducible exact LeO.none _)
      | (with_reducible refine LeO.ite ?_ ?_)
      | (with_reducible refine LeO.bind ?_ (fun _ => ?_))
      | exact ih0 _ _ _ _ _ _ _
      | exact ih1 _ _ _ _ _ _
      | exact ih2 _ _ _ _ _ _ _ _ _ _
      | exact ih3 _ _ _ _ _ _ _ _
      | exact ih4 _ _ _ _ _ _ _ _ _ _ _ _ _
      | exact ih5 _ _ _ _ _ _ _ _ _ _ _ _ _
      | exact ih6 _ _ _ _ _ _ _ _
      | exact grid_Count.mono _ _ _
      | exact grid_Mean.mono _ _
      | exact grid_Quantile.mono _ _ _ _
      | exact tenorlaw25_same.mono _ _ _
      | exact LeO.none _
      | refine LeO.ite ?_ ?_
      | refine LeO.bind ?_ (fun _ => ?_)
    · intro y0 y1 y2 y3 y4 y5 y6 y7 y8 y9 y10 y11 y12
      unfold tenorlaw25_GridParts.l2
      repeat' first
      | (with_reducible exact ih0 _ _ _ _ _ _ _)
      | (with_reducible exact ih1 _ _ _ _ _ _)
      | (with_reducible exact ih2 _ _ _ _ _ _ _ _ _ _)
      | (with_reducible exact ih3 _ _ _ _ _ _ _ _)
      | (with_reducible exact ih4 _ _ _ _ _ _ _ _ _ _ _ _ _)
      | (with_reducible exact ih5 _ _ _ _ _ _ _ _ _ _ _ _ _)
      | (with_reducible exact ih6 _ _ _ _ _ _ _ _)
      | (with_reducible exact grid_Count.mono _ _ _)
      | (with_reducible exact grid_Mean.mono _ _)
      | (with_reducible exact grid_Quantile.mono _ _ _ _)
      | (with_reducible exact tenorlaw25_same.mono _ _ _)
      | (with_reducible exact LeO.refl _)
      | (with_reducible exact LeO.none _)
      | (with_reducible refine LeO.ite ?_ ?_)
      | (with_reducible refine LeO.bind ?_ (fun _ => ?_))
      | exact ih0 _ _ _ _ _ _ _
      | exact ih1 _ _ _ _ _ _
      | exact ih2 _ _ _ _ _ _ _ _ _ _
      | exact ih3 _ _ _ _ _ _ _ _
      | exact ih4 _ _ _ _ _ _ _ _ _ _ _ _ _
      | exact ih5 _ _ _ _ _ _ _ _ _ _ _ _ _
      | exact ih6 _ _ _ _ _ _ _ _
      | exact grid_Count.mono _ _ _
      | exact grid_Mean.mono _ _
      | exact grid_Quantile.mono _ _ _ _
      | exact tenorlaw25_same.mono _ _ _
      | exact LeO.none _
      | refine LeO.ite ?_ ?_
      | refine LeO.bind ?_ (fun _ => ?_)
    · intro y0 y1 y2 y3 y4 y5 y6 y7 y8 y9 y10 y11 y12
      unfold tenorlaw25_GridParts.l1
      repeat' first
      | (with_reducible exact ih0 _ _ _ _ _ _ _)
      | (with_reducible exact ih1 _ _ _ _ _ _)
      | (with_reducible exact ih2 _ _ _ _ _ _ _ _ _ _)
      | (with_reducible exact ih3 _ _ _ _ _ _ _ _)
      | (with_reducible exact ih4 _ _ _ _ _ _ _ _ _ _ _ _ _)
      | (with_reducible exact ih5 _ _ _ _ _ _ _ _ _ _ _ _ _)
      | (with_reducible exact ih6 _ _ _ _ _ _ _ _)
      | (with_reducible exact grid_Count.mono _ _ _)
      | (with_reducible exact grid_Mean.mono _ _)
      | (with_reducible exact grid_Quantile.mono _ _ _ _)
      | (with_reducible exact tenorlaw25_same.mono _ _ _)
      | (with_reducible exact LeO.refl _)
      | (with_reducible exact LeO.none _)
      | (with_reducible refine LeO.ite ?_ ?_)
      | (with_reducible refine LeO.bind ?_ (fun _ => ?_))
      | exact ih0 _ _ _ _ _ _ _
      | exact ih1 _ _ _ _ _ _
      | exact ih2 _ _ _ _ _ _ _ _ _ _
      | exact ih3 _ _ _ _ _ _ _ _
      | exact ih4 _ _ _ _ _ _ _ _ _ _ _ _ _
      | exact ih5 _ _ _ _ _ _ _ _ _ _ _ _ _
      | exact ih6 _ _ _ _ _ _ _ _
      | exact grid_Count.mono _ _ _
      | exact grid_Mean.mono _ _
      | exact grid_Quantile.mono _ _ _ _
      | exact tenorlaw25_same.mono _ _ _
      | exact LeO.none _
      | refine LeO.ite ?_ ?_
      | refine LeO.bind ?_ (fun _ => ?_)
    · intro y0 y1 y2 y3 y4 y5 y6 y7
      unfold tenorlaw25_GridParts.l0
      repeat' first
      | (with_reducible exact ih0 _ _ _ _ _ _ _)
      | (with_reducible exact ih1 _ _ _ _ _ _)
      | (with_reducible exact ih2 _ _ _ _ _ _ _ _ _ _)
      | (with_reducible exact ih3 _ _ _ _ _ _ _ _)
      | (with_reducible exact ih4 _ _ _ _ _ _ _ _ _ _ _ _ _)
      | (with_reducible exact ih5 _ _ _ _ _ _ _ _ _ _ _ _ _)
      | (with_reducible exact ih6 _ _ _ _ _ _ _ _)
      | (with_reducible exact grid_Count.mono _ _ _)
      | (with_reducible exact grid_Mean.mono _ _)
      | (with_reducible exact grid_Quantile.mono _ _ _ _)
      | (with_reducible exact tenorlaw25_same.mono _ _ _)
      | (with_reducible exact LeO.refl _)
      | (with_reducible exact LeO.none _)
      | (with_reducible refine LeO.ite ?_ ?_)
      | (with_reducible refine LeO.bind ?_ (fun _ => ?_))
      | exact ih0 _ _ _ _ _ _ _
      | exact ih1 _ _ _ _ _ _
      | exact ih2 _ _ _ _ _ _ _ _ _ _
      | exact ih3 _ _ _ _ _ _ _ _
      | exact ih4 _ _ _ _ _ _ _ _ _ _ _ _ _
      | exact ih5 _ _ _ _ _ _ _ _ _ _ _ _ _
      | exact ih6 _ _ _ _ _ _ _ _
      | exact grid_Count.mono _ _ _
      | exact grid_Mean.mono _ _
      | exact grid_Quantile.mono _ _ _ _
      | exact tenorlaw25_same.mono _ _ _
      | exact LeO.none _
      | refine LeO.ite ?_ ?_
      | refine LeO.bind ?_ (fun _ => ?_)
theorem tenorlaw25_GridParts.mono : ∀ a0 a1 a2 a3 a4 a5 k, LeO (tenorlaw25_GridParts.f k a0 a1 a2 a3 a4 a5) (tenorlaw25_GridParts.f (k + 1) a0 a1 a2 a3 a4 a5) := by
  intro a0 a1 a2 a3 a4 a5 k
  obtain ⟨ih0, ih1, ih2, ih3, ih4, ih5, ih6⟩ := tenorlaw25_GridParts.mono_l k
  unfold tenorlaw25_GridParts.f
  repeat' first
    | (with_reducible exact ih0 _ _ _ _ _ _ _)
    | (with_reducible exact ih1 _ _ _ _ _ _)
    | (with_reducible exact ih2 _ _ _ _ _ _ _ _ _ _)
    | (with_reducible exact ih3 _ _ _ _ _ _ _ _)
    | (with_reducible exact ih4 _ _ _ _ _ _ _ _ _ _ _ _ _)
    | (with_reducible exact ih5 _ _ _ _ _ _ _ _ _ _ _ _ _)
    | (with_reducible exact ih6 _ _ _ _ _ _ _ _)
    | (with_reducible exact grid_Count.mono _ _ _)
    | (with_reducible exact grid_Mean.mono _ _)
    | (with_reducible exact grid_Quantile.mono _ _ _ _)
    | (with_reducible exact tenorlaw25_same.mono _ _ _)
    | (with_reducible exact LeO.refl _)
    | (with_reducible exact LeO.none _)
    | (with_reducible refine LeO.ite ?_ ?_)
    | (with_reducible refine LeO.bind ?_ (fun _ => ?_))
    | exact ih0 _ _ _ _ _ _ _
    | exact ih1 _ _ _ _ _ _
    | exact ih2 _ _ _ _ _ _ _ _ _ _
    | exact ih3 _ _ _ _ _ _ _ _
    | exact ih4 _ _ _ _ _ _ _ _ _ _ _ _ _
    | exact ih5 _ _ _ _ _ _ _ _ _ _ _ _ _
    | exact ih6 _ _ _ _ _ _ _ _
    | exact grid_Count.mono _ _ _
    | exact grid_Mean.mono _ _
    | exact grid_Quantile.mono _ _ _ _
    | exact tenorlaw25_same.mono _ _ _
    | exact LeO.none _
    | refine LeO.ite ?_ ?_
    | refine LeO.bind ?_ (fun _ => ?_)
def tenorlaw25_GridParts.T8 : Bool × List (List Nat × List Nat) := (true, [([], []), ([], []), ([], []), ([], []), ([], []), ([], []), ([4, 5], [4, 5]), ([6], [6]), ([], []), ([], []), ([8, 9], [8, 9]), ([10], [10]), ([0, 1, 0, 1, 4, 5, 6, 7, 11], [0, 1]), ([12, 7, 0, 1, 4, 5, 6, 7, 11], [7, 12]), ([2, 3, 0, 1, 2, 3, 4, 5, 6, 7, 8, 9, 10, 11, 12, 13], [2, 3]), ([14, 11, 13, 0, 1, 2, 3, 4, 5, 6, 7, 8, 9, 10, 11, 12, 13], [11, 14])])
def tenorlaw25_GridParts.B8 : List Nat := [0, 0, 0, 0, 0, 0, 48, 112, 0, 0, 768, 1792, 4083, 8179, 16383, 32767]
theorem tenorlaw25_GridParts.tab8 : rtab .any (opsOf Try.f7 8) = tenorlaw25_GridParts.T8 := by kernel_rfl
theorem tenorlaw25_GridParts.bits8 : waitsOk tenorlaw25_GridParts.T8.2 tenorlaw25_GridParts.B8 = true := by kernel_rfl
set_option maxHeartbeats 8000000 in
set_option maxRecDepth 100000 in
theorem tenorlaw25_GridParts.calls (k : Nat) (A0 : Option Addr) (c0 : Nat) (l0 : List Nat) (A1 : Option Addr) (c1 : Nat) (l1 : List Int) (a2 : Int) (a3 : Int) (a4 : Int) (A5 : Option Addr) (c5 : Nat) (l5 : List Nat) (r : Bool) (w : World) (hr0 : Kd.C Kd.flt w A0 l0.length l0) (hc0 : l0.length ≤ c0) (hr1 : Kd.C (Kd.int .i64) w A1 l1.length l1) (hc1 : l1.length ≤ c1) (hr5 : Kd.C Kd.flt w A5 l5.length l5) (hc5 : l5.length ≤ c5) (h : tenorlaw25_GridParts.f k l0 l1 a2 a3 a4 l5 = some r) :
    Calls Try.prog 7 #[.slice A0 l0.length c0, .slice A1 l1.length c1, .int .i64 a2, .int .i64 a3, .int .i64 a4, .slice A5 l5.length c5] w fun e w' => e = .returned (.bool r) ∧ Below w.heap.size w w' := by
  have HR0 := Aside0.mk hr0
  have HC0 := Aside0.mk hc0
  clear hr0 hc0
  have HR1 := Aside0.mk hr1
  have HC1 := Aside0.mk hc1
  clear hr1 hc1
  have HR5 := Aside0.mk hr5
  have HC5 := Aside0.mk hc5
  clear hr5 hc5
  have HB := Aside0.mk (Below.refl w.heap.size w)
  have H : (if (l0.length : Int) > 60 then (tenorlaw25_GridParts.j0 k l0 l1 a2 a3 a4 l5 true) else (if (l0.length : Int) = 0 then (tenorlaw25_GridParts.j0 k l0 l1 a2 a3 a4 l5 true) else (tenorlaw25_GridParts.j0 k l0 l1 a2 a3 a4 l5 (decide ((l5.length : Int) > 40))))) = some r := h
  clear h
  have HC7 := Aside0.mk H
  clear H
  go_enter Try.func7, Try.ntmps7
  go_upto_region 1 with (fail)
  go_cut [50] (fun v50 wc => ∃ (kq : Nat) (x50_6 : Bool), v50 = .bool x50_6 ∧ Aside0 (tenorlaw25_GridParts.j0 kq l0 l1 a2 a3 a4 l5 x50_6 = some r) ∧ Aside0 (kq ≤ k) ∧ Aside0 (Below w.heap.size w wc))
  case first =>
    have H := HC7.out
    clear HC7
    by_cases c8 : (l0.length : Int) > 60
    · rw [if_pos c8] at H
      have c8b0 : decide (60 < (l0.length : Int)) = true := decide_eq_true c8
      have c8b1 : decide (60 < l0.length) = true := decide_eq_true (by omega)
      clear c8
      (first | rw [c8b0] | (simp only [i64_w, i32_w]; rw [c8b0]) | skip)
      have H' := Aside0.mk H
      clear H
      go_wp2
      go_meet
      case rel => exact ⟨_, (true), (by first | rfl | (simp; done) | (simp [*]; done)), H', ⟨by first | omega | exact Nat.le_refl _⟩, ⟨by repeat (first | (with_reducible first | exact HB.out | apply below_alloc | apply pw_below_drewN | apply below_drew1) | exact HB.out)⟩⟩
    rw [if_neg c8] at H
    have c8b0 : decide (60 < (l0.length : Int)) = false := decide_eq_false c8
    have c8b1 : decide (60 < l0.length) = false := decide_eq_false (by omega)
    clear c8
    (first | rw [c8b0] | (simp only [i64_w, i32_w]; rw [c8b0]) | skip)
    by_cases c9 : (l0.length : Int) = 0
    · rw [if_pos c9] at H
      have c9b0 : ((l0.length : Int) == 0) = true := beq_iff_eq.mpr c9
      have c9b1 : ((l0.length : Int) != 0) = false := bne_eq_false_iff_eq.mpr c9
      clear c9
      have H' := Aside0.mk H
      clear H
      go_wp2
      go_meet
      case rel => exact ⟨_, (true), (by first | rfl | (simp; done) | (simp [*]; done)), H', ⟨by first | omega | exact Nat.le_refl _⟩, ⟨by repeat (first | (with_reducible first | exact HB.out | apply below_alloc | apply pw_below_drewN | apply below_drew1) | exact HB.out)⟩⟩
    rw [if_neg c9] at H
    have c9b0 : ((l0.length : Int) == 0) = false := beq_eq_false_iff_ne.mpr c9
    have c9b1 : ((l0.length : Int) != 0) = true := bne_iff_ne.mpr c9
    have c9b2 : ¬ (l0 = []) := fun h_ => c9 (by rw [h_]; rfl)
    have H' := Aside0.mk H
    clear H
    go_wp2
    go_meet
    case rel => exact ⟨_, (decide ((l5.length : Int) > 40)), (by first | rfl | (simp; done) | (simp [*]; done)), H', ⟨by first | omega | exact Nat.le_refl _⟩, ⟨by repeat (first | (with_reducible first | exact HB.out | apply below_alloc | apply pw_below_drewN | apply below_drew1) | exact HB.out)⟩⟩
  case rest => as_aux_lemma =>
    clear HC7
    try clear c1
    try clear p2
    try clear c5
    try clear c7
    try clear c8
    try clear c8b0
    try clear c8b1
    try clear c9
    try clear c9b0
    try clear c9b1
    try clear c9b2
    obtain ⟨kq, x50_6, rfl, HA, HJ6, HB⟩ := hcut
    cases kq with
    | zero => exact absurd HA.out (by simp [tenorlaw25_GridParts.j0])
    | succ kj6 =>
      have H := HA.out
      clear HA
      simp only [tenorlaw25_GridParts.j0] at H
      by_cases c10 : x50_6 = true
      · subst c10
        have H1 : ((law25_awake.f).bind fun t101 => (some t101)) = some r := by rw [if_pos rfl] at H; exact H
        clear H
        have H := H1
        clear H1
        replace H := Option.bind_eq_some_iff.mp H
        obtain ⟨t101, A110, H⟩ := H
        replace H : (some t101) = some r := H
        have A11 := Aside0.mk A110
        clear A110
        obtain rfl := Option.some.inj H
        go_wp2_with (first | ((with_reducible refine gate_callee (f := 21) rfl ?_); refine goesL_ (some 51) rfl rfl Try.func21 (by kernel_rfl) rfl #[] rfl (by (try simp only [List.map_toArray, List.map_cons, List.map_nil]); first | done | rfl | (simp only [List.length_drop, List.length_take]; rfl)) ?_; (with_reducible refine (law25_awake.calls  t101 _ A11.out).mono ?_); rintro e w12 ⟨rfl, hb⟩; refine ⟨_, rfl, ?_⟩; have n0_ := Aside0.mk (below_step (by repeat (first | (with_reducible first | exact HB.out | apply below_alloc | apply pw_below_drewN | apply below_drew1) | exact HB.out)) hb); clear HB; have HB := n0_; clear n0_; (try clear hb); (try clear hb2); (try clear hk); (try clear hi)))
        go_ret
        exact ⟨by first | rfl | (simp [errW_none, errW_some] <;> rfl) | (simp [*, errW_none, errW_some] <;> rfl), by repeat (first | (with_reducible first | exact HB.out | apply below_alloc | apply pw_below_drewN | apply below_drew1) | exact HB.out)⟩
      replace c10 := Bool.eq_false_iff.mpr c10
      subst c10
      have H1 : ((some (([] : List Nat) : List Nat)).bind fun y102 => (if y102.length + l0.length < 17592186044416 then (tenorlaw25_GridParts.l0 kj6 l0 l1 a2 a3 a4 l5 (y102 ++ l0) 0) else (none))) = some r := by rw [if_neg (show ¬ (false = true) by decide)] at H; exact H
      clear H
      have H := H1
      clear H1
      obtain ⟨y102, hy102⟩ : ∃ y_ : List Nat, y_ = (([] : List Nat)) := ⟨_, rfl⟩
      replace H : (if y102.length + l0.length < 17592186044416 then (tenorlaw25_GridParts.l0 kj6 l0 l1 a2 a3 a4 l5 (y102 ++ l0) 0) else (none)) = some r := by first | (rw [hy102]; with_reducible exact H) | (have H2_ := (Option.bind_some _ _).symm.trans H; rw [hy102]; with_reducible exact H2_) | (have H2_ := (Option.bind_some _ _).symm.trans H; with_reducible exact H2_) | with_reducible exact H | (rw [hy102]; exact H) | exact H
      have Ny102 := Aside0.mk hy102
      clear hy102
      by_cases c13 : y102.length + l0.length < 17592186044416
      rotate_left
      · rw [if_neg c13] at H
        exact absurd H (by simp)
      rw [if_pos c13] at H
      have LMc13 := Aside0.mk c13
      clear c13
      obtain ⟨y105, hy105⟩ : ∃ y_ : List Nat, y_ = (y102 ++ l0) := ⟨_, rfl⟩
      replace H : (tenorlaw25_GridParts.l0 kj6 l0 l1 a2 a3 a4 l5 y105 0) = some r := by first | (rw [hy105]; with_reducible exact H) | (have H2_ := (Option.bind_some _ _).symm.trans H; rw [hy105]; with_reducible exact H2_) | (have H2_ := (Option.bind_some _ _).symm.trans H; with_reducible exact H2_) | with_reducible exact H | (rw [hy105]; exact H) | exact H
      have Ny105 := Aside0.mk hy105
      clear hy105
      have HC14 := Aside0.mk H
      clear H
      go_upto_block 0 with (first | ((with_reducible refine gate_dst (N := 52) rfl ?_); (try (refine gate_guard (by rfl) ?_; dsimp only)); refine Kd.R_lit Kd.flt _ 40 ?hg (N := 52) ?hd (xs := ([] : List Nat)) (inner := []) (ok := fun _ => True) (okp := fun _ => True) ?hr ?hp (fun _ hk => hk) trivial (Below.refl _ _) (Nat.le_refl _) (by simp) ?_; (case hd => rfl); (case hg => rfl); (case hr => first | (go_simp; done) | (go_simp; rfl)); (case hp => exact (Reps.none _ _)); intro v103 w15 ho16 hb hg_ hnew_; clear hg_ hnew_; (first | rw [← Ny102.out] at ho16 | (simp only [Int.reduceToNat] at ho16; rw [← Ny102.out] at ho16)); have n0_ := Aside0.mk (Kd.R_lower ho16 (below_size (by repeat (first | (with_reducible first | exact HB.out | apply below_alloc | apply pw_below_drewN | apply below_drew1) | exact HB.out)))); have n1_ := Aside0.mk (below_step (by repeat (first | (with_reducible first | exact HB.out | apply below_alloc | apply pw_below_drewN | apply below_drew1) | exact HB.out)) hb); clear HB; have HO104 := n0_; have HB := n1_; clear n0_ n1_; clear hb ho16) | ((with_reducible refine gate_builtin (b := .append) (xs := #[.tmp 52, .tmp 53]) rfl ?_); (try (refine gate_guard (by rfl) ?_; dsimp only)); at_builtin; refine Kd.R_append_rows Kd.flt (w0 := w) w.heap.size rfl (.tmp 52) (.tmp 53) 48 40 (.float .f64 0) 8 rfl Try.underlying48 info40 rfl (by decide) (by omega) v103 y102 l0 _ _ _ (fun _ => True) (fun _ => False) rfl rfl ?aO ?aR (fun _ _ h => h) (fun _ h => h.elim) ?aF ?aB ?aS ?aL ?_; (case aR => repeat (first | exact (Kd.C_below HR0.out HB.out) | (with_reducible refine Kd.C_alloc ?_ _) | (with_reducible refine Kd.C_drewN ?_ _) | (with_reducible refine Kd.C_drew ?_))); (case aB => exact (by repeat (first | (with_reducible first | exact HB.out | apply below_alloc | apply pw_below_drewN | apply below_drew1) | exact HB.out))); (case aF => exact (fun _ _ => trivial)); (case aO => exact (by (with_reducible repeat (first | apply Kd.R_alloc | apply Kd.R_drewN | apply Kd.R_drew)); exact HO104.out)); (case aS => exact (below_size (by repeat (first | (with_reducible first | exact HB.out | apply below_alloc | apply pw_below_drewN | apply below_drew1) | exact HB.out)))); (case aL => have := LMc13.out; omega); intro v106 w17 ho hb hg hat; rw [← Ny105.out] at ho; have n0_ := Aside0.mk (hb); have n1_ := Aside0.mk (ho); clear HB; clear HO104; have HB := n0_; have HO107 := n1_; clear n0_ n1_; clear ho hb hg hat))
      (try simp only [Act.put, List.setIfInBounds_toArray, List.set_cons_zero, List.set_cons_succ])
      go_cut [] (fun wc => ∃ (kq : Nat) (x13_13 : List Nat), Aside0 (tenorlaw25_GridParts.j2 kq l0 a2 a3 a4 l5 x13_13 = some r) ∧ Aside0 (kq ≤ kj6) ∧ Aside0 (Kd.R Kd.flt 40 wc w.heap.size (fun _ => True) v106 x13_13) ∧ Aside0 (Below w.heap.size w wc))
      case first =>
        have H := HC14.out
        clear HC14
        have H' := Aside0.mk H
        clear H
        go_wp2
        go_loopg [14] kj6 (fun kq v14 w' => ∃ (x13_2 : List Nat) (x14_2 : Int), v14 = .int .i64 x14_2 ∧ Aside0 (tenorlaw25_GridParts.l0 kq l0 l1 a2 a3 a4 l5 x13_2 x14_2 = some r) ∧ Aside0 (kq ≤ kj6) ∧ Aside0 (Kd.R Kd.flt 40 w' w.heap.size (fun _ => True) v106 x13_2) ∧ Aside0 (Below w.heap.size w w'))
        case atStart => exact ⟨(y105), (0), (by first | rfl | (simp; done) | (simp [*]; done)), H', ⟨Nat.le_refl _⟩, ⟨by (with_reducible repeat (first | apply Kd.R_alloc | apply Kd.R_drewN | apply Kd.R_drew)); exact HO107.out⟩, ⟨by repeat (first | (with_reducible first | exact HB.out | apply below_alloc | apply pw_below_drewN | apply below_drew1) | exact HB.out)⟩⟩
        case round => as_aux_lemma =>
          clear H'
          try clear c1
          try clear c2
          try clear p2
          try clear c5
          try clear c7
          try clear c8
          try clear c8b0
          try clear c8b1
          try clear c9
          try clear c9b0
          try clear c9b1
          try clear c9b2
          try clear c10
          try clear c13
          try clear p2
          obtain ⟨x13_2, x14_2, rfl, HA, HK2, HO_13, HB⟩ := hrel
          cases gk with
          | zero => exact absurd HA.out (by simp [tenorlaw25_GridParts.l0])
          | succ k2 =>
            have H := HA.out
            clear HA
            simp only [tenorlaw25_GridParts.l0] at H
            by_cases c18 : x14_2 < (x13_2.length : Int)
            rotate_left
            · rw [if_neg c18] at H
              have c18b0 : decide (x14_2 < (x13_2.length : Int)) = false := decide_eq_false c18
              clear c18
              (first | rw [c18b0] | (simp only [i64_w, i32_w]; rw [c18b0]) | skip)
              have H' := Aside0.mk H
              clear H
              obtain ⟨Ao32, co32, eo32⟩ := Kd.R_slice HO_13.out
              subst eo32
              go_wp2
              go_meet
              case rel => exact ⟨_, (x13_2), H', ⟨by have := HJ6.out; have := HK2.out; first | omega | exact Nat.le_refl _⟩, ⟨by (with_reducible repeat (first | apply Kd.R_alloc | apply Kd.R_drewN | apply Kd.R_drew)); exact HO_13.out⟩, ⟨by repeat (first | (with_reducible first | exact HB.out | apply below_alloc | apply pw_below_drewN | apply below_drew1) | exact HB.out)⟩⟩
            rw [if_pos c18] at H
            have c18b0 : decide (x14_2 < (x13_2.length : Int)) = true := decide_eq_true c18
            clear c18
            (first | rw [c18b0] | (simp only [i64_w, i32_w]; rw [c18b0]) | skip)
            by_cases c19 : x14_2 < (l1.length : Int)
            rotate_left
            · rw [if_neg c19] at H
              have c19b0 : decide (x14_2 < (l1.length : Int)) = false := decide_eq_false c19
              clear c19
              have H' := Aside0.mk H
              clear H
              obtain ⟨Ao31, co31, eo31⟩ := Kd.R_slice HO_13.out
              subst eo31
              go_wp2
              go_meet
              case rel => exact ⟨_, (x13_2), H', ⟨by have := HJ6.out; have := HK2.out; first | omega | exact Nat.le_refl _⟩, ⟨by (with_reducible repeat (first | apply Kd.R_alloc | apply Kd.R_drewN | apply Kd.R_drew)); exact HO_13.out⟩, ⟨by repeat (first | (with_reducible first | exact HB.out | apply below_alloc | apply pw_below_drewN | apply below_drew1) | exact HB.out)⟩⟩
            rw [if_pos c19] at H
            have c19b0 : decide (x14_2 < (l1.length : Int)) = true := decide_eq_true c19
            clear c19
            by_cases c20 : 0 ≤ x14_2
            rotate_left
            · rw [if_neg c20] at H
              exact absurd H (by simp)
            rw [if_pos c20] at H
            have c20b0 : decide (0 ≤ x14_2) = true := decide_eq_true c20
            clear c20
            by_cases c21 : (x13_2.length : Int) = 0
            · rw [if_pos c21] at H
              exact absurd H (by simp)
            · rw [if_neg c21] at H
              have c21b0 : ((x13_2.length : Int) == 0) = false := beq_eq_false_iff_ne.mpr c21
              have c21b1 : ((x13_2.length : Int) != 0) = true := bne_iff_ne.mpr c21
              have c21b2 : ¬ (x13_2 = []) := fun h_ => c21 (by rw [h_]; rfl)
              obtain ⟨ji22, hji22⟩ : ∃ j_ : Int, (Int.tmod (wrap64 ((Int.tmod (rd l1 x14_2) (x13_2.length : Int)) + (x13_2.length : Int))) (x13_2.length : Int)) = j_ := ⟨_, rfl⟩
              replace H : (if 0 ≤ (ji22) then (if (ji22) < (x13_2.length : Int) then (tenorlaw25_GridParts.l0 k2 l0 l1 a2 a3 a4 l5 ((x13_2.set (x14_2 : Int).toNat (rdOf (0 : Nat) x13_2 (ji22))).set ((ji22) : Int).toNat (rdOf (0 : Nat) x13_2 x14_2)) (wrap64 (x14_2 + 1))) else (none)) else (none)) = some r := by first | (rw [hji22] at H; exact H) | (simp only [hji22] at H ⊢; exact H)
              by_cases c23 : 0 ≤ (ji22)
              rotate_left
              · rw [if_neg c23] at H
                exact absurd H (by simp)
              rw [if_pos c23] at H
              have c23b0 : decide (0 ≤ (ji22)) = true := decide_eq_true c23
              clear c23
              by_cases c24 : (ji22) < (x13_2.length : Int)
              rotate_left
              · rw [if_neg c24] at H
                exact absurd H (by simp)
              rw [if_pos c24] at H
              have c24b0 : decide ((ji22) < (x13_2.length : Int)) = true := decide_eq_true c24
              clear c24
              obtain ⟨y111, hy111⟩ : ∃ y_ : List Nat, y_ = (x13_2.set (x14_2 : Int).toNat (rdOf (0 : Nat) x13_2 (ji22))) := ⟨_, rfl⟩
              replace H : (tenorlaw25_GridParts.l0 k2 l0 l1 a2 a3 a4 l5 (y111.set ((ji22) : Int).toNat (rdOf (0 : Nat) x13_2 x14_2)) (wrap64 (x14_2 + 1))) = some r := by first | (rw [hy111]; with_reducible exact H) | (have H2_ := (Option.bind_some _ _).symm.trans H; rw [hy111]; with_reducible exact H2_) | (have H2_ := (Option.bind_some _ _).symm.trans H; with_reducible exact H2_) | with_reducible exact H | (rw [hy111]; exact H) | exact H
              have Ny111 := Aside0.mk hy111
              clear hy111
              obtain ⟨y112, hy112⟩ : ∃ y_ : List Nat, y_ = (y111.set ((ji22) : Int).toNat (rdOf (0 : Nat) x13_2 x14_2)) := ⟨_, rfl⟩
              replace H : (tenorlaw25_GridParts.l0 k2 l0 l1 a2 a3 a4 l5 y112 (wrap64 (x14_2 + 1))) = some r := by first | (rw [hy112]; with_reducible exact H) | (have H2_ := (Option.bind_some _ _).symm.trans H; rw [hy112]; with_reducible exact H2_) | (have H2_ := (Option.bind_some _ _).symm.trans H; with_reducible exact H2_) | with_reducible exact H | (rw [hy112]; exact H) | exact H
              have Ny112 := Aside0.mk hy112
              clear hy112
              have H' := Aside0.mk H
              clear H
              obtain ⟨Ao27, co27, eo27⟩ := Kd.R_slice HO_13.out
              subst eo27
              have p108 : 0 ≤ (x14_2 : Int) := of_decide_eq_true (by first | (with_reducible assumption) | assumption)
              have q108 : x14_2 < (l1.length : Int) := of_decide_eq_true (by first | (with_reducible assumption) | assumption)
              obtain ⟨ad108, e108, hx108_0⟩ := Kd.at_int HR1.out x14_2 p108 q108
              cases e108
              replace hx108_0 := (HB.out.cell (World.block_lt_of_cell? w _ hx108_0)).trans hx108_0
              replace p108 := eq_true p108
              replace q108 := eq_true q108
              try go_wp2
              have n0_ := Aside0.mk (Kd.R_drew HO_13.out)
              have n1_ := Aside0.mk (below_drew1 HB.out)
              clear HO_13
              clear HB
              have HO_13 := n0_
              have HB := n1_
              clear n0_ n1_
              have p109 : 0 ≤ ((ji22) : Int) := of_decide_eq_true (by first | (with_reducible assumption) | assumption)
              have q109 : (ji22) < (x13_2.length : Int) := of_decide_eq_true (by first | (with_reducible assumption) | assumption)
              obtain ⟨ad109, e109, hx109_0⟩ := Kd.at_flt (Kd.R_reads' HO_13.out).2.2 (ji22) p109 q109
              cases e109
              replace p109 := eq_true p109
              replace q109 := eq_true q109
              have p110 : 0 ≤ (x14_2 : Int) := of_decide_eq_true (by first | (with_reducible assumption) | assumption)
              have q110 : x14_2 < (x13_2.length : Int) := of_decide_eq_true (by first | (with_reducible assumption) | assumption)
              obtain ⟨ad110, e110, hx110_0⟩ := Kd.at_flt (Kd.R_reads' HO_13.out).2.2 x14_2 p110 q110
              obtain rfl : ad109 = ad110 := (by injection e110)
              replace p110 := eq_true p110
              replace q110 := eq_true q110
              have p25 : 0 ≤ (x14_2 : Int) := of_decide_eq_true (by first | (with_reducible assumption) | assumption)
              have q25 : (x14_2 : Int) < ((x13_2.length : Int) : Int) := of_decide_eq_true (by first | (with_reducible assumption) | assumption)
              obtain ⟨go25, co25, eo25, gb25, gl25, cl25, HG25⟩ := Kd.R_form HO_13.out (by omega)
              (first | cases eo25 | (injection eo25 with ea_ en_ ec_; (first | subst ea_ | (injection ea_ with ea_; subst ea_)); subst ec_; clear en_))
              have GB25 := Aside0.mk gb25
              have GG25 := Aside0.mk HG25
              clear gb25 gl25 HG25
              (first | simp only [add_plain] at hx109_0 | skip)
              (first | simp only [add_plain] at hx110_0 | skip)
              obtain ⟨hx25_0, hf25_0⟩ := Kd.R_celln (0 : Nat) HO_13.out (x14_2 : Int) p25 q25
              replace p25 := eq_true p25
              replace q25 := eq_true q25
              have HP29 := Kd.R_putn HO_13.out (x14_2 : Int) (rdOf (0 : Nat) x13_2 (ji22))
              rw [← Ny111.out] at HP29
              have HQ29 := Aside0.mk HP29
              clear HP29
              have p26 : 0 ≤ ((ji22) : Int) := of_decide_eq_true (by first | (with_reducible assumption) | assumption)
              have q26 : ((ji22) : Int) < ((x13_2.length : Int) : Int) := of_decide_eq_true (by first | (with_reducible assumption) | assumption)
              obtain ⟨hx26_0, hf26_0⟩ := Kd.R_celln (0 : Nat) HQ29.out ((ji22) : Int) p26 q26
              replace p26 := eq_true p26
              replace q26 := eq_true q26
              have HP30 := Kd.R_putn HQ29.out ((ji22) : Int) (rdOf (0 : Nat) x13_2 x14_2)
              rw [← Ny112.out] at HP30
              have HQ30 := Aside0.mk HP30
              clear HP30
              refine start_ (n := 16) (S := fun w' => w'.cell? ⟨go25, ((ji22)).toNat, none⟩ = some (.float .f64 (rdOf (0 : Nat) x13_2 (ji22))) ∧ w'.cell? ⟨go25, (x14_2).toNat, none⟩ = some (.float .f64 (rdOf (0 : Nat) x13_2 x14_2))) (ds := [13, 15]) (dnA 16 0) (by kernel_rfl) rfl rfl ⟨hx109_0, hx110_0⟩ (fun hHeld => ?_); refine with_tabW tenorlaw25_GridParts.tab8 tenorlaw25_GridParts.bits8 (fun HT_ HW_ => ?_)
              generalize wr.drew = w28 at HO_13 HB GG25 HQ29 HQ30 hf25_0 hf26_0 hx109_0 hx110_0 hx25_0 hx26_0 hHeld ⊢
              refine pure_ (i := 0) (N := some 80) (v := ?_) (a' := ?_) (dnA 16 1) rfl rfl (any_of HT_.out (by kernel_rfl)) (fun _ _ _ h => h) (Or.inl ⟨by rfl, ?_⟩) ?_ ?_
              rotate_left
              · intro w'
                go_simp
                with_reducible rfl
              rotate_left
              · simp only [Act.put, List.setIfInBounds_toArray, List.set_cons_zero, List.set_cons_succ, i64_w, i32_w]
                rfl
              refine pure_ (i := 1) (N := some 81) (v := ?_) (a' := ?_) (dnA 16 3) rfl rfl (any_of HT_.out (by kernel_rfl)) (fun _ _ _ h => h) (Or.inl ⟨by rfl, ?_⟩) ?_ ?_
              rotate_left
              · intro w'
                go_simp
                with_reducible rfl
              rotate_left
              · simp only [Act.put, List.setIfInBounds_toArray, List.set_cons_zero, List.set_cons_succ, i64_w, i32_w]
                rfl
              refine pure_ (i := 2) (N := some 82) (v := ?_) (a' := ?_) (dnA 16 7) rfl rfl (any_of HT_.out (by kernel_rfl)) (fun _ _ _ h => h) (Or.inl ⟨by rfl, ?_⟩) ?_ ?_
              rotate_left
              · intro w'
                go_simp
                with_reducible rfl
              rotate_left
              · simp only [Act.put, List.setIfInBounds_toArray, List.set_cons_zero, List.set_cons_succ, i64_w, i32_w]
                rfl
              refine pure_ (i := 3) (N := some 83) (v := ?_) (a' := ?_) (dnA 16 15) rfl rfl (any_of HT_.out (by kernel_rfl)) (fun _ _ _ h => h) (Or.inl ⟨by rfl, ?_⟩) ?_ ?_
              rotate_left
              · intro w'
                go_simp
                with_reducible rfl
              rotate_left
              · simp only [Act.put, List.setIfInBounds_toArray, List.set_cons_zero, List.set_cons_succ, i64_w, i32_w]
                rfl
              refine pure_ (i := 4) (N := some 84) (v := ?_) (a' := ?_) (dnA 16 31) rfl rfl (any_of HT_.out (by kernel_rfl)) (fun _ _ _ h => h) (Or.inl ⟨by rfl, ?_⟩) ?_ ?_
              rotate_left
              · intro w'
                go_simp
                with_reducible rfl
              rotate_left
              · simp only [Act.put, List.setIfInBounds_toArray, List.set_cons_zero, List.set_cons_succ, i64_w, i32_w]
                rfl
              refine pure_ (i := 5) (N := some 85) (v := ?_) (a' := ?_) (dnA 16 63) rfl rfl (any_of HT_.out (by kernel_rfl)) (fun _ _ _ h => h) (Or.inl ⟨by rfl, ?_⟩) ?_ ?_
              rotate_left
              · intro w'
                go_simp
                with_reducible rfl
              rotate_left
              · simp only [Act.put, List.setIfInBounds_toArray, List.set_cons_zero, List.set_cons_succ, i64_w, i32_w]
                rfl
              refine pure_ (i := 6) (N := some 86) (v := ?_) (a' := ?_) (dnA 16 127) rfl rfl (any_of HT_.out (by kernel_rfl)) (fun _ _ _ h => h) (Or.inl ⟨by rfl, ?_⟩) ?_ ?_
              rotate_left
              · intro w'
                go_simp
                with_reducible rfl
              rotate_left
              · simp only [Act.put, List.setIfInBounds_toArray, List.set_cons_zero, List.set_cons_succ, i64_w, i32_w]
                rfl
              refine pure_ (i := 8) (N := some 88) (v := ?_) (a' := ?_) (dnA 16 383) rfl rfl (any_of HT_.out (by kernel_rfl)) (fun _ _ _ h => h) (Or.inl ⟨by rfl, ?_⟩) ?_ ?_
              rotate_left
              · intro w'
                go_simp
                with_reducible rfl
              rotate_left
              · simp only [Act.put, List.setIfInBounds_toArray, List.set_cons_zero, List.set_cons_succ, i64_w, i32_w]
                rfl
              refine pure_ (i := 9) (N := some 89) (v := ?_) (a' := ?_) (dnA 16 895) rfl rfl (any_of HT_.out (by kernel_rfl)) (fun _ _ _ h => h) (Or.inl ⟨by rfl, ?_⟩) ?_ ?_
              rotate_left
              · intro w'
                go_simp
                with_reducible rfl
              rotate_left
              · simp only [Act.put, List.setIfInBounds_toArray, List.set_cons_zero, List.set_cons_succ, i64_w, i32_w]
                rfl
              refine pure_ (i := 10) (N := some 90) (v := ?_) (a' := ?_) (dnA 16 1919) rfl rfl (any_of HT_.out (by kernel_rfl)) (fun _ _ _ h => h) (Or.inl ⟨by rfl, ?_⟩) ?_ ?_
              rotate_left
              · intro w'
                go_simp
                with_reducible rfl
              rotate_left
              · simp only [Act.put, List.setIfInBounds_toArray, List.set_cons_zero, List.set_cons_succ, i64_w, i32_w]
                rfl
              refine take_ (i := 7) (N := some 87) (v := ?_) (a' := ?_) (dnA 16 2047) rfl rfl (take_ofW HT_.out HW_.out (by kernel_rfl)) (fun _ _ _ h => h) (Or.inl ⟨by rfl, ?_⟩) hHeld ?_ ?_
              rotate_left
              · rintro w' ⟨s0, s1⟩
                go_simp
                with_reducible rfl
              rotate_left
              · simp only [Act.put, List.setIfInBounds_toArray, List.set_cons_zero, List.set_cons_succ, i64_w, i32_w]
                rfl
              refine take_ (i := 11) (N := some 91) (v := ?_) (a' := ?_) (dnA 16 4095) rfl rfl (take_ofW HT_.out HW_.out (by kernel_rfl)) (fun _ _ _ h => h) (Or.inl ⟨by rfl, ?_⟩) hHeld ?_ ?_
              rotate_left
              · rintro w' ⟨s0, s1⟩
                go_simp
                with_reducible rfl
              rotate_left
              · simp only [Act.put, List.setIfInBounds_toArray, List.set_cons_zero, List.set_cons_succ, i64_w, i32_w]
                rfl
              refine pure_ (i := 12) (N := some 92) (v := ?_) (a' := ?_) (dnA 16 8191) rfl rfl (any_of HT_.out (by kernel_rfl)) (fun _ _ _ h => h) (Or.inl ⟨by rfl, ?_⟩) ?_ ?_
              rotate_left
              · intro w'
                go_simp
                with_reducible rfl
              rotate_left
              · simp only [Act.put, List.setIfInBounds_toArray, List.set_cons_zero, List.set_cons_succ, i64_w, i32_w]
                rfl
              refine last_ (i := 13) (N := none) (dnA 16 16383) rfl rfl (one_of HT_.out (by kernel_rfl)) (by decide) (fun K hK => ?_)
              refine skip_ (w1 := ?_) (by rfl) rfl ?_ ?_
              rotate_left
              · go_simp
                rfl
              refine hK.out _ _ ?_
              clear hK K
              refine pure_ (i := 14) (N := some 93) (v := ?_) (a' := ?_) (dnA 16 32767) rfl rfl (any_of HT_.out (by kernel_rfl)) (fun _ _ _ h => h) (Or.inl ⟨by rfl, ?_⟩) ?_ ?_
              rotate_left
              · intro w'
                go_simp
                with_reducible rfl
              rotate_left
              · simp only [Act.put, List.setIfInBounds_toArray, List.set_cons_zero, List.set_cons_succ, i64_w, i32_w]
                rfl
              refine last_ (i := 15) (N := none) (dnA 16 65535) rfl rfl (one_of HT_.out (by kernel_rfl)) (by decide) (fun K hK => ?_)
              refine skip_ (w1 := ?_) (by rfl) rfl ?_ ?_
              rotate_left
              · go_simp
                rfl
              refine hK.out _ _ ?_
              clear hK K
              refine done_ (done_of HT_.out (by kernel_rfl)) ?_
              try go_wp2
              go_roundg k2
              case measure => have := HJ6.out; have := HK2.out; omega
              case rel => exact ⟨(y112), (wrap64 (x14_2 + 1)), (by first | rfl | (simp; done) | (simp [*]; done)), H', ⟨by have := HJ6.out; have := HK2.out; omega⟩, ⟨by (with_reducible repeat (first | apply Kd.R_alloc | apply Kd.R_drewN | apply Kd.R_drew)); exact HQ30.out⟩, ⟨by repeat (first | (with_reducible first | exact HB.out | apply below_alloc | apply pw_below_drewN | apply below_drew1 | refine below_set ?_ GB25.out | refine below_set ?_ GB25.out) | exact HB.out)⟩⟩
      case rest => as_aux_lemma =>
        clear HC14
        try clear c1
        try clear p1
        try clear q1
        try clear hx1
        try clear c2
        try clear p2
        try clear q2
        try clear hx2
        try clear c5
        try clear p6
        try clear c7
        try clear c8
        try clear c8b0
        try clear c8b1
        try clear c9
        try clear c9b0
        try clear c9b1
        try clear c9b2
        try clear c10
        try clear p10
        try clear q10
        try clear hx10
        try clear p11
        try clear q11
        try clear hx11
        try clear c13
        try clear c18
        try clear c18b0
        try clear c19
        try clear c19b0
        try clear c20
        try clear c20b0
        try clear c21
        try clear c21b0
        try clear c21b1
        try clear c21b2
        try clear c23
        try clear c23b0
        try clear c24
        try clear c24b0
        try clear p25
        try clear q25
        try clear hx25
        try clear hf25
        try clear p26
        try clear q26
        try clear hx26
        try clear hf26
        try clear hx108_0
        try clear hx109_0
        try clear hx110_0
        try clear hx25_0
        try clear hx26_0
        try clear p108
        try clear p109
        try clear p110
        try clear p2
        try clear p25
        try clear p26
        try clear q108
        try clear q109
        try clear q110
        try clear q25
        try clear q26
        obtain ⟨kq, x13_13, HA, HJ13, HO_13, HB⟩ := hcut
        cases kq with
        | zero => exact absurd HA.out (by simp [tenorlaw25_GridParts.j2])
        | succ kj13 =>
          have H := HA.out
          clear HA
          simp only [tenorlaw25_GridParts.j2] at H
          replace H := Option.bind_eq_some_iff.mp H
          obtain ⟨⟨t113, t114⟩, A330, H⟩ := H
          replace H : ((grid_Quantile.f kj13 x13_13 a2 a4).bind fun bt115 => ((grid_Quantile.f kj13 l0 a3 a4).bind fun bt117 => (if t114 = bt115.2 then ((api_Bits.f t113).bind fun t119 => ((api_Bits.f bt115.1).bind fun t120 => (if t119 = t120 then ((grid_Mean.f kj13 l0).bind fun bt121 => ((grid_Mean.f kj13 x13_13).bind fun bt123 => (if bt121.2 = bt123.2 then ((api_Bits.f bt121.1).bind fun t125 => ((api_Bits.f bt123.1).bind fun t126 => (if t125 = t126 then ((grid_Count.f kj13 l0 l5).bind fun bt127 => ((grid_Count.f kj13 x13_13 l5).bind fun bt131 => (if bt127.2 = bt131.2 then ((tenorlaw25_same.f kj13 bt127.1 bt131.1).bind fun t135 => (if t135 = true then (if bt127.2 = 0 then (tenorlaw25_GridParts.l1 kj13 l0 a2 a3 a4 t113 t114 bt117.1 bt117.2 bt121.1 bt121.2 bt127.1 0 0) else (tenorlaw25_GridParts.j4 kj13 l0 a2 a3 a4 t113 t114 bt117.1 bt117.2 bt121.1 bt121.2)) else (some false))) else (none)))) else (none)))) else (none)))) else (none)))) else (none)))) = some r := H
          have A33 := Aside0.mk A330
          clear A330
          replace H := Option.bind_eq_some_iff.mp H
          obtain ⟨⟨t115, t116⟩, A340, H⟩ := H
          replace H : ((grid_Quantile.f kj13 l0 a3 a4).bind fun bt117 => (if t114 = t116 then ((api_Bits.f t113).bind fun t119 => ((api_Bits.f t115).bind fun t120 => (if t119 = t120 then ((grid_Mean.f kj13 l0).bind fun bt121 => ((grid_Mean.f kj13 x13_13).bind fun bt123 => (if bt121.2 = bt123.2 then ((api_Bits.f bt121.1).bind fun t125 => ((api_Bits.f bt123.1).bind fun t126 => (if t125 = t126 then ((grid_Count.f kj13 l0 l5).bind fun bt127 => ((grid_Count.f kj13 x13_13 l5).bind fun bt131 => (if bt127.2 = bt131.2 then ((tenorlaw25_same.f kj13 bt127.1 bt131.1).bind fun t135 => (if t135 = true then (if bt127.2 = 0 then (tenorlaw25_GridParts.l1 kj13 l0 a2 a3 a4 t113 t114 bt117.1 bt117.2 bt121.1 bt121.2 bt127.1 0 0) else (tenorlaw25_GridParts.j4 kj13 l0 a2 a3 a4 t113 t114 bt117.1 bt117.2 bt121.1 bt121.2)) else (some false))) else (none)))) else (none)))) else (none)))) else (none)))) else (none))) = some r := H
          have A34 := Aside0.mk A340
          clear A340
          replace H := Option.bind_eq_some_iff.mp H
          obtain ⟨⟨t117, t118⟩, A350, H⟩ := H
          replace H : (if t114 = t116 then ((api_Bits.f t113).bind fun t119 => ((api_Bits.f t115).bind fun t120 => (if t119 = t120 then ((grid_Mean.f kj13 l0).bind fun bt121 => ((grid_Mean.f kj13 x13_13).bind fun bt123 => (if bt121.2 = bt123.2 then ((api_Bits.f bt121.1).bind fun t125 => ((api_Bits.f bt123.1).bind fun t126 => (if t125 = t126 then ((grid_Count.f kj13 l0 l5).bind fun bt127 => ((grid_Count.f kj13 x13_13 l5).bind fun bt131 => (if bt127.2 = bt131.2 then ((tenorlaw25_same.f kj13 bt127.1 bt131.1).bind fun t135 => (if t135 = true then (if bt127.2 = 0 then (tenorlaw25_GridParts.l1 kj13 l0 a2 a3 a4 t113 t114 t117 t118 bt121.1 bt121.2 bt127.1 0 0) else (tenorlaw25_GridParts.j4 kj13 l0 a2 a3 a4 t113 t114 t117 t118 bt121.1 bt121.2)) else (some false))) else (none)))) else (none)))) else (none)))) else (none)))) else (none)) = some r := H
          have A35 := Aside0.mk A350
          clear A350
          by_cases c36 : t114 = t116
          rotate_left
          · rw [if_neg c36] at H
            exact absurd H (by simp)
          rw [if_pos c36] at H
          have c36b0 : (t114 == t116) = true := beq_iff_eq.mpr c36
          have c36b1 : (t114 != t116) = false := bne_eq_false_iff_eq.mpr c36
          clear c36
          replace H := Option.bind_eq_some_iff.mp H
          obtain ⟨t119, A370, H⟩ := H
          replace H : ((api_Bits.f t115).bind fun t120 => (if t119 = t120 then ((grid_Mean.f kj13 l0).bind fun bt121 => ((grid_Mean.f kj13 x13_13).bind fun bt123 => (if bt121.2 = bt123.2 then ((api_Bits.f bt121.1).bind fun t125 => ((api_Bits.f bt123.1).bind fun t126 => (if t125 = t126 then ((grid_Count.f kj13 l0 l5).bind fun bt127 => ((grid_Count.f kj13 x13_13 l5).bind fun bt131 => (if bt127.2 = bt131.2 then ((tenorlaw25_same.f kj13 bt127.1 bt131.1).bind fun t135 => (if t135 = true then (if bt127.2 = 0 then (tenorlaw25_GridParts.l1 kj13 l0 a2 a3 a4 t113 t114 t117 t118 bt121.1 bt121.2 bt127.1 0 0) else (tenorlaw25_GridParts.j4 kj13 l0 a2 a3 a4 t113 t114 t117 t118 bt121.1 bt121.2)) else (some false))) else (none)))) else (none)))) else (none)))) else (none))) = some r := H
          have A37 := Aside0.mk A370
          clear A370
          replace H := Option.bind_eq_some_iff.mp H
          obtain ⟨t120, A380, H⟩ := H
          replace H : (if t119 = t120 then ((grid_Mean.f kj13 l0).bind fun bt121 => ((grid_Mean.f kj13 x13_13).bind fun bt123 => (if bt121.2 = bt123.2 then ((api_Bits.f bt121.1).bind fun t125 => ((api_Bits.f bt123.1).bind fun t126 => (if t125 = t126 then ((grid_Count.f kj13 l0 l5).bind fun bt127 => ((grid_Count.f kj13 x13_13 l5).bind fun bt131 => (if bt127.2 = bt131.2 then ((tenorlaw25_same.f kj13 bt127.1 bt131.1).bind fun t135 => (if t135 = true then (if bt127.2 = 0 then (tenorlaw25_GridParts.l1 kj13 l0 a2 a3 a4 t113 t114 t117 t118 bt121.1 bt121.2 bt127.1 0 0) else (tenorlaw25_GridParts.j4 kj13 l0 a2 a3 a4 t113 t114 t117 t118 bt121.1 bt121.2)) else (some false))) else (none)))) else (none)))) else (none)))) else (none)) = some r := H
          have A38 := Aside0.mk A380
          clear A380
          by_cases c39 : t119 = t120
          rotate_left
          · rw [if_neg c39] at H
            exact absurd H (by simp)
          rw [if_pos c39] at H
          have c39b0 : (t119 == t120) = true := beq_iff_eq.mpr c39
          have c39b1 : (t119 != t120) = false := bne_eq_false_iff_eq.mpr c39
          clear c39
          replace H := Option.bind_eq_some_iff.mp H
          obtain ⟨⟨t121, t122⟩, A400, H⟩ := H
          replace H : ((grid_Mean.f kj13 x13_13).bind fun bt123 => (if t122 = bt123.2 then ((api_Bits.f t121).bind fun t125 => ((api_Bits.f bt123.1).bind fun t126 => (if t125 = t126 then ((grid_Count.f kj13 l0 l5).bind fun bt127 => ((grid_Count.f kj13 x13_13 l5).bind fun bt131 => (if bt127.2 = bt131.2 then ((tenorlaw25_same.f kj13 bt127.1 bt131.1).bind fun t135 => (if t135 = true then (if bt127.2 = 0 then (tenorlaw25_GridParts.l1 kj13 l0 a2 a3 a4 t113 t114 t117 t118 t121 t122 bt127.1 0 0) else (tenorlaw25_GridParts.j4 kj13 l0 a2 a3 a4 t113 t114 t117 t118 t121 t122)) else (some false))) else (none)))) else (none)))) else (none))) = some r := H
          have A40 := Aside0.mk A400
          clear A400
          replace H := Option.bind_eq_some_iff.mp H
          obtain ⟨⟨t123, t124⟩, A410, H⟩ := H
          replace H : (if t122 = t124 then ((api_Bits.f t121).bind fun t125 => ((api_Bits.f t123).bind fun t126 => (if t125 = t126 then ((grid_Count.f kj13 l0 l5).bind fun bt127 => ((grid_Count.f kj13 x13_13 l5).bind fun bt131 => (if bt127.2 = bt131.2 then ((tenorlaw25_same.f kj13 bt127.1 bt131.1).bind fun t135 => (if t135 = true then (if bt127.2 = 0 then (tenorlaw25_GridParts.l1 kj13 l0 a2 a3 a4 t113 t114 t117 t118 t121 t122 bt127.1 0 0) else (tenorlaw25_GridParts.j4 kj13 l0 a2 a3 a4 t113 t114 t117 t118 t121 t122)) else (some false))) else (none)))) else (none)))) else (none)) = some r := H
          have A41 := Aside0.mk A410
          clear A410
          by_cases c42 : t122 = t124
          rotate_left
          · rw [if_neg c42] at H
            exact absurd H (by simp)
          rw [if_pos c42] at H
          have c42b0 : (t122 == t124) = true := beq_iff_eq.mpr c42
          have c42b1 : (t122 != t124) = false := bne_eq_false_iff_eq.mpr c42
          clear c42
          replace H := Option.bind_eq_some_iff.mp H
          obtain ⟨t125, A430, H⟩ := H
          replace H : ((api_Bits.f t123).bind fun t126 => (if t125 = t126 then ((grid_Count.f kj13 l0 l5).bind fun bt127 => ((grid_Count.f kj13 x13_13 l5).bind fun bt131 => (if bt127.2 = bt131.2 then ((tenorlaw25_same.f kj13 bt127.1 bt131.1).bind fun t135 => (if t135 = true then (if bt127.2 = 0 then (tenorlaw25_GridParts.l1 kj13 l0 a2 a3 a4 t113 t114 t117 t118 t121 t122 bt127.1 0 0) else (tenorlaw25_GridParts.j4 kj13 l0 a2 a3 a4 t113 t114 t117 t118 t121 t122)) else (some false))) else (none)))) else (none))) = some r := H
          have A43 := Aside0.mk A430
          clear A430
          replace H := Option.bind_eq_some_iff.mp H
          obtain ⟨t126, A440, H⟩ := H
          replace H : (if t125 = t126 then ((grid_Count.f kj13 l0 l5).bind fun bt127 => ((grid_Count.f kj13 x13_13 l5).bind fun bt131 => (if bt127.2 = bt131.2 then ((tenorlaw25_same.f kj13 bt127.1 bt131.1).bind fun t135 => (if t135 = true then (if bt127.2 = 0 then (tenorlaw25_GridParts.l1 kj13 l0 a2 a3 a4 t113 t114 t117 t118 t121 t122 bt127.1 0 0) else (tenorlaw25_GridParts.j4 kj13 l0 a2 a3 a4 t113 t114 t117 t118 t121 t122)) else (some false))) else (none)))) else (none)) = some r := H
          have A44 := Aside0.mk A440
          clear A440
          by_cases c45 : t125 = t126
          rotate_left
          · rw [if_neg c45] at H
            exact absurd H (by simp)
          rw [if_pos c45] at H
          have c45b0 : (t125 == t126) = true := beq_iff_eq.mpr c45
          have c45b1 : (t125 != t126) = false := bne_eq_false_iff_eq.mpr c45
          clear c45
          replace H := Option.bind_eq_some_iff.mp H
          obtain ⟨⟨t127, t128⟩, A460, H⟩ := H
          replace H : ((grid_Count.f kj13 x13_13 l5).bind fun bt131 => (if t128 = bt131.2 then ((tenorlaw25_same.f kj13 t127 bt131.1).bind fun t135 => (if t135 = true then (if t128 = 0 then (tenorlaw25_GridParts.l1 kj13 l0 a2 a3 a4 t113 t114 t117 t118 t121 t122 t127 0 0) else (tenorlaw25_GridParts.j4 kj13 l0 a2 a3 a4 t113 t114 t117 t118 t121 t122)) else (some false))) else (none))) = some r := H
          have A46 := Aside0.mk A460
          clear A460
          replace H := Option.bind_eq_some_iff.mp H
          obtain ⟨⟨t131, t132⟩, A470, H⟩ := H
          replace H : (if t128 = t132 then ((tenorlaw25_same.f kj13 t127 t131).bind fun t135 => (if t135 = true then (if t128 = 0 then (tenorlaw25_GridParts.l1 kj13 l0 a2 a3 a4 t113 t114 t117 t118 t121 t122 t127 0 0) else (tenorlaw25_GridParts.j4 kj13 l0 a2 a3 a4 t113 t114 t117 t118 t121 t122)) else (some false))) else (none)) = some r := H
          have A47 := Aside0.mk A470
          clear A470
          by_cases c48 : t128 = t132
          rotate_left
          · rw [if_neg c48] at H
            exact absurd H (by simp)
          rw [if_pos c48] at H
          have c48b0 : (t128 == t132) = true := beq_iff_eq.mpr c48
          have c48b1 : (t128 != t132) = false := bne_eq_false_iff_eq.mpr c48
          clear c48
          replace H := Option.bind_eq_some_iff.mp H
          obtain ⟨t135, A490, H⟩ := H
          replace H : (if t135 = true then (if t128 = 0 then (tenorlaw25_GridParts.l1 kj13 l0 a2 a3 a4 t113 t114 t117 t118 t121 t122 t127 0 0) else (tenorlaw25_GridParts.j4 kj13 l0 a2 a3 a4 t113 t114 t117 t118 t121 t122)) else (some false)) = some r := H
          have A49 := Aside0.mk A490
          clear A490
          by_cases c50 : t135 = true
          rotate_left
          · replace c50 := Bool.eq_false_iff.mpr c50
            subst c50
            have H1 : (some false) = some r := by rw [if_neg (show ¬ (false = true) by decide)] at H; exact H
            clear H
            have H := H1
            clear H1
            obtain rfl := Option.some.inj H
            go_wp2_with (first | ((with_reducible refine gate_callee (f := 26) rfl ?_); refine goesL_ (some 98) rfl rfl Try.func26 (by kernel_rfl) rfl #[.slice A0 l0.length c0, .int .i64 a2, .int .i64 a4] rfl (by (try simp only [List.map_toArray, List.map_cons, List.map_nil]); first | done | rfl | (simp only [List.length_drop, List.length_take]; rfl)) ?_; (with_reducible refine (grid_Quantile.calls kj13 _ _ l0 a2 a4 t113 t114 _ ?side1 ?side2 A33.out).mono ?_); (case side1 => repeat (first | exact (Kd.C_below HR0.out HB.out) | (with_reducible refine Kd.C_alloc ?_ _) | (with_reducible refine Kd.C_drewN ?_ _) | (with_reducible refine Kd.C_drew ?_))); (case side2 => exact HC0.out); rintro e w96 ⟨rfl, hb⟩; refine ⟨_, rfl, ?_⟩; have n0_ := Aside0.mk (Kd.R_below (by (with_reducible repeat (first | apply Kd.R_alloc | apply Kd.R_drewN | apply Kd.R_drew)); exact HO_13.out) hb); have n1_ := Aside0.mk (below_step (by repeat (first | (with_reducible first | exact HB.out | apply below_alloc | apply pw_below_drewN | apply below_drew1) | exact HB.out)) hb); clear HO_13; clear HB; have HO_13 := n0_; have HB := n1_; clear n0_ n1_; (try clear hb); (try clear hb2); (try clear hk); (try clear hi); obtain ⟨Ao97, co97, eo97⟩ := Kd.R_slice HO_13.out; subst eo97) | ((with_reducible refine gate_callee (f := 26) rfl ?_); refine goesL_ (some 105) rfl rfl Try.func26 (by kernel_rfl) rfl #[.slice Ao97 x13_13.length co97, .int .i64 a2, .int .i64 a4] rfl (by (try simp only [List.map_toArray, List.map_cons, List.map_nil]); first | done | rfl | (simp only [List.length_drop, List.length_take]; rfl)) ?_; (with_reducible refine (grid_Quantile.calls kj13 _ _ x13_13 a2 a4 t115 t116 _ ?side1 ?side2 A34.out).mono ?_); (case side1 => repeat (first | exact (Kd.R_reads' HO_13.out).2.2 | (with_reducible refine Kd.C_alloc ?_ _) | (with_reducible refine Kd.C_drewN ?_ _) | (with_reducible refine Kd.C_drew ?_))); (case side2 => exact (Kd.R_reads' HO_13.out).2.1); rintro e w98 ⟨rfl, hb⟩; refine ⟨_, rfl, ?_⟩; have n0_ := Aside0.mk (Kd.R_below (by (with_reducible repeat (first | apply Kd.R_alloc | apply Kd.R_drewN | apply Kd.R_drew)); exact HO_13.out) hb); have n1_ := Aside0.mk (below_step (by repeat (first | (with_reducible first | exact HB.out | apply below_alloc | apply pw_below_drewN | apply below_drew1) | exact HB.out)) hb); clear HO_13; clear HB; have HO_13 := n0_; have HB := n1_; clear n0_ n1_; (try clear hb); (try clear hb2); (try clear hk); (try clear hi)) | ((with_reducible refine gate_callee (f := 26) rfl ?_); refine goesL_ (some 112) rfl rfl Try.func26 (by kernel_rfl) rfl #[.slice A0 l0.length c0, .int .i64 a3, .int .i64 a4] rfl (by (try simp only [List.map_toArray, List.map_cons, List.map_nil]); first | done | rfl | (simp only [List.length_drop, List.length_take]; rfl)) ?_; (with_reducible refine (grid_Quantile.calls kj13 _ _ l0 a3 a4 t117 t118 _ ?side1 ?side2 A35.out).mono ?_); (case side1 => repeat (first | exact (Kd.C_below HR0.out HB.out) | (with_reducible refine Kd.C_alloc ?_ _) | (with_reducible refine Kd.C_drewN ?_ _) | (with_reducible refine Kd.C_drew ?_))); (case side2 => exact HC0.out); rintro e w99 ⟨rfl, hb⟩; refine ⟨_, rfl, ?_⟩; have n0_ := Aside0.mk (Kd.R_below (by (with_reducible repeat (first | apply Kd.R_alloc | apply Kd.R_drewN | apply Kd.R_drew)); exact HO_13.out) hb); have n1_ := Aside0.mk (below_step (by repeat (first | (with_reducible first | exact HB.out | apply below_alloc | apply pw_below_drewN | apply below_drew1) | exact HB.out)) hb); clear HO_13; clear HB; have HO_13 := n0_; have HB := n1_; clear n0_ n1_; (try clear hb); (try clear hb2); (try clear hk); (try clear hi)) | (go_at_call 17; (with_reducible refine (api_Bits.calls t113 t119 _ A37.out).mono ?_); rintro e w' ⟨rfl, ⟨nd, rfl⟩⟩) | (go_at_call 17; (with_reducible refine (api_Bits.calls t115 t120 _ A38.out).mono ?_); rintro e w' ⟨rfl, ⟨nd, rfl⟩⟩) | ((with_reducible refine gate_callee (f := 27) rfl ?_); refine goesL_ (some 127) rfl rfl Try.func27 (by kernel_rfl) rfl #[.slice A0 l0.length c0] rfl (by (try simp only [List.map_toArray, List.map_cons, List.map_nil]); first | done | rfl | (simp only [List.length_drop, List.length_take]; rfl)) ?_; (with_reducible refine (grid_Mean.calls kj13 _ _ l0 t121 t122 _ ?side1 ?side2 A40.out).mono ?_); (case side1 => repeat (first | exact (Kd.C_below HR0.out (by repeat (first | (with_reducible first | exact HB.out | apply below_alloc | apply pw_below_drewN | apply below_drew1) | exact HB.out))) | (with_reducible refine Kd.C_alloc ?_ _) | (with_reducible refine Kd.C_drewN ?_ _) | (with_reducible refine Kd.C_drew ?_))); (case side2 => exact HC0.out); rintro e w100 ⟨rfl, hb⟩; refine ⟨_, rfl, ?_⟩; have n0_ := Aside0.mk (Kd.R_below (by (with_reducible repeat (first | apply Kd.R_alloc | apply Kd.R_drewN | apply Kd.R_drew)); exact HO_13.out) hb); have n1_ := Aside0.mk (below_step (by repeat (first | (with_reducible first | exact HB.out | apply below_alloc | apply pw_below_drewN | apply below_drew1) | exact HB.out)) hb); clear HO_13; clear HB; have HO_13 := n0_; have HB := n1_; clear n0_ n1_; (try clear hb); (try clear hb2); (try clear hk); (try clear hi)) | ((with_reducible refine gate_callee (f := 27) rfl ?_); refine goesL_ (some 132) rfl rfl Try.func27 (by kernel_rfl) rfl #[.slice Ao97 x13_13.length co97] rfl (by (try simp only [List.map_toArray, List.map_cons, List.map_nil]); first | done | rfl | (simp only [List.length_drop, List.length_take]; rfl)) ?_; (with_reducible refine (grid_Mean.calls kj13 _ _ x13_13 t123 t124 _ ?side1 ?side2 A41.out).mono ?_); (case side1 => repeat (first | exact (Kd.R_reads' HO_13.out).2.2 | (with_reducible refine Kd.C_alloc ?_ _) | (with_reducible refine Kd.C_drewN ?_ _) | (with_reducible refine Kd.C_drew ?_))); (case side2 => exact (Kd.R_reads' HO_13.out).2.1); rintro e w101 ⟨rfl, hb⟩; refine ⟨_, rfl, ?_⟩; have n0_ := Aside0.mk (Kd.R_below (by (with_reducible repeat (first | apply Kd.R_alloc | apply Kd.R_drewN | apply Kd.R_drew)); exact HO_13.out) hb); have n1_ := Aside0.mk (below_step (by repeat (first | (with_reducible first | exact HB.out | apply below_alloc | apply pw_below_drewN | apply below_drew1) | exact HB.out)) hb); clear HO_13; clear HB; have HO_13 := n0_; have HB := n1_; clear n0_ n1_; (try clear hb); (try clear hb2); (try clear hk); (try clear hi)) | (go_at_call 17; (with_reducible refine (api_Bits.calls t121 t125 _ A43.out).mono ?_); rintro e w' ⟨rfl, ⟨nd, rfl⟩⟩) | (go_at_call 17; (with_reducible refine (api_Bits.calls t123 t126 _ A44.out).mono ?_); rintro e w' ⟨rfl, ⟨nd, rfl⟩⟩) | ((with_reducible refine gate_callee (f := 22) rfl ?_); refine goesL_ (some 148) rfl rfl Try.func22 (by kernel_rfl) rfl #[.slice A0 l0.length c0, .slice A5 l5.length c5] rfl (by (try simp only [List.map_toArray, List.map_cons, List.map_nil]); first | done | rfl | (simp only [List.length_drop, List.length_take]; rfl)) ?_; (with_reducible refine (grid_Count.calls kj13 _ _ l0 _ _ l5 t127 t128 _ ?side1 ?side2 ?side3 ?side4 A46.out).mono ?_); (case side1 => repeat (first | exact (Kd.C_below HR0.out (by repeat (first | (with_reducible first | exact HB.out | apply below_alloc | apply pw_below_drewN | apply below_drew1) | exact HB.out))) | (with_reducible refine Kd.C_alloc ?_ _) | (with_reducible refine Kd.C_drewN ?_ _) | (with_reducible refine Kd.C_drew ?_))); (case side2 => exact HC0.out); (case side3 => repeat (first | exact (Kd.C_below HR5.out (by repeat (first | (with_reducible first | exact HB.out | apply below_alloc | apply pw_below_drewN | apply below_drew1) | exact HB.out))) | (with_reducible refine Kd.C_alloc ?_ _) | (with_reducible refine Kd.C_drewN ?_ _) | (with_reducible refine Kd.C_drew ?_))); (case side4 => exact HC5.out); rintro e w102 ⟨v129, rfl, ho0, hb⟩; refine ⟨_, rfl, ?_⟩; have n0_ := Aside0.mk (Kd.R_below (by (with_reducible repeat (first | apply Kd.R_alloc | apply Kd.R_drewN | apply Kd.R_drew)); exact HO_13.out) hb); have n1_ := Aside0.mk (Kd.R_lower ho0 (below_size (by repeat (first | (with_reducible first | exact HB.out | apply below_alloc | apply pw_below_drewN | apply below_drew1) | exact HB.out)))); have n2_ := Aside0.mk (below_step (by repeat (first | (with_reducible first | exact HB.out | apply below_alloc | apply pw_below_drewN | apply below_drew1) | exact HB.out)) hb); clear HO_13; clear HB; have HO_13 := n0_; have HO130 := n1_; have HB := n2_; clear n0_ n1_ n2_; (try clear hb); (try clear hb2); (try clear hk); (try clear hi); (try clear ho0)) | ((with_reducible refine gate_callee (f := 22) rfl ?_); refine goesL_ (some 154) rfl rfl Try.func22 (by kernel_rfl) rfl #[.slice Ao97 x13_13.length co97, .slice A5 l5.length c5] rfl (by (try simp only [List.map_toArray, List.map_cons, List.map_nil]); first | done | rfl | (simp only [List.length_drop, List.length_take]; rfl)) ?_; (with_reducible refine (grid_Count.calls kj13 _ _ x13_13 _ _ l5 t131 t132 _ ?side1 ?side2 ?side3 ?side4 A47.out).mono ?_); (case side1 => repeat (first | exact (Kd.R_reads' HO_13.out).2.2 | (with_reducible refine Kd.C_alloc ?_ _) | (with_reducible refine Kd.C_drewN ?_ _) | (with_reducible refine Kd.C_drew ?_))); (case side2 => exact (Kd.R_reads' HO_13.out).2.1); (case side3 => repeat (first | exact (Kd.C_below HR5.out HB.out) | (with_reducible refine Kd.C_alloc ?_ _) | (with_reducible refine Kd.C_drewN ?_ _) | (with_reducible refine Kd.C_drew ?_))); (case side4 => exact HC5.out); rintro e w103 ⟨v133, rfl, ho0, hb⟩; refine ⟨_, rfl, ?_⟩; have n0_ := Aside0.mk (Kd.R_below (by (with_reducible repeat (first | apply Kd.R_alloc | apply Kd.R_drewN | apply Kd.R_drew)); exact HO_13.out) hb); have n1_ := Aside0.mk (Kd.R_elder' (by (with_reducible repeat (first | apply Kd.R_alloc | apply Kd.R_drewN | apply Kd.R_drew)); exact HO130.out) (Kd.R_base ho0) hb); have n2_ := Aside0.mk (Kd.R_lower (Kd.R_new' ho0 (Kd.R_lt (by (with_reducible repeat (first | apply Kd.R_alloc | apply Kd.R_drewN | apply Kd.R_drew)); exact HO130.out))) (below_size (by repeat (first | (with_reducible first | exact HB.out | apply below_alloc | apply pw_below_drewN | apply below_drew1) | exact HB.out)))); have n3_ := Aside0.mk (below_step (by repeat (first | (with_reducible first | exact HB.out | apply below_alloc | apply pw_below_drewN | apply below_drew1) | exact HB.out)) hb); clear HO_13; clear HO130; clear HB; have HO_13 := n0_; have HO130 := n1_; have HO134 := n2_; have HB := n3_; clear n0_ n1_ n2_ n3_; (try clear hb); (try clear hb2); (try clear hk); (try clear hi); (try clear ho0); obtain ⟨Ao104, co104, eo104⟩ := Kd.R_slice HO130.out; subst eo104; obtain ⟨Ao105, co105, eo105⟩ := Kd.R_slice HO134.out; subst eo105) | (go_at_call 25; (with_reducible refine (tenorlaw25_same.calls kj13 _ _ t127 _ _ t131 false _ ?side1 ?side2 ?side3 ?side4 A49.out).mono ?_); (case side1 => repeat (first | exact (Kd.R_reads' HO130.out).2.2 | (with_reducible refine Kd.C_alloc ?_ _) | (with_reducible refine Kd.C_drewN ?_ _) | (with_reducible refine Kd.C_drew ?_))); (case side2 => exact (Kd.R_reads' HO130.out).2.1); (case side3 => repeat (first | exact (Kd.R_reads' HO134.out).2.2 | (with_reducible refine Kd.C_alloc ?_ _) | (with_reducible refine Kd.C_drewN ?_ _) | (with_reducible refine Kd.C_drew ?_))); (case side4 => exact (Kd.R_reads' HO134.out).2.1); rintro e w' ⟨rfl, ⟨nd, rfl⟩⟩))
            go_ret
            exact ⟨by first | rfl | (simp [errW_none, errW_some] <;> rfl) | (simp [*, errW_none, errW_some] <;> rfl), by repeat (first | (with_reducible first | exact HB.out | apply below_alloc | apply pw_below_drewN | apply below_drew1) | exact HB.out)⟩
          subst c50
          have H1 : (if t128 = 0 then (tenorlaw25_GridParts.l1 kj13 l0 a2 a3 a4 t113 t114 t117 t118 t121 t122 t127 0 0) else (tenorlaw25_GridParts.j4 kj13 l0 a2 a3 a4 t113 t114 t117 t118 t121 t122)) = some r := by rw [if_pos rfl] at H; exact H
          clear H
          have H := H1
          clear H1
          have HC51 := Aside0.mk H
          clear H
          go_upto_if 175 with (first | ((with_reducible refine gate_callee (f := 26) rfl ?_); refine goesL_ (some 98) rfl rfl Try.func26 (by kernel_rfl) rfl #[.slice A0 l0.length c0, .int .i64 a2, .int .i64 a4] rfl (by (try simp only [List.map_toArray, List.map_cons, List.map_nil]); first | done | rfl | (simp only [List.length_drop, List.length_take]; rfl)) ?_; (with_reducible refine (grid_Quantile.calls kj13 _ _ l0 a2 a4 t113 t114 _ ?side1 ?side2 A33.out).mono ?_); (case side1 => repeat (first | exact (Kd.C_below HR0.out HB.out) | (with_reducible refine Kd.C_alloc ?_ _) | (with_reducible refine Kd.C_drewN ?_ _) | (with_reducible refine Kd.C_drew ?_))); (case side2 => exact HC0.out); rintro e w52 ⟨rfl, hb⟩; refine ⟨_, rfl, ?_⟩; have n0_ := Aside0.mk (Kd.R_below (by (with_reducible repeat (first | apply Kd.R_alloc | apply Kd.R_drewN | apply Kd.R_drew)); exact HO_13.out) hb); have n1_ := Aside0.mk (below_step (by repeat (first | (with_reducible first | exact HB.out | apply below_alloc | apply pw_below_drewN | apply below_drew1) | exact HB.out)) hb); clear HO_13; clear HB; have HO_13 := n0_; have HB := n1_; clear n0_ n1_; (try clear hb); (try clear hb2); (try clear hk); (try clear hi); obtain ⟨Ao53, co53, eo53⟩ := Kd.R_slice HO_13.out; subst eo53) | ((with_reducible refine gate_callee (f := 26) rfl ?_); refine goesL_ (some 105) rfl rfl Try.func26 (by kernel_rfl) rfl #[.slice Ao53 x13_13.length co53, .int .i64 a2, .int .i64 a4] rfl (by (try simp only [List.map_toArray, List.map_cons, List.map_nil]); first | done | rfl | (simp only [List.length_drop, List.length_take]; rfl)) ?_; (with_reducible refine (grid_Quantile.calls kj13 _ _ x13_13 a2 a4 t115 t116 _ ?side1 ?side2 A34.out).mono ?_); (case side1 => repeat (first | exact (Kd.R_reads' HO_13.out).2.2 | (with_reducible refine Kd.C_alloc ?_ _) | (with_reducible refine Kd.C_drewN ?_ _) | (with_reducible refine Kd.C_drew ?_))); (case side2 => exact (Kd.R_reads' HO_13.out).2.1); rintro e w54 ⟨rfl, hb⟩; refine ⟨_, rfl, ?_⟩; have n0_ := Aside0.mk (Kd.R_below (by (with_reducible repeat (first | apply Kd.R_alloc | apply Kd.R_drewN | apply Kd.R_drew)); exact HO_13.out) hb); have n1_ := Aside0.mk (below_step (by repeat (first | (with_reducible first | exact HB.out | apply below_alloc | apply pw_below_drewN | apply below_drew1) | exact HB.out)) hb); clear HO_13; clear HB; have HO_13 := n0_; have HB := n1_; clear n0_ n1_; (try clear hb); (try clear hb2); (try clear hk); (try clear hi)) | ((with_reducible refine gate_callee (f := 26) rfl ?_); refine goesL_ (some 112) rfl rfl Try.func26 (by kernel_rfl) rfl #[.slice A0 l0.length c0, .int .i64 a3, .int .i64 a4] rfl (by (try simp only [List.map_toArray, List.map_cons, List.map_nil]); first | done | rfl | (simp only [List.length_drop, List.length_take]; rfl)) ?_; (with_reducible refine (grid_Quantile.calls kj13 _ _ l0 a3 a4 t117 t118 _ ?side1 ?side2 A35.out).mono ?_); (case side1 => repeat (first | exact (Kd.C_below HR0.out HB.out) | (with_reducible refine Kd.C_alloc ?_ _) | (with_reducible refine Kd.C_drewN ?_ _) | (with_reducible refine Kd.C_drew ?_))); (case side2 => exact HC0.out); rintro e w55 ⟨rfl, hb⟩; refine ⟨_, rfl, ?_⟩; have n0_ := Aside0.mk (Kd.R_below (by (with_reducible repeat (first | apply Kd.R_alloc | apply Kd.R_drewN | apply Kd.R_drew)); exact HO_13.out) hb); have n1_ := Aside0.mk (below_step (by repeat (first | (with_reducible first | exact HB.out | apply below_alloc | apply pw_below_drewN | apply below_drew1) | exact HB.out)) hb); clear HO_13; clear HB; have HO_13 := n0_; have HB := n1_; clear n0_ n1_; (try clear hb); (try clear hb2); (try clear hk); (try clear hi)) | (go_at_call 17; (with_reducible refine (api_Bits.calls t113 t119 _ A37.out).mono ?_); rintro e w' ⟨rfl, ⟨nd, rfl⟩⟩) | (go_at_call 17; (with_reducible refine (api_Bits.calls t115 t120 _ A38.out).mono ?_); rintro e w' ⟨rfl, ⟨nd, rfl⟩⟩) | ((with_reducible refine gate_callee (f := 27) rfl ?_); refine goesL_ (some 127) rfl rfl Try.func27 (by kernel_rfl) rfl #[.slice A0 l0.length c0] rfl (by (try simp only [List.map_toArray, List.map_cons, List.map_nil]); first | done | rfl | (simp only [List.length_drop, List.length_take]; rfl)) ?_; (with_reducible refine (grid_Mean.calls kj13 _ _ l0 t121 t122 _ ?side1 ?side2 A40.out).mono ?_); (case side1 => repeat (first | exact (Kd.C_below HR0.out (by repeat (first | (with_reducible first | exact HB.out | apply below_alloc | apply pw_below_drewN | apply below_drew1) | exact HB.out))) | (with_reducible refine Kd.C_alloc ?_ _) | (with_reducible refine Kd.C_drewN ?_ _) | (with_reducible refine Kd.C_drew ?_))); (case side2 => exact HC0.out); rintro e w56 ⟨rfl, hb⟩; refine ⟨_, rfl, ?_⟩; have n0_ := Aside0.mk (Kd.R_below (by (with_reducible repeat (first | apply Kd.R_alloc | apply Kd.R_drewN | apply Kd.R_drew)); exact HO_13.out) hb); have n1_ := Aside0.mk (below_step (by repeat (first | (with_reducible first | exact HB.out | apply below_alloc | apply pw_below_drewN | apply below_drew1) | exact HB.out)) hb); clear HO_13; clear HB; have HO_13 := n0_; have HB := n1_; clear n0_ n1_; (try clear hb); (try clear hb2); (try clear hk); (try clear hi)) | ((with_reducible refine gate_callee (f := 27) rfl ?_); refine goesL_ (some 132) rfl rfl Try.func27 (by kernel_rfl) rfl #[.slice Ao53 x13_13.length co53] rfl (by (try simp only [List.map_toArray, List.map_cons, List.map_nil]); first | done | rfl | (simp only [List.length_drop, List.length_take]; rfl)) ?_; (with_reducible refine (grid_Mean.calls kj13 _ _ x13_13 t123 t124 _ ?side1 ?side2 A41.out).mono ?_); (case side1 => repeat (first | exact (Kd.R_reads' HO_13.out).2.2 | (with_reducible refine Kd.C_alloc ?_ _) | (with_reducible refine Kd.C_drewN ?_ _) | (with_reducible refine Kd.C_drew ?_))); (case side2 => exact (Kd.R_reads' HO_13.out).2.1); rintro e w57 ⟨rfl, hb⟩; refine ⟨_, rfl, ?_⟩; have n0_ := Aside0.mk (Kd.R_below (by (with_reducible repeat (first | apply Kd.R_alloc | apply Kd.R_drewN | apply Kd.R_drew)); exact HO_13.out) hb); have n1_ := Aside0.mk (below_step (by repeat (first | (with_reducible first | exact HB.out | apply below_alloc | apply pw_below_drewN | apply below_drew1) | exact HB.out)) hb); clear HO_13; clear HB; have HO_13 := n0_; have HB := n1_; clear n0_ n1_; (try clear hb); (try clear hb2); (try clear hk); (try clear hi)) | (go_at_call 17; (with_reducible refine (api_Bits.calls t121 t125 _ A43.out).mono ?_); rintro e w' ⟨rfl, ⟨nd, rfl⟩⟩) | (go_at_call 17; (with_reducible refine (api_Bits.calls t123 t126 _ A44.out).mono ?_); rintro e w' ⟨rfl, ⟨nd, rfl⟩⟩) | ((with_reducible refine gate_callee (f := 22) rfl ?_); refine goesL_ (some 148) rfl rfl Try.func22 (by kernel_rfl) rfl #[.slice A0 l0.length c0, .slice A5 l5.length c5] rfl (by (try simp only [List.map_toArray, List.map_cons, List.map_nil]); first | done | rfl | (simp only [List.length_drop, List.length_take]; rfl)) ?_; (with_reducible refine (grid_Count.calls kj13 _ _ l0 _ _ l5 t127 t128 _ ?side1 ?side2 ?side3 ?side4 A46.out).mono ?_); (case side1 => repeat (first | exact (Kd.C_below HR0.out (by repeat (first | (with_reducible first | exact HB.out | apply below_alloc | apply pw_below_drewN | apply below_drew1) | exact HB.out))) | (with_reducible refine Kd.C_alloc ?_ _) | (with_reducible refine Kd.C_drewN ?_ _) | (with_reducible refine Kd.C_drew ?_))); (case side2 => exact HC0.out); (case side3 => repeat (first | exact (Kd.C_below HR5.out (by repeat (first | (with_reducible first | exact HB.out | apply below_alloc | apply pw_below_drewN | apply below_drew1) | exact HB.out))) | (with_reducible refine Kd.C_alloc ?_ _) | (with_reducible refine Kd.C_drewN ?_ _) | (with_reducible refine Kd.C_drew ?_))); (case side4 => exact HC5.out); rintro e w58 ⟨v129, rfl, ho0, hb⟩; refine ⟨_, rfl, ?_⟩; have n0_ := Aside0.mk (Kd.R_below (by (with_reducible repeat (first | apply Kd.R_alloc | apply Kd.R_drewN | apply Kd.R_drew)); exact HO_13.out) hb); have n1_ := Aside0.mk (Kd.R_lower ho0 (below_size (by repeat (first | (with_reducible first | exact HB.out | apply below_alloc | apply pw_below_drewN | apply below_drew1) | exact HB.out)))); have n2_ := Aside0.mk (below_step (by repeat (first | (with_reducible first | exact HB.out | apply below_alloc | apply pw_below_drewN | apply below_drew1) | exact HB.out)) hb); clear HO_13; clear HB; have HO_13 := n0_; have HO130 := n1_; have HB := n2_; clear n0_ n1_ n2_; (try clear hb); (try clear hb2); (try clear hk); (try clear hi); (try clear ho0)) | ((with_reducible refine gate_callee (f := 22) rfl ?_); refine goesL_ (some 154) rfl rfl Try.func22 (by kernel_rfl) rfl #[.slice Ao53 x13_13.length co53, .slice A5 l5.length c5] rfl (by (try simp only [List.map_toArray, List.map_cons, List.map_nil]); first | done | rfl | (simp only [List.length_drop, List.length_take]; rfl)) ?_; (with_reducible refine (grid_Count.calls kj13 _ _ x13_13 _ _ l5 t131 t132 _ ?side1 ?side2 ?side3 ?side4 A47.out).mono ?_); (case side1 => repeat (first | exact (Kd.R_reads' HO_13.out).2.2 | (with_reducible refine Kd.C_alloc ?_ _) | (with_reducible refine Kd.C_drewN ?_ _) | (with_reducible refine Kd.C_drew ?_))); (case side2 => exact (Kd.R_reads' HO_13.out).2.1); (case side3 => repeat (first | exact (Kd.C_below HR5.out HB.out) | (with_reducible refine Kd.C_alloc ?_ _) | (with_reducible refine Kd.C_drewN ?_ _) | (with_reducible refine Kd.C_drew ?_))); (case side4 => exact HC5.out); rintro e w59 ⟨v133, rfl, ho0, hb⟩; refine ⟨_, rfl, ?_⟩; have n0_ := Aside0.mk (Kd.R_below (by (with_reducible repeat (first | apply Kd.R_alloc | apply Kd.R_drewN | apply Kd.R_drew)); exact HO_13.out) hb); have n1_ := Aside0.mk (Kd.R_elder' (by (with_reducible repeat (first | apply Kd.R_alloc | apply Kd.R_drewN | apply Kd.R_drew)); exact HO130.out) (Kd.R_base ho0) hb); have n2_ := Aside0.mk (Kd.R_lower (Kd.R_new' ho0 (Kd.R_lt (by (with_reducible repeat (first | apply Kd.R_alloc | apply Kd.R_drewN | apply Kd.R_drew)); exact HO130.out))) (below_size (by repeat (first | (with_reducible first | exact HB.out | apply below_alloc | apply pw_below_drewN | apply below_drew1) | exact HB.out)))); have n3_ := Aside0.mk (below_step (by repeat (first | (with_reducible first | exact HB.out | apply below_alloc | apply pw_below_drewN | apply below_drew1) | exact HB.out)) hb); clear HO_13; clear HO130; clear HB; have HO_13 := n0_; have HO130 := n1_; have HO134 := n2_; have HB := n3_; clear n0_ n1_ n2_ n3_; (try clear hb); (try clear hb2); (try clear hk); (try clear hi); (try clear ho0); obtain ⟨Ao60, co60, eo60⟩ := Kd.R_slice HO130.out; subst eo60; obtain ⟨Ao61, co61, eo61⟩ := Kd.R_slice HO134.out; subst eo61) | (go_at_call 25; (with_reducible refine (tenorlaw25_same.calls kj13 _ _ t127 _ _ t131 true _ ?side1 ?side2 ?side3 ?side4 A49.out).mono ?_); (case side1 => repeat (first | exact (Kd.R_reads' HO130.out).2.2 | (with_reducible refine Kd.C_alloc ?_ _) | (with_reducible refine Kd.C_drewN ?_ _) | (with_reducible refine Kd.C_drew ?_))); (case side2 => exact (Kd.R_reads' HO130.out).2.1); (case side3 => repeat (first | exact (Kd.R_reads' HO134.out).2.2 | (with_reducible refine Kd.C_alloc ?_ _) | (with_reducible refine Kd.C_drewN ?_ _) | (with_reducible refine Kd.C_drew ?_))); (case side4 => exact (Kd.R_reads' HO134.out).2.1); rintro e w' ⟨rfl, ⟨nd, rfl⟩⟩))
          (try simp only [Act.put, List.setIfInBounds_toArray, List.set_cons_zero, List.set_cons_succ])
          go_cut [] (fun wc => ∃ (kq : Nat), Aside0 (tenorlaw25_GridParts.j4 kq l0 a2 a3 a4 t113 t114 t117 t118 t121 t122 = some r) ∧ Aside0 (kq ≤ kj13) ∧ Aside0 (Below w.heap.size w wc))
          case first =>
            have H := HC51.out
            clear HC51
            by_cases c62 : t128 = 0
            rotate_left
            · rw [if_neg c62] at H
              have c62b0 : (t128 == 0) = false := beq_eq_false_iff_ne.mpr c62
              have c62b1 : (t128 != 0) = true := bne_iff_ne.mpr c62
              (first | rw [c62b0] | (simp only [i64_w, i32_w]; rw [c62b0]) | skip)
              have H' := Aside0.mk H
              clear H
              go_wp2
              go_meet
              case rel => exact ⟨_, H', ⟨by have := HJ6.out; have := HJ13.out; first | omega | exact Nat.le_refl _⟩, ⟨by repeat (first | (with_reducible first | exact HB.out | apply below_alloc | apply pw_below_drewN | apply below_drew1) | exact HB.out)⟩⟩
            rw [if_pos c62] at H
            have c62b0 : (t128 == 0) = true := beq_iff_eq.mpr c62
            have c62b1 : (t128 != 0) = false := bne_eq_false_iff_eq.mpr c62
            clear c62
            (first | rw [c62b0] | (simp only [i64_w, i32_w]; rw [c62b0]) | skip)
            have H' := Aside0.mk H
            clear H
            go_wp2
            go_loopg [30, 31] kj13 (fun kq v30 v31 w' => ∃ (x30_3 : Int) (x31_3 : Int), v30 = .int .i64 x30_3 ∧ v31 = .int .i64 x31_3 ∧ Aside0 (tenorlaw25_GridParts.l1 kq l0 a2 a3 a4 t113 t114 t117 t118 t121 t122 t127 x30_3 x31_3 = some r) ∧ Aside0 (kq ≤ kj13) ∧ Aside0 (Kd.R (Kd.int .i64) 3 w' w.heap.size (fun _ => True) (.slice Ao60 t127.length co60) t127) ∧ Aside0 (Below w.heap.size w w'))
            case atStart => exact ⟨(0), (0), (by first | rfl | (simp; done) | (simp [*]; done)), (by first | rfl | (simp; done) | (simp [*]; done)), H', ⟨Nat.le_refl _⟩, ⟨by (with_reducible repeat (first | apply Kd.R_alloc | apply Kd.R_drewN | apply Kd.R_drew)); exact Kd.R_mono HO130.out (fun _ hk => trivial)⟩, ⟨by repeat (first | (with_reducible first | exact HB.out | apply below_alloc | apply pw_below_drewN | apply below_drew1) | exact HB.out)⟩⟩
            case round => as_aux_lemma =>
              clear H'
              try clear c1
              try clear p1
              try clear q1
              try clear hx1
              try clear c2
              try clear p2
              try clear q2
              try clear hx2
              try clear c3
              try clear c4
              try clear c5
              try clear c6
              try clear p6
              try clear c7
              try clear c8
              try clear c8b0
              try clear c8b1
              try clear c9
              try clear c9b0
              try clear c9b1
              try clear c9b2
              try clear c10
              try clear p10
              try clear q10
              try clear hx10
              try clear p11
              try clear q11
              try clear hx11
              try clear c13
              try clear c18
              try clear c18b0
              try clear c19
              try clear c19b0
              try clear c20
              try clear c20b0
              try clear c21
              try clear c21b0
              try clear c21b1
              try clear c21b2
              try clear c22
              try clear c23
              try clear c23b0
              try clear c24
              try clear c24b0
              try clear p25
              try clear q25
              try clear hx25
              try clear hf25
              try clear c26
              try clear p26
              try clear q26
              try clear hx26
              try clear hf26
              try clear c27
              try clear c36
              try clear c36b0
              try clear c36b1
              try clear c39
              try clear c39b0
              try clear c39b1
              try clear c42
              try clear c42b0
              try clear c42b1
              try clear c45
              try clear c45b0
              try clear c45b1
              try clear c48
              try clear c48b0
              try clear c48b1
              try clear c50
              try clear c62
              try clear c62b0
              try clear c62b1
              try clear hx108_0
              try clear hx109_0
              try clear hx110_0
              try clear hx25_0
              try clear hx26_0
              try clear p1
              try clear p10
              try clear p108
              try clear p109
              try clear p11
              try clear p110
              try clear p2
              try clear p25
              try clear p26
              try clear p6
              try clear q1
              try clear q10
              try clear q108
              try clear q109
              try clear q11
              try clear q110
              try clear q2
              try clear q25
              try clear q26
              obtain ⟨x30_3, x31_3, rfl, rfl, HA, HK3, HO_26, HB⟩ := hrel
              cases gk with
              | zero => exact absurd HA.out (by simp [tenorlaw25_GridParts.l1])
              | succ k3 =>
                have H := HA.out
                clear HA
                simp only [tenorlaw25_GridParts.l1] at H
                by_cases c63 : x31_3 < (t127.length : Int)
                rotate_left
                · rw [if_neg c63] at H
                  have c63b0 : decide (x31_3 < (t127.length : Int)) = false := decide_eq_false c63
                  clear c63
                  by_cases c65 : x30_3 = (l0.length : Int)
                  rotate_left
                  · rw [if_neg c65] at H
                    exact absurd H (by simp)
                  rw [if_pos c65] at H
                  have c65b0 : (x30_3 == (l0.length : Int)) = true := beq_iff_eq.mpr c65
                  have c65b1 : (x30_3 != (l0.length : Int)) = false := bne_eq_false_iff_eq.mpr c65
                  clear c65
                  have H' := Aside0.mk H
                  clear H
                  go_wp2
                  go_meet
                  case rel => exact ⟨_, H', ⟨by have := HJ6.out; have := HJ13.out; have := HK3.out; first | omega | exact Nat.le_refl _⟩, ⟨by repeat (first | (with_reducible first | exact HB.out | apply below_alloc | apply pw_below_drewN | apply below_drew1) | exact HB.out)⟩⟩
                rw [if_pos c63] at H
                have c63b0 : decide (x31_3 < (t127.length : Int)) = true := decide_eq_true c63
                clear c63
                by_cases c64 : 0 ≤ x31_3
                rotate_left
                · rw [if_neg c64] at H
                  exact absurd H (by simp)
                rw [if_pos c64] at H
                have c64b0 : decide (0 ≤ x31_3) = true := decide_eq_true c64
                clear c64
                have H' := Aside0.mk H
                clear H
                have p136 : 0 ≤ (x31_3 : Int) := of_decide_eq_true (by first | (with_reducible assumption) | assumption)
                have q136 : x31_3 < (t127.length : Int) := of_decide_eq_true (by first | (with_reducible assumption) | assumption)
                obtain ⟨ad136, e136, hx136_0⟩ := Kd.at_int (Kd.R_reads' HO_26.out).2.2 x31_3 p136 q136
                cases e136
                replace p136 := eq_true p136
                replace q136 := eq_true q136
                go_wp2
                go_roundg k3
                case measure => have := HJ6.out; have := HJ13.out; have := HK3.out; omega
                case rel => exact ⟨(wrap64 (x30_3 + (rd t127 x31_3))), (wrap64 (x31_3 + 1)), (by first | rfl | (simp; done) | (simp [*]; done)), (by first | rfl | (simp; done) | (simp [*]; done)), H', ⟨by have := HJ6.out; have := HJ13.out; have := HK3.out; omega⟩, ⟨by (with_reducible repeat (first | apply Kd.R_alloc | apply Kd.R_drewN | apply Kd.R_drew)); exact HO_26.out⟩, ⟨by repeat (first | (with_reducible first | exact HB.out | apply below_alloc | apply pw_below_drewN | apply below_drew1) | exact HB.out)⟩⟩
          case rest => as_aux_lemma =>
            clear HC51
            try clear c1
            try clear p1
            try clear q1
            try clear hx1
            try clear c2
            try clear p2
            try clear q2
            try clear hx2
            try clear c3
            try clear c4
            try clear c5
            try clear c6
            try clear p6
            try clear c7
            try clear c8
            try clear c8b0
            try clear c8b1
            try clear c9
            try clear c9b0
            try clear c9b1
            try clear c9b2
            try clear c10
            try clear p10
            try clear q10
            try clear hx10
            try clear p11
            try clear q11
            try clear hx11
            try clear c13
            try clear p13
            try clear q13
            try clear hx13
            try clear c18
            try clear c18b0
            try clear c19
            try clear c19b0
            try clear c20
            try clear c20b0
            try clear c21
            try clear c21b0
            try clear c21b1
            try clear c21b2
            try clear c22
            try clear c23
            try clear c23b0
            try clear c24
            try clear c24b0
            try clear p25
            try clear q25
            try clear hx25
            try clear hf25
            try clear c26
            try clear p26
            try clear q26
            try clear hx26
            try clear hf26
            try clear c27
            try clear c36
            try clear c36b0
            try clear c36b1
            try clear c39
            try clear c39b0
            try clear c39b1
            try clear c42
            try clear c42b0
            try clear c42b1
            try clear c45
            try clear c45b0
            try clear c45b1
            try clear c48
            try clear c48b0
            try clear c48b1
            try clear c50
            try clear c62
            try clear c62b0
            try clear c62b1
            try clear c63
            try clear c63b0
            try clear c64
            try clear c64b0
            try clear p64
            try clear c65
            try clear c65b0
            try clear c65b1
            try clear hx108_0
            try clear hx109_0
            try clear hx110_0
            try clear hx136_0
            try clear hx25_0
            try clear hx26_0
            try clear p1
            try clear p10
            try clear p108
            try clear p109
            try clear p11
            try clear p110
            try clear p136
            try clear p2
            try clear p25
            try clear p26
            try clear p6
            try clear q1
            try clear q10
            try clear q108
            try clear q109
            try clear q11
            try clear q110
            try clear q136
            try clear q2
            try clear q25
            try clear q26
            obtain ⟨kq, HA, HJ50, HB⟩ := hcut
            cases kq with
            | zero => exact absurd HA.out (by simp [tenorlaw25_GridParts.j4])
            | succ kj50 =>
              have H := HA.out
              clear HA
              simp only [tenorlaw25_GridParts.j4] at H
              have HC66 := Aside0.mk H
              clear H
              go_upto_region 30 with (fail)
              go_cut [201] (fun v201 wc => ∃ (kq : Nat) (x201_65 : Bool), v201 = .bool x201_65 ∧ Aside0 (tenorlaw25_GridParts.j5 kq l0 a2 a3 a4 t113 t117 t121 x201_65 = some r) ∧ Aside0 (kq ≤ kj50) ∧ Aside0 (Below w.heap.size w wc))
              case first =>
                have H := HC66.out
                clear HC66
                by_cases c67 : t114 = 0
                rotate_left
                · rw [if_neg c67] at H
                  have c67b0 : (t114 == 0) = false := beq_eq_false_iff_ne.mpr c67
                  have c67b1 : (t114 != 0) = true := bne_iff_ne.mpr c67
                  (first | rw [c67b0] | (simp only [i64_w, i32_w]; rw [c67b0]) | skip)
                  have H' := Aside0.mk H
                  clear H
                  go_wp2
                  go_meet
                  case rel => exact ⟨_, (true), (by first | rfl | (simp; done) | (simp [*]; done)), H', ⟨by have := HJ6.out; have := HJ13.out; have := HJ50.out; first | omega | exact Nat.le_refl _⟩, ⟨by repeat (first | (with_reducible first | exact HB.out | apply below_alloc | apply pw_below_drewN | apply below_drew1) | exact HB.out)⟩⟩
                rw [if_pos c67] at H
                have c67b0 : (t114 == 0) = true := beq_iff_eq.mpr c67
                have c67b1 : (t114 != 0) = false := bne_eq_false_iff_eq.mpr c67
                clear c67
                (first | rw [c67b0] | (simp only [i64_w, i32_w]; rw [c67b0]) | skip)
                by_cases c68 : t118 = 0
                rotate_left
                · rw [if_neg c68] at H
                  have c68b0 : (t118 == 0) = false := beq_eq_false_iff_ne.mpr c68
                  have c68b1 : (t118 != 0) = true := bne_iff_ne.mpr c68
                  have H' := Aside0.mk H
                  clear H
                  go_wp2
                  go_meet
                  case rel => exact ⟨_, (true), (by first | rfl | (simp; done) | (simp [*]; done)), H', ⟨by have := HJ6.out; have := HJ13.out; have := HJ50.out; first | omega | exact Nat.le_refl _⟩, ⟨by repeat (first | (with_reducible first | exact HB.out | apply below_alloc | apply pw_below_drewN | apply below_drew1) | exact HB.out)⟩⟩
                rw [if_pos c68] at H
                have c68b0 : (t118 == 0) = true := beq_iff_eq.mpr c68
                have c68b1 : (t118 != 0) = false := bne_eq_false_iff_eq.mpr c68
                clear c68
                have H' := Aside0.mk H
                clear H
                go_wp2
                go_meet
                case rel => exact ⟨_, ((t122 != 0)), (by first | rfl | (simp; done) | (simp [*]; done)), H', ⟨by have := HJ6.out; have := HJ13.out; have := HJ50.out; first | omega | exact Nat.le_refl _⟩, ⟨by repeat (first | (with_reducible first | exact HB.out | apply below_alloc | apply pw_below_drewN | apply below_drew1) | exact HB.out)⟩⟩
              case rest => as_aux_lemma =>
                clear HC66
                try clear c1
                try clear p1
                try clear q1
                try clear hx1
                try clear c2
                try clear p2
                try clear q2
                try clear hx2
                try clear c3
                try clear c4
                try clear c5
                try clear c6
                try clear p6
                try clear c7
                try clear c8
                try clear c8b0
                try clear c8b1
                try clear c9
                try clear c9b0
                try clear c9b1
                try clear c9b2
                try clear c10
                try clear p10
                try clear q10
                try clear hx10
                try clear p11
                try clear q11
                try clear hx11
                try clear c13
                try clear p13
                try clear q13
                try clear hx13
                try clear c18
                try clear c18b0
                try clear c19
                try clear c19b0
                try clear c20
                try clear c20b0
                try clear c21
                try clear c21b0
                try clear c21b1
                try clear c21b2
                try clear c22
                try clear c23
                try clear c23b0
                try clear c24
                try clear c24b0
                try clear p25
                try clear q25
                try clear hx25
                try clear hf25
                try clear c26
                try clear p26
                try clear q26
                try clear hx26
                try clear hf26
                try clear c27
                try clear c36
                try clear c36b0
                try clear c36b1
                try clear c39
                try clear c39b0
                try clear c39b1
                try clear c42
                try clear c42b0
                try clear c42b1
                try clear c45
                try clear c45b0
                try clear c45b1
                try clear c48
                try clear c48b0
                try clear c48b1
                try clear c50
                try clear c62
                try clear c62b0
                try clear c62b1
                try clear c63
                try clear c63b0
                try clear c64
                try clear c64b0
                try clear p64
                try clear c65
                try clear c65b0
                try clear c65b1
                try clear c67
                try clear c67b0
                try clear c67b1
                try clear c68
                try clear c68b0
                try clear c68b1
                try clear hx108_0
                try clear hx109_0
                try clear hx110_0
                try clear hx136_0
                try clear hx25_0
                try clear hx26_0
                try clear p1
                try clear p10
                try clear p108
                try clear p109
                try clear p11
                try clear p110
                try clear p13
                try clear p136
                try clear p2
                try clear p25
                try clear p26
                try clear p6
                try clear p64
                try clear q1
                try clear q10
                try clear q108
                try clear q109
                try clear q11
                try clear q110
                try clear q13
                try clear q136
                try clear q2
                try clear q25
                try clear q26
                obtain ⟨kq, x201_65, rfl, HA, HJ65, HB⟩ := hcut
                cases kq with
                | zero => exact absurd HA.out (by simp [tenorlaw25_GridParts.j5])
                | succ kj65 =>
                  have H := HA.out
                  clear HA
                  simp only [tenorlaw25_GridParts.j5] at H
                  by_cases c69 : x201_65 = true
                  · subst c69
                    have H1 : ((law25_awake.f).bind fun t137 => (some t137)) = some r := by rw [if_pos rfl] at H; exact H
                    clear H
                    have H := H1
                    clear H1
                    replace H := Option.bind_eq_some_iff.mp H
                    obtain ⟨t137, A700, H⟩ := H
                    replace H : (some t137) = some r := H
                    have A70 := Aside0.mk A700
                    clear A700
                    obtain rfl := Option.some.inj H
                    go_wp2_with (first | ((with_reducible refine gate_callee (f := 21) rfl ?_); refine goesL_ (some 202) rfl rfl Try.func21 (by kernel_rfl) rfl #[] rfl (by (try simp only [List.map_toArray, List.map_cons, List.map_nil]); first | done | rfl | (simp only [List.length_drop, List.length_take]; rfl)) ?_; (with_reducible refine (law25_awake.calls  t137 _ A70.out).mono ?_); rintro e w71 ⟨rfl, hb⟩; refine ⟨_, rfl, ?_⟩; have n0_ := Aside0.mk (below_step (by repeat (first | (with_reducible first | exact HB.out | apply below_alloc | apply pw_below_drewN | apply below_drew1) | exact HB.out)) hb); clear HB; have HB := n0_; clear n0_; (try clear hb); (try clear hb2); (try clear hk); (try clear hi)))
                    go_ret
                    exact ⟨by first | rfl | (simp [errW_none, errW_some] <;> rfl) | (simp [*, errW_none, errW_some] <;> rfl), by repeat (first | (with_reducible first | exact HB.out | apply below_alloc | apply pw_below_drewN | apply below_drew1) | exact HB.out)⟩
                  replace c69 := Bool.eq_false_iff.mpr c69
                  subst c69
                  have H1 : ((grid_Quantile.f kj65 l0 0 1).bind fun bt138 => ((grid_Quantile.f kj65 l0 1 1).bind fun bt140 => (tenorlaw25_GridParts.l2 kj65 l0 a2 a3 a4 t113 t117 t121 bt138.1 bt138.2 bt140.1 bt140.2 0 0))) = some r := by rw [if_neg (show ¬ (false = true) by decide)] at H; exact H
                  clear H
                  have H := H1
                  clear H1
                  replace H := Option.bind_eq_some_iff.mp H
                  obtain ⟨⟨t138, t139⟩, A720, H⟩ := H
                  replace H : ((grid_Quantile.f kj65 l0 1 1).bind fun bt140 => (tenorlaw25_GridParts.l2 kj65 l0 a2 a3 a4 t113 t117 t121 t138 t139 bt140.1 bt140.2 0 0)) = some r := H
                  have A72 := Aside0.mk A720
                  clear A720
                  replace H := Option.bind_eq_some_iff.mp H
                  obtain ⟨⟨t140, t141⟩, A730, H⟩ := H
                  replace H : (tenorlaw25_GridParts.l2 kj65 l0 a2 a3 a4 t113 t117 t121 t138 t139 t140 t141 0 0) = some r := H
                  have A73 := Aside0.mk A730
                  clear A730
                  have H' := Aside0.mk H
                  clear H
                  go_wp2_with (first | ((with_reducible refine gate_callee (f := 26) rfl ?_); refine goesL_ (some 205) rfl rfl Try.func26 (by kernel_rfl) rfl #[.slice A0 l0.length c0, .int .i64 0, .int .i64 1] rfl (by (try simp only [List.map_toArray, List.map_cons, List.map_nil]); first | done | rfl | (simp only [List.length_drop, List.length_take]; rfl)) ?_; (with_reducible refine (grid_Quantile.calls kj65 _ _ l0 0 1 t138 t139 _ ?side1 ?side2 A72.out).mono ?_); (case side1 => repeat (first | exact (Kd.C_below HR0.out HB.out) | (with_reducible refine Kd.C_alloc ?_ _) | (with_reducible refine Kd.C_drewN ?_ _) | (with_reducible refine Kd.C_drew ?_))); (case side2 => exact HC0.out); rintro e w74 ⟨rfl, hb⟩; refine ⟨_, rfl, ?_⟩; have n0_ := Aside0.mk (below_step (by repeat (first | (with_reducible first | exact HB.out | apply below_alloc | apply pw_below_drewN | apply below_drew1) | exact HB.out)) hb); clear HB; have HB := n0_; clear n0_; (try clear hb); (try clear hb2); (try clear hk); (try clear hi)) | ((with_reducible refine gate_callee (f := 26) rfl ?_); refine goesL_ (some 210) rfl rfl Try.func26 (by kernel_rfl) rfl #[.slice A0 l0.length c0, .int .i64 1, .int .i64 1] rfl (by (try simp only [List.map_toArray, List.map_cons, List.map_nil]); first | done | rfl | (simp only [List.length_drop, List.length_take]; rfl)) ?_; (with_reducible refine (grid_Quantile.calls kj65 _ _ l0 1 1 t140 t141 _ ?side1 ?side2 A73.out).mono ?_); (case side1 => repeat (first | exact (Kd.C_below HR0.out HB.out) | (with_reducible refine Kd.C_alloc ?_ _) | (with_reducible refine Kd.C_drewN ?_ _) | (with_reducible refine Kd.C_drew ?_))); (case side2 => exact HC0.out); rintro e w75 ⟨rfl, hb⟩; refine ⟨_, rfl, ?_⟩; have n0_ := Aside0.mk (below_step (by repeat (first | (with_reducible first | exact HB.out | apply below_alloc | apply pw_below_drewN | apply below_drew1) | exact HB.out)) hb); clear HB; have HB := n0_; clear n0_; (try clear hb); (try clear hb2); (try clear hk); (try clear hi)))
                  go_loopg [36, 37] kj65 (fun kq v36 v37 w' => ∃ (x36_5 : Int) (x37_5 : Int), v36 = .int .i64 x36_5 ∧ v37 = .int .i64 x37_5 ∧ Aside0 (tenorlaw25_GridParts.l2 kq l0 a2 a3 a4 t113 t117 t121 t138 t139 t140 t141 x36_5 x37_5 = some r) ∧ Aside0 (kq ≤ kj65) ∧ Aside0 (Below w.heap.size w w'))
                  case atStart => exact ⟨(0), (0), (by first | rfl | (simp; done) | (simp [*]; done)), (by first | rfl | (simp; done) | (simp [*]; done)), H', ⟨Nat.le_refl _⟩, ⟨by repeat (first | (with_reducible first | exact HB.out | apply below_alloc | apply pw_below_drewN | apply below_drew1) | exact HB.out)⟩⟩
                  case round => as_aux_lemma =>
                    clear H'
                    try clear c1
                    try clear p1
                    try clear q1
                    try clear hx1
                    try clear c2
                    try clear p2
                    try clear q2
                    try clear hx2
                    try clear c3
                    try clear c4
                    try clear c5
                    try clear c6
                    try clear p6
                    try clear c7
                    try clear c8
                    try clear c8b0
                    try clear c8b1
                    try clear c9
                    try clear c9b0
                    try clear c9b1
                    try clear c9b2
                    try clear c10
                    try clear p10
                    try clear q10
                    try clear hx10
                    try clear p11
                    try clear q11
                    try clear hx11
                    try clear c13
                    try clear p13
                    try clear q13
                    try clear hx13
                    try clear c18
                    try clear c18b0
                    try clear c19
                    try clear c19b0
                    try clear c20
                    try clear c20b0
                    try clear c21
                    try clear c21b0
                    try clear c21b1
                    try clear c21b2
                    try clear c22
                    try clear c23
                    try clear c23b0
                    try clear c24
                    try clear c24b0
                    try clear p25
                    try clear q25
                    try clear hx25
                    try clear hf25
                    try clear c26
                    try clear p26
                    try clear q26
                    try clear hx26
                    try clear hf26
                    try clear c27
                    try clear c36
                    try clear c36b0
                    try clear c36b1
                    try clear c39
                    try clear c39b0
                    try clear c39b1
                    try clear c42
                    try clear c42b0
                    try clear c42b1
                    try clear c45
                    try clear c45b0
                    try clear c45b1
                    try clear c48
                    try clear c48b0
                    try clear c48b1
                    try clear c50
                    try clear c62
                    try clear c62b0
                    try clear c62b1
                    try clear c63
                    try clear c63b0
                    try clear c64
                    try clear c64b0
                    try clear p64
                    try clear c65
                    try clear c65b0
                    try clear c65b1
                    try clear c67
                    try clear c67b0
                    try clear c67b1
                    try clear c68
                    try clear c68b0
                    try clear c68b1
                    try clear c69
                    try clear hx108_0
                    try clear hx109_0
                    try clear hx110_0
                    try clear hx136_0
                    try clear hx25_0
                    try clear hx26_0
                    try clear p1
                    try clear p10
                    try clear p108
                    try clear p109
                    try clear p11
                    try clear p110
                    try clear p13
                    try clear p136
                    try clear p2
                    try clear p25
                    try clear p26
                    try clear p6
                    try clear p64
                    try clear q1
                    try clear q10
                    try clear q108
                    try clear q109
                    try clear q11
                    try clear q110
                    try clear q13
                    try clear q136
                    try clear q2
                    try clear q25
                    try clear q26
                    obtain ⟨x36_5, x37_5, rfl, rfl, HA, HK5, HB⟩ := hrel
                    cases gk with
                    | zero => exact absurd HA.out (by simp [tenorlaw25_GridParts.l2])
                    | succ k5 =>
                      have H := HA.out
                      clear HA
                      simp only [tenorlaw25_GridParts.l2] at H
                      by_cases c76 : x37_5 < (l0.length : Int)
                      rotate_left
                      · rw [if_neg c76] at H
                        have c76b0 : decide (x37_5 < (l0.length : Int)) = false := decide_eq_false c76
                        clear c76
                        by_cases c83 : t139 = 0
                        rotate_left
                        · rw [if_neg c83] at H
                          exact absurd H (by simp)
                        rw [if_pos c83] at H
                        have c83b0 : (t139 == 0) = true := beq_iff_eq.mpr c83
                        have c83b1 : (t139 != 0) = false := bne_eq_false_iff_eq.mpr c83
                        clear c83
                        by_cases c84 : t141 = 0
                        rotate_left
                        · rw [if_neg c84] at H
                          exact absurd H (by simp)
                        rw [if_pos c84] at H
                        have c84b0 : (t141 == 0) = true := beq_iff_eq.mpr c84
                        have c84b1 : (t141 != 0) = false := bne_eq_false_iff_eq.mpr c84
                        clear c84
                        by_cases c85 : (FloatKind.f64.format.order t138 t121 == some .lt || FloatKind.f64.format.order t138 t121 == some .eq) = true
                        rotate_left
                        · rw [if_neg c85] at H
                          exact absurd H (by simp)
                        rw [if_pos c85] at H
                        have c85b0 : (FloatKind.f64.format.order t138 t121 == some .lt || FloatKind.f64.format.order t138 t121 == some .eq) = true := c85
                        (try (have c85b1 : decide (FloatKind.f64.format.order t138 t121 = some .lt || FloatKind.f64.format.order t138 t121 == some .eq) = true := by simpa using c85))
                        (try (have c85b2 : (FloatKind.f64.format.order t138 t121 == some .lt || FloatKind.f64.format.order t138 t121 == some .eq) = true := by simpa using c85))
                        clear c85
                        by_cases c86 : (FloatKind.f64.format.order t121 t140 == some .lt || FloatKind.f64.format.order t121 t140 == some .eq) = true
                        rotate_left
                        · rw [if_neg c86] at H
                          exact absurd H (by simp)
                        rw [if_pos c86] at H
                        have c86b0 : (FloatKind.f64.format.order t121 t140 == some .lt || FloatKind.f64.format.order t121 t140 == some .eq) = true := c86
                        (try (have c86b1 : decide (FloatKind.f64.format.order t121 t140 = some .lt || FloatKind.f64.format.order t121 t140 == some .eq) = true := by simpa using c86))
                        (try (have c86b2 : (FloatKind.f64.format.order t121 t140 == some .lt || FloatKind.f64.format.order t121 t140 == some .eq) = true := by simpa using c86))
                        clear c86
                        by_cases c87 : (FloatKind.f64.format.order t138 t113 == some .lt || FloatKind.f64.format.order t138 t113 == some .eq) = true
                        rotate_left
                        · rw [if_neg c87] at H
                          exact absurd H (by simp)
                        rw [if_pos c87] at H
                        have c87b0 : (FloatKind.f64.format.order t138 t113 == some .lt || FloatKind.f64.format.order t138 t113 == some .eq) = true := c87
                        (try (have c87b1 : decide (FloatKind.f64.format.order t138 t113 = some .lt || FloatKind.f64.format.order t138 t113 == some .eq) = true := by simpa using c87))
                        (try (have c87b2 : (FloatKind.f64.format.order t138 t113 == some .lt || FloatKind.f64.format.order t138 t113 == some .eq) = true := by simpa using c87))
                        clear c87
                        by_cases c88 : (FloatKind.f64.format.order t113 t140 == some .lt || FloatKind.f64.format.order t113 t140 == some .eq) = true
                        rotate_left
                        · rw [if_neg c88] at H
                          exact absurd H (by simp)
                        rw [if_pos c88] at H
                        have c88b0 : (FloatKind.f64.format.order t113 t140 == some .lt || FloatKind.f64.format.order t113 t140 == some .eq) = true := c88
                        (try (have c88b1 : decide (FloatKind.f64.format.order t113 t140 = some .lt || FloatKind.f64.format.order t113 t140 == some .eq) = true := by simpa using c88))
                        (try (have c88b2 : (FloatKind.f64.format.order t113 t140 == some .lt || FloatKind.f64.format.order t113 t140 == some .eq) = true := by simpa using c88))
                        clear c88
                        by_cases c89 : (wrap64 (x36_5 * a4)) ≥ (wrap64 ((l0.length : Int) * a2))
                        rotate_left
                        · rw [if_neg c89] at H
                          exact absurd H (by simp)
                        rw [if_pos c89] at H
                        have c89b0 : decide ((wrap64 ((l0.length : Int) * a2)) ≤ (wrap64 (x36_5 * a4))) = true := decide_eq_true c89
                        clear c89
                        by_cases c90 : a2 > a3
                        · rw [if_pos c90] at H
                          have c90b0 : decide (a3 < a2) = true := decide_eq_true c90
                          clear c90
                          replace H := Option.bind_eq_some_iff.mp H
                          obtain ⟨t142, A910, H⟩ := H
                          replace H : (some t142) = some r := H
                          have A91 := Aside0.mk A910
                          clear A910
                          obtain rfl := Option.some.inj H
                          go_wp2_with (first | (go_at_call 21; (with_reducible refine (law25_awake.calls  t142 _ A91.out).mono ?_); rintro e w92 ⟨rfl, hb⟩; have n0_ := Aside0.mk (below_step (by repeat (first | (with_reducible first | exact HB.out | apply below_alloc | apply pw_below_drewN | apply below_drew1) | exact HB.out)) hb); clear HB; have HB := n0_; clear n0_; (try clear hb); (try clear hb2); (try clear hk); (try clear hi)))
                          go_ret
                          exact ⟨by first | rfl | (simp [errW_none, errW_some] <;> rfl) | (simp [*, errW_none, errW_some] <;> rfl), by repeat (first | (with_reducible first | exact HB.out | apply below_alloc | apply pw_below_drewN | apply below_drew1) | exact HB.out)⟩
                        rw [if_neg c90] at H
                        have c90b0 : decide (a3 < a2) = false := decide_eq_false c90
                        clear c90
                        by_cases c93 : (FloatKind.f64.format.order t113 t117 == some .lt || FloatKind.f64.format.order t113 t117 == some .eq) = true
                        rotate_left
                        · rw [if_neg c93] at H
                          exact absurd H (by simp)
                        rw [if_pos c93] at H
                        have c93b0 : (FloatKind.f64.format.order t113 t117 == some .lt || FloatKind.f64.format.order t113 t117 == some .eq) = true := c93
                        (try (have c93b1 : decide (FloatKind.f64.format.order t113 t117 = some .lt || FloatKind.f64.format.order t113 t117 == some .eq) = true := by simpa using c93))
                        (try (have c93b2 : (FloatKind.f64.format.order t113 t117 == some .lt || FloatKind.f64.format.order t113 t117 == some .eq) = true := by simpa using c93))
                        clear c93
                        replace H := Option.bind_eq_some_iff.mp H
                        obtain ⟨t143, A940, H⟩ := H
                        replace H : (some t143) = some r := H
                        have A94 := Aside0.mk A940
                        clear A940
                        obtain rfl := Option.some.inj H
                        go_wp2_with (first | (go_at_call 21; (with_reducible refine (law25_awake.calls  t143 _ A94.out).mono ?_); rintro e w95 ⟨rfl, hb⟩; have n0_ := Aside0.mk (below_step (by repeat (first | (with_reducible first | exact HB.out | apply below_alloc | apply pw_below_drewN | apply below_drew1) | exact HB.out)) hb); clear HB; have HB := n0_; clear n0_; (try clear hb); (try clear hb2); (try clear hk); (try clear hi)))
                        go_ret
                        exact ⟨by first | rfl | (simp [errW_none, errW_some] <;> rfl) | (simp [*, errW_none, errW_some] <;> rfl), by repeat (first | (with_reducible first | exact HB.out | apply below_alloc | apply pw_below_drewN | apply below_drew1) | exact HB.out)⟩
                      rw [if_pos c76] at H
                      have c76b0 : decide (x37_5 < (l0.length : Int)) = true := decide_eq_true c76
                      clear c76
                      by_cases c77 : 0 ≤ x37_5
                      rotate_left
                      · rw [if_neg c77] at H
                        exact absurd H (by simp)
                      rw [if_pos c77] at H
                      have c77b0 : decide (0 ≤ x37_5) = true := decide_eq_true c77
                      clear c77
                      by_cases c78 : (FloatKind.f64.format.order (rdOf (0 : Nat) l0 x37_5) t113 == some .lt || FloatKind.f64.format.order (rdOf (0 : Nat) l0 x37_5) t113 == some .eq) = true
                      · rw [if_pos c78] at H
                        have c78b0 : (FloatKind.f64.format.order (rdOf (0 : Nat) l0 x37_5) t113 == some .lt || FloatKind.f64.format.order (rdOf (0 : Nat) l0 x37_5) t113 == some .eq) = true := c78
                        (try (have c78b1 : decide (FloatKind.f64.format.order (rdOf (0 : Nat) l0 x37_5) t113 = some .lt || FloatKind.f64.format.order (rdOf (0 : Nat) l0 x37_5) t113 == some .eq) = true := by simpa using c78))
                        (try (have c78b2 : (FloatKind.f64.format.order (rdOf (0 : Nat) l0 x37_5) t113 == some .lt || FloatKind.f64.format.order (rdOf (0 : Nat) l0 x37_5) t113 == some .eq) = true := by simpa using c78))
                        clear c78
                        by_cases c79 : (FloatKind.f64.format.order (rdOf (0 : Nat) l0 x37_5) t138 == some .lt) = true
                        · rw [if_pos c79] at H
                          exact absurd H (by simp)
                        · rw [if_neg c79] at H
                          have c79b0 : (FloatKind.f64.format.order (rdOf (0 : Nat) l0 x37_5) t138 == some .lt) = false := by simpa using c79
                          (try (have c79b1 : decide (FloatKind.f64.format.order (rdOf (0 : Nat) l0 x37_5) t138 = some .lt) = false := by simpa using c79))
                          (try (have c79b2 : (FloatKind.f64.format.order (rdOf (0 : Nat) l0 x37_5) t138 == some .lt) = false := by simpa using c79))
                          (try (have c79b3 : ¬ (FloatKind.f64.format.order (rdOf (0 : Nat) l0 x37_5) t138 = some .lt) := by simpa using c79))
                          clear c79
                          by_cases c80 : (FloatKind.f64.format.order (rdOf (0 : Nat) l0 x37_5) t140 == some .gt) = true
                          · rw [if_pos c80] at H
                            exact absurd H (by simp)
                          · rw [if_neg c80] at H
                            have c80b0 : (FloatKind.f64.format.order (rdOf (0 : Nat) l0 x37_5) t140 == some .gt) = false := by simpa using c80
                            (try (have c80b1 : decide (FloatKind.f64.format.order (rdOf (0 : Nat) l0 x37_5) t140 = some .gt) = false := by simpa using c80))
                            (try (have c80b2 : (FloatKind.f64.format.order (rdOf (0 : Nat) l0 x37_5) t140 == some .gt) = false := by simpa using c80))
                            (try (have c80b3 : ¬ (FloatKind.f64.format.order (rdOf (0 : Nat) l0 x37_5) t140 = some .gt) := by simpa using c80))
                            clear c80
                            have H' := Aside0.mk H
                            clear H
                            have p144 : 0 ≤ (x37_5 : Int) := of_decide_eq_true (by first | (with_reducible assumption) | assumption)
                            have q144 : x37_5 < (l0.length : Int) := of_decide_eq_true (by first | (with_reducible assumption) | assumption)
                            obtain ⟨ad144, e144, hx144_0⟩ := Kd.at_flt HR0.out x37_5 p144 q144
                            cases e144
                            replace hx144_0 := (HB.out.cell (World.block_lt_of_cell? w _ hx144_0)).trans hx144_0
                            replace p144 := eq_true p144
                            replace q144 := eq_true q144
                            have p145 : 0 ≤ (x37_5 : Int) := of_decide_eq_true (by first | (with_reducible assumption) | assumption)
                            have q145 : x37_5 < (l0.length : Int) := of_decide_eq_true (by first | (with_reducible assumption) | assumption)
                            obtain ⟨ad145, e145, hx145_0⟩ := Kd.at_flt HR0.out x37_5 p145 q145
                            obtain rfl : ad144 = ad145 := (by injection e145)
                            replace hx145_0 := (HB.out.cell (World.block_lt_of_cell? w _ hx145_0)).trans hx145_0
                            replace p145 := eq_true p145
                            replace q145 := eq_true q145
                            have p146 : 0 ≤ (x37_5 : Int) := of_decide_eq_true (by first | (with_reducible assumption) | assumption)
                            have q146 : x37_5 < (l0.length : Int) := of_decide_eq_true (by first | (with_reducible assumption) | assumption)
                            obtain ⟨ad146, e146, hx146_0⟩ := Kd.at_flt HR0.out x37_5 p146 q146
                            obtain rfl : ad144 = ad146 := (by injection e146)
                            replace hx146_0 := (HB.out.cell (World.block_lt_of_cell? w _ hx146_0)).trans hx146_0
                            replace p146 := eq_true p146
                            replace q146 := eq_true q146
                            go_wp2
                            go_roundg k5
                            case measure => have := HJ6.out; have := HJ13.out; have := HJ50.out; have := HJ65.out; have := HK5.out; omega
                            case rel => exact ⟨(wrap64 (x36_5 + 1)), (wrap64 (x37_5 + 1)), (by first | rfl | (simp; done) | (simp [*]; done)), (by first | rfl | (simp; done) | (simp [*]; done)), H', ⟨by have := HJ6.out; have := HJ13.out; have := HJ50.out; have := HJ65.out; have := HK5.out; omega⟩, ⟨by repeat (first | (with_reducible first | exact HB.out | apply below_alloc | apply pw_below_drewN | apply below_drew1) | exact HB.out)⟩⟩
                      rw [if_neg c78] at H
                      have c78b0 : (FloatKind.f64.format.order (rdOf (0 : Nat) l0 x37_5) t113 == some .lt || FloatKind.f64.format.order (rdOf (0 : Nat) l0 x37_5) t113 == some .eq) = false := by simpa using c78
                      (try (have c78b1 : decide (FloatKind.f64.format.order (rdOf (0 : Nat) l0 x37_5) t113 = some .lt || FloatKind.f64.format.order (rdOf (0 : Nat) l0 x37_5) t113 == some .eq) = false := by simpa using c78))
                      (try (have c78b2 : (FloatKind.f64.format.order (rdOf (0 : Nat) l0 x37_5) t113 == some .lt || FloatKind.f64.format.order (rdOf (0 : Nat) l0 x37_5) t113 == some .eq) = false := by simpa using c78))
                      (try (have c78b3 : ¬ (FloatKind.f64.format.order (rdOf (0 : Nat) l0 x37_5) t113 = some .lt || FloatKind.f64.format.order (rdOf (0 : Nat) l0 x37_5) t113 == some .eq) := by simpa using c78))
                      clear c78
                      by_cases c81 : (FloatKind.f64.format.order (rdOf (0 : Nat) l0 x37_5) t138 == some .lt) = true
                      · rw [if_pos c81] at H
                        exact absurd H (by simp)
                      · rw [if_neg c81] at H
                        have c81b0 : (FloatKind.f64.format.order (rdOf (0 : Nat) l0 x37_5) t138 == some .lt) = false := by simpa using c81
                        (try (have c81b1 : decide (FloatKind.f64.format.order (rdOf (0 : Nat) l0 x37_5) t138 = some .lt) = false := by simpa using c81))
                        (try (have c81b2 : (FloatKind.f64.format.order (rdOf (0 : Nat) l0 x37_5) t138 == some .lt) = false := by simpa using c81))
                        (try (have c81b3 : ¬ (FloatKind.f64.format.order (rdOf (0 : Nat) l0 x37_5) t138 = some .lt) := by simpa using c81))
                        clear c81
                        by_cases c82 : (FloatKind.f64.format.order (rdOf (0 : Nat) l0 x37_5) t140 == some .gt) = true
                        · rw [if_pos c82] at H
                          exact absurd H (by simp)
                        · rw [if_neg c82] at H
                          have c82b0 : (FloatKind.f64.format.order (rdOf (0 : Nat) l0 x37_5) t140 == some .gt) = false := by simpa using c82
                          (try (have c82b1 : decide (FloatKind.f64.format.order (rdOf (0 : Nat) l0 x37_5) t140 = some .gt) = false := by simpa using c82))
                          (try (have c82b2 : (FloatKind.f64.format.order (rdOf (0 : Nat) l0 x37_5) t140 == some .gt) = false := by simpa using c82))
                          (try (have c82b3 : ¬ (FloatKind.f64.format.order (rdOf (0 : Nat) l0 x37_5) t140 = some .gt) := by simpa using c82))
                          clear c82
                          have H' := Aside0.mk H
                          clear H
                          have p144 : 0 ≤ (x37_5 : Int) := of_decide_eq_true (by first | (with_reducible assumption) | assumption)
                          have q144 : x37_5 < (l0.length : Int) := of_decide_eq_true (by first | (with_reducible assumption) | assumption)
                          obtain ⟨ad144, e144, hx144_0⟩ := Kd.at_flt HR0.out x37_5 p144 q144
                          cases e144
                          replace hx144_0 := (HB.out.cell (World.block_lt_of_cell? w _ hx144_0)).trans hx144_0
                          replace p144 := eq_true p144
                          replace q144 := eq_true q144
                          have p147 : 0 ≤ (x37_5 : Int) := of_decide_eq_true (by first | (with_reducible assumption) | assumption)
                          have q147 : x37_5 < (l0.length : Int) := of_decide_eq_true (by first | (with_reducible assumption) | assumption)
                          obtain ⟨ad147, e147, hx147_0⟩ := Kd.at_flt HR0.out x37_5 p147 q147
                          obtain rfl : ad144 = ad147 := (by injection e147)
                          replace hx147_0 := (HB.out.cell (World.block_lt_of_cell? w _ hx147_0)).trans hx147_0
                          replace p147 := eq_true p147
                          replace q147 := eq_true q147
                          have p148 : 0 ≤ (x37_5 : Int) := of_decide_eq_true (by first | (with_reducible assumption) | assumption)
                          have q148 : x37_5 < (l0.length : Int) := of_decide_eq_true (by first | (with_reducible assumption) | assumption)
                          obtain ⟨ad148, e148, hx148_0⟩ := Kd.at_flt HR0.out x37_5 p148 q148
                          obtain rfl : ad144 = ad148 := (by injection e148)
                          replace hx148_0 := (HB.out.cell (World.block_lt_of_cell? w _ hx148_0)).trans hx148_0
                          replace p148 := eq_true p148
                          replace q148 := eq_true q148
                          go_wp2
                          go_roundg k5
                          case measure => have := HJ6.out; have := HJ13.out; have := HJ50.out; have := HJ65.out; have := HK5.out; omega
                          case rel => exact ⟨(x36_5), (wrap64 (x37_5 + 1)), (by first | rfl | (simp; done) | (simp [*]; done)), (by first | rfl | (simp; done) | (simp [*]; done)), H', ⟨by have := HJ6.out; have := HJ13.out; have := HJ50.out; have := HJ65.out; have := HK5.out; omega⟩, ⟨by repeat (first | (with_reducible first | exact HB.out | apply below_alloc | apply pw_below_drewN | apply below_drew1) | exact HB.out)⟩⟩

end Go.Proofs.Ytepcegiciecogaa.FJ
