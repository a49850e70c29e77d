/- Written by the session's fprint.py out of the translation. -/
import Derived.Test.YthkcphdhmkcdkaaGreatFw
import Derived.Test.YthkcphdhmkcdkaaGreatFPx0
import Derived.Test.YthkcphdhmkcdkaaGreatFPx3
import Derived.Test.YthkcphdhmkcdkaaGreatFPx5
import Derived.Test.YthkcphdhmkcdkaaGreatFPx6
namespace Go.Proofs.YthkcphdhmkcdkaaGreat.FP
open Go.RowKit Go.Proofs.YthkcphdhmkcdkaaGreatW.PrintWords Go.Proofs.YthkcphdhmkcdkaaGreatW.PrintLast Go.Proofs.YthkcphdhmkcdkaaGreatW.PrintMore
attribute [local go_sem] max2_int min2_int max_two min_two max_three min_three max_four min_four   -- for this text's walks alone
open Go.Proofs.YthkcphdhmkcdkaaGreat.FX
attribute [local go_sem] run_store_float run_neg_float run_fmul run_fadd run_fsub run_fdiv run_ftoi isSome_setCell 
set_option linter.unusedVariables false
set_option linter.unusedSimpArgs false

/-! ### interp_logs: function 118 -/
def interp_logs.f (k : Nat) (a0_0 : Int) (l0_1 : List Int) (l0_2 : List Nat) (a1 : Int) (a2 : Int) (a3 : Int) : Option (Nat) := if 0 ≤ a1 then (if a1 < (l0_2.length : Int) then ((fn_Ln.f k (rdOf (0 : Nat) l0_2 a1)).bind fun t196 => (if 0 ≤ (wrap64 (a1 + 1)) then (if (wrap64 (a1 + 1)) < (l0_2.length : Int) then ((fn_Ln.f k (rdOf (0 : Nat) l0_2 (wrap64 (a1 + 1)))).bind fun t198 => ((interp_over.f a3 (([wrap64 (a3 - a2), a2] : List Int)) (([t196, t198] : List Nat))).bind fun t205 => ((fn_Exp.f k t205).bind fun t206 => ((interp_held.f k t206 (rdOf (0 : Nat) l0_2 a1) (rdOf (0 : Nat) l0_2 (wrap64 (a1 + 1)))).bind fun t209 => (some t209))))) else (none)) else (none))) else (none)) else (none)
def interp_logs.T1 : Bool × List (List Nat × List Nat) := (true, [([], []), ([0], [0]), ([], []), ([1, 2], [1, 2]), ([3], [3]), ([4], [4]), ([], []), ([6], [6]), ([], []), ([8], [8]), ([7, 9], [7, 9]), ([10], [10]), ([11, 5], [11]), ([5, 12], [5, 12]), ([13, 12, 0, 1, 2, 3, 4, 5, 6, 7, 8, 9, 10, 11, 12, 13], [13])])
def interp_logs.B1 : List Nat := [0, 1, 0, 7, 15, 31, 0, 64, 0, 256, 960, 1984, 4095, 8191, 16383]
theorem interp_logs.tab1 : rtab .any (opsOf Tryz.f118 1) = interp_logs.T1 := by kernel_rfl
theorem interp_logs.bits1 : waitsOk interp_logs.T1.2 interp_logs.B1 = true := by kernel_rfl
def interp_logs.T2 : Bool × List (List Nat × List Nat) := (true, [([], []), ([], []), ([], []), ([1, 2], [1, 2]), ([], []), ([3, 4], [3, 4]), ([], []), ([0, 5, 6], [0, 5, 6]), ([7, 7], [7]), ([], []), ([9], [9]), ([], []), ([10, 11], [10, 11]), ([12], [12]), ([], []), ([14], [14]), ([], []), ([16], [16]), ([15, 17], [15, 17]), ([18], [18]), ([8, 13, 19, 8], [8, 13, 19]), ([20, 20, 0, 1, 2, 3, 4, 5, 6, 7, 8, 9, 10, 11, 12, 13, 14, 15, 16, 17, 18, 19, 20], [20])])
def interp_logs.B2 : List Nat := [0, 0, 0, 6, 0, 30, 0, 127, 255, 0, 512, 0, 3584, 7680, 0, 16384, 0, 65536, 245760, 507904, 1048575, 2097151]
theorem interp_logs.tab2 : rtab .any (opsOf Tryz.f118 2) = interp_logs.T2 := by kernel_rfl
theorem interp_logs.bits2 : waitsOk interp_logs.T2.2 interp_logs.B2 = true := by kernel_rfl
set_option maxHeartbeats 8000000 in
set_option maxRecDepth 100000 in
theorem interp_logs.calls (k : Nat) (a0_0 : Int) (A0_1 : Option Addr) (c0_1 : Nat) (l0_1 : List Int) (A0_2 : Option Addr) (c0_2 : Nat) (l0_2 : List Nat) (a1 : Int) (a2 : Int) (a3 : Int) (r : Nat) (w : World) (hr0_1 : Kd.C (Kd.int .i64) w A0_1 l0_1.length l0_1) (hc0_1 : l0_1.length ≤ c0_1) (hr0_2 : Kd.C Kd.flt w A0_2 l0_2.length l0_2) (hc0_2 : l0_2.length ≤ c0_2) (h : interp_logs.f k a0_0 l0_1 l0_2 a1 a2 a3 = some r) :
    Calls Tryz.prog 118 #[.agg #[.int .i64 a0_0, .slice A0_1 l0_1.length c0_1, .slice A0_2 l0_2.length c0_2], .int .i64 a1, .int .i64 a2, .int .i64 a3] w fun e w' => e = .returned (.float .f64 r) ∧ Below w.heap.size w w' := by
  have hu128 := Tryz.underlying128
  have HR0_1 := aM hr0_1
  have HC0_1 := aM hc0_1
  clear hr0_1 hc0_1
  have HR0_2 := aM hr0_2
  have HC0_2 := aM hc0_2
  clear hr0_2 hc0_2
  have HB := aM (Below.refl w.heap.size w)
  have H : (if 0 ≤ a1 then (if a1 < (l0_2.length : Int) then ((fn_Ln.f k (rdOf (0 : Nat) l0_2 a1)).bind fun t196 => (if 0 ≤ (wrap64 (a1 + 1)) then (if (wrap64 (a1 + 1)) < (l0_2.length : Int) then ((fn_Ln.f k (rdOf (0 : Nat) l0_2 (wrap64 (a1 + 1)))).bind fun t198 => ((interp_over.f a3 (([wrap64 (a3 - a2), a2] : List Int)) (([t196, t198] : List Nat))).bind fun t205 => ((fn_Exp.f k t205).bind fun t206 => ((interp_held.f k t206 (rdOf (0 : Nat) l0_2 a1) (rdOf (0 : Nat) l0_2 (wrap64 (a1 + 1)))).bind fun t209 => (some t209))))) else (none)) else (none))) else (none)) else (none)) = some r := h
  clear h
  revert H
  refine ifP fun c5 H => ?_
  have c5b0 := decide_eq_true c5
  clear c5
  revert H
  refine ifP fun c6 H => ?_
  have c6b0 := decide_eq_true c6
  clear c6
  revert H
  refine bE ?_
  rintro t196 A7 H
  generalize hji8 : (wrap64 (a1 + 1)) = ji8 at H
  (try rw [hji8] at A7)
  have hji8w : (IntKind.i64.wrap (a1 + 1)) = ji8 := (i64_w _).trans hji8
  revert H
  refine ifP fun c9 H => ?_
  have c9b0 := decide_eq_true c9
  clear c9
  revert H
  refine ifP fun c10 H => ?_
  have c10b0 := decide_eq_true c10
  clear c10
  revert H
  refine bE ?_
  rintro t198 A11 H
  generalize hy199 : (([t196, t198] : List Nat)) = y199 at H
  replace hy199 := hy199.symm
  (try (revert H; (with_reducible refine sE y199 ?_); intro H))
  have Ny199 := aM hy199
  clear hy199
  generalize hy202 : (([wrap64 (a3 - a2), a2] : List Int)) = y202 at H
  replace hy202 := hy202.symm
  (try (revert H; (with_reducible refine sE y202 ?_); intro H))
  have Ny202 := aM hy202
  clear hy202
  revert H
  refine bE ?_
  rintro t205 A12 H
  revert H
  refine bE ?_
  rintro t206 A13 H
  revert H
  refine bE ?_
  rintro t209 A14 H
  obtain rfl := Option.some.inj H
  go_enter Tryz.func118, Tryz.ntmps118
  try go_wp2_with (first | ((with_reducible refine gD 4 rfl ?_); refine boxW (N := 4) #[.int .i64 a0_0, .slice A0_1 l0_1.length c0_1, .slice A0_2 l0_2.length c0_2] 128 HB ?_; clear HB; intro gb194 w15 BK194 HB GW194; have GE194 := GW194))
  replace BK194 := aM (blk_drew BK194.out)
  replace HB := aM (below_drew1 HB.out)
  have p195 : 0 ≤ (a1 : Int) := of_decide_eq_true asA
  have q195 : a1 < (l0_2.length : Int) := of_decide_eq_true asA
  obtain ⟨ad195, e195, hx195_0⟩ := Kd.at_flt HR0_2.out a1 p195 q195
  have hw195_0 := hx195_0
  cases e195
  replace hx195_0 := (HB.out.cell (World.block_lt_of_cell? w _ hx195_0)).trans hx195_0
  replace p195 := eq_true p195
  replace q195 := eq_true q195
  have p197 : 0 ≤ ((ji8) : Int) := of_decide_eq_true asA
  have q197 : (ji8) < (l0_2.length : Int) := of_decide_eq_true asA
  obtain ⟨ad197, e197, hx197_0⟩ := Kd.at_flt HR0_2.out (ji8) p197 q197
  have hw197_0 := hx197_0
  obtain rfl : ad195 = ad197 := (by injection e197)
  replace hx197_0 := (HB.out.cell (World.block_lt_of_cell? w _ hx197_0)).trans hx197_0
  replace p197 := eq_true p197
  replace q197 := eq_true q197
  refine start_ (n := 15) (S := fun w' => w'.cell? ⟨gb194, 0, none⟩ = some (.int .i64 a0_0) ∧ w'.cell? ⟨gb194, 1, none⟩ = some (.slice A0_1 l0_1.length c0_1) ∧ w'.cell? ⟨gb194, 2, none⟩ = some (.slice (some ad195) l0_2.length c0_2) ∧ w'.cell? (ad195.add (a1).toNat) = some (.float .f64 (rdOf (0 : Nat) l0_2 a1)) ∧ w'.cell? (ad195.add ((ji8)).toNat) = some (.float .f64 (rdOf (0 : Nat) l0_2 (ji8)))) (ds := []) (dnA 15 0) (by kernel_rfl) rfl rfl ⟨(blk_cell BK194.out 0).trans rfl, (blk_cell BK194.out 1).trans rfl, (blk_cell BK194.out 2).trans rfl, ((HB.out.cell (World.block_lt_of_cell? w _ hw195_0)).trans hw195_0), ((HB.out.cell (World.block_lt_of_cell? w _ hw197_0)).trans hw197_0)⟩ (fun hHeld => ?_); refine with_tabW interp_logs.tab1 interp_logs.bits1 (fun HT_ HW_ => ?_)
  generalize w15.drew = w16 at BK194 HB hx195_0 hx197_0 hHeld ⊢
  refine pW 0 (some 10) (dnA 15 1) ?_
  refine pW 2 (some 12) (dnA 15 5) ?_
  refine pW 6 (some 16) (dnA 15 69) ?_
  refine pW 8 (some 18) (dnA 15 325) ?_
  refine pW 9 (some 19) (dnA 15 837) ?_
  refine tW 1 (some 11) (dnA 15 839) ?_
  refine pW 3 (some 13) (dnA 15 847) ?_
  refine tW 4 (some 14) (dnA 15 863) ?_
  refine tW 7 (some 17) (dnA 15 991) ?_
  refine pW 10 (some 20) (dnA 15 2015) ?_
  refine tW 11 (some 21) (dnA 15 4063) ?_
  refine oW 5 (some 15) (dnA 15 4095) (fun K hK => ?_)
  refine gW Tryz.func172 #[.float .f64 (rdOf (0 : Nat) l0_2 a1)] ?_
  with_reducible refine (fn_Ln.calls k (rdOf (0 : Nat) l0_2 a1) t196 _ A7.out).mono ?_
  rintro e w17 ⟨rfl, hb⟩
  refine ⟨_, rfl, ?_⟩
  replace BK194 := kB BK194 hb
  replace HB := gB HB hb
  (try clear hb)
  (try clear hb2)
  (try clear hk)
  (try clear hi)
  refine hK.out _ _ ⟨(blk_cell BK194.out 0).trans rfl, (blk_cell BK194.out 1).trans rfl, (blk_cell BK194.out 2).trans rfl, ((HB.out.cell (World.block_lt_of_cell? w _ hw195_0)).trans hw195_0), ((HB.out.cell (World.block_lt_of_cell? w _ hw197_0)).trans hw197_0)⟩ (fun hHeld => ?_)
  clear hK K
  refine nW ?_
  refine oW 12 (some 22) (dnA 15 8191) (fun K hK => ?_)
  refine goes_ Tryz.func172 (by kernel_rfl) rfl #[.float .f64 (rdOf (0 : Nat) l0_2 (ji8))] (by rfl) rfl rfl (by (try simp only [List.map_toArray, List.map_cons, List.map_nil]); first | done | (simp only [hji8]; rfl) | rfl | (simp only [List.length_drop, List.length_take]; rfl)) ?_
  with_reducible refine (fn_Ln.calls k (rdOf (0 : Nat) l0_2 (ji8)) t198 _ A11.out).mono ?_
  rintro e w18 ⟨rfl, hb⟩
  refine ⟨_, rfl, ?_⟩
  replace BK194 := kB BK194 hb
  replace HB := gB HB hb
  (try clear hb)
  (try clear hb2)
  (try clear hk)
  (try clear hi)
  refine hK.out _ _ ⟨(blk_cell BK194.out 0).trans rfl, (blk_cell BK194.out 1).trans rfl, (blk_cell BK194.out 2).trans rfl, ((HB.out.cell (World.block_lt_of_cell? w _ hw195_0)).trans hw195_0), ((HB.out.cell (World.block_lt_of_cell? w _ hw197_0)).trans hw197_0)⟩ (fun hHeld => ?_)
  clear hK K
  refine nW ?_
  refine oW 13 (some 23) (dnA 15 16383) (fun K hK => ?_)
  refine Kd.R_lit_step Kd.flt _ 29 ?hg (N := 23) ?hd (xs := ([t196, t198] : List Nat)) (inner := [.float .f64 t196, .float .f64 t198]) (ok := fun _ => True) (okp := fun _ => True) ?hr ?hp (fun _ hk => hk) trivial (Below.refl _ _) (Nat.le_refl _) (by simp) ?_; (case hd => rfl); (case hg => rfl); (case hr => first | (go_simp; done) | (go_simp; rfl)); (case hp => exact (Reps.one (show Kd.M Kd.flt _ _ _ t196 [.float .f64 t196] from rfl) (Reps.one (show Kd.M Kd.flt _ _ _ t198 [.float .f64 t198] from rfl) (Reps.none _ _))))
  intro v200 w19 ho20 hb hg_ hnew_
  clear hg_ hnew_
  (first | rw [← Ny199.out] at ho20 | (simp only [Int.reduceToNat] at ho20; rw [← Ny199.out] at ho20))
  have HO201 := aM (Kd.R_lower ho20 (below_size (bG HB.out)))
  replace BK194 := kB BK194 hb
  replace HB := gB HB hb
  clear hb ho20
  refine hK.out _ _ ⟨(blk_cell BK194.out 0).trans rfl, (blk_cell BK194.out 1).trans rfl, (blk_cell BK194.out 2).trans rfl, ((HB.out.cell (World.block_lt_of_cell? w _ hw195_0)).trans hw195_0), ((HB.out.cell (World.block_lt_of_cell? w _ hw197_0)).trans hw197_0)⟩ (fun hHeld => ?_)
  clear hK K
  refine nW ?_
  refine pW 14 (some 9) (dnA 15 32767) ?_
  refine done_ (done_of HT_.out (by kernel_rfl)) ?_
  try go_wp2
  replace HO201 := aM (Kd.R_drew HO201.out)
  replace BK194 := aM (blk_drew BK194.out)
  replace HB := aM (below_drew1 HB.out)
  have p207 : 0 ≤ (a1 : Int) := of_decide_eq_true asA
  have q207 : a1 < (l0_2.length : Int) := of_decide_eq_true asA
  obtain ⟨ad207, e207, hx207_0⟩ := Kd.at_flt HR0_2.out a1 p207 q207
  have hw207_0 := hx207_0
  obtain rfl : ad195 = ad207 := (by injection e207)
  replace hx207_0 := (HB.out.cell (World.block_lt_of_cell? w _ hx207_0)).trans hx207_0
  replace p207 := eq_true p207
  replace q207 := eq_true q207
  have p208 : 0 ≤ ((ji8) : Int) := of_decide_eq_true asA
  have q208 : (ji8) < (l0_2.length : Int) := of_decide_eq_true asA
  obtain ⟨ad208, e208, hx208_0⟩ := Kd.at_flt HR0_2.out (ji8) p208 q208
  have hw208_0 := hx208_0
  obtain rfl : ad195 = ad208 := (by injection e208)
  replace hx208_0 := (HB.out.cell (World.block_lt_of_cell? w _ hx208_0)).trans hx208_0
  replace p208 := eq_true p208
  replace q208 := eq_true q208
  refine start_ (n := 22) (S := fun w' => w'.cell? ⟨gb194, 0, none⟩ = some (.int .i64 a0_0) ∧ w'.cell? ⟨gb194, 1, none⟩ = some (.slice A0_1 l0_1.length c0_1) ∧ w'.cell? ⟨gb194, 2, none⟩ = some (.slice (some ad195) l0_2.length c0_2) ∧ w'.cell? (ad195.add (a1).toNat) = some (.float .f64 (rdOf (0 : Nat) l0_2 a1)) ∧ w'.cell? (ad195.add ((ji8)).toNat) = some (.float .f64 (rdOf (0 : Nat) l0_2 (ji8)))) (ds := []) (dnA 22 0) (by kernel_rfl) rfl rfl ⟨(blk_cell BK194.out 0).trans rfl, (blk_cell BK194.out 1).trans rfl, (blk_cell BK194.out 2).trans rfl, ((HB.out.cell (World.block_lt_of_cell? w _ hw207_0)).trans hw207_0), ((HB.out.cell (World.block_lt_of_cell? w _ hw208_0)).trans hw208_0)⟩ (fun hHeld => ?_); refine with_tabW interp_logs.tab2 interp_logs.bits2 (fun HT_ HW_ => ?_)
  generalize w19.drew = w21 at HO201 BK194 HB hx207_0 hx208_0 hHeld ⊢
  refine pW 0 (some 24) (dnA 22 1) ?_
  refine pW 1 (some 25) (dnA 22 3) ?_
  refine pW 2 (some 26) (dnA 22 7) ?_
  refine pW 3 (some 27) (dnA 22 15) ?_
  refine pW 4 (some 28) (dnA 22 31) ?_
  refine pW 6 (some 30) (dnA 22 95) ?_
  refine pW 9 (some 33) (dnA 22 607) ?_
  refine pW 11 (some 35) (dnA 22 2655) ?_
  refine pW 14 (some 38) (dnA 22 19039) ?_
  refine pW 16 (some 40) (dnA 22 84575) ?_
  refine pW 17 (some 41) (dnA 22 215647) ?_
  refine tW 10 (some 34) (dnA 22 216671) ?_
  refine pW 12 (some 36) (dnA 22 220767) ?_
  refine tW 13 (some 37) (dnA 22 228959) ?_
  refine tW 15 (some 39) (dnA 22 261727) ?_
  refine pW 18 (some 42) (dnA 22 523871) ?_
  refine tW 19 (some 43) (dnA 22 1048159) ?_
  refine oW 5 (some 29) (dnA 22 1048191) (fun K hK => ?_)
  refine Kd.R_lit_step (Kd.int .i64) _ 3 ?hg (N := 29) ?hd (xs := ([wrap64 (a3 - a2), a2] : List Int)) (inner := [.int .i64 (wrap64 (a3 - a2)), .int .i64 a2]) (ok := fun _ => True) (okp := fun _ => True) ?hr ?hp (fun _ hk => hk) trivial (Below.refl _ _) (Nat.le_refl _) (by simp) ?_; (case hd => rfl); (case hg => rfl); (case hr => first | (go_simp; done) | (go_simp; rfl)); (case hp => exact (Reps.one (show Kd.M (Kd.int .i64) _ _ _ (wrap64 (a3 - a2)) [.int .i64 (wrap64 (a3 - a2))] from rfl) (Reps.one (show Kd.M (Kd.int .i64) _ _ _ a2 [.int .i64 a2] from rfl) (Reps.none _ _))))
  intro v203 w22 ho23 hb hg_ hnew_
  clear hg_ hnew_
  (first | rw [← Ny202.out] at ho23 | (simp only [Int.reduceToNat] at ho23; rw [← Ny202.out] at ho23))
  replace HO201 := rB HO201 hb
  have HO204 := aM (Kd.R_lower ho23 (below_size (bG HB.out)))
  replace BK194 := kB BK194 hb
  replace HB := gB HB hb
  clear hb ho23
  obtain ⟨Ao24, co24, eo24⟩ := Kd.R_slice HO204.out
  (first | subst eo24 | (injection eo24 with f1_ f2_ f3_; have f4_ := f1_.symm; have f5_ := f3_.symm; clear f1_ f2_ f3_; subst f4_; subst f5_))
  obtain ⟨Ao25, co25, eo25⟩ := Kd.R_slice HO201.out
  (first | subst eo25 | (injection eo25 with f1_ f2_ f3_; have f4_ := f1_.symm; have f5_ := f3_.symm; clear f1_ f2_ f3_; subst f4_; subst f5_))
  refine hK.out _ _ ⟨(blk_cell BK194.out 0).trans rfl, (blk_cell BK194.out 1).trans rfl, (blk_cell BK194.out 2).trans rfl, ((HB.out.cell (World.block_lt_of_cell? w _ hw207_0)).trans hw207_0), ((HB.out.cell (World.block_lt_of_cell? w _ hw208_0)).trans hw208_0)⟩ (fun hHeld => ?_)
  clear hK K
  refine nW ?_
  refine oW 7 (some 31) (dnA 22 1048319) (fun K hK => ?_)
  refine gW Tryz.func170 #[.int .i64 a3, .slice Ao24 y202.length co24, .slice Ao25 y199.length co25] ?_
  with_reducible refine (interp_over.calls a3 _ _ y202 _ _ y199 t205 _ ?side1 ?side2 ?side3 ?side4 A12.out).mono ?_
  (case side1 => exact cA ((Kd.R_reads' HO204.out).2.2))
  (case side2 => exact (Kd.R_reads' HO204.out).2.1)
  (case side3 => exact cA ((Kd.R_reads' HO201.out).2.2))
  (case side4 => exact (Kd.R_reads' HO201.out).2.1)
  rintro e w26 ⟨rfl, hb⟩
  refine ⟨_, rfl, ?_⟩
  replace HO201 := rB HO201 hb
  replace HO204 := rB HO204 hb
  replace BK194 := kB BK194 hb
  replace HB := gB HB hb
  (try clear hb)
  (try clear hb2)
  (try clear hk)
  (try clear hi)
  refine hK.out _ _ ⟨(blk_cell BK194.out 0).trans rfl, (blk_cell BK194.out 1).trans rfl, (blk_cell BK194.out 2).trans rfl, ((HB.out.cell (World.block_lt_of_cell? w _ hw207_0)).trans hw207_0), ((HB.out.cell (World.block_lt_of_cell? w _ hw208_0)).trans hw208_0)⟩ (fun hHeld => ?_)
  clear hK K
  refine nW ?_
  refine oW 8 (some 32) (dnA 22 1048575) (fun K hK => ?_)
  refine gW Tryz.func109 #[.float .f64 t205] ?_
  with_reducible refine (fn_Exp.calls k t205 t206 _ A13.out).mono ?_
  rintro e w27 ⟨rfl, hb⟩
  refine ⟨_, rfl, ?_⟩
  replace HO201 := rB HO201 hb
  replace HO204 := rB HO204 hb
  replace BK194 := kB BK194 hb
  replace HB := gB HB hb
  (try clear hb)
  (try clear hb2)
  (try clear hk)
  (try clear hi)
  refine hK.out _ _ ⟨(blk_cell BK194.out 0).trans rfl, (blk_cell BK194.out 1).trans rfl, (blk_cell BK194.out 2).trans rfl, ((HB.out.cell (World.block_lt_of_cell? w _ hw207_0)).trans hw207_0), ((HB.out.cell (World.block_lt_of_cell? w _ hw208_0)).trans hw208_0)⟩ (fun hHeld => ?_)
  clear hK K
  refine nW ?_
  refine oW 20 (some 44) (dnA 22 2097151) (fun K hK => ?_)
  refine goes_ Tryz.func173 (by kernel_rfl) rfl #[.float .f64 t206, .float .f64 (rdOf (0 : Nat) l0_2 a1), .float .f64 (rdOf (0 : Nat) l0_2 (ji8))] (by rfl) rfl rfl (by (try simp only [List.map_toArray, List.map_cons, List.map_nil]); first | done | (simp only [hji8]; rfl) | rfl | (simp only [List.length_drop, List.length_take]; rfl)) ?_
  with_reducible refine (interp_held.calls k t206 (rdOf (0 : Nat) l0_2 a1) (rdOf (0 : Nat) l0_2 (ji8)) t209 _ A14.out).mono ?_
  rintro e w' ⟨rfl, ⟨nd, rfl⟩⟩
  refine ⟨_, rfl, ?_⟩
  refine hK.out _ _ ⟨(blk_cell BK194.out 0).trans rfl, (blk_cell BK194.out 1).trans rfl, (blk_cell BK194.out 2).trans rfl, ((HB.out.cell (World.block_lt_of_cell? w _ hw207_0)).trans hw207_0), ((HB.out.cell (World.block_lt_of_cell? w _ hw208_0)).trans hw208_0)⟩ (fun hHeld => ?_)
  clear hK K
  refine nW ?_
  refine pW 21 (some 8) (dnA 22 4194303) ?_
  refine done_ (done_of HT_.out (by kernel_rfl)) ?_
  try go_wp2
  go_ret
  exact ⟨by first | rfl | (simp [errW_none, errW_some] <;> rfl) | (simp only [← hji8]; first | rfl | (simp [errW_none, errW_some] <;> rfl)) | (simp [*, errW_none, errW_some] <;> rfl), bG HB.out⟩

end Go.Proofs.YthkcphdhmkcdkaaGreat.FP
