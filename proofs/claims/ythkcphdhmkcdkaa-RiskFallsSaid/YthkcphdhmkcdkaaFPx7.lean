/- Written by the session's fprint.py out of the translation. -/
import Derived.Test.YthkcphdhmkcdkaaFPx6
namespace Go.Proofs.Ythkcphdhmkcdkaa.FP
open Go.RowKit Go.Proofs.YthkcphdhmkcdkaaW.PrintWords Go.Proofs.YthkcphdhmkcdkaaW.PrintLast Go.Proofs.YthkcphdhmkcdkaaW.PrintMore
attribute [local go_sem] max2_int min2_int max_two min_two max_three min_three max_four min_four   -- for this text's walks alone
open Go.Proofs.Ythkcphdhmkcdkaa.FX
attribute [local go_sem] run_store_float run_neg_float run_fmul run_fadd run_fsub run_fdiv run_ftoi isSome_setCell 
set_option linter.unusedVariables false
set_option linter.unusedSimpArgs false

def interp_logs.f (k : Nat) (a0_0 : Int) (l0_1 : List Int) (l0_2 : List Nat) (a1 : Int) (a2 : Int) (a3 : Int) : Option (Nat) := if 0 ≤ a1 then (if a1 < (l0_2.length : Int) then ((fn_Ln.f k (rdOf (0 : Nat) l0_2 a1)).bind fun t196 => (if 0 ≤ (wrap64 (a1 + 1)) then (if (wrap64 (a1 + 1)) < (l0_2.length : Int) then ((fn_Ln.f k (rdOf (0 : Nat) l0_2 (wrap64 (a1 + 1)))).bind fun t198 => ((interp_over.f a3 (([wrap64 (a3 - a2), a2] : List Int)) (([t196, t198] : List Nat))).bind fun t205 => ((fn_Exp.f k t205).bind fun t206 => ((interp_held.f k t206 (rdOf (0 : Nat) l0_2 a1) (rdOf (0 : Nat) l0_2 (wrap64 (a1 + 1)))).bind fun t209 => (some t209))))) else (none)) else (none))) else (none)) else (none)
def interp_logs.T1 : Bool × List (List Nat × List Nat) := (true, [([], []), ([0], [0]), ([], []), ([1, 2], [1, 2]), ([3], [3]), ([4], [4]), ([], []), ([6], [6]), ([], []), ([8], [8]), ([7, 9], [7, 9]), ([10], [10]), ([11, 5], [11]), ([5, 12], [5, 12]), ([13, 12, 0, 1, 2, 3, 4, 5, 6, 7, 8, 9, 10, 11, 12, 13], [13])])
def interp_logs.B1 : List Nat := [0, 1, 0, 7, 15, 31, 0, 64, 0, 256, 960, 1984, 4095, 8191, 16383]
theorem interp_logs.tab1 : rtab .any (opsOf Try.f81 1) = interp_logs.T1 := by kernel_rfl
theorem interp_logs.bits1 : waitsOk interp_logs.T1.2 interp_logs.B1 = true := by kernel_rfl
def interp_logs.T2 : Bool × List (List Nat × List Nat) := (true, [([], []), ([], []), ([], []), ([1, 2], [1, 2]), ([], []), ([3, 4], [3, 4]), ([], []), ([0, 5, 6], [0, 5, 6]), ([7, 7], [7]), ([], []), ([9], [9]), ([], []), ([10, 11], [10, 11]), ([12], [12]), ([], []), ([14], [14]), ([], []), ([16], [16]), ([15, 17], [15, 17]), ([18], [18]), ([8, 13, 19, 8], [8, 13, 19]), ([20, 20, 0, 1, 2, 3, 4, 5, 6, 7, 8, 9, 10, 11, 12, 13, 14, 15, 16, 17, 18, 19, 20], [20])])
def interp_logs.B2 : List Nat := [0, 0, 0, 6, 0, 30, 0, 127, 255, 0, 512, 0, 3584, 7680, 0, 16384, 0, 65536, 245760, 507904, 1048575, 2097151]
theorem interp_logs.tab2 : rtab .any (opsOf Try.f81 2) = interp_logs.T2 := by kernel_rfl
theorem interp_logs.bits2 : waitsOk interp_logs.T2.2 interp_logs.B2 = true := by kernel_rfl
set_option maxHeartbeats 8000000 in
set_option maxRecDepth 100000 in
theorem interp_logs.calls (k : Nat) (a0_0 : Int) (A0_1 : Option Addr) (c0_1 : Nat) (l0_1 : List Int) (A0_2 : Option Addr) (c0_2 : Nat) (l0_2 : List Nat) (a1 : Int) (a2 : Int) (a3 : Int) (r : Nat) (w : World) (hr0_1 : Kd.C (Kd.int .i64) w A0_1 l0_1.length l0_1) (hc0_1 : l0_1.length ≤ c0_1) (hr0_2 : Kd.C Kd.flt w A0_2 l0_2.length l0_2) (hc0_2 : l0_2.length ≤ c0_2) (h : interp_logs.f k a0_0 l0_1 l0_2 a1 a2 a3 = some r) :
  Calls Try.prog 81 #[.agg #[.int .i64 a0_0, .slice A0_1 l0_1.length c0_1, .slice A0_2 l0_2.length c0_2], .int .i64 a1, .int .i64 a2, .int .i64 a3] w fun e w' => e = .returned (.float .f64 r) ∧ Below w.heap.size w w' := by
 (have hu86 := Try.underlying86);(have HR0_1 := Aside0.mk hr0_1);(have HC0_1 := Aside0.mk hc0_1);(clear hr0_1 hc0_1);(have HR0_2 := Aside0.mk hr0_2);(have HC0_2 := Aside0.mk hc0_2);(clear hr0_2 hc0_2);(have HB := Aside0.mk (Below.refl w.heap.size w));(have H : (if 0 ≤ a1 then (if a1 < (l0_2.length : Int) then ((fn_Ln.f k (rdOf (0 : Nat) l0_2 a1)).bind fun t196 => (if 0 ≤ (wrap64 (a1 + 1)) then (if (wrap64 (a1 + 1)) < (l0_2.length : Int) then ((fn_Ln.f k (rdOf (0 : Nat) l0_2 (wrap64 (a1 + 1)))).bind fun t198 => ((interp_over.f a3 (([wrap64 (a3 - a2), a2] : List Int)) (([t196, t198] : List Nat))).bind fun t205 => ((fn_Exp.f k t205).bind fun t206 => ((interp_held.f k t206 (rdOf (0 : Nat) l0_2 a1) (rdOf (0 : Nat) l0_2 (wrap64 (a1 + 1)))).bind fun t209 => (some t209))))) else (none)) else (none))) else (none)) else (none)) = some r := h);(clear h)
 by_cases c5 : 0 ≤ a1
 rotate_left
 ·rw [if_neg c5] at H
  exact absurd H (by simp)
 (rw [if_pos c5] at H);(have c5b0 : decide (0 ≤ a1) = true := decide_eq_true c5);(clear c5)
 by_cases c6 : a1 < (l0_2.length : Int)
 rotate_left
 ·rw [if_neg c6] at H
  exact absurd H (by simp)
 (rw [if_pos c6] at H);(have c6b0 : decide (a1 < (l0_2.length : Int)) = true := decide_eq_true c6);(clear c6);(replace H := Option.bind_eq_some_iff.mp H);(obtain ⟨t196, A70, H⟩ := H);(have A7 := Aside0.mk A70);(clear A70);(obtain ⟨ji8, hji8⟩ : ∃ j_ : Int, (wrap64 (a1 + 1)) = j_ := ⟨_, rfl⟩);(replace H : (if 0 ≤ (ji8) then (if (ji8) < (l0_2.length : Int) then ((fn_Ln.f k (rdOf (0 : Nat) l0_2 (ji8))).bind fun t198 => ((interp_over.f a3 (([wrap64 (a3 - a2), a2] : List Int)) (([t196, t198] : List Nat))).bind fun t205 => ((fn_Exp.f k t205).bind fun t206 => ((interp_held.f k t206 (rdOf (0 : Nat) l0_2 a1) (rdOf (0 : Nat) l0_2 (ji8))).bind fun t209 => (some t209))))) else (none)) else (none)) = some r := by first | (rw [hji8] at H; exact H) | (simp only [hji8] at H ⊢; exact H))
 (try rw [hji8] at A7)
 have hji8w : (IntKind.i64.wrap (a1 + 1)) = ji8 := (i64_w _).trans hji8
 by_cases c9 : 0 ≤ (ji8)
 rotate_left
 ·rw [if_neg c9] at H
  exact absurd H (by simp)
 (rw [if_pos c9] at H);(have c9b0 : decide (0 ≤ (ji8)) = true := decide_eq_true c9);(clear c9)
 by_cases c10 : (ji8) < (l0_2.length : Int)
 rotate_left
 ·rw [if_neg c10] at H
  exact absurd H (by simp)
 (rw [if_pos c10] at H);(have c10b0 : decide ((ji8) < (l0_2.length : Int)) = true := decide_eq_true c10);(clear c10);(replace H := Option.bind_eq_some_iff.mp H);(obtain ⟨t198, A110, H⟩ := H);(have A11 := Aside0.mk A110);(clear A110);(obtain ⟨y199, hy199⟩ : ∃ y_ : List Nat, y_ = (([t196, t198] : List Nat)) := ⟨_, rfl⟩);(replace H : ((interp_over.f a3 (([wrap64 (a3 - a2), a2] : List Int)) y199).bind fun t205 => ((fn_Exp.f k t205).bind fun t206 => ((interp_held.f k t206 (rdOf (0 : Nat) l0_2 a1) (rdOf (0 : Nat) l0_2 (ji8))).bind fun t209 => (some t209)))) = some r := by first | (rw [hy199]; with_reducible exact H) | (have H2_ := (Option.bind_some _ _).symm.trans H; rw [hy199]; with_reducible exact H2_) | (have H2_ := (Option.bind_some _ _).symm.trans H; with_reducible exact H2_) | with_reducible exact H | (rw [hy199]; exact H) | exact H);(have Ny199 := Aside0.mk hy199);(clear hy199);(obtain ⟨y202, hy202⟩ : ∃ y_ : List Int, y_ = (([wrap64 (a3 - a2), a2] : List Int)) := ⟨_, rfl⟩);(replace H : ((interp_over.f a3 y202 y199).bind fun t205 => ((fn_Exp.f k t205).bind fun t206 => ((interp_held.f k t206 (rdOf (0 : Nat) l0_2 a1) (rdOf (0 : Nat) l0_2 (ji8))).bind fun t209 => (some t209)))) = some r := by first | (rw [hy202]; with_reducible exact H) | (have H2_ := (Option.bind_some _ _).symm.trans H; rw [hy202]; with_reducible exact H2_) | (have H2_ := (Option.bind_some _ _).symm.trans H; with_reducible exact H2_) | with_reducible exact H | (rw [hy202]; exact H) | exact H);(have Ny202 := Aside0.mk hy202);(clear hy202);(replace H := Option.bind_eq_some_iff.mp H);(obtain ⟨t205, A120, H⟩ := H);(have A12 := Aside0.mk A120);(clear A120);(replace H := Option.bind_eq_some_iff.mp H);(obtain ⟨t206, A130, H⟩ := H);(have A13 := Aside0.mk A130);(clear A130);(replace H := Option.bind_eq_some_iff.mp H);(obtain ⟨t209, A140, H⟩ := H);(have A14 := Aside0.mk A140);(clear A140);(obtain rfl := Option.some.inj H);(go_enter Try.func81, Try.ntmps81);(try go_wp2_with (first | ((with_reducible refine gate_dst (N := 4) rfl ?_); refine box_event ?hg (N := 4) ?hd (cs := #[.int .i64 a0_0, .slice A0_1 l0_1.length c0_1, .slice A0_2 l0_2.length c0_2]) (t := 86) ?hr ?_; (case hd => rfl); (case hg => rfl); (case hr => first | (go_simp; done) | (go_simp; rfl)); intro gb194 hg w15 hbox hb; have n0_ := Aside0.mk (below_step (bA HB.out) hb); have n1_ := Aside0.mk (hbox); have n2_ := Aside0.mk ((by rw [hg]; exact (below_size (bA HB.out)) : w.heap.size ≤ gb194)); have n3_ := Aside0.mk ((by rw [hg]; exact (below_size (bA HB.out)) : w.heap.size ≤ gb194)); clear HB; have HB := n0_; have BK194 := n1_; have GW194 := n2_; have GE194 := n3_; clear n0_ n1_ n2_ n3_; clear hb hbox hg)));(have n0_ := Aside0.mk (blk_drew BK194.out));(have n1_ := Aside0.mk (below_drew1 HB.out));(clear BK194);(clear HB);(have BK194 := n0_);(have HB := n1_);(clear n0_ n1_);(have p195 : 0 ≤ (a1 : Int) := of_decide_eq_true asA);(have q195 : a1 < (l0_2.length : Int) := of_decide_eq_true asA);(obtain ⟨ad195, e195, hx195_0⟩ := Kd.at_flt HR0_2.out a1 p195 q195);(have hw195_0 := hx195_0);(cases e195);(replace hx195_0 := (HB.out.cell (World.block_lt_of_cell? w _ hx195_0)).trans hx195_0);(replace p195 := eq_true p195);(replace q195 := eq_true q195);(have p197 : 0 ≤ ((ji8) : Int) := of_decide_eq_true asA);(have q197 : (ji8) < (l0_2.length : Int) := of_decide_eq_true asA);(obtain ⟨ad197, e197, hx197_0⟩ := Kd.at_flt HR0_2.out (ji8) p197 q197);(have hw197_0 := hx197_0);(obtain rfl : ad195 = ad197 := (by injection e197));(replace hx197_0 := (HB.out.cell (World.block_lt_of_cell? w _ hx197_0)).trans hx197_0);(replace p197 := eq_true p197);(replace q197 := eq_true q197);(refine start_ (n := 15) (S := fun w' => w'.cell? ⟨gb194, 0, none⟩ = some (.int .i64 a0_0) ∧ w'.cell? ⟨gb194, 1, none⟩ = some (.slice A0_1 l0_1.length c0_1) ∧ w'.cell? ⟨gb194, 2, none⟩ = some (.slice (some ad195) l0_2.length c0_2) ∧ w'.cell? (ad195.add (a1).toNat) = some (.float .f64 (rdOf (0 : Nat) l0_2 a1)) ∧ w'.cell? (ad195.add ((ji8)).toNat) = some (.float .f64 (rdOf (0 : Nat) l0_2 (ji8)))) (ds := []) (dnA 15 0) (by kernel_rfl) rfl rfl ⟨(blk_cell BK194.out 0).trans rfl, (blk_cell BK194.out 1).trans rfl, (blk_cell BK194.out 2).trans rfl, ((HB.out.cell (World.block_lt_of_cell? w _ hw195_0)).trans hw195_0), ((HB.out.cell (World.block_lt_of_cell? w _ hw197_0)).trans hw197_0)⟩ (fun hHeld => ?_); refine with_tabW interp_logs.tab1 interp_logs.bits1 (fun HT_ HW_ => ?_));(generalize w15.drew = w16 at BK194 HB hx195_0 hx197_0 hHeld ⊢);(refine pure_ (i := 0) (N := some 10) (v := ?_) (a' := ?_) (dnA 15 1) rfl rfl (any_of HT_.out (by kernel_rfl)) (fun _ _ _ h => h) (Or.inl ⟨by rfl, ?_⟩) ?_ ?_);(rotate_left)
 ·intro w'
  (go_simp);(with_reducible rfl)
 rotate_left
 ·simp only [Act.put, List.setIfInBounds_toArray, List.set_cons_zero, List.set_cons_succ, i64_w, i32_w]
  rfl
 (refine pure_ (i := 2) (N := some 12) (v := ?_) (a' := ?_) (dnA 15 5) rfl rfl (any_of HT_.out (by kernel_rfl)) (fun _ _ _ h => h) (Or.inl ⟨by rfl, ?_⟩) ?_ ?_);(rotate_left)
 ·intro w'
  (go_simp);(with_reducible rfl)
 rotate_left
 ·simp only [Act.put, List.setIfInBounds_toArray, List.set_cons_zero, List.set_cons_succ, i64_w, i32_w]
  rfl
 (refine pure_ (i := 6) (N := some 16) (v := ?_) (a' := ?_) (dnA 15 69) rfl rfl (any_of HT_.out (by kernel_rfl)) (fun _ _ _ h => h) (Or.inl ⟨by rfl, ?_⟩) ?_ ?_);(rotate_left)
 ·intro w'
  (go_simp);(with_reducible rfl)
 rotate_left
 ·simp only [Act.put, List.setIfInBounds_toArray, List.set_cons_zero, List.set_cons_succ, i64_w, i32_w]
  rfl
 (refine pure_ (i := 8) (N := some 18) (v := ?_) (a' := ?_) (dnA 15 325) rfl rfl (any_of HT_.out (by kernel_rfl)) (fun _ _ _ h => h) (Or.inl ⟨by rfl, ?_⟩) ?_ ?_);(rotate_left)
 ·intro w'
  (go_simp);(with_reducible rfl)
 rotate_left
 ·simp only [Act.put, List.setIfInBounds_toArray, List.set_cons_zero, List.set_cons_succ, i64_w, i32_w]
  rfl
 (refine pure_ (i := 9) (N := some 19) (v := ?_) (a' := ?_) (dnA 15 837) rfl rfl (any_of HT_.out (by kernel_rfl)) (fun _ _ _ h => h) (Or.inl ⟨by rfl, ?_⟩) ?_ ?_);(rotate_left)
 ·intro w'
  (go_simp);(with_reducible rfl)
 rotate_left
 ·simp only [Act.put, List.setIfInBounds_toArray, List.set_cons_zero, List.set_cons_succ, i64_w, i32_w]
  rfl
 (refine take_ (i := 1) (N := some 11) (v := ?_) (a' := ?_) (dnA 15 839) rfl rfl (take_ofW HT_.out HW_.out (by kernel_rfl)) (fun _ _ _ h => h) (Or.inl ⟨by rfl, ?_⟩) hHeld ?_ ?_);(rotate_left)
 ·rintro w' ⟨s0, s1, s2, s3, s4⟩
  (go_simp);(with_reducible rfl)
 rotate_left
 ·simp only [Act.put, List.setIfInBounds_toArray, List.set_cons_zero, List.set_cons_succ, i64_w, i32_w]
  rfl
 (refine pure_ (i := 3) (N := some 13) (v := ?_) (a' := ?_) (dnA 15 847) rfl rfl (any_of HT_.out (by kernel_rfl)) (fun _ _ _ h => h) (Or.inl ⟨by rfl, ?_⟩) ?_ ?_);(rotate_left)
 ·intro w'
  (go_simp);(with_reducible rfl)
 rotate_left
 ·simp only [Act.put, List.setIfInBounds_toArray, List.set_cons_zero, List.set_cons_succ, i64_w, i32_w]
  rfl
 (refine take_ (i := 4) (N := some 14) (v := ?_) (a' := ?_) (dnA 15 863) rfl rfl (take_ofW HT_.out HW_.out (by kernel_rfl)) (fun _ _ _ h => h) (Or.inl ⟨by rfl, ?_⟩) hHeld ?_ ?_);(rotate_left)
 ·rintro w' ⟨s0, s1, s2, s3, s4⟩
  (go_simp);(with_reducible rfl)
 rotate_left
 ·simp only [Act.put, List.setIfInBounds_toArray, List.set_cons_zero, List.set_cons_succ, i64_w, i32_w]
  rfl
 (refine take_ (i := 7) (N := some 17) (v := ?_) (a' := ?_) (dnA 15 991) rfl rfl (take_ofW HT_.out HW_.out (by kernel_rfl)) (fun _ _ _ h => h) (Or.inl ⟨by rfl, ?_⟩) hHeld ?_ ?_);(rotate_left)
 ·rintro w' ⟨s0, s1, s2, s3, s4⟩
  (go_simp);(with_reducible rfl)
 rotate_left
 ·simp only [Act.put, List.setIfInBounds_toArray, List.set_cons_zero, List.set_cons_succ, i64_w, i32_w]
  rfl
 (refine pure_ (i := 10) (N := some 20) (v := ?_) (a' := ?_) (dnA 15 2015) rfl rfl (any_of HT_.out (by kernel_rfl)) (fun _ _ _ h => h) (Or.inl ⟨by rfl, ?_⟩) ?_ ?_);(rotate_left)
 ·intro w'
  (go_simp);(with_reducible rfl)
 rotate_left
 ·simp only [Act.put, List.setIfInBounds_toArray, List.set_cons_zero, List.set_cons_succ, i64_w, i32_w]
  rfl
 (refine take_ (i := 11) (N := some 21) (v := ?_) (a' := ?_) (dnA 15 4063) rfl rfl (take_ofW HT_.out HW_.out (by kernel_rfl)) (fun _ _ _ h => h) (Or.inl ⟨by rfl, ?_⟩) hHeld ?_ ?_);(rotate_left)
 ·rintro w' ⟨s0, s1, s2, s3, s4⟩
  (go_simp);(with_reducible rfl)
 rotate_left
 ·simp only [Act.put, List.setIfInBounds_toArray, List.set_cons_zero, List.set_cons_succ, i64_w, i32_w]
  rfl
 (refine one_ (i := 5) (N := some 15) (dnA 15 4095) rfl rfl (one_of HT_.out (by kernel_rfl)) (by decide) (fun K hK => ?_));(refine goes_ Try.func100 (by kernel_rfl) rfl #[.float .f64 (rdOf (0 : Nat) l0_2 a1)] (by rfl) rfl rfl mA ?_);(with_reducible refine (fn_Ln.calls k (rdOf (0 : Nat) l0_2 a1) t196 _ A7.out).mono ?_)
 rintro e w17 ⟨rfl, hb⟩
 (refine ⟨_, rfl, ?_⟩);(have n0_ := Aside0.mk (blk_below (g := gb194) (o := .cells #[.int .i64 a0_0, .slice A0_1 l0_1.length c0_1, .slice (some ad195) l0_2.length c0_2] 86 (0, 0)) (kA BK194.out) hb));(have n1_ := Aside0.mk (below_step (bG HB.out) hb));(clear BK194);(clear HB);(have BK194 := n0_);(have HB := n1_);(clear n0_ n1_)
 (try clear hb)
 (try clear hb2)
 (try clear hk)
 (try clear hi)
 (refine hK.out _ _ ⟨(blk_cell BK194.out 0).trans rfl, (blk_cell BK194.out 1).trans rfl, (blk_cell BK194.out 2).trans rfl, ((HB.out.cell (World.block_lt_of_cell? w _ hw195_0)).trans hw195_0), ((HB.out.cell (World.block_lt_of_cell? w _ hw197_0)).trans hw197_0)⟩ (fun hHeld => ?_));(clear hK K);(refine norm_ (a' := ?_) ?_ ?_);(rotate_left)
 ·show Act.put _ (some 15) _ = _
  (simp only [Act.put, List.setIfInBounds_toArray, List.set_cons_zero, List.set_cons_succ, i64_w, i32_w]);(rfl)
 (refine one_ (i := 12) (N := some 22) (dnA 15 8191) rfl rfl (one_of HT_.out (by kernel_rfl)) (by decide) (fun K hK => ?_));(refine goes_ Try.func100 (by kernel_rfl) rfl #[.float .f64 (rdOf (0 : Nat) l0_2 (ji8))] (by rfl) rfl rfl (by (try simp only [List.map_toArray, List.map_cons, List.map_nil]); first | done | (simp only [hji8]; rfl) | rfl | (simp only [List.length_drop, List.length_take]; rfl)) ?_);(with_reducible refine (fn_Ln.calls k (rdOf (0 : Nat) l0_2 (ji8)) t198 _ A11.out).mono ?_)
 rintro e w18 ⟨rfl, hb⟩
 (refine ⟨_, rfl, ?_⟩);(have n0_ := Aside0.mk (blk_below (g := gb194) (o := .cells #[.int .i64 a0_0, .slice A0_1 l0_1.length c0_1, .slice (some ad195) l0_2.length c0_2] 86 (0, 0)) (kA BK194.out) hb));(have n1_ := Aside0.mk (below_step (bG HB.out) hb));(clear BK194);(clear HB);(have BK194 := n0_);(have HB := n1_);(clear n0_ n1_)
 (try clear hb)
 (try clear hb2)
 (try clear hk)
 (try clear hi)
 (refine hK.out _ _ ⟨(blk_cell BK194.out 0).trans rfl, (blk_cell BK194.out 1).trans rfl, (blk_cell BK194.out 2).trans rfl, ((HB.out.cell (World.block_lt_of_cell? w _ hw195_0)).trans hw195_0), ((HB.out.cell (World.block_lt_of_cell? w _ hw197_0)).trans hw197_0)⟩ (fun hHeld => ?_));(clear hK K);(refine norm_ (a' := ?_) ?_ ?_);(rotate_left)
 ·show Act.put _ (some 22) _ = _
  (simp only [Act.put, List.setIfInBounds_toArray, List.set_cons_zero, List.set_cons_succ, i64_w, i32_w]);(rfl)
 (refine one_ (i := 13) (N := some 23) (dnA 15 16383) rfl rfl (one_of HT_.out (by kernel_rfl)) (by decide) (fun K hK => ?_));(refine Kd.R_lit_step Kd.flt _ 35 ?hg (N := 23) ?hd (xs := ([t196, t198] : List Nat)) (inner := [.float .f64 t196, .float .f64 t198]) (ok := fun _ => True) (okp := fun _ => True) ?hr ?hp (fun _ hk => hk) trivial (Below.refl _ _) (Nat.le_refl _) (by simp) ?_; (case hd => rfl); (case hg => rfl); (case hr => first | (go_simp; done) | (go_simp; rfl)); (case hp => exact (Reps.one (show Kd.M Kd.flt _ _ _ t196 [.float .f64 t196] from rfl) (Reps.one (show Kd.M Kd.flt _ _ _ t198 [.float .f64 t198] from rfl) (Reps.none _ _)))));(intro v200 w19 ho20 hb hg_ hnew_);(clear hg_ hnew_)
 (first | rw [← Ny199.out] at ho20 | (simp only [Int.reduceToNat] at ho20; rw [← Ny199.out] at ho20))
 (have n0_ := Aside0.mk (Kd.R_lower ho20 (below_size (bG HB.out))));(have n1_ := Aside0.mk (blk_below (g := gb194) (o := .cells #[.int .i64 a0_0, .slice A0_1 l0_1.length c0_1, .slice (some ad195) l0_2.length c0_2] 86 (0, 0)) (kA BK194.out) hb));(have n2_ := Aside0.mk (below_step (bG HB.out) hb));(clear BK194);(clear HB);(have HO201 := n0_);(have BK194 := n1_);(have HB := n2_);(clear n0_ n1_ n2_);(clear hb ho20);(refine hK.out _ _ ⟨(blk_cell BK194.out 0).trans rfl, (blk_cell BK194.out 1).trans rfl, (blk_cell BK194.out 2).trans rfl, ((HB.out.cell (World.block_lt_of_cell? w _ hw195_0)).trans hw195_0), ((HB.out.cell (World.block_lt_of_cell? w _ hw197_0)).trans hw197_0)⟩ (fun hHeld => ?_));(clear hK K);(refine norm_ (a' := ?_) ?_ ?_);(rotate_left)
 ·show Act.put _ (some 23) _ = _
  (simp only [Act.put, List.setIfInBounds_toArray, List.set_cons_zero, List.set_cons_succ, i64_w, i32_w]);(rfl)
 (refine pure_ (i := 14) (N := some 9) (v := ?_) (a' := ?_) (dnA 15 32767) rfl rfl (any_of HT_.out (by kernel_rfl)) (fun _ _ _ h => h) (Or.inl ⟨by rfl, ?_⟩) ?_ ?_);(rotate_left)
 ·intro w'
  (go_simp);(with_reducible rfl)
 rotate_left
 ·simp only [Act.put, List.setIfInBounds_toArray, List.set_cons_zero, List.set_cons_succ, i64_w, i32_w]
  rfl
 (refine done_ (done_of HT_.out (by kernel_rfl)) ?_);(try go_wp2);(have n0_ := Aside0.mk (Kd.R_drew HO201.out));(have n1_ := Aside0.mk (blk_drew BK194.out));(have n2_ := Aside0.mk (below_drew1 HB.out));(clear HO201);(clear BK194);(clear HB);(have HO201 := n0_);(have BK194 := n1_);(have HB := n2_);(clear n0_ n1_ n2_);(have p207 : 0 ≤ (a1 : Int) := of_decide_eq_true asA);(have q207 : a1 < (l0_2.length : Int) := of_decide_eq_true asA);(obtain ⟨ad207, e207, hx207_0⟩ := Kd.at_flt HR0_2.out a1 p207 q207);(have hw207_0 := hx207_0);(obtain rfl : ad195 = ad207 := (by injection e207));(replace hx207_0 := (HB.out.cell (World.block_lt_of_cell? w _ hx207_0)).trans hx207_0);(replace p207 := eq_true p207);(replace q207 := eq_true q207);(have p208 : 0 ≤ ((ji8) : Int) := of_decide_eq_true asA);(have q208 : (ji8) < (l0_2.length : Int) := of_decide_eq_true asA);(obtain ⟨ad208, e208, hx208_0⟩ := Kd.at_flt HR0_2.out (ji8) p208 q208);(have hw208_0 := hx208_0);(obtain rfl : ad195 = ad208 := (by injection e208));(replace hx208_0 := (HB.out.cell (World.block_lt_of_cell? w _ hx208_0)).trans hx208_0);(replace p208 := eq_true p208);(replace q208 := eq_true q208);(refine start_ (n := 22) (S := fun w' => w'.cell? ⟨gb194, 0, none⟩ = some (.int .i64 a0_0) ∧ w'.cell? ⟨gb194, 1, none⟩ = some (.slice A0_1 l0_1.length c0_1) ∧ w'.cell? ⟨gb194, 2, none⟩ = some (.slice (some ad195) l0_2.length c0_2) ∧ w'.cell? (ad195.add (a1).toNat) = some (.float .f64 (rdOf (0 : Nat) l0_2 a1)) ∧ w'.cell? (ad195.add ((ji8)).toNat) = some (.float .f64 (rdOf (0 : Nat) l0_2 (ji8)))) (ds := []) (dnA 22 0) (by kernel_rfl) rfl rfl ⟨(blk_cell BK194.out 0).trans rfl, (blk_cell BK194.out 1).trans rfl, (blk_cell BK194.out 2).trans rfl, ((HB.out.cell (World.block_lt_of_cell? w _ hw207_0)).trans hw207_0), ((HB.out.cell (World.block_lt_of_cell? w _ hw208_0)).trans hw208_0)⟩ (fun hHeld => ?_); refine with_tabW interp_logs.tab2 interp_logs.bits2 (fun HT_ HW_ => ?_));(generalize w19.drew = w21 at HO201 BK194 HB hx207_0 hx208_0 hHeld ⊢);(refine pure_ (i := 0) (N := some 24) (v := ?_) (a' := ?_) (dnA 22 1) rfl rfl (any_of HT_.out (by kernel_rfl)) (fun _ _ _ h => h) (Or.inl ⟨by rfl, ?_⟩) ?_ ?_);(rotate_left)
 ·intro w'
  (go_simp);(with_reducible rfl)
 rotate_left
 ·simp only [Act.put, List.setIfInBounds_toArray, List.set_cons_zero, List.set_cons_succ, i64_w, i32_w]
  rfl
 (refine pure_ (i := 1) (N := some 25) (v := ?_) (a' := ?_) (dnA 22 3) rfl rfl (any_of HT_.out (by kernel_rfl)) (fun _ _ _ h => h) (Or.inl ⟨by rfl, ?_⟩) ?_ ?_);(rotate_left)
 ·intro w'
  (go_simp);(with_reducible rfl)
 rotate_left
 ·simp only [Act.put, List.setIfInBounds_toArray, List.set_cons_zero, List.set_cons_succ, i64_w, i32_w]
  rfl
 (refine pure_ (i := 2) (N := some 26) (v := ?_) (a' := ?_) (dnA 22 7) rfl rfl (any_of HT_.out (by kernel_rfl)) (fun _ _ _ h => h) (Or.inl ⟨by rfl, ?_⟩) ?_ ?_);(rotate_left)
 ·intro w'
  (go_simp);(with_reducible rfl)
 rotate_left
 ·simp only [Act.put, List.setIfInBounds_toArray, List.set_cons_zero, List.set_cons_succ, i64_w, i32_w]
  rfl
 (refine pure_ (i := 3) (N := some 27) (v := ?_) (a' := ?_) (dnA 22 15) rfl rfl (any_of HT_.out (by kernel_rfl)) (fun _ _ _ h => h) (Or.inl ⟨by rfl, ?_⟩) ?_ ?_);(rotate_left)
 ·intro w'
  (go_simp);(with_reducible rfl)
 rotate_left
 ·simp only [Act.put, List.setIfInBounds_toArray, List.set_cons_zero, List.set_cons_succ, i64_w, i32_w]
  rfl
 (refine pure_ (i := 4) (N := some 28) (v := ?_) (a' := ?_) (dnA 22 31) rfl rfl (any_of HT_.out (by kernel_rfl)) (fun _ _ _ h => h) (Or.inl ⟨by rfl, ?_⟩) ?_ ?_);(rotate_left)
 ·intro w'
  (go_simp);(with_reducible rfl)
 rotate_left
 ·simp only [Act.put, List.setIfInBounds_toArray, List.set_cons_zero, List.set_cons_succ, i64_w, i32_w]
  rfl
 (refine pure_ (i := 6) (N := some 30) (v := ?_) (a' := ?_) (dnA 22 95) rfl rfl (any_of HT_.out (by kernel_rfl)) (fun _ _ _ h => h) (Or.inl ⟨by rfl, ?_⟩) ?_ ?_);(rotate_left)
 ·intro w'
  (go_simp);(with_reducible rfl)
 rotate_left
 ·simp only [Act.put, List.setIfInBounds_toArray, List.set_cons_zero, List.set_cons_succ, i64_w, i32_w]
  rfl
 (refine pure_ (i := 9) (N := some 33) (v := ?_) (a' := ?_) (dnA 22 607) rfl rfl (any_of HT_.out (by kernel_rfl)) (fun _ _ _ h => h) (Or.inl ⟨by rfl, ?_⟩) ?_ ?_);(rotate_left)
 ·intro w'
  (go_simp);(with_reducible rfl)
 rotate_left
 ·simp only [Act.put, List.setIfInBounds_toArray, List.set_cons_zero, List.set_cons_succ, i64_w, i32_w]
  rfl
 (refine pure_ (i := 11) (N := some 35) (v := ?_) (a' := ?_) (dnA 22 2655) rfl rfl (any_of HT_.out (by kernel_rfl)) (fun _ _ _ h => h) (Or.inl ⟨by rfl, ?_⟩) ?_ ?_);(rotate_left)
 ·intro w'
  (go_simp);(with_reducible rfl)
 rotate_left
 ·simp only [Act.put, List.setIfInBounds_toArray, List.set_cons_zero, List.set_cons_succ, i64_w, i32_w]
  rfl
 (refine pure_ (i := 14) (N := some 38) (v := ?_) (a' := ?_) (dnA 22 19039) rfl rfl (any_of HT_.out (by kernel_rfl)) (fun _ _ _ h => h) (Or.inl ⟨by rfl, ?_⟩) ?_ ?_);(rotate_left)
 ·intro w'
  (go_simp);(with_reducible rfl)
 rotate_left
 ·simp only [Act.put, List.setIfInBounds_toArray, List.set_cons_zero, List.set_cons_succ, i64_w, i32_w]
  rfl
 (refine pure_ (i := 16) (N := some 40) (v := ?_) (a' := ?_) (dnA 22 84575) rfl rfl (any_of HT_.out (by kernel_rfl)) (fun _ _ _ h => h) (Or.inl ⟨by rfl, ?_⟩) ?_ ?_);(rotate_left)
 ·intro w'
  (go_simp);(with_reducible rfl)
 rotate_left
 ·simp only [Act.put, List.setIfInBounds_toArray, List.set_cons_zero, List.set_cons_succ, i64_w, i32_w]
  rfl
 (refine pure_ (i := 17) (N := some 41) (v := ?_) (a' := ?_) (dnA 22 215647) rfl rfl (any_of HT_.out (by kernel_rfl)) (fun _ _ _ h => h) (Or.inl ⟨by rfl, ?_⟩) ?_ ?_);(rotate_left)
 ·intro w'
  (go_simp);(with_reducible rfl)
 rotate_left
 ·simp only [Act.put, List.setIfInBounds_toArray, List.set_cons_zero, List.set_cons_succ, i64_w, i32_w]
  rfl
 (refine take_ (i := 10) (N := some 34) (v := ?_) (a' := ?_) (dnA 22 216671) rfl rfl (take_ofW HT_.out HW_.out (by kernel_rfl)) (fun _ _ _ h => h) (Or.inl ⟨by rfl, ?_⟩) hHeld ?_ ?_);(rotate_left)
 ·rintro w' ⟨s0, s1, s2, s3, s4⟩
  (go_simp);(with_reducible rfl)
 rotate_left
 ·simp only [Act.put, List.setIfInBounds_toArray, List.set_cons_zero, List.set_cons_succ, i64_w, i32_w]
  rfl
 (refine pure_ (i := 12) (N := some 36) (v := ?_) (a' := ?_) (dnA 22 220767) rfl rfl (any_of HT_.out (by kernel_rfl)) (fun _ _ _ h => h) (Or.inl ⟨by rfl, ?_⟩) ?_ ?_);(rotate_left)
 ·intro w'
  (go_simp);(with_reducible rfl)
 rotate_left
 ·simp only [Act.put, List.setIfInBounds_toArray, List.set_cons_zero, List.set_cons_succ, i64_w, i32_w]
  rfl
 (refine take_ (i := 13) (N := some 37) (v := ?_) (a' := ?_) (dnA 22 228959) rfl rfl (take_ofW HT_.out HW_.out (by kernel_rfl)) (fun _ _ _ h => h) (Or.inl ⟨by rfl, ?_⟩) hHeld ?_ ?_);(rotate_left)
 ·rintro w' ⟨s0, s1, s2, s3, s4⟩
  (go_simp);(with_reducible rfl)
 rotate_left
 ·simp only [Act.put, List.setIfInBounds_toArray, List.set_cons_zero, List.set_cons_succ, i64_w, i32_w]
  rfl
 (refine take_ (i := 15) (N := some 39) (v := ?_) (a' := ?_) (dnA 22 261727) rfl rfl (take_ofW HT_.out HW_.out (by kernel_rfl)) (fun _ _ _ h => h) (Or.inl ⟨by rfl, ?_⟩) hHeld ?_ ?_);(rotate_left)
 ·rintro w' ⟨s0, s1, s2, s3, s4⟩
  (go_simp);(with_reducible rfl)
 rotate_left
 ·simp only [Act.put, List.setIfInBounds_toArray, List.set_cons_zero, List.set_cons_succ, i64_w, i32_w]
  rfl
 (refine pure_ (i := 18) (N := some 42) (v := ?_) (a' := ?_) (dnA 22 523871) rfl rfl (any_of HT_.out (by kernel_rfl)) (fun _ _ _ h => h) (Or.inl ⟨by rfl, ?_⟩) ?_ ?_);(rotate_left)
 ·intro w'
  (go_simp);(with_reducible rfl)
 rotate_left
 ·simp only [Act.put, List.setIfInBounds_toArray, List.set_cons_zero, List.set_cons_succ, i64_w, i32_w]
  rfl
 (refine take_ (i := 19) (N := some 43) (v := ?_) (a' := ?_) (dnA 22 1048159) rfl rfl (take_ofW HT_.out HW_.out (by kernel_rfl)) (fun _ _ _ h => h) (Or.inl ⟨by rfl, ?_⟩) hHeld ?_ ?_);(rotate_left)
 ·rintro w' ⟨s0, s1, s2, s3, s4⟩
  (go_simp);(with_reducible rfl)
 rotate_left
 ·simp only [Act.put, List.setIfInBounds_toArray, List.set_cons_zero, List.set_cons_succ, i64_w, i32_w]
  rfl
 (refine one_ (i := 5) (N := some 29) (dnA 22 1048191) rfl rfl (one_of HT_.out (by kernel_rfl)) (by decide) (fun K hK => ?_));(refine Kd.R_lit_step (Kd.int .i64) _ 3 ?hg (N := 29) ?hd (xs := ([wrap64 (a3 - a2), a2] : List Int)) (inner := [.int .i64 (wrap64 (a3 - a2)), .int .i64 a2]) (ok := fun _ => True) (okp := fun _ => True) ?hr ?hp (fun _ hk => hk) trivial (Below.refl _ _) (Nat.le_refl _) (by simp) ?_; (case hd => rfl); (case hg => rfl); (case hr => first | (go_simp; done) | (go_simp; rfl)); (case hp => exact (Reps.one (show Kd.M (Kd.int .i64) _ _ _ (wrap64 (a3 - a2)) [.int .i64 (wrap64 (a3 - a2))] from rfl) (Reps.one (show Kd.M (Kd.int .i64) _ _ _ a2 [.int .i64 a2] from rfl) (Reps.none _ _)))));(intro v203 w22 ho23 hb hg_ hnew_);(clear hg_ hnew_)
 (first | rw [← Ny202.out] at ho23 | (simp only [Int.reduceToNat] at ho23; rw [← Ny202.out] at ho23))
 (have n0_ := Aside0.mk (Kd.R_below (rA HO201.out) hb));(have n1_ := Aside0.mk (Kd.R_lower ho23 (below_size (bG HB.out))));(have n2_ := Aside0.mk (blk_below (g := gb194) (o := .cells #[.int .i64 a0_0, .slice A0_1 l0_1.length c0_1, .slice (some ad195) l0_2.length c0_2] 86 (0, 0)) (kA BK194.out) hb));(have n3_ := Aside0.mk (below_step (bG HB.out) hb));(clear HO201);(clear BK194);(clear HB);(have HO201 := n0_);(have HO204 := n1_);(have BK194 := n2_);(have HB := n3_);(clear n0_ n1_ n2_ n3_);(clear hb ho23);(obtain ⟨Ao24, co24, eo24⟩ := Kd.R_slice HO204.out)
 (first | subst eo24 | (injection eo24 with f1_ f2_ f3_; have f4_ := f1_.symm; have f5_ := f3_.symm; clear f1_ f2_ f3_; subst f4_; subst f5_))
 obtain ⟨Ao25, co25, eo25⟩ := Kd.R_slice HO201.out
 (first | subst eo25 | (injection eo25 with f1_ f2_ f3_; have f4_ := f1_.symm; have f5_ := f3_.symm; clear f1_ f2_ f3_; subst f4_; subst f5_))
 (refine hK.out _ _ ⟨(blk_cell BK194.out 0).trans rfl, (blk_cell BK194.out 1).trans rfl, (blk_cell BK194.out 2).trans rfl, ((HB.out.cell (World.block_lt_of_cell? w _ hw207_0)).trans hw207_0), ((HB.out.cell (World.block_lt_of_cell? w _ hw208_0)).trans hw208_0)⟩ (fun hHeld => ?_));(clear hK K);(refine norm_ (a' := ?_) ?_ ?_);(rotate_left)
 ·show Act.put _ (some 29) _ = _
  (simp only [Act.put, List.setIfInBounds_toArray, List.set_cons_zero, List.set_cons_succ, i64_w, i32_w]);(rfl)
 (refine one_ (i := 7) (N := some 31) (dnA 22 1048319) rfl rfl (one_of HT_.out (by kernel_rfl)) (by decide) (fun K hK => ?_));(refine goes_ Try.func98 (by kernel_rfl) rfl #[.int .i64 a3, .slice Ao24 y202.length co24, .slice Ao25 y199.length co25] (by rfl) rfl rfl mA ?_);(with_reducible refine (interp_over.calls a3 _ _ y202 _ _ y199 t205 _ ?side1 ?side2 ?side3 ?side4 A12.out).mono ?_)
 (case side1 => exact cA ((Kd.R_reads' HO204.out).2.2))
 (case side2 => exact (Kd.R_reads' HO204.out).2.1)
 (case side3 => exact cA ((Kd.R_reads' HO201.out).2.2))
 (case side4 => exact (Kd.R_reads' HO201.out).2.1)
 rintro e w26 ⟨rfl, hb⟩
 (refine ⟨_, rfl, ?_⟩);(have n0_ := Aside0.mk (Kd.R_below (rA HO201.out) hb));(have n1_ := Aside0.mk (Kd.R_below (rA HO204.out) hb));(have n2_ := Aside0.mk (blk_below (g := gb194) (o := .cells #[.int .i64 a0_0, .slice A0_1 l0_1.length c0_1, .slice (some ad195) l0_2.length c0_2] 86 (0, 0)) (kA BK194.out) hb));(have n3_ := Aside0.mk (below_step (bG HB.out) hb));(clear HO201);(clear HO204);(clear BK194);(clear HB);(have HO201 := n0_);(have HO204 := n1_);(have BK194 := n2_);(have HB := n3_);(clear n0_ n1_ n2_ n3_)
 (try clear hb)
 (try clear hb2)
 (try clear hk)
 (try clear hi)
 (refine hK.out _ _ ⟨(blk_cell BK194.out 0).trans rfl, (blk_cell BK194.out 1).trans rfl, (blk_cell BK194.out 2).trans rfl, ((HB.out.cell (World.block_lt_of_cell? w _ hw207_0)).trans hw207_0), ((HB.out.cell (World.block_lt_of_cell? w _ hw208_0)).trans hw208_0)⟩ (fun hHeld => ?_));(clear hK K);(refine norm_ (a' := ?_) ?_ ?_);(rotate_left)
 ·show Act.put _ (some 31) _ = _
  (simp only [Act.put, List.setIfInBounds_toArray, List.set_cons_zero, List.set_cons_succ, i64_w, i32_w]);(rfl)
 (refine one_ (i := 8) (N := some 32) (dnA 22 1048575) rfl rfl (one_of HT_.out (by kernel_rfl)) (by decide) (fun K hK => ?_));(refine goes_ Try.func37 (by kernel_rfl) rfl #[.float .f64 t205] (by rfl) rfl rfl mA ?_);(with_reducible refine (fn_Exp.calls k t205 t206 _ A13.out).mono ?_)
 rintro e w27 ⟨rfl, hb⟩
 (refine ⟨_, rfl, ?_⟩);(have n0_ := Aside0.mk (Kd.R_below (rA HO201.out) hb));(have n1_ := Aside0.mk (Kd.R_below (rA HO204.out) hb));(have n2_ := Aside0.mk (blk_below (g := gb194) (o := .cells #[.int .i64 a0_0, .slice A0_1 l0_1.length c0_1, .slice (some ad195) l0_2.length c0_2] 86 (0, 0)) (kA BK194.out) hb));(have n3_ := Aside0.mk (below_step (bG HB.out) hb));(clear HO201);(clear HO204);(clear BK194);(clear HB);(have HO201 := n0_);(have HO204 := n1_);(have BK194 := n2_);(have HB := n3_);(clear n0_ n1_ n2_ n3_)
 (try clear hb)
 (try clear hb2)
 (try clear hk)
 (try clear hi)
 (refine hK.out _ _ ⟨(blk_cell BK194.out 0).trans rfl, (blk_cell BK194.out 1).trans rfl, (blk_cell BK194.out 2).trans rfl, ((HB.out.cell (World.block_lt_of_cell? w _ hw207_0)).trans hw207_0), ((HB.out.cell (World.block_lt_of_cell? w _ hw208_0)).trans hw208_0)⟩ (fun hHeld => ?_));(clear hK K);(refine norm_ (a' := ?_) ?_ ?_);(rotate_left)
 ·show Act.put _ (some 32) _ = _
  (simp only [Act.put, List.setIfInBounds_toArray, List.set_cons_zero, List.set_cons_succ, i64_w, i32_w]);(rfl)
 (refine one_ (i := 20) (N := some 44) (dnA 22 2097151) rfl rfl (one_of HT_.out (by kernel_rfl)) (by decide) (fun K hK => ?_));(refine goes_ Try.func101 (by kernel_rfl) rfl #[.float .f64 t206, .float .f64 (rdOf (0 : Nat) l0_2 a1), .float .f64 (rdOf (0 : Nat) l0_2 (ji8))] (by rfl) rfl rfl (by (try simp only [List.map_toArray, List.map_cons, List.map_nil]); first | done | (simp only [hji8]; rfl) | rfl | (simp only [List.length_drop, List.length_take]; rfl)) ?_);(with_reducible refine (interp_held.calls k t206 (rdOf (0 : Nat) l0_2 a1) (rdOf (0 : Nat) l0_2 (ji8)) t209 _ A14.out).mono ?_)
 rintro e w' ⟨rfl, ⟨nd, rfl⟩⟩
 (refine ⟨_, rfl, ?_⟩);(refine hK.out _ _ ⟨(blk_cell BK194.out 0).trans rfl, (blk_cell BK194.out 1).trans rfl, (blk_cell BK194.out 2).trans rfl, ((HB.out.cell (World.block_lt_of_cell? w _ hw207_0)).trans hw207_0), ((HB.out.cell (World.block_lt_of_cell? w _ hw208_0)).trans hw208_0)⟩ (fun hHeld => ?_));(clear hK K);(refine norm_ (a' := ?_) ?_ ?_);(rotate_left)
 ·show Act.put _ (some 44) _ = _
  (simp only [Act.put, List.setIfInBounds_toArray, List.set_cons_zero, List.set_cons_succ, i64_w, i32_w]);(rfl)
 (refine pure_ (i := 21) (N := some 8) (v := ?_) (a' := ?_) (dnA 22 4194303) rfl rfl (any_of HT_.out (by kernel_rfl)) (fun _ _ _ h => h) (Or.inl ⟨by rfl, ?_⟩) ?_ ?_);(rotate_left)
 ·intro w'
  (go_simp);(with_reducible rfl)
 rotate_left
 ·simp only [Act.put, List.setIfInBounds_toArray, List.set_cons_zero, List.set_cons_succ, i64_w, i32_w]
  rfl
 (refine done_ (done_of HT_.out (by kernel_rfl)) ?_);(try go_wp2);(go_ret);(exact ⟨by first | rfl | (simp [errW_none, errW_some] <;> rfl) | (simp only [← hji8]; first | rfl | (simp [errW_none, errW_some] <;> rfl)) | (simp [*, errW_none, errW_some] <;> rfl), bG HB.out⟩)

end Go.Proofs.Ythkcphdhmkcdkaa.FP
