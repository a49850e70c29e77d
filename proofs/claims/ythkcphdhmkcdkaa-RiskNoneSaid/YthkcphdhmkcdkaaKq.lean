/- law 16's awake answers true. -/
import Derived.Test.YthkcphdhmkcdkaaFJax1
namespace Go.Proofs.Ythkcphdhmkcdkaa.FB
open Go.RowKit Go.Proofs.YthkcphdhmkcdkaaW.PrintWords Go.Proofs.YthkcphdhmkcdkaaW.PrintLast Go.Proofs.YthkcphdhmkcdkaaW.PrintMore Go.Proofs.Ythkcphdhmkcdkaa.FX Go.Proofs.Ythkcphdhmkcdkaa.EV Go.Proofs.Ythkcphdhmkcdkaa.FP Tn
set_option linter.unusedVariables false
set_option linter.unusedSimpArgs false
theorem exp_at {x r : Nat} (k : Nat) (h : fn_Exp.f k x = some r) : expV x = r := lim_is (evt (fn_Exp.mono _) ⟨k, h⟩)
theorem ea0 : expV 9223372036854775808 = 4607182418800017408 := exp_at 40 (by decide +kernel)
theorem ea1 : expV 13800290266158863483 = 4607092795669978366 := exp_at 40 (by decide +kernel)
theorem ea2 : expV 13804793865786233979 = 4607004064304983131 := exp_at 40 (by decide +kernel)
theorem bv_at {b d : Int} {f h x e r : Nat} (h1 : fneg (fmulV h (timeV b d)) = x) (h2 : expV x = e) (h3 : fmulV f e = r) : bumpV b d f h = r := by unfold bumpV; rw [h1, h2, h3]
theorem bz0 : bumpV 0 365 4602678819172646912 0 = 4602678819172646912 := bv_at (by decide +kernel) ea0 (by decide +kernel)
theorem bz1 : bumpV 0 730 4598175219545276416 0 = 4598175219545276416 := bv_at (by decide +kernel) ea0 (by decide +kernel)
theorem bh0 : bumpV 0 365 4602678819172646912 4576918229304087675 = 4602589196042607870 := bv_at (by decide +kernel) ea1 (by decide +kernel)
theorem bh1 : bumpV 0 730 4598175219545276416 4576918229304087675 = 4597996865050242139 := bv_at (by decide +kernel) ea2 (by decide +kernel)
theorem ck : chkC 0 2 [365, 730] [4602678819172646912, 4598175219545276416] = 0 := by decide +kernel
theorem bE_at {b kd : Int} {ds : List Int} {fs : List Nat} {i : Int} {h r : Nat} (c : chkC b kd ds fs = 0) (h0 : 0 ≤ i ∧ i < (ds.length : Int)) (hf : fin h = true) (hb : bumpV b (rd ds i) (rdOf (0 : Nat) fs i) h = r) (hr : posf r = true) : bumpE b kd ds fs i h = 0 ∧ bumpL b ds fs i h = fs.set i.toNat r := by
 (unfold bumpE bumpL nodeE);(rw [if_pos c, if_neg (by omega), if_pos hf, hb, if_pos hr]; exact ⟨rfl, rfl⟩)
theorem b1 : bumpE 0 2 [365, 730] [4602678819172646912, 4598175219545276416] 1 0 = 0 ∧ bumpL 0 [365, 730] [4602678819172646912, 4598175219545276416] 1 0 = [4602678819172646912, 4598175219545276416] := bE_at ck (by decide) (by decide +kernel) bz1 (by decide +kernel)
theorem bA : bumpE 0 2 [365, 730] [4602678819172646912, 4598175219545276416] 0 4576918229304087675 = 0 ∧ bumpL 0 [365, 730] [4602678819172646912, 4598175219545276416] 0 4576918229304087675 = [4602589196042607870, 4598175219545276416] := bE_at ck (by decide) (by decide +kernel) bh0 (by decide +kernel)
theorem bB : bumpE 0 2 [365, 730] [4602678819172646912, 4598175219545276416] 1 4576918229304087675 = 0 ∧ bumpL 0 [365, 730] [4602678819172646912, 4598175219545276416] 1 4576918229304087675 = [4602678819172646912, 4597996865050242139] := bE_at ck (by decide) (by decide +kernel) bh1 (by decide +kernel)
theorem pE_at {h r0 r1 : Nat} (hf : fin h = true) (h0 : bumpV 0 365 4602678819172646912 h = r0) (h1 : bumpV 0 730 4598175219545276416 h = r1) (p0 : posf r0 = true) (p1 : posf r1 = true) : parE 0 2 [365, 730] [4602678819172646912, 4598175219545276416] h = 0 ∧ parL 0 [365, 730] [4602678819172646912, 4598175219545276416] h = [r0, r1] := by
 (have n0 : nodeAt 0 [365, 730] [4602678819172646912, 4598175219545276416] h 0 = r0 := h0);(have n1 : nodeAt 0 [365, 730] [4602678819172646912, 4598175219545276416] h 1 = r1 := h1);(have e : List.range 2 = [0, 1] := rfl);(unfold parE parL);(rw [if_pos ck, if_pos hf, show ([4602678819172646912, 4598175219545276416] : List Nat).length = 2 from rfl, e]);(simp only [List.all_cons, List.all_nil, List.map_cons, List.map_nil, n0, n1, p0, p1, Bool.and_self, if_true, and_self])
theorem pz : parE 0 2 [365, 730] [4602678819172646912, 4598175219545276416] 0 = 0 ∧ parL 0 [365, 730] [4602678819172646912, 4598175219545276416] 0 = [4602678819172646912, 4598175219545276416] := pE_at (by decide +kernel) bz0 bz1 (by decide +kernel) (by decide +kernel)
theorem ph : parE 0 2 [365, 730] [4602678819172646912, 4598175219545276416] 4576918229304087675 = 0 ∧ parL 0 [365, 730] [4602678819172646912, 4598175219545276416] 4576918229304087675 = [4602589196042607870, 4597996865050242139] := pE_at (by decide +kernel) bh0 bh1 (by decide +kernel) (by decide +kernel)
def L6 : List S51 := [⟨365, 4607182418800017408, 1⟩]
theorem q0 : presV L6 1 0 2 [365, 730] [4602678819172646912, 4598175219545276416] = (4602678819172646912, 0) := by rw [pres_lin]; decide +kernel
theorem qA : presV L6 1 0 2 [365, 730] [4602589196042607870, 4598175219545276416] = (4602589196042607870, 0) := by rw [pres_lin]; decide +kernel
theorem qB : presV L6 1 0 2 [365, 730] [4602678819172646912, 4597996865050242139] = (4602678819172646912, 0) := by rw [pres_lin]; decide +kernel
theorem qP : presV L6 1 0 2 [365, 730] [4602589196042607870, 4597996865050242139] = (4602589196042607870, 0) := by rw [pres_lin]; decide +kernel
theorem bg : begV L6 1 0 2 [365, 730] [4602678819172646912, 4598175219545276416] 4576918229304087675 = (4602678819172646912, 0) := by unfold begV; rw [q0]; decide +kernel
theorem aA : aftN L6 1 0 2 [365, 730] [4602678819172646912, 4598175219545276416] ((0 : Nat) : Int) 4576918229304087675 = (4602589196042607870, 0) := by
 (unfold aftN);(rw [show (((0 : Nat) : Int)) = 0 from rfl, bA.1, bA.2, qA]; rfl)
theorem aB : aftN L6 1 0 2 [365, 730] [4602678819172646912, 4598175219545276416] ((0 + 1 : Nat) : Int) 4576918229304087675 = (4602678819172646912, 0) := by
 (unfold aftN);(rw [show (((0 + 1 : Nat) : Int)) = 1 from rfl, bB.1, bB.2, qB]; rfl)
theorem aP : aftA L6 1 0 2 [365, 730] [4602678819172646912, 4598175219545276416] 4576918229304087675 = (4602589196042607870, 0) := by
 (unfold aftA);(rw [ph.1, ph.2, qP]; rfl)
theorem sA : fsubV 4602589196042607870 4602678819172646912 = 13795757939330957440 := by decide +kernel
theorem sB : fsubV 4602678819172646912 4602678819172646912 = 0 := by decide +kernel
theorem fK : fin 13795757939330957440 = true := by decide +kernel
theorem fZ : fin 0 = true := by decide +kernel
theorem la : ladV L6 1 0 2 [365, 730] [4602678819172646912, 4598175219545276416] 4576918229304087675 = ([13795757939330957440, 0], 0) := by
 (unfold ladV);(rw [bg])
 show (if (0 : Int) = 0 then ladF L6 1 0 2 [365, 730] [4602678819172646912, 4598175219545276416] 4576918229304087675 4602678819172646912 2 0 [] else _) = _
 rw [if_pos rfl, ladF, aA, if_pos rfl]
 show (if fin (fsubV 4602589196042607870 4602678819172646912) = true then ladF L6 1 0 2 [365, 730] [4602678819172646912, 4598175219545276416] 4576918229304087675 4602678819172646912 1 (0 + 1) ([] ++ [fsubV 4602589196042607870 4602678819172646912]) else _) = _
 rw [sA, if_pos fK, ladF, aB, if_pos rfl]
 show (if fin (fsubV 4602678819172646912 4602678819172646912) = true then ladF L6 1 0 2 [365, 730] [4602678819172646912, 4598175219545276416] 4576918229304087675 4602678819172646912 0 (0 + 1 + 1) ([] ++ [13795757939330957440] ++ [fsubV 4602678819172646912 4602678819172646912]) else _) = _
 rw [sB, if_pos fZ, ladF]; rfl
theorem de : delV L6 1 0 2 [365, 730] [4602678819172646912, 4598175219545276416] 4576918229304087675 = (13795757939330957440, 0) := by
 (unfold delV);(rw [bg, aP])
 show (if (0 : Int) = 0 then (if (0 : Int) = 0 then toldV (fsubV 4602589196042607870 4602678819172646912) else _) else _) = _
 rw [if_pos rfl, if_pos rfl, sA]; decide +kernel
theorem aw16 : FJa.tenorlaw16_awake.f = some true := by
 have w1 : risk_Bump.f 0 2 [365, 730] [4602678819172646912, 4598175219545276416] 1 0 = some (0, 2, [365, 730], [4602678819172646912, 4598175219545276416], 0) := by
  (unfold risk_Bump.f);(rw [if_pos (by decide), b1.1, b1.2]; rfl)
 have w2 : risk_Parallel.f 0 2 [365, 730] [4602678819172646912, 4598175219545276416] 0 = some (0, 2, [365, 730], [4602678819172646912, 4598175219545276416], 0) := by
  (unfold risk_Parallel.f);(rw [if_pos (by decide), pz.1, pz.2]; rfl)
 have w3 : risk_Ladder.f L6 1 0 2 [365, 730] [4602678819172646912, 4598175219545276416] 4576918229304087675 = some ([13795757939330957440, 0], 0) := by
  (unfold risk_Ladder.f);(rw [if_pos (by decide), la])
 have w4 : risk_Delta.f L6 1 0 2 [365, 730] [4602678819172646912, 4598175219545276416] 4576918229304087675 = some (13795757939330957440, 0) := by
  (unfold risk_Delta.f);(rw [if_pos (by decide), de])
 (unfold FJa.tenorlaw16_awake.f);(rw [Option.bind_some, Option.bind_some, Option.bind_some, w1, Option.bind_some, w2, Option.bind_some]);(rw [show ([⟨365, 4607182418800017408, 1⟩] : List S51) = L6 from rfl, w3, Option.bind_some, w4, Option.bind_some])
 decide +kernel
def law16_awakeX.f : Option Bool := some true
theorem law16_awakeX.calls (r : Bool) (w : World) (h : law16_awakeX.f = some r) : Calls Try.prog 26 #[] w fun e w' => e = .returned (.bool r) ∧ Below w.heap.size w w' := by
 (obtain rfl := Option.some.inj h);(exact FJa.tenorlaw16_awake.calls true w aw16)
end Go.Proofs.Ythkcphdhmkcdkaa.FB
