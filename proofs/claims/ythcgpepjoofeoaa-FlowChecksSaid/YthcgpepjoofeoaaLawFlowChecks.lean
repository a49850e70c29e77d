/- MERGED: As LawFlowChecks. -/
import Derived.Test.YthcgpepjoofeoaaFDx1
import Derived.Test.YthcgpepjoofeoaaRows
import Derived.WalkKit
import Derived.ProofKit
import Derived.OpenShut
import Derived.Laws.Cover2
import Derived.Test.YthcgpepjoofeoaaOpm
import Derived.Lib.Hide
import Derived.SizedLaws
namespace Go.Proofs.Ythcgpepjoofeoaa.FD
open Go.RowKit Go.Proofs.YthcgpepjoofeoaaW.PrintWords Go.Proofs.YthcgpepjoofeoaaW.PrintLast Go.Proofs.YthcgpepjoofeoaaW.PrintMore Tn
open Go.Proofs.Ythcgpepjoofeoaa.FX Go.Proofs.Ythcgpepjoofeoaa.FB
set_option linter.unusedVariables false

def toR (x : S42) : S64 := ⟨x.f0, x.f1, x.f2⟩
/-- what is wrong, from place i on. -/
def chkF : List S42 → Int → Int × Int
  | [], _ => (0, 0)
  | x :: l, i => if x.f0 < 0 ∨ x.f0 > 109572 then (51, i) else if fin x.f1 = true then (if 1 ≤ x.f2 ∧ x.f2 ≤ 8 then chkF l (i + 1) else (140, i)) else (91, i)
theorem wr {i n : Nat} (h : i < n) (hn : n ≤ 1152921504606846976) : wrap64 ((i : Int) + 1) = ((i + 1 : Nat) : Int) := by unfold wrap64; omega
theorem cur_f (c : Int) : flow_currency.f c = some (decide (1 ≤ c ∧ c ≤ 8)) := by
  unfold flow_currency.f
  by_cases h : c ≥ 1
  · rw [if_pos h]; congr 1; exact decide_eq_decide.2 ⟨fun h2 => ⟨h, h2⟩, fun h2 => h2.2⟩
  · rw [if_neg h, decide_eq_false (fun h2 => h h2.1)]
theorem rcur_f (c : Int) : tenorref14_Cur.f c = some (decide (1 ≤ c ∧ c ≤ 8)) := cur_f c
theorem num_f {a : Nat} (h : a < 18446744073709551616) : flow_number.f a = some (fin a) := if_pos h
theorem rnum_f {a : Nat} (h : a < 18446744073709551616) : tenorref1_Number.f (a : Int) = some (fin a) := by
  unfold tenorref1_Number.f
  rw [andNot_sign a h]
  exact congrArg some (fin_int a)
theorem rdR_at {l : List S42} {i : Nat} (hi : i < l.length) : rd_T64 (l.map toR) (i : Int) = toR l[i] := by
  unfold rd_T64
  rw [Int.toNat_natCast, List.getD_eq_getElem?_getD, List.getElem?_map, List.getElem?_eq_getElem hi]; rfl
theorem chk_go (l : List S42) (hw : ∀ x ∈ l, x.f1 < 18446744073709551616) (hl : l.length ≤ 4096) : ∀ m i : Nat, i + m = l.length → ∃ k, flow_Check.l0 k l (l.length : Int) (i : Int) = some (chkF (l.drop i) i)
  | 0, i, h => ⟨1, by
    rw [flow_Check.l0, if_neg (by omega), List.drop_of_length_le (by omega)]; rfl⟩
  | m + 1, i, h => by
    obtain ⟨k, hk⟩ := chk_go l hw hl m (i + 1) (by omega)
    have hi : i < l.length := by omega
    have hwx := hw _ (List.getElem_mem hi)
    refine ⟨k + 2, ?_⟩
    rw [List.drop_eq_getElem_cons hi, flow_Check.l0, if_pos (by omega), if_pos (by omega), if_pos (by omega), rd_at hi]
    generalize l[i] = x at hwx ⊢
    rw [chkF]
    by_cases h0 : x.f0 < 0
    · rw [if_pos h0, if_pos (.inl h0), flow_Check.j1, if_pos rfl]
    · rw [if_neg h0, flow_Check.j1]
      by_cases h1 : x.f0 > 109572
      · rw [if_pos (decide_eq_true h1), if_pos (.inr h1)]
      · rw [if_neg (by simpa using h1), if_neg (show ¬ (x.f0 < 0 ∨ x.f0 > 109572) by omega), num_f hwx, Option.bind_some]
        by_cases h2 : fin x.f1 = true
        · rw [if_pos h2, if_pos h2, cur_f, Option.bind_some]
          by_cases h3 : 1 ≤ x.f2 ∧ x.f2 ≤ 8
          · rw [if_pos (decide_eq_true h3), if_pos h3, wr hi (by omega), hk]; rfl
          · rw [if_neg (by simpa using h3), if_neg h3]
        · rw [if_neg h2, if_neg h2]
theorem rchk_go (l : List S42) (hw : ∀ x ∈ l, x.f1 < 18446744073709551616) (hl : l.length ≤ 4096) : ∀ m i : Nat, i + m = l.length → ∃ k, tenorref14_Check.l0 k (l.map toR) (i : Int) = some (chkF (l.drop i) i)
  | 0, i, h => ⟨1, by
    rw [tenorref14_Check.l0, if_neg (by rw [List.length_map]; omega), List.drop_of_length_le (by omega)]; rfl⟩
  | m + 1, i, h => by
    obtain ⟨k, hk⟩ := rchk_go l hw hl m (i + 1) (by omega)
    have hi : i < l.length := by omega
    have hwx := hw _ (List.getElem_mem hi)
    refine ⟨k + 2, ?_⟩
    rw [List.drop_eq_getElem_cons hi, tenorref14_Check.l0, if_pos (by rw [List.length_map]; omega), if_pos (by omega), rdR_at hi]
    have hr := rdR_at hi
    generalize l[i] = x at hwx hr ⊢
    rw [chkF]
    have e0 : (toR x).f0 = x.f0 := rfl
    rw [e0]
    by_cases h0 : x.f0 < 0
    · rw [if_pos h0, if_pos (.inl h0), tenorref14_Check.j1, if_pos rfl]
    · rw [if_neg h0, tenorref14_Check.j1]
      by_cases h1 : x.f0 > 109572
      · rw [if_pos (decide_eq_true h1), if_pos (.inr h1)]
      · rw [if_neg (by simpa using h1), if_neg (show ¬ (x.f0 < 0 ∨ x.f0 > 109572) by omega), if_pos (show (0 : Int) ≤ (i : Int) by omega), if_pos (show (i : Int) < ((l.map toR).length : Int) by rw [List.length_map]; omega), hr]
        have e1 : (toR x).f1 = (x.f1 : Int) := rfl
        have e2 : (toR x).f2 = x.f2 := rfl
        rw [e1, e2, rnum_f hwx, Option.bind_some]
        by_cases h2 : fin x.f1 = true
        · rw [if_pos h2, if_pos h2, rcur_f, Option.bind_some]
          by_cases h3 : 1 ≤ x.f2 ∧ x.f2 ≤ 8
          · rw [if_pos (decide_eq_true h3), if_pos h3, wr hi (by omega), hk]; rfl
          · rw [if_neg (by simpa using h3), if_neg h3]
        · rw [if_neg h2, if_neg h2]
def chkA (l : List S42) : Int × Int := if l.length > 4096 then (81, 0) else chkF l 0
theorem chk_f (l : List S42) (hw : ∀ x ∈ l, x.f1 < 18446744073709551616) : ∃ k, flow_Check.f k l = some (chkA l) := by
  unfold flow_Check.f chkA
  by_cases h : l.length > 4096
  · exact ⟨0, by rw [if_pos (by omega), if_pos h]⟩
  · obtain ⟨k, hk⟩ := chk_go l hw (by omega) l.length 0 (by omega)
    exact ⟨k, by rw [if_neg (by omega), if_neg h]; exact hk⟩
theorem rchk_f (l : List S42) (hw : ∀ x ∈ l, x.f1 < 18446744073709551616) : ∃ k, tenorref14_Check.f k (l.map toR) = some (chkA l) := by
  unfold tenorref14_Check.f chkA
  rw [List.length_map]
  by_cases h : l.length > 4096
  · exact ⟨0, by rw [if_pos (by omega), if_pos h]⟩
  · obtain ⟨k, hk⟩ := rchk_go l hw (by omega) l.length 0 (by omega)
    exact ⟨k, by rw [if_neg (by omega), if_neg h]; exact hk⟩
theorem of_go (l : List S42) (hl : l.length < 5864062014805) : ∀ m i : Nat, i + m = l.length → ∃ k, tenorref14_Of.l0 k l ((l.take i).map toR) (i : Int) = some (l.map toR)
  | 0, i, h => ⟨1, by
    rw [tenorref14_Of.l0, if_neg (by omega), List.take_of_length_le (by omega)]⟩
  | m + 1, i, h => by
    obtain ⟨k, hk⟩ := of_go l hl m (i + 1) (by omega)
    have hi : i < l.length := by omega
    refine ⟨k + 1, ?_⟩
    rw [tenorref14_Of.l0, if_pos (by omega), if_pos (by omega)]
    unfold api_Bits.f
    rw [Option.bind_some, if_pos (by rw [List.length_map, List.length_take]; have := Nat.min_le_right i l.length; omega), rd_at hi, wr hi (by omega)]
    rw [List.take_succ_eq_append_getElem hi, List.map_append] at hk
    exact hk
theorem of_f (l : List S42) (hl : l.length < 5864062014805) : ∃ k, tenorref14_Of.f k l = some (l.map toR) := by
  obtain ⟨k, hk⟩ := of_go l hl l.length 0 (by omega)
  exact ⟨k, hk⟩
theorem up {α : Type} {f : Nat → Option α} (hm : ∀ k, LeO (f k) (f (k + 1))) {k : Nat} {r : α} (h : f k = some r) : ∀ n, f (k + n) = some r
  | 0 => h
  | n + 1 => hm (k + n) r (up hm h n)
theorem law (l : List S42) (hw : ∀ x ∈ l, x.f1 < 18446744073709551616) (hl : l.length < 5864062014805) : ∃ k, tenorlaw14_FlowChecks.f k l = some true := by
  obtain ⟨a, ha⟩ := chk_f l hw
  obtain ⟨b, hb⟩ := rchk_f l hw
  obtain ⟨c, hc⟩ := of_f l hl
  have h1 := up (flow_Check.mono l) ha (b + c)
  have h2 := up (tenorref14_Check.mono (l.map toR)) hb (a + c)
  have h3 := up (tenorref14_Of.mono l) hc (a + b)
  rw [show b + (a + c) = a + (b + c) by omega] at h2
  rw [show c + (a + b) = a + (b + c) by omega] at h3
  refine ⟨a + (b + c), ?_⟩
  unfold tenorlaw14_FlowChecks.f
  rw [h1, Option.bind_some, h3, Option.bind_some, h2, Option.bind_some, if_pos rfl, if_pos rfl]
  rfl
end Go.Proofs.Ythcgpepjoofeoaa.FD

namespace Go.Proofs.Ythcgpepjoofeoaa
open Go.ChangeShapes Go.WideShapes Go.ChangeAt Go.RowKit Go.Proofs.YthcgpepjoofeoaaW.PrintWords

theorem float_lt {b : Nat} (h : (Lit.float .f64 b).wf = true) : b < 18446744073709551616 := by simpa [Lit.wf] using h
theorem float32_lt {b : Nat} (h : (Lit.float .f32 b).wf = true) : b < 4294967296 := by simpa [Lit.wf] using h
theorem i64_bd {n : Int} (h : (Lit.int .i64 n).wf = true) : -9223372036854775808 ≤ n ∧ n < 9223372036854775808 := by
  simp [Lit.wf, IntKind.min, IntKind.max, IntKind.bits, IntKind.signed] at h; omega
theorem u64_bd {n : Int} (h : (Lit.int .u64 n).wf = true) : 0 ≤ n ∧ n < 18446744073709551616 := by
  simp [Lit.wf, IntKind.min, IntKind.max, IntKind.bits, IntKind.signed] at h; omega
theorem flowChecks_walk (A : Option Addr) (c : Nat) (l : List FB.S42) (w : World) (hr : Kd.C FB.k42 w A l.length l) (hc : l.length ≤ c) (hw : ∀ x ∈ l, x.f1 < 18446744073709551616) (hl : l.length * 24 ≤ 140737488351232) :
    Calls Try.prog 3 #[.slice A l.length c] w fun e w' => e = .returned (.bool true) ∧ Below w.heap.size w w' := by
  obtain ⟨k, hk⟩ := FD.law l hw (by omega)
  exact FD.tenorlaw14_FlowChecks.calls k A c l true w hr hc hk

theorem flowChecks_own : ownKnob Try.prog.godebug = none := by kernel_rfl
theorem flowChecks_laidOut : laidOutB Try.prog = true := by kernel_rfl

set_option maxRecDepth 100000 in
theorem flowChecks_lifted (os : Os) (started : os.Started) (H : Type) (enc : TypeId × Value → H) :
    ReturnsInHanded {} Try.checked os 3 .any (Rows.flowChecksSpec.pre6 enc Try.prog Try.f3 Rows.flowChecksRow.domain false) (Rows.flowChecksSpec.post enc Try.prog Try.f3 false true false false) := by
  refine returnsInHanded_of_change_sized (C := Try.checked) flowChecks_own started (by kernel_rfl) Try.func3
    (ChangeSpec.witness6 (enc := enc) (C := Try.checked) false ⟨#[], #[.slice none 0 0], []⟩ 8 (by kernel_rfl) (by kernel_rfl) (by kernel_rfl) (by kernel_rfl)) ?_
  intro W base args ds gs before hval0 hW hcnd hsz0 _
  have hsz : (DataW.weightsEach Try.prog (Try.f3.params.toList ++ Rows.flowChecksSpec.plain.varTypes Try.prog) (ds ++ gs)).all (· ≤ reachBytes) = true := hsz0
  have hval : ∀ (j : Nat) t v, Try.f3.params[j]? = some t → args[j]? = some v → Value.okWide Try.prog W .any base t v := hval0
  have hW' := hW
  obtain ⟨p, q, hA0, hV, rfl, hfz, hnd⟩ := hW
  have hA : DataW.TrodAll enc Try.prog W 0 (fun _ => true) true Try.f3.params.toList args.toList ds p := hA0
  rw [Try.params3] at hA hval hsz
  obtain ⟨v0, vs0, d0, ds0, p0, q0, hargs, rfl, rfl, h0, r0⟩ := trodAll_cons hA
  obtain ⟨rfl, rfl, rfl⟩ := trodAll_nil r0
  obtain rfl : args = #[v0] := by cases args; simp_all
  obtain ⟨rfl, rfl⟩ := trodVars_none hV
  have k0 := h0
  have lt0 : ∀ x ∈ p0, x.block < W.heap.size := by obtain ⟨m, hm⟩ := k0; exact DataW.trod_lt m _ _ _ hm
  obtain ⟨A0, len0, cap0, rfl⟩ := Go.WideShapes.okWide_slice Try.underlying22 (hval 0 22 v0 rfl rfl)
  have y0 := sized_C hsz (j := 0) (t := 22) rfl rfl Try.underlying22 (B := 24) (by kernel_rfl) k0
  obtain ⟨xs0, hl0, hC0, hc0, hok0⟩ := open_C FB.k42 (fun x => x.f1 < 18446744073709551616) Try.underlying22 (by kernel_rfl) (fun n cs y hy => by
    obtain ⟨a, b, c, rfl, hb, _, _⟩ := trod_ifi Try.underlying42 Try.underlying3 Try.underlying40 rfl rfl rfl rfl rfl rfl (by kernel_rfl) (by kernel_rfl) (by kernel_rfl) hy
    exact ⟨⟨a, b, c⟩, FB.k42_mk W ⟨a, b, c⟩, hb⟩) h0
  subst hl0
  clear hA0 hval0 hsz0 hsz
  refine (flowChecks_walk A0 cap0 xs0 W hC0 hc0 hok0 y0).mono fun e W' ⟨he, bel⟩ => ?_
  subst he
  exact ⟨_, rfl, _, _, _, [], _, [], hW', trodAll_mk1 (shut_bool Try.underlying4 _), (trodAll_cons_mk (Below.trod flowChecks_laidOut (by kernel_rfl) (of_decide_eq_true (by kernel_rfl)) k0 bel lt0) trodAll_mk0), rfl, bel.frame _, fun h => by cases h⟩

theorem flowChecks_holds : Rows.FlowChecksSaid :=
  OpenClaim.holds_of_wide 3 Try.f3 rfl rfl rfl rfl rfl rfl rfl ⟨rfl, rfl, rfl, rfl, rfl⟩ rfl rfl rfl rfl rfl (by kernel_rfl) Try.func3 (by kernel_rfl)
    (of_decide_eq_true (by kernel_rfl)) (by unfold Func.isWrapper; first | (rw [if_pos (by decide +kernel)]; kernel_rfl) | (rw [if_neg (by decide +kernel)]; exact ⟨rfl, rfl⟩))
    (fun os started H enc _ => flowChecks_lifted os started H enc)
#print axioms flowChecks_holds
end Go.Proofs.Ythcgpepjoofeoaa
