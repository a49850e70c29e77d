/- Net: what it computes, and that the code computes it. -/
import Derived.Test.YthkcphdhmkcdkaaGreatAo
import Derived.Test.YthkcphdhmkcdkaaGreatAg
import Derived.KernelRfl
import Derived.Test.YthkcphdhmkcdkaaGreatFBx1
namespace Go.Proofs.YthkcphdhmkcdkaaGreat.FB
open Go.RowKit Go.Proofs.YthkcphdhmkcdkaaGreatW.PrintWords Go.Proofs.YthkcphdhmkcdkaaGreatW.PrintLast Go.Proofs.YthkcphdhmkcdkaaGreatW.PrintMore Tn Go.ChangeMaps
open Go.Proofs.YthkcphdhmkcdkaaGreat.FX
attribute [local go_sem] run_store_float run_neg_float run_fmul isSome_setCell
set_option linter.unusedVariables false
set_option linter.unusedSimpArgs false

theorem infoNet : (Tryz.prog.info? 31).map (fun i => (i.zero, i.size, i.bytes)) = some (some (.agg #[(.int .i64 0), (.float .f64 0), (.int .i64 0)]), 3, 24) := by kernel_rfl
def pf (f : S31) : Pla × Nat := ((f.f2, f.f0), f.f1)
def goodL (l : List S31) : Bool := decide (l.length ≤ 4096) && l.all fun f => decide (0 ≤ f.f0 ∧ f.f0 ≤ 109572 ∧ f.f1 < 18446744073709551616 ∧ 1 ≤ f.f2 ∧ f.f2 ≤ 8) && fin f.f1
/-- one flow of a place. -/
def flK (p : List (Pla × Nat)) (k : Pla) : S31 := ⟨k.2, valK p k, k.1⟩
def netF (l : List S31) : List S31 × Int :=
  if (sortK (keysF (l.map pf))).all (fun k => fin (valK (l.map pf) k)) = true then ((sortK (keysF (l.map pf))).map (flK (l.map pf)), 0) else ([], 91)
def flow_Net.f (k : Nat) (l0 : List S31) : Option (List S31 × Int) :=
  (flow_Check.f k l0).bind fun t => if t.1 = 0 then (if goodL l0 = true then some (netF l0) else none) else some ([], t.1)
theorem good_at {l : List S31} (h : goodL l = true) {i : Nat} (hi : i < l.length) : 0 ≤ (l[i]).f0 ∧ (l[i]).f0 ≤ 109572 ∧ (l[i]).f1 < 18446744073709551616 ∧ 1 ≤ (l[i]).f2 ∧ (l[i]).f2 ≤ 8 ∧ fin (l[i]).f1 = true := by
  unfold goodL at h
  rw [Bool.and_eq_true, List.all_eq_true] at h
  have h2 := h.2 l[i] (List.getElem_mem hi)
  rw [Bool.and_eq_true, decide_eq_true_iff] at h2
  exact ⟨h2.1.1, h2.1.2.1, h2.1.2.2.1, h2.1.2.2.2.1, h2.1.2.2.2.2, h2.2⟩
theorem inB_good {x0 x2 : Int} (a : 0 ≤ x0) (b : x0 ≤ 109572) (c : 1 ≤ x2) (d : x2 ≤ 8) : InB (x2, x0) := by unfold InB; omega
theorem good_len {l : List S31} (h : goodL l = true) : l.length ≤ 4096 := by
  unfold goodL at h
  rw [Bool.and_eq_true] at h
  exact of_decide_eq_true h.1
theorem acc_new (W : World) : accZ (W.alloc (.cells (cellsF (fun _ => 0) false false) 106)) W.heap.size 0 false false := by
  have h := heap_alloc_new W (.cells (cellsF (fun _ => 0) false false) 106)
  have e : cellsF (wd (modB 0)) false false = cellsF (fun _ => 0) false false := cellsF_congr _ _ (fun i _ => by simp [wd, modB])
  unfold accZ acc accF
  rw [e]; exact h
theorem seek_mem {k : Pla} {b : Nat} {es : List (Pla × Nat)} (hd : es.Pairwise fun x y => x.1 ≠ y.1) (hm : (k, b) ∈ es) : seek k es = some b := by
  obtain ⟨j, hj⟩ := List.getElem?_of_mem hm
  exact seek_some hd hj
theorem inB_sm {k : Pla} (h : SmP k) : InB k := by unfold SmP at h; unfold InB; omega
theorem rd_at {l : List S31} {i : Nat} (hi : i < l.length) : rd_T31 l (i : Int) = l[i] := by
  unfold rd_T31
  rw [Int.toNat_natCast, List.getD_eq_getElem?_getD, List.getElem?_eq_getElem hi]; rfl
theorem take_next {l : List S31} {i : Nat} (hi : i < l.length) : (l.take (i + 1)).map pf = (l.take i).map pf ++ [pf l[i]] := by
  rw [List.take_succ_eq_append_getElem hi, List.map_append]; rfl
theorem good_keys {l : List S31} (h : goodL l = true) {m : Nat} : ∀ k ∈ keysF ((l.take m).map pf), SmP k := by
  intro k hk
  obtain ⟨f, hf, e⟩ := mem_keysF.1 hk
  obtain ⟨x, hx, rfl⟩ := List.mem_map.1 hf
  have hx2 := List.mem_of_mem_take hx
  obtain ⟨i, hi, rfl⟩ := List.getElem_of_mem hx2
  obtain ⟨a, b, c, d, e2, _⟩ := good_at h hi
  subst e
  exact ⟨by show 0 ≤ l[i].f2; omega, by show l[i].f2 < 16; omega, a, by show l[i].f0 < 131072; omega⟩
set_option maxRecDepth 100000 in
set_option maxHeartbeats 1000000 in
theorem net_bad (k : Nat) (A0 : Option Addr) (c0 : Nat) (l0 : List (S31)) (r1 r2 : Int) (w : World) (hr0 : Kd.C k31 w A0 l0.length l0) (hc0 : l0.length ≤ c0) (h : flow_Check.f k l0 = some (r1, r2)) (h0 : r1 ≠ 0) :
    Calls Tryz.prog 9 #[.slice A0 l0.length c0] w fun e w' => ∃ v0_ : Value, e = .returned (.tuple #[v0_, .int .i64 r1]) ∧ Kd.R k31 31 w' w.heap.size (fun _ => True) v0_ [] ∧ Below w.heap.size w w' := by
  have HC := Aside0.mk hr0
  have HL := Aside0.mk hc0
  have H := Aside0.mk h
  have hb : (r1 != 0) = true := by simp [h0]
  clear hr0 hc0 h h0
  go_enter Tryz.func9, Tryz.ntmps9
  go_wp2_with (go_at_call 36; refine (flow_Check.calls k A0 c0 l0 r1 r2 _ HC.out HL.out H.out).mono ?_; rintro e w' ⟨rfl, hb1⟩; have HB := Aside0.mk hb1; clear hb1)
  go_ret2
  exact ⟨_, rfl, Kd.R_nil _ _ _ _ _, HB.out⟩
set_option maxRecDepth 100000 in
set_option maxHeartbeats 1000000 in
theorem net_good (k : Nat) (A0 : Option Addr) (c0 : Nat) (l0 : List (S31)) (r2 : Int) (w : World) (hr0 : Kd.C k31 w A0 l0.length l0) (hc0 : l0.length ≤ c0) (h : flow_Check.f k l0 = some (0, r2)) (hg : goodL l0 = true) :
    Calls Tryz.prog 9 #[.slice A0 l0.length c0] w fun e w' => ∃ v0_ : Value, e = .returned (.tuple #[v0_, .int .i64 (netF l0).2]) ∧ Kd.R k31 31 w' w.heap.size (fun _ => True) v0_ (netF l0).1 ∧ Below w.heap.size w w' := by
  have HC := Aside0.mk hr0
  have HL := Aside0.mk hc0
  have H := Aside0.mk h
  have HG := Lib.hid hg
  have HLn := Lib.hid (good_len hg)
  have hmm := @run_makeMap Tryz.prog
  clear hr0 hc0 h hg
  go_enter Tryz.func9, Tryz.ntmps9
  go_upto_region 4 with (go_at_call 36; refine (flow_Check.calls k A0 c0 l0 0 r2 _ HC.out HL.out H.out).mono ?_; rintro e w' ⟨rfl, hb1⟩; have HB := Aside0.mk hb1; clear hb1)
  rename_i w1
  have HM := Aside0.mk (NetM.start HB.out)
  clear HB
  go_wp2_with fail
  generalize w'.alloc (Obj.map #[] 0) = W0 at *
  generalize w'.heap.size = B at *
  go_loopg [7, 26] l0.length (fun n v7 v26 wr => ∃ (i : Nat) (A : Option Addr) (c : Nat) (es : List (Pla × Nat)), i + n = l0.length ∧ v26 = .int .i64 i ∧ v7 = .slice A es.length c ∧ Aside0 (NetM w B ((l0.take i).map pf) (keysF ((l0.take i).map pf)) wr es) ∧ Aside0 (kpl.R 84 wr w.heap.size (fun _ => True) (.slice A es.length c) (keysF ((l0.take i).map pf))))
  case atStart => exact ⟨0, none, 0, [], by omega, rfl, rfl, ⟨HM.out⟩, ⟨Kd.R_nil _ _ _ _ _⟩⟩
  case round =>
    obtain ⟨i, A, c, es, hin, rfl, rfl, HM, HR⟩ := hrel
    by_cases hlt : i < l0.length
    · have hX := Lib.hid (good_at HG.out hlt)
      obtain ⟨ad, e1, hx0, hx1, hx2⟩ := at_T31 HC.out (i : Int) (by omega) (by omega)
      cases e1
      rw [rd_at hlt] at hx0 hx1 hx2
      rw [Int.toNat_natCast] at hx0 hx1 hx2
      have HB := Aside0.mk HM.out.1
      replace hx0 := (HB.out.cell (World.block_lt_of_cell? w _ hx0)).trans hx0
      replace hx1 := (HB.out.cell (World.block_lt_of_cell? w _ hx1)).trans hx1
      replace hx2 := (HB.out.cell (World.block_lt_of_cell? w _ hx2)).trans hx2
      have hT := Lib.hid (take_next hlt)
      generalize l0[i] = x at *
      obtain ⟨x0, x1, x2⟩ := x
      have h1 : decide ((i : Int) < (l0.length : Int)) = true := decide_eq_true (by omega)
      go_upto_region 10 with fail
      obtain ⟨g, hg⟩ : ∃ g, g = wr.heap.size := ⟨_, rfl⟩
      obtain ⟨W2, hW2⟩ : ∃ W2, W2 = (wr.alloc (.cells #[.int .i64 x0, .float .f64 x1, .int .i64 x2] 31)).alloc (.cells #[.int .i64 x2, .int .i64 x0] 84) := ⟨_, rfl⟩
      rw [← hW2, ← hg]
      have hb2 : Below wr.heap.size wr W2 := by rw [hW2]; exact below_alloc (below_alloc (Below.refl _ _) _) _
      have HM2 := Aside0.mk (HM.out.below hb2)
      have HR2 := Aside0.mk (Kd.R_below HR.out hb2)
      have HF2 : Aside0 (W2.heap[g]? = some (.cells #[.int .i64 x0, .float .f64 x1, .int .i64 x2] 31 (0, 0))) := ⟨by rw [hW2, hg]; exact blk_alloc (heap_alloc_new _ _) _⟩
      have HK2 : Aside0 (W2.heap[g + 1]? = some (.cells #[.int .i64 x2, .int .i64 x0] 84 (0, 0))) := ⟨by rw [hW2, hg]; exact (congrArg (fun n => ((wr.alloc _).alloc _).heap[n]?) (show wr.heap.size + 1 = (wr.alloc (.cells #[.int .i64 x0, .float .f64 x1, .int .i64 x2] 31)).heap.size by simp)).trans (heap_alloc_new _ _)⟩
      have HLT := Lib.hid (show ∀ k, (Value.slice A es.length c).ownBlock = some k → k < g by rw [hg]; exact Kd.R_lt HR.out)
      clear hb2 hW2 hg hx0 hx1 hx2 HM HR
      have c1 : W2.cell? ⟨g, 1, none⟩ = some (.float .f64 x1) := (blk_cell HF2.out 1).trans rfl
      have c2 : W2.cell? ⟨g + 1, 0, none⟩ = some (.int .i64 x2) := (blk_cell HK2.out 0).trans rfl
      have c3 : W2.cell? ⟨g + 1, 1, none⟩ = some (.int .i64 x0) := (blk_cell HK2.out 1).trans rfl
      have d1 : W2.drew.cell? ⟨g, 1, none⟩ = some (.float .f64 x1) := c1
      have d2 : W2.drew.cell? ⟨g + 1, 0, none⟩ = some (.int .i64 x2) := c2
      have d3 : W2.drew.cell? ⟨g + 1, 1, none⟩ = some (.int .i64 x0) := c3
      have HIK := Lib.hid (inB_good hX.out.1 hX.out.2.1 hX.out.2.2.2.1 hX.out.2.2.2.2.1)
      have HIB := Lib.hid (HM2.out.inB (good_keys HG.out))
      have HND := Lib.hid (keysF_nodup ((l0.take i).map pf))
      have HDD := Lib.hid (HM2.out.nodup HND.out)
      rcases seek_cases (x2, x0) es with ⟨b, hs, hm⟩ | ⟨hs, hm⟩
      · have hl : (Instr.lookup 81 (.map (some B)) (.agg #[.int .i64 x2, .int .i64 x0]) false).run Tryz.prog W2 = .ok (.pointer (some ⟨b, 0, none⟩)) W2 := by
          have := look_place HIK.out HIB.out HDD.out HM2.out.2.2.1
          rw [hs] at this; exact this
        have hl2 : (Instr.lookup 81 (.map (some B)) (.agg #[.int .i64 x2, .int .i64 x0]) false).run Tryz.prog W2.drew = .ok (.pointer (some ⟨b, 0, none⟩)) W2.drew := by
          have := look_place (w := W2.drew) HIK.out HIB.out HDD.out HM2.out.2.2.1
          rw [hs] at this; exact this
        have HS := Lib.hid hm
        clear hs hm
        have hkk : (x2, x0) ∈ keysF ((l0.take i).map pf) := by rw [← HM2.out.2.2.2.1]; exact List.mem_map_of_mem HS.out
        have HKE := Lib.hid (show keysF ((l0.take i).map pf ++ [pf ⟨x0, x1, x2⟩]) = keysF ((l0.take i).map pf) from (keysF_snoc _ _).trans (if_pos hkk))
        have HA := Aside0.mk (show accZ W2.drew b (sumF (x2, x0) ((l0.take i).map pf)) false false from (HM2.out.2.2.2.2.1 _ HS.out).1)
        have HM3 := Aside0.mk (show NetM w B ((l0.take i).map pf) (keysF ((l0.take i).map pf)) W2.drew es from HM2.out.below (below_drew (Below.refl _ _)))
        have HR3 := Aside0.mk (Kd.R_drew HR2.out)
        clear hkk
        go_upto_region 13 with fail
        go_region_with (go_at_call 38; refine (add_fin b x1 _ false false _ HA.out hX.out.2.2.1 hX.out.2.2.2.2.2).mono ?_; rintro e w' ⟨rfl, hgr, hac⟩)
        all_goals
          have HM4 := Aside0.mk (HM3.out.add HND.out HS.out hgr.out hac.out)
          have HR4 := Aside0.mk (Kd.R_grown2 HR3.out rfl hgr.out (fun k hk => by cases hk; exact HA.out.rowne HR3.out))
          clear HM3 HR3 HM2 HR2 HA hgr hac hl hl2 c1 c2 c3 d1 d2 d3
          go_wp2_with fail
          go_roundg (gk - 1)
          case measure => omega
          case rel => exact ⟨i + 1, A, c, es, by omega, by have := HLn.out; exact congrArg (Value.int .i64) (by unfold wrap64; omega), rfl, ⟨by rw [hT.out, HKE.out]; exact HM4.out⟩, ⟨by rw [hT.out, HKE.out]; exact HR4.out⟩⟩
      · have hl : (Instr.lookup 81 (.map (some B)) (.agg #[.int .i64 x2, .int .i64 x0]) false).run Tryz.prog W2 = .ok (.pointer none) W2 := by
          have := look_place HIK.out HIB.out HDD.out HM2.out.2.2.1
          rw [hs] at this; exact this
        have HS := Lib.hid hs
        have hm0 : (x2, x0) ∉ keysF ((l0.take i).map pf) := by rw [← HM2.out.2.2.2.1]; exact hm
        have HKE := Lib.hid (show keysF ((l0.take i).map pf ++ [pf ⟨x0, x1, x2⟩]) = keysF ((l0.take i).map pf) ++ [(x2, x0)] from (keysF_snoc _ _).trans (if_neg hm0))
        have HS0 := Lib.hid (sumF_none hm0)
        clear hs hm hm0
        go_upto_region 11 with fail
        go_cut [7] (fun v7 wx => v7 = .slice A es.length c ∧ ∃ b, Aside0 (NetM w B ((l0.take i).map pf) (keysF ((l0.take i).map pf) ++ [(x2, x0)]) wx (es ++ [((x2, x0), b)])) ∧ Aside0 (kpl.R 84 wx w.heap.size (fun _ => True) (.slice A es.length c) (keysF ((l0.take i).map pf))) ∧ Aside0 (wx.heap[g]? = some (.cells #[.int .i64 x0, .float .f64 x1, .int .i64 x2] 31 (0, 0))) ∧ Aside0 (wx.heap[g + 1]? = some (.cells #[.int .i64 x2, .int .i64 x0] 84 (0, 0))))
        case first =>
          obtain ⟨O, hO⟩ : ∃ O, O = Obj.cells (cellsF (fun _ => 0) false false) 106 (0, 0) := ⟨_, rfl⟩
          have hbw : Below W2.heap.size W2 (W2.alloc O).drew := below_drew (below_alloc (Below.refl _ _) O)
          have HM3 := Aside0.mk (HM2.out.below hbw)
          have HR3 := Aside0.mk (Kd.R_below HR2.out hbw)
          have HA : Aside0 (accZ (W2.alloc O).drew W2.heap.size 0 false false) := ⟨by rw [hO]; exact acc_new W2⟩
          have HP := Aside0.mk (HM3.out.put HS0.out HA.out (Nat.le_trans HM2.out.1.size (Nat.le_refl _)) (fun x hx e => by have := (HM2.out.2.2.2.2.1 x hx).1.lt; omega))
          have hmu : (Instr.mapUpdate 81 (.map (some B)) (.agg #[.int .i64 x2, .int .i64 x0]) (.pointer (some ⟨W2.heap.size, 0, none⟩))).run Tryz.prog (W2.alloc O).drew = .ok () (setBlock (W2.alloc O).drew B (.map (entsOf (es ++ [((x2, x0), W2.heap.size)])) (es ++ [((x2, x0), W2.heap.size)]).length)) :=
            store_place HIK.out HIB.out HDD.out HM3.out.2.2.1 HS.out
          have HR4 := Aside0.mk (Kd.R_grown2 HR3.out rfl (setBlock_grown (W2.alloc O).drew B (.map (entsOf (es ++ [((x2, x0), W2.heap.size)])) (es ++ [((x2, x0), W2.heap.size)]).length)) (fun k hk => by cases hk; exact HM3.out.rowne HR3.out))
          have hne : ∀ j, j < W2.heap.size → j ≠ B → (setBlock (W2.alloc O).drew B (.map (entsOf (es ++ [((x2, x0), W2.heap.size)])) (es ++ [((x2, x0), W2.heap.size)]).length)).heap[j]? = W2.heap[j]? := fun j hj hjB => ((setBlock_grown (W2.alloc O).drew B _).block j (Nat.lt_of_lt_of_le hj hbw.size) (fun e => hjB (by injection e))).trans (hbw.block j hj)
          have hgB : ∀ {j : Nat} {cs : Array Value} {t : TypeId}, W2.heap[j]? = some (.cells cs t (0, 0)) → j ≠ B := fun hj e => by
            subst e
            have := HM2.out.2.2.1.symm.trans hj
            cases this
          have HF3 := Aside0.mk ((hne g (blk_lt HF2.out) (hgB HF2.out)).trans HF2.out)
          have HK3 := Aside0.mk ((hne (g + 1) (blk_lt HK2.out) (hgB HK2.out)).trans HK2.out)
          have e2 : (W2.alloc O).cell? ⟨g + 1, 0, none⟩ = some (.int .i64 x2) := (blk_cell (blk_alloc HK2.out O) 0).trans rfl
          have e3 : (W2.alloc O).cell? ⟨g + 1, 1, none⟩ = some (.int .i64 x0) := (blk_cell (blk_alloc HK2.out O) 1).trans rfl
          have f2 : (W2.alloc O).drew.cell? ⟨g + 1, 0, none⟩ = some (.int .i64 x2) := e2
          have f3 : (W2.alloc O).drew.cell? ⟨g + 1, 1, none⟩ = some (.int .i64 x0) := e3
          subst hO
          clear hbw hne hgB
          generalize setBlock _ _ _ = W4 at *
          go_region_with (go_at_call 37; refine (new_any _).mono ?_; rintro e w' ⟨rfl, rfl⟩)
          all_goals
            go_wp2_with fail
            go_meet
            exact ⟨rfl, _, HP, HR4, HF3, HK3⟩
        case rest =>
          obtain ⟨rfl, b, HM3, HR3, HF3, HK3⟩ := hcut
          have HA := Aside0.mk (HM3.out.2.2.2.2.1 _ (List.mem_append_right _ (List.mem_singleton_self _))).1
          clear hl c1 c2 c3 d1 d2 d3 HM2 HR2 HF2 HK2 HDD HIB
          have c2 : wc.cell? ⟨g + 1, 0, none⟩ = some (.int .i64 x2) := (blk_cell HK3.out 0).trans rfl
          have c3 : wc.cell? ⟨g + 1, 1, none⟩ = some (.int .i64 x0) := (blk_cell HK3.out 1).trans rfl
          have hlen : es.length = (keysF ((l0.take i).map pf)).length := by
            have h1 := HM3.out.2.2.2.1
            rw [List.map_append] at h1
            have h2 := congrArg List.length h1
            simp only [List.length_append, List.length_map, List.length_cons, List.length_nil] at h2
            omega
          have HLE := Lib.hid hlen
          have HKL := Lib.hid (Nat.le_trans (keysF_len ((l0.take i).map pf)) (by rw [List.length_map, List.length_take]; exact Nat.min_le_right _ _))
          clear hlen
          go_upto_region 13 with ((with_reducible refine gate_builtin (b := .append) (xs := #[.tmp 42, .tmp 44]) rfl ?_); at_builtin; refine Kd.R_append kpl (w0 := w) w.heap.size rfl (.tmp 42) (.tmp 44) 82 84 (.agg #[(.int .i64 0), (.int .i64 0)]) 16 rfl Tryz.underlying82 (by kernel_rfl) rfl (by decide) (by omega) (.slice A es.length c) (keysF ((l0.take i).map pf)) (x2, x0) [.int .i64 x2, .int .i64 x0] (fun _ => True) (fun _ => False) rfl rfl (kpl_mkM _ _ _ (x2, x0)) (fun _ hk => hk.elim) (fun _ _ => trivial) HR3.out HM3.out.1 HM3.out.1.size (by have := HKL.out; have := HLn.out; omega) ?_; intro v5 w5 hr5 hb5 hg5 hat5)
          have hrow : ∀ k, (Value.slice A es.length c).ownBlock = some k → w.heap.size ≤ k ∧ ∃ cells, wc.heap[k]? = some (.cells cells 84 (0, 0)) := fun k hk => ⟨Kd.R_base HR3.out k hk, Kd.R_typed HR3.out k hk⟩
          have HM5 := Aside0.mk (HM3.out.grown hg5 hrow)
          have HF5 := Aside0.mk ((hg5.block g (blk_lt HF3.out) (fun e => by have := HLT.out g e.symm; omega)).trans HF3.out)
          have HK5 := Aside0.mk ((hg5.block (g + 1) (blk_lt HK3.out) (fun e => by have := HLT.out (g + 1) e.symm; omega)).trans HK3.out)
          obtain ⟨A5, n5, hv5⟩ := Kd.R_slice hr5
          rw [List.length_append, List.length_singleton, ← HLE.out] at hv5
          subst hv5
          have HR5 := Aside0.mk hr5
          have HND5 := Lib.hid (show (keysF ((l0.take i).map pf) ++ [(x2, x0)]).Nodup by rw [← HKE.out]; exact keysF_nodup _)
          have HDD := Lib.hid (HM5.out.nodup HND5.out)
          have HSM := Lib.hid (show ∀ k ∈ keysF ((l0.take i).map pf) ++ [(x2, x0)], SmP k by rw [← HKE.out, ← hT.out]; exact good_keys HG.out)
          have HIB := Lib.hid (HM5.out.inB HSM.out)
          have HS5 := Lib.hid (show ((x2, x0), b) ∈ es ++ [((x2, x0), b)] from List.mem_append_right _ (List.mem_singleton_self _))
          clear hr5 hb5 hg5 hat5 hrow c2 c3 HM3 HR3 HF3 HK3 HA
          have c1 : w5.cell? ⟨g, 1, none⟩ = some (.float .f64 x1) := (blk_cell HF5.out 1).trans rfl
          have c2 : w5.cell? ⟨g + 1, 0, none⟩ = some (.int .i64 x2) := (blk_cell HK5.out 0).trans rfl
          have c3 : w5.cell? ⟨g + 1, 1, none⟩ = some (.int .i64 x0) := (blk_cell HK5.out 1).trans rfl
          have d1 : w5.drew.cell? ⟨g, 1, none⟩ = some (.float .f64 x1) := c1
          have d2 : w5.drew.cell? ⟨g + 1, 0, none⟩ = some (.int .i64 x2) := c2
          have d3 : w5.drew.cell? ⟨g + 1, 1, none⟩ = some (.int .i64 x0) := c3
          have hl : (Instr.lookup 81 (.map (some B)) (.agg #[.int .i64 x2, .int .i64 x0]) false).run Tryz.prog w5 = .ok (.pointer (some ⟨b, 0, none⟩)) w5 := by
            have := look_place HIK.out HIB.out HDD.out HM5.out.2.2.1
            rw [seek_mem HDD.out HS5.out] at this; exact this
          have hl2 : (Instr.lookup 81 (.map (some B)) (.agg #[.int .i64 x2, .int .i64 x0]) false).run Tryz.prog w5.drew = .ok (.pointer (some ⟨b, 0, none⟩)) w5.drew := by
            have := look_place (w := w5.drew) HIK.out HIB.out HDD.out HM5.out.2.2.1
            rw [seek_mem HDD.out HS5.out] at this; exact this
          have HA := Aside0.mk (show accZ w5.drew b (sumF (x2, x0) ((l0.take i).map pf)) false false from (HM5.out.2.2.2.2.1 _ HS5.out).1)
          have HM6 := Aside0.mk (show NetM w B ((l0.take i).map pf) (keysF ((l0.take i).map pf) ++ [(x2, x0)]) w5.drew (es ++ [((x2, x0), b)]) from HM5.out.below (below_drew (Below.refl _ _)))
          have HR6 := Aside0.mk (Kd.R_drew HR5.out)
          go_region_with (go_at_call 38; refine (add_fin b x1 _ false false _ HA.out hX.out.2.2.1 hX.out.2.2.2.2.2).mono ?_; rintro e w' ⟨rfl, hgr, hac⟩)
          all_goals
            have HM7 := Aside0.mk (HM6.out.add HND5.out HS5.out hgr.out hac.out)
            have HR7 := Aside0.mk (Kd.R_grown2 HR6.out rfl hgr.out (fun k hk => by cases hk; exact HA.out.rowne HR6.out))
            clear HM6 HR6 HM5 HR5 HA hgr hac hl hl2 c1 c2 c3 d1 d2 d3
            go_wp2_with fail
            go_roundg (gk - 1)
            case measure => omega
            case rel => exact ⟨i + 1, A5, n5, es ++ [((x2, x0), b)], by omega, by have := HLn.out; exact congrArg (Value.int .i64) (by unfold wrap64; omega), by rw [List.length_append, List.length_singleton], ⟨by rw [hT.out, HKE.out]; exact HM7.out⟩, ⟨by rw [hT.out, HKE.out, List.length_append, List.length_singleton]; exact HR7.out⟩⟩
    · obtain rfl : i = l0.length := by omega
      have HSP := Lib.hid (show ∀ k ∈ keysF (l0.map pf), SmP k by have := good_keys HG.out (m := l0.length); rw [List.take_length] at this; exact this)
      have HKL := Lib.hid (Nat.le_trans (keysF_len (l0.map pf)) (show (l0.map pf).length ≤ 4096 by rw [List.length_map]; exact HLn.out))
      have HPL := Lib.hid (show (l0.map pf).length ≤ 4096 by rw [List.length_map]; exact HLn.out)
      have HN := Lib.hid (show netF l0 = if (sortK (keysF (l0.map pf))).all (fun k => fin (valK (l0.map pf) k)) = true then ((sortK (keysF (l0.map pf))).map (flK (l0.map pf)), 0) else ([], 91) from rfl)
      rw [List.take_length] at HM HR
      generalize l0.map pf = p at *
      have hlen : es.length = (keysF p).length := by
        have h1 := congrArg List.length HM.out.2.2.2.1
        rw [List.length_map] at h1
        exact h1
      have HLE := Lib.hid hlen
      clear hlen
      have h1 : decide ((l0.length : Int) < (l0.length : Int)) = false := decide_eq_false (by omega)
      go_upto_region 16 with (go_at_call 39; refine (sortP_call (keysF p) HSP.out (by have := HKL.out; omega) HR.out).mono ?_; rintro e w6 ⟨rfl, hC6, hg6⟩)
      rename_i w6
      have HM6 := Aside0.mk (HM.out.grown hg6 (fun k hk => ⟨Kd.R_base HR.out k hk, Kd.R_typed HR.out k hk⟩))
      have HC6 := Aside0.mk hC6
      have HSK := Lib.hid (show ∀ k ∈ sortK (keysF p), k ∈ keysF p from fun k hk => (sortK_perm HSP.out).mem_iff.1 hk)
      have HSL := Lib.hid (show (sortK (keysF p)).length = es.length by rw [sortK_len, HLE.out])
      have HB6 := Aside0.mk HM6.out.1
      clear hC6 hg6 HM HR hmm h1
      generalize sortK (keysF p) = ks at *
      go_upto_region 17 with ((with_reducible refine gate_dst (N := 57) rfl ?_); refine Kd.R_make0 k31 _ 31 rfl (N := 57) rfl 22 _ _ rfl (es.length : Int) rfl rfl Tryz.underlying22 (.agg #[(.int .i64 0), (.float .f64 0), (.int .i64 0)]) 24 infoNet rfl (by decide) (by omega) z31 (ok := fun _ => True) (okp := fun _ => True) (k31_mkM _ _ _ z31) (fun _ hk => hk) trivial (by omega) (by have := HLE.out; have := HKL.out; omega) (Below.refl _ _) (Nat.le_refl _) ?_; intro v7 w7 ho7 hb7 hg7 hnew7)
      have HO7 := Aside0.mk ho7
      have HB7 := Aside0.mk hb7
      clear ho7 hb7 hg7 hnew7
      go_wp2_with fail
      go_loopg [11, 60] es.length (fun n v11 v60 wr => ∃ j : Nat, j + n = es.length ∧ v60 = .int .i64 j ∧ RowKit.Hid (∀ k ∈ ks.take j, fin (valK p k) = true) ∧ Aside0 (Kd.R k31 31 wr w6.heap.size (fun _ => True) v11 ((ks.take j).map (flK p))) ∧ Aside0 (Below w6.heap.size w6 wr))
      case atStart => exact ⟨0, by omega, rfl, (fun k hk => absurd hk (by simp)), HO7, HB7⟩
      case round =>
        clear HO7 HB7
        obtain ⟨j, hjn, rfl, HFN, HO, HB⟩ := hrel
        by_cases hlt2 : j < es.length
        · have hjk : j < ks.length := by have := HSL.out; omega
          have hCr := Kd.C_below HC6.out HB.out
          obtain ⟨ad, e1, hx0, hx1⟩ := at_pl hCr hjk
          cases e1
          have HKM := Lib.hid (HSK.out _ (List.getElem_mem hjk))
          have HSm := Lib.hid (HSP.out _ HKM.out)
          have HKS := Lib.hid (List.getElem_mem hjk)
          have hT := Lib.hid (List.take_succ_eq_append_getElem hjk)
          clear hCr
          generalize ks[j] = k at *
          obtain ⟨k1, k2⟩ := k
          have h1 : decide ((j : Int) < (es.length : Int)) = true := decide_eq_true (by omega)
          go_upto_region 20 with fail
          obtain ⟨g, hg⟩ : ∃ g, g = wr.heap.size := ⟨_, rfl⟩
          obtain ⟨W2, hW2⟩ : ∃ W2, W2 = wr.alloc (.cells #[.int .i64 k1, .int .i64 k2] 84) := ⟨_, rfl⟩
          rw [← hW2, ← hg]
          have HB2 : Aside0 (Below w6.heap.size w6 W2) := ⟨by rw [hW2]; exact below_alloc HB.out _⟩
          have HO2 : Aside0 (Kd.R k31 31 W2 w6.heap.size (fun _ => True) u11 ((ks.take j).map (flK p))) := ⟨by rw [hW2]; exact Kd.R_alloc HO.out _⟩
          have HK2 : Aside0 (W2.heap[g]? = some (.cells #[.int .i64 k1, .int .i64 k2] 84 (0, 0))) := ⟨by rw [hW2, hg]; exact heap_alloc_new _ _⟩
          clear hW2 hg hx0 hx1 HB HO
          have HM7 := Aside0.mk (HM6.out.move (below_weaken HB6.out HB6.out.size HB2.out) (HB2.out.block B HM6.out.lt) (fun x hx => HB2.out.block x.2 (HM6.out.2.2.2.2.1 x hx).1.lt))
          have c0' : W2.cell? ⟨g, 0, none⟩ = some (.int .i64 k1) := (blk_cell HK2.out 0).trans rfl
          have c1' : W2.cell? ⟨g, 1, none⟩ = some (.int .i64 k2) := (blk_cell HK2.out 1).trans rfl
          obtain ⟨b, hs, hm⟩ : ∃ b, seek (k1, k2) es = some b ∧ ((k1, k2), b) ∈ es := by
            rcases seek_cases (k1, k2) es with h | ⟨_, h⟩
            · exact h
            · rw [HM7.out.2.2.2.1] at h
              exact absurd HKM.out h
          have hl : (Instr.lookup 81 (.map (some B)) (.agg #[.int .i64 k1, .int .i64 k2]) false).run Tryz.prog W2 = .ok (.pointer (some ⟨b, 0, none⟩)) W2 := by
            have := look_place (inB_sm HSm.out) (HM7.out.inB HSP.out) (HM7.out.nodup (keysF_nodup p)) HM7.out.2.2.1
            rw [hs] at this; exact this
          have HV := Lib.hid (value_any b (sumF (k1, k2) p) false false W2 (HM7.out.2.2.2.2.1 _ hm).1 (sumF_lt _ _ (Nat.le_trans HPL.out (by decide))))
          have HVL := Lib.hid (over_lt (sumF (k1, k2) p) 1)
          obtain ⟨v, hv⟩ : ∃ v, overV (sumF (k1, k2) p) false false 1 = v := ⟨_, rfl⟩
          rw [hv] at HV HVL
          have HVE := Lib.hid (show valK p (k1, k2) = v from hv)
          clear hv hs hm
          go_upto_region 21 with (go_at_call 20; refine HV.out.mono ?_; rintro e w8 ⟨rfl, hb8⟩)
          have HB8 := Aside0.mk (below_step HB2.out hb8.out)
          have HO8 := Aside0.mk (Kd.R_below HO2.out hb8.out)
          have HK8 := Aside0.mk (blk_below HK2.out hb8.out)
          clear hb8 hl c0' c1' HB2 HO2 HK2 HM7
          have c0' : w8.cell? ⟨g, 0, none⟩ = some (.int .i64 k1) := (blk_cell HK8.out 0).trans rfl
          have c1' : w8.cell? ⟨g, 1, none⟩ = some (.int .i64 k2) := (blk_cell HK8.out 1).trans rfl
          have HNU := Lib.hid (flow_number_any v HVL.out)
          cases hf : fin v
          · rw [hf] at HNU
            have hall : ¬ ks.all (fun k => fin (valK p k)) = true := by
              rw [List.all_eq_true]
              intro hA
              have h2 := hA (k1, k2) HKS.out
              rw [HVE.out, hf] at h2
              cases h2
            have HRES := Lib.hid (HN.out.trans (if_neg hall))
            clear hall hf
            go_wp2_with (go_at_call 41; refine (HNU.out _).mono ?_; rintro e w' ⟨rfl, rfl⟩)
            go_ret2
            refine ⟨_, by rw [HRES.out]; rfl, ?_, ?_⟩
            · rw [HRES.out]
              exact Kd.R_nil _ _ _ _ _
            · exact below_weaken HB6.out HB6.out.size HB8.out
          · rw [hf] at HNU
            have HF := Lib.hid hf
            clear hf
            go_wp2_with (first | (go_at_call 41; refine (HNU.out _).mono ?_; rintro e w' ⟨rfl, rfl⟩) | ((with_reducible refine gate_builtin (b := .append) (xs := #[.tmp 71, .tmp 78]) rfl ?_); at_builtin; refine Kd.R_append k31 (w0 := w6) w6.heap.size rfl (.tmp 71) (.tmp 78) 22 31 (.agg #[(.int .i64 0), (.float .f64 0), (.int .i64 0)]) 24 rfl Tryz.underlying22 infoNet rfl (by decide) (by omega) u11 ((ks.take j).map (flK p)) (⟨k2, v, k1⟩ : S31) [.int .i64 k2, .float .f64 v, .int .i64 k1] (fun _ => True) (fun _ => False) rfl rfl (k31_mkM _ _ _ (⟨k2, v, k1⟩ : S31)) (fun _ hk => hk.elim) (fun _ _ => trivial) HO8.out HB8.out HB8.out.size (by rw [List.length_map, List.length_take]; have := HKL.out; have := HLE.out; have := Nat.min_le_left j ks.length; omega) ?_; intro v9 w9 hr9 hb9 hg9 hat9))
            go_roundg (gk - 1)
            case measure => omega
            case rel =>
              refine ⟨j + 1, by omega, by have := HLE.out; have := HKL.out; exact congrArg (Value.int .i64) (by unfold wrap64; omega), ?_, ⟨?_⟩, ⟨hb9⟩⟩
              · show ∀ k ∈ List.take (j + 1) ks, fin (valK p k) = true
                rw [hT.out]
                intro k hk
                rcases List.mem_append.1 hk with hk | hk
                · exact HFN.out k hk
                · rw [List.mem_singleton] at hk
                  rw [hk, HVE.out]; exact HF.out
              · rw [hT.out, List.map_append]
                have : flK p (k1, k2) = (⟨k2, v, k1⟩ : S31) := by unfold flK; rw [HVE.out]
                rw [List.map_cons, List.map_nil, this]
                exact hr9
        · obtain rfl : j = es.length := by omega
          have hall : ks.all (fun k => fin (valK p k)) = true := by
            rw [List.all_eq_true]
            intro k hk
            have := HFN.out k
            rw [← HSL.out, List.take_length] at this
            exact this hk
          have HRES := Lib.hid (HN.out.trans (if_pos hall))
          have h1 : decide ((es.length : Int) < (es.length : Int)) = false := decide_eq_false (by omega)
          have HO8 := Aside0.mk (show Kd.R k31 31 wr w6.heap.size (fun _ => True) u11 (ks.map (flK p)) by have := HO.out; rw [← HSL.out, List.take_length] at this; exact this)
          clear hall
          go_wp2
          go_ret2
          refine ⟨_, by rw [HRES.out]; rfl, ?_, ?_⟩
          · rw [HRES.out]
            exact Kd.R_lower HO8.out HB6.out.size
          · exact below_weaken HB6.out HB6.out.size HB.out

theorem flow_Net.calls (k : Nat) (A0 : Option Addr) (c0 : Nat) (l0 : List (S31)) (r1 : List (S31)) (r2 : Int) (w : World) (hr0 : Kd.C k31 w A0 l0.length l0) (hc0 : l0.length ≤ c0) (h : flow_Net.f k l0 = some (r1, r2)) :
    Calls Tryz.prog 9 #[.slice A0 l0.length c0] w fun e w' => ∃ v0_ : Value, e = .returned (.tuple #[v0_, .int .i64 r2]) ∧ Kd.R k31 31 w' w.heap.size (fun _ => True) v0_ r1 ∧ Below w.heap.size w w' := by
  unfold flow_Net.f at h
  obtain ⟨⟨a, b⟩, h1, h2⟩ := Option.bind_eq_some_iff.1 h
  by_cases ha : a = 0
  · subst ha
    rw [if_pos rfl] at h2
    by_cases hg : goodL l0 = true
    · rw [if_pos hg] at h2
      have h3 : netF l0 = (r1, r2) := Option.some.inj h2
      have := net_good k A0 c0 l0 b w hr0 hc0 h1 hg
      rw [h3] at this
      exact this
    · rw [if_neg hg] at h2; cases h2
  · rw [if_neg ha] at h2
    injection h2 with h2
    injection h2 with h3 h4
    subst h3
    have h5 : a = r2 := h4
    subst h5
    exact net_bad k A0 c0 l0 a b w hr0 hc0 h1 ha
end Go.Proofs.YthkcphdhmkcdkaaGreat.FB
