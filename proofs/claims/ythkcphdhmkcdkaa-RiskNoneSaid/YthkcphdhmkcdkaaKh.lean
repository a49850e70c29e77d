/- risk.Ladder: how each node moves what flows are worth. -/
import Derived.Test.YthkcphdhmkcdkaaKg
namespace Go.Proofs.Ythkcphdhmkcdkaa.FB
open Go.RowKit Go.Proofs.YthkcphdhmkcdkaaW.PrintWords Go.Proofs.YthkcphdhmkcdkaaW.PrintLast Go.Proofs.YthkcphdhmkcdkaaW.PrintMore Go.Proofs.Ythkcphdhmkcdkaa.FX Go.Proofs.Ythkcphdhmkcdkaa.EV Go.Proofs.Ythkcphdhmkcdkaa.FP Tn
attribute [local go_sem] run_store_float run_neg_float run_fmul run_fadd run_fsub run_fdiv isSome_setCell
set_option linter.unusedVariables false
set_option linter.unusedSimpArgs false
noncomputable def begV (l : List S51) (cur b kd : Int) (ds : List Int) (fs : List Nat) (h : Nat) : Nat × Int := if (presV l cur b kd ds fs).2 = 0 then (if fin h = true then ((presV l cur b kd ds fs).1, 0) else (0, 91)) else (0, (presV l cur b kd ds fs).2)
theorem beg_is {l : List S51} {cur b kd : Int} {ds : List Int} {fs : List Nat} {h : Nat} (hok : okW l fs = true) (hh : h < 18446744073709551616) : FK.risk_begin.f l cur b kd ds fs h = some (begV l cur b kd ds fs h) := by
 (unfold FK.risk_begin.f begV price_Present.f);(rw [if_pos hok, Option.bind_some])
 by_cases c : (presV l cur b kd ds fs).2 = 0
 ·rw [if_pos c, if_pos c, number_is hh, Option.bind_some]
  by_cases d : fin h = true
  ·rw [if_pos d, if_pos d]
  ·rw [if_neg d, if_neg d]
 ·rw [if_neg c, if_neg c]
theorem rtold_is {x : Nat} (hx : x < 18446744073709551616) : FK.risk_told.f x = some (toldV x) := by
 (unfold FK.risk_told.f toldV);(rw [number_is hx, Option.bind_some])
 split <;> rfl
theorem toldV_num {x : Nat} (hx : x < 18446744073709551616) (h : (toldV x).2 = 0) : (toldV x).1 < 18446744073709551616 ∧ fin (toldV x).1 = true := by
 unfold toldV at *
 by_cases c : fin x = true
 ·rw [if_pos c]; exact ⟨hx, c⟩
 ·rw [if_neg c] at h; cases h
theorem pres_num {l : List S51} {cur b kd : Int} {ds : List Int} {fs : List Nat} (h : (presV l cur b kd ds fs).2 = 0) : (presV l cur b kd ds fs).1 < 18446744073709551616 ∧ fin (presV l cur b kd ds fs).1 = true := by
 unfold presV at *
 by_cases c : eachE cur b kd ds fs l = 0
 ·rw [if_pos c] at h ⊢
  exact toldV_num (over_lt _ _) h
 ·rw [if_neg c] at h; exact absurd h c
theorem beg_num {l : List S51} {cur b kd : Int} {ds : List Int} {fs : List Nat} {k : Nat} (h : (begV l cur b kd ds fs k).2 = 0) : (begV l cur b kd ds fs k).1 < 18446744073709551616 ∧ fin (begV l cur b kd ds fs k).1 = true := by
 unfold begV at *
 by_cases c : (presV l cur b kd ds fs).2 = 0
 ·rw [if_pos c] at h ⊢
  by_cases d : fin k = true
  ·rw [if_pos d]; exact pres_num c
  ·rw [if_neg d] at h; cases h
 ·rw [if_neg c] at h; exact absurd h c
theorem aftN_num {l : List S51} {cur b kd : Int} {ds : List Int} {fs : List Nat} {i : Int} {k : Nat} (h : (aftN l cur b kd ds fs i k).2 = 0) : (aftN l cur b kd ds fs i k).1 < 18446744073709551616 ∧ fin (aftN l cur b kd ds fs i k).1 = true := by
 unfold aftN at *
 by_cases c : bumpE b kd ds fs i k = 0
 ·rw [if_pos c] at h ⊢; exact pres_num h
 ·rw [if_neg c] at h; exact absurd h c
theorem aftA_num {l : List S51} {cur b kd : Int} {ds : List Int} {fs : List Nat} {k : Nat} (h : (aftA l cur b kd ds fs k).2 = 0) : (aftA l cur b kd ds fs k).1 < 18446744073709551616 ∧ fin (aftA l cur b kd ds fs k).1 = true := by
 unfold aftA at *
 by_cases c : parE b kd ds fs k = 0
 ·rw [if_pos c] at h ⊢; exact pres_num h
 ·rw [if_neg c] at h; exact absurd h c
theorem sub_num {x y : Nat} (hx : x < 18446744073709551616) (hy : y < 18446744073709551616) (fx : fin x = true) (fy : fin y = true) : fsubK x y = true ∧ fsubV x y = subN x y ∧ fsubV x y < 18446744073709551616 := by
 (obtain ⟨k, v⟩ := fsub_is (sub_fin' hx hy fx fy));(refine ⟨k, v, ?_⟩);(rw [v]; unfold subN; exact (nn_sg _ (nr_le _ _)).w)
noncomputable def ladF (l : List S51) (cur b kd : Int) (ds : List Int) (fs : List Nat) (h B : Nat) : Nat → Nat → List Nat → List Nat × Int
 | 0, _, acc => (acc, 0)
 | m + 1, j, acc => if (aftN l cur b kd ds fs (j : Int) h).2 = 0 then (if fin (fsubV (aftN l cur b kd ds fs (j : Int) h).1 B) = true then ladF l cur b kd ds fs h B m (j + 1) (acc ++ [fsubV (aftN l cur b kd ds fs (j : Int) h).1 B]) else ([], 91)) else ([], (aftN l cur b kd ds fs (j : Int) h).2)
noncomputable def ladV (l : List S51) (cur b kd : Int) (ds : List Int) (fs : List Nat) (h : Nat) : List Nat × Int :=
 if (begV l cur b kd ds fs h).2 = 0 then ladF l cur b kd ds fs h (begV l cur b kd ds fs h).1 ds.length 0 [] else ([], (begV l cur b kd ds fs h).2)
set_option maxRecDepth 100000 in
set_option maxHeartbeats 8000000 in
theorem ladder_any (A0 : Option Addr) (c0 : Nat) (l : List S51) (cur : Int) (b kd : Int) (A1 : Option Addr) (c1 : Nat) (ds : List Int) (A2 : Option Addr) (c2 : Nat) (fs : List Nat) (h : Nat) (w : World) (hr0 : Kd.C k51 w A0 l.length l) (hc0 : l.length ≤ c0) (hr1 : Kd.C (Kd.int .i64) w A1 ds.length ds) (hc1 : ds.length ≤ c1) (hr2 : Kd.C Kd.flt w A2 fs.length fs) (hc2 : fs.length ≤ c2) (hok : okW l fs = true) (hh : h < 18446744073709551616) :
  Calls Try.prog 27 #[.slice A0 l.length c0, .int .i64 cur, .agg #[.int .i64 b, .int .i64 kd, .slice A1 ds.length c1, .slice A2 fs.length c2], .float .f64 h] w fun e w' => ∃ v0_ : Value, e = .returned (.tuple #[v0_, .int .i64 (ladV l cur b kd ds fs h).2]) ∧ Kd.R Kd.flt 35 w' w.heap.size (fun _ => True) v0_ (ladV l cur b kd ds fs h).1 ∧ Below w.heap.size w w' := by
 (have hu86 := Try.underlying26);(have hmf : ∀ (fn : Fn) (first cap : Array Value) (w : World), (Instr.makeFunc fn first cap).run Try.prog w = .ok (.func fn first cap) w := fun _ _ _ _ => rfl);(have HBG := Aside0.mk (fun (W : World) (hB : Below w.heap.size w W) => FK.risk_begin.calls A0 c0 l cur b kd A1 c1 ds A2 c2 fs h (begV l cur b kd ds fs h).1 (begV l cur b kd ds fs h).2 W (Kd.C_below hr0 hB) hc0 (Kd.C_below hr1 hB) hc1 (Kd.C_below hr2 hB) hc2 (beg_is hok hh)));(have HV := Lib.hid (show ladV l cur b kd ds fs h = if (begV l cur b kd ds fs h).2 = 0 then ladF l cur b kd ds fs h (begV l cur b kd ds fs h).1 ds.length 0 [] else ([], (begV l cur b kd ds fs h).2) from rfl));(have HNB := Lib.hid (fun hz => beg_num (l := l) (cur := cur) (b := b) (kd := kd) (ds := ds) (fs := fs) (k := h) hz))
 have HCH := Lib.hid (show (begV l cur b kd ds fs h).2 = 0 → ds.length ≤ 1000 from fun hz => by
  have h1 : (presV l cur b kd ds fs).2 = 0 := by
   unfold begV at hz
   by_cases c : (presV l cur b kd ds fs).2 = 0
   ·exact c
   ·rw [if_neg c] at hz; exact absurd hz c
  have h2 : eachE cur b kd ds fs l = 0 := by
   unfold presV at h1
   by_cases c : eachE cur b kd ds fs l = 0
   ·exact c
   ·rw [if_neg c] at h1; exact absurd h1 c
  obtain ⟨_, _, h3, _⟩ := chk_zero.1 (eachE_zero h2).2.2.1
  omega)
 (have HAF := Aside0.mk (fun (j : Nat) (gi gh : Nat) (W : World) (hB : Below w.heap.size w W) (hi : W.heap[gi]? = some (.cells #[.int .i64 (j : Int)] 3 (0, 0))) (hg : W.heap[gh]? = some (.cells #[.float .f64 h] 35 (0, 0))) => after_node A0 c0 l cur b kd A1 c1 ds A2 c2 fs (j : Int) h gi gh W (Kd.C_below hr0 hB) hc0 (Kd.C_below hr1 hB) hc1 (Kd.C_below hr2 hB) hc2 hok hh hi hg));(have HNA := Lib.hid (fun (j : Nat) hz => aftN_num (l := l) (cur := cur) (b := b) (kd := kd) (ds := ds) (fs := fs) (i := (j : Int)) (k := h) hz));(clear hr0 hc0 hr1 hc1 hr2 hc2 hok hh);(generalize begV l cur b kd ds fs h = BV at *);(obtain ⟨Bb, Be⟩ := BV);(generalize ladV l cur b kd ds fs h = LV at *)
 by_cases c : Be = 0
 rotate_left
 ·have p1 : (Be != 0) = true := bne_iff_ne.2 c
  (have HR := HV.out);(rw [if_neg c] at HR);(subst HR);(clear c HV HNB HAF HNA HCH);(go_enter Try.func27, Try.ntmps27)
  go_upto_region 1 with ((with_reducible refine gate_dst (N := 6) rfl ?_); refine box_event ?hg (N := 6) ?hd (cs := #[.int .i64 b, .int .i64 kd, .slice A1 ds.length c1, .slice A2 fs.length c2]) (t := 26) ?hr ?_; (case hd => rfl); (case hg => rfl); (case hr => first | (go_simp; done) | (go_simp; rfl)); intro gx hgx w1 hbox hb; have HB := Aside0.mk (below_step (Below.refl _ _) hb); have BX := Aside0.mk hbox; clear hb hbox hgx)
  (obtain ⟨W2, hW2⟩ : ∃ W2, W2 = w1.alloc (.cells #[.float .f64 h] 35) := ⟨_, rfl⟩);(obtain ⟨gh, hgh⟩ : ∃ gh, gh = w1.heap.size := ⟨_, rfl⟩);(rw [← hW2, ← hgh]);(have BH : Aside0 (W2.heap[gh]? = some (.cells #[.float .f64 h] 35 (0, 0))) := ⟨by rw [hW2, hgh]; exact heap_alloc_new _ _⟩);(have BX2 : Aside0 (W2.heap[gx]? = some (.cells #[.int .i64 b, .int .i64 kd, .slice A1 ds.length c1, .slice A2 fs.length c2] 26 (0, 0))) := ⟨by rw [hW2]; exact blk_alloc BX.out _⟩);(have HB2 : Aside0 (Below w.heap.size w W2) := ⟨by rw [hW2]; exact below_alloc HB.out _⟩);(clear hW2 hgh BX HB);(have hz0 : W2.cell? ⟨gx, 0, none⟩ = some (.int .i64 b) := (blk_cell BX2.out 0).trans rfl);(have hz1 : W2.cell? ⟨gx, 1, none⟩ = some (.int .i64 kd) := (blk_cell BX2.out 1).trans rfl);(have hz2 : W2.cell? ⟨gx, 2, none⟩ = some (.slice A1 ds.length c1) := (blk_cell BX2.out 2).trans rfl);(have hz3 : W2.cell? ⟨gx, 3, none⟩ = some (.slice A2 fs.length c2) := (blk_cell BX2.out 3).trans rfl);(have hf0 := blk_frozen BX2.out 0);(have hf1 := blk_frozen BX2.out 1);(have hf2 := blk_frozen BX2.out 2);(have hf3 := blk_frozen BX2.out 3);(have hh0 : W2.cell? ⟨gh, 0, none⟩ = some (.float .f64 h) := (blk_cell BH.out 0).trans rfl)
  go_wp2_with (go_at_call 52; refine (HBG.out _ HB2.out).mono ?_; rintro e w3 ⟨rfl, hb⟩)
  (go_ret2);(exact ⟨_, rfl, Kd.R_nil _ _ _ _ _, below_step HB2.out hb⟩)
 (subst c);(have HR := HV.out);(rw [if_pos rfl] at HR);(have HN0 := Lib.hid (HNB.out rfl));(have HLN := Lib.hid (HCH.out rfl));(have HR2 := Lib.hid HR);(clear HR HV HNB HCH);(go_enter Try.func27, Try.ntmps27)
 go_upto_region 1 with ((with_reducible refine gate_dst (N := 6) rfl ?_); refine box_event ?hg (N := 6) ?hd (cs := #[.int .i64 b, .int .i64 kd, .slice A1 ds.length c1, .slice A2 fs.length c2]) (t := 26) ?hr ?_; (case hd => rfl); (case hg => rfl); (case hr => first | (go_simp; done) | (go_simp; rfl)); intro gx hgx w1 hbox hb; have HB := Aside0.mk (below_step (Below.refl _ _) hb); have BX := Aside0.mk hbox; clear hb hbox hgx)
 (obtain ⟨W2, hW2⟩ : ∃ W2, W2 = w1.alloc (.cells #[.float .f64 h] 35) := ⟨_, rfl⟩);(obtain ⟨gh, hgh⟩ : ∃ gh, gh = w1.heap.size := ⟨_, rfl⟩);(rw [← hW2, ← hgh]);(have BH : Aside0 (W2.heap[gh]? = some (.cells #[.float .f64 h] 35 (0, 0))) := ⟨by rw [hW2, hgh]; exact heap_alloc_new _ _⟩);(have BX2 : Aside0 (W2.heap[gx]? = some (.cells #[.int .i64 b, .int .i64 kd, .slice A1 ds.length c1, .slice A2 fs.length c2] 26 (0, 0))) := ⟨by rw [hW2]; exact blk_alloc BX.out _⟩);(have HB2 : Aside0 (Below w.heap.size w W2) := ⟨by rw [hW2]; exact below_alloc HB.out _⟩);(clear hW2 hgh BX HB);(have hz0 : W2.cell? ⟨gx, 0, none⟩ = some (.int .i64 b) := (blk_cell BX2.out 0).trans rfl);(have hz1 : W2.cell? ⟨gx, 1, none⟩ = some (.int .i64 kd) := (blk_cell BX2.out 1).trans rfl);(have hz2 : W2.cell? ⟨gx, 2, none⟩ = some (.slice A1 ds.length c1) := (blk_cell BX2.out 2).trans rfl);(have hz3 : W2.cell? ⟨gx, 3, none⟩ = some (.slice A2 fs.length c2) := (blk_cell BX2.out 3).trans rfl);(have hf0 := blk_frozen BX2.out 0);(have hf1 := blk_frozen BX2.out 1);(have hf2 := blk_frozen BX2.out 2);(have hf3 := blk_frozen BX2.out 3);(have hh0 : W2.cell? ⟨gh, 0, none⟩ = some (.float .f64 h) := (blk_cell BH.out 0).trans rfl)
 go_upto_region 4 with (go_at_call 52; refine (HBG.out _ HB2.out).mono ?_; rintro e w3 ⟨rfl, hb⟩)
 (have HB3 := Aside0.mk (below_step HB2.out hb));(have BX3 := Aside0.mk (blk_below BX2.out hb));(have BH3 := Aside0.mk (blk_below BH.out hb));(clear hb HB2 BX2 BH hz0 hz1 hz2 hz3 hf0 hf1 hf2 hf3 hh0 HBG);(have hz2 : w3.cell? ⟨gx, 2, none⟩ = some (.slice A1 ds.length c1) := (blk_cell BX3.out 2).trans rfl)
 go_upto_region 5 with ((with_reducible refine gate_dst (N := 31) rfl ?_); refine Kd.R_make0 Kd.flt _ 35 rfl (N := 31) rfl 24 _ _ rfl (ds.length : Int) rfl rfl Try.underlying24 (.float .f64 0) 8 info35 rfl (by decide) (by omega) (0 : Nat) (ok := fun k => k ≠ gh) (okp := fun k => k ≠ gh) rfl (fun _ hk => hk) (by have := blk_lt BH3.out; omega) (by omega) (by have := HLN.out; omega) (Below.refl _ _) (Nat.le_refl _) ?_; intro v7 w7 ho7 hb7 hg7 hnew7)
 (have HO := Aside0.mk (Kd.R_lower ho7 HB3.out.size));(have HB7 := Aside0.mk (below_step HB3.out hb7));(have BX7 := Aside0.mk (blk_below BX3.out hb7));(have BH7 := Aside0.mk (blk_below BH3.out hb7));(clear ho7 hb7 hg7 hnew7 HB3 BX3 BH3 hz2);(have hz2 : w7.cell? ⟨gx, 2, none⟩ = some (.slice A1 ds.length c1) := (blk_cell BX7.out 2).trans rfl)
 go_wp2_with fail
 clear hz2
 go_loopg [12, 35] ds.length (fun n v12 v35 wr => ∃ (j : Nat) (acc : List Nat), j + n = ds.length ∧ v35 = .int .i64 j ∧ acc.length ≤ j ∧ Aside0 (Below w.heap.size w wr) ∧ Aside0 (wr.heap[gx]? = some (.cells #[.int .i64 b, .int .i64 kd, .slice A1 ds.length c1, .slice A2 fs.length c2] 26 (0, 0))) ∧ Aside0 (wr.heap[gh]? = some (.cells #[.float .f64 h] 35 (0, 0))) ∧ Aside0 (Kd.R Kd.flt 35 wr w.heap.size (fun k => k ≠ gh) v12 acc) ∧ RowKit.Hid (LV = ladF l cur b kd ds fs h Bb n j acc))
 case atStart => exact ⟨0, [], by omega, rfl, Nat.le_refl _, HB7, BX7, BH7, HO, HR2.out⟩
 case round =>
  (clear HB7 BX7 BH7 HO);(obtain ⟨j, acc, hjn, rfl, hacc, HB, BX, BH, HO, HL⟩ := hrel)
  by_cases hlt : j < ds.length
  ·have h1 : decide ((j : Int) < (ds.length : Int)) = true := decide_eq_true (by omega)
   (have h2 : decide (j < ds.length) = true := decide_eq_true hlt);(have hW : RowKit.Hid (wrap64 ((j : Int) + 1) = ((j + 1 : Nat) : Int)) := by have := HLN.out; unfold RowKit.Hid wrap64; omega);(obtain ⟨m, rfl⟩ : ∃ m, gk = m + 1 := ⟨gk - 1, by omega⟩);(have HL2 := Lib.hid (show LV = if (aftN l cur b kd ds fs (j : Int) h).2 = 0 then (if fin (fsubV (aftN l cur b kd ds fs (j : Int) h).1 Bb) = true then ladF l cur b kd ds fs h Bb m (j + 1) (acc ++ [fsubV (aftN l cur b kd ds fs (j : Int) h).1 Bb]) else ([], 91)) else ([], (aftN l cur b kd ds fs (j : Int) h).2) from HL.out));(have HNJ := Lib.hid (HNA.out j));(have HAJ := Aside0.mk (fun gi W hB hi hg => HAF.out j gi gh W hB hi hg));(clear HL);(generalize aftN l cur b kd ds fs (j : Int) h = UE at *);(obtain ⟨U, E⟩ := UE)
   go_upto_region 8 with fail
   (obtain ⟨gi, hgi⟩ : ∃ gi, gi = wr.heap.size := ⟨_, rfl⟩);(obtain ⟨W2, hW2⟩ : ∃ W2, W2 = wr.alloc (.cells #[.int .i64 (j : Int)] 3) := ⟨_, rfl⟩);(rw [← hW2, ← hgi]);(have HB2 : Aside0 (Below w.heap.size w W2) := ⟨by rw [hW2]; exact below_alloc HB.out _⟩);(have BX2 : Aside0 (W2.heap[gx]? = some (.cells #[.int .i64 b, .int .i64 kd, .slice A1 ds.length c1, .slice A2 fs.length c2] 26 (0, 0))) := ⟨by rw [hW2]; exact blk_alloc BX.out _⟩);(have BH2 : Aside0 (W2.heap[gh]? = some (.cells #[.float .f64 h] 35 (0, 0))) := ⟨by rw [hW2]; exact blk_alloc BH.out _⟩);(have BI2 : Aside0 (W2.heap[gi]? = some (.cells #[.int .i64 (j : Int)] 3 (0, 0))) := ⟨by rw [hW2, hgi]; exact heap_alloc_new _ _⟩);(have HO2 : Aside0 (Kd.R Kd.flt 35 W2 w.heap.size (fun k => k ≠ gh) u12 acc) := ⟨by rw [hW2]; exact Kd.R_alloc HO.out _⟩);(clear hW2 hgi HB BX BH HO);(have hz0 : W2.cell? ⟨gx, 0, none⟩ = some (.int .i64 b) := (blk_cell BX2.out 0).trans rfl);(have hz1 : W2.cell? ⟨gx, 1, none⟩ = some (.int .i64 kd) := (blk_cell BX2.out 1).trans rfl);(have hz2 : W2.cell? ⟨gx, 2, none⟩ = some (.slice A1 ds.length c1) := (blk_cell BX2.out 2).trans rfl);(have hz3 : W2.cell? ⟨gx, 3, none⟩ = some (.slice A2 fs.length c2) := (blk_cell BX2.out 3).trans rfl);(have hf0 := blk_frozen BX2.out 0);(have hf1 := blk_frozen BX2.out 1);(have hf2 := blk_frozen BX2.out 2);(have hf3 := blk_frozen BX2.out 3)
   by_cases c1 : E = 0
   rotate_left
   ·have p1 : (E != 0) = true := bne_iff_ne.2 c1
    (have hR := HL2.out);(rw [if_neg c1] at hR);(subst hR);(clear HL2 c1 HNJ)
    go_wp2_with (go_at_call 53; refine (HAJ.out gi W2 HB2.out BI2.out BH2.out).mono ?_; rintro e w8 ⟨rfl, hb⟩)
    (go_ret2);(exact ⟨_, rfl, Kd.R_nil _ _ _ _ _, below_step HB2.out hb⟩)
   (subst c1);(obtain ⟨n1, n2⟩ := HNJ.out rfl);(obtain ⟨s1, s2, s3⟩ := sub_num n1 HN0.out.1 n2 HN0.out.2);(have HT := Lib.hid (rtold_is s3));(have HTV := Lib.hid (show toldV (fsubV U Bb) = if fin (fsubV U Bb) = true then (fsubV U Bb, 0) else (0, 91) from rfl));(have HL3 := Lib.hid (HL2.out.trans (if_pos rfl)));(simp only at HL3);(clear HL2 HNJ n1 n2 s2 s3)
   by_cases c2 : fin (fsubV U Bb) = true
   ·have HTV2 := HTV.out
    (rw [if_pos c2] at HTV2);(rw [HTV2] at HT);(have HL4 := Lib.hid (HL3.out.trans (if_pos c2)));(clear HTV HTV2 HL3 c2)
    go_upto_region 14 with (first | (go_at_call 53; refine (HAJ.out gi W2 HB2.out BI2.out BH2.out).mono ?_; rintro e w8 ⟨rfl, hb⟩) | (go_at_call 55; refine (FK.risk_told.calls (fsubV U Bb) (fsubV U Bb) 0 _ HT.out).mono ?_; rintro e w9 ⟨rfl, ⟨nd, rfl⟩⟩))
    (have HB8 : Aside0 (Below w.heap.size w (w8.drewN nd)) := ⟨pw_below_drewN (below_step HB2.out hb) nd⟩);(have BX8 : Aside0 ((w8.drewN nd).heap[gx]? = some (.cells #[.int .i64 b, .int .i64 kd, .slice A1 ds.length c1, .slice A2 fs.length c2] 26 (0, 0))) := ⟨blk_drewN (blk_below BX2.out hb) nd⟩);(have BH8 : Aside0 ((w8.drewN nd).heap[gh]? = some (.cells #[.float .f64 h] 35 (0, 0))) := ⟨blk_drewN (blk_below BH2.out hb) nd⟩);(have HO8 := Aside0.mk (Kd.R_drewN (Kd.R_below HO2.out hb) nd));(generalize w8.drewN nd = W8 at *);(clear hb HB2 BX2 BH2 BI2 HO2 hz0 hz1 hz2 hz3 hf0 hf1 hf2 hf3 HAJ HT)
    go_wp2_with ((with_reducible refine gate_builtin (b := .append) (xs := #[.tmp 59, .tmp 61]) rfl ?_); at_builtin; refine Kd.R_append Kd.flt (w0 := w) w.heap.size rfl (.tmp 59) (.tmp 61) 24 35 (.float .f64 0) 8 rfl Try.underlying24 info35 rfl (by decide) (by omega) u12 acc (fsubV U Bb) [.float .f64 (fsubV U Bb)] (fun k => k ≠ gh) (fun _ => False) rfl rfl rfl (fun _ hk => hk.elim) (fun k hk => by have := blk_lt BH8.out; omega) HO8.out HB8.out HB8.out.size (by have := HLN.out; omega) ?_; intro v10 w10 ho hb hg hat)
    go_roundg m
    case measure => omega
    case rel => exact ⟨j + 1, acc ++ [(fsubV U Bb)], by omega, congrArg (Value.int .i64) hW.out, by rw [List.length_append, List.length_singleton]; omega, ⟨hb⟩, ⟨blk_grown BX8.out hg (by intro e; have := Kd.R_lt HO8.out gx e.symm; have := Kd.R_typed HO8.out gx e.symm; obtain ⟨cells, hc⟩ := this; rw [BX8.out] at hc; injection hc with hc; injection hc with _ h3 _; exact absurd h3 (by decide))⟩, ⟨blk_grown BH8.out hg (fun e => HO8.out.1 gh e.symm rfl)⟩, ⟨ho⟩, HL4.out⟩
   ·have HTV2 := HTV.out
    (rw [if_neg c2] at HTV2);(rw [HTV2] at HT);(have hR := HL3.out.trans (if_neg c2));(subst hR);(clear HTV HTV2 HL3 c2)
    go_wp2_with (first | (go_at_call 53; refine (HAJ.out gi W2 HB2.out BI2.out BH2.out).mono ?_; rintro e w8 ⟨rfl, hb⟩) | (go_at_call 55; refine (FK.risk_told.calls (fsubV U Bb) 0 91 _ HT.out).mono ?_; rintro e w9 ⟨rfl, ⟨nd, rfl⟩⟩))
    (go_ret2);(exact ⟨_, rfl, Kd.R_nil _ _ _ _ _, pw_below_drewN (below_step HB2.out hb) nd⟩)
  ·obtain rfl : gk = 0 := by omega
   (obtain rfl : j = ds.length := by omega);(have h1 : decide ((ds.length : Int) < (ds.length : Int)) = false := decide_eq_false (by omega));(have hR : LV = (acc, 0) := HL.out);(subst hR);(clear HL)
   go_wp2_with fail
   (go_ret2);(exact ⟨_, rfl, Kd.R_mono HO.out (fun _ _ => trivial), HB.out⟩)
end Go.Proofs.Ythkcphdhmkcdkaa.FB
