/- A curve whose nodes never rise never rises (but under ILog); at a node it tells the node's factor. No program. -/
import Derived.Test.YtmdoljecjliehaaGreatFe
namespace Go.Proofs.YtmdoljecjliehaaGreat.FP
open Go.RowKit Go.Proofs.YtmdoljecjliehaaGreatW.PrintWords Go.Proofs.YtmdoljecjliehaaGreat.FX Go.Proofs.YtmdoljecjliehaaGreat.EV Tn
set_option linter.unusedVariables false
set_option linter.unusedSimpArgs false
theorem cube_le {x y : Int} (h0 : 0 ≤ x) (h : x ≤ y) : x * x * x ≤ y * y * y := by
 (have a := Int.mul_le_mul h h h0 (by omega : 0 ≤ y));(exact Int.mul_le_mul a h h0 (Int.mul_nonneg (by omega) (by omega)))
theorem cubS_as (a c d b i n : Int) : cubS a c d b i n = n * n * n * a - (n * n * n - (n - i) * (n - i) * (n - i)) * (a - c) - (3 * (n - i) * i * i + i * i * i) * (c - d) - i * i * i * (d - b) := by unfold cubS; grind
theorem mid_le {i j n : Int} (h0 : 0 ≤ i) (hi : i ≤ j) (hn : j ≤ n) : 3 * (n - i) * i * i + i * i * i ≤ 3 * (n - j) * j * j + j * j * j := by
 (have p1 : 0 ≤ (j - i) * ((n - j) * (j + i)) := Int.mul_nonneg (by omega) (Int.mul_nonneg (by omega) (by omega)));(have p2 : 0 ≤ (j - i) * ((j - i) * (j + 2 * i)) := Int.mul_nonneg (by omega) (Int.mul_nonneg (by omega) (by omega)));(have e : 3 * (n - j) * j * j + j * j * j - (3 * (n - i) * i * i + i * i * i) = 3 * ((j - i) * ((n - j) * (j + i))) + (j - i) * ((j - i) * (j + 2 * i)) := by grind);(omega)
theorem cubS_falls {a c d b i j n : Int} (h1 : b ≤ d) (h2 : d ≤ c) (h3 : c ≤ a) (h0 : 0 ≤ i) (hi : i ≤ j) (hn : j ≤ n) : cubS a c d b j n ≤ cubS a c d b i n := by
 (rw [cubS_as a c d b j n, cubS_as a c d b i n]);(have q1 := Int.mul_le_mul_of_nonneg_right (cube_le (x := n - j) (y := n - i) (by omega) (by omega)) (by omega : 0 ≤ a - c));(have q2 := Int.mul_le_mul_of_nonneg_right (mid_le h0 hi hn) (by omega : 0 ≤ c - d));(have q3 := Int.mul_le_mul_of_nonneg_right (cube_le h0 hi) (by omega : 0 ≤ d - b));(have e1 : (n * n * n - (n - j) * (n - j) * (n - j)) * (a - c) = n * n * n * (a - c) - (n - j) * (n - j) * (n - j) * (a - c) := Int.sub_mul ..);(have e2 : (n * n * n - (n - i) * (n - i) * (n - i)) * (a - c) = n * n * n * (a - c) - (n - i) * (n - i) * (n - i) * (a - c) := Int.sub_mul ..);(omega)
theorem linS_falls {a b i j n : Int} (h : b ≤ a) (hi : i ≤ j) : (n - j) * a + j * b ≤ (n - i) * a + i * b := by
 (have q := Int.mul_le_mul_of_nonneg_right hi (by omega : 0 ≤ a - b));(have e1 : (n - j) * a + j * b = n * a - j * (a - b) := by grind);(have e2 : (n - i) * a + i * b = n * a - i * (a - b) := by grind);(omega)
theorem way_falls {kd : Int} {xs : List Int} {ys : List Nat} (T : Tab xs ys) (k1 : 1 ≤ kd) (k2 : kd ≤ 3) {j i m n : Int} (j0 : 0 ≤ j) (j1 : j + 1 < (xs.length : Int)) (i0 : 0 ≤ i) (im : i ≤ m) (mn : m ≤ n) (n1 : 1 ≤ n) (n2 : n ≤ 109572)
  (hf : rank (rdOf (0 : Nat) ys (j + 1)) ≤ rank (rdOf (0 : Nat) ys j)) : rank (wayV kd xs ys j m n) ≤ rank (wayV kd xs ys j i n) := by
 (have hl := T.l);(have fa := (T.fy j j0 (by omega)).2);(have fb := (T.fy (j + 1) (by omega) (by omega)).2);(unfold wayV)
 by_cases c1 : kd = 1
 ·rw [if_pos c1, if_pos c1]; exact Int.le_refl _
 rw [if_neg c1, if_neg c1]
 by_cases c2 : kd = 2
 ·rw [if_pos c2, if_pos c2]
  exact overV_mono (linS_falls (units_mono fb fa hf) im) _
 (rw [if_neg c2, if_neg c2, if_pos (show kd = 3 by omega), if_pos (show kd = 3 by omega)]);(obtain ⟨c, d, hp, ⟨cw, cn, cb⟩, ⟨dw, dn, db⟩, hv⟩ := cubic_is kd T j0 j1 i0 (by omega) n1 n2);(obtain ⟨c', d', hp', _, _, hv'⟩ := cubic_is kd T j0 j1 (by omega : 0 ≤ m) mn n1 n2);(have he := hp.uniq hp')
 injection he with _ he
 injection he with hc he
 injection he with hd _
 (subst hc; subst hd);(rw [lim_is hv, lim_is hv']);(have k1 : rank (rdOf (0 : Nat) ys (j + 1)) ≤ rank c ∧ rank c ≤ rank (rdOf (0 : Nat) ys j) := by unfold btw at cb; omega);(have k2 : rank (rdOf (0 : Nat) ys (j + 1)) ≤ rank d ∧ rank d ≤ rank c := by unfold btw at db; omega);(have fc := btw_fin fa fb cn cb);(have fd := btw_fin fc fb dn db);(exact overV_mono (cubS_falls (units_mono fb fd k2.1) (units_mono fd fc k2.2) (units_mono fc fa k1.2) i0 im mn) _)
def FallsY (ys : List Nat) : Prop := ∀ i j : Nat, (hij : i ≤ j) → (hj : j < ys.length) → rank (rdOf (0 : Nat) ys (j : Int)) ≤ rank (rdOf (0 : Nat) ys (i : Int))
theorem at_place {kd : Int} {xs : List Int} {ys : List Nat} (T : Tab xs ys) (k1 : 1 ≤ kd) (k2 : kd ≤ 4) {x : Int} (h0 : (atV kd xs ys x).2 = 0) :
  ∃ j : Nat, j < xs.length ∧ rd xs (j : Int) ≤ x ∧ (∀ hj : j + 1 < xs.length, x < rd xs ((j + 1 : Nat) : Int)) ∧ ((rd xs (j : Int) = x ∧ (atV kd xs ys x).1 = rdOf (0 : Nat) ys (j : Int)) ∨ (j + 1 < xs.length ∧ rd xs (j : Int) < x ∧ (atV kd xs ys x).1 = wayV kd xs ys (j : Int) (x - rd xs (j : Int)) (rd xs ((j : Int) + 1) - rd xs (j : Int)) ∧ btw (rdOf (0 : Nat) ys (j : Int)) (rdOf (0 : Nat) ys ((j : Int) + 1)) (atV kd xs ys x).1)) := by
 (have hl := T.l);(have hn := T.n);(unfold atV at *)
 by_cases c : x < rd xs 0 ∨ rd xs ((xs.length : Int) - 1) < x
 ·rw [if_pos c] at h0; cases h0
 (rw [if_neg c]);(obtain ⟨j, j1, j2, j3, j4, j5⟩ := place_is T (x := x) (by omega) (by omega));(rw [j2, show (((j + 1 : Nat) : Int) - 1) = (j : Int) by omega]);(refine ⟨j, j1, j3, j4, ?_⟩)
 by_cases c2 : rd xs (j : Int) = x
 ·rw [if_pos c2]; exact .inl ⟨c2, rfl⟩
 (rw [if_neg c2]);(have j6 := j5 c2);(have ra := T.at (j := (j : Int)) (by omega) (by omega));(have rb := T.at2 (j := (j : Int)) (by omega) (by omega));(have j7 := j4 j6);(rw [show ((j + 1 : Nat) : Int) = (j : Int) + 1 by omega] at j7);(exact .inr ⟨j6, by omega, rfl, (way_is T k1 k2 (j := (j : Int)) (i := x - rd xs (j : Int)) (n := rd xs ((j : Int) + 1) - rd xs (j : Int)) (by omega) (by omega) (by omega) (by omega) ra.1 rb).2.2.2⟩)
theorem at_under {kd : Int} {xs : List Int} {ys : List Nat} (T : Tab xs ys) (k1 : 1 ≤ kd) (k2 : kd ≤ 4) (F : FallsY ys) {x : Int} (h0 : (atV kd xs ys x).2 = 0) : rank (atV kd xs ys x).1 ≤ rank (rdOf (0 : Nat) ys 0) := by
 (have hl := T.l);(obtain ⟨j, j1, j2, j3, ⟨e1, e2⟩ | ⟨j6, e1, e2, bt⟩⟩ := at_place T k1 k2 h0)
 ·rw [e2]; exact F 0 j (by omega) (by omega)
 ·have a := F 0 j (by omega) (by omega)
  (have b := F j (j + 1) (by omega) (by omega));(have e0 : ((0 : Nat) : Int) = 0 := rfl);(have e3 : ((j + 1 : Nat) : Int) = (j : Int) + 1 := by omega);(rw [e0] at a);(rw [e3] at b);(unfold btw at bt);(omega)
theorem at_falls {kd : Int} {xs : List Int} {ys : List Nat} (T : Tab xs ys) (k1 : 1 ≤ kd) (k2 : kd ≤ 3) (F : FallsY ys) {x y : Int} (hxy : x ≤ y) (h1 : (atV kd xs ys x).2 = 0) (h2 : (atV kd xs ys y).2 = 0) : rank (atV kd xs ys y).1 ≤ rank (atV kd xs ys x).1 := by
 (have hl := T.l);(obtain ⟨j, j1, j2, j3, hx⟩ := at_place T k1 (by omega) h1);(obtain ⟨m, m1, m2, m3, hy⟩ := at_place T k1 (by omega) h2);(have e3 : ((j + 1 : Nat) : Int) = (j : Int) + 1 := by omega);(have e4 : ((m + 1 : Nat) : Int) = (m : Int) + 1 := by omega)
 have hjm : j ≤ m := by
  rcases Nat.lt_or_ge m j with c | c
  ·exfalso
   have c1 := m3 (by omega)
   rcases Nat.lt_or_ge (m + 1) j with c2 | c2
   ·have := T.lt (i := ((m + 1 : Nat) : Int)) (j := (j : Int)) (by omega) (by omega) (by omega)
    omega
   ·have c3 : m + 1 = j := by omega
    rw [c3] at c1; omega
  ·exact c
 rcases Nat.lt_or_ge j m with c | c
 ·-- another gap
  (have a := F (j + 1) m (by omega) (by omega));(rw [e3] at a);(have b := F j (j + 1) (by omega) (by omega));(rw [e3] at b)
  have lo : rank (rdOf (0 : Nat) ys ((j : Int) + 1)) ≤ rank (atV kd xs ys x).1 := by
   rcases hx with ⟨_, e2⟩ | ⟨_, _, _, bt⟩
   ·rw [e2]; exact b
   ·unfold btw at bt; omega
  have hi : rank (atV kd xs ys y).1 ≤ rank (rdOf (0 : Nat) ys (m : Int)) := by
   rcases hy with ⟨_, e2⟩ | ⟨q, _, _, bt⟩
   ·rw [e2]; exact Int.le_refl _
   ·have b2 := F m (m + 1) (by omega) (by omega)
    (rw [e4] at b2);(unfold btw at bt; omega)
  omega
 ·have hm : m = j := by omega
  subst hm
  rcases hy with ⟨ye, y2⟩ | ⟨q, yl, y2, bt⟩
  ·rcases hx with ⟨_, e2⟩ | ⟨_, xl, _, _⟩
   ·rw [e2, y2]; exact Int.le_refl _
   ·omega
  ·have b2 := F m (m + 1) (by omega) (by omega)
   rw [e4] at b2
   rcases hx with ⟨_, e2⟩ | ⟨_, xl, e2, _⟩
   ·rw [e2]; unfold btw at bt; omega
   ·rw [e2, y2]
    (have ra := T.at (j := (m : Int)) (by omega) (by omega));(have rb := T.at2 (j := (m : Int)) (by omega) (by omega));(have m4 := m3 q);(rw [e4] at m4);(exact way_falls T k1 k2 (by omega) (by omega) (by omega) (by omega) (by omega) ra.1 rb b2)
theorem at_node {kd : Int} {xs : List Int} {ys : List Nat} (T : Tab xs ys) (k1 : 1 ≤ kd) (k2 : kd ≤ 4) {i : Nat} (hi : i < xs.length) : atV kd xs ys (rd xs (i : Int)) = (rdOf (0 : Nat) ys (i : Int), 0) := by
 have hn := T.n
 have lo : rd xs 0 ≤ rd xs (i : Int) := by
  rcases Nat.eq_zero_or_pos i with c | c
  ·subst c; exact Int.le_refl _
  ·exact Int.le_of_lt (T.lt (by omega) (by omega) (by omega))
 have hi2 : rd xs (i : Int) ≤ rd xs ((xs.length : Int) - 1) := by
  rcases Nat.lt_or_ge (i + 1) xs.length with c | c
  ·exact Int.le_of_lt (T.lt (by omega) (by omega) (by omega))
  ·rw [show (xs.length : Int) - 1 = (i : Int) by omega]; exact Int.le_refl _
 have h2 : (atV kd xs ys (rd xs (i : Int))).2 = 0 := by
  (unfold atV);(rw [if_neg (by omega)])
  split <;> rfl
 obtain ⟨j, j1, j2, j3, hx⟩ := at_place T k1 k2 h2
 have hij : i = j := by
  rcases Nat.lt_trichotomy i j with c | c | c
  ·have := T.lt (i := (i : Int)) (j := (j : Int)) (by omega) (by omega) (by omega); omega
  ·exact c
  ·exfalso
   have c1 := j3 (by omega)
   rcases Nat.lt_or_ge (j + 1) i with c2 | c2
   ·have := T.lt (i := ((j + 1 : Nat) : Int)) (j := (i : Int)) (by omega) (by omega) (by omega); omega
   ·rw [show j + 1 = i by omega] at c1; omega
 subst hij
 rcases hx with ⟨_, e2⟩ | ⟨_, xl, _, _⟩
 ·exact Prod.ext e2 h2
 ·omega
end Go.Proofs.YtmdoljecjliehaaGreat.FP
