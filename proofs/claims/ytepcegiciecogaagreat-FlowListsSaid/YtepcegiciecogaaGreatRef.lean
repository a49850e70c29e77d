/- The reference's numbers, as the print has them, told as whole numbers: digits, shifts, what is nearest. No Go and no memory here. -/
import Derived.Test.YtepcegiciecogaaGreatFRx1
import Derived.Test.YtepcegiciecogaaGreatFRx2
import Derived.Test.YtepcegiciecogaaGreatFRx3
import Derived.Test.YtepcegiciecogaaGreatFRx4
import Derived.Test.YtepcegiciecogaaGreatFRx5
import Derived.Test.YtepcegiciecogaaGreatFRx6
import Derived.Test.YtepcegiciecogaaGreatFRx7
import Derived.Test.YtepcegiciecogaaGreatFRx8
import Derived.Test.YtepcegiciecogaaGreatFRx9
import Derived.Test.YtepcegiciecogaaGreatDig
import Derived.Test.YtepcegiciecogaaGreatPl
namespace Go.Proofs.YtepcegiciecogaaGreat.FR
open Go.RowKit Go.Proofs.YtepcegiciecogaaGreatW.PrintWords Go.Proofs.YtepcegiciecogaaGreatW.PrintLast Go.Proofs.YtepcegiciecogaaGreatW.PrintMore Tn

theorem wrap_id {x : Int} (h0 : -9223372036854775808 ≤ x) (h1 : x < 9223372036854775808) : wrap64 x = x := by unfold wrap64; omega
theorem wrapu_id {x : Int} (h0 : 0 ≤ x) (h1 : x < 18446744073709551616) : IntKind.u64.wrap x = x := by rw [IntKind.wrap_u64]; omega
theorem rd_nat (l : List Int) (i : Nat) : rd l (i : Int) = l.getD i 0 := by unfold rd; rw [Int.toNat_natCast]

theorem trim_loop (l : List Int) (hl : Dig l) (hlen : l.length < 1099511627776) : ∀ (n : Nat), n ≤ l.length → (∀ j, n ≤ j → l.getD j 0 = 0) → ∀ k, n < k → tenorref1_trim.l0 k l (n : Int) = some (dg (val l)) := by
  intro n
  induction n with
  | zero =>
    intro _ hz k hk
    obtain ⟨k, rfl⟩ : ∃ m, k = m + 1 := ⟨k - 1, by omega⟩
    simp only [tenorref1_trim.l0]
    rw [if_neg (by decide), if_pos (by decide), if_pos (by omega), dg_all_zero (fun j => hz j (by omega))]
    rfl
  | succ n ih =>
    intro hn hz k hk
    obtain ⟨k, rfl⟩ : ∃ m, k = m + 1 := ⟨k - 1, by omega⟩
    simp only [tenorref1_trim.l0]
    have e1 : wrap64 (((n + 1 : Nat) : Int) - 1) = (n : Int) := by rw [wrap_id (by omega) (by omega)]; omega
    rw [if_pos (by omega), e1, if_pos (by omega), if_pos (by omega), rd_nat]
    by_cases c : l.getD n 0 = 0
    · rw [if_pos c]
      exact ih (by omega) (fun j hj => by
        by_cases e : j = n
        · rw [e]; exact c
        · exact hz j (by omega)) k (by omega)
    · rw [if_neg c, if_pos (by omega), if_pos (by omega), dg_trim hl (by omega) hz c, Int.toNat_natCast]
theorem trim_ev {l : List Int} (hl : Dig l) (hlen : l.length < 1099511627776) : Ev (fun k => tenorref1_trim.f k l) (dg (val l)) :=
  ⟨l.length + 1, fun k hk => trim_loop l hl hlen l.length (Nat.le_refl _) (fun j hj => dgetD_out hj) k (by omega)⟩
theorem digit_dg (v i : Nat) (hlen : (dg v).length < 1099511627776) : tenorref1_digit.f (dg v) (i : Int) = some ((v / 2 ^ (32 * i) % 4294967296 : Nat) : Int) := by
  unfold tenorref1_digit.f
  rw [if_neg (by omega), ← getD_dg, ← rd_nat]
  by_cases c : i < (dg v).length
  · rw [if_neg (by omega), if_pos (by omega), if_pos (by omega)]
  · rw [if_pos (by omega), rd_nat, dgetD_out (by omega)]
theorem len_loop : ∀ (x : Nat) (n k : Nat), bl x < k → n + bl x < 4611686018427387904 → x < 18446744073709551616 → tenorref1_Len.l0 k (n : Int) (x : Int) = some ((n + bl x : Nat) : Int) := by
  intro x
  induction x using Nat.strongRecOn with
  | ind x ih =>
    intro n k hk hn hx
    obtain ⟨k, rfl⟩ : ∃ m, k = m + 1 := ⟨k - 1, by omega⟩
    simp only [tenorref1_Len.l0]
    by_cases h0 : x = 0
    · subst h0; rw [if_neg (by decide)]; rfl
    · have hb : bl x = bl (x / 2) + 1 := by
        unfold bl; rw [if_neg h0]
        by_cases h1 : x = 1
        · subst h1; decide
        · rw [if_neg (by omega), Nat.log2_def x, if_pos (by omega)]
      have e1 : wrap64 ((n : Int) + 1) = ((n + 1 : Nat) : Int) := by rw [wrap_id (by omega) (by omega)]; rfl
      have e2 : IntKind.u64.wrap (Int.tdiv (x : Int) 2) = ((x / 2 : Nat) : Int) := by
        rw [Int.tdiv_eq_ediv_of_nonneg (by omega), wrapu_id (by omega) (by omega)]; rfl
      rw [if_pos (by omega), e1, e2, ih (x / 2) (by omega) (n + 1) k (by omega) (by omega) (by omega), hb]
      congr 2; omega
theorem bl_top {v i : Nat} (h : 2 ^ (32 * i) ≤ v) (h2 : v < 2 ^ (32 * (i + 1))) : bl v = 32 * i + bl (v / 2 ^ (32 * i)) := by
  have hp := Nat.two_pow_pos (32 * i)
  have hv : v ≠ 0 := by omega
  have hq : v / 2 ^ (32 * i) ≠ 0 := by
    have := (Nat.le_div_iff_mul_le hp (x := 1) (y := v)).2 (by omega); omega
  rw [bitLen_log hv, bitLen_log hq]
  have a := log2_lo hq
  have b := log2_hi (v / 2 ^ (32 * i))
  have : v.log2 = 32 * i + (v / 2 ^ (32 * i)).log2 := by
    apply log2_unique
    · rw [Nat.pow_add]
      have := Nat.mul_le_mul_left (2 ^ (32 * i)) a
      have := Nat.mul_div_le v (2 ^ (32 * i))
      omega
    · rw [show 32 * i + (v / 2 ^ (32 * i)).log2 + 1 = 32 * i + ((v / 2 ^ (32 * i)).log2 + 1) by omega, Nat.pow_add, Nat.mul_comm]
      exact (Nat.div_lt_iff_lt_mul hp).1 b
  omega
theorem len_ev {v : Nat} (hlen : (dg v).length < 1073741824) : Ev (fun k => tenorref1_Len.f k (dg v)) (bl v : Int) := by
  by_cases h0 : v = 0
  · subst h0
    refine Ev.congr (f := fun _ => some 0) (fun k => ?_) (Ev.now _)
    unfold tenorref1_Len.f; rw [dg_zero, if_pos (by rfl)]
  · obtain ⟨i, hi⟩ : ∃ i, (dg v).length = i + 1 := by
      rw [dg_pos h0]; exact ⟨_, rfl⟩
    have h1 : 2 ^ (32 * i) ≤ v := (lt_len_dg v i).1 (by omega)
    have h2 : v < 2 ^ (32 * (i + 1)) := by
      by_cases c : 2 ^ (32 * (i + 1)) ≤ v
      · have := (lt_len_dg v (i + 1)).2 c; omega
      · omega
    have e1 : wrap64 (((dg v).length : Int) - 1) = (i : Int) := by rw [hi, wrap_id (by omega) (by omega)]; omega
    have e2 : rd (dg v) (i : Int) = ((v / 2 ^ (32 * i) : Nat) : Int) := by
      rw [rd_nat, getD_dg, Nat.mod_eq_of_lt]
      have h2' : v < 4294967296 * 2 ^ (32 * i) := by rw [← pow32]; exact h2
      rw [Nat.div_lt_iff_lt_mul (Nat.two_pow_pos _)]; exact h2'
    have e3 : wrap64 (32 * (i : Int)) = ((32 * i : Nat) : Int) := by rw [wrap_id (by omega) (by omega)]; omega
    have hq : v / 2 ^ (32 * i) < 4294967296 := by
      have := (dig_dg v).getD i; rw [getD_dg] at this
      have e := e2; rw [rd_nat, getD_dg] at e; omega
    have hb : bl (v / 2 ^ (32 * i)) ≤ 64 := bl_le (by omega)
    refine ⟨bl (v / 2 ^ (32 * i)) + 1, fun k hk => ?_⟩
    show tenorref1_Len.f k (dg v) = _
    unfold tenorref1_Len.f
    rw [if_neg (by omega), e1, if_pos (by omega), if_pos (by omega), e2, e3, len_loop _ _ k (by omega) (by omega) (by omega), bl_top h1 h2]
theorem tdiv_nat (n d : Nat) : Int.tdiv (n : Int) (d : Int) = ((n / d : Nat) : Int) := by rw [Int.tdiv_eq_ediv_of_nonneg (by omega)]; rfl
theorem tmod_nat (n d : Nat) : Int.tmod (n : Int) (d : Int) = ((n % d : Nat) : Int) := by rw [Int.tmod_eq_emod_of_nonneg (by omega)]; rfl
theorem shl_nat {x r : Nat} (hx : x < 4294967296) (hr : r < 32) : shl .u64 (x : Int) (r : Int) = ((x * 2 ^ r : Nat) : Int) := by
  have h1 : 2 ^ r ≤ 2 ^ 31 := pow_le (by omega)
  have h2 : x * 2 ^ r ≤ 4294967296 * 2 ^ 31 := Nat.mul_le_mul (by omega) h1
  have e : min ((r : Int).toNat) 64 = r := by omega
  show IntKind.u64.wrap ((x : Int) * 2 ^ min ((r : Int).toNat) (IntKind.u64.bits)) = _
  rw [show IntKind.u64.bits = 64 from rfl, e, show (x : Int) * 2 ^ r = ((x * 2 ^ r : Nat) : Int) by simp, wrapu_id (by omega) (by omega)]
theorem up_val {A B C P H X a : Nat} (v1 : A + P * H = a + P * (H + X % 4294967296)) (v2 : B + P * 4294967296 * 0 = A + P * 4294967296 * (X / 4294967296)) (hC : C = P * X) : B = a + C := by
  have hxx : X = X % 4294967296 + 4294967296 * (X / 4294967296) := (Nat.mod_add_div _ _).symm
  have a1 : P * X = P * (X % 4294967296) + P * 4294967296 * (X / 4294967296) := by
    conv => lhs; rw [hxx]
    rw [Nat.mul_add, Nat.mul_assoc]
  rw [Nat.mul_add] at v1
  rw [hC, a1]
  generalize P * (X % 4294967296) = p1 at *
  generalize P * 4294967296 * (X / 4294967296) = p2 at *
  omega
theorem up_low (D r : Nat) (hr : r < 32) : D * 2 ^ r % 4294967296 + 2 ^ r ≤ 4294967296 := by
  have hs : 2 ^ r * 2 ^ (32 - r) = 4294967296 := by rw [← Nat.pow_add, show r + (32 - r) = 32 by omega]
  have e : D * 2 ^ r % 4294967296 = 2 ^ r * (D % 2 ^ (32 - r)) := by
    rw [← hs, Nat.mul_comm, Nat.mul_mod_mul_left]
  have h1 : D % 2 ^ (32 - r) + 1 ≤ 2 ^ (32 - r) := Nat.mod_lt _ (Nat.two_pow_pos _)
  have h2 := Nat.mul_le_mul_left (2 ^ r) h1
  rw [hs, Nat.mul_add, ← e, Nat.mul_one] at h2
  exact h2
theorem up_prod (a i q r D : Nat) : a * 2 ^ r * 2 ^ (32 * q) + 2 ^ (32 * (i + q)) * (D * 2 ^ r) = (a + 2 ^ (32 * i) * D) * 2 ^ r * 2 ^ (32 * q) := by
  rw [Nat.add_mul, Nat.add_mul]
  congr 1
  rw [show 32 * (i + q) = 32 * i + 32 * q by omega, Nat.pow_add]
  simp only [Nat.mul_assoc, Nat.mul_comm, Nat.mul_left_comm]
def upOut (out : List Int) (i q x : Nat) : List Int := (out.set (i + q) (((out.getD (i + q) 0).toNat + x % 4294967296 : Nat) : Int)).set (i + q + 1) ((x / 4294967296 : Nat) : Int)
theorem upOut_next (out : List Int) (i q x : Nat) (hlen : i + q + 1 < out.length) : (upOut out i q x).getD (i + 1 + q) 0 = ((x / 4294967296 : Nat) : Int) := by
  unfold upOut
  rw [show i + 1 + q = i + q + 1 by omega, dgetD_in (by simp; omega)]
  simp
theorem upOut_far (out : List Int) (i q x j : Nat) (hj : i + 1 + q + 1 ≤ j) : (upOut out i q x).getD j 0 = out.getD j 0 := by
  unfold upOut
  rw [List.getD_eq_getElem?_getD, List.getElem?_set_ne (by omega), List.getElem?_set_ne (by omega), ← List.getD_eq_getElem?_getD]
theorem upOut_val {out : List Int} {i q x : Nat} (hlen : i + q + 1 < out.length) (hz : out.getD (i + q + 1) 0 = 0) : val (upOut out i q x) = val out + 2 ^ (32 * (i + q)) * x := by
  have e1 : (out.set (i + q) (((out.getD (i + q) 0).toNat + x % 4294967296 : Nat) : Int)).getD (i + q + 1) 0 = 0 := by
    rw [List.getD_eq_getElem?_getD, List.getElem?_set_ne (by omega), ← List.getD_eq_getElem?_getD]; exact hz
  have v1 := val_set out (i + q) (((out.getD (i + q) 0).toNat + x % 4294967296 : Nat) : Int) (by omega)
  have v2 := val_set (out.set (i + q) (((out.getD (i + q) 0).toNat + x % 4294967296 : Nat) : Int)) (i + q + 1) ((x / 4294967296 : Nat) : Int) (by simp; omega)
  rw [e1, pow32, Nat.mul_comm 4294967296] at v2
  rw [Int.toNat_natCast] at v1 v2
  exact up_val v1 v2 rfl
structure UpInv (d out : List Int) (i q r : Nat) : Prop where
  dig : Dig out
  top : (out.getD (i + q) 0).toNat < 2 ^ r
  zero : ∀ j, i + q + 1 ≤ j → out.getD j 0 = 0
  value : val out = val (d.take i) * 2 ^ r * 2 ^ (32 * q)
theorem up_step {d : List Int} {out : List Int} {i q r : Nat} (hd : Dig d) (hi : i < d.length) (hlen : i + q + 1 < out.length) (hr : r < 32) (h : UpInv d out i q r) :
    UpInv d (upOut out i q ((d.getD i 0).toNat * 2 ^ r)) (i + 1) q r := by
  have hdi := hd.getD i
  have hp := Nat.two_pow_pos r
  have hx : (d.getD i 0).toNat * 2 ^ r < 4294967296 * 2 ^ r := Nat.mul_lt_mul_of_pos_right (by omega) hp
  have hhi : (d.getD i 0).toNat * 2 ^ r / 4294967296 < 2 ^ r := by rw [Nat.div_lt_iff_lt_mul (by decide), Nat.mul_comm (2 ^ r)]; exact hx
  have hr32 : 2 ^ r ≤ 2 ^ 31 := pow_le (by omega)
  have hlo := up_low (d.getD i 0).toNat r hr
  have ht := h.top
  refine ⟨?_, ?_, ?_, ?_⟩
  · unfold upOut; exact (h.dig.set _ (by omega) (by omega)).set _ (by omega) (by omega)
  · rw [upOut_next out i q _ hlen, Int.toNat_natCast]; exact hhi
  · intro j hj; rw [upOut_far out i q _ j hj]; exact h.zero j (by omega)
  · rw [upOut_val hlen (h.zero _ (Nat.le_refl _)), h.value, val_take_succ d i hi, up_prod]
theorem tdiv32 (n : Nat) : Int.tdiv (n : Int) 32 = ((n / 32 : Nat) : Int) := tdiv_nat n 32
theorem tmod32 (n : Nat) : Int.tmod (n : Int) 32 = ((n % 32 : Nat) : Int) := tmod_nat n 32
theorem tdivB (n : Nat) : Int.tdiv (n : Int) 4294967296 = ((n / 4294967296 : Nat) : Int) := tdiv_nat n 4294967296
theorem tmodB (n : Nat) : Int.tmod (n : Int) 4294967296 = ((n % 4294967296 : Nat) : Int) := tmod_nat n 4294967296
theorem wrap_nat {n : Nat} (h : n < 9223372036854775808) : wrap64 (n : Int) = (n : Int) := wrap_id (by omega) (by omega)
theorem wrap_add {a b : Nat} (h : a + b < 9223372036854775808) : wrap64 ((a : Int) + (b : Int)) = ((a + b : Nat) : Int) := by rw [wrap_id (by omega) (by omega)]; rfl
theorem wrap_add1 {a : Nat} (h : a + 1 < 9223372036854775808) : wrap64 ((a : Int) + 1) = ((a + 1 : Nat) : Int) := by rw [wrap_id (by omega) (by omega)]; rfl
theorem wrapu_nat {n : Nat} (h : n < 18446744073709551616) : IntKind.u64.wrap (n : Int) = (n : Int) := wrapu_id (by omega) (by omega)
theorem wrapu_add {a b : Nat} (h : a + b < 18446744073709551616) : IntKind.u64.wrap ((a : Int) + (b : Int)) = ((a + b : Nat) : Int) := by rw [wrapu_id (by omega) (by omega)]; rfl
theorem wrapu_mul {a b : Nat} (h : a * b < 18446744073709551616) : IntKind.u64.wrap ((a : Int) * (b : Int)) = ((a * b : Nat) : Int) := by
  rw [show (a : Int) * (b : Int) = ((a * b : Nat) : Int) by simp, wrapu_nat h]
theorem rd_toNat {l : List Int} (h : Dig l) (i : Nat) : rd l (i : Int) = (((l.getD i 0).toNat : Nat) : Int) := by have := h.getD i; rw [rd_nat]; omega
theorem getD_lt {l : List Int} (h : Dig l) (i : Nat) : (l.getD i 0).toNat < 4294967296 := by have := h.getD i; omega
theorem getD_zeros (n j : Nat) : (List.replicate n (0 : Int)).getD j 0 = 0 := by
  by_cases c : j < n <;> simp [List.getD_eq_getElem?_getD, List.getElem?_replicate, c]
theorem up_sum {H D r : Nat} (hr : r < 32) (hH : H < 2 ^ r) : H + D * 2 ^ r % 4294967296 < 4294967296 := by
  have := up_low D r hr; omega
theorem up_round {d out : List Int} {i n k : Nat} (hd : Dig d) (hu : UpInv d out i (n / 32) (n % 32)) (hi : i < d.length) (hl : d.length < 1073741824) (hn : n < 1073741824) (hlen : out.length = d.length + n / 32 + 1) :
    tenorref1_ShiftUp.l0 (k + 1) d (n : Int) out (i : Int) = tenorref1_ShiftUp.l0 k d (n : Int) (upOut out i (n / 32) ((d.getD i 0).toNat * 2 ^ (n % 32))) ((i + 1 : Nat) : Int) := by
  have hr : n % 32 < 32 := Nat.mod_lt _ (by decide)
  have hq : n / 32 ≤ n := Nat.div_le_self _ _
  have hD := getD_lt hd i
  have hs := up_sum (D := (d.getD i 0).toNat) hr hu.top
  have hx : (d.getD i 0).toNat * 2 ^ (n % 32) / 4294967296 < 18446744073709551616 := by
    have h1 : 2 ^ (n % 32) ≤ 2 ^ 31 := pow_le (by omega)
    have h2 : (d.getD i 0).toNat * 2 ^ (n % 32) ≤ 4294967296 * 2 ^ 31 := Nat.mul_le_mul (by omega) h1
    exact Nat.lt_of_le_of_lt (Nat.div_le_self _ _) (by omega)
  simp only [tenorref1_ShiftUp.l0]
  rw [tdiv32, tmod32, wrap_nat (n := n / 32) (by omega), wrap_add (a := i) (b := n / 32) (by omega), wrap_add1 (a := i + n / 32) (by omega), wrap_add1 (a := i) (by omega),
    rd_toNat hd, shl_nat hD hr, rd_toNat hu.dig, tmodB, tdivB, wrapu_add (by omega), wrapu_nat hx, Int.toNat_natCast, Int.toNat_natCast]
  rw [if_pos (by omega), if_pos (by omega), if_pos (by omega), if_pos (by omega), if_pos (by omega), if_pos (by omega), if_pos (by omega)]
  rfl
theorem shiftUp_loop {v n : Nat} (hn : n < 1073741824) (hd : (dg v).length < 1073741824) : ∀ (m i : Nat) (out : List Int), i + m = (dg v).length → out.length = (dg v).length + n / 32 + 1 → UpInv (dg v) out i (n / 32) (n % 32) →
    ∀ k, m + out.length + 1 < k → tenorref1_ShiftUp.l0 k (dg v) (n : Int) out (i : Int) = some (dg (v * 2 ^ n)) := by
  intro m
  induction m with
  | zero =>
    intro i out hi hlen hu k hk
    obtain ⟨k, rfl⟩ : ∃ m, k = m + 1 := ⟨k - 1, by omega⟩
    simp only [tenorref1_ShiftUp.l0]
    rw [if_neg (by omega)]
    have ht := trim_loop out hu.dig (by omega) out.length (Nat.le_refl _) (fun j hj => dgetD_out hj) k (by omega)
    show (tenorref1_trim.l0 k out (out.length : Int)).bind _ = _
    rw [ht, hu.value, show i = (dg v).length by omega, List.take_length, val_dg, Nat.mul_assoc, ← Nat.pow_add, show n % 32 + 32 * (n / 32) = n by omega]
    rfl
  | succ m ih =>
    intro i out hi hlen hu k hk
    obtain ⟨k, rfl⟩ : ∃ m, k = m + 1 := ⟨k - 1, by omega⟩
    rw [up_round (dig_dg v) hu (by omega) hd hn hlen]
    have hl2 : (upOut out i (n / 32) (((dg v).getD i 0).toNat * 2 ^ (n % 32))).length = out.length := by unfold upOut; simp
    exact ih (i + 1) _ (by omega) (by rw [hl2]; exact hlen) (up_step (dig_dg v) (by omega) (by omega) (Nat.mod_lt _ (by decide)) hu) k (by rw [hl2]; omega)
theorem shiftUp_ev {v n : Nat} (hn : n < 1073741824) (hd : (dg v).length < 1073741824) : Ev (fun k => tenorref1_ShiftUp.f k (dg v) (n : Int)) (dg (v * 2 ^ n)) := by
  by_cases h0 : v = 0
  · subst h0
    refine Ev.congr (f := fun _ => some (dg (0 * 2 ^ n))) (fun k => ?_) (Ev.now _)
    unfold tenorref1_ShiftUp.f; rw [dg_zero, if_pos (by rfl), Nat.zero_mul, dg_zero]
  · have hl : (dg v).length ≠ 0 := by rw [dg_pos h0]; simp
    have hq : n / 32 ≤ n := Nat.div_le_self _ _
    refine ⟨(dg v).length + ((dg v).length + n / 32 + 1) + 2, fun k hk => ?_⟩
    show tenorref1_ShiftUp.f k (dg v) (n : Int) = _
    unfold tenorref1_ShiftUp.f
    rw [if_neg (by omega), tdiv32, wrap_nat (n := n / 32) (by omega), wrap_add (a := (dg v).length) (b := n / 32) (by omega), wrap_add1 (a := (dg v).length + n / 32) (by omega), Int.toNat_natCast, if_pos (by omega), if_pos (by omega)]
    refine shiftUp_loop hn hd (dg v).length 0 _ (by omega) (by simp) ⟨Dig.zeros _, ?_, ?_, ?_⟩ k (by simp; omega)
    · rw [getD_zeros]; exact Nat.two_pow_pos _
    · intro j _; exact getD_zeros _ _
    · rw [val_zeros]; simp [val]
theorem val_of_digits {l : List Int} {x : Nat} (h : ∀ i, i < l.length → l.getD i 0 = ((x / 2 ^ (32 * i) % 4294967296 : Nat) : Int)) (hx : x < 2 ^ (32 * l.length)) : val l = x := by
  have key : ∀ i, i ≤ l.length → val (l.take i) = x % 2 ^ (32 * i) := by
    intro i
    induction i with
    | zero => intro _; rw [List.take_zero]; show 0 = x % 1; omega
    | succ i ih =>
      intro hi
      rw [val_take_succ l i (by omega), ih (by omega), h i (by omega), Int.toNat_natCast, show 32 * (i + 1) = 32 * i + 32 by omega, Nat.pow_add, Nat.mod_mul]
  have := key l.length (Nat.le_refl _)
  rw [List.take_length, Nat.mod_eq_of_lt hx] at this
  exact this
theorem dn_digit (x n i : Nat) : (x / 2 ^ (32 * (i + n / 32)) % 4294967296 + x / 2 ^ (32 * (i + n / 32 + 1)) % 4294967296 * 4294967296) / 2 ^ (n % 32) % 4294967296 = x / 2 ^ n / 2 ^ (32 * i) % 4294967296 := by
  have e1 : x / 2 ^ (32 * (i + n / 32 + 1)) = x / 2 ^ (32 * (i + n / 32)) / 4294967296 := by rw [Nat.div_div_eq_div_mul, pow32, Nat.mul_comm]
  rw [e1]
  have e2 : x / 2 ^ n / 2 ^ (32 * i) = x / 2 ^ (32 * (i + n / 32)) / 2 ^ (n % 32) := by
    rw [Nat.div_div_eq_div_mul, Nat.div_div_eq_div_mul, ← Nat.pow_add, ← Nat.pow_add]
    congr 2; omega
  rw [e2]
  generalize x / 2 ^ (32 * (i + n / 32)) = y
  have e3 : y % 4294967296 + y / 4294967296 % 4294967296 * 4294967296 = y % (4294967296 * 4294967296) := by rw [Nat.mod_mul, Nat.mul_comm]
  rw [e3]
  have hr : n % 32 < 32 := Nat.mod_lt _ (by decide)
  have hs : 4294967296 * 4294967296 = 2 ^ (n % 32) * (2 ^ (32 - n % 32) * 4294967296) := by
    rw [← Nat.mul_assoc, ← Nat.pow_add, show n % 32 + (32 - n % 32) = 32 by omega]
  rw [hs, Nat.mod_mul_right_div_self, Nat.mul_comm, Nat.mod_mul_right_mod]
theorem shr_nat {x r : Nat} (hr : r < 32) : shr .u64 (x : Int) (r : Int) = ((x / 2 ^ r : Nat) : Int) := by
  show (x : Int) / 2 ^ min ((r : Int).toNat) (IntKind.u64.bits) = _
  rw [show IntKind.u64.bits = 64 from rfl, show min ((r : Int).toNat) 64 = r by omega, show ((2 : Int) ^ r) = ((2 ^ r : Nat) : Int) by simp]; rfl
theorem shl_one {r : Nat} (hr : r < 32) : shl .u64 1 (r : Int) = ((2 ^ r : Nat) : Int) := by
  have := shl_nat (x := 1) (r := r) (by decide) hr
  rw [Nat.one_mul] at this; exact this
theorem mod_split (x q r : Nat) : (x % 2 ^ (32 * q + r) ≠ 0) ↔ (x % 2 ^ (32 * q) ≠ 0 ∨ x / 2 ^ (32 * q) % 2 ^ r ≠ 0) := by
  rw [Nat.pow_add, Nat.mod_mul]
  have := Nat.two_pow_pos (32 * q)
  have h : 2 ^ (32 * q) * (x / 2 ^ (32 * q) % 2 ^ r) = 0 ↔ x / 2 ^ (32 * q) % 2 ^ r = 0 := by
    rw [Nat.mul_eq_zero]; constructor
    · rintro (h | h)
      · omega
      · exact h
    · exact Or.inr
  omega
theorem dn_fill {v n : Nat} (b : Bool) (hn : n < 1073741824) (hd : (dg v).length < 1073741824) (hnl : n < 32 * (dg v).length) : ∀ (m i : Nat) (out : List Int), i + m = (dg v).length - n / 32 → out.length = (dg v).length - n / 32 → Dig out → (∀ j, j < i → out.getD j 0 = ((v / 2 ^ n / 2 ^ (32 * j) % 4294967296 : Nat) : Int)) →
    ∀ k, m + out.length + 1 < k → tenorref1_ShiftDown.l1 k (dg v) (n : Int) b out (i : Int) = some (dg (v / 2 ^ n), b) := by
  have hq : n / 32 ≤ n := Nat.div_le_self _ _
  have hr : n % 32 < 32 := Nat.mod_lt _ (by decide)
  intro m
  induction m with
  | zero =>
    intro i out hi hlen ho hz k hk
    obtain ⟨k, rfl⟩ : ∃ m, k = m + 1 := ⟨k - 1, by omega⟩
    simp only [tenorref1_ShiftDown.l1]
    rw [if_neg (by omega)]
    have ht := trim_loop out ho (by omega) out.length (Nat.le_refl _) (fun j hj => dgetD_out hj) k (by omega)
    have hx : v / 2 ^ n < 2 ^ (32 * out.length) := by
      have hv := val_lt (dig_dg v)
      rw [val_dg] at hv
      rw [Nat.div_lt_iff_lt_mul (Nat.two_pow_pos _), ← Nat.pow_add]
      exact Nat.lt_of_lt_of_le hv (pow_le (by omega))
    have hval := val_of_digits (l := out) (x := v / 2 ^ n) (fun i hi => hz i (by omega)) hx
    show (tenorref1_trim.l0 k out (out.length : Int)).bind _ = _
    rw [ht, hval]; rfl
  | succ m ih =>
    intro i out hi hlen ho hz k hk
    obtain ⟨k, rfl⟩ : ∃ m, k = m + 1 := ⟨k - 1, by omega⟩
    have hg := getD_dg v (i + n / 32)
    have hlt1 : v / 2 ^ (32 * (i + n / 32)) % 4294967296 < 4294967296 := Nat.mod_lt _ (by decide)
    have hlt2 : v / 2 ^ (32 * (i + n / 32 + 1)) % 4294967296 < 4294967296 := Nat.mod_lt _ (by decide)
    have hlt3 : v / 2 ^ n / 2 ^ (32 * i) % 4294967296 < 4294967296 := Nat.mod_lt _ (by decide)
    have hdig := digit_dg v (i + n / 32 + 1) (by omega)
    have hdd := dn_digit v n i
    have hsum : v / 2 ^ (32 * (i + n / 32)) % 4294967296 + v / 2 ^ (32 * (i + n / 32 + 1)) % 4294967296 * 4294967296 < 18446744073709551616 := by omega
    simp only [tenorref1_ShiftDown.l1]
    rw [if_pos (by omega), tdiv32, tmod32, wrap_nat (n := n / 32) (by omega), wrap_add (a := i) (b := n / 32) (by omega), wrap_add1 (a := i + n / 32) (by omega), wrap_add1 (a := i) (by omega), if_pos (by omega), if_pos (by omega), hdig]
    simp only [Option.bind_some]
    rw [if_pos (by omega), if_pos (by omega), rd_nat, hg, Int.toNat_natCast]
    have hmul : IntKind.u64.wrap (((v / 2 ^ (32 * (i + n / 32 + 1)) % 4294967296 : Nat) : Int) * 4294967296) = ((v / 2 ^ (32 * (i + n / 32 + 1)) % 4294967296 * 4294967296 : Nat) : Int) := by
      rw [wrapu_id (by omega) (by omega)]; rfl
    rw [hmul, wrapu_add hsum, shr_nat hr, tmodB, hdd]
    refine ih (i + 1) _ (by omega) (by rw [List.length_set]; exact hlen) (ho.set _ (by omega) (by omega)) (fun j hj => ?_) k (by rw [List.length_set]; omega)
    by_cases e : j = i
    · subst e; rw [dgetD_in (by rw [List.length_set]; omega), List.getElem_set_self]
    · rw [List.getD_eq_getElem?_getD, List.getElem?_set_ne (by omega), ← List.getD_eq_getElem?_getD]; exact hz j (by omega)
theorem dn_out {v n : Nat} (b : Bool) (hn : n < 1073741824) (hd : (dg v).length < 1073741824) (hnl : n < 32 * (dg v).length) (k : Nat) (hk : 2 * (dg v).length + 4 < k) :
    tenorref1_ShiftDown.j1 k (dg v) (n : Int) b = some (dg (v / 2 ^ n), b) := by
  obtain ⟨k, rfl⟩ : ∃ m, k = m + 1 := ⟨k - 1, by omega⟩
  have hq : n / 32 ≤ n := Nat.div_le_self _ _
  simp only [tenorref1_ShiftDown.j1]
  have e1 : wrap64 (((dg v).length : Int) - ((n / 32 : Nat) : Int)) = (((dg v).length - n / 32 : Nat) : Int) := by rw [wrap_id (by omega) (by omega)]; omega
  rw [tdiv32, wrap_nat (n := n / 32) (by omega), e1, if_pos (by omega), Int.toNat_natCast, if_pos (by omega)]
  refine dn_fill b hn hd hnl ((dg v).length - n / 32) 0 _ (by omega) (by simp) (Dig.zeros _) (fun j hj => by omega) k (by simp; omega)
theorem dn_lost {v n : Nat} (hn : n < 1073741824) (hd : (dg v).length < 1073741824) (hnl : n < 32 * (dg v).length) : ∀ (m i : Nat) (b : Bool), i + m = n / 32 → b = decide (v % 2 ^ (32 * i) ≠ 0) →
    ∀ k, m + 2 * (dg v).length + 6 < k → tenorref1_ShiftDown.l0 k (dg v) (n : Int) b (i : Int) = some (dg (v / 2 ^ n), decide (v % 2 ^ n ≠ 0)) := by
  have hq : n / 32 ≤ n := Nat.div_le_self _ _
  have hr : n % 32 < 32 := Nat.mod_lt _ (by decide)
  have hql : n / 32 < (dg v).length := by omega
  intro m
  induction m with
  | zero =>
    intro i b hi hb k hk
    obtain ⟨k, rfl⟩ : ∃ m, k = m + 1 := ⟨k - 1, by omega⟩
    have hi : i = n / 32 := by omega
    have hsp := mod_split v (n / 32) (n % 32)
    rw [show 32 * (n / 32) + n % 32 = n by omega] at hsp
    simp only [tenorref1_ShiftDown.l0]
    rw [tdiv32, tmod32, wrap_nat (n := n / 32) (by omega), if_neg (by omega)]
    by_cases c : b = true
    · rw [if_pos c, dn_out true hn hd hnl k (by omega)]
      rw [c, hi] at hb
      have := of_decide_eq_true hb.symm
      rw [decide_eq_true (hsp.2 (Or.inl this))]
    · have hbf : b = false := by simpa using c
      rw [if_neg c, if_pos (by omega), if_pos (by omega), if_pos (by omega), shl_one hr]
      have hp := Nat.two_pow_pos (n % 32)
      rw [if_neg (by omega), rd_nat, getD_dg, tmod_nat, dn_out _ hn hd hnl k (by omega)]
      rw [hbf, hi] at hb
      have hz := of_decide_eq_false hb.symm
      have hdvd : 2 ^ (n % 32) ∣ 4294967296 := ⟨2 ^ (32 - n % 32), by rw [← Nat.pow_add, show n % 32 + (32 - n % 32) = 32 by omega]⟩
      rw [Nat.mod_mod_of_dvd _ hdvd]
      congr 2
      rw [Bool.eq_iff_iff, bne_iff_ne, decide_eq_true_iff, hsp]
      constructor
      · intro h; exact Or.inr (by omega)
      · rintro (h | h)
        · exact absurd h hz
        · omega
  | succ m ih =>
    intro i b hi hb k hk
    obtain ⟨k, rfl⟩ : ∃ m, k = m + 1 := ⟨k - 1, by omega⟩
    have hsp := mod_split v i 32
    rw [show 32 * i + 32 = 32 * (i + 1) by omega] at hsp
    simp only [tenorref1_ShiftDown.l0]
    rw [tdiv32, wrap_nat (n := n / 32) (by omega), if_pos (by omega), wrap_add1 (a := i) (by omega)]
    by_cases c : b = true
    · rw [if_pos c]
      refine ih (i + 1) true (by omega) ?_ k (by omega)
      rw [c] at hb
      rw [decide_eq_true (hsp.2 (Or.inl (of_decide_eq_true hb.symm)))]
    · have hbf : b = false := by simpa using c
      rw [if_neg c, if_pos (by omega), if_pos (by omega), rd_nat, getD_dg]
      refine ih (i + 1) _ (by omega) ?_ k (by omega)
      rw [hbf] at hb
      have hz := of_decide_eq_false hb.symm
      rw [Bool.eq_iff_iff, bne_iff_ne, decide_eq_true_iff, hsp]
      constructor
      · intro h; exact Or.inr (by omega)
      · rintro (h | h)
        · exact absurd h hz
        · have : v / 2 ^ (32 * i) % 4294967296 ≠ 0 := h
          omega
theorem shiftDown_ev {v n : Nat} (hn : n < 1073741824) (hd : (dg v).length < 1073741824) : Ev (fun k => tenorref1_ShiftDown.f k (dg v) (n : Int)) (dg (v / 2 ^ n), decide (v % 2 ^ n ≠ 0)) := by
  have e1 : wrap64 (32 * ((dg v).length : Int)) = ((32 * (dg v).length : Nat) : Int) := by rw [wrap_id (by omega) (by omega)]; omega
  by_cases c : 32 * (dg v).length ≤ n
  · have hv := val_lt (dig_dg v)
    rw [val_dg] at hv
    have hv2 : v < 2 ^ n := Nat.lt_of_lt_of_le hv (pow_le c)
    refine Ev.congr (f := fun _ => some (dg (v / 2 ^ n), decide (v % 2 ^ n ≠ 0))) (fun k => ?_) (Ev.now _)
    unfold tenorref1_ShiftDown.f
    rw [e1, if_pos (by omega), Nat.div_eq_of_lt hv2, Nat.mod_eq_of_lt hv2, dg_zero]
    congr 2
    rw [Bool.eq_iff_iff, decide_eq_true_iff, decide_eq_true_iff]
    by_cases h0 : v = 0
    · subst h0; rw [dg_zero]; simp
    · rw [dg_pos h0]; simp; omega
  · refine ⟨n / 32 + 2 * (dg v).length + 8, fun k hk => ?_⟩
    show tenorref1_ShiftDown.f k (dg v) (n : Int) = _
    unfold tenorref1_ShiftDown.f
    rw [e1, if_neg (by omega)]
    exact dn_lost hn hd (by omega) (n / 32) 0 false (by omega) (by simp; omega) k (by omega)
end Go.Proofs.YtepcegiciecogaaGreat.FR
