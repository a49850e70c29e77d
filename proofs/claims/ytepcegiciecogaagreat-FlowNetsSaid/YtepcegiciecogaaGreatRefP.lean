/- The reference's numbers: sums, differences, products, quotients of digits, told as whole numbers. No Go and no memory here. -/
import Derived.Test.YtepcegiciecogaaGreatRefN
import Derived.Test.YtepcegiciecogaaGreatQt
namespace Go.Proofs.YtepcegiciecogaaGreat.FR
open Go.RowKit Go.Proofs.YtepcegiciecogaaGreatW.PrintWords Go.Proofs.YtepcegiciecogaaGreatW.PrintLast Go.Proofs.YtepcegiciecogaaGreatW.PrintMore Tn

/-- a digit of a list, by its value. -/
theorem dig_at {l : List Int} (h : Dig l) (i : Nat) : l.getD i 0 = ((val l / 2 ^ (32 * i) % 4294967296 : Nat) : Int) := by
  induction i generalizing l with
  | zero =>
    cases l with
    | nil => simp [val]
    | cons d t =>
      obtain ⟨h0, h1, ht⟩ := h.cons
      show d = (((d.toNat + 4294967296 * val t) / 2 ^ (32 * 0) % 4294967296 : Nat) : Int)
      rw [show (2 : Nat) ^ (32 * 0) = 1 from rfl, Nat.div_one]; omega
  | succ i ih =>
    cases l with
    | nil => simp [val]
    | cons d t =>
      obtain ⟨h0, h1, ht⟩ := h.cons
      rw [List.getD_cons_succ, ih ht, pow32]
      show _ = (((d.toNat + 4294967296 * val t) / (4294967296 * 2 ^ (32 * i)) % 4294967296 : Nat) : Int)
      rw [← Nat.div_div_eq_div_mul, show (d.toNat + 4294967296 * val t) / 4294967296 = val t by omega]
theorem pow32' (i : Nat) : 2 ^ (32 * (i + 1)) = 2 ^ (32 * i) * 4294967296 := by rw [pow32, Nat.mul_comm]
theorem len_lt {a b : Nat} (h : (dg a).length < (dg b).length) : a < b := by
  have h1 := (lt_len_dg b (dg a).length).1 h
  have h2 := val_lt (dig_dg a)
  rw [val_dg] at h2
  omega
theorem dg_lt (a : Nat) : a < 2 ^ (32 * (dg a).length) := by
  have h2 := val_lt (dig_dg a)
  rwa [val_dg] at h2
/-! ### sums -/
def cy (a b i : Nat) : Nat := (a % 2 ^ (32 * i) + b % 2 ^ (32 * i)) / 2 ^ (32 * i)
theorem cy_zero (a b : Nat) : cy a b 0 = 0 := by
  unfold cy; rw [show (2 : Nat) ^ (32 * 0) = 1 from rfl, Nat.mod_one, Nat.mod_one]
theorem cy_le (a b i : Nat) : cy a b i ≤ 1 := by
  unfold cy
  have hp := Nat.two_pow_pos (32 * i)
  have h1 := Nat.mod_lt a hp
  have h2 := Nat.mod_lt b hp
  have : (a % 2 ^ (32 * i) + b % 2 ^ (32 * i)) / 2 ^ (32 * i) < 2 := by rw [Nat.div_lt_iff_lt_mul hp]; omega
  omega
theorem add_div_parts {P : Nat} (hp : 0 < P) (a b : Nat) : (a + b) / P = a / P + b / P + (a % P + b % P) / P := by
  have h : a + b = P * (a / P + b / P) + (a % P + b % P) := by
    rw [Nat.mul_add]
    have := Nat.div_add_mod a P
    have := Nat.div_add_mod b P
    omega
  rw [show (a + b) / P = (P * (a / P + b / P) + (a % P + b % P)) / P by rw [← h], Nat.mul_add_div hp]
theorem add_dig (a b i : Nat) : (a / 2 ^ (32 * i) % 4294967296 + b / 2 ^ (32 * i) % 4294967296 + cy a b i) % 4294967296 = (a + b) / 2 ^ (32 * i) % 4294967296 ∧ (a / 2 ^ (32 * i) % 4294967296 + b / 2 ^ (32 * i) % 4294967296 + cy a b i) / 4294967296 = cy a b (i + 1) := by
  have hp := Nat.two_pow_pos (32 * i)
  have hs := add_div_parts hp a b
  unfold cy
  rw [pow32', Nat.mod_mul, Nat.mod_mul (x := b)]
  generalize 2 ^ (32 * i) = P at *
  constructor
  · rw [hs]; omega
  · rw [show a % P + P * (a / P % 4294967296) + (b % P + P * (b / P % 4294967296)) = P * (a / P % 4294967296 + b / P % 4294967296) + (a % P + b % P) by rw [Nat.mul_add]; omega,
      ← Nat.div_div_eq_div_mul, Nat.mul_add_div hp]
theorem add_loop {a b n : Nat} (hn : n < 1073741824) (hla : (dg a).length < 1073741824) (hlb : (dg b).length < 1073741824) (hab : a + b < 2 ^ (32 * n)) :
    ∀ (m i : Nat) (out : List Int), i + m = n → out.length = n → Dig out → (∀ j, j < i → out.getD j 0 = (((a + b) / 2 ^ (32 * j) % 4294967296 : Nat) : Int)) →
    Ev (fun k => tenorref1_AddDigits.l0 k (dg a) (dg b) (n : Int) out ((cy a b i : Nat) : Int) (i : Int)) (dg (a + b)) := by
  intro m
  induction m with
  | zero =>
    intro i out hi hlen ho hz
    refine Ev.step (fun k => rfl) ?_
    simp only [tenorref1_AddDigits.l0, if_neg (show ¬ (i : Int) < (n : Int) by omega)]
    have hval := val_of_digits (l := out) (x := a + b) (fun j hj => hz j (by omega)) (by rw [hlen]; exact hab)
    have ht := trim_ev ho (by omega)
    rw [hval] at ht
    exact Ev.bind ht (Ev.now _)
  | succ m ih =>
    intro i out hi hlen ho hz
    obtain ⟨d1, d2⟩ := add_dig a b i
    have c1 := cy_le a b i
    have c2 := cy_le a b (i + 1)
    have l1 : a / 2 ^ (32 * i) % 4294967296 < 4294967296 := Nat.mod_lt _ (by decide)
    have l2 : b / 2 ^ (32 * i) % 4294967296 < 4294967296 := Nat.mod_lt _ (by decide)
    have l3 : (a + b) / 2 ^ (32 * i) % 4294967296 < 4294967296 := Nat.mod_lt _ (by decide)
    have e1 : IntKind.u64.wrap (((a / 2 ^ (32 * i) % 4294967296 : Nat) : Int) + ((b / 2 ^ (32 * i) % 4294967296 : Nat) : Int)) = ((a / 2 ^ (32 * i) % 4294967296 + b / 2 ^ (32 * i) % 4294967296 : Nat) : Int) := wrapu_add (by omega)
    have e2 : IntKind.u64.wrap (((a / 2 ^ (32 * i) % 4294967296 + b / 2 ^ (32 * i) % 4294967296 : Nat) : Int) + ((cy a b i : Nat) : Int)) = ((a / 2 ^ (32 * i) % 4294967296 + b / 2 ^ (32 * i) % 4294967296 + cy a b i : Nat) : Int) := wrapu_add (by omega)
    have e3 : Int.tmod ((a / 2 ^ (32 * i) % 4294967296 + b / 2 ^ (32 * i) % 4294967296 + cy a b i : Nat) : Int) 4294967296 = (((a + b) / 2 ^ (32 * i) % 4294967296 : Nat) : Int) := by rw [tmodB, d1]
    have e4 : IntKind.u64.wrap (Int.tdiv ((a / 2 ^ (32 * i) % 4294967296 + b / 2 ^ (32 * i) % 4294967296 + cy a b i : Nat) : Int) 4294967296) = ((cy a b (i + 1) : Nat) : Int) := by rw [tdivB, d2]; exact wrapu_nat (by omega)
    refine Ev.step (fun k => rfl) ?_
    simp only [tenorref1_AddDigits.l0, if_pos (show (i : Int) < (n : Int) by omega), digit_dg a i (by omega), digit_dg b i (by omega), Option.bind_some, if_pos (show 0 ≤ (i : Int) by omega), if_pos (show (i : Int) < (out.length : Int) by omega), wrap_add1 (a := i) (by omega), Int.toNat_natCast, e1, e2, e3, e4]
    refine ih (i + 1) _ (by omega) (by rw [List.length_set]; exact hlen) (ho.set i (by omega) (by omega)) (fun j hj => ?_)
    by_cases c : j = i
    · subst c; rw [dgetD_in (by rw [List.length_set]; omega), List.getElem_set_self]
    · rw [List.getD_eq_getElem?_getD, List.getElem?_set_ne (by omega), ← List.getD_eq_getElem?_getD]; exact hz j (by omega)
theorem add_ev {a b : Nat} (hla : (dg a).length < 1073741823) (hlb : (dg b).length < 1073741823) : Ev (fun k => tenorref1_AddDigits.f k (dg a) (dg b)) (dg (a + b)) := by
  obtain ⟨n, hn⟩ : ∃ n, max (dg a).length (dg b).length + 1 = n := ⟨_, rfl⟩
  have e1 : wrap64 ((mx ((dg a).length : Int) ((dg b).length : Int)) + 1) = (n : Int) := by
    rw [show mx ((dg a).length : Int) ((dg b).length : Int) = ((max (dg a).length (dg b).length : Nat) : Int) by unfold mx; split <;> omega, wrap_add1 (by omega), hn]
  have hab : a + b < 2 ^ (32 * n) := by
    have h1 := dg_lt a
    have h2 := dg_lt b
    have h3 : 2 ^ (32 * (dg a).length) ≤ 2 ^ (32 * max (dg a).length (dg b).length) := pow_le (by omega)
    have h4 : 2 ^ (32 * (dg b).length) ≤ 2 ^ (32 * max (dg a).length (dg b).length) := pow_le (by omega)
    rw [← hn, pow32]; omega
  have := add_loop (a := a) (b := b) (n := n) (by omega) (by omega) (by omega) hab n 0 (List.replicate n 0) (by omega) (by simp) (Dig.zeros _) (fun j hj => by omega)
  rw [cy_zero] at this
  unfold tenorref1_AddDigits.f
  simp only [e1, Int.toNat_natCast, if_pos (show 0 ≤ (n : Int) by omega), if_pos (show n ≤ 35184372088832 by omega)]
  exact this
/-! ### differences -/
def bw (a b i : Nat) : Nat := if a % 2 ^ (32 * i) < b % 2 ^ (32 * i) then 1 else 0
theorem bw_le (a b i : Nat) : bw a b i ≤ 1 := by unfold bw; split <;> omega
theorem bw_zero (a b : Nat) : bw a b 0 = 0 := by
  unfold bw; rw [show (2 : Nat) ^ (32 * 0) = 1 from rfl, Nat.mod_one, Nat.mod_one]; rfl
theorem sub_parts {a b P : Nat} (hp : 0 < P) (h : b ≤ a) : b / P + (if a % P < b % P then 1 else 0) ≤ a / P ∧ (a - b) / P = a / P - b / P - (if a % P < b % P then 1 else 0) := by
  have ea := Nat.div_add_mod a P
  have eb := Nat.div_add_mod b P
  have la := Nat.mod_lt a hp
  have lb := Nat.mod_lt b hp
  generalize a / P = qa at *
  generalize b / P = qb at *
  generalize a % P = ra at *
  generalize b % P = rb at *
  by_cases c : ra < rb
  · rw [if_pos c]
    have hq : qb < qa := by
      rcases Nat.lt_or_ge qb qa with h1 | h1
      · exact h1
      · have := Nat.mul_le_mul_left P h1; omega
    refine ⟨by omega, ?_⟩
    obtain ⟨d, rfl⟩ : ∃ d, qa = qb + d + 1 := ⟨qa - qb - 1, by omega⟩
    have e : a - b = P * d + (P + ra - rb) := by
      have : P * (qb + d + 1) = P * qb + P * d + P := by rw [Nat.mul_add, Nat.mul_add, Nat.mul_one]
      omega
    rw [e, Nat.mul_add_div hp, Nat.div_eq_of_lt (show P + ra - rb < P by omega)]; omega
  · rw [if_neg c]
    have hq : qb ≤ qa := by
      rcases Nat.lt_or_ge qa qb with h1 | h1
      · have := Nat.mul_le_mul_left P (show qa + 1 ≤ qb by omega)
        rw [Nat.mul_add, Nat.mul_one] at this
        omega
      · exact h1
    refine ⟨by omega, ?_⟩
    obtain ⟨d, rfl⟩ : ∃ d, qa = qb + d := ⟨qa - qb, by omega⟩
    have e : a - b = P * d + (ra - rb) := by
      have : P * (qb + d) = P * qb + P * d := Nat.mul_add ..
      omega
    rw [e, Nat.mul_add_div hp, Nat.div_eq_of_lt (show ra - rb < P by omega)]; omega
theorem sub_next (a b i : Nat) : 1 - (a / 2 ^ (32 * i) % 4294967296 + 4294967296 - b / 2 ^ (32 * i) % 4294967296 - bw a b i) / 4294967296 = bw a b (i + 1) := by
  have hp := Nat.two_pow_pos (32 * i)
  have la := Nat.mod_lt a hp
  have lb := Nat.mod_lt b hp
  unfold bw
  rw [pow32', Nat.mod_mul, Nat.mod_mul (x := b)]
  have l1 : a / 2 ^ (32 * i) % 4294967296 < 4294967296 := Nat.mod_lt _ (by decide)
  have l2 : b / 2 ^ (32 * i) % 4294967296 < 4294967296 := Nat.mod_lt _ (by decide)
  generalize a / 2 ^ (32 * i) % 4294967296 = da at *
  generalize b / 2 ^ (32 * i) % 4294967296 = db at *
  generalize a % 2 ^ (32 * i) = ra at *
  generalize b % 2 ^ (32 * i) = rb at *
  generalize 2 ^ (32 * i) = P at *
  rcases Nat.lt_trichotomy da db with c | c | c
  · have := Nat.mul_le_mul_left P (show da + 1 ≤ db by omega)
    rw [Nat.mul_add, Nat.mul_one] at this
    rw [if_pos (show ra + P * da < rb + P * db by omega)]
    split <;> omega
  · subst c
    by_cases c2 : ra < rb
    · rw [if_pos c2, if_pos (by omega)]; omega
    · rw [if_neg c2, if_neg (by omega)]; omega
  · have := Nat.mul_le_mul_left P (show db + 1 ≤ da by omega)
    rw [Nat.mul_add, Nat.mul_one] at this
    rw [if_neg (show ¬ ra + P * da < rb + P * db by omega)]
    split <;> omega
theorem sub_dig {a b : Nat} (h : b ≤ a) (i : Nat) : (a / 2 ^ (32 * i) % 4294967296 + 4294967296 - b / 2 ^ (32 * i) % 4294967296 - bw a b i) % 4294967296 = (a - b) / 2 ^ (32 * i) % 4294967296 := by
  obtain ⟨h1, h2⟩ := sub_parts (Nat.two_pow_pos (32 * i)) h
  have h3 : bw a b i = if a % 2 ^ (32 * i) < b % 2 ^ (32 * i) then 1 else 0 := rfl
  have h4 := bw_le a b i
  rw [h2, ← h3]
  rw [← h3] at h1
  omega
theorem sub_loop {a b : Nat} (hba : b ≤ a) (hla : (dg a).length < 1073741824) (hlb : (dg b).length < 1073741824) :
    ∀ (m i : Nat) (out : List Int), i + m = (dg a).length → out.length = (dg a).length → Dig out → (∀ j, j < i → out.getD j 0 = (((a - b) / 2 ^ (32 * j) % 4294967296 : Nat) : Int)) →
    Ev (fun k => tenorref1_SubDigits.l0 k (dg a) (dg b) out ((bw a b i : Nat) : Int) (i : Int)) (dg (a - b)) := by
  intro m
  induction m with
  | zero =>
    intro i out hi hlen ho hz
    refine Ev.step (fun k => rfl) ?_
    simp only [tenorref1_SubDigits.l0, if_neg (show ¬ (i : Int) < ((dg a).length : Int) by omega)]
    have hval := val_of_digits (l := out) (x := a - b) (fun j hj => hz j (by omega)) (by rw [hlen]; have := dg_lt a; omega)
    have ht := trim_ev ho (by omega)
    rw [hval] at ht
    exact Ev.bind ht (Ev.now _)
  | succ m ih =>
    intro i out hi hlen ho hz
    have d1 := sub_dig hba i
    have d2 := sub_next a b i
    have c1 := bw_le a b i
    have c2 := bw_le a b (i + 1)
    have l1 : a / 2 ^ (32 * i) % 4294967296 < 4294967296 := Nat.mod_lt _ (by decide)
    have l2 : b / 2 ^ (32 * i) % 4294967296 < 4294967296 := Nat.mod_lt _ (by decide)
    have l3 : (a - b) / 2 ^ (32 * i) % 4294967296 < 4294967296 := Nat.mod_lt _ (by decide)
    have e0 : rd (dg a) (i : Int) = ((a / 2 ^ (32 * i) % 4294967296 : Nat) : Int) := by rw [rd_nat, getD_dg]
    have e1 : IntKind.u64.wrap ((IntKind.u64.wrap ((IntKind.u64.wrap (((a / 2 ^ (32 * i) % 4294967296 : Nat) : Int) + 4294967296)) - ((b / 2 ^ (32 * i) % 4294967296 : Nat) : Int))) - ((bw a b i : Nat) : Int)) = ((a / 2 ^ (32 * i) % 4294967296 + 4294967296 - b / 2 ^ (32 * i) % 4294967296 - bw a b i : Nat) : Int) := by
      rw [wrapu_id (x := ((a / 2 ^ (32 * i) % 4294967296 : Nat) : Int) + 4294967296) (by omega) (by omega), wrapu_id (x := ((a / 2 ^ (32 * i) % 4294967296 : Nat) : Int) + 4294967296 - ((b / 2 ^ (32 * i) % 4294967296 : Nat) : Int)) (by omega) (by omega), wrapu_id (by omega) (by omega)]
      omega
    have e3 : Int.tmod ((a / 2 ^ (32 * i) % 4294967296 + 4294967296 - b / 2 ^ (32 * i) % 4294967296 - bw a b i : Nat) : Int) 4294967296 = (((a - b) / 2 ^ (32 * i) % 4294967296 : Nat) : Int) := by rw [tmodB, d1]
    have e4 : IntKind.u64.wrap (1 - (IntKind.u64.wrap (Int.tdiv ((a / 2 ^ (32 * i) % 4294967296 + 4294967296 - b / 2 ^ (32 * i) % 4294967296 - bw a b i : Nat) : Int) 4294967296))) = ((bw a b (i + 1) : Nat) : Int) := by
      have hq : (a / 2 ^ (32 * i) % 4294967296 + 4294967296 - b / 2 ^ (32 * i) % 4294967296 - bw a b i) / 4294967296 ≤ 1 := by omega
      rw [tdivB, wrapu_nat (by omega), wrapu_id (by omega) (by omega), ← d2]; omega
    refine Ev.step (fun k => rfl) ?_
    simp only [tenorref1_SubDigits.l0, if_pos (show (i : Int) < ((dg a).length : Int) by omega), digit_dg b i (by omega), Option.bind_some, if_pos (show 0 ≤ (i : Int) by omega), if_pos (show (i : Int) < (out.length : Int) by omega), wrap_add1 (a := i) (by omega), Int.toNat_natCast, e0, e1, e3, e4]
    refine ih (i + 1) _ (by omega) (by rw [List.length_set]; exact hlen) (ho.set i (by omega) (by omega)) (fun j hj => ?_)
    by_cases c : j = i
    · subst c; rw [dgetD_in (by rw [List.length_set]; omega), List.getElem_set_self]
    · rw [List.getD_eq_getElem?_getD, List.getElem?_set_ne (by omega), ← List.getD_eq_getElem?_getD]; exact hz j (by omega)
theorem sub_ev {a b : Nat} (hba : b ≤ a) (hla : (dg a).length < 1073741824) : Ev (fun k => tenorref1_SubDigits.f k (dg a) (dg b)) (dg (a - b)) := by
  have hlb : (dg b).length < 1073741824 := by
    rcases Nat.lt_or_ge (dg a).length (dg b).length with h | h
    · have := len_lt h; omega
    · omega
  have := sub_loop hba hla hlb (dg a).length 0 (List.replicate (dg a).length 0) (by omega) (by simp) (Dig.zeros _) (fun j hj => by omega)
  rw [bw_zero] at this
  unfold tenorref1_SubDigits.f
  simp only [Int.toNat_natCast, if_pos (show 0 ≤ ((dg a).length : Int) by omega), if_pos (show (dg a).length ≤ 35184372088832 by omega)]
  exact this
/-! ### held against each other -/
def cmpN (a b : Nat) : Int := if a < b then -1 else if b < a then 1 else 0
theorem cmp_loop {a b : Nat} (hl : (dg a).length = (dg b).length) (hla : (dg a).length < 1073741824) : ∀ n : Nat, n ≤ (dg a).length → a / 2 ^ (32 * n) = b / 2 ^ (32 * n) →
    Ev (fun k => tenorref1_CmpDigits.l0 k (dg a) (dg b) ((n : Int) - 1)) (cmpN a b) := by
  intro n
  induction n with
  | zero =>
    intro _ he
    rw [show (2 : Nat) ^ (32 * 0) = 1 from rfl, Nat.div_one, Nat.div_one] at he
    subst he
    refine Ev.step (fun k => rfl) ?_
    simp only [tenorref1_CmpDigits.l0, if_neg (show ¬ ((0 : Nat) : Int) - 1 ≥ 0 by omega)]
    have : cmpN a a = 0 := by unfold cmpN; rw [if_neg (by omega), if_neg (by omega)]
    rw [this]; exact Ev.now _
  | succ n ih =>
    intro hn he
    have e0 : ((n + 1 : Nat) : Int) - 1 = (n : Int) := by omega
    have ea : rd (dg a) (n : Int) = ((a / 2 ^ (32 * n) % 4294967296 : Nat) : Int) := by rw [rd_nat, getD_dg]
    have eb : rd (dg b) (n : Int) = ((b / 2 ^ (32 * n) % 4294967296 : Nat) : Int) := by rw [rd_nat, getD_dg]
    have ew : wrap64 ((n : Int) - 1) = (n : Int) - 1 := wrap_id (by omega) (by omega)
    rw [pow32', ← Nat.div_div_eq_div_mul, ← Nat.div_div_eq_div_mul] at he
    have lt_of : ∀ {x y : Nat}, x / 2 ^ (32 * n) < y / 2 ^ (32 * n) → x < y := fun {x y} h => by
      rcases Nat.lt_or_ge x y with h1 | h1
      · exact h1
      · have := Nat.div_le_div_right (c := 2 ^ (32 * n)) h1; omega
    rw [e0]
    refine Ev.step (fun k => rfl) ?_
    simp only [tenorref1_CmpDigits.l0, if_pos (show (n : Int) ≥ 0 by omega), if_pos (show 0 ≤ (n : Int) by omega), if_pos (show (n : Int) < ((dg a).length : Int) by omega), if_pos (show (n : Int) < ((dg b).length : Int) by omega), ea, eb, ew]
    by_cases c : a / 2 ^ (32 * n) % 4294967296 < b / 2 ^ (32 * n) % 4294967296
    · simp only [if_pos (show ((a / 2 ^ (32 * n) % 4294967296 : Nat) : Int) < ((b / 2 ^ (32 * n) % 4294967296 : Nat) : Int) by omega)]
      have : cmpN a b = -1 := by unfold cmpN; rw [if_pos (lt_of (by omega))]
      rw [this]; exact Ev.now _
    · by_cases c2 : b / 2 ^ (32 * n) % 4294967296 < a / 2 ^ (32 * n) % 4294967296
      · simp only [if_neg (show ¬ ((a / 2 ^ (32 * n) % 4294967296 : Nat) : Int) < ((b / 2 ^ (32 * n) % 4294967296 : Nat) : Int) by omega), if_pos (show ((a / 2 ^ (32 * n) % 4294967296 : Nat) : Int) > ((b / 2 ^ (32 * n) % 4294967296 : Nat) : Int) by omega)]
        have h1 : b < a := lt_of (by omega)
        have : cmpN a b = 1 := by unfold cmpN; rw [if_neg (by omega), if_pos h1]
        rw [this]; exact Ev.now _
      · simp only [if_neg (show ¬ ((a / 2 ^ (32 * n) % 4294967296 : Nat) : Int) < ((b / 2 ^ (32 * n) % 4294967296 : Nat) : Int) by omega), if_neg (show ¬ ((a / 2 ^ (32 * n) % 4294967296 : Nat) : Int) > ((b / 2 ^ (32 * n) % 4294967296 : Nat) : Int) by omega)]
        exact ih (by omega) (by omega)
theorem cmp_ev {a b : Nat} (hla : (dg a).length < 1073741824) (hlb : (dg b).length < 1073741824) : Ev (fun k => tenorref1_CmpDigits.f k (dg a) (dg b)) (cmpN a b) := by
  unfold tenorref1_CmpDigits.f
  by_cases c : (dg a).length = (dg b).length
  · have ew : wrap64 (((dg a).length : Int) - 1) = ((dg a).length : Int) - 1 := wrap_id (by omega) (by omega)
    simp only [if_pos (show ((dg a).length : Int) = ((dg b).length : Int) by omega), ew]
    refine cmp_loop c hla _ (Nat.le_refl _) ?_
    rw [Nat.div_eq_of_lt (dg_lt a), c, Nat.div_eq_of_lt (dg_lt b)]
  · simp only [if_neg (show ¬ ((dg a).length : Int) = ((dg b).length : Int) by omega)]
    by_cases c2 : (dg a).length < (dg b).length
    · simp only [if_pos (show ((dg a).length : Int) < ((dg b).length : Int) by omega)]
      have : cmpN a b = -1 := by unfold cmpN; rw [if_pos (len_lt c2)]
      rw [this]; exact Ev.now _
    · simp only [if_neg (show ¬ ((dg a).length : Int) < ((dg b).length : Int) by omega)]
      have h1 := len_lt (show (dg b).length < (dg a).length by omega)
      have : cmpN a b = 1 := by unfold cmpN; rw [if_neg (by omega), if_pos h1]
      rw [this]; exact Ev.now _
/-! ### products -/
theorem set_val {out : List Int} {t x : Nat} (ht : t < out.length) : val (out.set t (x : Int)) + 2 ^ (32 * t) * (out.getD t 0).toNat = val out + 2 ^ (32 * t) * x := by
  have := val_set out t (x : Int) ht
  rwa [Int.toNat_natCast] at this
theorem getD_set_ne {l : List Int} {i j : Nat} {x : Int} (h : i ≠ j) : (l.set i x).getD j 0 = l.getD j 0 := by
  rw [List.getD_eq_getElem?_getD, List.getElem?_set_ne h, ← List.getD_eq_getElem?_getD]
/-! ### quotients -/
theorem pow_parts (i : Nat) : (2 : Nat) ^ i = 2 ^ (32 * (i / 32)) * 2 ^ (i % 32) := by rw [← Nat.pow_add]; congr 1; omega
theorem bit_at {x i : Nat} : x / 2 ^ (32 * (i / 32)) % 4294967296 / 2 ^ (i % 32) % 2 = x / 2 ^ i % 2 := by
  have hr : i % 32 < 32 := Nat.mod_lt _ (by decide)
  rw [pow_parts i, ← Nat.div_div_eq_div_mul]
  generalize x / 2 ^ (32 * (i / 32)) = y
  generalize i % 32 = r at *
  have e : 4294967296 = 2 ^ r * (2 * 2 ^ (31 - r)) := by
    have h : (2 : Nat) ^ r * 2 ^ (31 - r) = 2147483648 := by rw [← Nat.pow_add, show r + (31 - r) = 31 by omega]
    rw [Nat.mul_left_comm, h]
  rw [e, Nat.mod_mul_right_div_self, Nat.mod_mul_right_mod]
theorem half_pow (x i : Nat) : x / 2 ^ i = 2 * (x / 2 ^ (i + 1)) + x / 2 ^ i % 2 := by
  rw [Nat.pow_succ, ← Nat.div_div_eq_div_mul]; omega
theorem dg_one : dg 1 = [1] := by rw [dg_pos (by decide), show 1 / 4294967296 = 0 from rfl, dg_zero]; rfl
theorem out_add {out : List Int} {X i : Nat} (ho : Dig out) (hv : val out = X) (hX : X % 2 ^ (i + 1) = 0) (hi : i / 32 < out.length) :
    (out.getD (i / 32) 0).toNat + 2 ^ (i % 32) < 4294967296 ∧ val (out.set (i / 32) (((out.getD (i / 32) 0).toNat + 2 ^ (i % 32) : Nat) : Int)) = X + 2 ^ i := by
  have hr : i % 32 < 32 := Nat.mod_lt _ (by decide)
  have h1 := dig_at ho (i / 32)
  have h2 : (out.getD (i / 32) 0).toNat = X / 2 ^ (32 * (i / 32)) % 4294967296 := by rw [h1, hv, Int.toNat_natCast]
  constructor
  · rw [h2]
    have e3 : X / 2 ^ (32 * (i / 32)) % 2 ^ (i % 32 + 1) = 0 := by
      have e4 : (2 : Nat) ^ (i + 1) = 2 ^ (32 * (i / 32)) * 2 ^ (i % 32 + 1) := by rw [← Nat.pow_add]; congr 1; omega
      rw [e4, Nat.mod_mul] at hX
      have hp := Nat.two_pow_pos (32 * (i / 32))
      rcases Nat.eq_zero_or_pos (X / 2 ^ (32 * (i / 32)) % 2 ^ (i % 32 + 1)) with h | h
      · exact h
      · have := Nat.mul_pos hp h; omega
    generalize X / 2 ^ (32 * (i / 32)) = y at *
    generalize i % 32 = r at *
    have e : 4294967296 = 2 ^ (r + 1) * 2 ^ (31 - r) := by rw [← Nat.pow_add, show r + 1 + (31 - r) = 32 by omega]
    have e5 : y % 4294967296 % 2 ^ (r + 1) = 0 := by rw [e, Nat.mod_mul_right_mod, e3]
    have h6 : y % 4294967296 < 4294967296 := Nat.mod_lt _ (by decide)
    obtain ⟨q, hq⟩ := Nat.dvd_of_mod_eq_zero e5
    generalize y % 4294967296 = z at *
    have h7 : q < 2 ^ (31 - r) := by
      rcases Nat.lt_or_ge q (2 ^ (31 - r)) with h | h
      · exact h
      · have := Nat.mul_le_mul_left (2 ^ (r + 1)) h; omega
    have h8 := Nat.mul_le_mul_left (2 ^ (r + 1)) (show q + 1 ≤ 2 ^ (31 - r) by omega)
    rw [← e, Nat.mul_add, Nat.mul_one, ← hq] at h8
    have h9 : 2 ^ (r + 1) = 2 * 2 ^ r := Nat.pow_succ' ..
    have h10 := Nat.two_pow_pos r
    omega
  · have h3 := set_val (out := out) (t := i / 32) (x := (out.getD (i / 32) 0).toNat + 2 ^ (i % 32)) hi
    rw [Nat.mul_add, ← pow_parts, hv] at h3
    omega
theorem div_loop {a b : Nat} (hb : 0 < b) (hla : (dg a).length < 33554432) (hlb : (dg b).length < 33554432) : ∀ (n : Nat) (out : List Int), n ≤ bl a → out.length = (dg a).length → Dig out → val out = a / 2 ^ n / b * 2 ^ n →
    Ev (fun k => tenorref1_DivDigits.l0 k (dg a) (dg b) (dg (a / 2 ^ n % b)) out ((n : Int) - 1)) (dg (a / b), dg (a % b)) := by
  have hbl : bl a ≤ 32 * (dg a).length := bl_le_of (dg_lt a)
  intro n
  induction n with
  | zero =>
    intro out _ hlen ho hv
    have ht := trim_ev ho (by omega)
    rw [hv, Nat.pow_zero, Nat.div_one, Nat.mul_one] at ht
    refine Ev.step (fun k => rfl) ?_
    simp only [tenorref1_DivDigits.l0, if_neg (show ¬ ((0 : Nat) : Int) - 1 ≥ 0 by omega), Nat.pow_zero, Nat.div_one]
    exact Ev.bind ht (Ev.now _)
  | succ n ih =>
    intro out hn hlen ho hv
    have e0 : ((n + 1 : Nat) : Int) - 1 = (n : Int) := by omega
    have hq : n / 32 < (dg a).length := by omega
    have hr : n % 32 < 32 := Nat.mod_lt _ (by decide)
    have ed : wrap64 (Int.tdiv (n : Int) 32) = ((n / 32 : Nat) : Int) := by rw [tdiv32]; exact wrap_nat (by omega)
    have em : Int.tmod (n : Int) 32 = ((n % 32 : Nat) : Int) := tmod32 n
    have ea : rd (dg a) ((n / 32 : Nat) : Int) = ((a / 2 ^ (32 * (n / 32)) % 4294967296 : Nat) : Int) := by rw [rd_nat, getD_dg]
    have eb : Int.tmod (shr .u64 ((a / 2 ^ (32 * (n / 32)) % 4294967296 : Nat) : Int) ((n % 32 : Nat) : Int)) 2 = ((a / 2 ^ n % 2 : Nat) : Int) := by
      rw [shr_nat hr]; exact (tmod_nat _ 2).trans (by rw [bit_at])
    have ew : wrap64 ((n : Int) - 1) = (n : Int) - 1 := wrap_id (by omega) (by omega)
    obtain ⟨r, hr0⟩ : ∃ r, a / 2 ^ (n + 1) % b = r := ⟨_, rfl⟩
    obtain ⟨q, hq0⟩ : ∃ q, a / 2 ^ (n + 1) / b = q := ⟨_, rfl⟩
    have hrb : r < b := by rw [← hr0]; exact Nat.mod_lt _ hb
    have hdm := Nat.div_add_mod (a / 2 ^ (n + 1)) b
    rw [hr0, hq0] at hdm
    have hhalf := half_pow a n
    have hbit : a / 2 ^ n % 2 < 2 := Nat.mod_lt _ (by decide)
    have hlr : (dg r).length ≤ (dg b).length := by
      rcases Nat.lt_or_ge (dg b).length (dg r).length with h | h
      · have := len_lt h; omega
      · exact h
    have hb2 : ∀ {x : Nat}, x < 2 * b → (dg x).length < 1073741823 := fun {x} hx => by
      have h1 := dg_lt b
      have : (dg x).length ≤ (dg b).length + 1 := len_dg_le (by rw [pow32]; omega)
      omega
    -- what the round leaves
    have hnext : ∀ c : Bool, (c = true ↔ b ≤ 2 * r + a / 2 ^ n % 2) → a / 2 ^ n % b = 2 * r + a / 2 ^ n % 2 - (if c = true then b else 0) ∧ a / 2 ^ n / b = 2 * q + (if c = true then 1 else 0) := by
      intro c hc
      have e1 : a / 2 ^ n = b * (2 * q) + (2 * r + a / 2 ^ n % 2) := by
        rw [Nat.mul_left_comm]; omega
      by_cases hcc : c = true
      · have hge := hc.1 hcc
        rw [if_pos hcc, if_pos hcc]
        have e2 : a / 2 ^ n = b * (2 * q + 1) + (2 * r + a / 2 ^ n % 2 - b) := by rw [Nat.mul_add, Nat.mul_one]; omega
        constructor
        · conv => lhs; rw [e2]
          rw [Nat.mul_add_mod, Nat.mod_eq_of_lt (by omega)]
        · conv => lhs; rw [e2]
          rw [Nat.mul_add_div hb, Nat.div_eq_of_lt (by omega)]
      · have hlt : 2 * r + a / 2 ^ n % 2 < b := by
          rcases Nat.lt_or_ge (2 * r + a / 2 ^ n % 2) b with h | h
          · exact h
          · exact absurd (hc.2 h) hcc
        rw [if_neg hcc, if_neg hcc]
        constructor
        · conv => lhs; rw [e1]
          rw [Nat.mul_add_mod, Nat.mod_eq_of_lt hlt]; omega
        · conv => lhs; rw [e1]
          rw [Nat.mul_add_div hb, Nat.div_eq_of_lt hlt]
    have hjoin : Ev (fun k => tenorref1_DivDigits.j1 k (dg a) (dg b) (dg (2 * r + a / 2 ^ n % 2)) out (n : Int)) (dg (a / b), dg (a % b)) := by
      refine Ev.step (fun k => rfl) ?_
      simp only [tenorref1_DivDigits.j1]
      refine Ev.bind (cmp_ev (by have := hb2 (x := 2 * r + a / 2 ^ n % 2) (by omega); omega) (by omega)) ?_
      by_cases c : b ≤ 2 * r + a / 2 ^ n % 2
      · have hc : cmpN (2 * r + a / 2 ^ n % 2) b ≥ 0 := by unfold cmpN; rw [if_neg (by omega)]; split <;> omega
        obtain ⟨n1, n2⟩ := hnext true ⟨fun _ => c, fun _ => rfl⟩
        simp only [if_true] at n1 n2
        simp only [if_pos hc]
        refine Ev.bind (sub_ev c (by have := hb2 (x := 2 * r + a / 2 ^ n % 2) (by omega); omega)) ?_
        have hX : (a / 2 ^ (n + 1) / b * 2 ^ (n + 1)) % 2 ^ (n + 1) = 0 := Nat.mul_mod_left _ _
        obtain ⟨o1, o2⟩ := out_add ho hv hX (by omega)
        have es : shl .u64 1 ((n % 32 : Nat) : Int) = ((2 ^ (n % 32) : Nat) : Int) := shl_one hr
        have eo : rd out ((n / 32 : Nat) : Int) = (((out.getD (n / 32) 0).toNat : Nat) : Int) := rd_toNat ho _
        have ewr : IntKind.u64.wrap ((((out.getD (n / 32) 0).toNat : Nat) : Int) + ((2 ^ (n % 32) : Nat) : Int)) = (((out.getD (n / 32) 0).toNat + 2 ^ (n % 32) : Nat) : Int) := wrapu_add (by omega)
        simp only [ed, em, if_pos (show 0 ≤ ((n / 32 : Nat) : Int) by omega), if_pos (show ((n / 32 : Nat) : Int) < (out.length : Int) by omega), if_pos (show 0 ≤ ((n % 32 : Nat) : Int) by omega), Int.toNat_natCast, es, eo, ewr, ew]
        rw [← n1]
        refine ih _ (by omega) (by rw [List.length_set]; exact hlen) (ho.set _ (Int.natCast_nonneg _) (Int.ofNat_lt.2 o1)) ?_
        rw [o2, n2, hq0, Nat.pow_succ]
        rw [show q * (2 ^ n * 2) = 2 * q * 2 ^ n by rw [Nat.mul_comm 2 q, Nat.mul_assoc, Nat.mul_comm 2], Nat.add_mul, Nat.one_mul]
      · have hc : ¬ cmpN (2 * r + a / 2 ^ n % 2) b ≥ 0 := by unfold cmpN; rw [if_pos (by omega)]; decide
        obtain ⟨n1, n2⟩ := hnext false ⟨fun h => (by cases h), fun h => absurd h c⟩
        simp only [Bool.false_eq_true, if_false, Nat.sub_zero, Nat.add_zero] at n1 n2
        simp only [if_neg hc, ew]
        rw [← n1]
        refine ih _ (by omega) hlen ho ?_
        rw [hv, n2, hq0, Nat.pow_succ, Nat.mul_comm 2 q, Nat.mul_assoc, Nat.mul_comm 2]
    have hsh : Ev (fun k => tenorref1_ShiftUp.f k (dg r) 1) (dg (r * 2 ^ 1)) := shiftUp_ev (n := 1) (by decide) (by omega)
    rw [show r * 2 ^ 1 = 2 * r by omega] at hsh
    rw [e0, hr0]
    refine Ev.step (fun k => rfl) ?_
    simp only [tenorref1_DivDigits.l0, if_pos (show (n : Int) ≥ 0 by omega)]
    refine Ev.bind hsh ?_
    simp only [ed, em, if_pos (show 0 ≤ ((n / 32 : Nat) : Int) by omega), if_pos (show ((n / 32 : Nat) : Int) < ((dg a).length : Int) by omega), if_pos (show 0 ≤ ((n % 32 : Nat) : Int) by omega), ea, eb]
    by_cases c : a / 2 ^ n % 2 = 1
    · simp only [if_pos (show ((a / 2 ^ n % 2 : Nat) : Int) = 1 by omega), ← dg_one]
      refine Ev.bind (add_ev (hb2 (by omega)) (by rw [dg_one]; decide)) ?_
      rw [c] at hjoin; exact hjoin
    · simp only [if_neg (show ¬ ((a / 2 ^ n % 2 : Nat) : Int) = 1 by omega)]
      rw [show a / 2 ^ n % 2 = 0 by omega, Nat.add_zero] at hjoin; exact hjoin
theorem div_ev {a b : Nat} (hb : 0 < b) (hla : (dg a).length < 33554432) (hlb : (dg b).length < 33554432) : Ev (fun k => tenorref1_DivDigits.f k (dg a) (dg b)) (dg (a / b), dg (a % b)) := by
  have hbl : bl a ≤ 32 * (dg a).length := bl_le_of (dg_lt a)
  have hlt : a < 2 ^ bl a := bl_lt (Nat.le_refl _)
  have h := div_loop hb hla hlb (bl a) (List.replicate (dg a).length 0) (Nat.le_refl _) (by simp) (Dig.zeros _) (by rw [val_zeros, Nat.div_eq_of_lt hlt, Nat.zero_div, Nat.zero_mul])
  rw [Nat.div_eq_of_lt hlt, Nat.zero_mod, dg_zero] at h
  have ew : wrap64 ((bl a : Int) - 1) = (bl a : Int) - 1 := wrap_id (by omega) (by omega)
  unfold tenorref1_DivDigits.f
  simp only [Int.toNat_natCast, if_pos (show 0 ≤ ((dg a).length : Int) by omega), if_pos (show (dg a).length ≤ 35184372088832 by omega)]
  refine Ev.bind (len_ev (by omega)) ?_
  simp only [ew]
  exact h
end Go.Proofs.YtepcegiciecogaaGreat.FR
