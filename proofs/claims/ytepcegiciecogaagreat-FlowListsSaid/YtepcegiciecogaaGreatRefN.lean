/- The reference's numbers, as the print has them: what is nearest, whole numbers, Join. No Go and no memory here. -/
import Derived.Test.YtepcegiciecogaaGreatFRx1
import Derived.Test.YtepcegiciecogaaGreatFRx2
import Derived.Test.YtepcegiciecogaaGreatFRx3
import Derived.Test.YtepcegiciecogaaGreatFRx4
import Derived.Test.YtepcegiciecogaaGreatFRx5
import Derived.Test.YtepcegiciecogaaGreatFRx6
import Derived.Test.YtepcegiciecogaaGreatFRx7
import Derived.Test.YtepcegiciecogaaGreatFRx8
import Derived.Test.YtepcegiciecogaaGreatFRx9
import Derived.Test.YtepcegiciecogaaGreatRef
import Derived.Test.YtepcegiciecogaaGreatPl
namespace Go.Proofs.YtepcegiciecogaaGreat.FR
open Go.RowKit Go.Proofs.YtepcegiciecogaaGreatW.PrintWords Go.Proofs.YtepcegiciecogaaGreatW.PrintLast Go.Proofs.YtepcegiciecogaaGreatW.PrintMore Tn

theorem shl_52 {n : Nat} (hn : n < 4096) : shl .u64 (n : Int) 52 = ((n * 4503599627370496 : Nat) : Int) := by
  show IntKind.u64.wrap ((n : Int) * 2 ^ min ((52 : Int).toNat) (IntKind.u64.bits)) = _
  rw [show ((2 : Int) ^ min ((52 : Int).toNat) (IntKind.u64.bits)) = 4503599627370496 from rfl, show ((n : Int) * 4503599627370496) = ((n * 4503599627370496 : Nat) : Int) by omega]
  exact wrapu_nat (by omega)
theorem asm_up {n d0 d1 : Nat} (hn : n < 2200) (h0 : d0 < 4294967296) (h1 : d1 < 2097152) :
    IntKind.u64.wrap ((IntKind.u64.wrap ((shl .u64 (n : Int) 52) + (d0 : Int))) + (IntKind.u64.wrap ((d1 : Int) * 4294967296))) = ((n * 4503599627370496 + (d0 + d1 * 4294967296) : Nat) : Int) := by
  rw [shl_52 (by omega), wrapu_id (x := (d1 : Int) * 4294967296) (by omega) (by omega), wrapu_id (x := ((n * 4503599627370496 : Nat) : Int) + (d0 : Int)) (by omega) (by omega), wrapu_id (by omega) (by omega)]
  omega
theorem asm_q {n q : Nat} (hn : n < 2200) (hq : q < 9007199254740992) : IntKind.u64.wrap ((shl .u64 (n : Int) 52) + (q : Int)) = ((n * 4503599627370496 + q : Nat) : Int) := by
  rw [shl_52 (by omega), wrapu_id (by omega) (by omega)]; omega
theorem asm_q1 {n q : Nat} (hn : n < 2200) (hq : q < 9007199254740992) : IntKind.u64.wrap ((shl .u64 (n : Int) 52) + (IntKind.u64.wrap ((q : Int) + 1))) = ((n * 4503599627370496 + (q + 1) : Nat) : Int) := by
  rw [shl_52 (by omega), wrapu_id (x := (q : Int) + 1) (by omega) (by omega), wrapu_id (by omega) (by omega)]; omega
theorem low_sum {d0 d1 : Nat} (h0 : d0 < 4294967296) (h1 : d1 < 2097152) : IntKind.u64.wrap ((d0 : Int) + (IntKind.u64.wrap ((d1 : Int) * 4294967296))) = ((d0 + d1 * 4294967296 : Nat) : Int) := by
  rw [wrapu_id (x := (d1 : Int) * 4294967296) (by omega) (by omega), wrapu_id (by omega) (by omega)]; omega

theorem rounded_ev {v : Nat} (hs : (dg v).length < 1073741824) {e : Int} (more : Bool) (he0 : -500000000 ≤ e) (he1 : e ≤ 500000000) (hf : (bl v : Int) + e ≤ 1100) :
    Ev (fun k => tenorref1_rounded.f k (dg v) e more 53 (-1074)) (((lsbR v e 53 (-1074) + 1074).toNat * 4503599627370496 + rndR v (e - lsbR v e 53 (-1074)) more : Nat) : Int) := by
  obtain ⟨L, hL⟩ : ∃ L, lsbR v e 53 (-1074) = L := ⟨_, rfl⟩
  have hL0 : -1074 ≤ L := by unfold lsbR at hL; omega
  have hL1 : L ≤ 1047 := by unfold lsbR at hL; omega
  have hb : (bl v : Int) ≤ 600000000 := by omega
  have e1 : mx (wrap64 ((wrap64 ((bl v : Int) - 53)) + e)) (-1074) = L := by
    rw [wrap_id (x := (bl v : Int) - 53) (by omega) (by omega), wrap_id (by omega) (by omega)]
    unfold mx; unfold lsbR at hL; split <;> omega
  have e2 : IntKind.u64.wrap (wrap64 (L - (-1074))) = ((L + 1074).toNat : Int) := by
    rw [wrap_id (by omega) (by omega), wrapu_id (by omega) (by omega)]; omega
  have e3 : wrap64 ((53 : Int) - 1) = 52 := (wrap_id (x := 53 - 1) (by decide) (by decide)).trans rfl
  obtain ⟨n, hn⟩ : ∃ n, (L + 1074).toNat = n := ⟨_, rfl⟩
  have hn1 : n < 2200 := by omega
  rw [hL, hn]
  rw [hn] at e2
  unfold tenorref1_rounded.f
  refine Ev.bind (len_ev hs) ?_
  simp only [e1, e2, e3, if_pos (show (0 : Int) ≤ 52 by decide)]
  by_cases c : L ≤ e
  · simp only [if_pos c]
    have ec : wrap64 (e - L) = (((e - L).toNat : Nat) : Int) := by rw [wrap_id (by omega) (by omega)]; omega
    have hq := rndR_up (v := v) (e := e) (bits := 53) (least := -1074) (by rw [hL]; exact c) (by decide) (by decide)
    rw [hL] at hq
    rw [ec]
    obtain ⟨q, hq'⟩ : ∃ q, v * 2 ^ (e - L).toNat = q := ⟨_, rfl⟩
    refine Ev.bind (shiftUp_ev (by omega) hs) ?_
    unfold rndR
    rw [if_pos (by omega), hq']
    rw [hq'] at hq
    have hlen : (dg q).length < 1099511627776 := by
      have := len_dg_le (v := q) (k := 2) (by omega); omega
    have d0 : tenorref1_digit.f (dg q) 0 = some ((q / 2 ^ (32 * 0) % 4294967296 : Nat) : Int) := digit_dg q 0 hlen
    have d1 : tenorref1_digit.f (dg q) 1 = some ((q / 2 ^ (32 * 1) % 4294967296 : Nat) : Int) := digit_dg q 1 hlen
    simp only [d0, d1, Option.bind_some]
    have h64 := two_digits (q := q) (by omega)
    have hd1 : q / 2 ^ (32 * 1) % 4294967296 < 2097152 := by rw [show (2 : Nat) ^ (32 * 1) = 4294967296 from rfl]; omega
    rw [asm_up hn1 (Nat.mod_lt _ (by decide)) hd1, h64]
    exact Ev.now _
  · simp only [if_neg c]
    have ec : wrap64 (L - e) = (((L - e).toNat : Nat) : Int) := by rw [wrap_id (by omega) (by omega)]; omega
    have ec1 : wrap64 (wrap64 (L - e) - 1) = ((((L - e).toNat - 1 : Nat)) : Int) := by rw [ec, wrap_id (by omega) (by omega)]; omega
    have hq := rndR_down (v := v) (e := e) (bits := 53) (least := -1074) (by rw [hL]; omega) (by decide) (by decide)
    rw [hL] at hq
    rw [ec1, ec]
    have es : (-(e - L)).toNat = (L - e).toNat := by omega
    unfold rndR
    rw [if_neg (by omega), es]
    obtain ⟨s, hs'⟩ : ∃ s, (L - e).toNat = s := ⟨_, rfl⟩
    rw [hs'] at hq ⊢
    have hs1 : 1 ≤ s := by omega
    have hs2 : s < 1073741824 := by omega
    refine Ev.bind (shiftDown_ev (by omega) hs) ?_
    refine Ev.bind (shiftDown_ev (by omega) hs) ?_
    unfold rneM
    obtain ⟨q, hq'⟩ : ∃ q, v / 2 ^ s = q := ⟨_, rfl⟩
    obtain ⟨g, hg'⟩ : ∃ g, v / 2 ^ (s - 1) = g := ⟨_, rfl⟩
    have hgq : g / 2 = q := by
      rw [← hg', ← hq', Nat.div_div_eq_div_mul, ← Nat.pow_succ]; congr 2; omega
    rw [hq', hg']
    rw [hq'] at hq
    have hlen : (dg q).length < 1099511627776 := by
      have := len_dg_le (v := q) (k := 2) (by omega); omega
    have hleng : (dg g).length < 1099511627776 := by
      have := len_dg_le (v := g) (k := 2) (by omega); omega
    have d0 : tenorref1_digit.f (dg q) 0 = some ((q / 2 ^ (32 * 0) % 4294967296 : Nat) : Int) := digit_dg q 0 hlen
    have d1 : tenorref1_digit.f (dg q) 1 = some ((q / 2 ^ (32 * 1) % 4294967296 : Nat) : Int) := digit_dg q 1 hlen
    have d2 : tenorref1_digit.f (dg g) 0 = some ((g / 2 ^ (32 * 0) % 4294967296 : Nat) : Int) := digit_dg g 0 hleng
    have h64 := two_digits (q := q) (by omega)
    have hd0 : q / 2 ^ (32 * 0) % 4294967296 < 4294967296 := Nat.mod_lt _ (by decide)
    have hd1 : q / 2 ^ (32 * 1) % 4294967296 < 2097152 := by rw [show (2 : Nat) ^ (32 * 1) = 4294967296 from rfl]; omega
    have t1 : Int.tmod ((g / 2 ^ (32 * 0) % 4294967296 : Nat) : Int) 2 = ((g % 2 : Nat) : Int) := by
      refine (tmod_nat _ 2).trans ?_; congr 1; rw [show (2 : Nat) ^ (32 * 0) = 1 from rfl]; omega
    have t2 : Int.tmod ((q : Nat) : Int) 2 = ((q % 2 : Nat) : Int) := tmod_nat _ 2
    simp only [d0, d1, d2, Option.bind_some, t1, low_sum hd0 hd1, h64, asm_q hn1 hq, asm_q1 hn1 hq, t2]
    by_cases c1 : g % 2 = 1
    · rw [if_pos (by rw [c1]; rfl)]
      by_cases c2 : v % 2 ^ (s - 1) ≠ 0
      · rw [if_pos (decide_eq_true c2), if_pos ⟨c1, Or.inl c2⟩]
        exact Ev.now _
      · rw [if_neg (by simpa using c2)]
        by_cases c3 : more = true
        · rw [if_pos c3, if_pos ⟨c1, Or.inr (Or.inl c3)⟩]
          exact Ev.now _
        · rw [if_neg c3]
          by_cases c4 : q % 2 = 1
          · rw [if_pos (by rw [c4]; rfl), if_pos ⟨c1, Or.inr (Or.inr c4)⟩]
            exact Ev.now _
          · rw [if_neg (by omega), if_neg (by rintro ⟨_, h | h | h⟩ <;> contradiction)]
            exact Ev.now _
    · rw [if_neg (by omega), if_neg (by rintro ⟨h, _⟩; contradiction)]
      exact Ev.now _

def sgR (s : Bool) : Nat := if s = true then 9223372036854775808 else 0
theorem made_val (s : Bool) (u : Nat) (hu : u < 18446744073709551616) : tenorref1_made.f s (u : Int) = some ((sgR s + min u 9218868437227405312 : Nat) : Int) := by
  have e : mn (u : Int) 9218868437227405312 = ((min u 9218868437227405312 : Nat) : Int) := by unfold mn; split <;> omega
  unfold tenorref1_made.f sgR
  rw [e]
  cases s
  · rw [if_neg (by decide), if_neg (by decide), Nat.zero_add]
  · rw [if_pos rfl, if_pos rfl, wrapu_id (by omega) (by omega)]; congr 1; omega

theorem far_ev {v : Nat} (hs : (dg v).length < 1073741824) (hb : bl v < 1099511627776) {e : Int} (s : Bool) (he0 : -500000000 ≤ e) (he1 : e ≤ 500000000) :
    Ev (fun k => tenorref1_far.f k s (dg v) e) (decide ((bl v : Int) + e > 1100 ∨ (bl v : Int) + e < -1200)) := by
  have e1 : wrap64 ((bl v : Int) + e) = (bl v : Int) + e := wrap_id (by omega) (by omega)
  unfold tenorref1_far.f
  refine Ev.bind (len_ev hs) ?_
  simp only [e1]
  by_cases c : (bl v : Int) + e > 1100
  · simp only [if_pos c, decide_eq_true (show (bl v : Int) + e > 1100 ∨ (bl v : Int) + e < -1200 from Or.inl c)]
    exact Ev.now _
  · simp only [if_neg c]
    refine Ev.bind (len_ev hs) ?_
    simp only [e1]
    rw [show decide ((bl v : Int) + e > 1100 ∨ (bl v : Int) + e < -1200) = decide ((bl v : Int) + e < -1200) by
      rw [Bool.eq_iff_iff, decide_eq_true_iff, decide_eq_true_iff]; exact ⟨fun h => h.resolve_left c, Or.inr⟩]
    exact Ev.now _

/-- what is nearest to v * 2^e, or to that and a little more. -/
def nrM (v : Nat) (e : Int) (more : Bool) : Nat := min ((lsbR v e 53 (-1074) + 1074).toNat * 4503599627370496 + rndR v (e - lsbR v e 53 (-1074)) more) 9218868437227405312
theorem nrM_false {v : Nat} (h : v ≠ 0) (e : Int) : nrM v e false = nr v e := by
  unfold nrM nr; rw [if_neg h, lsb_last h, rndR_false]
theorem nrM_high {v : Nat} {e : Int} (more : Bool) (h : (bl v : Int) + e > 1100) : nrM v e more = 9218868437227405312 := by
  unfold nrM lsbR; omega
theorem nrM_low {v : Nat} {e : Int} (more : Bool) (h : (bl v : Int) + e < -1200) : nrM v e more = 0 := by
  have hL : lsbR v e 53 (-1074) = -1074 := by unfold lsbR; omega
  have hx : ¬ 0 ≤ e - (-1074) := by omega
  have hv : v < 2 ^ ((-(e - (-1074))).toNat - 1) := Nat.lt_of_lt_of_le (bl_lt (Nat.le_refl _)) (pow_le (by omega))
  have hv1 : v < 2 ^ (-(e - (-1074))).toNat := Nat.lt_of_lt_of_le hv (pow_le (by omega))
  unfold nrM rndR rneM
  rw [hL, if_neg hx, Nat.div_eq_of_lt hv, Nat.div_eq_of_lt hv1, if_neg (by rintro ⟨h, _⟩; exact absurd h (by decide))]
  rfl
theorem rndR_le {v : Nat} {e : Int} (more : Bool) : rndR v (e - lsbR v e 53 (-1074)) more ≤ 9007199254740992 := by
  unfold rndR
  split
  · rename_i h
    have := rndR_up (v := v) (e := e) (bits := 53) (least := -1074) (by omega) (by decide) (by decide); omega
  · rename_i h
    have := rndR_down (v := v) (e := e) (bits := 53) (least := -1074) (by omega) (by decide) (by decide)
    unfold rneM
    rw [show (-(e - lsbR v e 53 (-1074))).toNat = (lsbR v e 53 (-1074) - e).toNat by omega]
    split <;> omega

theorem nearMore_ev {v : Nat} (hs : (dg v).length < 1073741824) (hb : bl v < 1099511627776) {e : Int} (s more : Bool) (he0 : -500000000 ≤ e) (he1 : e ≤ 500000000) :
    Ev (fun k => tenorref1_NearMore.f k s (dg v) e more) ((if v = 0 then 0 else sgR s + nrM v e more : Nat) : Int) := by
  have e1 : wrap64 ((bl v : Int) + e) = (bl v : Int) + e := wrap_id (by omega) (by omega)
  unfold tenorref1_NearMore.f tenorref1_Zero.f
  simp only [Option.bind_some]
  by_cases h0 : v = 0
  · subst h0
    simp only [dg_zero, if_pos]
    exact Ev.now _
  · rw [if_neg h0]
    have hz : (((dg v).length : Int) == 0) = false := by rw [dg_pos h0]; simp; omega
    simp only [hz, Bool.false_eq_true, if_false]
    refine Ev.bind (far_ev hs hb s he0 he1) ?_
    by_cases c : (bl v : Int) + e > 1100 ∨ (bl v : Int) + e < -1200
    · simp only [decide_eq_true c, if_true]
      have j1 : ∀ b : Bool, Ev (fun k => tenorref1_NearMore.j0 k b s (dg v) e) ((sgR s + (if b = true then 9218868437227405312 else 0) : Nat) : Int) := by
        intro b
        refine ⟨1, fun k hk => ?_⟩
        obtain ⟨k, rfl⟩ : ∃ m, k = m + 1 := ⟨k - 1, by omega⟩
        simp only [tenorref1_NearMore.j0]
        cases b
        · rw [if_neg (by decide), if_neg (by decide)]; exact (congrArg (fun z => z.bind fun t => some t) (made_val s 0 (by decide))).trans rfl
        · rw [if_pos rfl, if_pos rfl]; exact (congrArg (fun z => z.bind fun t => some t) (made_val s 9218868437227405312 (by decide))).trans rfl
      by_cases c2 : e > 0
      · simp only [if_pos c2]
        rw [nrM_high more (by omega)]
        exact j1 true
      · simp only [if_neg c2]
        refine Ev.bind (len_ev hs) ?_
        simp only [e1]
        by_cases c3 : (bl v : Int) + e > 0
        · rw [nrM_high more (by omega)]
          simp only [decide_eq_true c3]
          exact j1 true
        · rw [nrM_low more (by omega)]
          simp only [decide_eq_false c3]
          exact j1 false
    · simp only [decide_eq_false c, Bool.false_eq_true, if_false]
      refine Ev.bind (rounded_ev hs more he0 he1 (by omega)) ?_
      have hL : (lsbR v e 53 (-1074) + 1074).toNat < 2200 := by unfold lsbR; omega
      have hr := rndR_le (v := v) (e := e) more
      simp only [made_val s _ (show (lsbR v e 53 (-1074) + 1074).toNat * 4503599627370496 + rndR v (e - lsbR v e 53 (-1074)) more < 18446744073709551616 by omega), Option.bind_some]
      exact Ev.now _
theorem near_ev {v : Nat} (hs : (dg v).length < 1073741824) (hb : bl v < 1099511627776) {e : Int} (s : Bool) (he0 : -500000000 ≤ e) (he1 : e ≤ 500000000) :
    Ev (fun k => tenorref1_Near.f k s (dg v) e) ((if v = 0 then 0 else sgR s + nr v e : Nat) : Int) := by
  unfold tenorref1_Near.f
  refine Ev.bind (nearMore_ev hs hb s false he0 he1) ?_
  by_cases h : v = 0
  · rw [if_pos h, if_pos h]; exact Ev.now _
  · rw [if_neg h, if_neg h, nrM_false h]; exact Ev.now _

theorem digits_ev {a : Nat} (h : a < 18446744073709551616) : Ev (fun k => tenorref1_Digits.f k (a : Int)) (dg a) := by
  have e1 : Int.tmod (a : Int) 4294967296 = ((a % 4294967296 : Nat) : Int) := tmodB a
  have e2 : IntKind.u64.wrap (Int.tdiv (a : Int) 4294967296) = ((a / 4294967296 : Nat) : Int) := by rw [tdivB]; exact wrapu_nat (by omega)
  unfold tenorref1_Digits.f
  rw [e1, e2]
  have hv : val [((a % 4294967296 : Nat) : Int), ((a / 4294967296 : Nat) : Int)] = a := by
    simp only [val]; omega
  have := trim_ev (l := [((a % 4294967296 : Nat) : Int), ((a / 4294967296 : Nat) : Int)]) (Dig.mk (by omega) (by omega) (Dig.mk (by omega) (by omega) Dig.nil)) (by simp)
  rw [hv] at this
  refine Ev.bind this ?_
  exact Ev.now _
end Go.Proofs.YtepcegiciecogaaGreat.FR
