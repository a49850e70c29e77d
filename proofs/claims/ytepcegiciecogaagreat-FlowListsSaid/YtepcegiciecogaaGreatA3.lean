/- Contracts of ieee.Split, the orders' keys and the reference's order. -/
import Derived.Test.YtepcegiciecogaaGreatRows
import Derived.Test.YtepcegiciecogaaGreatA1
import Derived.Test.YtepcegiciecogaaGreatA2
import Derived.Test.YtepcegiciecogaaGreatPl
import Derived.WalkKit
import Derived.Lib.Hide
import Derived.WalkSpells
import Derived.WalkLawsBesides
import Derived.Deep.QuietTactic
import Derived.BigQuiet
namespace Go.Proofs.YtepcegiciecogaaGreat
open Go.RowKit

set_option maxRecDepth 100000 in
set_option maxHeartbeats 400000 in
theorem split_any (a : Nat) (h : a < 18446744073709551616) (w : World) :
    Calls Tryz.prog 60 #[.float .f64 a] w fun e w' => e = .returned (.tuple #[.int .i64 (Tn.spm a), .int .i64 (Tn.spe a), .bool (Tn.fin a)]) ∧ w = w' := by
  have H := Lib.hid h; clear h
  have HW := Lib.hid (Tn.wrap_mag a)
  have HN := Lib.hid (Tn.wrap_nmag a)
  rcases Tn.cls_cases a with hc | hc | hc | hc | hc
  · have HR := Lib.hid (Tn.spm_zero hc)
    go_enter Tryz.func60, Tryz.ntmps60
    go_wp2_with (first | (go_at_call 66; refine (class_any _ H.out _).mono ?_; rintro e w' ⟨rfl, rfl⟩) | (go_at_call 99; refine (size_any _ H.out _).mono ?_; rintro e w' ⟨rfl, rfl⟩))
    go_ret3
    exact ⟨ret_iib HR.out.1.symm HR.out.2.1.symm HR.out.2.2.symm, rfl⟩
  · have HR := Lib.hid (Tn.spm_sub hc)
    have HG := Lib.hid (Tn.neg_fin (b := a) (by omega))
    cases hs : Tn.sgn a
    · have HS := Lib.hid (HG.out.trans hs)
      rw [hs, if_neg (by decide)] at HR
      clear hs
      go_enter Tryz.func60, Tryz.ntmps60
      go_wp2_with (first | (go_at_call 66; refine (class_any _ H.out _).mono ?_; rintro e w' ⟨rfl, rfl⟩) | (go_at_call 99; refine (size_any _ H.out _).mono ?_; rintro e w' ⟨rfl, rfl⟩) | (go_at_call 100; refine (negative_any _ H.out _).mono ?_; rintro e w' ⟨rfl, rfl⟩; rw [HS.out]))
      go_ret3
      exact ⟨ret_iib (by rw [HR.out.1]; exact HW.out) HR.out.2.1.symm HR.out.2.2.symm, rfl⟩
    · have HS := Lib.hid (HG.out.trans hs)
      rw [hs, if_pos rfl] at HR
      clear hs
      go_enter Tryz.func60, Tryz.ntmps60
      go_wp2_with (first | (go_at_call 66; refine (class_any _ H.out _).mono ?_; rintro e w' ⟨rfl, rfl⟩) | (go_at_call 99; refine (size_any _ H.out _).mono ?_; rintro e w' ⟨rfl, rfl⟩) | (go_at_call 100; refine (negative_any _ H.out _).mono ?_; rintro e w' ⟨rfl, rfl⟩; rw [HS.out]))
      go_ret3
      exact ⟨ret_iib (by rw [HR.out.1]; exact HN.out) HR.out.2.1.symm HR.out.2.2.symm, rfl⟩
  · have HR := Lib.hid (Tn.spm_nor hc)
    have HG := Lib.hid (Tn.neg_fin (b := a) (by omega))
    obtain ⟨m1, m2⟩ := Tn.cls3 hc
    have e1 := Tn.and_mant (Tn.mag a) (by omega)
    have e2 := Tn.or_mant (Tn.mag a % 4503599627370496) (by omega)
    obtain ⟨D, hD⟩ : ∃ D : Int, ((4503599627370496 + Tn.mag a % 4503599627370496 : Nat) : Int) = D := ⟨_, rfl⟩
    obtain ⟨Q, hQ⟩ : ∃ Q : Int, ((Tn.mag a / 4503599627370496 : Nat) : Int) = Q := ⟨_, rfl⟩
    have d1 : 4503599627370496 ≤ D := by omega
    have d2 : D < 9007199254740992 := by omega
    have q1 : 0 ≤ Q := by omega
    have q2 : Q < 2047 := by omega
    have e3 : (Tn.mag a : Int) / 4503599627370496 = Q := by omega
    rw [hD] at e2 HR
    rw [hQ] at HR
    generalize Tn.mag a % 4503599627370496 = r at *
    clear m1 m2 hD hQ
    cases hs : Tn.sgn a
    · have HS := Lib.hid (HG.out.trans hs)
      rw [hs, if_neg (by decide)] at HR
      clear hs
      go_enter Tryz.func60, Tryz.ntmps60
      go_wp2_with (first | (go_at_call 66; refine (class_any _ H.out _).mono ?_; rintro e w' ⟨rfl, rfl⟩) | (go_at_call 99; refine (size_any _ H.out _).mono ?_; rintro e w' ⟨rfl, rfl⟩) | (go_at_call 100; refine (negative_any _ H.out _).mono ?_; rintro e w' ⟨rfl, rfl⟩; rw [HS.out]))
      go_ret3
      exact ⟨ret_iib HR.out.1.symm HR.out.2.1.symm HR.out.2.2.symm, rfl⟩
    · have HS := Lib.hid (HG.out.trans hs)
      rw [hs, if_pos rfl] at HR
      clear hs
      go_enter Tryz.func60, Tryz.ntmps60
      go_wp2_with (first | (go_at_call 66; refine (class_any _ H.out _).mono ?_; rintro e w' ⟨rfl, rfl⟩) | (go_at_call 99; refine (size_any _ H.out _).mono ?_; rintro e w' ⟨rfl, rfl⟩) | (go_at_call 100; refine (negative_any _ H.out _).mono ?_; rintro e w' ⟨rfl, rfl⟩; rw [HS.out]))
      go_ret3
      exact ⟨ret_iib HR.out.1.symm HR.out.2.1.symm HR.out.2.2.symm, rfl⟩
  · have HR := Lib.hid (Tn.spm_none (Or.inl hc))
    go_enter Tryz.func60, Tryz.ntmps60
    go_wp2_with (first | (go_at_call 66; refine (class_any _ H.out _).mono ?_; rintro e w' ⟨rfl, rfl⟩) | (go_at_call 99; refine (size_any _ H.out _).mono ?_; rintro e w' ⟨rfl, rfl⟩))
    go_ret3
    exact ⟨ret_iib HR.out.1.symm HR.out.2.1.symm HR.out.2.2.symm, rfl⟩
  · have HR := Lib.hid (Tn.spm_none (Or.inr hc))
    go_enter Tryz.func60, Tryz.ntmps60
    go_wp2_with (first | (go_at_call 66; refine (class_any _ H.out _).mono ?_; rintro e w' ⟨rfl, rfl⟩) | (go_at_call 99; refine (size_any _ H.out _).mono ?_; rintro e w' ⟨rfl, rfl⟩))
    go_ret3
    exact ⟨ret_iib HR.out.1.symm HR.out.2.1.symm HR.out.2.2.symm, rfl⟩

end Go.Proofs.YtepcegiciecogaaGreat
