/- The plain statement behind NamesApart: unlike machines, and unlike calls of one, have unlike texts. No condition. -/
import Derived.Test.YthdkgpmpopjnaaaRx2
import Derived.Test.YthdkgpmpopjnaaaHNamesMath
import Derived.OpenShut
namespace Go.Proofs.Ythdkgpmpopjnaaa.Pure
open Go.RowKit Go.Proofs.Ythdkgpmpopjnaaa.H Go.Proofs.Ythdkgpmpopjnaaa.R Go.Proofs.YthdkgpmpopjnaaaW.PrintWords Go.Proofs.YthdkgpmpopjnaaaW.PrintLast

theorem knows_true : hurdlelaw09_knows.f = some true := by kernel_rfl

theorem same_iff {l : NL} (g : NGood l) (a b : Nat) (ha : a < 4294967296) (hb : b < 4294967296) : ((textOf l a).toList == (textOf l b).toList) = ((a : Int) == (b : Int)) := by
  rw [Bool.eq_iff_iff]
  simp only [beq_iff_eq]
  constructor
  · intro h
    have := (text_inj g a b ha hb).1 (ba_ext' h)
    omega
  · intro h
    have : a = b := by omega
    rw [this]

theorem NamesApart : hurdlelaw09_NamesApart.Pure := by
  intro a0 a1 a2 a3 h0 h1 h2 h3
  obtain ⟨p0, q0⟩ := bounds_u32 h0
  obtain ⟨p1, q1⟩ := bounds_u32 h1
  obtain ⟨p2, q2⟩ := bounds_u32 h2
  obtain ⟨p3, q3⟩ := bounds_u32 h3
  obtain ⟨a, rfl⟩ := Int.eq_ofNat_of_zero_le p0
  obtain ⟨b, rfl⟩ := Int.eq_ofNat_of_zero_le p1
  obtain ⟨m, rfl⟩ := Int.eq_ofNat_of_zero_le p2
  obtain ⟨n, rfl⟩ := Int.eq_ofNat_of_zero_le p3
  have e : hurdlelaw09_NamesApart.f (a : Int) (b : Int) (m : Int) (n : Int) = some true := by
    unfold hurdlelaw09_NamesApart.f names_Machine.f names_Call.f
    rw [if_pos ⟨by omega, by omega⟩, if_pos ⟨by omega, by omega⟩, if_pos ⟨by omega, by omega⟩, if_pos ⟨by omega, by omega⟩]
    simp only [Option.bind_some, Int.toNat_natCast]
    rw [same_iff good_ML a b (by omega) (by omega), if_pos (by simp), same_iff (good_calls _) m n (by omega) (by omega), if_pos (by simp), knows_true]
    rfl
  exact e
end Go.Proofs.Ythdkgpmpopjnaaa.Pure
