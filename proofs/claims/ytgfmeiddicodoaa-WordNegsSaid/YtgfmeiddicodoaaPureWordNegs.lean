/- The plain statement behind WordNegs: to take from 0 twice is nothing; it is one more than all bits turned; and a number and it are 0 together. No condition. -/
import Derived.Test.YtgfmeiddicodoaaRx3
import Derived.Test.YtgfmeiddicodoaaHWord
set_option linter.unusedVariables false
set_option linter.unusedSimpArgs false
namespace Go.Proofs.Ytgfmeiddicodoaa.Pure
open Go.RowKit Go.Proofs.Ytgfmeiddicodoaa.H Go.Proofs.Ytgfmeiddicodoaa.R Go.Proofs.YtgfmeiddicodoaaW.PrintWords Go.Proofs.YtgfmeiddicodoaaW.PrintLast

theorem xor_all (a : Nat) (ha : a < 4294967296) : a ^^^ 4294967295 = 4294967295 - a := by
  apply Nat.eq_of_testBit_eq
  intro i
  rw [show 4294967295 - a = 2 ^ 32 - (a + 1) by omega, Nat.testBit_two_pow_sub_succ (by omega), Nat.testBit_xor, show (4294967295 : Nat) = 2 ^ 32 - 1 by decide, Nat.testBit_two_pow_sub_one]
  by_cases hi : i < 32
  · simp [hi]
  · simp [hi]
    apply Nat.testBit_lt_two_pow
    exact Nat.lt_of_lt_of_le ha (show 2 ^ 32 ≤ 2 ^ i from Nat.pow_le_pow_right (by omega) (by omega))

theorem WordNegs : hurdlelaw01_WordNegs.Pure := by
  intro a0 h1
  obtain ⟨p1, p2⟩ := bounds_u32 h1
  obtain ⟨a, rfl⟩ := Int.eq_ofNat_of_zero_le p1
  have ha : a < 4294967296 := by omega
  have h0 : hurdlelaw01_WordNegs.f (a : Int) = some true := by
    unfold hurdlelaw01_WordNegs.f
    rw [neg_is a ha]
    simp only [Option.bind_some]
    rw [show (4294967295 : Int) = ((4294967295 : Nat) : Int) from rfl, do_xor a _ ha (by omega), xor_all a ha]
    simp only [Option.bind_some]
    rw [show (1 : Int) = ((1 : Nat) : Int) from rfl, do_add]
    simp only [Option.bind_some]
    rw [do_add]
    simp only [Option.bind_some]
    rw [neg_is _ (by omega)]
    simp only [Option.bind_some]
    rw [if_pos (by omega), if_pos (by omega), if_pos (by omega), if_pos trivial]
    simp [knows_true]
  exact h0
end Go.Proofs.Ytgfmeiddicodoaa.Pure
