/- The plain statement behind WordShifts: a shift by the lowest five bits is a product, or a quotient, by a power of two. No condition. -/
import Derived.Test.YtgfmeiddicodoaaRx3
import Derived.Test.YtgfmeiddicodoaaHWord
set_option linter.unusedVariables false
set_option linter.unusedSimpArgs false
namespace Go.Proofs.Ytgfmeiddicodoaa.Pure
open Go.RowKit Go.Proofs.Ytgfmeiddicodoaa.H Go.Proofs.Ytgfmeiddicodoaa.R Go.Proofs.YtgfmeiddicodoaaW.PrintWords Go.Proofs.YtgfmeiddicodoaaW.PrintLast

theorem WordShifts : hurdlelaw01_WordShifts.Pure := by
  intro a0 a1 h1 h2
  obtain ⟨p1, p2⟩ := bounds_u32 h1
  obtain ⟨q1, q2⟩ := bounds_u32 h2
  obtain ⟨a, rfl⟩ := Int.eq_ofNat_of_zero_le p1
  obtain ⟨b, rfl⟩ := Int.eq_ofNat_of_zero_le q1
  have ha : a < 4294967296 := by omega
  have hb : b < 4294967296 := by omega
  have hs := pow_le31 (b % 32) (by omega)
  have e32 : ((b : Int) + 32) % 4294967296 = (((b + 32) % 4294967296 : Nat) : Int) := by omega
  have e33 : (b + 32) % 4294967296 % 32 = b % 32 := by omega
  have h0 : hurdlelaw01_WordShifts.f (a : Int) (b : Int) = some true := by
    unfold hurdlelaw01_WordShifts.f
    rw [show (1 : Int) = ((1 : Nat) : Int) from rfl, do_shl 1 b hb, do_shl a b hb, do_shr a b hb, e32, do_shl a _ (by omega), e33]
    simp only [Option.bind_some]
    generalize 2 ^ (b % 32) = p at *
    rw [Nat.one_mul, show p % 4294967296 = p by omega, do_mul, do_div a p ha (by omega)]
    simp [knows_true]
  exact h0
end Go.Proofs.Ytgfmeiddicodoaa.Pure
