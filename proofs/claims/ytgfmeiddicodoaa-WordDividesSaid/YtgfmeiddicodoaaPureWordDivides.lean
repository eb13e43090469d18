/- The plain statement behind WordDivides: a quotient, times what divides, and what is left, less than that, are the number. No condition. -/
import Derived.Test.YtgfmeiddicodoaaRx3
import Derived.Test.YtgfmeiddicodoaaHWord
set_option linter.unusedVariables false
set_option linter.unusedSimpArgs false
namespace Go.Proofs.Ytgfmeiddicodoaa.Pure
open Go.RowKit Go.Proofs.Ytgfmeiddicodoaa.H Go.Proofs.Ytgfmeiddicodoaa.R Go.Proofs.YtgfmeiddicodoaaW.PrintWords Go.Proofs.YtgfmeiddicodoaaW.PrintLast

theorem WordDivides : hurdlelaw01_WordDivides.Pure := by
  intro a0 a1 h1 h2
  obtain ⟨p1, p2⟩ := bounds_u32 h1
  obtain ⟨q1, q2⟩ := bounds_u32 h2
  obtain ⟨a, rfl⟩ := Int.eq_ofNat_of_zero_le p1
  obtain ⟨b, rfl⟩ := Int.eq_ofNat_of_zero_le q1
  have ha : a < 4294967296 := by omega
  have hb : b < 4294967296 := by omega
  have h0 : hurdlelaw01_WordDivides.f (a : Int) (b : Int) = some true := by
    unfold hurdlelaw01_WordDivides.f
    by_cases hz : b = 0
    · subst hz
      rw [show ((0 : Nat) : Int) = 0 from rfl, do_div0 a]
      simp [knows_true]
    · rw [do_div a b ha hz]
      simp only [Option.bind_some]
      rw [if_neg (by omega), do_mul]
      have hq := Nat.div_add_mod a b
      have hr := Nat.mod_lt a (Nat.pos_of_ne_zero hz)
      rw [Nat.mul_comm] at hq
      generalize a / b * b = c at *
      generalize a % b = r at *
      simp only [Option.bind_some]
      obtain ⟨v, hv, hv1, _⟩ := do_sub' a c ha (by omega)
      have hv2 := hv1 (by omega)
      rw [show c % 4294967296 = c by omega, hv]
      simp only [Option.bind_some]
      rw [if_pos trivial, if_pos (by omega), if_pos (by omega)]
      simp [knows_true]
  exact h0
end Go.Proofs.Ytgfmeiddicodoaa.Pure
