/- The plain statement behind WordDoes: word.Do and word.Neg answer what the reference answers, of any kind and any two numbers. No condition. -/
import Derived.Test.YtgfmeiddicodoaaRx1
import Derived.Test.YtgfmeiddicodoaaHWord
set_option linter.unusedVariables false
set_option linter.unusedSimpArgs false
namespace Go.Proofs.Ytgfmeiddicodoaa.Pure
open Go.RowKit Go.Proofs.Ytgfmeiddicodoaa.H Go.Proofs.Ytgfmeiddicodoaa.R Go.Proofs.YtgfmeiddicodoaaW.PrintWords Go.Proofs.YtgfmeiddicodoaaW.PrintLast

theorem refneg (a : Nat) (ha : a < 4294967296) : hurdleref01_Neg.f (a : Int) = some (((4294967296 - a) % 4294967296 : Nat) : Int) := by
  unfold hurdleref01_Neg.f
  rw [w64 a (by omega), IntWalk.u64_in _ (by omega), Int.tmod_eq_emod_of_nonneg (by omega)]
  congr 1; omega

theorem refdo (k : Int) (a b : Nat) (ha : a < 4294967296) (hb : b < 4294967296) : hurdleref01_Do.f 40 k (a : Int) (b : Int) = word_Do.f k (a : Int) (b : Int) := by
  by_cases h4 : k = 4
  · subst h4; rw [do_add]; unfold hurdleref01_Do.f; rw [if_pos rfl, w64 a (by omega), w64 b (by omega), IntWalk.u64_in _ (by omega), Int.tmod_eq_emod_of_nonneg (by omega)]
    congr 2; omega
  by_cases h20 : k = 20
  · subst h20; rw [do_sub a b ha hb]; unfold hurdleref01_Do.f; rw [if_neg (by decide), if_pos rfl, w64 a (by omega), w64 b (by omega), IntWalk.u64_in ((a : Int) + 4294967296) (by omega), IntWalk.u64_in ((a : Int) + 4294967296 - b) (by omega), Int.tmod_eq_emod_of_nonneg (by omega)]
    congr 2; omega
  by_cases h36 : k = 36
  · subst h36; rw [do_mul]; unfold hurdleref01_Do.f; rw [if_neg (by decide), if_neg (by decide), if_pos rfl, w64 a (by omega), w64 b (by omega)]
    have hm : a * b ≤ 4294967295 * 4294967295 := Nat.mul_le_mul (by omega) (by omega)
    rw [← Int.natCast_mul]
    generalize a * b = c at *
    rw [w64 c (by omega), Int.tmod_eq_emod_of_nonneg (by omega)]
    congr 2; omega
  by_cases h52 : k = 52
  · subst h52
    unfold hurdleref01_Do.f; rw [if_neg (by decide), if_neg (by decide), if_neg (by decide), if_pos rfl]
    by_cases h0 : b = 0
    · subst h0; rw [if_pos (by decide)]; exact (do_div0 a).symm
    · rw [do_div a b ha h0, if_neg (by omega), w64 a (by omega), w64 b (by omega), if_neg (by omega), tdiv_nat]
      have := Nat.div_le_self a b
      generalize a / b = q at *
      rw [w64 q (by omega)]
      congr 2; omega
  by_cases h68 : k = 68
  · subst h68; rw [do_or a b ha hb]; unfold hurdleref01_Do.f; rw [if_neg (by decide), if_neg (by decide), if_neg (by decide), if_neg (by decide), if_pos rfl, bits_f a b ha hb _ rfl, bsum_or a b ha hb]; rfl
  by_cases h84 : k = 84
  · subst h84; rw [do_and a b ha hb]; unfold hurdleref01_Do.f; rw [if_neg (by decide), if_neg (by decide), if_neg (by decide), if_neg (by decide), if_neg (by decide), if_pos rfl, bits_f a b ha hb _ rfl, bsum_and a b ha hb]; rfl
  have hs := pow_le31 (b % 32) (by omega)
  by_cases h100 : k = 100
  · subst h100; rw [do_shl a b hb]; unfold hurdleref01_Do.f; rw [if_neg (by decide), if_neg (by decide), if_neg (by decide), if_neg (by decide), if_neg (by decide), if_neg (by decide), if_pos rfl, power_f b 40 (by omega), w64 a (by omega)]
    simp only [Option.bind_some]
    generalize 2 ^ (b % 32) = p at *
    have hm : a * p ≤ 4294967295 * 2147483648 := Nat.mul_le_mul (by omega) (by omega)
    rw [← Int.natCast_mul]
    generalize a * p = c at *
    rw [w64 c (by omega), Int.tmod_eq_emod_of_nonneg (by omega)]
    congr 2; omega
  by_cases h116 : k = 116
  · subst h116; rw [do_shr a b hb]; unfold hurdleref01_Do.f; rw [if_neg (by decide), if_neg (by decide), if_neg (by decide), if_neg (by decide), if_neg (by decide), if_neg (by decide), if_neg (by decide), if_pos rfl, power_f b 40 (by omega), w64 a (by omega)]
    simp only [Option.bind_some]
    generalize 2 ^ (b % 32) = p at *
    rw [if_neg (by omega), tdiv_nat]
    have := Nat.div_le_self a p
    generalize a / p = q at *
    rw [w64 q (by omega)]
    congr 2; omega
  by_cases h164 : k = 164
  · subst h164; rw [do_xor a b ha hb]; unfold hurdleref01_Do.f; rw [if_neg (by decide), if_neg (by decide), if_neg (by decide), if_neg (by decide), if_neg (by decide), if_neg (by decide), if_neg (by decide), if_neg (by decide), if_pos rfl, bits_f a b ha hb _ rfl, bsum_xor a b ha hb]; rfl
  · rw [do_none k ⟨h4, h20, h36, h52, h68, h84, h100, h116, h164⟩]; unfold hurdleref01_Do.f
    simp [h4, h20, h36, h52, h68, h84, h100, h116, h164]

theorem do_some (k : Int) (a b : Nat) (ha : a < 4294967296) (hb : b < 4294967296) : ∃ v o, word_Do.f k (a : Int) (b : Int) = some (v, o) := by
  by_cases h : k ≠ 4 ∧ k ≠ 20 ∧ k ≠ 36 ∧ k ≠ 52 ∧ k ≠ 68 ∧ k ≠ 84 ∧ k ≠ 100 ∧ k ≠ 116 ∧ k ≠ 164
  · exact ⟨_, _, do_none k h _ _⟩
  · have hk : k = 4 ∨ k = 20 ∨ k = 36 ∨ k = 52 ∨ k = 68 ∨ k = 84 ∨ k = 100 ∨ k = 116 ∨ k = 164 := by omega
    rcases hk with rfl | rfl | rfl | rfl | rfl | rfl | rfl | rfl | rfl
    · exact ⟨_, _, do_add a b⟩
    · exact ⟨_, _, do_sub a b ha hb⟩
    · exact ⟨_, _, do_mul a b⟩
    · by_cases h0 : b = 0
      · subst h0; exact ⟨_, _, do_div0 a⟩
      · exact ⟨_, _, do_div a b ha h0⟩
    · exact ⟨_, _, do_or a b ha hb⟩
    · exact ⟨_, _, do_and a b ha hb⟩
    · exact ⟨_, _, do_shl a b hb⟩
    · exact ⟨_, _, do_shr a b hb⟩
    · exact ⟨_, _, do_xor a b ha hb⟩

theorem WordDoes : hurdlelaw01_WordDoes.Pure := by
  intro a0 a1 a2 _ h1 h2
  obtain ⟨p1, p2⟩ := bounds_u32 h1
  obtain ⟨q1, q2⟩ := bounds_u32 h2
  obtain ⟨a, rfl⟩ := Int.eq_ofNat_of_zero_le p1
  obtain ⟨b, rfl⟩ := Int.eq_ofNat_of_zero_le q1
  refine ⟨40, ?_⟩
  unfold hurdlelaw01_WordDoes.f
  rw [refdo a0 a b (by omega) (by omega)]
  obtain ⟨v, o, hv⟩ := do_some a0 a b (by omega) (by omega)
  rw [hv, neg_is a (by omega), refneg a (by omega), knows_true]
  simp
end Go.Proofs.Ytgfmeiddicodoaa.Pure
