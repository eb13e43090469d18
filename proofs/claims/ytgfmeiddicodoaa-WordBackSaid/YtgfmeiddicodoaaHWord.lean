/-
What word.Do and the reference's Do answer, in numbers.
-/
import Derived.Test.YtgfmeiddicodoaaRx1
import Derived.Test.YtgfmeiddicodoaaHBitMath
import Derived.OpenShut
set_option linter.unusedVariables false
set_option linter.unusedSimpArgs false
namespace Go.Proofs.Ytgfmeiddicodoaa.H
open Go.RowKit Go.Proofs.Ytgfmeiddicodoaa.R Go.Proofs.YtgfmeiddicodoaaW.PrintWords Go.Proofs.YtgfmeiddicodoaaW.PrintMore

theorem knows_true : hurdlelaw01_knows.f = some true := by kernel_rfl

theorem and31 (b : Nat) (hb : b < 4294967296) : Go.bits .and .u32 (b : Int) 31 = ((b % 32 : Nat) : Int) := by
  rw [show (31 : Int) = ((31 : Nat) : Int) from rfl, u32_and_nat _ _ hb (by omega), nat_mask5]

theorem pow_le31 (s : Nat) (hs : s < 32) : 1 ≤ 2 ^ s ∧ 2 ^ s ≤ 2147483648 :=
  ⟨Nat.one_le_two_pow, Nat.pow_le_pow_right (j := 31) (by omega) (by omega)⟩

theorem tdiv_nat (a b : Nat) : Int.tdiv (a : Int) (b : Int) = ((a / b : Nat) : Int) := rfl

section
variable (a b : Nat) (ha : a < 4294967296) (hb : b < 4294967296)
theorem do_add : word_Do.f 4 (a : Int) (b : Int) = some ((((a + b) % 4294967296 : Nat) : Int), true) := by
  unfold word_Do.f; rw [if_pos rfl]; congr 1
theorem do_sub (ha : a < 4294967296) (hb : b < 4294967296) : word_Do.f 20 (a : Int) (b : Int) = some ((((a + 4294967296 - b) % 4294967296 : Nat) : Int), true) := by
  unfold word_Do.f; rw [if_neg (by decide), if_pos rfl]
  have e : ((a : Int) - b) % 4294967296 = (((a + 4294967296 - b) % 4294967296 : Nat) : Int) := by omega
  rw [e]
theorem do_sub' (ha : a < 4294967296) (hb : b < 4294967296) : ∃ v : Nat, word_Do.f 20 (a : Int) (b : Int) = some ((v : Int), true) ∧ (b ≤ a → v = a - b) ∧ (a < b → v = a + 4294967296 - b) :=
  ⟨_, do_sub a b ha hb, by omega, by omega⟩
theorem do_mul : word_Do.f 36 (a : Int) (b : Int) = some ((((a * b) % 4294967296 : Nat) : Int), true) := by
  unfold word_Do.f; rw [if_neg (by decide), if_neg (by decide), if_pos rfl]; congr 1
theorem do_div0 : word_Do.f 52 (a : Int) 0 = some (0, false) := by
  unfold word_Do.f; rw [if_neg (by decide), if_neg (by decide), if_neg (by decide), if_pos rfl, if_pos rfl]
theorem do_div (ha : a < 4294967296) (h0 : b ≠ 0) : word_Do.f 52 (a : Int) (b : Int) = some (((a / b : Nat) : Int), true) := by
  unfold word_Do.f; rw [if_neg (by decide), if_neg (by decide), if_neg (by decide), if_pos rfl, if_neg (by omega), tdiv_nat]
  have := Nat.div_le_self a b
  have e : ((a / b : Nat) : Int) % 4294967296 = ((a / b : Nat) : Int) := by
    generalize a / b = q at *
    omega
  rw [e]
include ha hb in
theorem do_or : word_Do.f 68 (a : Int) (b : Int) = some (((a ||| b : Nat) : Int), true) := by
  unfold word_Do.f; rw [if_neg (by decide), if_neg (by decide), if_neg (by decide), if_neg (by decide), if_pos rfl, u32_or_nat a b ha hb]
include ha hb in
theorem do_and : word_Do.f 84 (a : Int) (b : Int) = some (((a &&& b : Nat) : Int), true) := by
  unfold word_Do.f; rw [if_neg (by decide), if_neg (by decide), if_neg (by decide), if_neg (by decide), if_neg (by decide), if_pos rfl, u32_and_nat a b ha hb]
include ha hb in
theorem do_xor : word_Do.f 164 (a : Int) (b : Int) = some (((a ^^^ b : Nat) : Int), true) := by
  unfold word_Do.f; rw [if_neg (by decide), if_neg (by decide), if_neg (by decide), if_neg (by decide), if_neg (by decide), if_neg (by decide), if_neg (by decide), if_neg (by decide), if_pos rfl, u32_xor_nat a b ha hb]
include hb in
theorem do_shl : word_Do.f 100 (a : Int) (b : Int) = some ((((a * 2 ^ (b % 32)) % 4294967296 : Nat) : Int), true) := by
  unfold word_Do.f
  rw [if_neg (by decide), if_neg (by decide), if_neg (by decide), if_neg (by decide), if_neg (by decide), if_neg (by decide), if_pos rfl, and31 b hb, if_pos (by omega)]
  unfold shl
  have e : min ((b % 32 : Nat) : Int).toNat IntKind.u32.bits = b % 32 := by simp [IntKind.bits]; omega
  rw [e, IntKind.wrap_u32']
  congr 1
include hb in
theorem do_shr : word_Do.f 116 (a : Int) (b : Int) = some (((a / 2 ^ (b % 32) : Nat) : Int), true) := by
  unfold word_Do.f
  rw [if_neg (by decide), if_neg (by decide), if_neg (by decide), if_neg (by decide), if_neg (by decide), if_neg (by decide), if_neg (by decide), if_pos rfl, and31 b hb, if_pos (by omega)]
  unfold shr
  have e : min ((b % 32 : Nat) : Int).toNat IntKind.u32.bits = b % 32 := by simp [IntKind.bits]; omega
  rw [e]
  congr 1
theorem do_none (k : Int) (h : k ≠ 4 ∧ k ≠ 20 ∧ k ≠ 36 ∧ k ≠ 52 ∧ k ≠ 68 ∧ k ≠ 84 ∧ k ≠ 100 ∧ k ≠ 116 ∧ k ≠ 164) (x y : Int) : word_Do.f k x y = some (0, false) := by
  unfold word_Do.f
  simp [h]
theorem neg_is (ha : a < 4294967296) : word_Neg.f (a : Int) = some (((4294967296 - a) % 4294967296 : Nat) : Int) := by
  unfold word_Neg.f
  have e : (-(a : Int)) % 4294967296 = (((4294967296 - a) % 4294967296 : Nat) : Int) := by omega
  rw [e]
end

theorem power_l0 (n : Nat) (d : Nat) : ∀ (k : Nat) (j : Nat), j + d = n % 32 → d < k → hurdleref01_power.l0 k (n : Int) ((2 ^ j : Nat) : Int) (j : Int) = some (((2 ^ (n % 32) : Nat) : Int)) := by
  have hm : Int.tmod (n : Int) 32 = ((n % 32 : Nat) : Int) := tmod_nat n 32
  induction d with
  | zero =>
    intro k j hd hk
    obtain ⟨k, rfl⟩ : ∃ m, k = m + 1 := ⟨k - 1, by omega⟩
    simp only [hurdleref01_power.l0]
    rw [hm, if_neg (by omega), ← hd]; rfl
  | succ d ih =>
    intro k j hd hk
    obtain ⟨k, rfl⟩ : ∃ m, k = m + 1 := ⟨k - 1, by omega⟩
    simp only [hurdleref01_power.l0]
    rw [hm, if_pos (by omega)]
    have hp := pow_le31 j (by omega)
    have e1 : IntKind.u64.wrap (((2 ^ j : Nat) : Int) * 2) = ((2 ^ (j + 1) : Nat) : Int) := by
      rw [Nat.pow_succ]
      generalize 2 ^ j = p at *
      rw [IntWalk.u64_in _ (by omega)]; omega
    have e2 : ((j : Int) + 1) % 4294967296 = ((j + 1 : Nat) : Int) := by omega
    rw [e1, e2]
    exact ih k (j + 1) (by omega) (by omega)

theorem power_f (n k : Nat) (hk : 32 < k) : hurdleref01_power.f k (n : Int) = some (((2 ^ (n % 32) : Nat) : Int)) := by
  have := power_l0 n (n % 32) k 0 (by omega) (by omega)
  exact this

theorem bits_f (a b : Nat) (ha : a < 4294967296) (hb : b < 4294967296) (l : List Int) (hl : l.length = 4) : hurdleref01_bits.f (a : Int) (b : Int) l = some (bsum a b l 32) := by
  unfold hurdleref01_bits.f
  rw [if_pos ⟨by omega, by omega, by omega, by omega, hl⟩]
  rfl

theorem w64 (n : Nat) (h : n < 18446744073709551616) : IntKind.u64.wrap (n : Int) = (n : Int) := IntWalk.u64_in _ (by omega)
end Go.Proofs.Ytgfmeiddicodoaa.H
