/-
Plain laws: what is summed bit by bit is the or, the and, the exclusive or.
-/
import Derived.Test.YtgfmeiddicodoaaHBits
set_option linter.unusedVariables false
set_option linter.unusedSimpArgs false
namespace Go.Proofs.Ytgfmeiddicodoaa.H
open Go.RowKit Go.Proofs.YtgfmeiddicodoaaW.PrintWords

theorem bsum_step (a b : Nat) (t0 t1 t2 t3 : Int) (op : Nat → Nat → Nat) (opb : Bool → Bool → Bool)
    (hop : ∀ x y i, (op x y).testBit i = opb (x.testBit i) (y.testBit i)) (hff : opb false false = false)
    (h0 : t0 = 0) (h1 : t1 = if opb false true then 1 else 0) (h2 : t2 = if opb true false then 1 else 0) (h3 : t3 = if opb true true then 1 else 0) (j : Nat) (hj : j ≤ 32) :
    bsum a b [t0, t1, t2, t3] j = ((op (a % 2 ^ j) (b % 2 ^ j) : Nat) : Int) := by
  induction j with
  | zero =>
    have e : op (a % 2 ^ 0) (b % 2 ^ 0) = 0 := by
      apply Nat.eq_of_testBit_eq
      intro i
      rw [hop]
      simp [Nat.mod_one, hff]
    rw [e]; rfl
  | succ j ih =>
    have ih := ih (by omega)
    have hpos : 0 < 2 ^ j := Nat.pow_pos (by omega)
    have hp : 2 ^ j ≤ 2147483648 := Nat.pow_le_pow_right (j := 31) (by omega) (by omega)
    have hlt : op (a % 2 ^ j) (b % 2 ^ j) < 2 ^ j := by
      apply Nat.lt_pow_two_of_testBit
      intro i hi
      rw [hop]
      have e1 : (a % 2 ^ j).testBit i = false := Nat.testBit_lt_two_pow (Nat.lt_of_lt_of_le (Nat.mod_lt _ hpos) (Nat.pow_le_pow_right (by omega) hi))
      have e2 : (b % 2 ^ j).testBit i = false := Nat.testBit_lt_two_pow (Nat.lt_of_lt_of_le (Nat.mod_lt _ hpos) (Nat.pow_le_pow_right (by omega) hi))
      rw [e1, e2, hff]
    obtain ⟨r, hr, hrv⟩ : ∃ r : Nat, r ≤ 1 ∧ (rd [t0, t1, t2, t3] ((2 * bitv a j + bitv b j : Nat) : Int) = (r : Int) ∧ (decide (r = 1)) = opb (a.testBit j) (b.testBit j)) := by
      have ha : a.testBit j = decide (bitv a j = 1) := by
        unfold bitv; rw [Nat.testBit_eq_decide_div_mod_eq, show j % 32 = j by omega]
      have hb : b.testBit j = decide (bitv b j = 1) := by
        unfold bitv; rw [Nat.testBit_eq_decide_div_mod_eq, show j % 32 = j by omega]
      rw [ha, hb]
      rcases bitv_01 a j with ea | ea <;> rcases bitv_01 b j with eb | eb <;> rw [ea, eb]
      · exact ⟨0, by omega, by simp [rd, h0], by simp [hff]⟩
      · cases hx : opb false true with
        | false => exact ⟨0, by omega, by simp [rd, h1, hx], by simp [hx]⟩
        | true => exact ⟨1, by omega, by simp [rd, h1, hx], by simp [hx]⟩
      · cases hx : opb true false with
        | false => exact ⟨0, by omega, by simp [rd, h2, hx], by simp [hx]⟩
        | true => exact ⟨1, by omega, by simp [rd, h2, hx], by simp [hx]⟩
      · cases hx : opb true true with
        | false => exact ⟨0, by omega, by simp [rd, h3, hx], by simp [hx]⟩
        | true => exact ⟨1, by omega, by simp [rd, h3, hx], by simp [hx]⟩
    have key : op (a % 2 ^ (j + 1)) (b % 2 ^ (j + 1)) = 2 ^ j * r + op (a % 2 ^ j) (b % 2 ^ j) := by
      apply Nat.eq_of_testBit_eq
      intro i
      rw [hop, Nat.testBit_two_pow_mul_add _ hlt]
      simp only [Nat.testBit_mod_two_pow]
      by_cases hi : i < j
      · rw [if_pos hi, hop]
        simp only [Nat.testBit_mod_two_pow, hi, show i < j + 1 by omega]
      · rw [if_neg hi]
        by_cases he : i = j
        · subst he
          simp only [Nat.lt_succ_self, decide_true, Bool.true_and, Nat.sub_self]
          rw [← hrv.2]
          have : r = 0 ∨ r = 1 := by omega
          rcases this with rfl | rfl <;> rfl
        · have h1 : ¬ i < j + 1 := by omega
          simp only [h1, decide_false, Bool.false_and, hff]
          symm
          apply Nat.testBit_lt_two_pow
          calc r < 2 ^ 1 := by omega
            _ ≤ 2 ^ (i - j) := Nat.pow_le_pow_right (by omega) (by omega)
    simp only [bsum]
    rw [ih, hrv.1, key]
    generalize op (a % 2 ^ j) (b % 2 ^ j) = S at *
    generalize 2 ^ j = p at *
    have h5 : p * r ≤ p := by
      have : r = 0 ∨ r = 1 := by omega
      rcases this with rfl | rfl <;> omega
    have h6 : (r : Int) * (p : Int) = ((p * r : Nat) : Int) := by rw [Nat.mul_comm]; exact (Int.natCast_mul r p).symm
    rw [h6]
    generalize p * r = q at *
    omega

theorem bsum_or (a b : Nat) (ha : a < 4294967296) (hb : b < 4294967296) : bsum a b [0, 1, 1, 1] 32 = ((a ||| b : Nat) : Int) := by
  rw [bsum_step a b 0 1 1 1 (· ||| ·) (· || ·) (fun x y i => Nat.testBit_or x y i) rfl rfl rfl rfl rfl 32 (by omega)]
  rw [Nat.mod_eq_of_lt (by omega), Nat.mod_eq_of_lt (by omega)]
theorem bsum_and (a b : Nat) (ha : a < 4294967296) (hb : b < 4294967296) : bsum a b [0, 0, 0, 1] 32 = ((a &&& b : Nat) : Int) := by
  rw [bsum_step a b 0 0 0 1 (· &&& ·) (· && ·) (fun x y i => Nat.testBit_and x y i) rfl rfl rfl rfl rfl 32 (by omega)]
  rw [Nat.mod_eq_of_lt (by omega), Nat.mod_eq_of_lt (by omega)]
theorem bsum_xor (a b : Nat) (ha : a < 4294967296) (hb : b < 4294967296) : bsum a b [0, 1, 1, 0] 32 = ((a ^^^ b : Nat) : Int) := by
  rw [bsum_step a b 0 1 1 0 (· ^^^ ·) (fun x y => x ^^ y) (fun x y i => Nat.testBit_xor x y i) rfl rfl rfl rfl rfl 32 (by omega)]
  rw [Nat.mod_eq_of_lt (by omega), Nat.mod_eq_of_lt (by omega)]
end Go.Proofs.Ytgfmeiddicodoaa.H
