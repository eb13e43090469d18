/-
The reference of cond: masked, Right; the equality of conditions.
-/
import Derived.Test.YthdkgpmpopjnaaaHCondL
import Derived.Test.YthdkgpmpopjnaaaHOpenC
set_option linter.unusedVariables false
set_option linter.unusedSimpArgs false
namespace Go.Proofs.Ythdkgpmpopjnaaa.H
open Go.RowKit Go.Proofs.YthdkgpmpopjnaaaW.PrintWords

theorem tmod2 (x : Nat) : Int.tmod (x : Int) 2 = ((x % 2 : Nat) : Int) := rfl
theorem tdiv2 (x : Nat) : Int.tdiv (x : Int) 2 = ((x / 2 : Nat) : Int) := rfl
theorem and_bit (a b i : Nat) : (a &&& b) / 2 ^ i % 2 = if a / 2 ^ i % 2 = 1 ∧ b / 2 ^ i % 2 = 1 then 1 else 0 := by
  have h := Nat.testBit_and a b i
  rw [Nat.testBit_eq_decide_div_mod_eq, Nat.testBit_eq_decide_div_mod_eq, Nat.testBit_eq_decide_div_mod_eq] at h
  by_cases h1 : a / 2 ^ i % 2 = 1 ∧ b / 2 ^ i % 2 = 1
  · rw [if_pos h1]
    rw [decide_eq_true h1.1, decide_eq_true h1.2] at h
    exact of_decide_eq_true h
  · rw [if_neg h1]
    have : decide ((a &&& b) / 2 ^ i % 2 = 1) = false := by
      rw [h, Bool.eq_false_iff]
      intro hh
      rw [Bool.and_eq_true] at hh
      exact h1 ⟨of_decide_eq_true hh.1, of_decide_eq_true hh.2⟩
    have := of_decide_eq_false this
    omega
theorem masked_l0 (a b : Nat) (ha : a < 18446744073709551616) (hb : b < 18446744073709551616) : ∀ (d k i : Nat), i + d = 64 → d < k →
    M.hurdleref08_masked.l0 k ((a / 2 ^ i : Nat) : Int) ((b / 2 ^ i : Nat) : Int) (((a &&& b) % 2 ^ i : Nat) : Int) ((2 ^ i % 18446744073709551616 : Nat) : Int) (i : Int) = some ((a &&& b : Nat) : Int) := by
  intro d
  induction d with
  | zero =>
    intro k i hi hk
    obtain ⟨k, rfl⟩ : ∃ m, k = m + 1 := ⟨k - 1, by omega⟩
    obtain rfl : i = 64 := by omega
    simp only [M.hurdleref08_masked.l0]
    rw [if_neg (by omega), Nat.mod_eq_of_lt (Nat.lt_of_le_of_lt Nat.and_le_left ha)]
  | succ d ih =>
    intro k i hi hk
    obtain ⟨k, rfl⟩ : ∃ m, k = m + 1 := ⟨k - 1, by omega⟩
    have hpos : 0 < 2 ^ i := Nat.pow_pos (by omega)
    have hp : 2 ^ i ≤ 9223372036854775808 := Nat.le_trans (Nat.pow_le_pow_right (by omega) (show i ≤ 63 by omega)) (by decide)
    have hs : 2 ^ (i + 1) = 2 ^ i * 2 := Nat.pow_succ 2 i
    have hA : a / 2 ^ i ≤ a := Nat.div_le_self _ _
    have hB : b / 2 ^ i ≤ b := Nat.div_le_self _ _
    have hX : (a &&& b) % 2 ^ i < 2 ^ i := Nat.mod_lt _ hpos
    have eA : a / 2 ^ i / 2 = a / 2 ^ (i + 1) := by rw [Nat.div_div_eq_div_mul, hs]
    have eB : b / 2 ^ i / 2 = b / 2 ^ (i + 1) := by rw [Nat.div_div_eq_div_mul, hs]
    have eX : (a &&& b) % 2 ^ (i + 1) = (a &&& b) % 2 ^ i + 2 ^ i * ((a &&& b) / 2 ^ i % 2) := Nat.mod_pow_succ
    rw [and_bit] at eX
    have g := ih k (i + 1) (by omega) (by omega)
    simp only [M.hurdleref08_masked.l0]
    rw [if_pos (by omega), tmod2, tmod2, tdiv2, tdiv2, eA, eB]
    have hA' : a / 2 ^ (i + 1) ≤ a := Nat.div_le_self _ _
    have hB' : b / 2 ^ (i + 1) ≤ b := Nat.div_le_self _ _
    generalize a / 2 ^ (i + 1) = A1 at *
    generalize b / 2 ^ (i + 1) = B1 at *
    rw [IntWalk.u64_in (A1 : Int) (by omega), IntWalk.u64_in (B1 : Int) (by omega)]
    have eP : IntKind.u64.wrap (((2 ^ i % 18446744073709551616 : Nat) : Int) * 2) = ((2 ^ (i + 1) % 18446744073709551616 : Nat) : Int) := by
      rw [IntKind.wrap_u64, hs]; omega
    have eI : wrap64 ((i : Int) + 1) = ((i + 1 : Nat) : Int) := by unfold wrap64; omega
    rw [eP, eI]
    by_cases h1 : a / 2 ^ i % 2 = 1
    · rw [if_pos (by omega)]
      by_cases h2 : b / 2 ^ i % 2 = 1
      · rw [if_pos (by omega)]
        rw [if_pos ⟨h1, h2⟩, Nat.mul_one] at eX
        have eS : IntKind.u64.wrap (((((a &&& b) % 2 ^ i : Nat) : Int)) + ((2 ^ i % 18446744073709551616 : Nat) : Int)) = (((a &&& b) % 2 ^ (i + 1) : Nat) : Int) := by
          rw [IntKind.wrap_u64, eX]; omega
        rw [eS]
        exact g
      · rw [if_neg (by omega)]
        rw [if_neg (fun h => h2 h.2), Nat.mul_zero, Nat.add_zero] at eX
        rw [eX] at g
        exact g
    · rw [if_neg (by omega)]
      rw [if_neg (fun h => h1 h.1), Nat.mul_zero, Nat.add_zero] at eX
      rw [eX] at g
      exact g
theorem Masked_walk (x m : Int) (hx : u64P x) (hm : u64P m) : Gives Try.prog 38 #[.int .u64 x, .int .u64 m] (.int .u64 (bits .and .u64 x m)) := by
  intro w
  obtain ⟨a, rfl⟩ := Int.eq_ofNat_of_zero_le hx.1
  obtain ⟨b, rfl⟩ := Int.eq_ofNat_of_zero_le hm.1
  unfold u64P at hx hm
  have h := masked_l0 a b (by omega) (by omega) 64 70 0 (by omega) (by omega)
  have h2 : M.hurdleref08_masked.f 70 (a : Int) (b : Int) = some ((a &&& b : Nat) : Int) := by
    unfold M.hurdleref08_masked.f
    simpa [Nat.mod_one] using h
  rw [u64_and_nat a b (by omega) (by omega)]
  exact (M.hurdleref08_masked.calls 70 _ _ _ w h2).mono (fun e w' ⟨h1, h2⟩ => ⟨h1, h2.below⟩)
theorem RefRight_walk (a c m v : Int) : Gives Try.prog 15 #[CV a c m v] (.bool (rightB a c)) := by
  intro w
  refine C.hurdleref08_Right.calls a c m v _ w ?_
  unfold C.hurdleref08_Right.f
  have := rightB_iff a c
  cases h : rightB a c with
  | true =>
    rw [h] at this
    obtain ⟨h1, h2⟩ := this.1 rfl
    rw [if_pos (by omega), if_pos (by omega), if_pos (by omega)]
    exact congrArg some (decide_eq_true (by omega))
  | false =>
    rw [h] at this
    have hn : ¬ ((0 ≤ a ∧ a < 6) ∧ 0 ≤ c ∧ c ≤ 5) := fun hh => by have := this.2 hh; simp at this
    by_cases g1 : a ≥ 0
    · rw [if_pos g1]
      by_cases g2 : a ≤ 5
      · rw [if_pos g2]
        by_cases g3 : c ≥ 0
        · rw [if_pos g3]
          exact congrArg some (decide_eq_false (by omega))
        · rw [if_neg g3]
      · rw [if_neg g2]
    · rw [if_neg g1]
/-- The equality of conditions, as a name. -/
def eqCB (x0 x1 x2 x3 y0 y1 y2 y3 : Int) : Bool := x0 == y0 && (x1 == y1 && (x2 == y2 && (x3 == y3)))
theorem eqCn (w : World) (x0 x1 x2 x3 y0 y1 y2 y3 : Int) :
    (Op.equalIn 10000 24 (.agg #[.int .i64 x0, .int .i64 x1, .int .u64 x2, .int .u64 x3]) (.agg #[.int .i64 y0, .int .i64 y1, .int .u64 y2, .int .u64 y3])).run Try.prog w = .ok (eqCB x0 x1 x2 x3 y0 y1 y2 y3) w := C.eqA24 9998 w x0 y0 x1 y1 x2 y2 x3 y3
theorem eqCB_same (x0 x1 x2 x3 : Int) : eqCB x0 x1 x2 x3 x0 x1 x2 x3 = true := by simp [eqCB]
theorem info_data (nr ar ip : Int) (ags : List Int) (h : ags.length = 6) : (Try.prog.info? 28).map (·.size) = some (dataA nr ar ip ags).size := by
  rw [show (dataA nr ar ip ags).size = 9 by simp [dataA, nums, h]]; kernel_rfl
theorem not_right (arg cmp : Int) (h : rightB arg cmp = true) : rightB arg (notI cmp) = true ∧ notI (notI cmp) = cmp := by
  obtain ⟨j, k, rfl, rfl, hj, hk⟩ := right_nats h
  rw [rightB_iff]
  rcases (by omega : k = 0 ∨ k = 1 ∨ k = 2 ∨ k = 3 ∨ k = 4 ∨ k = 5) with rfl | rfl | rfl | rfl | rfl | rfl <;> (simp [notI, notK] <;> omega)
theorem cmp_not (k : Nat) (hk : k < 6) (a b : Int) : cmpB (notK k) a b = !cmpB k a b := by
  rcases (by omega : k = 0 ∨ k = 1 ∨ k = 2 ∨ k = 3 ∨ k = 4 ∨ k = 5) with rfl | rfl | rfl | rfl | rfl | rfl <;> simp [cmpB, notK, bne] <;> (try (rw [← decide_not]; congr 1; apply propext; omega))
end Go.Proofs.Ythdkgpmpopjnaaa.H
