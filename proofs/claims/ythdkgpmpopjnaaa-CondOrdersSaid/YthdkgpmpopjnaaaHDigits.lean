/-
Plain laws on hexadecimal texts: a number's digits are read as it, and what is read has just these digits.
-/
import Derived.Test.YthdkgpmpopjnaaaHText
set_option linter.unusedVariables false
set_option linter.unusedSimpArgs false
namespace Go.Proofs.Ythdkgpmpopjnaaa.H
open Go.RowKit

/-- A number's digits. -/
def hexL (n : Nat) : List Int := if n < 16 then [((hexc n : Nat) : Int)] else hexL (n / 16) ++ [((hexc (n % 16) : Nat) : Int)]
termination_by n
decreasing_by omega

def pad (n : Nat) : Nat → List Int
  | 0 => []
  | j + 1 => ((hexc (n / 16 ^ j % 16) : Nat) : Int) :: pad n j

theorem pad_snoc (j : Nat) : ∀ n, pad n (j + 1) = pad (n / 16) j ++ [((hexc (n % 16) : Nat) : Int)] := by
  induction j with
  | zero => intro n; simp [pad]
  | succ j ih =>
    intro n
    rw [pad, ih n]
    rw [pad]
    rw [Nat.div_div_eq_div_mul, show 16 * 16 ^ j = 16 ^ (j + 1) by rw [Nat.pow_succ, Nat.mul_comm]]
    rfl

theorem hexL_pad (j : Nat) : ∀ n, 16 ^ j ≤ n → n < 16 ^ (j + 1) → hexL n = pad n (j + 1) := by
  induction j with
  | zero =>
    intro n h1 h2
    rw [hexL, if_pos (by omega)]
    simp [pad]
    rw [Nat.mod_eq_of_lt (by omega)]
  | succ j ih =>
    intro n h1 h2
    have e1 : 16 ^ (j + 1) = 16 ^ j * 16 := Nat.pow_succ ..
    have e2 : 16 ^ (j + 1 + 1) = 16 ^ (j + 1) * 16 := Nat.pow_succ ..
    have h3 : 1 ≤ 16 ^ j := Nat.one_le_pow _ _ (by omega)
    rw [hexL, if_neg (by omega), pad_snoc]
    rw [ih (n / 16) (by omega) (by omega)]

theorem textGo_true (n j : Nat) : ∀ acc, textGo n j true acc = acc ++ pad n j := by
  induction j with
  | zero => intro acc; simp [textGo, pad]
  | succ j ih => intro acc; simp [textGo, pad, ih]

theorem textGo_false (j : Nat) : ∀ n acc, n < 16 ^ (j + 1) → textGo n (j + 1) false acc = acc ++ hexL n := by
  induction j with
  | zero =>
    intro n acc h
    rw [textGo, if_pos (by simp), textGo_true]
    rw [hexL, if_pos (by omega)]
    simp [pad]
    rw [Nat.mod_eq_of_lt (by omega)]
  | succ j ih =>
    intro n acc h
    have e2 : 16 ^ (j + 1 + 1) = 16 ^ (j + 1) * 16 := Nat.pow_succ ..
    by_cases hd : 0 < n / 16 ^ (j + 1) % 16
    · rw [textGo, if_pos (by simp [hd]), textGo_true]
      rw [hexL_pad (j + 1) n _ h]
      · simp [pad]
      · rcases Nat.lt_or_ge n (16 ^ (j + 1)) with hl | hl
        · rw [Nat.div_eq_of_lt hl] at hd; omega
        · exact hl
    · rw [textGo, if_neg (by simp; omega)]
      refine ih n acc ?_
      rcases Nat.lt_or_ge n (16 ^ (j + 1)) with hl | hl
      · exact hl
      · have h1 : n / 16 ^ (j + 1) < 16 := (Nat.div_lt_iff_lt_mul (Nat.pow_pos (by omega)) ).2 (by omega)
        have h2 : 1 ≤ n / 16 ^ (j + 1) := (Nat.le_div_iff_mul_le (Nat.pow_pos (by omega))).2 (by omega)
        omega

/-- The bytes of a number's text. -/
def textL (n : Nat) : List Int := 48 :: 120 :: hexL n
theorem textGo_eq (n : Nat) (h : n < 18446744073709551616) : textGo n 16 false [48, 120] = textL n := by
  rw [textGo_false 15 n _ (by omega)]; rfl

def u8s (l : List Int) : List UInt8 := l.map fun x => UInt8.ofNat x.toNat
theorem u8s_append (a b : List Int) : u8s (a ++ b) = u8s a ++ u8s b := by simp [u8s]

theorem hexc_lt (d : Nat) (h : d < 16) : hexc d < 256 := by unfold hexc; split <;> omega
theorem hexd_hexc (d : Nat) (h : d < 16) : hexd (hexc d) = some d := by
  unfold hexc hexd
  split
  · rw [if_pos (by omega)]; congr 1; omega
  · rw [if_neg (by omega), if_pos (by omega)]; congr 1; omega
theorem hexc_hexd (c d : Nat) (h : hexd c = some d) : hexc d = c := by
  unfold hexd at h
  split at h
  · have := Option.some.inj h; unfold hexc; rw [if_pos (by omega)]; omega
  · split at h
    · have := Option.some.inj h; unfold hexc; rw [if_neg (by omega)]; omega
    · cases h

theorem hexGo_append (a : List UInt8) : ∀ b n, hexGo (a ++ b) n = (hexGo a n).bind (hexGo b) := by
  induction a with
  | nil => intro b n; rfl
  | cons c a ih =>
    intro b n
    simp only [List.cons_append, hexGo]
    cases hexd c.toNat with
    | none => rfl
    | some d => exact ih _ _

theorem hexGo_hexL (n : Nat) (h : n < 18446744073709551616) : hexGo (u8s (hexL n)) 0 = some n := by
  induction n using Nat.strongRecOn with
  | ind n ih =>
    rw [hexL]
    split
    · rename_i hl
      have hc := hexc_lt n hl
      simp [u8s, hexGo, Nat.mod_eq_of_lt hc, hexd_hexc n hl]
      omega
    · rename_i hl
      have hc := hexc_lt (n % 16) (by omega)
      rw [u8s_append, hexGo_append, ih (n / 16) (by omega) (by omega)]
      simp [u8s, hexGo, Nat.mod_eq_of_lt hc, hexd_hexc (n % 16) (by omega)]
      omega

theorem hexL_length (j : Nat) : ∀ n, n < 16 ^ (j + 1) → 1 ≤ (hexL n).length ∧ (hexL n).length ≤ j + 1 := by
  induction j with
  | zero => intro n h; rw [hexL, if_pos (by omega)]; simp
  | succ j ih =>
    intro n h
    have e2 : 16 ^ (j + 1 + 1) = 16 ^ (j + 1) * 16 := Nat.pow_succ ..
    rw [hexL]
    split
    · simp
    · have := ih (n / 16) (by omega)
      simp; omega

theorem hexL_head (n : Nat) : (hexL n).head? ≠ some 48 ∨ n = 0 := by
  induction n using Nat.strongRecOn with
  | ind n ih =>
    rw [hexL]
    split
    · rename_i hl
      by_cases h0 : n = 0
      · exact .inr h0
      · left
        simp [hexc]; split <;> omega
    · rename_i hl
      rcases ih (n / 16) (by omega) with h | h
      · left
        cases hx : hexL (n / 16) with
        | nil => rw [hexL] at hx; split at hx <;> simp at hx
        | cons a l => rw [hx] at h; simpa using h
      · omega

theorem byte_inj {x : Int} (h0 : 0 ≤ x) (h : x < 256) {c : UInt8} (e : UInt8.ofNat x.toNat = c) : x = (c.toNat : Int) := by
  subst e
  simp
  omega

theorem hexL_bytes (n : Nat) : ∀ x ∈ hexL n, 0 ≤ x ∧ x < 256 := by
  induction n using Nat.strongRecOn with
  | ind n ih =>
    rw [hexL]
    split
    · rename_i hl
      intro x hx
      have := hexc_lt n hl
      simp at hx; subst hx; omega
    · intro x hx
      rw [List.mem_append] at hx
      rcases hx with hx | hx
      · exact ih (n / 16) (by omega) x hx
      · have := hexc_lt (n % 16) (by omega)
        simp at hx; subst hx; omega

/-- L1: a number's text is read as it. -/
theorem parse_text (n : Nat) (h : n < 18446744073709551616) : parseL (u8s (textL n)) = some n := by
  have hl := hexL_length 15 n (by omega)
  have hlen : (u8s (hexL n)).length = (hexL n).length := by simp [u8s]
  unfold parseL
  rw [if_pos]
  · exact hexGo_hexL n h
  · refine ⟨by simp [u8s, textL]; omega, by simp [u8s, textL]; omega, rfl, ?_⟩
    rintro ⟨h1, h2⟩
    have h3 : 1 < (hexL n).length := by simp [u8s, textL] at h2; omega
    rcases hexL_head n with hh | hh
    · cases hx : hexL n with
      | nil => rw [hx] at h3; simp at h3
      | cons a l =>
        rw [hx] at hh
        simp [u8s, textL, hx] at h1
        have hb := hexL_bytes n a (by rw [hx]; simp)
        have := byte_inj hb.1 hb.2 h1
        apply hh
        simp [this]
    · subst hh
      rw [hexL, if_pos (by omega)] at h3
      simp at h3

theorem snoc_rec {α : Type} {P : List α → Prop} (h0 : P []) (h1 : ∀ l c, P l → P (l ++ [c])) (l : List α) : P l := by
  have : ∀ r : List α, P r.reverse := by
    intro r
    induction r with
    | nil => exact h0
    | cons c r ih => rw [List.reverse_cons]; exact h1 _ _ ih
  have h := this l.reverse
  rwa [List.reverse_reverse] at h

/-- Digits that are read have a number with just these digits. -/
theorem hexL_of_go (l : List UInt8) : ∀ v, l ≠ [] → l.length ≤ 16 → l.head? ≠ some 48 → hexGo l 0 = some v → 1 ≤ v ∧ v < 16 ^ l.length ∧ u8s (hexL v) = l := by
  induction l using snoc_rec with
  | h0 => intro v h; exact absurd rfl h
  | h1 l c ih =>
    intro v _ hl hh hg
    rw [hexGo_append] at hg
    by_cases hn : l = []
    · subst hn
      simp [hexGo] at hg hh ⊢
      cases hd : hexd c.toNat with
      | none => rw [hd] at hg; cases hg
      | some d =>
        rw [hd] at hg
        have h16 := hexd_lt hd
        have hc := hexc_hexd _ _ hd
        simp at hg
        have e : v = d := by omega
        subst e
        have h0 : v ≠ 0 := by
          rintro rfl
          apply hh
          apply UInt8.toNat_inj.mp
          rw [← hc]; rfl
        refine ⟨by omega, by omega, ?_⟩
        rw [hexL, if_pos h16]
        simp [u8s, hc]
    · cases hu : hexGo l 0 with
      | none => rw [hu] at hg; cases hg
      | some u =>
        rw [hu] at hg
        simp at hl
        obtain ⟨i1, i2, i3⟩ := ih u hn (by omega) (by cases l with | nil => exact absurd rfl hn | cons a l => simpa using hh) hu
        simp [hexGo] at hg
        cases hd : hexd c.toNat with
        | none => rw [hd] at hg; cases hg
        | some d =>
          rw [hd] at hg
          simp at hg
          have h16 := hexd_lt hd
          have hc := hexc_hexd _ _ hd
          have hp : 16 ^ l.length ≤ 16 ^ 15 := Nat.pow_le_pow_right (by omega) (by omega)
          have e16 : (16 : Nat) ^ 15 = 1152921504606846976 := by decide
          have e : v = u * 16 + d := by omega
          have e2 : 16 ^ (l.length + 1) = 16 ^ l.length * 16 := Nat.pow_succ ..
          refine ⟨by omega, by simp; omega, ?_⟩
          rw [hexL, if_neg (by omega), u8s_append, show v / 16 = u by omega, show v % 16 = d by omega, i3]
          simp [u8s, hc]

/-- L2: what is read has just this text. -/
theorem text_parse (l : List UInt8) (v : Nat) (h : parseL l = some v) : u8s (textL v) = l := by
  unfold parseL at h
  split at h
  · rename_i hc
    obtain ⟨h1, h2, h3, h4⟩ := hc
    match l, h1, h2, h3, h4, h with
    | a :: b :: c :: l, h1, h2, h3, h4, h =>
      simp at h3
      obtain ⟨rfl, rfl⟩ := h3
      simp at h1 h2 h4 h
      have ht : u8s (textL v) = 48 :: 120 :: u8s (hexL v) := rfl
      rw [ht]
      congr 2
      by_cases hz : c = 48
      · have hl : l = [] := by
          have := h4 hz
          cases l with
          | nil => rfl
          | cons x l => simp at this
        subst hl hz
        have e : hexGo [48] 0 = some 0 := rfl
        rw [e] at h
        have := Option.some.inj h
        subst this
        rw [hexL, if_pos (by omega)]
        rfl
      · exact (hexL_of_go (c :: l) v (by simp) (by simp; omega) (by simpa using hz) h).2.2
  · cases h

end Go.Proofs.Ythdkgpmpopjnaaa.H
