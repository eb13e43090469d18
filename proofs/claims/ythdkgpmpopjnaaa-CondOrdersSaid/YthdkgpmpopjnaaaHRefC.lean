/-
What the reference's Text and Parse answer (hurdleref01), and that word.Parse answers the same.
-/
import Derived.Test.YthdkgpmpopjnaaaMx1
import Derived.Test.YthdkgpmpopjnaaaHDigits
import Derived.OpenShut
set_option linter.unusedVariables false
set_option linter.unusedSimpArgs false
namespace Go.Proofs.Ythdkgpmpopjnaaa.H
open Go.RowKit Go.Proofs.Ythdkgpmpopjnaaa.M Go.Proofs.YthdkgpmpopjnaaaW.PrintWords Go.Proofs.YthdkgpmpopjnaaaW.PrintMore

theorem word_text (n : Nat) (h : n < 18446744073709551616) : word_Text.f (n : Int) = some (strOfNums (textL n)) := by
  unfold word_Text.f
  rw [if_pos ⟨by omega, by omega⟩, Int.toNat_natCast, textGo_eq n h]

theorem str_append (a b : List Int) : strOfNums a ++ strOfNums b = strOfNums (a ++ b) := by
  apply ByteArray.ext
  apply Array.ext'
  simp [strOfNums, ByteArray.data_append]

theorem str_toList (l : List Int) : (strOfNums l).toList = u8s l := by
  rw [ByteArray.toList_eq]; exact strOfNums_data l
theorem str_data (l : List Int) : (strOfNums l).data.toList = u8s l := strOfNums_data l

theorem ref_digits (n : Nat) : ∀ k j, n < 16 ^ (j + 1) → j ≤ 15 → j < k → hurdleref01_digits.f k (n : Int) = some (strOfNums (hexL n)) := by
  induction n using Nat.strongRecOn with
  | ind n ih =>
    intro k j hn hj hk
    obtain ⟨k, rfl⟩ : ∃ m, k = m + 1 := ⟨k - 1, by omega⟩
    have h64 : n < 18446744073709551616 := by
      have : 16 ^ (j + 1) ≤ 16 ^ 16 := Nat.pow_le_pow_right (by omega) (by omega)
      have e : (16 : Nat) ^ 16 = 18446744073709551616 := by decide
      omega
    have hm : Int.tmod (n : Int) 16 = ((n % 16 : Nat) : Int) := by rw [Int.tmod_eq_emod_of_nonneg (by omega)]; omega
    have hd : IntKind.u64.wrap (Int.tdiv (n : Int) 16) = ((n / 16 : Nat) : Int) := by
      rw [show Int.tdiv (n : Int) 16 = ((n / 16 : Nat) : Int) from rfl, IntWalk.u64_in _ (by omega)]
    simp only [hurdleref01_digits.f, Option.bind_some]
    rw [hm, hd]
    have hdig : ∀ d : Nat, d < 16 → (if (d : Int) > 9 then ([(IntKind.u64.wrap (87 + (d : Int))) % 256] : List Int) else [(IntKind.u64.wrap (48 + (d : Int))) % 256]) = [((hexc d : Nat) : Int)] := by
      intro d hd
      unfold hexc
      split
      · rw [if_neg (by omega), IntWalk.u64_in _ (by omega)]; congr 1; omega
      · rw [if_pos (by omega), IntWalk.u64_in _ (by omega)]; congr 1; omega
    have h1 := hdig (n % 16) (by omega)
    have hsz : ∀ m : Nat, m < 16 ^ 16 → (strOfNums (hexL m)).size ≤ 16 := by
      intro m hm
      rw [strOfNums_size]; exact (hexL_length 15 m hm).2
    by_cases hl : n < 16
    · have hx : hexL n = [((hexc (n % 16) : Nat) : Int)] := by rw [hexL, if_pos hl, Nat.mod_eq_of_lt hl]
      rw [hx, ← h1]
      split
      · rw [if_pos (by omega)]
      · rw [if_pos (by omega)]
    · have hx : hexL n = hexL (n / 16) ++ [((hexc (n % 16) : Nat) : Int)] := by rw [hexL, if_neg hl]
      obtain ⟨j, rfl⟩ : ∃ i, j = i + 1 := ⟨j - 1, by
        cases j with
        | zero => simp at hn; omega
        | succ j => omega⟩
      have e2 : 16 ^ (j + 1 + 1) = 16 ^ (j + 1) * 16 := Nat.pow_succ ..
      have hi := ih (n / 16) (by omega) k j (by omega) (by omega) (by omega)
      have hs := hsz (n / 16) (by omega)
      rw [hx, ← h1, hi]
      simp only [Option.bind_some]
      split
      · rw [if_neg (by omega), if_pos (by rw [strOfNums_size] at hs ⊢; rw [strOfNums_size]; simp; omega), str_append]
      · rw [if_neg (by omega), if_pos (by rw [strOfNums_size] at hs ⊢; rw [strOfNums_size]; simp; omega), str_append]

theorem ref_text (n k : Nat) (h : n < 18446744073709551616) (hk : 15 < k) : hurdleref01_Text.f k (n : Int) = some (strOfNums (textL n)) := by
  unfold hurdleref01_Text.f
  rw [ref_digits n k 15 (by omega) (by omega) hk]
  simp only [Option.bind_some]
  have hs := (hexL_length 15 n (by omega)).2
  rw [if_pos (by rw [strOfNums_size]; omega)]
  rw [show (⟨#[48, 120]⟩ : ByteArray) = strOfNums [48, 120] from rfl, str_append]
  rfl

/-- The number that the reference makes of whatever digits. -/
def refStep (n : Nat) (c : UInt8) : Nat := (n * 16 + if 97 ≤ c.toNat then (c.toNat + 18446744073709551616 - 87) else (c.toNat + 18446744073709551616 - 48)) % 18446744073709551616
def refN (l : List UInt8) (n : Nat) : Nat := l.foldl refStep n

theorem refStep_digit (n d : Nat) (c : UInt8) (h : hexd c.toNat = some d) : refStep n c = (n * 16 + d) % 18446744073709551616 := by
  unfold hexd at h
  unfold refStep
  split at h
  · have := Option.some.inj h
    rw [if_neg (by omega)]; omega
  · split at h
    · have := Option.some.inj h
      rw [if_pos (by omega)]; omega
    · cases h
theorem refN_go (l : List UInt8) : ∀ n v, hexGo l n = some v → refN l n = v := by
  induction l with
  | nil => intro n v h; exact Option.some.inj h
  | cons c l ih =>
    intro n v h
    simp only [hexGo] at h
    cases hd : hexd c.toNat with
    | none => rw [hd] at h; cases h
    | some d =>
      rw [hd] at h
      show refN l (refStep n c) = v
      rw [refStep_digit n d c hd]
      exact ih _ _ h
theorem refN_lt (l : List UInt8) : ∀ n, n < 18446744073709551616 → refN l n < 18446744073709551616 := by
  induction l with
  | nil => intro n h; exact h
  | cons c l ih => intro n h; exact ih _ (Nat.mod_lt _ (by omega))

theorem bt_drop (s : ByteArray) (i : Nat) (h : i < s.size) : ∃ c : UInt8, bt s (i : Int) = (c.toNat : Int) ∧ s.data.toList.drop i = c :: s.data.toList.drop (i + 1) := by
  refine ⟨s[i], ?_, toList_get s i h⟩
  unfold bt
  rw [dif_pos (by simpa using h)]
  rfl

def refRes (s : ByteArray) (n : Nat) : Option (Int × Bool) := if u8s (textL n) = s.data.toList then some ((n : Int), true) else some (0, false)

theorem ref_parse_l0 (s : ByteArray) (hs : s.size ≤ 18) (d : Nat) : ∀ (k i n : Nat), i + d = s.size → n < 18446744073709551616 → d + 16 < k →
    hurdleref01_Parse.l0 k s (n : Int) (i : Int) = refRes s (refN (s.data.toList.drop i) n) := by
  induction d with
  | zero =>
    intro k i n hi hn hk
    obtain ⟨k, rfl⟩ : ∃ m, k = m + 1 := ⟨k - 1, by omega⟩
    simp only [hurdleref01_Parse.l0]
    rw [if_neg (by omega), ref_text n k hn (by omega)]
    simp only [Option.bind_some]
    rw [List.drop_eq_nil_of_le (by have : s.data.toList.length = s.size := by simp
                                   omega)]
    unfold refRes refN
    rw [str_toList, ByteArray.toList_eq]
    rfl
  | succ d ih =>
    intro k i n hi hn hk
    obtain ⟨k, rfl⟩ : ∃ m, k = m + 1 := ⟨k - 1, by omega⟩
    obtain ⟨c, hc, hd⟩ := bt_drop s i (by omega)
    have hc2 := c.toNat_lt
    simp only [hurdleref01_Parse.l0]
    rw [if_pos (by omega), if_pos (by omega), hc, hd]
    have hw : wrap64 ((i : Int) + 1) = ((i + 1 : Nat) : Int) := by unfold wrap64; omega
    rw [hw]
    have hst : refN (c :: s.data.toList.drop (i + 1)) n = refN (s.data.toList.drop (i + 1)) (refStep n c) := rfl
    rw [hst]
    have h64 : IntKind.u64.wrap (c.toNat : Int) = (c.toNat : Int) := IntWalk.u64_in _ (by omega)
    have hr : refStep n c < 18446744073709551616 := Nat.mod_lt _ (by omega)
    rw [h64]
    by_cases h97 : (c.toNat : Int) ≥ 97
    · rw [if_pos h97]
      have e : IntKind.u64.wrap (IntKind.u64.wrap ((n : Int) * 16) + IntKind.u64.wrap ((c.toNat : Int) - 87)) = ((refStep n c : Nat) : Int) := by
        unfold refStep
        rw [if_pos (by omega), IntKind.wrap_u64, IntKind.wrap_u64, IntKind.wrap_u64]
        omega
      rw [e]
      exact ih k (i + 1) _ (by omega) hr (by omega)
    · rw [if_neg h97]
      have e : IntKind.u64.wrap (IntKind.u64.wrap ((n : Int) * 16) + IntKind.u64.wrap ((c.toNat : Int) - 48)) = ((refStep n c : Nat) : Int) := by
        unfold refStep
        rw [if_neg (by omega), IntKind.wrap_u64, IntKind.wrap_u64, IntKind.wrap_u64]
        omega
      rw [e]
      exact ih k (i + 1) _ (by omega) hr (by omega)

/-- The reference's Parse answers as word.Parse does. -/
theorem ref_parse (s : ByteArray) (k : Nat) (hk : 60 ≤ k) :
    hurdleref01_Parse.f k s = some (match parseL s.data.toList with | some n => ((n : Int), true) | none => (0, false)) := by
  unfold hurdleref01_Parse.f
  obtain ⟨k, rfl⟩ : ∃ m, k = m + 1 := ⟨k - 1, by omega⟩
  by_cases h3 : (s.size : Int) < 3
  · rw [if_pos h3, parse_short (by omega)]
    rfl
  · rw [if_neg h3]
    by_cases h18 : (s.size : Int) > 18
    · rw [decide_eq_true h18, parse_short (by omega)]
      rfl
    · rw [decide_eq_false h18]
      show hurdleref01_Parse.l0 k s 0 2 = _
      have := ref_parse_l0 s (by omega) (s.size - 2) k 2 0 (by omega) (by omega) (by omega)
      rw [show ((0 : Int)) = ((0 : Nat) : Int) from rfl, show ((2 : Int)) = ((2 : Nat) : Int) from rfl, this]
      have hlt := refN_lt (s.data.toList.drop 2) 0 (by omega)
      unfold refRes
      cases hp : parseL s.data.toList with
      | some v =>
        have ht := text_parse _ _ hp
        have hg : hexGo (s.data.toList.drop 2) 0 = some v := by
          unfold parseL at hp
          split at hp
          · exact hp
          · cases hp
        rw [refN_go _ _ _ hg, if_pos ht]
      | none =>
        rw [if_neg]
        · rfl
        · intro he
          have := parse_text _ hlt
          rw [he, hp] at this
          cases this
end Go.Proofs.Ythdkgpmpopjnaaa.H
