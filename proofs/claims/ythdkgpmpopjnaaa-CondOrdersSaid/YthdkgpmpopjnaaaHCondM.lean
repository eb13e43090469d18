/-
Plain laws of a condition's text: it is read as the condition, and what is read has just this text.
-/
import Derived.Test.YthdkgpmpopjnaaaHCondR2
set_option linter.unusedVariables false
set_option linter.unusedSimpArgs false
namespace Go.Proofs.Ythdkgpmpopjnaaa.H
open Go.RowKit Go.Proofs.YthdkgpmpopjnaaaW.PrintWords

def TL (n : Nat) : List UInt8 := u8s (textL n)
def WL (k : Nat) : List UInt8 := (wordK k).data.toList
def CT (a k m v : Nat) : List UInt8 := [97, UInt8.ofNat (48 + a)] ++ 32 :: (TL m ++ 32 :: (WL k ++ 32 :: TL v))
theorem condText_list (a k m v : Nat) : (condText a k (m : Int) (v : Int)).data.toList = CT a k m v := by
  unfold condText CT TL WL textB digB
  simp [ByteArray.data_append, strOfNums_data, u8s]
theorem hexGo_no32 (l : List UInt8) : ∀ n v, hexGo l n = some v → (32 : UInt8) ∉ l := by
  induction l with
  | nil => intro n v _; simp
  | cons c l ih =>
    intro n v h hm
    unfold hexGo at h
    rcases List.mem_cons.1 hm with e | hm
    · subst e
      rw [show hexd (32 : UInt8).toNat = none by decide] at h
      simp at h
    · cases hd : hexd c.toNat with
      | none => rw [hd] at h; simp at h
      | some d => rw [hd] at h; exact ih _ _ h hm
theorem parse_no32 {l : List UInt8} {v : Nat} (h : parseL l = some v) : (32 : UInt8) ∉ l := by
  unfold parseL at h
  split at h
  · rename_i hh
    intro hm
    rw [← List.take_append_drop 2 l, hh.2.2.1] at hm
    rcases List.mem_append.1 hm with hm | hm
    · simp at hm
    · exact hexGo_no32 _ _ _ h hm
  · simp at h
theorem TL_no32 (n : Nat) (h : n < 18446744073709551616) : (32 : UInt8) ∉ TL n := parse_no32 (parse_text n h)
theorem cut_of (A R : List UInt8) (h : (32 : UInt8) ∉ A) : cutL (A ++ 32 :: R) = (A, R) := by
  induction A with
  | nil => simp [cutL]
  | cons c A ih =>
    have h1 : c ≠ 32 := fun e => h (e ▸ List.mem_cons_self)
    have := ih (fun hm => h (List.mem_cons_of_mem _ hm))
    simp [cutL, h1, this]
theorem cut_parts (l : List UInt8) : ((32 : UInt8) ∉ l ∧ cutL l = (l, [])) ∨ ∃ A R, l = A ++ 32 :: R ∧ (32 : UInt8) ∉ A ∧ cutL l = (A, R) := by
  induction l with
  | nil => exact .inl ⟨by simp, rfl⟩
  | cons c l ih =>
    by_cases hc : c = 32
    · subst hc
      exact .inr ⟨[], l, rfl, by simp, by simp [cutL]⟩
    · rcases ih with ⟨h1, h2⟩ | ⟨A, R, h1, h2, h3⟩
      · refine .inl ⟨fun hm => ?_, by simp [cutL, hc, h2]⟩
        rcases List.mem_cons.1 hm with e | hm
        · exact hc e.symm
        · exact h1 hm
      · refine .inr ⟨c :: A, R, by rw [h1]; rfl, fun hm => ?_, by simp [cutL, hc, h3]⟩
        rcases List.mem_cons.1 hm with e | hm
        · exact hc e.symm
        · exact h2 hm
theorem WL_no32 (k : Nat) (hk : k < 6) : (32 : UInt8) ∉ WL k := by
  rcases (by omega : k = 0 ∨ k = 1 ∨ k = 2 ∨ k = 3 ∨ k = 4 ∨ k = 5) with rfl | rfl | rfl | rfl | rfl | rfl <;> decide
theorem wordIdx_WL (k : Nat) (hk : k < 6) : wordIdx (WL k) = some k := by
  rcases (by omega : k = 0 ∨ k = 1 ∨ k = 2 ∨ k = 3 ∨ k = 4 ∨ k = 5) with rfl | rfl | rfl | rfl | rfl | rfl <;> decide
theorem wordIdx_some {l : List UInt8} {k : Nat} (h : wordIdx l = some k) : k < 6 ∧ l = WL k := by
  unfold wordIdx at h
  rw [List.find?_range_eq_some] at h
  exact ⟨by simpa using h.2.1, (by simpa using h.1 : (wordK k).data.toList = l).symm⟩
theorem wordIdx_nil : wordIdx [] = none := by decide
theorem arg_digit (a : Nat) (ha : a < 6) : argOf [97, UInt8.ofNat (48 + a)] = some a := by
  rcases (by omega : a = 0 ∨ a = 1 ∨ a = 2 ∨ a = 3 ∨ a = 4 ∨ a = 5) with rfl | rfl | rfl | rfl | rfl | rfl <;> rfl
theorem argOf_some {l : List UInt8} {a : Nat} (h : argOf l = some a) : a < 6 ∧ l = [97, UInt8.ofNat (48 + a)] := by
  unfold argOf at h
  split at h
  · rename_i x d
    split at h
    · rename_i hh
      have := Option.some.inj h
      subst this
      refine ⟨by omega, ?_⟩
      rw [show 48 + (d.toNat - 48) = d.toNat by omega, UInt8.ofNat_toNat]
      congr 1
      exact UInt8.toNat_inj.1 hh.1
    · simp at h
  · simp at h
theorem arg_no32 (a : Nat) (ha : a < 6) : (32 : UInt8) ∉ [97, UInt8.ofNat (48 + a)] := by
  rcases (by omega : a = 0 ∨ a = 1 ∨ a = 2 ∨ a = 3 ∨ a = 4 ∨ a = 5) with rfl | rfl | rfl | rfl | rfl | rfl <;> decide

theorem condParse_text (a k m v : Nat) (ha : a < 6) (hk : k < 6) (hm : m < 18446744073709551616) (hv : v < 18446744073709551616) : condParse (CT a k m v) = some (a, k, m, v) := by
  unfold condParse CT
  rw [cut_of _ _ (arg_no32 a ha), cut_of _ _ (TL_no32 m hm), cut_of _ _ (WL_no32 k hk)]
  unfold condOf
  rw [arg_digit a ha, wordIdx_WL k hk]
  unfold TL
  rw [parse_text m hm, parse_text v hv]
theorem condOf_some {A M C V : List UInt8} {x : Nat × Nat × Nat × Nat} (h : condOf A M C V = some x) : argOf A = some x.1 ∧ wordIdx C = some x.2.1 ∧ parseL M = some x.2.2.1 ∧ parseL V = some x.2.2.2 := by
  unfold condOf at h
  split at h
  · rename_i d x' y k h1 h2 h3 h4
    have := Option.some.inj h
    subst this
    exact ⟨h1, h4, h2, h3⟩
  · simp at h
theorem text_condParse {l : List UInt8} {a k m v : Nat} (h : condParse l = some (a, k, m, v)) : l = CT a k m v ∧ a < 6 ∧ k < 6 ∧ m < 18446744073709551616 ∧ v < 18446744073709551616 := by
  unfold condParse at h
  obtain ⟨h1, h2, h3, h4⟩ := condOf_some h
  obtain ⟨ha, e1⟩ := argOf_some h1
  obtain ⟨hk, e3⟩ := wordIdx_some h2
  have e2 := text_parse _ _ h3
  have e4 := text_parse _ _ h4
  have hm := parseL_lt h3
  have hv := parseL_lt h4
  refine ⟨?_, ha, hk, hm, hv⟩
  unfold CT TL
  rw [e2, e4, ← e1, ← e3]
  rcases cut_parts l with ⟨_, c1⟩ | ⟨A, R, l1, _, c1⟩
  · rw [c1] at h3; simp [cutL, parseL] at h3
  · rw [c1] at h2 h3 h4 ⊢
    rcases cut_parts R with ⟨_, c2⟩ | ⟨B, R2, l2, _, c2⟩
    · rw [c2] at h2; simp [cutL, wordIdx_nil] at h2
    · rw [c2] at h2 h4 ⊢
      rcases cut_parts R2 with ⟨_, c3⟩ | ⟨D, R3, l3, _, c3⟩
      · rw [c3] at h4; simp [cutL, parseL] at h4
      · rw [c3, l1, l2, l3]
end Go.Proofs.Ythdkgpmpopjnaaa.H
