/-
The reference of data: low, number.
-/
import Derived.Test.YtgfmeiddicodoaaLDataBack
import Derived.Test.YtgfmeiddicodoaaDx1
set_option linter.unusedVariables false
set_option linter.unusedSimpArgs false
namespace Go.Proofs.Ytgfmeiddicodoaa.H
open Go.RowKit Go.Proofs.YtgfmeiddicodoaaW.PrintWords

/-- A number in so many bytes, the lowest one first. -/
def lowL (v : Int) : Nat → List Int
  | 0 => []
  | n + 1 => v % 256 :: lowL (v / 256) n
theorem lowL_length (n : Nat) : ∀ v, (lowL v n).length = n := by
  induction n with
  | zero => intro v; rfl
  | succ n ih => intro v; simp [lowL, ih]
theorem low_l0 (m : Nat) (hm : m ≤ 100) : ∀ (d k i : Nat) (v : Int) (xs : List Int), 0 ≤ v → v < 18446744073709551616 → i + d = m → d < k → xs.length = i →
    D.hurdleref04_low.l0 k v (m : Int) xs (i : Int) = some (xs ++ lowL v d) := by
  intro d
  induction d with
  | zero =>
    intro k i v xs h0 h1 hi hk hx
    obtain ⟨k, rfl⟩ : ∃ m, k = m + 1 := ⟨k - 1, by omega⟩
    simp only [D.hurdleref04_low.l0]
    rw [if_neg (by omega)]
    simp [lowL]
  | succ d ih =>
    intro k i v xs h0 h1 hi hk hx
    obtain ⟨k, rfl⟩ : ∃ m, k = m + 1 := ⟨k - 1, by omega⟩
    simp only [D.hurdleref04_low.l0]
    obtain ⟨n, rfl⟩ := Int.eq_ofNat_of_zero_le h0
    have e1 : Int.tmod (n : Int) 256 = ((n % 256 : Nat) : Int) := rfl
    have e2 : Int.tdiv (n : Int) 256 = ((n / 256 : Nat) : Int) := rfl
    have e3 : wrap64 ((i : Int) + 1) = ((i + 1 : Nat) : Int) := by unfold wrap64; omega
    rw [if_pos (by omega), if_pos (by omega), e1, e2, e3, IntWalk.u64_in _ (by omega), ih k (i + 1) _ _ (by omega) (by omega) (by omega) (by omega) (by simp [hx])]
    have e4 : ((n % 256 : Nat) : Int) % 256 = (n : Int) % 256 := by omega
    have e5 : ((n / 256 : Nat) : Int) = (n : Int) / 256 := by omega
    rw [e4, e5, List.append_assoc]
    rfl
theorem RLow_walk (v : Int) (h0 : 0 ≤ v ∧ v < 18446744073709551616) (n : Nat) (hn : n ≤ 100) (w : World) :
    Calls Try.prog 43 #[.int .u64 v, .int .i64 (n : Int)] w fun e w' => ∃ x, e = .returned x ∧ w'.ownsRow w.heap.size 5 1 x n (nums .u8 (lowL v n)) ∧ Below w.heap.size w w' := by
  have hf : D.hurdleref04_low.f 200 v (n : Int) = some (lowL v n) := by
    unfold D.hurdleref04_low.f
    simpa using low_l0 n hn n 200 0 v [] h0.1 h0.2 (by omega) (by omega) rfl
  refine (D.hurdleref04_low.calls 200 v (n : Int) _ w hf).mono ?_
  rintro e w' ⟨x, rfl, hR, hb⟩
  have ho := Kd.own_of_R hR
  rw [lowL_length] at ho
  exact ⟨x, rfl, ho, hb⟩
/-- The number of bytes. -/
def numL : List Int → Int
  | [] => 0
  | b :: l => b + 256 * numL l
theorem numL_bound (l : List Int) (h : ∀ x ∈ l, 0 ≤ x ∧ x < 256) : 0 ≤ numL l ∧ numL l < 256 ^ l.length := by
  induction l with
  | nil => simp [numL]
  | cons b l ih =>
    have h1 := h b List.mem_cons_self
    have h2 := ih (fun x hx => h x (List.mem_cons_of_mem _ hx))
    simp only [numL, List.length_cons, Int.pow_succ]
    omega
theorem num_l0 (L : List Int) (hL : L.length ≤ 8) (hb : ∀ x ∈ L, 0 ≤ x ∧ x < 256) : ∀ (j k : Nat), j ≤ L.length → j < k →
    D.hurdleref04_number.l0 k L (numL (L.drop j)) ((j : Int) - 1) = some (numL L) := by
  intro j
  induction j with
  | zero =>
    intro k hj hk
    obtain ⟨k, rfl⟩ : ∃ m, k = m + 1 := ⟨k - 1, by omega⟩
    simp only [D.hurdleref04_number.l0]
    rw [if_neg (by omega), List.drop_zero]
  | succ j ih =>
    intro k hj hk
    obtain ⟨k, rfl⟩ : ∃ m, k = m + 1 := ⟨k - 1, by omega⟩
    have e0 : ((j + 1 : Nat) : Int) - 1 = (j : Int) := by omega
    rw [e0]
    simp only [D.hurdleref04_number.l0]
    have hd := List.drop_eq_getElem_cons (show j < L.length by omega)
    have hx : rd L (j : Int) = L[j]'(by omega) := by
      unfold rd
      simp [List.getD_eq_getElem?_getD, List.getElem?_eq_getElem (show j < L.length by omega)]
    have hxb := hb _ (List.getElem_mem (show j < L.length by omega))
    have hn := numL_bound (L.drop (j + 1)) (fun x hx => hb x (List.mem_of_mem_drop hx))
    have hp : (256 : Int) ^ (L.drop (j + 1)).length ≤ 256 ^ 7 := by
      have h1 : (L.drop (j + 1)).length ≤ 7 := by rw [List.length_drop]; omega
      generalize (L.drop (j + 1)).length = q at *
      rcases (by omega : q = 0 ∨ q = 1 ∨ q = 2 ∨ q = 3 ∨ q = 4 ∨ q = 5 ∨ q = 6 ∨ q = 7) with rfl | rfl | rfl | rfl | rfl | rfl | rfl | rfl <;> decide
    have e7 : (256 : Int) ^ 7 = 72057594037927936 := by decide
    rw [e7] at hp
    generalize 256 ^ (L.drop (j + 1)).length = q at *
    have g := ih k (by omega) (by omega)
    rw [hd] at g
    simp only [numL] at g
    rw [if_pos (by omega), if_pos (by omega), if_pos (by omega), hx]
    generalize L[j]'(by omega) = b at *
    generalize numL (L.drop (j + 1)) = z at *
    have e1 : wrap64 ((j : Int) - 1) = (j : Int) - 1 := by unfold wrap64; omega
    rw [e1, IntWalk.u64_in (z * 256) (by omega), IntWalk.u64_in b (by omega), IntWalk.u64_in (z * 256 + b) (by omega), show z * 256 + b = b + 256 * z by omega]
    exact g
theorem RNumber_walk (A : Option Addr) (c : Nat) (L : List Int) (w : World) (hr : ReadsInt w .u8 A L.length L) (hc : L.length ≤ c) (hL : L.length ≤ 8) (hb : ∀ x ∈ L, 0 ≤ x ∧ x < 256) :
    Calls Try.prog 41 #[.slice A L.length c] w fun e w' => e = .returned (.int .u64 (numL L)) ∧ Below w.heap.size w w' := by
  have hf : D.hurdleref04_number.f 100 L = some (numL L) := by
    unfold D.hurdleref04_number.f
    have g := num_l0 L hL hb L.length 100 (by omega) (by omega)
    rw [List.drop_length] at g
    have e1 : wrap64 ((L.length : Int) - 1) = (L.length : Int) - 1 := by unfold wrap64; omega
    rw [e1]
    exact g
  refine (D.hurdleref04_number.calls 100 A c L _ w (Kd.C_of_reads (d := (0 : Int)) (readsInt_of.1 hr)) hc hf).mono ?_
  exact fun e w' ⟨h1, h2⟩ => ⟨h1, h2.below⟩
end Go.Proofs.Ytgfmeiddicodoaa.H
