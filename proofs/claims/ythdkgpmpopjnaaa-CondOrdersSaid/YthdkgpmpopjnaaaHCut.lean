/-
Package cond: cut; and what lies behind it: where a text's first space is.
-/
import Derived.Test.YthdkgpmpopjnaaaProg
import Derived.WalkKit
import Derived.WalkSpells
import Derived.WalkLawsBesides
import Derived.Handy
import Derived.Lib.Hide
import Derived.Laws.RangeString
import Derived.Laws.RangeAny
import Derived.Deep.QuietTactic
import Derived.BigQuiet
import Derived.Test.YthdkgpmpopjnaaaHParse
set_option linter.unusedVariables false
set_option linter.unusedSimpArgs false
namespace Go.Proofs.Ythdkgpmpopjnaaa.H
open Go.RowKit

/-- A text's first word, and what is behind the space. -/
def cutL : List UInt8 → List UInt8 × List UInt8
  | [] => ([], [])
  | c :: l => if c = 32 then ([], l) else (c :: (cutL l).1, (cutL l).2)
theorem cutL_at (l : List UInt8) : ∀ i, l[i]? = some 32 → (∀ j, j < i → l[j]? ≠ some 32) → cutL l = (l.take i, l.drop (i + 1)) := by
  induction l with
  | nil => intro i h; simp at h
  | cons c l ih =>
    intro i h hb
    cases i with
    | zero => simp at h; simp [cutL, h]
    | succ i =>
      have hc : ¬ c = 32 := by have := hb 0 (by omega); simpa using this
      have := ih i (by simpa using h) (fun j hj => by have := hb (j + 1) (by omega); simpa using this)
      simp [cutL, hc, this]
theorem cutL_none (l : List UInt8) : (∀ j : Nat, l[j]? ≠ some 32) → cutL l = (l, []) := by
  induction l with
  | nil => intro _; rfl
  | cons c l ih =>
    intro hb
    have hc : ¬ c = 32 := by have := hb 0; simpa using this
    have := ih (fun (j : Nat) => by have := hb (j + 1); simpa using this)
    simp [cutL, hc, this]
def ofBytes (l : List UInt8) : ByteArray := ⟨l.toArray⟩
theorem ba_eq {a b : ByteArray} (h : a.data.toList = b.data.toList) : a = b := by
  cases a; cases b; simp at h; rw [h]
theorem ofBytes_data (s : ByteArray) : ofBytes s.data.toList = s := ba_eq (by simp [ofBytes])
theorem ba_get (s : ByteArray) (j : Nat) (h : j < s.size) : s.data.toList[j]? = some (s[j]'h) := by
  have h' : j < s.data.toList.length := by simpa using h
  rw [List.getElem?_eq_getElem h']
  rfl
/-- A rune's further bytes are none below 128. -/
theorem decode_span (t : ByteArray) (pos : Nat) (h : pos < t.size) (ha : 128 ≤ (t[pos]'h).toNat) : 1 ≤ (Utf8.decode t pos).2 ∧ pos + (Utf8.decode t pos).2 ≤ t.size ∧ ∀ j (hj : j < t.size), pos ≤ j → j < pos + (Utf8.decode t pos).2 → 128 ≤ (t[j]'hj).toNat := by
  have g : ∀ k (hk : pos + k < t.size), (t[pos + k]'hk).toNat = (t.get! (pos + k)).toNat := fun k hk => by
    rw [show t.get! (pos + k) = t[pos + k]'hk from by
      show t.get! (pos + k) = _
      simp [ByteArray.get!, getElem!_pos, hk]
      rfl]
  have h0 : 128 ≤ (t.get! (pos + 0)).toNat := by rw [← g 0 h]; exact ha
  have key : ∀ n, 1 ≤ n → (∀ k, 1 ≤ k → k < n → pos + k < t.size ∧ 128 ≤ (t.get! (pos + k)).toNat) → 1 ≤ n ∧ pos + n ≤ t.size ∧ ∀ j (hj : j < t.size), pos ≤ j → j < pos + n → 128 ≤ (t[j]'hj).toNat := by
    intro n hn hk
    refine ⟨hn, ?_, fun j hj h1 h2 => ?_⟩
    · by_cases e : n = 1
      · omega
      · have := (hk (n - 1) (by omega) (by omega)).1; omega
    · obtain ⟨k, rfl⟩ : ∃ k, j = pos + k := ⟨j - pos, by omega⟩
      rw [g k hj]
      by_cases e : k = 0
      · subst e; exact h0
      · exact (hk k (by omega) (by omega)).2
  have hd : Utf8.decode t pos = Utf8.decode t pos := rfl
  simp only [Utf8.decode]
  have n0 : ¬ (t.get! (pos + 0)).toNat < 128 := by omega
  rw [if_neg n0]
  have c1 : ∀ k, (decide (pos + k < t.size) && (t.get! (pos + k)).toNat / 64 == 2) = true → pos + k < t.size ∧ 128 ≤ (t.get! (pos + k)).toNat := by
    intro k hk
    simp only [Bool.and_eq_true, decide_eq_true_eq, beq_iff_eq] at hk
    omega
  have one := key 1 (by omega) (fun k h1 h2 => by omega)
  split
  · rename_i h2
    simp only [Bool.and_eq_true] at h2
    have d1 := c1 1 (by simpa using h2.2)
    split
    · exact key 2 (by omega) (fun k h1 h2 => by
        have e : k = 1 := by omega
        subst e
        exact d1)
    · exact one
  · split
    · rename_i h2
      simp only [Bool.and_eq_true] at h2
      have d1 := c1 1 (by simpa using h2.1.2)
      have d2 := c1 2 (by simpa using h2.2)
      split
      · exact key 3 (by omega) (fun k h1 h2 => by
          rcases (by omega : k = 1 ∨ k = 2) with rfl | rfl
          · exact d1
          · exact d2)
      · exact one
    · split
      · rename_i h2
        simp only [Bool.and_eq_true] at h2
        have d1 := c1 1 (by simpa using h2.1.1.2)
        have d2 := c1 2 (by simpa using h2.1.2)
        have d3 := c1 3 (by simpa using h2.2)
        split
        · exact key 4 (by omega) (fun k h1 h2 => by
            rcases (by omega : k = 1 ∨ k = 2 ∨ k = 3) with rfl | rfl | rfl
            · exact d1
            · exact d2
            · exact d3)
        · exact one
      · exact one

/-- What a round of a loop over a text up to its first space hands on. -/
def CutRel (w : World) (t : ByteArray) (wr : World) : Prop := ∃ pos : Nat, wr = w.iter t pos ∧ pos ≤ t.size ∧ ∀ j (hj : j < t.size), j < pos → (t[j]'hj).toNat ≠ 32
theorem cut_found (t : ByteArray) (pos : Nat) (h : pos < t.size) (h32 : (t[pos]'h).toNat = 32) (hb : ∀ j (hj : j < t.size), j < pos → (t[j]'hj).toNat ≠ 32) :
    t.extract 0 pos = ofBytes (cutL t.data.toList).1 ∧ t.extract (pos + 1) t.size = ofBytes (cutL t.data.toList).2 := by
  have hc := cutL_at t.data.toList pos (by rw [ba_get t pos h]; congr 1; exact UInt8.toNat_inj.1 h32) (fun j hj => by
    rw [ba_get t j (by omega)]
    intro e
    injection e with e
    exact hb j (by omega) hj (by rw [e]; rfl))
  rw [hc]
  have hs : t.size = t.data.toList.length := by simp
  constructor
  · apply ba_eq
    simp [ofBytes, ByteArray.data_extract]
  · apply ba_eq
    simp [ofBytes, ByteArray.data_extract]
    rw [List.take_of_length_le (by rw [List.length_drop, ← hs]; omega)]
theorem cut_missed (t : ByteArray) (hb : ∀ j (hj : j < t.size), (t[j]'hj).toNat ≠ 32) : t = ofBytes (cutL t.data.toList).1 ∧ (⟨#[]⟩ : ByteArray) = ofBytes (cutL t.data.toList).2 := by
  have hc := cutL_none t.data.toList (fun j => by
    by_cases h : j < t.size
    · rw [ba_get t j h]
      intro e
      injection e with e
      exact hb j h (by rw [e]; rfl)
    · rw [List.getElem?_eq_none (by simp; omega)]
      simp)
  rw [hc]
  exact ⟨(ofBytes_data t).symm, rfl⟩

set_option maxHeartbeats 1000000 in
theorem cut_walk (s : ByteArray) (hsz : s.size ≤ 140737488351232) (w : World) :
    Calls Try.prog 40 #[.string s] w fun e w' => e = .returned (.tuple #[.string (ofBytes (cutL s.data.toList).1), .string (ofBytes (cutL s.data.toList).2)]) ∧ Below w.heap.size w w' := by
  obtain ⟨r1, hr1⟩ : ∃ r, ofBytes (cutL s.data.toList).1 = r := ⟨_, rfl⟩
  obtain ⟨r2, hr2⟩ : ∃ r, ofBytes (cutL s.data.toList).2 = r := ⟨_, rfl⟩
  have HF := Lib.hid (fun pos h h32 hb => hr1 ▸ hr2 ▸ cut_found s pos h h32 hb)
  have HM := Lib.hid (fun hb => hr1 ▸ hr2 ▸ cut_missed s hb)
  rw [hr1, hr2]
  clear hr1 hr2
  go_enter Try.func40, Try.ntmps40
  go_wp2_with fail
  go_loopw [4, 5] (fun _ _ wr => CutRel w s wr) (fun _ _ wr => s.size - wr.iterPos w.heap.size)
  case atStart => exact ⟨0, rfl, by omega, fun j hj h => by omega⟩
  case round =>
    obtain ⟨pos, rfl, hp, hbef⟩ := hrel
    have HBF := Lib.hid hbef
    clear hbef
    by_cases hlt : pos < s.size
    · by_cases ha : (s[pos]'hlt).toNat < 128
      · have hnx : ∀ ty, (Instr.next (.pointer (some ⟨w.heap.size, 0, none⟩)) true ty).run Try.prog (w.iter s pos) = _ := fun ty => run_next_ascii w s pos ty hlt ha
        obtain ⟨c, hc⟩ : ∃ c, (s[pos]'hlt).toNat = c := ⟨_, rfl⟩
        rw [hc] at hnx
        have HC := Lib.hid hc
        clear hc ha
        by_cases h32 : c = 32
        · subst h32
          have HF2 := Lib.hid (HF.out pos hlt HC.out HBF.out)
          have hpi : (0 : Int) ≤ (pos : Int) ∧ (pos : Int) ≤ (s.size : Int) ∧ (pos : Int) + 1 ≤ (s.size : Int) := by omega
          obtain ⟨hp1, hp2, hp3⟩ := hpi
          go_wp2_with fail
          go_quiet (fail)
          go_wp2_with fail
          go_ret2
          exact ⟨by rw [← HF2.out.1, ← HF2.out.2]; rfl, ⟨(iter_below w s (pos + 1)).os, (iter_below w s (pos + 1)).tape, (iter_below w s (pos + 1)).output, (iter_below w s (pos + 1)).size, (iter_below w s (pos + 1)).block⟩⟩
        · have h32' : ((c : Int) == 32) = false := by simp; omega
          go_wp2_with fail
          go_roundw
          case rel => exact ⟨pos + 1, rfl, by omega, fun j hj h => by
            by_cases e : j = pos
            · subst e; rw [HC.out]; exact h32
            · exact HBF.out j hj (by omega)⟩
          case measure => simp; omega
      · have hnx : ∀ ty, (Instr.next (.pointer (some ⟨w.heap.size, 0, none⟩)) true ty).run Try.prog (w.iter s pos) = _ := fun ty => run_next_any w s pos ty hlt
        have hb := decode_high s pos hlt (by omega)
        have hle := decode_le s pos
        have HS := Lib.hid (decode_span s pos hlt (by omega))
        clear ha
        generalize (Utf8.decode s pos).1 = c at *
        generalize (Utf8.decode s pos).2 = p2 at *
        have h32' : ((c : Int) == 32) = false := by simp; omega
        go_wp2_with fail
        go_roundw
        case rel => exact ⟨pos + p2, rfl, HS.out.2.1, fun j hj h => by
          by_cases e : j < pos
          · exact HBF.out j hj e
          · have := HS.out.2.2 j hj (by omega) h; omega⟩
        case measure => have := HS.out.2.1; have := HS.out.1; simp; omega
    · have hnx : ∀ ty, (Instr.next (.pointer (some ⟨w.heap.size, 0, none⟩)) true ty).run Try.prog (w.iter s pos) = _ := fun ty => run_next_end w s pos ty hlt
      obtain ⟨e1, e2⟩ := HM.out (fun j hj => HBF.out j hj (by omega))
      have E1 := Lib.hid e1
      have E2 := Lib.hid e2
      clear e1 e2
      go_wp2
      go_ret2
      exact ⟨by rw [← E1.out, ← E2.out]; rfl, iter_below _ _ _⟩
end Go.Proofs.Ythdkgpmpopjnaaa.H
