/-
The contract of word.Parse: the walk through its code.
-/
import Derived.Test.YthdkgpmpopjnaaaProg
import Derived.WalkKit
import Derived.WalkSpells
import Derived.WalkLawsBesides
import Derived.Handy
import Derived.Lib.Hide
import Derived.Lib.Strings
import Derived.Test.YthdkgpmpopjnaaaHMath
set_option linter.unusedVariables false
set_option linter.unusedSimpArgs false
namespace Go.Proofs.Ythdkgpmpopjnaaa.H
open Go.RowKit

def pRes : Option Nat → Value
  | some n => .tuple #[.int .u64 n, .int .i64 0]
  | none => .tuple #[.int .u64 0, .int .i64 2]

theorem toList_get (t : ByteArray) (pos : Nat) (h : pos < t.size) : t.data.toList.drop pos = (t[pos]'h) :: t.data.toList.drop (pos + 1) := by
  have h' : pos < t.data.toList.length := by simpa using h
  rw [List.drop_eq_getElem_cons h']
  rfl

theorem take2 (s : ByteArray) : (s.extract 0 2).toList = s.data.toList.take 2 := by
  rw [Lib.extract_toList]; rfl

theorem getD2 (s : ByteArray) (h : 2 < s.size) : s.data.toList.getD 2 0 = s[2] := by
  have h' : 2 < s.data.toList.length := by simpa using h
  rw [List.getD_eq_getElem?_getD, List.getElem?_eq_getElem h']
  rfl

theorem parse_short {s : ByteArray} (h : ¬ (3 ≤ s.size ∧ s.size ≤ 18)) : parseL s.data.toList = none := by
  unfold parseL
  rw [if_neg]
  rintro ⟨h1, h2, _⟩
  exact h ⟨by simpa using h1, by simpa using h2⟩
theorem parse_head {s : ByteArray} (h : ¬ (s.extract 0 2).toList = [48, 120]) : parseL s.data.toList = none := by
  unfold parseL
  rw [if_neg]
  rintro ⟨_, _, h3, _⟩
  exact h (by rw [take2]; exact h3)
theorem parse_zero {s : ByteArray} (h2 : 2 < s.size) (h : ((s[2]'h2).toNat : Int) = 48) (h3 : 3 < s.size) : parseL s.data.toList = none := by
  unfold parseL
  rw [if_neg]
  rintro ⟨_, _, _, h4⟩
  refine h4 ⟨?_, by simpa using h3⟩
  rw [getD2 s h2]
  apply UInt8.toNat_inj.mp
  have : (s[2]'h2).toNat = 48 := by omega
  simpa using this
theorem parse_go {s : ByteArray} (h1 : 3 ≤ s.size) (h18 : s.size ≤ 18) (hx : (s.extract 0 2).toList = [48, 120]) (h : ¬ (((s[2]'(by omega)).toNat : Int) = 48 ∧ 3 < s.size)) :
    parseL s.data.toList = hexGo (s.extract 2 s.size).data.toList 0 := by
  unfold parseL
  rw [if_pos]
  · rw [Lib.extract_data]
    congr 1
    rw [List.take_of_length_le]
    simp
  · refine ⟨by simpa using h1, by simpa using h18, by rw [← take2]; exact hx, ?_⟩
    rintro ⟨h4, h5⟩
    refine h ⟨?_, by simpa using h5⟩
    rw [getD2 s (by omega)] at h4
    rw [h4]; rfl

theorem go_digit {t : ByteArray} {pos n c d : Nat} {l : Option Nat} (h : pos < t.size) (hc : (t[pos]'h).toNat = c) (hd : hexd c = some d) (hg : hexGo (t.data.toList.drop pos) n = l) :
    hexGo (t.data.toList.drop (pos + 1)) ((n * 16 + d) % 18446744073709551616) = l := by
  rw [toList_get t pos h] at hg
  simp only [hexGo, hc, hd] at hg
  exact hg
theorem go_none {t : ByteArray} {pos n c : Nat} {l : Option Nat} (h : pos < t.size) (hc : (t[pos]'h).toNat = c) (hd : hexd c = none) (hg : hexGo (t.data.toList.drop pos) n = l) :
    l = none := by
  rw [toList_get t pos h] at hg
  simp only [hexGo, hc, hd] at hg
  exact hg.symm
theorem go_end {t : ByteArray} {pos n : Nat} {l : Option Nat} (h : ¬ pos < t.size) (hg : hexGo (t.data.toList.drop pos) n = l) :
    l = some n := by
  rw [List.drop_eq_nil_of_le (by have : t.data.toList.length = t.size := by simp
                                 omega)] at hg
  exact hg.symm

def ParseEnd (l : Option Nat) (e : Ending) : Prop := e = .returned (pRes l)
theorem ParseEnd.no {l : Option Nat} (h : l = none) : ParseEnd l (.returned (.tuple #[.int .u64 0, .int .i64 2])) := by subst h; rfl
theorem ParseEnd.yes {l : Option Nat} {n : Nat} (h : l = some n) : ParseEnd l (.returned (.tuple #[.int .u64 n, .int .i64 0])) := by subst h; rfl

/-- What a round hands on. -/
def Rel (w : World) (t : ByteArray) (l : Option Nat) (v : Value) (wr : World) : Prop :=
  ∃ pos n : Nat, wr = w.iter t pos ∧ v = .int .u64 n ∧ pos ≤ t.size ∧ n < 18446744073709551616 ∧ hexGo (t.data.toList.drop pos) n = l
theorem Rel.digit {w : World} {t : ByteArray} {l : Option Nat} {pos n c d : Nat} {x : Int} (h : pos < t.size) (hn : n < 18446744073709551616) (hc : (t[pos]'h).toNat = c)
    (hd : hexd c = some d) (hx : x = d) (hg : hexGo (t.data.toList.drop pos) n = l) :
    Rel w t l (.int .u64 (bits .or .u64 (IntKind.u64.wrap ((n : Int) * 16)) x)) (w.iter t (pos + 1)) := by
  subst hx
  rw [or_step n d (hexd_lt hd)]
  exact ⟨pos + 1, _, rfl, rfl, by omega, Nat.mod_lt _ (by omega), go_digit h hc hd hg⟩

theorem iter_below (w : World) (t : ByteArray) (p : Nat) : Below w.heap.size w (w.iter t p) := by
  unfold World.iter
  exact (Below.refl _ _).alloc (Nat.le_refl _) _

set_option maxHeartbeats 1000000 in
theorem parse_walk (s : ByteArray) (w : World) :
    Calls Try.prog 41 #[.string s] w fun e w' => ParseEnd (parseL s.data.toList) e ∧ Below w.heap.size w w' := by
  by_cases h0 : 3 ≤ s.size ∧ s.size ≤ 18
  · obtain ⟨h1, h18⟩ := h0
    by_cases hx : (s.extract 0 2).toList = [48, 120]
    · obtain ⟨l, hl⟩ : ∃ l, parseL s.data.toList = l := ⟨_, rfl⟩
      rw [hl]
      obtain ⟨t, ht⟩ : ∃ t, s.extract 2 s.size = t := ⟨_, rfl⟩
      have HT := Lib.hid ht
      have h2 : 2 < s.size := by omega
      have Hz := Lib.hid (fun (h : ((s[2]'h2).toNat : Int) = 48) (h3 : 3 < s.size) => (hl.symm.trans (parse_zero h2 h h3)))
      have Hg := Lib.hid (fun (h : ¬ (((s[2]'h2).toNat : Int) = 48 ∧ 3 < s.size)) => (parse_go h1 h18 hx h).symm.trans hl)
      clear hl
      go_enter Try.func41, Try.ntmps41
      go_wp2_with fail
      · have h48 : ((s[2]'h2).toNat : Int) = 48 := by assumption
        go_ret2
        exact ⟨ParseEnd.no (Hz.out h48 (by omega)), Below.refl _ _⟩
      all_goals
        clear ht
        have hg0 : hexGo t.data.toList 0 = l := by
          have q := Hg.out (by first | (rintro ⟨_, _⟩; omega) | (rintro ⟨q, _⟩; exact absurd q ‹_›))
          rw [HT.out] at q; exact q
        have HG0 := Lib.hid hg0
        clear hg0 Hz Hg
        go_loopw [4] (fun v wr => Rel w t l v wr) (fun _ wr => t.size - wr.iterPos w.heap.size)
        case atStart => exact ⟨0, 0, rfl, rfl, by omega, by omega, HG0.out⟩
        case round =>
          obtain ⟨pos, n, rfl, rfl, hp, hn, hg⟩ := hrel
          have HG := Lib.hid hg
          clear hg
          by_cases hlt : pos < t.size
          · by_cases ha : (t[pos]'hlt).toNat < 128
            · have hnx : ∀ ty, (Instr.next (.pointer (some ⟨w.heap.size, 0, none⟩)) true ty).run Try.prog (w.iter t pos) = _ := fun ty => run_next_ascii w t pos ty hlt ha
              obtain ⟨c, hc⟩ : ∃ c, (t[pos]'hlt).toNat = c := ⟨_, rfl⟩
              rw [hc] at hnx
              have HC := Lib.hid hc
              clear hc ha
              go_wp2
              · go_roundw
                case rel => exact Rel.digit hlt hn HC.out (d := c - 48) (by unfold hexd; rw [if_pos ⟨by omega, by omega⟩]) (by omega) HG.out
                case measure => simp; omega
              · go_roundw
                case rel => exact Rel.digit hlt hn HC.out (d := c - 87) (by unfold hexd; rw [if_neg (by omega), if_pos ⟨by omega, by omega⟩]) (by omega) HG.out
                case measure => simp; omega
              all_goals
                go_ret2
                exact ⟨ParseEnd.no (go_none hlt HC.out (by unfold hexd; rw [if_neg (by omega), if_neg (by omega)]) HG.out), iter_below _ _ _⟩
            · have hnx : ∀ ty, (Instr.next (.pointer (some ⟨w.heap.size, 0, none⟩)) true ty).run Try.prog (w.iter t pos) = _ := fun ty => run_next_any w t pos ty hlt
              have hb := decode_high t pos hlt (by omega)
              have hle := decode_le t pos
              have HN := Lib.hid (go_none (c := (t[pos]'hlt).toNat) hlt rfl (by unfold hexd; rw [if_neg (by omega), if_neg (by omega)]) HG.out)
              clear ha
              generalize (Utf8.decode t pos).1 = c at *
              generalize (Utf8.decode t pos).2 = p2 at *
              go_wp2
              all_goals
                go_ret2
                exact ⟨ParseEnd.no HN.out, iter_below _ _ _⟩
          · have hnx : ∀ ty, (Instr.next (.pointer (some ⟨w.heap.size, 0, none⟩)) true ty).run Try.prog (w.iter t pos) = _ := fun ty => run_next_end w t pos ty hlt
            go_wp2
            go_ret2
            exact ⟨ParseEnd.yes (go_end hlt HG.out), iter_below _ _ _⟩
    · have HP := Lib.hid (parse_head hx)
      go_enter Try.func41, Try.ntmps41
      go_wp2
      go_ret2
      exact ⟨ParseEnd.no HP.out, Below.refl _ _⟩
  · have HP := Lib.hid (parse_short h0)
    by_cases h1 : s.size < 3
    · go_enter Try.func41, Try.ntmps41
      go_wp2
      go_ret2
      exact ⟨ParseEnd.no HP.out, Below.refl _ _⟩
    · have h3 : 18 < s.size := by omega
      clear h0
      go_enter Try.func41, Try.ntmps41
      go_wp2
      go_ret2
      exact ⟨ParseEnd.no HP.out, Below.refl _ _⟩

/-- What word.Parse answers, of a text. -/
def word_Parse.f (a0 : ByteArray) : Option (Int × Int) := some (match parseL a0.data.toList with | some n => ((n : Int), 0) | none => (0, 2))

theorem word_Parse.calls (a0 : ByteArray) (r1 : Int) (r2 : Int) (w : World) (h : word_Parse.f a0 = some (r1, r2)) :
    Calls Try.prog 41 #[.string a0] w fun e w' => e = .returned (.tuple #[.int .u64 r1, .int .i64 r2]) ∧ Below w.heap.size w w' := by
  refine (parse_walk a0 w).mono fun e w' ⟨he, hb⟩ => ⟨?_, hb⟩
  rw [he]
  unfold word_Parse.f at h
  cases hp : parseL a0.data.toList with
  | none => rw [hp] at h; simp at h; obtain ⟨rfl, rfl⟩ := h; rfl
  | some n => rw [hp] at h; simp at h; obtain ⟨rfl, rfl⟩ := h; rfl

end Go.Proofs.Ythdkgpmpopjnaaa.H
