/-
Package data: Word, With, Low, High.
-/
import Derived.Test.YtgfmeiddicodoaaProg
import Derived.WalkKit
import Derived.WalkSpells
import Derived.WalkLawsBesides
import Derived.Handy
import Derived.Lib.Hide
import Derived.Deep.QuietTactic
import Derived.BigQuiet
import Derived.Test.YtgfmeiddicodoaaHData3
set_option linter.unusedVariables false
set_option linter.unusedSimpArgs false
namespace Go.Proofs.Ytgfmeiddicodoaa.H
open Go.RowKit Go.Proofs.YtgfmeiddicodoaaW.PrintWords

def thereB (at' : Int) : Bool := at' % 4 == 0 && decide (at' < 64)

theorem there_walk (a : Int) (ha : 0 ≤ a ∧ a < 4294967296) (w : World) :
    Calls Try.prog 36 #[.int .u32 a] w fun e w' => e = .returned (.bool (thereB a)) ∧ Below w.heap.size w w' := by
  obtain ⟨t, ht⟩ : ∃ t, thereB a = t := ⟨_, rfl⟩
  rw [ht]
  have HT := Lib.hid ht
  clear ht
  by_cases h1 : a % 4 = 0
  · have h1' : (a % 4 == 0) = true := by simpa using h1
    by_cases h2 : a < 64
    · have := HT.out
      simp only [thereB, h1', h2, decide_true, Bool.and_self] at this
      subst this
      go_enter Try.func36, Try.ntmps36
      go_wp2
      go_ret
      exact ⟨rfl, Below.refl _ _⟩
    · have := HT.out
      simp only [thereB, h1', h2, decide_false, Bool.and_false] at this
      subst this
      go_enter Try.func36, Try.ntmps36
      go_wp2
      go_ret
      exact ⟨rfl, Below.refl _ _⟩
  · have h1' : (a % 4 == 0) = false := by simpa using h1
    have := HT.out
    simp only [thereB, h1', Bool.false_and] at this
    subst this
    go_enter Try.func36, Try.ntmps36
    go_wp2
    go_ret
    exact ⟨rfl, Below.refl _ _⟩

def lowI (a : Int) : Int := if a < 0 ∨ 6 ≤ a then 64 else 16 + 8 * a
def highI (a : Int) : Int := if a < 0 ∨ 6 ≤ a then 64 else 20 + 8 * a

theorem Low_walk (a : Int) (ha : -9223372036854775808 ≤ a ∧ a < 9223372036854775808) (w : World) :
    Calls Try.prog 16 #[.int .i64 a] w fun e w' => e = .returned (.int .u32 (lowI a)) ∧ Below w.heap.size w w' := by
  unfold lowI
  by_cases h1 : a < 0
  · rw [if_pos (.inl h1)]
    go_enter Try.func16, Try.ntmps16
    go_wp2
    go_ret
    exact ⟨rfl, Below.refl _ _⟩
  · by_cases h2 : 6 ≤ a
    · rw [if_pos (.inr h2)]
      go_enter Try.func16, Try.ntmps16
      go_wp2
      go_ret
      exact ⟨rfl, Below.refl _ _⟩
    · rw [if_neg (by omega)]
      go_enter Try.func16, Try.ntmps16
      go_wp2
      go_ret
      exact ⟨rfl, Below.refl _ _⟩

theorem High_walk (a : Int) (ha : -9223372036854775808 ≤ a ∧ a < 9223372036854775808) (w : World) :
    Calls Try.prog 17 #[.int .i64 a] w fun e w' => e = .returned (.int .u32 (highI a)) ∧ Below w.heap.size w w' := by
  unfold highI
  by_cases h1 : a < 0
  · rw [if_pos (.inl h1)]
    go_enter Try.func17, Try.ntmps17
    go_wp2
    go_ret
    exact ⟨rfl, Below.refl _ _⟩
  · by_cases h2 : 6 ≤ a
    · rw [if_pos (.inr h2)]
      go_enter Try.func17, Try.ntmps17
      go_wp2
      go_ret
      exact ⟨rfl, Below.refl _ _⟩
    · rw [if_neg (by omega)]
      have hl : lowI a = 16 + 8 * a := by unfold lowI; rw [if_neg (by omega)]
      have HLO := Lib.hid (Low_walk a ha)
      rw [hl] at HLO
      clear hl
      go_enter Try.func17, Try.ntmps17
      go_wp2_with fail
      refine (HLO.out _).mono ?_
      rintro e w1 ⟨rfl, hb⟩
      go_wp2
      go_ret
      exact ⟨by show Ending.returned (Value.int .u32 (16 + 8 * a + 4)) = .returned (.int .u32 (20 + 8 * a)); rw [show 16 + 8 * a + 4 = 20 + 8 * a by omega], hb⟩

theorem idx16u (ws : List Int) (hl : ws.length = 16) (k : Nat) (hk : k < 16) (w : World) :
    (Instr.index 55 (.agg (nums .u32 ws).toArray) (.int .u32 (k : Int))).run Try.prog w = .ok (.int .u32 (ws.getD k 0)) w :=
  run_index_arr Try.underlying55 Try.underlying22 (by kernel_rfl) _ k hk _ (by simp [nums, List.getElem?_eq_getElem (show k < ws.length by omega), List.getD_eq_getElem?_getD]) w

theorem cells9 {w : World} {g : Nat} {t : TypeId} {v0 v1 v2 v3 v4 v5 v6 v7 v8 : Value} (h : w.heap[g]? = some (.cells #[v0, v1, v2, v3, v4, v5, v6, v7, v8] t (0, 0))) :
    w.cell? ⟨g, 0, none⟩ = some v0 ∧ w.cell? ⟨g, 1, none⟩ = some v1 ∧ w.cell? ⟨g, 2, none⟩ = some v2 ∧ w.cell? ⟨g, 3, none⟩ = some v3 ∧ w.cell? ⟨g, 4, none⟩ = some v4 ∧
      w.cell? ⟨g, 5, none⟩ = some v5 ∧ w.cell? ⟨g, 6, none⟩ = some v6 ∧ w.cell? ⟨g, 7, none⟩ = some v7 ∧ w.cell? ⟨g, 8, none⟩ = some v8 :=
  ⟨blk_cell h 0, blk_cell h 1, blk_cell h 2, blk_cell h 3, blk_cell h 4, blk_cell h 5, blk_cell h 6, blk_cell h 7, blk_cell h 8⟩

/-- A word, if it is there. -/
def wordI (nr ar ip a0 a1 a2 a3 a4 a5 p : Int) : Int := if thereB p = true then (wordsL nr ar ip [a0, a1, a2, a3, a4, a5]).getD (p / 4).toNat 0 else 0

set_option maxHeartbeats 1000000 in
theorem Word_walk (nr ar ip a0 a1 a2 a3 a4 a5 : Int) (hd : IsD nr ar ip [a0, a1, a2, a3, a4, a5]) (p : Int) (hp : 0 ≤ p ∧ p < 4294967296) (w : World) :
    Calls Try.prog 15 #[.agg #[.int .u32 nr, .int .u32 ar, .int .u64 ip, .int .u64 a0, .int .u64 a1, .int .u64 a2, .int .u64 a3, .int .u64 a4, .int .u64 a5], .int .u32 p] w fun e w' => e = .returned (.tuple #[.int .u32 (wordI nr ar ip a0 a1 a2 a3 a4 a5 p), .bool (thereB p)]) ∧ Below w.heap.size w w' := by
  unfold wordI
  have HD := Lib.hid hd
  have HT := Lib.hid (there_walk p hp)
  clear hd
  cases ht : thereB p with
  | false =>
    rw [ht] at HT
    have HTT := Lib.hid ht
    clear ht
    rw [if_neg (by decide)]
    go_enter Try.func15, Try.ntmps15
    go_wp2_with fail
    refine (HT.out _).mono ?_
    rintro e w1 ⟨rfl, hb⟩
    have HB := Lib.hid (show Below w.heap.size w w1 from ((Below.refl _ _).alloc (Nat.le_refl _) _).trans (hb.mono (by simp)))
    clear hb
    go_wp2
    go_ret2
    exact ⟨rfl, HB.out⟩
  | true =>
    rw [ht] at HT
    have h64 : p < 64 := by simp [thereB] at ht; omega
    clear ht
    rw [if_pos rfl]
    go_enter Try.func15, Try.ntmps15
    go_wp2_with fail
    have hg0 := heap_alloc_new w (.cells #[.int .u32 nr, .int .u32 ar, .int .u64 ip, .int .u64 a0, .int .u64 a1, .int .u64 a2, .int .u64 a3, .int .u64 a4, .int .u64 a5] 26)
    refine (HT.out _).mono ?_
    rintro e w1 ⟨rfl, hb⟩
    have hg1 := blk_below hg0 hb
    obtain ⟨c0, c1, c2, c3, c4, c5, c6, c7, c8⟩ := cells9 hg1
    have HB := Lib.hid (show Below w.heap.size w w1 from ((Below.refl _ _).alloc (Nat.le_refl _) _).trans (hb.mono (by simp)))
    clear hb hg0 hg1
    go_wp2_with fail
    refine (words_walk nr ar ip [a0, a1, a2, a3, a4, a5] HD.out.len _ HD.out.nr HD.out.ar HD.out.ip HD.out.ags).mono ?_
    rintro e w2 ⟨rfl, hb⟩
    have HB2 := Lib.hid (HB.out.trans (hb.mono HB.out.size))
    clear hb c0 c1 c2 c3 c4 c5 c6 c7 c8
    generalize hws : wordsL nr ar ip [a0, a1, a2, a3, a4, a5] = ws at *
    have hl : ws.length = 16 := by rw [← hws]; rfl
    have hix := idx16u ws hl (p / 4).toNat (by omega)
    have e4 : (((p / 4).toNat : Nat) : Int) = p / 4 := by omega
    rw [e4] at hix
    generalize hx : ws.getD (p / 4).toNat 0 = x at *
    have HWS := Lib.hid hws
    have HX := Lib.hid hx
    clear hl hws hx e4
    go_wp2_with fail
    go_ret2
    exact ⟨by rw [HWS.out, HX.out]; rfl, HB2.out⟩
end Go.Proofs.Ytgfmeiddicodoaa.H
