/-
The reference of data: Word.
-/
import Derived.Test.YtgfmeiddicodoaaProg
import Derived.WalkKit
import Derived.WalkSpells
import Derived.WalkLawsBesides
import Derived.Handy
import Derived.Lib.Hide
import Derived.Deep.QuietTactic
import Derived.BigQuiet
import Derived.Test.YtgfmeiddicodoaaHRConc
import Derived.Test.YtgfmeiddicodoaaWWords
set_option linter.unusedVariables false
set_option linter.unusedSimpArgs false
namespace Go.Proofs.Ytgfmeiddicodoaa.H
open Go.RowKit Go.Proofs.YtgfmeiddicodoaaW.PrintWords

theorem own_cap {w : World} {base n c : Nat} {e : TypeId} {A : Option Addr} {xs : List Value} (h : w.ownsRow base e 1 (.slice A n c) n xs) : n ≤ c := by
  rcases h.2 with ⟨e, h0⟩ | ⟨g, cap, cur, e, _, _, hnc, _⟩
  · omega
  · simp only [Value.slice.injEq] at e
    omega
set_option maxHeartbeats 2000000 in
theorem RWord_no (x0 x1 x2 x3 x4 x5 x6 x7 x8 : Int) (p : Int) (hp : 0 ≤ p ∧ p < 4294967296) (ht : thereB p = false) (w : World) :
    Calls Try.prog 28 #[.agg #[.int .u32 x0, .int .u32 x1, .int .u64 x2, .int .u64 x3, .int .u64 x4, .int .u64 x5, .int .u64 x6, .int .u64 x7, .int .u64 x8], .int .u32 p] w fun e w' => e = .returned (.tuple #[.int .u32 0, .bool false]) ∧ Below w.heap.size w w' := by
  have Q3 := Lib.hid ((Below.refl w.heap.size w).alloc (Nat.le_refl _) (Obj.cells #[.int .u32 x0, .int .u32 x1, .int .u64 x2, .int .u64 x3, .int .u64 x4, .int .u64 x5, .int .u64 x6, .int .u64 x7, .int .u64 x8] 26))
  by_cases h1 : p % 4 = 0
  · have h2 : ¬ p < 64 := by
      intro h
      simp [thereB, h1, h] at ht
    clear ht
    go_enter Try.func28, Try.ntmps28
    go_wp2
    go_ret2
    exact ⟨rfl, Q3.out⟩
  · clear ht
    go_enter Try.func28, Try.ntmps28
    go_wp2
    go_ret2
    exact ⟨rfl, Q3.out⟩
set_option maxHeartbeats 2000000 in
theorem RWord_yes (x0 x1 x2 x3 x4 x5 x6 x7 x8 : Int) (p x : Int) (hp : 0 ≤ p) (h4 : p % 4 = 0) (h64 : p < 64) (hx : 0 ≤ x ∧ x < 4294967296) (B : List Int)
    (BY : ∀ w, Calls Try.prog 34 #[.agg #[.int .u32 x0, .int .u32 x1, .int .u64 x2, .int .u64 x3, .int .u64 x4, .int .u64 x5, .int .u64 x6, .int .u64 x7, .int .u64 x8]] w fun e w' => ∃ v, e = .returned v ∧ w'.ownsRow w.heap.size 5 1 v 64 (nums .u8 B) ∧ Below w.heap.size w w')
    (NU : ∀ (A : Option Addr) (c : Nat), 64 ≤ c → ∃ A' c', (∀ W : World, (Instr.slice 49 (.slice A 64 c) (some (.int .i64 p)) (some (.int .i64 (p + 4))) none).run Try.prog W = .ok (.slice A' 4 c') W) ∧ (∀ W, ReadsInt W .u8 A 64 B → Calls Try.prog 41 #[.slice A' 4 c'] W fun e w' => e = .returned (.int .u64 x) ∧ Below W.heap.size W w')) (w : World) :
    Calls Try.prog 28 #[.agg #[.int .u32 x0, .int .u32 x1, .int .u64 x2, .int .u64 x3, .int .u64 x4, .int .u64 x5, .int .u64 x6, .int .u64 x7, .int .u64 x8], .int .u32 p] w fun e w' => e = .returned (.tuple #[.int .u32 x, .bool true]) ∧ Below w.heap.size w w' := by
  replace BY := Lib.hid BY
  replace NU := Lib.hid NU
  have HI := Lib.hid (info_data (.int .u32 x0) (.int .u32 x1) (.int .u64 x2) (.int .u64 x3) (.int .u64 x4) (.int .u64 x5) (.int .u64 x6) (.int .u64 x7) (.int .u64 x8))
  have Q0 := Lib.hid (heap_alloc_new w (Obj.cells #[.int .u32 x0, .int .u32 x1, .int .u64 x2, .int .u64 x3, .int .u64 x4, .int .u64 x5, .int .u64 x6, .int .u64 x7, .int .u64 x8] 26))
  have Q3 := Lib.hid ((Below.refl w.heap.size w).alloc (Nat.le_refl _) (Obj.cells #[.int .u32 x0, .int .u32 x1, .int .u64 x2, .int .u64 x3, .int .u64 x4, .int .u64 x5, .int .u64 x6, .int .u64 x7, .int .u64 x8] 26))
  go_enter Try.func28, Try.ntmps28
  go_wp2_with (refine wpList_load_row rfl 26 (.tmp 2) rfl _ rfl _ _ _ _ Q0.out Try.underlying26 rfl HI.out ?_)
  refine (BY.out _).mono ?_
  rintro e w1 ⟨v, rfl, ho, hb⟩
  obtain ⟨A1, c1, rfl⟩ := own_slice ho
  obtain ⟨A2, c2, hcut, hnum⟩ := NU.out A1 c1 (own_cap ho)
  have HN := Lib.hid (hnum w1 (own_reads' ho))
  have HB := Lib.hid (below_more Q3.out (Nat.le_refl _) hb)
  clear ho hb hnum Q0 Q3
  go_wp2_with fail
  refine (HN.out).mono ?_
  rintro e w2 ⟨rfl, hb⟩
  have HB2 := Lib.hid (below_more HB.out (Nat.le_refl _) hb)
  clear hb HB HN hcut
  go_wp2_with fail
  go_ret2
  exact ⟨rfl, HB2.out⟩
theorem RWord_walk (x0 x1 x2 x3 x4 x5 x6 x7 x8 : Int) (hd : IsD x0 x1 x2 [x3, x4, x5, x6, x7, x8]) (p : Int) (hp : 0 ≤ p ∧ p < 4294967296) (w : World) :
    Calls Try.prog 28 #[.agg #[.int .u32 x0, .int .u32 x1, .int .u64 x2, .int .u64 x3, .int .u64 x4, .int .u64 x5, .int .u64 x6, .int .u64 x7, .int .u64 x8], .int .u32 p] w fun e w' => e = .returned (.tuple #[.int .u32 (wordI x0 x1 x2 x3 x4 x5 x6 x7 x8 p), .bool (thereB p)]) ∧ Below w.heap.size w w' := by
  unfold wordI
  cases ht : thereB p with
  | false =>
    rw [if_neg (by decide)]
    exact RWord_no x0 x1 x2 x3 x4 x5 x6 x7 x8 p hp ht w
  | true =>
    rw [if_pos rfl]
    have h4 : p % 4 = 0 := by simp [thereB] at ht; exact ht.1
    have h64 : p < 64 := by simp [thereB] at ht; exact ht.2
    have hu := hd.words
    have hl : (wordsL x0 x1 x2 [x3, x4, x5, x6, x7, x8]).length = 16 := rfl
    have BY := RBytes_walk x0 x1 x2 x3 x4 x5 x6 x7 x8 hd
    generalize wordsL x0 x1 x2 [x3, x4, x5, x6, x7, x8] = ws at *
    obtain ⟨k, rfl⟩ : ∃ k : Nat, p = ((4 * k : Nat) : Int) := ⟨(p / 4).toNat, by omega⟩
    have ek : (((4 * k : Nat) : Int) / 4).toNat = k := by omega
    rw [ek]
    refine RWord_yes x0 x1 x2 x3 x4 x5 x6 x7 x8 ((4 * k : Nat) : Int) (ws.getD k 0) (by omega) h4 h64 (hu k) (b4s ws) BY ?_ w
    intro A c hc
    obtain ⟨A', h1, h2⟩ := cut_lh A 64 c (4 * k) (4 * k + 4) (by omega) (by omega) hc
    rw [show 4 * k + 4 - 4 * k = 4 by omega] at h1 h2
    refine ⟨A', c - 4 * k, fun W => ?_, fun W hW => ?_⟩
    · have := h1 W
      rw [show ((4 * k + 4 : Nat) : Int) = ((4 * k : Nat) : Int) + 4 by omega] at this
      exact this
    · have pk := piece4 ws k (by omega)
      have hr := h2 W .u8 _ hW
      rw [pk] at hr
      have hx := hu k
      have := number_gives A' 4 (c - 4 * k) (b4 (ws.getD k 0)) rfl (by omega) (by omega) (by intro x hx'; simp only [b4, List.mem_cons, List.mem_nil_iff, or_false] at hx'; rcases hx' with rfl | rfl | rfl | rfl <;> omega) W hr
      rw [numL_b4] at this
      exact this
theorem RLow04_walk (a : Int) (ha : -9223372036854775808 ≤ a ∧ a < 9223372036854775808) (w : World) :
    Calls Try.prog 29 #[.int .i64 a] w fun e w' => e = .returned (.int .u32 (lowI a)) ∧ Below w.heap.size w w' := by
  have hf : D.hurdleref04_Low.f a = some (lowI a) := by
    unfold D.hurdleref04_Low.f lowI
    by_cases h1 : a < 0
    · rw [if_pos h1, if_pos (Or.inl h1)]
    · rw [if_neg h1]
      by_cases h2 : a > 5
      · rw [if_pos h2, if_pos (Or.inr (by omega))]
      · rw [if_neg h2, if_neg (by omega)]
        congr 1
        unfold wrap64
        omega
  exact (D.hurdleref04_Low.calls a _ w hf).mono (fun e w' ⟨h1, h2⟩ => ⟨h1, h2.below⟩)
end Go.Proofs.Ytgfmeiddicodoaa.H
