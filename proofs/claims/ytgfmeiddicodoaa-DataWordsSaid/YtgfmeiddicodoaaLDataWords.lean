/-
DataWords.
-/
import Derived.Test.YtgfmeiddicodoaaProg
import Derived.WalkKit
import Derived.WalkSpells
import Derived.WalkLawsBesides
import Derived.Handy
import Derived.Lib.Hide
import Derived.Deep.QuietTactic
import Derived.BigQuiet
import Derived.Test.YtgfmeiddicodoaaHRWith
import Derived.Test.YtgfmeiddicodoaaWWords
set_option linter.unusedVariables false
set_option linter.unusedSimpArgs false
namespace Go.Proofs.Ytgfmeiddicodoaa.H
open Go.RowKit Go.Proofs.YtgfmeiddicodoaaW.PrintWords

attribute [local go_sem high] eqDn
set_option maxHeartbeats 8000000 in
theorem DataWords_in (x0 x1 x2 x3 x4 x5 x6 x7 x8 p v a lo y y0 y1 y2 y3 y4 y5 y6 y7 y8 : Int) (t : Bool) (hlo : 0 ≤ lo ∧ lo ≤ 64) (hc : lo < 64)
    (W1 : (∀ w, Calls Try.prog 15 #[.agg #[.int .u32 x0, .int .u32 x1, .int .u64 x2, .int .u64 x3, .int .u64 x4, .int .u64 x5, .int .u64 x6, .int .u64 x7, .int .u64 x8], .int .u32 p] w fun e w' => e = .returned (.tuple #[.int .u32 y, .bool t]) ∧ Below w.heap.size w w')) (W2 : (∀ w, Calls Try.prog 28 #[.agg #[.int .u32 x0, .int .u32 x1, .int .u64 x2, .int .u64 x3, .int .u64 x4, .int .u64 x5, .int .u64 x6, .int .u64 x7, .int .u64 x8], .int .u32 p] w fun e w' => e = .returned (.tuple #[.int .u32 y, .bool t]) ∧ Below w.heap.size w w')) (RL : (∀ w, Calls Try.prog 29 #[.int .i64 a] w fun e w' => e = .returned (.int .u32 lo) ∧ Below w.heap.size w w')) (WI : (∀ w, Calls Try.prog 30 #[.agg #[.int .u32 x0, .int .u32 x1, .int .u64 x2, .int .u64 x3, .int .u64 x4, .int .u64 x5, .int .u64 x6, .int .u64 x7, .int .u64 x8], .int .u32 p, .int .u32 v] w fun e w' => e = .returned (.agg #[.int .u32 y0, .int .u32 y1, .int .u64 y2, .int .u64 y3, .int .u64 y4, .int .u64 y5, .int .u64 y6, .int .u64 y7, .int .u64 y8]) ∧ Below w.heap.size w w')) (WR : (∀ w, Calls Try.prog 31 #[.agg #[.int .u32 x0, .int .u32 x1, .int .u64 x2, .int .u64 x3, .int .u64 x4, .int .u64 x5, .int .u64 x6, .int .u64 x7, .int .u64 x8], .int .u32 p, .int .u32 v] w fun e w' => e = .returned (.agg #[.int .u32 y0, .int .u32 y1, .int .u64 y2, .int .u64 y3, .int .u64 y4, .int .u64 y5, .int .u64 y6, .int .u64 y7, .int .u64 y8]) ∧ Below w.heap.size w w')) (LO : (∀ w, Calls Try.prog 16 #[.int .i64 a] w fun e w' => e = .returned (.int .u32 lo) ∧ Below w.heap.size w w')) (HG : (∀ w, Calls Try.prog 17 #[.int .i64 a] w fun e w' => e = .returned (.int .u32 (lo + 4)) ∧ Below w.heap.size w w')) (w : World) :
    Calls Try.prog 11 #[.agg #[.int .u32 x0, .int .u32 x1, .int .u64 x2, .int .u64 x3, .int .u64 x4, .int .u64 x5, .int .u64 x6, .int .u64 x7, .int .u64 x8], .int .u32 p, .int .u32 v, .int .i64 a] w fun e w' => e = .returned (.bool true) ∧ Below w.heap.size w w' := by
  replace W1 := Lib.hid W1
  replace W2 := Lib.hid W2
  replace RL := Lib.hid RL
  replace WI := Lib.hid WI
  replace WR := Lib.hid WR
  replace LO := Lib.hid LO
  replace HG := Lib.hid HG
  have KN := Lib.hid knows_walk
  have HI := Lib.hid (info_data (.int .u32 x0) (.int .u32 x1) (.int .u64 x2) (.int .u64 x3) (.int .u64 x4) (.int .u64 x5) (.int .u64 x6) (.int .u64 x7) (.int .u64 x8))
  have q1 := Lib.hid (heap_alloc_new w (Obj.cells #[.int .u32 x0, .int .u32 x1, .int .u64 x2, .int .u64 x3, .int .u64 x4, .int .u64 x5, .int .u64 x6, .int .u64 x7, .int .u64 x8] 26))
  have q4 := Lib.hid ((Below.refl w.heap.size w).alloc (Nat.le_refl _) (Obj.cells #[.int .u32 x0, .int .u32 x1, .int .u64 x2, .int .u64 x3, .int .u64 x4, .int .u64 x5, .int .u64 x6, .int .u64 x7, .int .u64 x8] 26))
  go_enter Try.func11, Try.ntmps11
  go_wp2_with (refine wpList_load_row rfl 26 (.tmp 4) rfl _ rfl _ _ _ _ q1.out Try.underlying26 rfl HI.out ?_)
  refine (W1.out _).mono ?_
  rintro e w1 ⟨rfl, hb⟩
  have a1 := Lib.hid (blk_below q1.out hb)
  have b1 := Lib.hid (below_more q4.out (Nat.le_refl _) hb)
  clear hb q1 q4
  go_wp2_with (refine wpList_load_row rfl 26 (.tmp 4) rfl _ rfl _ _ _ _ a1.out Try.underlying26 rfl HI.out ?_)
  refine (W2.out _).mono ?_
  rintro e w2 ⟨rfl, hb⟩
  have a2 := Lib.hid (blk_below a1.out hb)
  have b2 := Lib.hid (below_more b1.out (Nat.le_refl _) hb)
  clear hb a1 b1
  go_wp2_with fail
  refine (RL.out _).mono ?_
  rintro e w3 ⟨rfl, hb⟩
  have a3 := Lib.hid (blk_below a2.out hb)
  have b3 := Lib.hid (below_more b2.out (Nat.le_refl _) hb)
  clear hb a2 b2
  have hw4 : (lo + 4) % 4294967296 = lo + 4 := by omega
  have hw5 : IntKind.u32.wrap (lo + 4) = lo + 4 := by rw [IntKind.wrap_u32]; omega
  have hE : eqDB y0 y1 y2 y3 y4 y5 y6 y7 y8 y0 y1 y2 y3 y4 y5 y6 y7 y8 = true := (eqDB_iff y0 y1 y2 y3 y4 y5 y6 y7 y8 y0 y1 y2 y3 y4 y5 y6 y7 y8).2 ⟨rfl, rfl, rfl, rfl, rfl, rfl, rfl, rfl, rfl⟩
  go_wp2_with fail
  refine wp_region_held_drew (S := (fun w' => (w'.heap[w.heap.size]? = some (.cells #[.int .u32 x0, .int .u32 x1, .int .u64 x2, .int .u64 x3, .int .u64 x4, .int .u64 x5, .int .u64 x6, .int .u64 x7, .int .u64 x8] 26 (0, 0))) ∧ (Below w.heap.size w w'))) (by kernel_rfl) ⟨a3.out, b3.out.drew⟩ (fun hNew => ?_)
  have hHeld := Lib.hid hNew
  clear hNew
  refine wpAnyH_takeL 0 (v := ?_) rfl (by kernel_rfl) (by kernel_rfl) (by kernel_rfl) (fun _ _ _ h => h) hHeld.out (yieldsIf_of rfl ?_) ?_
  rotate_left
  · (intro w hSw; go_simp <;> with_reducible rfl)
  try simp only [Act.put, List.setIfInBounds_toArray, List.set_cons_zero, List.set_cons_succ]
  refine wpAnyH_takeL 1 (v := ?_) rfl (by kernel_rfl) (by kernel_rfl) (by kernel_rfl) (fun _ _ _ h => h) hHeld.out (yieldsIf_of rfl ?_) ?_
  rotate_left
  · (intro w hSw; go_simp <;> with_reducible rfl)
  try simp only [Act.put, List.setIfInBounds_toArray, List.set_cons_zero, List.set_cons_succ]
  refine wpAnyH_takeL 2 (v := ?_) rfl (by kernel_rfl) (by kernel_rfl) (by kernel_rfl) (fun _ _ _ h => h) hHeld.out (yieldsIf_of rfl ?_) ?_
  rotate_left
  · (intro w hSw; go_simp <;> with_reducible rfl)
  try simp only [Act.put, List.setIfInBounds_toArray, List.set_cons_zero, List.set_cons_succ]
  refine wpAnyH_takeL 3 (v := ?_) rfl (by kernel_rfl) (by kernel_rfl) (by kernel_rfl) (fun _ _ _ h => h) hHeld.out (yieldsIf_of rfl ?_) ?_
  rotate_left
  · (intro w hSw; go_simp <;> with_reducible rfl)
  try simp only [Act.put, List.setIfInBounds_toArray, List.set_cons_zero, List.set_cons_succ]
  refine wpAnyH_takeL 4 (v := ?_) rfl (by kernel_rfl) (by kernel_rfl) (by kernel_rfl) (fun _ _ _ h => h) hHeld.out (yieldsIf_of rfl ?_) ?_
  rotate_left
  · (intro w hSw; go_simp <;> with_reducible rfl)
  try simp only [Act.put, List.setIfInBounds_toArray, List.set_cons_zero, List.set_cons_succ]
  refine wpAnyH_takeL 5 (v := ?_) rfl (by kernel_rfl) (by kernel_rfl) (by kernel_rfl) (fun _ _ _ h => h) hHeld.out (yieldsIf_of rfl ?_) ?_
  rotate_left
  · (intro w hSw; go_simp <;> with_reducible rfl)
  try simp only [Act.put, List.setIfInBounds_toArray, List.set_cons_zero, List.set_cons_succ]
  refine wpAnyH_takeL 6 (v := ?_) rfl (by kernel_rfl) (by kernel_rfl) (by kernel_rfl) (fun _ _ _ h => h) hHeld.out (yieldsIf_of rfl ?_) ?_
  rotate_left
  · (intro w hSw; go_simp <;> with_reducible rfl)
  try simp only [Act.put, List.setIfInBounds_toArray, List.set_cons_zero, List.set_cons_succ]
  refine wpAnyH_takeL 7 (v := ?_) rfl (by kernel_rfl) (by kernel_rfl) (by kernel_rfl) (fun _ _ _ h => h) hHeld.out (yieldsIf_of rfl ?_) ?_
  rotate_left
  · (intro w hSw; go_simp <;> with_reducible rfl)
  try simp only [Act.put, List.setIfInBounds_toArray, List.set_cons_zero, List.set_cons_succ]
  refine wpAnyH_takeL 8 (v := ?_) rfl (by kernel_rfl) (by kernel_rfl) (by kernel_rfl) (fun _ _ _ h => h) hHeld.out (yieldsIf_of rfl ?_) ?_
  rotate_left
  · (intro w hSw; go_simp <;> with_reducible rfl)
  try simp only [Act.put, List.setIfInBounds_toArray, List.set_cons_zero, List.set_cons_succ]
  refine wpAnyH_takeL 9 rfl (by kernel_rfl) (by kernel_rfl) (by kernel_rfl) (fun _ _ _ h => h) hHeld.out (yieldsIf_row rfl 26 (.tmp 4) rfl _ rfl _ #[.int .u32 x0, .int .u32 x1, .int .u64 x2, .int .u64 x3, .int .u64 x4, .int .u64 x5, .int .u64 x6, .int .u64 x7, .int .u64 x8] _ _ (fun _ h => h.1) Try.underlying26 rfl HI.out) ?_
  try simp only [Act.put, List.setIfInBounds_toArray, List.set_cons_zero, List.set_cons_succ]
  refine wpAnyH_takeL 10 (v := ?_) rfl (by kernel_rfl) (by kernel_rfl) (by kernel_rfl) (fun _ _ _ h => h) hHeld.out (yieldsIf_of rfl ?_) ?_
  rotate_left
  · (intro w hSw; go_simp <;> with_reducible rfl)
  try simp only [Act.put, List.setIfInBounds_toArray, List.set_cons_zero, List.set_cons_succ]
  refine wpAnyH_takeL 11 (v := ?_) rfl (by kernel_rfl) (by kernel_rfl) (by kernel_rfl) (fun _ _ _ h => h) hHeld.out (yieldsIf_of rfl ?_) ?_
  rotate_left
  · (intro w hSw; go_simp <;> with_reducible rfl)
  try simp only [Act.put, List.setIfInBounds_toArray, List.set_cons_zero, List.set_cons_succ]
  refine wpAnyH_takeL 13 rfl (by kernel_rfl) (by kernel_rfl) (by kernel_rfl) (fun _ _ _ h => h) hHeld.out (yieldsIf_row rfl 26 (.tmp 4) rfl _ rfl _ #[.int .u32 x0, .int .u32 x1, .int .u64 x2, .int .u64 x3, .int .u64 x4, .int .u64 x5, .int .u64 x6, .int .u64 x7, .int .u64 x8] _ _ (fun _ h => h.1) Try.underlying26 rfl HI.out) ?_
  try simp only [Act.put, List.setIfInBounds_toArray, List.set_cons_zero, List.set_cons_succ]
  refine wpAnyH_takeL 14 (v := ?_) rfl (by kernel_rfl) (by kernel_rfl) (by kernel_rfl) (fun _ _ _ h => h) hHeld.out (yieldsIf_of rfl ?_) ?_
  rotate_left
  · (intro w hSw; go_simp <;> with_reducible rfl)
  try simp only [Act.put, List.setIfInBounds_toArray, List.set_cons_zero, List.set_cons_succ]
  refine wpAnyH_takeL 15 (v := ?_) rfl (by kernel_rfl) (by kernel_rfl) (by kernel_rfl) (fun _ _ _ h => h) hHeld.out (yieldsIf_of rfl ?_) ?_
  rotate_left
  · (intro w hSw; go_simp <;> with_reducible rfl)
  try simp only [Act.put, List.setIfInBounds_toArray, List.set_cons_zero, List.set_cons_succ]
  refine wpAnyH_one 12 _ (by kernel_rfl) rfl (fun _ h => h) (fun K hK => ?_)
  go_simp
  refine (WI.out _).mono ?_
  rintro _ v73 ⟨rfl, hb⟩
  refine hK.out _ _ ⟨blk_below (hHeld.out.1) hb, below_more (hHeld.out.2) (Nat.le_refl _) hb⟩ (fun hNew => ?_)
  clear hK K hHeld hb
  have hHeld := Lib.hid hNew
  clear hNew
  try simp only [Act.put, List.setIfInBounds_toArray, List.set_cons_zero, List.set_cons_succ]
  refine wpAnyH_one 16 _ (by kernel_rfl) rfl (fun _ h => h) (fun K hK => ?_)
  go_simp
  refine (WR.out _).mono ?_
  rintro _ v74 ⟨rfl, hb⟩
  refine hK.out _ _ ⟨blk_below (hHeld.out.1) hb, below_more (hHeld.out.2) (Nat.le_refl _) hb⟩ (fun hNew => ?_)
  clear hK K hHeld hb
  have hHeld := Lib.hid hNew
  clear hNew
  try simp only [Act.put, List.setIfInBounds_toArray, List.set_cons_zero, List.set_cons_succ]
  refine wpAnyH_takeL 17 (v := ?_) rfl (by kernel_rfl) (by kernel_rfl) (by kernel_rfl) (fun _ _ _ h => h) hHeld.out (yieldsIf_of rfl ?_) ?_
  rotate_left
  · (intro w hSw; go_simp <;> with_reducible rfl)
  try simp only [Act.put, List.setIfInBounds_toArray, List.set_cons_zero, List.set_cons_succ]
  refine wpAnyH_takeL 18 (v := ?_) rfl (by kernel_rfl) (by kernel_rfl) (by kernel_rfl) (fun _ _ _ h => h) hHeld.out (yieldsIf_of rfl ?_) ?_
  rotate_left
  · (intro w hSw; go_simp <;> with_reducible rfl)
  try simp only [Act.put, List.setIfInBounds_toArray, List.set_cons_zero, List.set_cons_succ]
  refine wpAnyH_takeL 19 (v := ?_) rfl (by kernel_rfl) (by kernel_rfl) (by kernel_rfl) (fun _ _ _ h => h) hHeld.out (yieldsIf_of rfl ?_) ?_
  rotate_left
  · (intro w hSw; go_simp <;> with_reducible rfl)
  try simp only [Act.put, List.setIfInBounds_toArray, List.set_cons_zero, List.set_cons_succ]
  refine wpAnyH_takeL 20 (v := ?_) rfl (by kernel_rfl) (by kernel_rfl) (by kernel_rfl) (fun _ _ _ h => h) hHeld.out (yieldsIf_of rfl ?_) ?_
  rotate_left
  · (intro w hSw; go_simp <;> with_reducible rfl)
  try simp only [Act.put, List.setIfInBounds_toArray, List.set_cons_zero, List.set_cons_succ]
  refine wpAnyH_takeL 22 (v := ?_) rfl (by kernel_rfl) (by kernel_rfl) (by kernel_rfl) (fun _ _ _ h => h) hHeld.out (yieldsIf_of rfl ?_) ?_
  rotate_left
  · (intro w hSw; go_simp <;> with_reducible rfl)
  try simp only [Act.put, List.setIfInBounds_toArray, List.set_cons_zero, List.set_cons_succ]
  refine wpAnyH_one 21 _ (by kernel_rfl) rfl (fun _ h => h) (fun K hK => ?_)
  go_simp
  refine (LO.out _).mono ?_
  rintro _ v75 ⟨rfl, hb⟩
  refine hK.out _ _ ⟨blk_below (hHeld.out.1) hb, below_more (hHeld.out.2) (Nat.le_refl _) hb⟩ (fun hNew => ?_)
  clear hK K hHeld hb
  have hHeld := Lib.hid hNew
  clear hNew
  try simp only [Act.put, List.setIfInBounds_toArray, List.set_cons_zero, List.set_cons_succ]
  refine wpAnyH_takeL 23 (v := ?_) rfl (by kernel_rfl) (by kernel_rfl) (by kernel_rfl) (fun _ _ _ h => h) hHeld.out (yieldsIf_of rfl ?_) ?_
  rotate_left
  · (intro w hSw; go_simp <;> with_reducible rfl)
  try simp only [Act.put, List.setIfInBounds_toArray, List.set_cons_zero, List.set_cons_succ]
  refine wpAnyH_takeL 24 (v := ?_) rfl (by kernel_rfl) (by kernel_rfl) (by kernel_rfl) (fun _ _ _ h => h) hHeld.out (yieldsIf_of rfl ?_) ?_
  rotate_left
  · (intro w hSw; go_simp <;> with_reducible rfl)
  try simp only [Act.put, List.setIfInBounds_toArray, List.set_cons_zero, List.set_cons_succ]
  refine wpAnyH_takeL 25 (v := ?_) rfl (by kernel_rfl) (by kernel_rfl) (by kernel_rfl) (fun _ _ _ h => h) hHeld.out (yieldsIf_of rfl ?_) ?_
  rotate_left
  · (intro w hSw; go_simp <;> with_reducible rfl)
  try simp only [Act.put, List.setIfInBounds_toArray, List.set_cons_zero, List.set_cons_succ]
  refine wpAnyH_takeL 26 (v := ?_) rfl (by kernel_rfl) (by kernel_rfl) (by kernel_rfl) (fun _ _ _ h => h) hHeld.out (yieldsIf_of rfl ?_) ?_
  rotate_left
  · (intro w hSw; go_simp <;> with_reducible rfl)
  try simp only [Act.put, List.setIfInBounds_toArray, List.set_cons_zero, List.set_cons_succ]
  refine wpAnyH_takeL 28 (v := ?_) rfl (by kernel_rfl) (by kernel_rfl) (by kernel_rfl) (fun _ _ _ h => h) hHeld.out (yieldsIf_of rfl ?_) ?_
  rotate_left
  · (intro w hSw; go_simp <;> with_reducible rfl)
  try simp only [Act.put, List.setIfInBounds_toArray, List.set_cons_zero, List.set_cons_succ]
  refine wpAnyH_one 27 _ (by kernel_rfl) rfl (fun _ h => h) (fun K hK => ?_)
  go_simp
  refine (HG.out _).mono ?_
  rintro _ v76 ⟨rfl, hb⟩
  refine hK.out _ _ ⟨blk_below (hHeld.out.1) hb, below_more (hHeld.out.2) (Nat.le_refl _) hb⟩ (fun hNew => ?_)
  clear hK K hHeld hb
  have hHeld := Lib.hid hNew
  clear hNew
  try simp only [Act.put, List.setIfInBounds_toArray, List.set_cons_zero, List.set_cons_succ]
  refine wpAnyH_takeL 29 (v := ?_) rfl (by kernel_rfl) (by kernel_rfl) (by kernel_rfl) (fun _ _ _ h => h) hHeld.out (yieldsIf_of rfl ?_) ?_
  rotate_left
  · (intro w hSw; go_simp <;> with_reducible rfl)
  try simp only [Act.put, List.setIfInBounds_toArray, List.set_cons_zero, List.set_cons_succ]
  refine wpAnyH_takeL 30 (v := ?_) rfl (by kernel_rfl) (by kernel_rfl) (by kernel_rfl) (fun _ _ _ h => h) hHeld.out (yieldsIf_of rfl ?_) ?_
  rotate_left
  · (intro w hSw; go_simp <;> with_reducible rfl)
  try simp only [Act.put, List.setIfInBounds_toArray, List.set_cons_zero, List.set_cons_succ]
  refine wpAnyH_takeL 31 (v := ?_) rfl (by kernel_rfl) (by kernel_rfl) (by kernel_rfl) (fun _ _ _ h => h) hHeld.out (yieldsIf_of rfl ?_) ?_
  rotate_left
  · (intro w hSw; go_simp <;> with_reducible rfl)
  try simp only [Act.put, List.setIfInBounds_toArray, List.set_cons_zero, List.set_cons_succ]
  refine wpAnyH_one 32 _ (by kernel_rfl) rfl (fun _ h => h) (fun K hK => ?_)
  go_simp
  refine (KN.out _).mono ?_
  rintro _ v77 ⟨rfl, hb⟩
  refine hK.out _ _ ⟨blk_below (hHeld.out.1) hb, below_more (hHeld.out.2) (Nat.le_refl _) hb⟩ (fun hNew => ?_)
  clear hK K hHeld hb
  have hHeld := Lib.hid hNew
  clear hNew
  try simp only [Act.put, List.setIfInBounds_toArray, List.set_cons_zero, List.set_cons_succ]
  refine wpAnyH_takeL 33 (v := ?_) rfl (by kernel_rfl) (by kernel_rfl) (by kernel_rfl) (fun _ _ _ h => h) hHeld.out (yieldsIf_of rfl ?_) ?_
  rotate_left
  · (intro w hSw; go_simp <;> with_reducible rfl)
  try simp only [Act.put, List.setIfInBounds_toArray, List.set_cons_zero, List.set_cons_succ]
  refine wpAnyH_takeL 34 (v := ?_) rfl (by kernel_rfl) (by kernel_rfl) (by kernel_rfl) (fun _ _ _ h => h) hHeld.out (yieldsIf_of rfl ?_) ?_
  rotate_left
  · (intro w hSw; go_simp <;> with_reducible rfl)
  try simp only [Act.put, List.setIfInBounds_toArray, List.set_cons_zero, List.set_cons_succ]
  refine wpAnyH_done (by kernel_rfl) ?_ _
  have HFI := Lib.hid (hHeld.out.2)
  clear hHeld
  go_wp2_with fail
  go_ret
  exact ⟨rfl, HFI.out⟩
set_option maxHeartbeats 8000000 in
theorem DataWords_out (x0 x1 x2 x3 x4 x5 x6 x7 x8 p v a lo y y0 y1 y2 y3 y4 y5 y6 y7 y8 : Int) (t : Bool) (hlo : 0 ≤ lo ∧ lo ≤ 64) (hc : ¬ lo < 64)
    (W1 : (∀ w, Calls Try.prog 15 #[.agg #[.int .u32 x0, .int .u32 x1, .int .u64 x2, .int .u64 x3, .int .u64 x4, .int .u64 x5, .int .u64 x6, .int .u64 x7, .int .u64 x8], .int .u32 p] w fun e w' => e = .returned (.tuple #[.int .u32 y, .bool t]) ∧ Below w.heap.size w w')) (W2 : (∀ w, Calls Try.prog 28 #[.agg #[.int .u32 x0, .int .u32 x1, .int .u64 x2, .int .u64 x3, .int .u64 x4, .int .u64 x5, .int .u64 x6, .int .u64 x7, .int .u64 x8], .int .u32 p] w fun e w' => e = .returned (.tuple #[.int .u32 y, .bool t]) ∧ Below w.heap.size w w')) (RL : (∀ w, Calls Try.prog 29 #[.int .i64 a] w fun e w' => e = .returned (.int .u32 lo) ∧ Below w.heap.size w w')) (WI : (∀ w, Calls Try.prog 30 #[.agg #[.int .u32 x0, .int .u32 x1, .int .u64 x2, .int .u64 x3, .int .u64 x4, .int .u64 x5, .int .u64 x6, .int .u64 x7, .int .u64 x8], .int .u32 p, .int .u32 v] w fun e w' => e = .returned (.agg #[.int .u32 y0, .int .u32 y1, .int .u64 y2, .int .u64 y3, .int .u64 y4, .int .u64 y5, .int .u64 y6, .int .u64 y7, .int .u64 y8]) ∧ Below w.heap.size w w')) (WR : (∀ w, Calls Try.prog 31 #[.agg #[.int .u32 x0, .int .u32 x1, .int .u64 x2, .int .u64 x3, .int .u64 x4, .int .u64 x5, .int .u64 x6, .int .u64 x7, .int .u64 x8], .int .u32 p, .int .u32 v] w fun e w' => e = .returned (.agg #[.int .u32 y0, .int .u32 y1, .int .u64 y2, .int .u64 y3, .int .u64 y4, .int .u64 y5, .int .u64 y6, .int .u64 y7, .int .u64 y8]) ∧ Below w.heap.size w w')) (LO : (∀ w, Calls Try.prog 16 #[.int .i64 a] w fun e w' => e = .returned (.int .u32 lo) ∧ Below w.heap.size w w')) (HG : (∀ w, Calls Try.prog 17 #[.int .i64 a] w fun e w' => e = .returned (.int .u32 lo) ∧ Below w.heap.size w w')) (w : World) :
    Calls Try.prog 11 #[.agg #[.int .u32 x0, .int .u32 x1, .int .u64 x2, .int .u64 x3, .int .u64 x4, .int .u64 x5, .int .u64 x6, .int .u64 x7, .int .u64 x8], .int .u32 p, .int .u32 v, .int .i64 a] w fun e w' => e = .returned (.bool true) ∧ Below w.heap.size w w' := by
  replace W1 := Lib.hid W1
  replace W2 := Lib.hid W2
  replace RL := Lib.hid RL
  replace WI := Lib.hid WI
  replace WR := Lib.hid WR
  replace LO := Lib.hid LO
  replace HG := Lib.hid HG
  have KN := Lib.hid knows_walk
  have HI := Lib.hid (info_data (.int .u32 x0) (.int .u32 x1) (.int .u64 x2) (.int .u64 x3) (.int .u64 x4) (.int .u64 x5) (.int .u64 x6) (.int .u64 x7) (.int .u64 x8))
  have q1 := Lib.hid (heap_alloc_new w (Obj.cells #[.int .u32 x0, .int .u32 x1, .int .u64 x2, .int .u64 x3, .int .u64 x4, .int .u64 x5, .int .u64 x6, .int .u64 x7, .int .u64 x8] 26))
  have q4 := Lib.hid ((Below.refl w.heap.size w).alloc (Nat.le_refl _) (Obj.cells #[.int .u32 x0, .int .u32 x1, .int .u64 x2, .int .u64 x3, .int .u64 x4, .int .u64 x5, .int .u64 x6, .int .u64 x7, .int .u64 x8] 26))
  go_enter Try.func11, Try.ntmps11
  go_wp2_with (refine wpList_load_row rfl 26 (.tmp 4) rfl _ rfl _ _ _ _ q1.out Try.underlying26 rfl HI.out ?_)
  refine (W1.out _).mono ?_
  rintro e w1 ⟨rfl, hb⟩
  have a1 := Lib.hid (blk_below q1.out hb)
  have b1 := Lib.hid (below_more q4.out (Nat.le_refl _) hb)
  clear hb q1 q4
  go_wp2_with (refine wpList_load_row rfl 26 (.tmp 4) rfl _ rfl _ _ _ _ a1.out Try.underlying26 rfl HI.out ?_)
  refine (W2.out _).mono ?_
  rintro e w2 ⟨rfl, hb⟩
  have a2 := Lib.hid (blk_below a1.out hb)
  have b2 := Lib.hid (below_more b1.out (Nat.le_refl _) hb)
  clear hb a1 b1
  go_wp2_with fail
  refine (RL.out _).mono ?_
  rintro e w3 ⟨rfl, hb⟩
  have a3 := Lib.hid (blk_below a2.out hb)
  have b3 := Lib.hid (below_more b2.out (Nat.le_refl _) hb)
  clear hb a2 b2
  have hw4 : (lo + 4) % 4294967296 = lo + 4 := by omega
  have hw5 : IntKind.u32.wrap (lo + 4) = lo + 4 := by rw [IntKind.wrap_u32]; omega
  have hE : eqDB y0 y1 y2 y3 y4 y5 y6 y7 y8 y0 y1 y2 y3 y4 y5 y6 y7 y8 = true := (eqDB_iff y0 y1 y2 y3 y4 y5 y6 y7 y8 y0 y1 y2 y3 y4 y5 y6 y7 y8).2 ⟨rfl, rfl, rfl, rfl, rfl, rfl, rfl, rfl, rfl⟩
  go_wp2_with fail
  refine wp_region_held_drew (S := (fun w' => (w'.heap[w.heap.size]? = some (.cells #[.int .u32 x0, .int .u32 x1, .int .u64 x2, .int .u64 x3, .int .u64 x4, .int .u64 x5, .int .u64 x6, .int .u64 x7, .int .u64 x8] 26 (0, 0))) ∧ (Below w.heap.size w w'))) (by kernel_rfl) ⟨a3.out, b3.out.drew⟩ (fun hNew => ?_)
  have hHeld := Lib.hid hNew
  clear hNew
  refine wpAnyH_takeL 0 (v := ?_) rfl (by kernel_rfl) (by kernel_rfl) (by kernel_rfl) (fun _ _ _ h => h) hHeld.out (yieldsIf_of rfl ?_) ?_
  rotate_left
  · (intro w hSw; go_simp <;> with_reducible rfl)
  try simp only [Act.put, List.setIfInBounds_toArray, List.set_cons_zero, List.set_cons_succ]
  refine wpAnyH_takeL 1 (v := ?_) rfl (by kernel_rfl) (by kernel_rfl) (by kernel_rfl) (fun _ _ _ h => h) hHeld.out (yieldsIf_of rfl ?_) ?_
  rotate_left
  · (intro w hSw; go_simp <;> with_reducible rfl)
  try simp only [Act.put, List.setIfInBounds_toArray, List.set_cons_zero, List.set_cons_succ]
  refine wpAnyH_takeL 2 (v := ?_) rfl (by kernel_rfl) (by kernel_rfl) (by kernel_rfl) (fun _ _ _ h => h) hHeld.out (yieldsIf_of rfl ?_) ?_
  rotate_left
  · (intro w hSw; go_simp <;> with_reducible rfl)
  try simp only [Act.put, List.setIfInBounds_toArray, List.set_cons_zero, List.set_cons_succ]
  refine wpAnyH_takeL 3 (v := ?_) rfl (by kernel_rfl) (by kernel_rfl) (by kernel_rfl) (fun _ _ _ h => h) hHeld.out (yieldsIf_of rfl ?_) ?_
  rotate_left
  · (intro w hSw; go_simp <;> with_reducible rfl)
  try simp only [Act.put, List.setIfInBounds_toArray, List.set_cons_zero, List.set_cons_succ]
  refine wpAnyH_takeL 4 (v := ?_) rfl (by kernel_rfl) (by kernel_rfl) (by kernel_rfl) (fun _ _ _ h => h) hHeld.out (yieldsIf_of rfl ?_) ?_
  rotate_left
  · (intro w hSw; go_simp <;> with_reducible rfl)
  try simp only [Act.put, List.setIfInBounds_toArray, List.set_cons_zero, List.set_cons_succ]
  refine wpAnyH_takeL 5 (v := ?_) rfl (by kernel_rfl) (by kernel_rfl) (by kernel_rfl) (fun _ _ _ h => h) hHeld.out (yieldsIf_of rfl ?_) ?_
  rotate_left
  · (intro w hSw; go_simp <;> with_reducible rfl)
  try simp only [Act.put, List.setIfInBounds_toArray, List.set_cons_zero, List.set_cons_succ]
  refine wpAnyH_takeL 6 (v := ?_) rfl (by kernel_rfl) (by kernel_rfl) (by kernel_rfl) (fun _ _ _ h => h) hHeld.out (yieldsIf_of rfl ?_) ?_
  rotate_left
  · (intro w hSw; go_simp <;> with_reducible rfl)
  try simp only [Act.put, List.setIfInBounds_toArray, List.set_cons_zero, List.set_cons_succ]
  refine wpAnyH_takeL 7 (v := ?_) rfl (by kernel_rfl) (by kernel_rfl) (by kernel_rfl) (fun _ _ _ h => h) hHeld.out (yieldsIf_of rfl ?_) ?_
  rotate_left
  · (intro w hSw; go_simp <;> with_reducible rfl)
  try simp only [Act.put, List.setIfInBounds_toArray, List.set_cons_zero, List.set_cons_succ]
  refine wpAnyH_takeL 8 (v := ?_) rfl (by kernel_rfl) (by kernel_rfl) (by kernel_rfl) (fun _ _ _ h => h) hHeld.out (yieldsIf_of rfl ?_) ?_
  rotate_left
  · (intro w hSw; go_simp <;> with_reducible rfl)
  try simp only [Act.put, List.setIfInBounds_toArray, List.set_cons_zero, List.set_cons_succ]
  refine wpAnyH_takeL 9 rfl (by kernel_rfl) (by kernel_rfl) (by kernel_rfl) (fun _ _ _ h => h) hHeld.out (yieldsIf_row rfl 26 (.tmp 4) rfl _ rfl _ #[.int .u32 x0, .int .u32 x1, .int .u64 x2, .int .u64 x3, .int .u64 x4, .int .u64 x5, .int .u64 x6, .int .u64 x7, .int .u64 x8] _ _ (fun _ h => h.1) Try.underlying26 rfl HI.out) ?_
  try simp only [Act.put, List.setIfInBounds_toArray, List.set_cons_zero, List.set_cons_succ]
  refine wpAnyH_takeL 10 (v := ?_) rfl (by kernel_rfl) (by kernel_rfl) (by kernel_rfl) (fun _ _ _ h => h) hHeld.out (yieldsIf_of rfl ?_) ?_
  rotate_left
  · (intro w hSw; go_simp <;> with_reducible rfl)
  try simp only [Act.put, List.setIfInBounds_toArray, List.set_cons_zero, List.set_cons_succ]
  refine wpAnyH_takeL 11 (v := ?_) rfl (by kernel_rfl) (by kernel_rfl) (by kernel_rfl) (fun _ _ _ h => h) hHeld.out (yieldsIf_of rfl ?_) ?_
  rotate_left
  · (intro w hSw; go_simp <;> with_reducible rfl)
  try simp only [Act.put, List.setIfInBounds_toArray, List.set_cons_zero, List.set_cons_succ]
  refine wpAnyH_takeL 13 rfl (by kernel_rfl) (by kernel_rfl) (by kernel_rfl) (fun _ _ _ h => h) hHeld.out (yieldsIf_row rfl 26 (.tmp 4) rfl _ rfl _ #[.int .u32 x0, .int .u32 x1, .int .u64 x2, .int .u64 x3, .int .u64 x4, .int .u64 x5, .int .u64 x6, .int .u64 x7, .int .u64 x8] _ _ (fun _ h => h.1) Try.underlying26 rfl HI.out) ?_
  try simp only [Act.put, List.setIfInBounds_toArray, List.set_cons_zero, List.set_cons_succ]
  refine wpAnyH_takeL 14 (v := ?_) rfl (by kernel_rfl) (by kernel_rfl) (by kernel_rfl) (fun _ _ _ h => h) hHeld.out (yieldsIf_of rfl ?_) ?_
  rotate_left
  · (intro w hSw; go_simp <;> with_reducible rfl)
  try simp only [Act.put, List.setIfInBounds_toArray, List.set_cons_zero, List.set_cons_succ]
  refine wpAnyH_takeL 15 (v := ?_) rfl (by kernel_rfl) (by kernel_rfl) (by kernel_rfl) (fun _ _ _ h => h) hHeld.out (yieldsIf_of rfl ?_) ?_
  rotate_left
  · (intro w hSw; go_simp <;> with_reducible rfl)
  try simp only [Act.put, List.setIfInBounds_toArray, List.set_cons_zero, List.set_cons_succ]
  refine wpAnyH_one 12 _ (by kernel_rfl) rfl (fun _ h => h) (fun K hK => ?_)
  go_simp
  refine (WI.out _).mono ?_
  rintro _ v78 ⟨rfl, hb⟩
  refine hK.out _ _ ⟨blk_below (hHeld.out.1) hb, below_more (hHeld.out.2) (Nat.le_refl _) hb⟩ (fun hNew => ?_)
  clear hK K hHeld hb
  have hHeld := Lib.hid hNew
  clear hNew
  try simp only [Act.put, List.setIfInBounds_toArray, List.set_cons_zero, List.set_cons_succ]
  refine wpAnyH_one 16 _ (by kernel_rfl) rfl (fun _ h => h) (fun K hK => ?_)
  go_simp
  refine (WR.out _).mono ?_
  rintro _ v79 ⟨rfl, hb⟩
  refine hK.out _ _ ⟨blk_below (hHeld.out.1) hb, below_more (hHeld.out.2) (Nat.le_refl _) hb⟩ (fun hNew => ?_)
  clear hK K hHeld hb
  have hHeld := Lib.hid hNew
  clear hNew
  try simp only [Act.put, List.setIfInBounds_toArray, List.set_cons_zero, List.set_cons_succ]
  refine wpAnyH_takeL 17 (v := ?_) rfl (by kernel_rfl) (by kernel_rfl) (by kernel_rfl) (fun _ _ _ h => h) hHeld.out (yieldsIf_of rfl ?_) ?_
  rotate_left
  · (intro w hSw; go_simp <;> with_reducible rfl)
  try simp only [Act.put, List.setIfInBounds_toArray, List.set_cons_zero, List.set_cons_succ]
  refine wpAnyH_takeL 18 (v := ?_) rfl (by kernel_rfl) (by kernel_rfl) (by kernel_rfl) (fun _ _ _ h => h) hHeld.out (yieldsIf_of rfl ?_) ?_
  rotate_left
  · (intro w hSw; go_simp <;> with_reducible rfl)
  try simp only [Act.put, List.setIfInBounds_toArray, List.set_cons_zero, List.set_cons_succ]
  refine wpAnyH_takeL 19 (v := ?_) rfl (by kernel_rfl) (by kernel_rfl) (by kernel_rfl) (fun _ _ _ h => h) hHeld.out (yieldsIf_of rfl ?_) ?_
  rotate_left
  · (intro w hSw; go_simp <;> with_reducible rfl)
  try simp only [Act.put, List.setIfInBounds_toArray, List.set_cons_zero, List.set_cons_succ]
  refine wpAnyH_takeL 20 (v := ?_) rfl (by kernel_rfl) (by kernel_rfl) (by kernel_rfl) (fun _ _ _ h => h) hHeld.out (yieldsIf_of rfl ?_) ?_
  rotate_left
  · (intro w hSw; go_simp <;> with_reducible rfl)
  try simp only [Act.put, List.setIfInBounds_toArray, List.set_cons_zero, List.set_cons_succ]
  refine wpAnyH_takeL 22 (v := ?_) rfl (by kernel_rfl) (by kernel_rfl) (by kernel_rfl) (fun _ _ _ h => h) hHeld.out (yieldsIf_of rfl ?_) ?_
  rotate_left
  · (intro w hSw; go_simp <;> with_reducible rfl)
  try simp only [Act.put, List.setIfInBounds_toArray, List.set_cons_zero, List.set_cons_succ]
  refine wpAnyH_one 21 _ (by kernel_rfl) rfl (fun _ h => h) (fun K hK => ?_)
  go_simp
  refine (LO.out _).mono ?_
  rintro _ v80 ⟨rfl, hb⟩
  refine hK.out _ _ ⟨blk_below (hHeld.out.1) hb, below_more (hHeld.out.2) (Nat.le_refl _) hb⟩ (fun hNew => ?_)
  clear hK K hHeld hb
  have hHeld := Lib.hid hNew
  clear hNew
  try simp only [Act.put, List.setIfInBounds_toArray, List.set_cons_zero, List.set_cons_succ]
  refine wpAnyH_takeL 23 (v := ?_) rfl (by kernel_rfl) (by kernel_rfl) (by kernel_rfl) (fun _ _ _ h => h) hHeld.out (yieldsIf_of rfl ?_) ?_
  rotate_left
  · (intro w hSw; go_simp <;> with_reducible rfl)
  try simp only [Act.put, List.setIfInBounds_toArray, List.set_cons_zero, List.set_cons_succ]
  refine wpAnyH_takeL 24 (v := ?_) rfl (by kernel_rfl) (by kernel_rfl) (by kernel_rfl) (fun _ _ _ h => h) hHeld.out (yieldsIf_of rfl ?_) ?_
  rotate_left
  · (intro w hSw; go_simp <;> with_reducible rfl)
  try simp only [Act.put, List.setIfInBounds_toArray, List.set_cons_zero, List.set_cons_succ]
  refine wpAnyH_takeL 25 (v := ?_) rfl (by kernel_rfl) (by kernel_rfl) (by kernel_rfl) (fun _ _ _ h => h) hHeld.out (yieldsIf_of rfl ?_) ?_
  rotate_left
  · (intro w hSw; go_simp <;> with_reducible rfl)
  try simp only [Act.put, List.setIfInBounds_toArray, List.set_cons_zero, List.set_cons_succ]
  refine wpAnyH_takeL 26 (v := ?_) rfl (by kernel_rfl) (by kernel_rfl) (by kernel_rfl) (fun _ _ _ h => h) hHeld.out (yieldsIf_of rfl ?_) ?_
  rotate_left
  · (intro w hSw; go_simp <;> with_reducible rfl)
  try simp only [Act.put, List.setIfInBounds_toArray, List.set_cons_zero, List.set_cons_succ]
  refine wpAnyH_takeL 28 (v := ?_) rfl (by kernel_rfl) (by kernel_rfl) (by kernel_rfl) (fun _ _ _ h => h) hHeld.out (yieldsIf_of rfl ?_) ?_
  rotate_left
  · (intro w hSw; go_simp <;> with_reducible rfl)
  try simp only [Act.put, List.setIfInBounds_toArray, List.set_cons_zero, List.set_cons_succ]
  refine wpAnyH_one 27 _ (by kernel_rfl) rfl (fun _ h => h) (fun K hK => ?_)
  go_simp
  refine (HG.out _).mono ?_
  rintro _ v81 ⟨rfl, hb⟩
  refine hK.out _ _ ⟨blk_below (hHeld.out.1) hb, below_more (hHeld.out.2) (Nat.le_refl _) hb⟩ (fun hNew => ?_)
  clear hK K hHeld hb
  have hHeld := Lib.hid hNew
  clear hNew
  try simp only [Act.put, List.setIfInBounds_toArray, List.set_cons_zero, List.set_cons_succ]
  refine wpAnyH_takeL 29 (v := ?_) rfl (by kernel_rfl) (by kernel_rfl) (by kernel_rfl) (fun _ _ _ h => h) hHeld.out (yieldsIf_of rfl ?_) ?_
  rotate_left
  · (intro w hSw; go_simp <;> with_reducible rfl)
  try simp only [Act.put, List.setIfInBounds_toArray, List.set_cons_zero, List.set_cons_succ]
  refine wpAnyH_takeL 30 (v := ?_) rfl (by kernel_rfl) (by kernel_rfl) (by kernel_rfl) (fun _ _ _ h => h) hHeld.out (yieldsIf_of rfl ?_) ?_
  rotate_left
  · (intro w hSw; go_simp <;> with_reducible rfl)
  try simp only [Act.put, List.setIfInBounds_toArray, List.set_cons_zero, List.set_cons_succ]
  refine wpAnyH_takeL 31 (v := ?_) rfl (by kernel_rfl) (by kernel_rfl) (by kernel_rfl) (fun _ _ _ h => h) hHeld.out (yieldsIf_of rfl ?_) ?_
  rotate_left
  · (intro w hSw; go_simp <;> with_reducible rfl)
  try simp only [Act.put, List.setIfInBounds_toArray, List.set_cons_zero, List.set_cons_succ]
  refine wpAnyH_one 32 _ (by kernel_rfl) rfl (fun _ h => h) (fun K hK => ?_)
  go_simp
  refine (KN.out _).mono ?_
  rintro _ v82 ⟨rfl, hb⟩
  refine hK.out _ _ ⟨blk_below (hHeld.out.1) hb, below_more (hHeld.out.2) (Nat.le_refl _) hb⟩ (fun hNew => ?_)
  clear hK K hHeld hb
  have hHeld := Lib.hid hNew
  clear hNew
  try simp only [Act.put, List.setIfInBounds_toArray, List.set_cons_zero, List.set_cons_succ]
  refine wpAnyH_takeL 33 (v := ?_) rfl (by kernel_rfl) (by kernel_rfl) (by kernel_rfl) (fun _ _ _ h => h) hHeld.out (yieldsIf_of rfl ?_) ?_
  rotate_left
  · (intro w hSw; go_simp <;> with_reducible rfl)
  try simp only [Act.put, List.setIfInBounds_toArray, List.set_cons_zero, List.set_cons_succ]
  refine wpAnyH_takeL 34 (v := ?_) rfl (by kernel_rfl) (by kernel_rfl) (by kernel_rfl) (fun _ _ _ h => h) hHeld.out (yieldsIf_of rfl ?_) ?_
  rotate_left
  · (intro w hSw; go_simp <;> with_reducible rfl)
  try simp only [Act.put, List.setIfInBounds_toArray, List.set_cons_zero, List.set_cons_succ]
  refine wpAnyH_done (by kernel_rfl) ?_ _
  have HFI := Lib.hid (hHeld.out.2)
  clear hHeld
  go_wp2_with fail
  go_ret
  exact ⟨rfl, HFI.out⟩
theorem DataWords_row (x0 x1 x2 x3 x4 x5 x6 x7 x8 : Int) (p v a : Int) (hd : IsD x0 x1 x2 [x3, x4, x5, x6, x7, x8]) (hp : 0 ≤ p ∧ p < 4294967296) (hv : 0 ≤ v ∧ v < 4294967296) (ha : -9223372036854775808 ≤ a ∧ a < 9223372036854775808) (w : World) :
    Calls Try.prog 11 #[.agg #[.int .u32 x0, .int .u32 x1, .int .u64 x2, .int .u64 x3, .int .u64 x4, .int .u64 x5, .int .u64 x6, .int .u64 x7, .int .u64 x8], .int .u32 p, .int .u32 v, .int .i64 a] w fun e w' => e = .returned (.bool true) ∧ Below w.heap.size w w' := by
  have h1 := fun w => Word_walk x0 x1 x2 x3 x4 x5 x6 x7 x8 hd p hp w
  have h2 := fun w => RWord_walk x0 x1 x2 x3 x4 x5 x6 x7 x8 hd p hp w
  have h3 := fun w => RLow04_walk a ha w
  have h4 := fun w => With_walk x0 x1 x2 x3 x4 x5 x6 x7 x8 p v hd hp hv w
  have h5 := fun w => RWith_walk x0 x1 x2 x3 x4 x5 x6 x7 x8 hd p v hp hv w
  have h6 := fun w => Low_walk a ha w
  have h7 := fun w => High_walk a ha w
  by_cases hc : a < 0 ∨ 6 ≤ a
  · rw [show lowI a = 64 from if_pos hc] at h3 h6
    rw [show highI a = 64 from if_pos hc] at h7
    exact DataWords_out x0 x1 x2 x3 x4 x5 x6 x7 x8 p v a 64 _ _ _ _ _ _ _ _ _ _ _ (by omega) (by omega) h1 h2 h3 h4 h5 h6 h7 w
  · rw [show lowI a = 16 + 8 * a from if_neg hc] at h3 h6
    rw [show highI a = 16 + 8 * a + 4 by unfold highI; rw [if_neg hc]; omega] at h7
    exact DataWords_in x0 x1 x2 x3 x4 x5 x6 x7 x8 p v a (16 + 8 * a) _ _ _ _ _ _ _ _ _ _ _ (by omega) (by omega) h1 h2 h3 h4 h5 h6 h7 w
end Go.Proofs.Ytgfmeiddicodoaa.H
