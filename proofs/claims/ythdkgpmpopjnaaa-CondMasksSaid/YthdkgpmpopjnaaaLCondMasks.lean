/-
CondMasks.
-/
import Derived.Test.YthdkgpmpopjnaaaProg
import Derived.WalkKit
import Derived.WalkSpells
import Derived.WalkLawsBesides
import Derived.Handy
import Derived.Lib.Hide
import Derived.Deep.QuietTactic
import Derived.BigQuiet
import Derived.Test.YthdkgpmpopjnaaaHRHolds
import Derived.Test.YthdkgpmpopjnaaaWWords
set_option linter.unusedVariables false
set_option linter.unusedSimpArgs false
namespace Go.Proofs.Ythdkgpmpopjnaaa.H
open Go.RowKit Go.Proofs.YthdkgpmpopjnaaaW.PrintWords

theorem alloc3d (w : World) (A B E : Obj) : (((w.alloc A).alloc B).alloc E).heap[w.heap.size]? = some A ∧ (((w.alloc A).alloc B).alloc E).heap[w.heap.size + 1]? = some B ∧ (((w.alloc A).alloc B).alloc E).heap[w.heap.size + 1 + 1]? = some E ∧ Below w.heap.size w (((w.alloc A).alloc B).alloc E) := by
  refine ⟨blk_alloc (alloc2d w A B).1 _, blk_alloc (alloc2d w A B).2.1 _, ?_, (alloc2d w A B).2.2.2.alloc (alloc2d w A B).2.2.2.size _⟩
  have h := heap_alloc_new ((w.alloc A).alloc B) E
  rw [(alloc2d w A B).2.2.1] at h
  exact h
set_option maxHeartbeats 4000000 in
theorem CondMasks_no (arg cmp m v : Int) (DR ER : Array Value) (RR : Gives Try.prog 15 #[.agg #[.int .i64 arg, .int .i64 cmp, .int .u64 m, .int .u64 v]] (.bool false)) (KN : Gives Try.prog 18 #[] (.bool true)) (w : World) :
    Calls Try.prog 8 #[.agg #[.int .i64 arg, .int .i64 cmp, .int .u64 m, .int .u64 v], .agg DR, .agg ER] w fun e w' => e = .returned (.bool true) ∧ Below w.heap.size w w' := by
  replace RR := Lib.hid RR
  replace KN := Lib.hid KN
  have HIC := Lib.hid (info_cond (.int .i64 arg) (.int .i64 cmp) (.int .u64 m) (.int .u64 v))
  have q1 := Lib.hid (alloc3d w (Obj.cells #[.int .i64 arg, .int .i64 cmp, .int .u64 m, .int .u64 v] 24) (Obj.cells DR 28) (Obj.cells ER 28)).1
  have q2 := Lib.hid (alloc3d w (Obj.cells #[.int .i64 arg, .int .i64 cmp, .int .u64 m, .int .u64 v] 24) (Obj.cells DR 28) (Obj.cells ER 28)).2.1
  have q3 := Lib.hid (alloc3d w (Obj.cells #[.int .i64 arg, .int .i64 cmp, .int .u64 m, .int .u64 v] 24) (Obj.cells DR 28) (Obj.cells ER 28)).2.2.1
  have q4 := Lib.hid (alloc3d w (Obj.cells #[.int .i64 arg, .int .i64 cmp, .int .u64 m, .int .u64 v] 24) (Obj.cells DR 28) (Obj.cells ER 28)).2.2.2
  go_enter Try.func8, Try.ntmps8
  go_wp2_with (refine wpList_load_row rfl 24 (.tmp 3) rfl _ rfl _ _ _ _ q1.out Try.underlying24 rfl HIC.out ?_)
  refine (RR.out _).mono ?_
  rintro e w1 ⟨rfl, hb⟩
  have q1_1 := Lib.hid (blk_below q1.out hb)
  have q2_1 := Lib.hid (blk_below q2.out hb)
  have q3_1 := Lib.hid (blk_below q3.out hb)
  have q4_1 := Lib.hid (below_more q4.out (Nat.le_refl _) hb)
  clear hb q1 q2 q3 q4
  go_wp2_with fail
  refine (KN.out _).mono ?_
  rintro e w2 ⟨rfl, hb⟩
  have q4_2 := Lib.hid (below_more q4_1.out (Nat.le_refl _) hb)
  clear hb  q4_1
  go_wp2_with fail
  go_ret
  exact ⟨rfl, q4_2.out⟩
set_option maxHeartbeats 4000000 in
theorem CondMasks_true (j : Nat) (hj : (j : Int) < 6) (cmp m v x y : Int) (hm : 0 ≤ m ∧ m < 18446744073709551616) (hx : 0 ≤ x ∧ x < 18446744073709551616) (hy : 0 ≤ y ∧ y < 18446744073709551616) (DR ER XR : Array Value) (hDR : DR[3 + j]? = some (.int .u64 x)) (hER : ER[3 + j]? = some (.int .u64 y)) (hXR : ER.setIfInBounds (3 + j) (.int .u64 (bits .or .u64 (bits .and .u64 x m) (bits .andNot .u64 y m))) = XR) (HID : (Try.prog.info? 28).map (·.size) = some DR.size) (HIE : (Try.prog.info? 28).map (·.size) = some ER.size) (HIX : (Try.prog.info? 28).map (·.size) = some XR.size) (hES : ER.size = 9) (hE1 : ∀ v ∈ ER.toList, v.oneCell' = true) (RR : Gives Try.prog 15 #[.agg #[.int .i64 (j : Int), .int .i64 cmp, .int .u64 m, .int .u64 v]] (.bool true)) (HX : Gives Try.prog 16 #[.agg #[.int .i64 (j : Int), .int .i64 cmp, .int .u64 m, .int .u64 v], .agg XR] (.bool true)) (HD : Gives Try.prog 16 #[.agg #[.int .i64 (j : Int), .int .i64 cmp, .int .u64 m, .int .u64 v], .agg DR] (.bool true)) (KN : Gives Try.prog 18 #[] (.bool true)) (w : World) :
    Calls Try.prog 8 #[.agg #[.int .i64 (j : Int), .int .i64 cmp, .int .u64 m, .int .u64 v], .agg DR, .agg ER] w fun e w' => e = .returned (.bool true) ∧ Below w.heap.size w w' := by
  replace RR := Lib.hid RR
  replace HX := Lib.hid HX
  replace HD := Lib.hid HD
  replace KN := Lib.hid KN
  replace HID := Lib.hid HID
  replace HIE := Lib.hid HIE
  replace HIX := Lib.hid HIX
  replace hES := Lib.hid hES
  replace hE1 := Lib.hid hE1
  replace hDR := Lib.hid hDR
  replace hER := Lib.hid hER
  replace hXR := Lib.hid hXR
  have HIC := Lib.hid (info_cond (.int .i64 (j : Int)) (.int .i64 cmp) (.int .u64 m) (.int .u64 v))
  have q1 := Lib.hid (alloc3d w (Obj.cells #[.int .i64 (j : Int), .int .i64 cmp, .int .u64 m, .int .u64 v] 24) (Obj.cells DR 28) (Obj.cells ER 28)).1
  have q2 := Lib.hid (alloc3d w (Obj.cells #[.int .i64 (j : Int), .int .i64 cmp, .int .u64 m, .int .u64 v] 24) (Obj.cells DR 28) (Obj.cells ER 28)).2.1
  have q3 := Lib.hid (alloc3d w (Obj.cells #[.int .i64 (j : Int), .int .i64 cmp, .int .u64 m, .int .u64 v] 24) (Obj.cells DR 28) (Obj.cells ER 28)).2.2.1
  have q4 := Lib.hid (alloc3d w (Obj.cells #[.int .i64 (j : Int), .int .i64 cmp, .int .u64 m, .int .u64 v] 24) (Obj.cells DR 28) (Obj.cells ER 28)).2.2.2
  go_enter Try.func8, Try.ntmps8
  go_wp2_with (refine wpList_load_row rfl 24 (.tmp 3) rfl _ rfl _ _ _ _ q1.out Try.underlying24 rfl HIC.out ?_)
  refine (RR.out _).mono ?_
  rintro e w1 ⟨rfl, hb⟩
  have q1_1 := Lib.hid (blk_below q1.out hb)
  have q2_1 := Lib.hid (blk_below q2.out hb)
  have q3_1 := Lib.hid (blk_below q3.out hb)
  have q4_1 := Lib.hid (below_more q4.out (Nat.le_refl _) hb)
  clear hb q1 q2 q3 q4
  obtain ⟨W3, hW3⟩ : ∃ W3, ((w1.alloc (Obj.cells #[.int .u32 0, .int .u32 0, .int .u64 0, .int .u64 0, .int .u64 0, .int .u64 0, .int .u64 0, .int .u64 0, .int .u64 0] 28)).setRow w1.heap.size ER) = W3 := ⟨_, rfl⟩
  have g1 := (row_setRow (cs := ER) (blk_alloc q1_1.out (Obj.cells #[.int .u32 0, .int .u32 0, .int .u64 0, .int .u64 0, .int .u64 0, .int .u64 0, .int .u64 0, .int .u64 0, .int .u64 0] 28)) (Nat.ne_of_lt (blk_lt q1_1.out)))
  rw [hW3] at g1
  have g2 := (row_setRow (cs := ER) (blk_alloc q2_1.out (Obj.cells #[.int .u32 0, .int .u32 0, .int .u64 0, .int .u64 0, .int .u64 0, .int .u64 0, .int .u64 0, .int .u64 0, .int .u64 0] 28)) (Nat.ne_of_lt (blk_lt q2_1.out)))
  rw [hW3] at g2
  have g3 := (row_setRow (cs := ER) (blk_alloc q3_1.out (Obj.cells #[.int .u32 0, .int .u32 0, .int .u64 0, .int .u64 0, .int .u64 0, .int .u64 0, .int .u64 0, .int .u64 0, .int .u64 0] 28)) (Nat.ne_of_lt (blk_lt q3_1.out)))
  rw [hW3] at g3
  have g5 := heap_setRow_same _ _ ER _ _ _ (heap_alloc_new w1 (Obj.cells #[.int .u32 0, .int .u32 0, .int .u64 0, .int .u64 0, .int .u64 0, .int .u64 0, .int .u64 0, .int .u64 0, .int .u64 0] 28))
  rw [hW3] at g5
  have g4 := below_setRow (cs := ER) (q4_1.out.alloc q4_1.out.size (Obj.cells #[.int .u32 0, .int .u32 0, .int .u64 0, .int .u64 0, .int .u64 0, .int .u64 0, .int .u64 0, .int .u64 0, .int .u64 0] 28)) q4_1.out.size
  rw [hW3] at g4
  have hle := Lib.hid q4_1.out.size
  have n1 := Lib.hid (Nat.ne_of_lt (blk_lt q1_1.out))
  have n2 := Lib.hid (Nat.ne_of_lt (blk_lt q2_1.out))
  have e3 := Lib.hid q3_1.out
  clear q1_1 q2_1 q3_1 q4_1
  have HW3 := Lib.hid hW3
  clear hW3
  replace g1 := Lib.hid g1
  replace g2 := Lib.hid g2
  replace g3 := Lib.hid g3
  replace g4 := Lib.hid g4
  replace g5 := Lib.hid g5
  go_wp2_with (first | (refine wpList_load_row rfl 28 (.tmp 5) rfl _ rfl _ _ _ _ e3.out Try.underlying28 rfl HIE.out ?_) | (refine wpList_store_row rfl 28 (.tmp 7) (.tmp 12) rfl rfl w1.heap.size rfl ER rfl _ _ (heap_alloc_new _ _) hES.out.symm HIE.out hE1.out ?_; rw [HW3.out]))
  clear HW3 e3
  generalize w1.heap.size = gx at *
  have hNewE : (W3.drew.heap[gx]? = some (.cells ER 28 (0, 0))) ∧ (Below w.heap.size w W3.drew) := ⟨g5.out, g4.out.drew⟩
  have hEx := Lib.hid hNewE
  clear hNewE
  refine Go.Proofs.YthdkgpmpopjnaaaW.PrintLast.wp_region_last_drew (S := fun w' => (w'.heap[w.heap.size]? = some (.cells #[.int .i64 (j : Int), .int .i64 cmp, .int .u64 m, .int .u64 v] 24 (0, 0))) ∧ (w'.heap[(w.heap.size + 1)]? = some (.cells DR 28 (0, 0))) ∧ (w'.heap[(w.heap.size + 1 + 1)]? = some (.cells ER 28 (0, 0)))) (ds := [21]) (by kernel_rfl) ⟨g1.out, g2.out, g3.out⟩ (fun hNewS => ?_)
  have hHeld := Lib.hid hNewS
  clear hNewS
  refine lastTake 0 (v := ?_) rfl (by kernel_rfl) (by kernel_rfl) (by kernel_rfl) (by kernel_rfl) (by kernel_rfl) (fun _ _ _ h => h) hHeld.out (yieldsIf_of rfl ?_) ?_
  rotate_left
  · (intro w hSw; go_simp <;> with_reducible rfl)
  try simp only [Act.put, List.setIfInBounds_toArray, List.set_cons_zero, List.set_cons_succ]
  refine lastTake 1 rfl (by kernel_rfl) (by kernel_rfl) (by kernel_rfl) (by kernel_rfl) (by kernel_rfl) (fun _ _ _ h => h) hHeld.out (yieldsIf_cell rfl 3 (.tmp 13) rfl _ rfl (.int .i64 (j : Int)) _ (fun _ h => (blk_cell h.1 0).trans rfl) Try.underlying3 rfl) ?_
  try simp only [Act.put, List.setIfInBounds_toArray, List.set_cons_zero, List.set_cons_succ]
  refine lastTake 2 (v := ?_) rfl (by kernel_rfl) (by kernel_rfl) (by kernel_rfl) (by kernel_rfl) (by kernel_rfl) (fun _ _ _ h => h) hHeld.out (yieldsIf_of rfl ?_) ?_
  rotate_left
  · (intro w hSw; go_simp <;> with_reducible rfl)
  try simp only [Act.put, List.setIfInBounds_toArray, List.set_cons_zero, List.set_cons_succ]
  refine lastTake 3 rfl (by kernel_rfl) (by kernel_rfl) (by kernel_rfl) (by kernel_rfl) (by kernel_rfl) (fun _ _ _ h => h) hHeld.out (yieldsIf_cell rfl 3 (.tmp 15) rfl _ rfl (.int .i64 (j : Int)) _ (fun _ h => (blk_cell h.1 0).trans rfl) Try.underlying3 rfl) ?_
  try simp only [Act.put, List.setIfInBounds_toArray, List.set_cons_zero, List.set_cons_succ]
  refine lastTake 4 (v := ?_) rfl (by kernel_rfl) (by kernel_rfl) (by kernel_rfl) (by kernel_rfl) (by kernel_rfl) (fun _ _ _ h => h) hHeld.out (yieldsIf_of rfl ?_) ?_
  rotate_left
  · (intro w hSw; go_simp <;> with_reducible rfl)
  try simp only [Act.put, List.setIfInBounds_toArray, List.set_cons_zero, List.set_cons_succ]
  refine lastTake 5 (v := ?_) rfl (by kernel_rfl) (by kernel_rfl) (by kernel_rfl) (by kernel_rfl) (by kernel_rfl) (fun _ _ _ h => h) hHeld.out (yieldsIf_of rfl ?_) ?_
  rotate_left
  · (intro w hSw; go_simp <;> with_reducible rfl)
  try simp only [Act.put, List.setIfInBounds_toArray, List.set_cons_zero, List.set_cons_succ]
  refine lastTake 6 rfl (by kernel_rfl) (by kernel_rfl) (by kernel_rfl) (by kernel_rfl) (by kernel_rfl) (fun _ _ _ h => h) hHeld.out (yieldsIf_cell rfl 22 (.tmp 18) rfl _ rfl (.int .u64 x) _ (fun _ h => (blk_cell h.2.1 (3 + j)).trans hDR.out) Try.underlying22 rfl) ?_
  try simp only [Act.put, List.setIfInBounds_toArray, List.set_cons_zero, List.set_cons_succ]
  refine lastTake 7 (v := ?_) rfl (by kernel_rfl) (by kernel_rfl) (by kernel_rfl) (by kernel_rfl) (by kernel_rfl) (fun _ _ _ h => h) hHeld.out (yieldsIf_of rfl ?_) ?_
  rotate_left
  · (intro w hSw; go_simp <;> with_reducible rfl)
  try simp only [Act.put, List.setIfInBounds_toArray, List.set_cons_zero, List.set_cons_succ]
  refine lastTake 8 rfl (by kernel_rfl) (by kernel_rfl) (by kernel_rfl) (by kernel_rfl) (by kernel_rfl) (fun _ _ _ h => h) hHeld.out (yieldsIf_cell rfl 22 (.tmp 20) rfl _ rfl (.int .u64 m) _ (fun _ h => (blk_cell h.1 2).trans rfl) Try.underlying22 rfl) ?_
  try simp only [Act.put, List.setIfInBounds_toArray, List.set_cons_zero, List.set_cons_succ]
  refine lastTake 9 (v := ?_) rfl (by kernel_rfl) (by kernel_rfl) (by kernel_rfl) (by kernel_rfl) (by kernel_rfl) (fun _ _ _ h => h) hHeld.out (yieldsIf_of rfl ?_) ?_
  rotate_left
  · (intro w hSw; go_simp <;> with_reducible rfl)
  try simp only [Act.put, List.setIfInBounds_toArray, List.set_cons_zero, List.set_cons_succ]
  refine lastTake 10 (v := ?_) rfl (by kernel_rfl) (by kernel_rfl) (by kernel_rfl) (by kernel_rfl) (by kernel_rfl) (fun _ _ _ h => h) hHeld.out (yieldsIf_of rfl ?_) ?_
  rotate_left
  · (intro w hSw; go_simp <;> with_reducible rfl)
  try simp only [Act.put, List.setIfInBounds_toArray, List.set_cons_zero, List.set_cons_succ]
  refine lastTake 11 rfl (by kernel_rfl) (by kernel_rfl) (by kernel_rfl) (by kernel_rfl) (by kernel_rfl) (fun _ _ _ h => h) hHeld.out (yieldsIf_cell rfl 3 (.tmp 23) rfl _ rfl (.int .i64 (j : Int)) _ (fun _ h => (blk_cell h.1 0).trans rfl) Try.underlying3 rfl) ?_
  try simp only [Act.put, List.setIfInBounds_toArray, List.set_cons_zero, List.set_cons_succ]
  refine lastTake 12 (v := ?_) rfl (by kernel_rfl) (by kernel_rfl) (by kernel_rfl) (by kernel_rfl) (by kernel_rfl) (fun _ _ _ h => h) hHeld.out (yieldsIf_of rfl ?_) ?_
  rotate_left
  · (intro w hSw; go_simp <;> with_reducible rfl)
  try simp only [Act.put, List.setIfInBounds_toArray, List.set_cons_zero, List.set_cons_succ]
  refine lastTake 13 (v := ?_) rfl (by kernel_rfl) (by kernel_rfl) (by kernel_rfl) (by kernel_rfl) (by kernel_rfl) (fun _ _ _ h => h) hHeld.out (yieldsIf_of rfl ?_) ?_
  rotate_left
  · (intro w hSw; go_simp <;> with_reducible rfl)
  try simp only [Act.put, List.setIfInBounds_toArray, List.set_cons_zero, List.set_cons_succ]
  refine lastTake 14 rfl (by kernel_rfl) (by kernel_rfl) (by kernel_rfl) (by kernel_rfl) (by kernel_rfl) (fun _ _ _ h => h) hHeld.out (yieldsIf_cell rfl 22 (.tmp 26) rfl _ rfl (.int .u64 y) _ (fun _ h => (blk_cell h.2.2 (3 + j)).trans hER.out) Try.underlying22 rfl) ?_
  try simp only [Act.put, List.setIfInBounds_toArray, List.set_cons_zero, List.set_cons_succ]
  refine lastTake 15 (v := ?_) rfl (by kernel_rfl) (by kernel_rfl) (by kernel_rfl) (by kernel_rfl) (by kernel_rfl) (fun _ _ _ h => h) hHeld.out (yieldsIf_of rfl ?_) ?_
  rotate_left
  · (intro w hSw; go_simp <;> with_reducible rfl)
  try simp only [Act.put, List.setIfInBounds_toArray, List.set_cons_zero, List.set_cons_succ]
  refine lastTake 16 rfl (by kernel_rfl) (by kernel_rfl) (by kernel_rfl) (by kernel_rfl) (by kernel_rfl) (fun _ _ _ h => h) hHeld.out (yieldsIf_cell rfl 22 (.tmp 28) rfl _ rfl (.int .u64 m) _ (fun _ h => (blk_cell h.1 2).trans rfl) Try.underlying22 rfl) ?_
  try simp only [Act.put, List.setIfInBounds_toArray, List.set_cons_zero, List.set_cons_succ]
  refine lastTake 17 (v := ?_) rfl (by kernel_rfl) (by kernel_rfl) (by kernel_rfl) (by kernel_rfl) (by kernel_rfl) (fun _ _ _ h => h) hHeld.out (yieldsIf_of rfl ?_) ?_
  rotate_left
  · (intro w hSw; go_simp <;> with_reducible rfl)
  try simp only [Act.put, List.setIfInBounds_toArray, List.set_cons_zero, List.set_cons_succ]
  refine lastTake 18 (v := ?_) rfl (by kernel_rfl) (by kernel_rfl) (by kernel_rfl) (by kernel_rfl) (by kernel_rfl) (fun _ _ _ h => h) hHeld.out (yieldsIf_of rfl ?_) ?_
  rotate_left
  · (intro w hSw; go_simp <;> with_reducible rfl)
  try simp only [Act.put, List.setIfInBounds_toArray, List.set_cons_zero, List.set_cons_succ]
  refine lastTake 19 (v := ?_) rfl (by kernel_rfl) (by kernel_rfl) (by kernel_rfl) (by kernel_rfl) (by kernel_rfl) (fun _ _ _ h => h) hHeld.out (yieldsIf_of rfl ?_) ?_
  rotate_left
  · (intro w hSw; go_simp <;> with_reducible rfl)
  try simp only [Act.put, List.setIfInBounds_toArray, List.set_cons_zero, List.set_cons_succ]
  refine lastTake 20 (v := ?_) rfl (by kernel_rfl) (by kernel_rfl) (by kernel_rfl) (by kernel_rfl) (by kernel_rfl) (fun _ _ _ h => h) hHeld.out (yieldsIf_of rfl ?_) ?_
  rotate_left
  · (intro w hSw; go_simp <;> with_reducible rfl)
  try simp only [Act.put, List.setIfInBounds_toArray, List.set_cons_zero, List.set_cons_succ]
  have hc3 : W3.drew.cell? ⟨gx, 3 + j, none⟩ = some (.int .u64 y) := (blk_cell hEx.out.1 (3 + j)).trans hER.out
  have hf3 : W3.drew.frozen? ⟨gx, 3 + j, none⟩ = false := blk_frozen hEx.out.1 (3 + j)
  refine lastEnd 21 (by kernel_rfl) rfl (by decide) (fun K hK => ?_)
  rw [if_pos (by rfl)]
  go_simp
  have hNewE : ((W3.drew.setCell ⟨gx, 3 + j, none⟩ (.int .u64 (bits .or .u64 (bits .and .u64 x m) (bits .andNot .u64 y m)))).heap[w.heap.size]? = some (.cells #[.int .i64 (j : Int), .int .i64 cmp, .int .u64 m, .int .u64 v] 24 (0, 0))) ∧ ((W3.drew.setCell ⟨gx, 3 + j, none⟩ (.int .u64 (bits .or .u64 (bits .and .u64 x m) (bits .andNot .u64 y m)))).heap[(w.heap.size + 1)]? = some (.cells DR 28 (0, 0))) ∧ ((W3.drew.setCell ⟨gx, 3 + j, none⟩ (.int .u64 (bits .or .u64 (bits .and .u64 x m) (bits .andNot .u64 y m)))).heap[gx]? = some (.cells XR 28 (0, 0))) ∧ (Below w.heap.size w (W3.drew.setCell ⟨gx, 3 + j, none⟩ (.int .u64 (bits .or .u64 (bits .and .u64 x m) (bits .andNot .u64 y m))))) := ⟨(heap_setCell_other _ _ _ _ n1.out).trans hHeld.out.1, (heap_setCell_other _ _ _ _ n2.out).trans hHeld.out.2.1, (by have hz := blk_set hEx.out.1 (3 + j) (.int .u64 (bits .or .u64 (bits .and .u64 x m) (bits .andNot .u64 y m))); rw [hXR.out] at hz; exact hz), (hEx.out.2).trans ⟨rfl, rfl, rfl, by simp [World.setCell], fun q hq => heap_setCell_other _ _ _ _ (by have := hle.out; simp; omega)⟩⟩
  refine hK.out _ _ ?_
  clear hK K
  clear hHeld hEx
  have hEx := Lib.hid hNewE
  clear hNewE
  clear hc3 hf3
  try simp only [Act.put, List.setIfInBounds_toArray, List.set_cons_zero, List.set_cons_succ]
  refine Go.Proofs.YthdkgpmpopjnaaaW.PrintLast.wpAnyLast_done (by kernel_rfl) ?_ _
  have G1 : (W3.setCell ⟨gx, 3 + j, none⟩ (.int .u64 (bits .or .u64 (bits .and .u64 x m) (bits .andNot .u64 y m)))).heap[w.heap.size]? = _ := (heap_setCell_other _ _ _ _ n1.out).trans g1.out
  have G2 : (W3.setCell ⟨gx, 3 + j, none⟩ (.int .u64 (bits .or .u64 (bits .and .u64 x m) (bits .andNot .u64 y m)))).heap[w.heap.size + 1]? = _ := (heap_setCell_other _ _ _ _ n2.out).trans g2.out
  have G5 := blk_set g5.out (3 + j) (.int .u64 (bits .or .u64 (bits .and .u64 x m) (bits .andNot .u64 y m)))
  rw [hXR.out] at G5
  have G4 : Below w.heap.size w (W3.setCell ⟨gx, 3 + j, none⟩ (.int .u64 (bits .or .u64 (bits .and .u64 x m) (bits .andNot .u64 y m)))) := g4.out.trans ⟨rfl, rfl, rfl, by simp [World.setCell], fun q hq => heap_setCell_other _ _ _ _ (by have := hle.out; simp; omega)⟩
  replace G1 := Lib.hid G1
  replace G2 := Lib.hid G2
  replace G5 := Lib.hid G5
  replace G4 := Lib.hid G4
  clear hEx g1 g2 g3 g4 g5 hDR hER hXR
  go_wp2_with fail
  generalize (W3.setCell ⟨gx, 3 + j, none⟩ (.int .u64 (bits .or .u64 (bits .and .u64 x m) (bits .andNot .u64 y m)))) = W5 at *
  refine wp_region_held_drew (S := (fun w' => (w'.heap[w.heap.size]? = some (.cells #[.int .i64 (j : Int), .int .i64 cmp, .int .u64 m, .int .u64 v] 24 (0, 0))) ∧ (w'.heap[(w.heap.size + 1)]? = some (.cells DR 28 (0, 0))) ∧ (w'.heap[gx]? = some (.cells XR 28 (0, 0))) ∧ (Below w.heap.size w w'))) (by kernel_rfl) ⟨G1.out, G2.out, G5.out, G4.out.drew.drew⟩ (fun hNew => ?_)
  have hHeld := Lib.hid hNew
  clear hNew
  refine wpAnyH_takeL 0 rfl (by kernel_rfl) (by kernel_rfl) (by kernel_rfl) (fun _ _ _ h => h) hHeld.out (yieldsIf_row rfl 24 (.tmp 3) rfl _ rfl _ #[.int .i64 (j : Int), .int .i64 cmp, .int .u64 m, .int .u64 v] _ _ (fun _ h => h.1) Try.underlying24 rfl HIC.out) ?_
  try simp only [Act.put, List.setIfInBounds_toArray, List.set_cons_zero, List.set_cons_succ]
  refine wpAnyH_takeL 1 rfl (by kernel_rfl) (by kernel_rfl) (by kernel_rfl) (fun _ _ _ h => h) hHeld.out (yieldsIf_row rfl 28 (.tmp 7) rfl _ rfl _ XR _ _ (fun _ h => h.2.2.1) Try.underlying28 rfl HIX.out) ?_
  try simp only [Act.put, List.setIfInBounds_toArray, List.set_cons_zero, List.set_cons_succ]
  refine wpAnyH_takeL 3 rfl (by kernel_rfl) (by kernel_rfl) (by kernel_rfl) (fun _ _ _ h => h) hHeld.out (yieldsIf_row rfl 24 (.tmp 3) rfl _ rfl _ #[.int .i64 (j : Int), .int .i64 cmp, .int .u64 m, .int .u64 v] _ _ (fun _ h => h.1) Try.underlying24 rfl HIC.out) ?_
  try simp only [Act.put, List.setIfInBounds_toArray, List.set_cons_zero, List.set_cons_succ]
  refine wpAnyH_takeL 4 rfl (by kernel_rfl) (by kernel_rfl) (by kernel_rfl) (fun _ _ _ h => h) hHeld.out (yieldsIf_row rfl 28 (.tmp 4) rfl _ rfl _ DR _ _ (fun _ h => h.2.1) Try.underlying28 rfl HID.out) ?_
  try simp only [Act.put, List.setIfInBounds_toArray, List.set_cons_zero, List.set_cons_succ]
  refine wpAnyH_one 2 _ (by kernel_rfl) rfl (fun _ h => h) (fun K hK => ?_)
  go_simp
  refine (HX.out _).mono ?_
  rintro _ v38 ⟨rfl, hb⟩
  refine hK.out _ _ ⟨blk_below (hHeld.out.1) hb, blk_below (hHeld.out.2.1) hb, blk_below (hHeld.out.2.2.1) hb, below_more (hHeld.out.2.2.2) (Nat.le_refl _) hb⟩ (fun hNew => ?_)
  clear hK K hHeld hb
  have hHeld := Lib.hid hNew
  clear hNew
  try simp only [Act.put, List.setIfInBounds_toArray, List.set_cons_zero, List.set_cons_succ]
  refine wpAnyH_one 5 _ (by kernel_rfl) rfl (fun _ h => h) (fun K hK => ?_)
  go_simp
  refine (HD.out _).mono ?_
  rintro _ v39 ⟨rfl, hb⟩
  refine hK.out _ _ ⟨blk_below (hHeld.out.1) hb, blk_below (hHeld.out.2.1) hb, blk_below (hHeld.out.2.2.1) hb, below_more (hHeld.out.2.2.2) (Nat.le_refl _) hb⟩ (fun hNew => ?_)
  clear hK K hHeld hb
  have hHeld := Lib.hid hNew
  clear hNew
  try simp only [Act.put, List.setIfInBounds_toArray, List.set_cons_zero, List.set_cons_succ]
  refine wpAnyH_takeL 6 (v := ?_) rfl (by kernel_rfl) (by kernel_rfl) (by kernel_rfl) (fun _ _ _ h => h) hHeld.out (yieldsIf_of rfl ?_) ?_
  rotate_left
  · (intro w hSw; go_simp <;> with_reducible rfl)
  try simp only [Act.put, List.setIfInBounds_toArray, List.set_cons_zero, List.set_cons_succ]
  refine wpAnyH_takeL 7 (v := ?_) rfl (by kernel_rfl) (by kernel_rfl) (by kernel_rfl) (fun _ _ _ h => h) hHeld.out (yieldsIf_of rfl ?_) ?_
  rotate_left
  · (intro w hSw; go_simp <;> with_reducible rfl)
  try simp only [Act.put, List.setIfInBounds_toArray, List.set_cons_zero, List.set_cons_succ]
  refine wpAnyH_one 8 _ (by kernel_rfl) rfl (fun _ h => h) (fun K hK => ?_)
  go_simp
  refine (KN.out _).mono ?_
  rintro _ v40 ⟨rfl, hb⟩
  refine hK.out _ _ ⟨blk_below (hHeld.out.1) hb, blk_below (hHeld.out.2.1) hb, blk_below (hHeld.out.2.2.1) hb, below_more (hHeld.out.2.2.2) (Nat.le_refl _) hb⟩ (fun hNew => ?_)
  clear hK K hHeld hb
  have hHeld := Lib.hid hNew
  clear hNew
  try simp only [Act.put, List.setIfInBounds_toArray, List.set_cons_zero, List.set_cons_succ]
  refine wpAnyH_takeL 9 (v := ?_) rfl (by kernel_rfl) (by kernel_rfl) (by kernel_rfl) (fun _ _ _ h => h) hHeld.out (yieldsIf_of rfl ?_) ?_
  rotate_left
  · (intro w hSw; go_simp <;> with_reducible rfl)
  try simp only [Act.put, List.setIfInBounds_toArray, List.set_cons_zero, List.set_cons_succ]
  refine wpAnyH_takeL 10 (v := ?_) rfl (by kernel_rfl) (by kernel_rfl) (by kernel_rfl) (fun _ _ _ h => h) hHeld.out (yieldsIf_of rfl ?_) ?_
  rotate_left
  · (intro w hSw; go_simp <;> with_reducible rfl)
  try simp only [Act.put, List.setIfInBounds_toArray, List.set_cons_zero, List.set_cons_succ]
  refine wpAnyH_done (by kernel_rfl) ?_ _
  have HFI := Lib.hid (hHeld.out.2.2.2)
  clear hHeld
  go_wp2_with fail
  go_ret
  exact ⟨rfl, HFI.out⟩
set_option maxHeartbeats 4000000 in
theorem CondMasks_false (j : Nat) (hj : (j : Int) < 6) (cmp m v x y : Int) (hm : 0 ≤ m ∧ m < 18446744073709551616) (hx : 0 ≤ x ∧ x < 18446744073709551616) (hy : 0 ≤ y ∧ y < 18446744073709551616) (DR ER XR : Array Value) (hDR : DR[3 + j]? = some (.int .u64 x)) (hER : ER[3 + j]? = some (.int .u64 y)) (hXR : ER.setIfInBounds (3 + j) (.int .u64 (bits .or .u64 (bits .and .u64 x m) (bits .andNot .u64 y m))) = XR) (HID : (Try.prog.info? 28).map (·.size) = some DR.size) (HIE : (Try.prog.info? 28).map (·.size) = some ER.size) (HIX : (Try.prog.info? 28).map (·.size) = some XR.size) (hES : ER.size = 9) (hE1 : ∀ v ∈ ER.toList, v.oneCell' = true) (RR : Gives Try.prog 15 #[.agg #[.int .i64 (j : Int), .int .i64 cmp, .int .u64 m, .int .u64 v]] (.bool true)) (HX : Gives Try.prog 16 #[.agg #[.int .i64 (j : Int), .int .i64 cmp, .int .u64 m, .int .u64 v], .agg XR] (.bool false)) (HD : Gives Try.prog 16 #[.agg #[.int .i64 (j : Int), .int .i64 cmp, .int .u64 m, .int .u64 v], .agg DR] (.bool false)) (KN : Gives Try.prog 18 #[] (.bool true)) (w : World) :
    Calls Try.prog 8 #[.agg #[.int .i64 (j : Int), .int .i64 cmp, .int .u64 m, .int .u64 v], .agg DR, .agg ER] w fun e w' => e = .returned (.bool true) ∧ Below w.heap.size w w' := by
  replace RR := Lib.hid RR
  replace HX := Lib.hid HX
  replace HD := Lib.hid HD
  replace KN := Lib.hid KN
  replace HID := Lib.hid HID
  replace HIE := Lib.hid HIE
  replace HIX := Lib.hid HIX
  replace hES := Lib.hid hES
  replace hE1 := Lib.hid hE1
  replace hDR := Lib.hid hDR
  replace hER := Lib.hid hER
  replace hXR := Lib.hid hXR
  have HIC := Lib.hid (info_cond (.int .i64 (j : Int)) (.int .i64 cmp) (.int .u64 m) (.int .u64 v))
  have q1 := Lib.hid (alloc3d w (Obj.cells #[.int .i64 (j : Int), .int .i64 cmp, .int .u64 m, .int .u64 v] 24) (Obj.cells DR 28) (Obj.cells ER 28)).1
  have q2 := Lib.hid (alloc3d w (Obj.cells #[.int .i64 (j : Int), .int .i64 cmp, .int .u64 m, .int .u64 v] 24) (Obj.cells DR 28) (Obj.cells ER 28)).2.1
  have q3 := Lib.hid (alloc3d w (Obj.cells #[.int .i64 (j : Int), .int .i64 cmp, .int .u64 m, .int .u64 v] 24) (Obj.cells DR 28) (Obj.cells ER 28)).2.2.1
  have q4 := Lib.hid (alloc3d w (Obj.cells #[.int .i64 (j : Int), .int .i64 cmp, .int .u64 m, .int .u64 v] 24) (Obj.cells DR 28) (Obj.cells ER 28)).2.2.2
  go_enter Try.func8, Try.ntmps8
  go_wp2_with (refine wpList_load_row rfl 24 (.tmp 3) rfl _ rfl _ _ _ _ q1.out Try.underlying24 rfl HIC.out ?_)
  refine (RR.out _).mono ?_
  rintro e w1 ⟨rfl, hb⟩
  have q1_1 := Lib.hid (blk_below q1.out hb)
  have q2_1 := Lib.hid (blk_below q2.out hb)
  have q3_1 := Lib.hid (blk_below q3.out hb)
  have q4_1 := Lib.hid (below_more q4.out (Nat.le_refl _) hb)
  clear hb q1 q2 q3 q4
  obtain ⟨W3, hW3⟩ : ∃ W3, ((w1.alloc (Obj.cells #[.int .u32 0, .int .u32 0, .int .u64 0, .int .u64 0, .int .u64 0, .int .u64 0, .int .u64 0, .int .u64 0, .int .u64 0] 28)).setRow w1.heap.size ER) = W3 := ⟨_, rfl⟩
  have g1 := (row_setRow (cs := ER) (blk_alloc q1_1.out (Obj.cells #[.int .u32 0, .int .u32 0, .int .u64 0, .int .u64 0, .int .u64 0, .int .u64 0, .int .u64 0, .int .u64 0, .int .u64 0] 28)) (Nat.ne_of_lt (blk_lt q1_1.out)))
  rw [hW3] at g1
  have g2 := (row_setRow (cs := ER) (blk_alloc q2_1.out (Obj.cells #[.int .u32 0, .int .u32 0, .int .u64 0, .int .u64 0, .int .u64 0, .int .u64 0, .int .u64 0, .int .u64 0, .int .u64 0] 28)) (Nat.ne_of_lt (blk_lt q2_1.out)))
  rw [hW3] at g2
  have g3 := (row_setRow (cs := ER) (blk_alloc q3_1.out (Obj.cells #[.int .u32 0, .int .u32 0, .int .u64 0, .int .u64 0, .int .u64 0, .int .u64 0, .int .u64 0, .int .u64 0, .int .u64 0] 28)) (Nat.ne_of_lt (blk_lt q3_1.out)))
  rw [hW3] at g3
  have g5 := heap_setRow_same _ _ ER _ _ _ (heap_alloc_new w1 (Obj.cells #[.int .u32 0, .int .u32 0, .int .u64 0, .int .u64 0, .int .u64 0, .int .u64 0, .int .u64 0, .int .u64 0, .int .u64 0] 28))
  rw [hW3] at g5
  have g4 := below_setRow (cs := ER) (q4_1.out.alloc q4_1.out.size (Obj.cells #[.int .u32 0, .int .u32 0, .int .u64 0, .int .u64 0, .int .u64 0, .int .u64 0, .int .u64 0, .int .u64 0, .int .u64 0] 28)) q4_1.out.size
  rw [hW3] at g4
  have hle := Lib.hid q4_1.out.size
  have n1 := Lib.hid (Nat.ne_of_lt (blk_lt q1_1.out))
  have n2 := Lib.hid (Nat.ne_of_lt (blk_lt q2_1.out))
  have e3 := Lib.hid q3_1.out
  clear q1_1 q2_1 q3_1 q4_1
  have HW3 := Lib.hid hW3
  clear hW3
  replace g1 := Lib.hid g1
  replace g2 := Lib.hid g2
  replace g3 := Lib.hid g3
  replace g4 := Lib.hid g4
  replace g5 := Lib.hid g5
  go_wp2_with (first | (refine wpList_load_row rfl 28 (.tmp 5) rfl _ rfl _ _ _ _ e3.out Try.underlying28 rfl HIE.out ?_) | (refine wpList_store_row rfl 28 (.tmp 7) (.tmp 12) rfl rfl w1.heap.size rfl ER rfl _ _ (heap_alloc_new _ _) hES.out.symm HIE.out hE1.out ?_; rw [HW3.out]))
  clear HW3 e3
  generalize w1.heap.size = gx at *
  have hNewE : (W3.drew.heap[gx]? = some (.cells ER 28 (0, 0))) ∧ (Below w.heap.size w W3.drew) := ⟨g5.out, g4.out.drew⟩
  have hEx := Lib.hid hNewE
  clear hNewE
  refine Go.Proofs.YthdkgpmpopjnaaaW.PrintLast.wp_region_last_drew (S := fun w' => (w'.heap[w.heap.size]? = some (.cells #[.int .i64 (j : Int), .int .i64 cmp, .int .u64 m, .int .u64 v] 24 (0, 0))) ∧ (w'.heap[(w.heap.size + 1)]? = some (.cells DR 28 (0, 0))) ∧ (w'.heap[(w.heap.size + 1 + 1)]? = some (.cells ER 28 (0, 0)))) (ds := [21]) (by kernel_rfl) ⟨g1.out, g2.out, g3.out⟩ (fun hNewS => ?_)
  have hHeld := Lib.hid hNewS
  clear hNewS
  refine lastTake 0 (v := ?_) rfl (by kernel_rfl) (by kernel_rfl) (by kernel_rfl) (by kernel_rfl) (by kernel_rfl) (fun _ _ _ h => h) hHeld.out (yieldsIf_of rfl ?_) ?_
  rotate_left
  · (intro w hSw; go_simp <;> with_reducible rfl)
  try simp only [Act.put, List.setIfInBounds_toArray, List.set_cons_zero, List.set_cons_succ]
  refine lastTake 1 rfl (by kernel_rfl) (by kernel_rfl) (by kernel_rfl) (by kernel_rfl) (by kernel_rfl) (fun _ _ _ h => h) hHeld.out (yieldsIf_cell rfl 3 (.tmp 13) rfl _ rfl (.int .i64 (j : Int)) _ (fun _ h => (blk_cell h.1 0).trans rfl) Try.underlying3 rfl) ?_
  try simp only [Act.put, List.setIfInBounds_toArray, List.set_cons_zero, List.set_cons_succ]
  refine lastTake 2 (v := ?_) rfl (by kernel_rfl) (by kernel_rfl) (by kernel_rfl) (by kernel_rfl) (by kernel_rfl) (fun _ _ _ h => h) hHeld.out (yieldsIf_of rfl ?_) ?_
  rotate_left
  · (intro w hSw; go_simp <;> with_reducible rfl)
  try simp only [Act.put, List.setIfInBounds_toArray, List.set_cons_zero, List.set_cons_succ]
  refine lastTake 3 rfl (by kernel_rfl) (by kernel_rfl) (by kernel_rfl) (by kernel_rfl) (by kernel_rfl) (fun _ _ _ h => h) hHeld.out (yieldsIf_cell rfl 3 (.tmp 15) rfl _ rfl (.int .i64 (j : Int)) _ (fun _ h => (blk_cell h.1 0).trans rfl) Try.underlying3 rfl) ?_
  try simp only [Act.put, List.setIfInBounds_toArray, List.set_cons_zero, List.set_cons_succ]
  refine lastTake 4 (v := ?_) rfl (by kernel_rfl) (by kernel_rfl) (by kernel_rfl) (by kernel_rfl) (by kernel_rfl) (fun _ _ _ h => h) hHeld.out (yieldsIf_of rfl ?_) ?_
  rotate_left
  · (intro w hSw; go_simp <;> with_reducible rfl)
  try simp only [Act.put, List.setIfInBounds_toArray, List.set_cons_zero, List.set_cons_succ]
  refine lastTake 5 (v := ?_) rfl (by kernel_rfl) (by kernel_rfl) (by kernel_rfl) (by kernel_rfl) (by kernel_rfl) (fun _ _ _ h => h) hHeld.out (yieldsIf_of rfl ?_) ?_
  rotate_left
  · (intro w hSw; go_simp <;> with_reducible rfl)
  try simp only [Act.put, List.setIfInBounds_toArray, List.set_cons_zero, List.set_cons_succ]
  refine lastTake 6 rfl (by kernel_rfl) (by kernel_rfl) (by kernel_rfl) (by kernel_rfl) (by kernel_rfl) (fun _ _ _ h => h) hHeld.out (yieldsIf_cell rfl 22 (.tmp 18) rfl _ rfl (.int .u64 x) _ (fun _ h => (blk_cell h.2.1 (3 + j)).trans hDR.out) Try.underlying22 rfl) ?_
  try simp only [Act.put, List.setIfInBounds_toArray, List.set_cons_zero, List.set_cons_succ]
  refine lastTake 7 (v := ?_) rfl (by kernel_rfl) (by kernel_rfl) (by kernel_rfl) (by kernel_rfl) (by kernel_rfl) (fun _ _ _ h => h) hHeld.out (yieldsIf_of rfl ?_) ?_
  rotate_left
  · (intro w hSw; go_simp <;> with_reducible rfl)
  try simp only [Act.put, List.setIfInBounds_toArray, List.set_cons_zero, List.set_cons_succ]
  refine lastTake 8 rfl (by kernel_rfl) (by kernel_rfl) (by kernel_rfl) (by kernel_rfl) (by kernel_rfl) (fun _ _ _ h => h) hHeld.out (yieldsIf_cell rfl 22 (.tmp 20) rfl _ rfl (.int .u64 m) _ (fun _ h => (blk_cell h.1 2).trans rfl) Try.underlying22 rfl) ?_
  try simp only [Act.put, List.setIfInBounds_toArray, List.set_cons_zero, List.set_cons_succ]
  refine lastTake 9 (v := ?_) rfl (by kernel_rfl) (by kernel_rfl) (by kernel_rfl) (by kernel_rfl) (by kernel_rfl) (fun _ _ _ h => h) hHeld.out (yieldsIf_of rfl ?_) ?_
  rotate_left
  · (intro w hSw; go_simp <;> with_reducible rfl)
  try simp only [Act.put, List.setIfInBounds_toArray, List.set_cons_zero, List.set_cons_succ]
  refine lastTake 10 (v := ?_) rfl (by kernel_rfl) (by kernel_rfl) (by kernel_rfl) (by kernel_rfl) (by kernel_rfl) (fun _ _ _ h => h) hHeld.out (yieldsIf_of rfl ?_) ?_
  rotate_left
  · (intro w hSw; go_simp <;> with_reducible rfl)
  try simp only [Act.put, List.setIfInBounds_toArray, List.set_cons_zero, List.set_cons_succ]
  refine lastTake 11 rfl (by kernel_rfl) (by kernel_rfl) (by kernel_rfl) (by kernel_rfl) (by kernel_rfl) (fun _ _ _ h => h) hHeld.out (yieldsIf_cell rfl 3 (.tmp 23) rfl _ rfl (.int .i64 (j : Int)) _ (fun _ h => (blk_cell h.1 0).trans rfl) Try.underlying3 rfl) ?_
  try simp only [Act.put, List.setIfInBounds_toArray, List.set_cons_zero, List.set_cons_succ]
  refine lastTake 12 (v := ?_) rfl (by kernel_rfl) (by kernel_rfl) (by kernel_rfl) (by kernel_rfl) (by kernel_rfl) (fun _ _ _ h => h) hHeld.out (yieldsIf_of rfl ?_) ?_
  rotate_left
  · (intro w hSw; go_simp <;> with_reducible rfl)
  try simp only [Act.put, List.setIfInBounds_toArray, List.set_cons_zero, List.set_cons_succ]
  refine lastTake 13 (v := ?_) rfl (by kernel_rfl) (by kernel_rfl) (by kernel_rfl) (by kernel_rfl) (by kernel_rfl) (fun _ _ _ h => h) hHeld.out (yieldsIf_of rfl ?_) ?_
  rotate_left
  · (intro w hSw; go_simp <;> with_reducible rfl)
  try simp only [Act.put, List.setIfInBounds_toArray, List.set_cons_zero, List.set_cons_succ]
  refine lastTake 14 rfl (by kernel_rfl) (by kernel_rfl) (by kernel_rfl) (by kernel_rfl) (by kernel_rfl) (fun _ _ _ h => h) hHeld.out (yieldsIf_cell rfl 22 (.tmp 26) rfl _ rfl (.int .u64 y) _ (fun _ h => (blk_cell h.2.2 (3 + j)).trans hER.out) Try.underlying22 rfl) ?_
  try simp only [Act.put, List.setIfInBounds_toArray, List.set_cons_zero, List.set_cons_succ]
  refine lastTake 15 (v := ?_) rfl (by kernel_rfl) (by kernel_rfl) (by kernel_rfl) (by kernel_rfl) (by kernel_rfl) (fun _ _ _ h => h) hHeld.out (yieldsIf_of rfl ?_) ?_
  rotate_left
  · (intro w hSw; go_simp <;> with_reducible rfl)
  try simp only [Act.put, List.setIfInBounds_toArray, List.set_cons_zero, List.set_cons_succ]
  refine lastTake 16 rfl (by kernel_rfl) (by kernel_rfl) (by kernel_rfl) (by kernel_rfl) (by kernel_rfl) (fun _ _ _ h => h) hHeld.out (yieldsIf_cell rfl 22 (.tmp 28) rfl _ rfl (.int .u64 m) _ (fun _ h => (blk_cell h.1 2).trans rfl) Try.underlying22 rfl) ?_
  try simp only [Act.put, List.setIfInBounds_toArray, List.set_cons_zero, List.set_cons_succ]
  refine lastTake 17 (v := ?_) rfl (by kernel_rfl) (by kernel_rfl) (by kernel_rfl) (by kernel_rfl) (by kernel_rfl) (fun _ _ _ h => h) hHeld.out (yieldsIf_of rfl ?_) ?_
  rotate_left
  · (intro w hSw; go_simp <;> with_reducible rfl)
  try simp only [Act.put, List.setIfInBounds_toArray, List.set_cons_zero, List.set_cons_succ]
  refine lastTake 18 (v := ?_) rfl (by kernel_rfl) (by kernel_rfl) (by kernel_rfl) (by kernel_rfl) (by kernel_rfl) (fun _ _ _ h => h) hHeld.out (yieldsIf_of rfl ?_) ?_
  rotate_left
  · (intro w hSw; go_simp <;> with_reducible rfl)
  try simp only [Act.put, List.setIfInBounds_toArray, List.set_cons_zero, List.set_cons_succ]
  refine lastTake 19 (v := ?_) rfl (by kernel_rfl) (by kernel_rfl) (by kernel_rfl) (by kernel_rfl) (by kernel_rfl) (fun _ _ _ h => h) hHeld.out (yieldsIf_of rfl ?_) ?_
  rotate_left
  · (intro w hSw; go_simp <;> with_reducible rfl)
  try simp only [Act.put, List.setIfInBounds_toArray, List.set_cons_zero, List.set_cons_succ]
  refine lastTake 20 (v := ?_) rfl (by kernel_rfl) (by kernel_rfl) (by kernel_rfl) (by kernel_rfl) (by kernel_rfl) (fun _ _ _ h => h) hHeld.out (yieldsIf_of rfl ?_) ?_
  rotate_left
  · (intro w hSw; go_simp <;> with_reducible rfl)
  try simp only [Act.put, List.setIfInBounds_toArray, List.set_cons_zero, List.set_cons_succ]
  have hc3 : W3.drew.cell? ⟨gx, 3 + j, none⟩ = some (.int .u64 y) := (blk_cell hEx.out.1 (3 + j)).trans hER.out
  have hf3 : W3.drew.frozen? ⟨gx, 3 + j, none⟩ = false := blk_frozen hEx.out.1 (3 + j)
  refine lastEnd 21 (by kernel_rfl) rfl (by decide) (fun K hK => ?_)
  rw [if_pos (by rfl)]
  go_simp
  have hNewE : ((W3.drew.setCell ⟨gx, 3 + j, none⟩ (.int .u64 (bits .or .u64 (bits .and .u64 x m) (bits .andNot .u64 y m)))).heap[w.heap.size]? = some (.cells #[.int .i64 (j : Int), .int .i64 cmp, .int .u64 m, .int .u64 v] 24 (0, 0))) ∧ ((W3.drew.setCell ⟨gx, 3 + j, none⟩ (.int .u64 (bits .or .u64 (bits .and .u64 x m) (bits .andNot .u64 y m)))).heap[(w.heap.size + 1)]? = some (.cells DR 28 (0, 0))) ∧ ((W3.drew.setCell ⟨gx, 3 + j, none⟩ (.int .u64 (bits .or .u64 (bits .and .u64 x m) (bits .andNot .u64 y m)))).heap[gx]? = some (.cells XR 28 (0, 0))) ∧ (Below w.heap.size w (W3.drew.setCell ⟨gx, 3 + j, none⟩ (.int .u64 (bits .or .u64 (bits .and .u64 x m) (bits .andNot .u64 y m))))) := ⟨(heap_setCell_other _ _ _ _ n1.out).trans hHeld.out.1, (heap_setCell_other _ _ _ _ n2.out).trans hHeld.out.2.1, (by have hz := blk_set hEx.out.1 (3 + j) (.int .u64 (bits .or .u64 (bits .and .u64 x m) (bits .andNot .u64 y m))); rw [hXR.out] at hz; exact hz), (hEx.out.2).trans ⟨rfl, rfl, rfl, by simp [World.setCell], fun q hq => heap_setCell_other _ _ _ _ (by have := hle.out; simp; omega)⟩⟩
  refine hK.out _ _ ?_
  clear hK K
  clear hHeld hEx
  have hEx := Lib.hid hNewE
  clear hNewE
  clear hc3 hf3
  try simp only [Act.put, List.setIfInBounds_toArray, List.set_cons_zero, List.set_cons_succ]
  refine Go.Proofs.YthdkgpmpopjnaaaW.PrintLast.wpAnyLast_done (by kernel_rfl) ?_ _
  have G1 : (W3.setCell ⟨gx, 3 + j, none⟩ (.int .u64 (bits .or .u64 (bits .and .u64 x m) (bits .andNot .u64 y m)))).heap[w.heap.size]? = _ := (heap_setCell_other _ _ _ _ n1.out).trans g1.out
  have G2 : (W3.setCell ⟨gx, 3 + j, none⟩ (.int .u64 (bits .or .u64 (bits .and .u64 x m) (bits .andNot .u64 y m)))).heap[w.heap.size + 1]? = _ := (heap_setCell_other _ _ _ _ n2.out).trans g2.out
  have G5 := blk_set g5.out (3 + j) (.int .u64 (bits .or .u64 (bits .and .u64 x m) (bits .andNot .u64 y m)))
  rw [hXR.out] at G5
  have G4 : Below w.heap.size w (W3.setCell ⟨gx, 3 + j, none⟩ (.int .u64 (bits .or .u64 (bits .and .u64 x m) (bits .andNot .u64 y m)))) := g4.out.trans ⟨rfl, rfl, rfl, by simp [World.setCell], fun q hq => heap_setCell_other _ _ _ _ (by have := hle.out; simp; omega)⟩
  replace G1 := Lib.hid G1
  replace G2 := Lib.hid G2
  replace G5 := Lib.hid G5
  replace G4 := Lib.hid G4
  clear hEx g1 g2 g3 g4 g5 hDR hER hXR
  go_wp2_with fail
  generalize (W3.setCell ⟨gx, 3 + j, none⟩ (.int .u64 (bits .or .u64 (bits .and .u64 x m) (bits .andNot .u64 y m)))) = W5 at *
  refine wp_region_held_drew (S := (fun w' => (w'.heap[w.heap.size]? = some (.cells #[.int .i64 (j : Int), .int .i64 cmp, .int .u64 m, .int .u64 v] 24 (0, 0))) ∧ (w'.heap[(w.heap.size + 1)]? = some (.cells DR 28 (0, 0))) ∧ (w'.heap[gx]? = some (.cells XR 28 (0, 0))) ∧ (Below w.heap.size w w'))) (by kernel_rfl) ⟨G1.out, G2.out, G5.out, G4.out.drew.drew⟩ (fun hNew => ?_)
  have hHeld := Lib.hid hNew
  clear hNew
  refine wpAnyH_takeL 0 rfl (by kernel_rfl) (by kernel_rfl) (by kernel_rfl) (fun _ _ _ h => h) hHeld.out (yieldsIf_row rfl 24 (.tmp 3) rfl _ rfl _ #[.int .i64 (j : Int), .int .i64 cmp, .int .u64 m, .int .u64 v] _ _ (fun _ h => h.1) Try.underlying24 rfl HIC.out) ?_
  try simp only [Act.put, List.setIfInBounds_toArray, List.set_cons_zero, List.set_cons_succ]
  refine wpAnyH_takeL 1 rfl (by kernel_rfl) (by kernel_rfl) (by kernel_rfl) (fun _ _ _ h => h) hHeld.out (yieldsIf_row rfl 28 (.tmp 7) rfl _ rfl _ XR _ _ (fun _ h => h.2.2.1) Try.underlying28 rfl HIX.out) ?_
  try simp only [Act.put, List.setIfInBounds_toArray, List.set_cons_zero, List.set_cons_succ]
  refine wpAnyH_takeL 3 rfl (by kernel_rfl) (by kernel_rfl) (by kernel_rfl) (fun _ _ _ h => h) hHeld.out (yieldsIf_row rfl 24 (.tmp 3) rfl _ rfl _ #[.int .i64 (j : Int), .int .i64 cmp, .int .u64 m, .int .u64 v] _ _ (fun _ h => h.1) Try.underlying24 rfl HIC.out) ?_
  try simp only [Act.put, List.setIfInBounds_toArray, List.set_cons_zero, List.set_cons_succ]
  refine wpAnyH_takeL 4 rfl (by kernel_rfl) (by kernel_rfl) (by kernel_rfl) (fun _ _ _ h => h) hHeld.out (yieldsIf_row rfl 28 (.tmp 4) rfl _ rfl _ DR _ _ (fun _ h => h.2.1) Try.underlying28 rfl HID.out) ?_
  try simp only [Act.put, List.setIfInBounds_toArray, List.set_cons_zero, List.set_cons_succ]
  refine wpAnyH_one 2 _ (by kernel_rfl) rfl (fun _ h => h) (fun K hK => ?_)
  go_simp
  refine (HX.out _).mono ?_
  rintro _ v41 ⟨rfl, hb⟩
  refine hK.out _ _ ⟨blk_below (hHeld.out.1) hb, blk_below (hHeld.out.2.1) hb, blk_below (hHeld.out.2.2.1) hb, below_more (hHeld.out.2.2.2) (Nat.le_refl _) hb⟩ (fun hNew => ?_)
  clear hK K hHeld hb
  have hHeld := Lib.hid hNew
  clear hNew
  try simp only [Act.put, List.setIfInBounds_toArray, List.set_cons_zero, List.set_cons_succ]
  refine wpAnyH_one 5 _ (by kernel_rfl) rfl (fun _ h => h) (fun K hK => ?_)
  go_simp
  refine (HD.out _).mono ?_
  rintro _ v42 ⟨rfl, hb⟩
  refine hK.out _ _ ⟨blk_below (hHeld.out.1) hb, blk_below (hHeld.out.2.1) hb, blk_below (hHeld.out.2.2.1) hb, below_more (hHeld.out.2.2.2) (Nat.le_refl _) hb⟩ (fun hNew => ?_)
  clear hK K hHeld hb
  have hHeld := Lib.hid hNew
  clear hNew
  try simp only [Act.put, List.setIfInBounds_toArray, List.set_cons_zero, List.set_cons_succ]
  refine wpAnyH_takeL 6 (v := ?_) rfl (by kernel_rfl) (by kernel_rfl) (by kernel_rfl) (fun _ _ _ h => h) hHeld.out (yieldsIf_of rfl ?_) ?_
  rotate_left
  · (intro w hSw; go_simp <;> with_reducible rfl)
  try simp only [Act.put, List.setIfInBounds_toArray, List.set_cons_zero, List.set_cons_succ]
  refine wpAnyH_takeL 7 (v := ?_) rfl (by kernel_rfl) (by kernel_rfl) (by kernel_rfl) (fun _ _ _ h => h) hHeld.out (yieldsIf_of rfl ?_) ?_
  rotate_left
  · (intro w hSw; go_simp <;> with_reducible rfl)
  try simp only [Act.put, List.setIfInBounds_toArray, List.set_cons_zero, List.set_cons_succ]
  refine wpAnyH_one 8 _ (by kernel_rfl) rfl (fun _ h => h) (fun K hK => ?_)
  go_simp
  refine (KN.out _).mono ?_
  rintro _ v43 ⟨rfl, hb⟩
  refine hK.out _ _ ⟨blk_below (hHeld.out.1) hb, blk_below (hHeld.out.2.1) hb, blk_below (hHeld.out.2.2.1) hb, below_more (hHeld.out.2.2.2) (Nat.le_refl _) hb⟩ (fun hNew => ?_)
  clear hK K hHeld hb
  have hHeld := Lib.hid hNew
  clear hNew
  try simp only [Act.put, List.setIfInBounds_toArray, List.set_cons_zero, List.set_cons_succ]
  refine wpAnyH_takeL 9 (v := ?_) rfl (by kernel_rfl) (by kernel_rfl) (by kernel_rfl) (fun _ _ _ h => h) hHeld.out (yieldsIf_of rfl ?_) ?_
  rotate_left
  · (intro w hSw; go_simp <;> with_reducible rfl)
  try simp only [Act.put, List.setIfInBounds_toArray, List.set_cons_zero, List.set_cons_succ]
  refine wpAnyH_takeL 10 (v := ?_) rfl (by kernel_rfl) (by kernel_rfl) (by kernel_rfl) (fun _ _ _ h => h) hHeld.out (yieldsIf_of rfl ?_) ?_
  rotate_left
  · (intro w hSw; go_simp <;> with_reducible rfl)
  try simp only [Act.put, List.setIfInBounds_toArray, List.set_cons_zero, List.set_cons_succ]
  refine wpAnyH_done (by kernel_rfl) ?_ _
  have HFI := Lib.hid (hHeld.out.2.2.2)
  clear hHeld
  go_wp2_with fail
  go_ret
  exact ⟨rfl, HFI.out⟩
theorem set_dat (nr ar ip : Int) (ags : List Int) (j : Nat) (z : Int) : (dataA nr ar ip ags).setIfInBounds (3 + j) (.int .u64 z) = dataA nr ar ip (ags.set j z) := by
  unfold dataA
  rw [List.setIfInBounds_toArray, show 3 + j = j + 1 + 1 + 1 by omega]
  simp [nums, List.map_set]
theorem one_data (nr ar ip : Int) (ags : List Int) : ∀ v ∈ (dataA nr ar ip ags).toList, v.oneCell' = true := by
  intro v hv
  simp [dataA, nums] at hv
  rcases hv with rfl | rfl | rfl | ⟨a, _, rfl⟩ <;> rfl
theorem mask_same (x y m : Int) (hx : u64P x) (hy : u64P y) (hm : u64P m) : u64P (bits .or .u64 (bits .and .u64 x m) (bits .andNot .u64 y m)) ∧ bits .and .u64 (bits .or .u64 (bits .and .u64 x m) (bits .andNot .u64 y m)) m = bits .and .u64 x m := by
  obtain ⟨a, rfl⟩ := Int.eq_ofNat_of_zero_le hx.1
  obtain ⟨b, rfl⟩ := Int.eq_ofNat_of_zero_le hy.1
  obtain ⟨c, rfl⟩ := Int.eq_ofNat_of_zero_le hm.1
  unfold u64P at *
  have ha : a < 2 ^ 64 := by omega
  have hb : b < 2 ^ 64 := by omega
  have hcc : c < 2 ^ 64 := by omega
  have b1 : a &&& c < 2 ^ 64 := Nat.lt_of_le_of_lt Nat.and_le_left ha
  have b2 : b &&& (18446744073709551615 - c) < 2 ^ 64 := Nat.lt_of_le_of_lt Nat.and_le_left hb
  have b3 := Nat.or_lt_two_pow b1 b2
  have e : ((a &&& c) ||| (b &&& (18446744073709551615 - c))) &&& c = a &&& c := by
    rw [show 18446744073709551615 - c = 2 ^ 64 - (c + 1) by omega]
    apply Nat.eq_of_testBit_eq
    intro i
    rw [Nat.testBit_and, Nat.testBit_or, Nat.testBit_and, Nat.testBit_and, Nat.testBit_two_pow_sub_succ hcc]
    cases a.testBit i <;> cases b.testBit i <;> cases c.testBit i <;> simp
  rw [u64_and_nat _ _ (by omega) (by omega), u64_andNot_nat _ _ (by omega) (by omega), u64_or_nat _ _ (by omega) (by omega), u64_and_nat _ _ (by omega) (by omega), e]
  exact ⟨⟨by omega, by omega⟩, rfl⟩
theorem isDat_set {nr ar ip : Int} {ags : List Int} (h : IsDat nr ar ip ags) (j : Nat) (z : Int) (hz : u64P z) : IsDat nr ar ip (ags.set j z) := by
  refine ⟨by rw [List.length_set]; exact h.len, h.nr, h.ar, h.ip, fun k => ?_⟩
  have := h.ags k
  rw [List.getD_eq_getElem?_getD] at this ⊢
  rw [List.getElem?_set]
  split
  · split
    · exact hz
    · exact ⟨by decide, by decide⟩
  · exact this
theorem CondMasks_row (a c m v x0 x1 x2 x3 x4 x5 x6 x7 x8 y0 y1 y2 y3 y4 y5 y6 y7 y8 : Int) (hc : IsCond a c m v) (hd : IsDat x0 x1 x2 [x3, x4, x5, x6, x7, x8]) (he : IsDat y0 y1 y2 [y3, y4, y5, y6, y7, y8]) (w : World) :
    Calls Try.prog 8 #[CV a c m v, .agg (dataA x0 x1 x2 [x3, x4, x5, x6, x7, x8]), .agg (dataA y0 y1 y2 [y3, y4, y5, y6, y7, y8])] w fun e w' => e = .returned (.bool true) ∧ Below w.heap.size w w' := by
  have h2 := RefRight_walk a c m v
  generalize [x3, x4, x5, x6, x7, x8] = xs at *
  generalize [y3, y4, y5, y6, y7, y8] = ys at *
  cases hr : rightB a c with
  | false =>
    rw [hr] at h2
    exact CondMasks_no a c m v _ _ h2 knows_walk w
  | true =>
    rw [hr] at h2
    have h3 := Holds_walk a c m v x0 x1 x2 _ hd hc.1
    obtain ⟨j, k, rfl, rfl, hj, hk⟩ := right_nats hr
    obtain ⟨z1, z2⟩ := mask_same (xs.getD j 0) (ys.getD j 0) m (hd.ags j) (he.ags j) hc.1
    generalize hz : bits .or .u64 (bits .and .u64 (xs.getD j 0) m) (bits .andNot .u64 (ys.getD j 0) m) = z at *
    have hde := isDat_set he j z z1
    have h4 := Holds_walk (j : Int) (k : Int) m v y0 y1 y2 _ hde hc.1
    have e : holdsB (j : Int) (k : Int) m v (ys.set j z) = holdsB (j : Int) (k : Int) m v xs := by
      unfold holdsB
      simp only [Int.toNat_natCast]
      rw [show (ys.set j z).getD j 0 = z by rw [List.getD_eq_getElem?_getD, List.getElem?_set_self (by rw [he.len]; exact hj)]; rfl, z2]
    rw [e] at h4
    generalize holdsB (j : Int) (k : Int) m v xs = q at *
    cases q
    · exact CondMasks_false j (by omega) (k : Int) m v _ _ hc.1 (hd.ags j) (he.ags j) _ _ _ (data_at x0 x1 x2 xs hd.len j hj) (data_at y0 y1 y2 ys he.len j hj) (by rw [hz]; exact set_dat _ _ _ _ _ _) (info_data _ _ _ _ hd.len) (info_data _ _ _ _ he.len) (info_data _ _ _ _ hde.len) (by simp [dataA, nums, he.len]) (one_data _ _ _ _) h2 h4 h3 knows_walk w
    · exact CondMasks_true j (by omega) (k : Int) m v _ _ hc.1 (hd.ags j) (he.ags j) _ _ _ (data_at x0 x1 x2 xs hd.len j hj) (data_at y0 y1 y2 ys he.len j hj) (by rw [hz]; exact set_dat _ _ _ _ _ _) (info_data _ _ _ _ hd.len) (info_data _ _ _ _ he.len) (info_data _ _ _ _ hde.len) (by simp [dataA, nums, he.len]) (one_data _ _ _ _) h2 h4 h3 knows_walk w
end Go.Proofs.Ythdkgpmpopjnaaa.H
