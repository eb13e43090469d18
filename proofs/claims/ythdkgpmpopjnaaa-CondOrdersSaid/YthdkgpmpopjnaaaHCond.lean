/-
Package cond: Holds, Not, Print.
-/
import Derived.Test.YthdkgpmpopjnaaaProg
import Derived.WalkKit
import Derived.WalkSpells
import Derived.WalkLawsBesides
import Derived.Handy
import Derived.Lib.Hide
import Derived.Deep.QuietTactic
import Derived.BigQuiet
import Derived.Test.YthdkgpmpopjnaaaHKinds
import Derived.Test.YthdkgpmpopjnaaaHStr
import Derived.Test.YthdkgpmpopjnaaaHText
import Derived.Test.YthdkgpmpopjnaaaWWords
set_option linter.unusedVariables false
set_option linter.unusedSimpArgs false
namespace Go.Proofs.Ythdkgpmpopjnaaa.H
open Go.RowKit Go.Proofs.YthdkgpmpopjnaaaW.PrintWords

theorem alloc2d (w : World) (A B : Obj) : ((w.alloc A).alloc B).heap[w.heap.size]? = some A ∧ ((w.alloc A).alloc B).heap[w.heap.size + 1]? = some B ∧ ((w.alloc A).alloc B).heap.size = w.heap.size + 2 ∧ Below w.heap.size w ((w.alloc A).alloc B) :=
  ⟨heap_alloc2_old w A B, heap_alloc2_new w A B, by simp, ((Below.refl _ _).alloc (Nat.le_refl _) _).alloc (by simp) _⟩

set_option maxHeartbeats 4000000 in
theorem Holds_yes (j k : Nat) (hj : (j : Int) < 6) (hk : (k : Int) < 6) (m v x : Int) (hx : 0 ≤ x ∧ x < 18446744073709551616) (hm : 0 ≤ m ∧ m < 18446744073709551616) (DR : Array Value) (hDR : DR[3 + j]? = some (.int .u64 x)) (KA : Array Value) (s : ByteArray) (n : Nat) (q : Int) (KS : Gives Try.prog 37 #[] (.agg KA)) (hix : ∀ w, (Instr.index 59 (.agg KA) (.int .i64 (k : Int))).run Try.prog w = .ok (.agg #[.string s, .func (Fn.func n) #[] #[], .int .i64 q]) w) (r : Bool) (RI : Gives Try.prog 14 #[.agg #[.int .i64 (j : Int), .int .i64 (k : Int), .int .u64 m, .int .u64 v]] (.bool true)) (CF : ∀ (args : Array Value) (W : World), (callFunc n args).run Try.prog W = .ok (.enter n args) W) (CL : Gives Try.prog n #[.int .u64 (bits .and .u64 x m), .int .u64 v] (.bool r)) (w : World) :
    Calls Try.prog 16 #[.agg #[.int .i64 (j : Int), .int .i64 (k : Int), .int .u64 m, .int .u64 v], .agg DR] w fun e w' => e = .returned (.bool r) ∧ Below w.heap.size w w' := by
  replace RI := Lib.hid RI
  replace KS := Lib.hid KS
  replace CL := Lib.hid CL
  replace hDR := Lib.hid hDR
  have HIC := Lib.hid (info_cond (.int .i64 (j : Int)) (.int .i64 (k : Int)) (.int .u64 m) (.int .u64 v))
  go_enter Try.func16, Try.ntmps16
  go_wp2_with fail
  obtain ⟨q1, q2, q3, q4⟩ := alloc2d w (Obj.cells #[.int .i64 (j : Int), .int .i64 (k : Int), .int .u64 m, .int .u64 v] 24) (Obj.cells DR 28)
  generalize (w.alloc (Obj.cells #[.int .i64 (j : Int), .int .i64 (k : Int), .int .u64 m, .int .u64 v] 24)).alloc (Obj.cells DR 28) = W2 at *
  replace q1 := Lib.hid q1
  replace q2 := Lib.hid q2
  replace q4 := Lib.hid q4
  clear q3
  have hfw := kind_word
  have hff := kind_fn
  have hfn := kind_not
  have hNewE : (Below w.heap.size w W2.drew) := q4.out.drew
  have hEx := Lib.hid hNewE
  clear hNewE
  refine Go.Proofs.YthdkgpmpopjnaaaW.PrintLast.wp_region_last_drew (S := fun w' => (w'.heap[w.heap.size]? = some (.cells #[.int .i64 (j : Int), .int .i64 (k : Int), .int .u64 m, .int .u64 v] 24 (0, 0))) ∧ (w'.heap[(w.heap.size + 1)]? = some (.cells DR 28 (0, 0)))) (ds := []) (by kernel_rfl) ⟨q1.out, q2.out⟩ (fun hNewS => ?_)
  have hHeld := Lib.hid hNewS
  clear hNewS
  refine lastTake 0 rfl (by kernel_rfl) (by kernel_rfl) (by kernel_rfl) (by kernel_rfl) (by kernel_rfl) (fun _ _ _ h => h) hHeld.out (yieldsIf_row rfl 24 (.tmp 2) rfl _ rfl _ #[.int .i64 (j : Int), .int .i64 (k : Int), .int .u64 m, .int .u64 v] _ _ (fun _ h => h.1) Try.underlying24 rfl HIC.out) ?_
  try simp only [Act.put, List.setIfInBounds_toArray, List.set_cons_zero, List.set_cons_succ]
  refine lastOne 1 (by kernel_rfl) rfl (by decide) (fun K hK => ?_)
  go_simp
  refine (RI.out _).mono ?_
  rintro _ v1 ⟨rfl, hb⟩
  have hNewE : (Below w.heap.size w v1) := below_more (hEx.out) (Nat.le_refl _) hb
  refine hK.out _ _ ⟨blk_below (hHeld.out.1) hb, blk_below (hHeld.out.2) hb⟩ (fun hNewS => ?_)
  clear hK K
  clear hHeld hEx
  have hHeld := Lib.hid hNewS
  have hEx := Lib.hid hNewE
  clear hNewS hNewE
  clear hb
  try simp only [Act.put, List.setIfInBounds_toArray, List.set_cons_zero, List.set_cons_succ]
  refine lastTake 2 (v := ?_) rfl (by kernel_rfl) (by kernel_rfl) (by kernel_rfl) (by kernel_rfl) (by kernel_rfl) (fun _ _ _ h => h) hHeld.out (yieldsIf_of rfl ?_) ?_
  rotate_left
  · (intro w hSw; go_simp <;> with_reducible rfl)
  try simp only [Act.put, List.setIfInBounds_toArray, List.set_cons_zero, List.set_cons_succ]
  refine lastTake 4 (v := ?_) rfl (by kernel_rfl) (by kernel_rfl) (by kernel_rfl) (by kernel_rfl) (by kernel_rfl) (fun _ _ _ h => h) hHeld.out (yieldsIf_of rfl ?_) ?_
  rotate_left
  · (intro w hSw; go_simp <;> with_reducible rfl)
  try simp only [Act.put, List.setIfInBounds_toArray, List.set_cons_zero, List.set_cons_succ]
  refine lastTake 5 rfl (by kernel_rfl) (by kernel_rfl) (by kernel_rfl) (by kernel_rfl) (by kernel_rfl) (fun _ _ _ h => h) hHeld.out (yieldsIf_cell rfl 3 (.tmp 9) rfl _ rfl (.int .i64 (k : Int)) _ (fun _ h => blk_cell h.1 1) Try.underlying3 rfl) ?_
  try simp only [Act.put, List.setIfInBounds_toArray, List.set_cons_zero, List.set_cons_succ]
  refine lastTake 8 (v := ?_) rfl (by kernel_rfl) (by kernel_rfl) (by kernel_rfl) (by kernel_rfl) (by kernel_rfl) (fun _ _ _ h => h) hHeld.out (yieldsIf_of rfl ?_) ?_
  rotate_left
  · (intro w hSw; go_simp <;> with_reducible rfl)
  try simp only [Act.put, List.setIfInBounds_toArray, List.set_cons_zero, List.set_cons_succ]
  refine lastTake 9 rfl (by kernel_rfl) (by kernel_rfl) (by kernel_rfl) (by kernel_rfl) (by kernel_rfl) (fun _ _ _ h => h) hHeld.out (yieldsIf_cell rfl 3 (.tmp 13) rfl _ rfl (.int .i64 (j : Int)) _ (fun _ h => blk_cell h.1 0) Try.underlying3 rfl) ?_
  try simp only [Act.put, List.setIfInBounds_toArray, List.set_cons_zero, List.set_cons_succ]
  refine lastTake 10 (v := ?_) rfl (by kernel_rfl) (by kernel_rfl) (by kernel_rfl) (by kernel_rfl) (by kernel_rfl) (fun _ _ _ h => h) hHeld.out (yieldsIf_of rfl ?_) ?_
  rotate_left
  · (intro w hSw; go_simp <;> with_reducible rfl)
  try simp only [Act.put, List.setIfInBounds_toArray, List.set_cons_zero, List.set_cons_succ]
  refine lastTake 11 (v := ?_) rfl (by kernel_rfl) (by kernel_rfl) (by kernel_rfl) (by kernel_rfl) (by kernel_rfl) (fun _ _ _ h => h) hHeld.out (yieldsIf_of rfl ?_) ?_
  rotate_left
  · (intro w hSw; go_simp <;> with_reducible rfl)
  try simp only [Act.put, List.setIfInBounds_toArray, List.set_cons_zero, List.set_cons_succ]
  refine lastTake 12 rfl (by kernel_rfl) (by kernel_rfl) (by kernel_rfl) (by kernel_rfl) (by kernel_rfl) (fun _ _ _ h => h) hHeld.out (yieldsIf_cell rfl 22 (.tmp 16) rfl _ rfl (.int .u64 x) _ (fun _ h => (blk_cell h.2 (3 + j)).trans hDR.out) Try.underlying22 rfl) ?_
  try simp only [Act.put, List.setIfInBounds_toArray, List.set_cons_zero, List.set_cons_succ]
  refine lastTake 13 (v := ?_) rfl (by kernel_rfl) (by kernel_rfl) (by kernel_rfl) (by kernel_rfl) (by kernel_rfl) (fun _ _ _ h => h) hHeld.out (yieldsIf_of rfl ?_) ?_
  rotate_left
  · (intro w hSw; go_simp <;> with_reducible rfl)
  try simp only [Act.put, List.setIfInBounds_toArray, List.set_cons_zero, List.set_cons_succ]
  refine lastTake 14 rfl (by kernel_rfl) (by kernel_rfl) (by kernel_rfl) (by kernel_rfl) (by kernel_rfl) (fun _ _ _ h => h) hHeld.out (yieldsIf_cell rfl 22 (.tmp 18) rfl _ rfl (.int .u64 m) _ (fun _ h => blk_cell h.1 2) Try.underlying22 rfl) ?_
  try simp only [Act.put, List.setIfInBounds_toArray, List.set_cons_zero, List.set_cons_succ]
  refine lastTake 15 (v := ?_) rfl (by kernel_rfl) (by kernel_rfl) (by kernel_rfl) (by kernel_rfl) (by kernel_rfl) (fun _ _ _ h => h) hHeld.out (yieldsIf_of rfl ?_) ?_
  rotate_left
  · (intro w hSw; go_simp <;> with_reducible rfl)
  try simp only [Act.put, List.setIfInBounds_toArray, List.set_cons_zero, List.set_cons_succ]
  refine lastTake 16 (v := ?_) rfl (by kernel_rfl) (by kernel_rfl) (by kernel_rfl) (by kernel_rfl) (by kernel_rfl) (fun _ _ _ h => h) hHeld.out (yieldsIf_of rfl ?_) ?_
  rotate_left
  · (intro w hSw; go_simp <;> with_reducible rfl)
  try simp only [Act.put, List.setIfInBounds_toArray, List.set_cons_zero, List.set_cons_succ]
  refine lastTake 17 rfl (by kernel_rfl) (by kernel_rfl) (by kernel_rfl) (by kernel_rfl) (by kernel_rfl) (fun _ _ _ h => h) hHeld.out (yieldsIf_cell rfl 22 (.tmp 21) rfl _ rfl (.int .u64 v) _ (fun _ h => blk_cell h.1 3) Try.underlying22 rfl) ?_
  try simp only [Act.put, List.setIfInBounds_toArray, List.set_cons_zero, List.set_cons_succ]
  refine lastOne 3 (by kernel_rfl) rfl (by decide) (fun K hK => ?_)
  go_simp
  refine (KS.out _).mono ?_
  rintro _ v2 ⟨rfl, hb⟩
  have hNewE : (Below w.heap.size w v2) := below_more (hEx.out) (Nat.le_refl _) hb
  refine hK.out _ _ ⟨blk_below (hHeld.out.1) hb, blk_below (hHeld.out.2) hb⟩ (fun hNewS => ?_)
  clear hK K
  clear hHeld hEx
  have hHeld := Lib.hid hNewS
  have hEx := Lib.hid hNewE
  clear hNewS hNewE
  clear hb
  try simp only [Act.put, List.setIfInBounds_toArray, List.set_cons_zero, List.set_cons_succ]
  refine lastTake 6 (v := ?_) rfl (by kernel_rfl) (by kernel_rfl) (by kernel_rfl) (by kernel_rfl) (by kernel_rfl) (fun _ _ _ h => h) hHeld.out (yieldsIf_of rfl ?_) ?_
  rotate_left
  · (intro w hSw; go_simp <;> with_reducible rfl)
  try simp only [Act.put, List.setIfInBounds_toArray, List.set_cons_zero, List.set_cons_succ]
  refine lastTake 7 (v := ?_) rfl (by kernel_rfl) (by kernel_rfl) (by kernel_rfl) (by kernel_rfl) (by kernel_rfl) (fun _ _ _ h => h) hHeld.out (yieldsIf_of rfl ?_) ?_
  rotate_left
  · (intro w hSw; go_simp <;> with_reducible rfl)
  try simp only [Act.put, List.setIfInBounds_toArray, List.set_cons_zero, List.set_cons_succ]
  refine lastOne 18 (by kernel_rfl) rfl (by decide) (fun K hK => ?_)
  go_simp
  refine (CL.out _).mono ?_
  rintro _ v3 ⟨rfl, hb⟩
  have hNewE : (Below w.heap.size w v3) := below_more (hEx.out) (Nat.le_refl _) hb
  refine hK.out _ _ ⟨blk_below (hHeld.out.1) hb, blk_below (hHeld.out.2) hb⟩ (fun hNewS => ?_)
  clear hK K
  clear hHeld hEx
  have hHeld := Lib.hid hNewS
  have hEx := Lib.hid hNewE
  clear hNewS hNewE
  clear hb
  try simp only [Act.put, List.setIfInBounds_toArray, List.set_cons_zero, List.set_cons_succ]
  refine lastTake 19 (v := ?_) rfl (by kernel_rfl) (by kernel_rfl) (by kernel_rfl) (by kernel_rfl) (by kernel_rfl) (fun _ _ _ h => h) hHeld.out (yieldsIf_of rfl ?_) ?_
  rotate_left
  · (intro w hSw; go_simp <;> with_reducible rfl)
  try simp only [Act.put, List.setIfInBounds_toArray, List.set_cons_zero, List.set_cons_succ]
  refine lastTake 20 (v := ?_) rfl (by kernel_rfl) (by kernel_rfl) (by kernel_rfl) (by kernel_rfl) (by kernel_rfl) (fun _ _ _ h => h) hHeld.out (yieldsIf_of rfl ?_) ?_
  rotate_left
  · (intro w hSw; go_simp <;> with_reducible rfl)
  try simp only [Act.put, List.setIfInBounds_toArray, List.set_cons_zero, List.set_cons_succ]
  refine Go.Proofs.YthdkgpmpopjnaaaW.PrintLast.wpAnyLast_done (by kernel_rfl) ?_ _
  have HFI := Lib.hid hEx.out
  clear hHeld hEx
  go_wp2_with fail
  go_ret
  exact ⟨rfl, HFI.out⟩
set_option maxHeartbeats 4000000 in
theorem Holds_no (arg cmp m v : Int) (DR : Array Value) (RI : Gives Try.prog 14 #[.agg #[.int .i64 arg, .int .i64 cmp, .int .u64 m, .int .u64 v]] (.bool false)) (w : World) :
    Calls Try.prog 16 #[.agg #[.int .i64 arg, .int .i64 cmp, .int .u64 m, .int .u64 v], .agg DR] w fun e w' => e = .returned (.bool false) ∧ Below w.heap.size w w' := by
  replace RI := Lib.hid RI
  have HIC := Lib.hid (info_cond (.int .i64 arg) (.int .i64 cmp) (.int .u64 m) (.int .u64 v))
  go_enter Try.func16, Try.ntmps16
  go_wp2_with fail
  obtain ⟨q1, q2, q3, q4⟩ := alloc2d w (Obj.cells #[.int .i64 arg, .int .i64 cmp, .int .u64 m, .int .u64 v] 24) (Obj.cells DR 28)
  generalize (w.alloc (Obj.cells #[.int .i64 arg, .int .i64 cmp, .int .u64 m, .int .u64 v] 24)).alloc (Obj.cells DR 28) = W2 at *
  replace q1 := Lib.hid q1
  replace q2 := Lib.hid q2
  replace q4 := Lib.hid q4
  clear q3
  have hfw := kind_word
  have hff := kind_fn
  have hfn := kind_not
  have hNewE : (Below w.heap.size w W2.drew) := q4.out.drew
  have hEx := Lib.hid hNewE
  clear hNewE
  refine Go.Proofs.YthdkgpmpopjnaaaW.PrintLast.wp_region_last_drew (S := fun w' => (w'.heap[w.heap.size]? = some (.cells #[.int .i64 arg, .int .i64 cmp, .int .u64 m, .int .u64 v] 24 (0, 0))) ∧ (w'.heap[(w.heap.size + 1)]? = some (.cells DR 28 (0, 0)))) (ds := []) (by kernel_rfl) ⟨q1.out, q2.out⟩ (fun hNewS => ?_)
  have hHeld := Lib.hid hNewS
  clear hNewS
  refine lastTake 0 rfl (by kernel_rfl) (by kernel_rfl) (by kernel_rfl) (by kernel_rfl) (by kernel_rfl) (fun _ _ _ h => h) hHeld.out (yieldsIf_row rfl 24 (.tmp 2) rfl _ rfl _ #[.int .i64 arg, .int .i64 cmp, .int .u64 m, .int .u64 v] _ _ (fun _ h => h.1) Try.underlying24 rfl HIC.out) ?_
  try simp only [Act.put, List.setIfInBounds_toArray, List.set_cons_zero, List.set_cons_succ]
  refine lastOne 1 (by kernel_rfl) rfl (by decide) (fun K hK => ?_)
  go_simp
  refine (RI.out _).mono ?_
  rintro _ v4 ⟨rfl, hb⟩
  have hNewE : (Below w.heap.size w v4) := below_more (hEx.out) (Nat.le_refl _) hb
  refine hK.out _ _ ⟨blk_below (hHeld.out.1) hb, blk_below (hHeld.out.2) hb⟩ (fun hNewS => ?_)
  clear hK K
  clear hHeld hEx
  have hHeld := Lib.hid hNewS
  have hEx := Lib.hid hNewE
  clear hNewS hNewE
  clear hb
  try simp only [Act.put, List.setIfInBounds_toArray, List.set_cons_zero, List.set_cons_succ]
  refine lastTake 2 (v := ?_) rfl (by kernel_rfl) (by kernel_rfl) (by kernel_rfl) (by kernel_rfl) (by kernel_rfl) (fun _ _ _ h => h) hHeld.out (yieldsIf_of rfl ?_) ?_
  rotate_left
  · (intro w hSw; go_simp <;> with_reducible rfl)
  try simp only [Act.put, List.setIfInBounds_toArray, List.set_cons_zero, List.set_cons_succ]
  refine lastTake 3 rfl (by kernel_rfl) (by kernel_rfl) (by kernel_rfl) (by kernel_rfl) (by kernel_rfl) (fun _ _ _ h => h) hHeld.out (yieldsIf_not rfl) ?_
  try simp only [Act.put, List.setIfInBounds_toArray, List.set_cons_zero, List.set_cons_succ]
  refine lastTake 4 rfl (by kernel_rfl) (by kernel_rfl) (by kernel_rfl) (by kernel_rfl) (by kernel_rfl) (fun _ _ _ h => h) hHeld.out (yieldsIf_not rfl) ?_
  try simp only [Act.put, List.setIfInBounds_toArray, List.set_cons_zero, List.set_cons_succ]
  refine lastTake 5 rfl (by kernel_rfl) (by kernel_rfl) (by kernel_rfl) (by kernel_rfl) (by kernel_rfl) (fun _ _ _ h => h) hHeld.out (yieldsIf_not rfl) ?_
  try simp only [Act.put, List.setIfInBounds_toArray, List.set_cons_zero, List.set_cons_succ]
  refine lastTake 6 rfl (by kernel_rfl) (by kernel_rfl) (by kernel_rfl) (by kernel_rfl) (by kernel_rfl) (fun _ _ _ h => h) hHeld.out (yieldsIf_not rfl) ?_
  try simp only [Act.put, List.setIfInBounds_toArray, List.set_cons_zero, List.set_cons_succ]
  refine lastTake 7 rfl (by kernel_rfl) (by kernel_rfl) (by kernel_rfl) (by kernel_rfl) (by kernel_rfl) (fun _ _ _ h => h) hHeld.out (yieldsIf_not rfl) ?_
  try simp only [Act.put, List.setIfInBounds_toArray, List.set_cons_zero, List.set_cons_succ]
  refine lastTake 8 rfl (by kernel_rfl) (by kernel_rfl) (by kernel_rfl) (by kernel_rfl) (by kernel_rfl) (fun _ _ _ h => h) hHeld.out (yieldsIf_not rfl) ?_
  try simp only [Act.put, List.setIfInBounds_toArray, List.set_cons_zero, List.set_cons_succ]
  refine lastTake 9 rfl (by kernel_rfl) (by kernel_rfl) (by kernel_rfl) (by kernel_rfl) (by kernel_rfl) (fun _ _ _ h => h) hHeld.out (yieldsIf_not rfl) ?_
  try simp only [Act.put, List.setIfInBounds_toArray, List.set_cons_zero, List.set_cons_succ]
  refine lastTake 10 rfl (by kernel_rfl) (by kernel_rfl) (by kernel_rfl) (by kernel_rfl) (by kernel_rfl) (fun _ _ _ h => h) hHeld.out (yieldsIf_not rfl) ?_
  try simp only [Act.put, List.setIfInBounds_toArray, List.set_cons_zero, List.set_cons_succ]
  refine lastTake 11 rfl (by kernel_rfl) (by kernel_rfl) (by kernel_rfl) (by kernel_rfl) (by kernel_rfl) (fun _ _ _ h => h) hHeld.out (yieldsIf_not rfl) ?_
  try simp only [Act.put, List.setIfInBounds_toArray, List.set_cons_zero, List.set_cons_succ]
  refine lastTake 12 rfl (by kernel_rfl) (by kernel_rfl) (by kernel_rfl) (by kernel_rfl) (by kernel_rfl) (fun _ _ _ h => h) hHeld.out (yieldsIf_not rfl) ?_
  try simp only [Act.put, List.setIfInBounds_toArray, List.set_cons_zero, List.set_cons_succ]
  refine lastTake 13 rfl (by kernel_rfl) (by kernel_rfl) (by kernel_rfl) (by kernel_rfl) (by kernel_rfl) (fun _ _ _ h => h) hHeld.out (yieldsIf_not rfl) ?_
  try simp only [Act.put, List.setIfInBounds_toArray, List.set_cons_zero, List.set_cons_succ]
  refine lastTake 14 rfl (by kernel_rfl) (by kernel_rfl) (by kernel_rfl) (by kernel_rfl) (by kernel_rfl) (fun _ _ _ h => h) hHeld.out (yieldsIf_not rfl) ?_
  try simp only [Act.put, List.setIfInBounds_toArray, List.set_cons_zero, List.set_cons_succ]
  refine lastTake 15 rfl (by kernel_rfl) (by kernel_rfl) (by kernel_rfl) (by kernel_rfl) (by kernel_rfl) (fun _ _ _ h => h) hHeld.out (yieldsIf_not rfl) ?_
  try simp only [Act.put, List.setIfInBounds_toArray, List.set_cons_zero, List.set_cons_succ]
  refine lastTake 16 rfl (by kernel_rfl) (by kernel_rfl) (by kernel_rfl) (by kernel_rfl) (by kernel_rfl) (fun _ _ _ h => h) hHeld.out (yieldsIf_not rfl) ?_
  try simp only [Act.put, List.setIfInBounds_toArray, List.set_cons_zero, List.set_cons_succ]
  refine lastTake 17 rfl (by kernel_rfl) (by kernel_rfl) (by kernel_rfl) (by kernel_rfl) (by kernel_rfl) (fun _ _ _ h => h) hHeld.out (yieldsIf_not rfl) ?_
  try simp only [Act.put, List.setIfInBounds_toArray, List.set_cons_zero, List.set_cons_succ]
  refine lastTake 18 rfl (by kernel_rfl) (by kernel_rfl) (by kernel_rfl) (by kernel_rfl) (by kernel_rfl) (fun _ _ _ h => h) hHeld.out (yieldsIf_not rfl) ?_
  try simp only [Act.put, List.setIfInBounds_toArray, List.set_cons_zero, List.set_cons_succ]
  refine lastTake 19 (v := ?_) rfl (by kernel_rfl) (by kernel_rfl) (by kernel_rfl) (by kernel_rfl) (by kernel_rfl) (fun _ _ _ h => h) hHeld.out (yieldsIf_of rfl ?_) ?_
  rotate_left
  · (intro w hSw; go_simp <;> with_reducible rfl)
  try simp only [Act.put, List.setIfInBounds_toArray, List.set_cons_zero, List.set_cons_succ]
  refine lastTake 20 (v := ?_) rfl (by kernel_rfl) (by kernel_rfl) (by kernel_rfl) (by kernel_rfl) (by kernel_rfl) (fun _ _ _ h => h) hHeld.out (yieldsIf_of rfl ?_) ?_
  rotate_left
  · (intro w hSw; go_simp <;> with_reducible rfl)
  try simp only [Act.put, List.setIfInBounds_toArray, List.set_cons_zero, List.set_cons_succ]
  refine Go.Proofs.YthdkgpmpopjnaaaW.PrintLast.wpAnyLast_done (by kernel_rfl) ?_ _
  have HFI := Lib.hid hEx.out
  clear hHeld hEx
  go_wp2_with fail
  go_ret
  exact ⟨rfl, HFI.out⟩
end Go.Proofs.Ythdkgpmpopjnaaa.H
