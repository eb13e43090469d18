/-
Package cond: Not.
-/
import Derived.Test.YthdkgpmpopjnaaaProg
import Derived.WalkKit
import Derived.WalkSpells
import Derived.WalkLawsBesides
import Derived.Handy
import Derived.Lib.Hide
import Derived.Deep.QuietTactic
import Derived.BigQuiet
import Derived.Test.YthdkgpmpopjnaaaHCond
import Derived.Test.YthdkgpmpopjnaaaWWords
set_option linter.unusedVariables false
set_option linter.unusedSimpArgs false
namespace Go.Proofs.Ythdkgpmpopjnaaa.H
open Go.RowKit Go.Proofs.YthdkgpmpopjnaaaW.PrintWords

set_option maxHeartbeats 4000000 in
theorem Not_no (arg cmp m v : Int) (RI : Gives Try.prog 14 #[.agg #[.int .i64 arg, .int .i64 cmp, .int .u64 m, .int .u64 v]] (.bool false)) (w : World) :
    Calls Try.prog 23 #[.agg #[.int .i64 arg, .int .i64 cmp, .int .u64 m, .int .u64 v]] w fun e w' => e = .returned (.agg #[.int .i64 arg, .int .i64 cmp, .int .u64 m, .int .u64 v]) ∧ Below w.heap.size w w' := by
  replace RI := Lib.hid RI
  have HIC := Lib.hid (info_cond (.int .i64 arg) (.int .i64 cmp) (.int .u64 m) (.int .u64 v))
  have HIR := Lib.hid (info_cond (.int .i64 arg) (.int .i64 cmp) (.int .u64 m) (.int .u64 v))
  have HOR := Lib.hid (one_cond arg cmp m v)
  have q1 := Lib.hid (alloc2d w (Obj.cells #[.int .i64 arg, .int .i64 cmp, .int .u64 m, .int .u64 v] 24) (Obj.cells #[.int .i64 0, .int .i64 0, .int .u64 0, .int .u64 0] 24)).1
  have q2 := Lib.hid (alloc2d w (Obj.cells #[.int .i64 arg, .int .i64 cmp, .int .u64 m, .int .u64 v] 24) (Obj.cells #[.int .i64 0, .int .i64 0, .int .u64 0, .int .u64 0] 24)).2.1
  have q4 := Lib.hid (alloc2d w (Obj.cells #[.int .i64 arg, .int .i64 cmp, .int .u64 m, .int .u64 v] 24) (Obj.cells #[.int .i64 0, .int .i64 0, .int .u64 0, .int .u64 0] 24)).2.2.2
  go_enter Try.func23, Try.ntmps23
  go_wp2_with (refine wpList_load_row rfl 24 (.tmp 1) rfl _ rfl _ _ _ _ q1.out Try.underlying24 rfl HIC.out ?_)
  refine (RI.out _).mono ?_
  rintro e w1 ⟨rfl, hb⟩
  have p1 := Lib.hid (blk_below q1.out hb)
  have p2 := Lib.hid (blk_below q2.out hb)
  have p4 := Lib.hid (below_more q4.out (Nat.le_refl _) hb)
  clear hb q1 q2 q4
  go_wp2_with (first | (refine wpList_load_row rfl 24 (.tmp 1) rfl _ rfl _ _ _ _ p1.out Try.underlying24 rfl HIR.out ?_) | (refine wpList_store_row rfl 24 (.tmp 2) (.tmp 11) rfl rfl _ rfl #[.int .i64 arg, .int .i64 cmp, .int .u64 m, .int .u64 v] rfl _ _ p2.out rfl HIR.out HOR.out ?_))
  have hfin := heap_setRow_same _ (w.heap.size + 1) #[.int .i64 arg, .int .i64 cmp, .int .u64 m, .int .u64 v] _ 24 _ p2.out
  refine bodyPost_ret (results_cell_row rfl _ _ (w.heap.size + 1) _ _ _ _ rfl hfin Try.underlying24 rfl HIR.out) rfl ?_
  exact ⟨rfl, below_setRow p4.out (by omega)⟩
set_option maxHeartbeats 4000000 in
theorem Not_yes (j k : Nat) (hj : (j : Int) < 6) (hk : (k : Int) < 6) (m v : Int) (KA : Array Value) (s : ByteArray) (n : Nat) (q : Int) (KS : Gives Try.prog 37 #[] (.agg KA)) (hix : ∀ w, (Instr.index 59 (.agg KA) (.int .i64 (k : Int))).run Try.prog w = .ok (.agg #[.string s, .func (Fn.func n) #[] #[], .int .i64 q]) w) (RI : Gives Try.prog 14 #[.agg #[.int .i64 (j : Int), .int .i64 (k : Int), .int .u64 m, .int .u64 v]] (.bool true)) (w : World) :
    Calls Try.prog 23 #[.agg #[.int .i64 (j : Int), .int .i64 (k : Int), .int .u64 m, .int .u64 v]] w fun e w' => e = .returned (.agg #[.int .i64 (j : Int), .int .i64 q, .int .u64 m, .int .u64 v]) ∧ Below w.heap.size w w' := by
  replace RI := Lib.hid RI
  replace KS := Lib.hid KS
  have HIC := Lib.hid (info_cond (.int .i64 (j : Int)) (.int .i64 (k : Int)) (.int .u64 m) (.int .u64 v))
  have HIR := Lib.hid (info_cond (.int .i64 (j : Int)) (.int .i64 q) (.int .u64 m) (.int .u64 v))
  have HOR := Lib.hid (one_cond (j : Int) q m v)
  have q1 := Lib.hid (alloc2d w (Obj.cells #[.int .i64 (j : Int), .int .i64 (k : Int), .int .u64 m, .int .u64 v] 24) (Obj.cells #[.int .i64 0, .int .i64 0, .int .u64 0, .int .u64 0] 24)).1
  have q2 := Lib.hid (alloc2d w (Obj.cells #[.int .i64 (j : Int), .int .i64 (k : Int), .int .u64 m, .int .u64 v] 24) (Obj.cells #[.int .i64 0, .int .i64 0, .int .u64 0, .int .u64 0] 24)).2.1
  have q4 := Lib.hid (alloc2d w (Obj.cells #[.int .i64 (j : Int), .int .i64 (k : Int), .int .u64 m, .int .u64 v] 24) (Obj.cells #[.int .i64 0, .int .i64 0, .int .u64 0, .int .u64 0] 24)).2.2.2
  go_enter Try.func23, Try.ntmps23
  go_wp2_with (refine wpList_load_row rfl 24 (.tmp 1) rfl _ rfl _ _ _ _ q1.out Try.underlying24 rfl HIC.out ?_)
  refine (RI.out _).mono ?_
  rintro e w1 ⟨rfl, hb⟩
  have p1 := Lib.hid (blk_below q1.out hb)
  have p2 := Lib.hid (blk_below q2.out hb)
  have p4 := Lib.hid (below_more q4.out (Nat.le_refl _) hb)
  clear hb q1 q2 q4
  have hfw := kind_word
  have hff := kind_fn
  have hfn := kind_not
  go_wp2_with fail
  have hNewE : (w1.drew.heap[(w.heap.size + 1)]? = some (.cells #[.int .i64 0, .int .i64 0, .int .u64 0, .int .u64 0] 24 (0, 0))) ∧ (Below w.heap.size w w1.drew) := ⟨p2.out, p4.out.drew⟩
  have hEx := Lib.hid hNewE
  clear hNewE
  refine Go.Proofs.YthdkgpmpopjnaaaW.PrintLast.wp_region_last_drew (S := fun w' => (w'.heap[w.heap.size]? = some (.cells #[.int .i64 (j : Int), .int .i64 (k : Int), .int .u64 m, .int .u64 v] 24 (0, 0)))) (ds := [6]) (by kernel_rfl) p1.out (fun hNewS => ?_)
  have hHeld := Lib.hid hNewS
  clear hNewS
  refine lastTake 1 (v := ?_) rfl (by kernel_rfl) (by kernel_rfl) (by kernel_rfl) (by kernel_rfl) (by kernel_rfl) (fun _ _ _ h => h) hHeld.out (yieldsIf_of rfl ?_) ?_
  rotate_left
  · (intro w hSw; go_simp <;> with_reducible rfl)
  try simp only [Act.put, List.setIfInBounds_toArray, List.set_cons_zero, List.set_cons_succ]
  refine lastTake 2 rfl (by kernel_rfl) (by kernel_rfl) (by kernel_rfl) (by kernel_rfl) (by kernel_rfl) (fun _ _ _ h => h) hHeld.out (yieldsIf_cell rfl 3 (.tmp 6) rfl _ rfl (.int .i64 (k : Int)) _ (fun _ h => blk_cell h 1) Try.underlying3 rfl) ?_
  try simp only [Act.put, List.setIfInBounds_toArray, List.set_cons_zero, List.set_cons_succ]
  refine lastOne 0 (by kernel_rfl) rfl (by decide) (fun K hK => ?_)
  go_simp
  refine (KS.out _).mono ?_
  rintro _ v5 ⟨rfl, hb⟩
  have hNewE : (v5.heap[(w.heap.size + 1)]? = some (.cells #[.int .i64 0, .int .i64 0, .int .u64 0, .int .u64 0] 24 (0, 0))) ∧ (Below w.heap.size w v5) := ⟨blk_below (hEx.out.1) hb, below_more (hEx.out.2) (Nat.le_refl _) hb⟩
  refine hK.out _ _ (blk_below (hHeld.out) hb) (fun hNewS => ?_)
  clear hK K
  clear hHeld hEx
  have hHeld := Lib.hid hNewS
  have hEx := Lib.hid hNewE
  clear hNewS hNewE
  clear hb
  try simp only [Act.put, List.setIfInBounds_toArray, List.set_cons_zero, List.set_cons_succ]
  refine lastTake 3 (v := ?_) rfl (by kernel_rfl) (by kernel_rfl) (by kernel_rfl) (by kernel_rfl) (by kernel_rfl) (fun _ _ _ h => h) hHeld.out (yieldsIf_of rfl ?_) ?_
  rotate_left
  · (intro w hSw; go_simp <;> with_reducible rfl)
  try simp only [Act.put, List.setIfInBounds_toArray, List.set_cons_zero, List.set_cons_succ]
  refine lastTake 4 (v := ?_) rfl (by kernel_rfl) (by kernel_rfl) (by kernel_rfl) (by kernel_rfl) (by kernel_rfl) (fun _ _ _ h => h) hHeld.out (yieldsIf_of rfl ?_) ?_
  rotate_left
  · (intro w hSw; go_simp <;> with_reducible rfl)
  try simp only [Act.put, List.setIfInBounds_toArray, List.set_cons_zero, List.set_cons_succ]
  refine lastTake 5 (v := ?_) rfl (by kernel_rfl) (by kernel_rfl) (by kernel_rfl) (by kernel_rfl) (by kernel_rfl) (fun _ _ _ h => h) hHeld.out (yieldsIf_of rfl ?_) ?_
  rotate_left
  · (intro w hSw; go_simp <;> with_reducible rfl)
  try simp only [Act.put, List.setIfInBounds_toArray, List.set_cons_zero, List.set_cons_succ]
  have hc3 := (blk_cell hHeld.out 1 : v5.cell? ⟨w.heap.size, 1, none⟩ = _)
  have hf3 : v5.frozen? ⟨w.heap.size, 1, none⟩ = false := blk_frozen hHeld.out 1
  refine lastEnd 6 (by kernel_rfl) rfl (by decide) (fun K hK => ?_)
  rw [if_pos (by rfl)]
  go_simp
  have hNewE : ((v5.setCell ⟨w.heap.size, 1, none⟩ (.int .i64 q)).heap[w.heap.size]? = some (.cells #[.int .i64 (j : Int), .int .i64 q, .int .u64 m, .int .u64 v] 24 (0, 0))) ∧ ((v5.setCell ⟨w.heap.size, 1, none⟩ (.int .i64 q)).heap[(w.heap.size + 1)]? = some (.cells #[.int .i64 0, .int .i64 0, .int .u64 0, .int .u64 0] 24 (0, 0))) ∧ (Below w.heap.size w (v5.setCell ⟨w.heap.size, 1, none⟩ (.int .i64 q))) := ⟨blk_set hHeld.out 1 _, (heap_setCell_other _ _ _ _ (by simp)).trans hEx.out.1, (hEx.out.2).trans ⟨rfl, rfl, rfl, by simp [World.setCell], fun q hq => heap_setCell_other _ _ _ _ (by simp; omega)⟩⟩
  refine hK.out _ _ ?_
  clear hK K
  clear hHeld hEx
  have hEx := Lib.hid hNewE
  clear hNewE
  clear hc3 hf3
  try simp only [Act.put, List.setIfInBounds_toArray, List.set_cons_zero, List.set_cons_succ]
  refine Go.Proofs.YthdkgpmpopjnaaaW.PrintLast.wpAnyLast_done (by kernel_rfl) ?_ _
  have HEX := hEx
  clear hEx
  go_wp2_with (first | (refine wpList_load_row rfl 24 (.tmp 1) rfl _ rfl _ _ _ _ HEX.out.1 Try.underlying24 rfl HIR.out ?_) | (refine wpList_store_row rfl 24 (.tmp 2) (.tmp 11) rfl rfl _ rfl #[.int .i64 (j : Int), .int .i64 q, .int .u64 m, .int .u64 v] rfl _ _ HEX.out.2.1 rfl HIR.out HOR.out ?_))
  have hfin := heap_setRow_same _ (w.heap.size + 1) #[.int .i64 (j : Int), .int .i64 q, .int .u64 m, .int .u64 v] _ 24 _ HEX.out.2.1
  refine bodyPost_ret (results_cell_row rfl _ _ (w.heap.size + 1) _ _ _ _ rfl hfin Try.underlying24 rfl HIR.out) rfl ?_
  exact ⟨rfl, below_setRow HEX.out.2.2 (by omega)⟩
end Go.Proofs.Ythdkgpmpopjnaaa.H
