/- Lemmas for this claim: A rule ahead of all counts where it fits, and nowhere else (any policy, any record, any rule). (Some lines were printed for this seat by the kit's print.sh; wip/pack.py has put the needed ones together.) -/
import Derived.Deep.RegionHeld
import Derived.Laws.RangeString
import Derived.Laws.RangeAny
import Derived.OpenShut
import Derived.LoopTactic
import Derived.StillTailTactics
import Derived.Test.YtekpbgmmogpbdaaZDenoteAhead0
set_option linter.unusedVariables false
set_option maxRecDepth 100000
namespace Go.Proofs.Ytekpbgmmogpbdaa.H
open Go.RowKit Go.Proofs.YtekpbgmmogpbdaaW.PrintWords
section
variable {P : Program} {ops : Array Oper} {Q : Exit → Act → World → Prop} {md : Region.Mode} {S S' : World → Prop}
theorem yieldsIf_row {o : Oper} {a : Act} (hw : Region.wanted o (yielded ops a.tmps) = true) (ty : TypeId) (x : Operand) (ho : o.op = .load ty x) (g : Nat) (hx : a.eval x = .pointer (some ⟨g, 0, none⟩))
    (t : TypeId) (cs : Array Value) (fr : Nat × Nat) (d : TypeDesc) (hS : ∀ w, S w → w.heap[g]? = some (.cells cs t fr))
    (hu : P.underlying ty = some d) (hd : (match d with | .struct _ | .array _ _ => true | _ => false) = true) (hi : (P.info? ty).map (·.size) = some cs.size) : YieldsIf P ops S o (.agg cs) a :=
  .inl ⟨hw, fun w hw' => by
    unfold execOp
    simp only [ho, hx, Instr.loadAt, Instr.sureAddr, Sem.run_bind, Sem.run_pure, Result.andThen_ok, run_loadVar_row w g t ty cs fr d (hS w hw') hu hd hi]⟩
theorem yieldsIf_not {o : Oper} {a : Act} (hw : Region.wanted o (yielded ops a.tmps) = false) : YieldsIf P ops S o undef a := .inr ⟨hw, rfl⟩
end
end Go.Proofs.Ytekpbgmmogpbdaa.H
set_option linter.unusedVariables false
set_option linter.unusedSimpArgs false
set_option maxRecDepth 100000
namespace Go.Proofs.Ytekpbgmmogpbdaa.H
open Go.RowKit Go.Proofs.YtekpbgmmogpbdaaW.PrintWords
def cmpB (k : Nat) (a b : Int) : Bool := match k with
  | 0 => a == b
  | 1 => a != b
  | 2 => decide (a < b)
  | 3 => decide (a ≤ b)
  | 4 => decide (b < a)
  | _ => decide (b ≤ a)
theorem closure_walk (k : Nat) (hk : k < 6) (a b : Int) : Gives Try.prog (fnK k) #[.int .u64 a, .int .u64 b] (.bool (cmpB k a b)) := by
  intro w
  rcases (by omega : k = 0 ∨ k = 1 ∨ k = 2 ∨ k = 3 ∨ k = 4 ∨ k = 5) with rfl | rfl | rfl | rfl | rfl | rfl
  · show Calls Try.prog 81 _ w _
    go_enter Try.func81, Try.ntmps81
    go_wp2
    go_ret
    exact ⟨rfl, Below.refl _ _⟩
  · show Calls Try.prog 82 _ w _
    go_enter Try.func82, Try.ntmps82
    go_wp2
    go_ret
    exact ⟨rfl, Below.refl _ _⟩
  · show Calls Try.prog 83 _ w _
    go_enter Try.func83, Try.ntmps83
    go_wp2
    go_ret
    exact ⟨rfl, Below.refl _ _⟩
  · show Calls Try.prog 84 _ w _
    go_enter Try.func84, Try.ntmps84
    go_wp2
    go_ret
    exact ⟨rfl, Below.refl _ _⟩
  · show Calls Try.prog 85 _ w _
    go_enter Try.func85, Try.ntmps85
    go_wp2
    go_ret
    exact ⟨rfl, Below.refl _ _⟩
  · show Calls Try.prog 86 _ w _
    go_enter Try.func86, Try.ntmps86
    go_wp2
    go_ret
    exact ⟨rfl, Below.refl _ _⟩
end Go.Proofs.Ytekpbgmmogpbdaa.H
set_option linter.unusedVariables false
set_option linter.unusedSimpArgs false
set_option maxRecDepth 100000
namespace Go.Proofs.Ytekpbgmmogpbdaa.H
open Go.RowKit Go.Proofs.YtekpbgmmogpbdaaW.PrintWords
theorem alloc2d (w : World) (A B : Obj) : ((w.alloc A).alloc B).heap[w.heap.size]? = some A ∧ ((w.alloc A).alloc B).heap[w.heap.size + 1]? = some B ∧ ((w.alloc A).alloc B).heap.size = w.heap.size + 2 ∧ Below w.heap.size w ((w.alloc A).alloc B) :=
  ⟨heap_alloc2_old w A B, heap_alloc2_new w A B, by simp, ((Below.refl _ _).alloc (Nat.le_refl _) _).alloc (by simp) _⟩
set_option maxHeartbeats 4000000 in
theorem Holds_yes (j k : Nat) (hj : (j : Int) < 6) (hk : (k : Int) < 6) (m v x : Int) (hx : 0 ≤ x ∧ x < 18446744073709551616) (hm : 0 ≤ m ∧ m < 18446744073709551616) (DR : Array Value) (hDR : DR[3 + j]? = some (.int .u64 x)) (KA : Array Value) (s : ByteArray) (n : Nat) (q : Int) (KS : Gives Try.prog 66 #[] (.agg KA)) (hix : ∀ w, (Instr.index 97 (.agg KA) (.int .i64 (k : Int))).run Try.prog w = .ok (.agg #[.string s, .func (Fn.func n) #[] #[], .int .i64 q]) w) (r : Bool) (RI : Gives Try.prog 55 #[.agg #[.int .i64 (j : Int), .int .i64 (k : Int), .int .u64 m, .int .u64 v]] (.bool true)) (CF : ∀ (args : Array Value) (W : World), (callFunc n args).run Try.prog W = .ok (.enter n args) W) (CL : Gives Try.prog n #[.int .u64 (bits .and .u64 x m), .int .u64 v] (.bool r)) (w : World) :
    Calls Try.prog 46 #[.agg #[.int .i64 (j : Int), .int .i64 (k : Int), .int .u64 m, .int .u64 v], .agg DR] w fun e w' => e = .returned (.bool r) ∧ Below w.heap.size w w' := by
  replace RI := Lib.hid RI
  replace KS := Lib.hid KS
  replace CL := Lib.hid CL
  replace hDR := Lib.hid hDR
  have HIC := Lib.hid (info_cond (.int .i64 (j : Int)) (.int .i64 (k : Int)) (.int .u64 m) (.int .u64 v))
  go_enter Try.func46, Try.ntmps46
  go_wp2_with fail
  obtain ⟨q1, q2, q3, q4⟩ := alloc2d w (Obj.cells #[.int .i64 (j : Int), .int .i64 (k : Int), .int .u64 m, .int .u64 v] 61) (Obj.cells DR 44)
  generalize (w.alloc (Obj.cells #[.int .i64 (j : Int), .int .i64 (k : Int), .int .u64 m, .int .u64 v] 61)).alloc (Obj.cells DR 44) = W2 at *
  replace q1 := Lib.hid q1
  replace q2 := Lib.hid q2
  replace q4 := Lib.hid q4
  clear q3
  have hfw := kind_word
  have hff := kind_fn
  have hfn := kind_not
  have hNewE : (Below w.heap.size w W2.drew) := q4.out.drew
  have hEx := Lib.hid hNewE
  clear hNewE
  refine Go.Proofs.YtekpbgmmogpbdaaW.PrintLast.wp_region_last_drew (S := fun w' => (w'.heap[w.heap.size]? = some (.cells #[.int .i64 (j : Int), .int .i64 (k : Int), .int .u64 m, .int .u64 v] 61 (0, 0))) ∧ (w'.heap[(w.heap.size + 1)]? = some (.cells DR 44 (0, 0)))) (ds := []) (by kernel_rfl) ⟨q1.out, q2.out⟩ (fun hNewS => ?_)
  have hHeld := Lib.hid hNewS
  clear hNewS
  refine lastTake 0 rfl (by kernel_rfl) (by kernel_rfl) (by kernel_rfl) (by kernel_rfl) (by kernel_rfl) (fun _ _ _ h => h) hHeld.out (yieldsIf_row rfl 61 (.tmp 2) rfl _ rfl _ #[.int .i64 (j : Int), .int .i64 (k : Int), .int .u64 m, .int .u64 v] _ _ (fun _ h => h.1) Try.underlying61 rfl HIC.out) ?_
  try simp only [Act.put, List.setIfInBounds_toArray, List.set_cons_zero, List.set_cons_succ]
  refine lastOne 1 (by kernel_rfl) rfl (by decide) (fun K hK => ?_)
  go_simp
  refine (RI.out _).mono ?_
  rintro _ v1 ⟨rfl, hb⟩
  have hNewE : (Below w.heap.size w v1) := below_more (hEx.out) (Nat.le_refl _) hb
  refine hK.out _ _ ⟨blk_below (hHeld.out.1) hb, blk_below (hHeld.out.2) hb⟩ (fun hNewS => ?_)
  clear hK K
  clear hHeld hEx
  have hHeld := Lib.hid hNewS
  have hEx := Lib.hid hNewE
  clear hNewS hNewE
  clear hb
  try simp only [Act.put, List.setIfInBounds_toArray, List.set_cons_zero, List.set_cons_succ]
  refine lastTake 2 (v := ?_) rfl (by kernel_rfl) (by kernel_rfl) (by kernel_rfl) (by kernel_rfl) (by kernel_rfl) (fun _ _ _ h => h) hHeld.out (yieldsIf_of rfl ?_) ?_
  rotate_left
  · (intro w hSw; go_simp <;> with_reducible rfl)
  try simp only [Act.put, List.setIfInBounds_toArray, List.set_cons_zero, List.set_cons_succ]
  refine lastTake 4 (v := ?_) rfl (by kernel_rfl) (by kernel_rfl) (by kernel_rfl) (by kernel_rfl) (by kernel_rfl) (fun _ _ _ h => h) hHeld.out (yieldsIf_of rfl ?_) ?_
  rotate_left
  · (intro w hSw; go_simp <;> with_reducible rfl)
  try simp only [Act.put, List.setIfInBounds_toArray, List.set_cons_zero, List.set_cons_succ]
  refine lastTake 5 rfl (by kernel_rfl) (by kernel_rfl) (by kernel_rfl) (by kernel_rfl) (by kernel_rfl) (fun _ _ _ h => h) hHeld.out (yieldsIf_cell rfl 3 (.tmp 9) rfl _ rfl (.int .i64 (k : Int)) _ (fun _ h => blk_cell h.1 1) Try.underlying3 rfl) ?_
  try simp only [Act.put, List.setIfInBounds_toArray, List.set_cons_zero, List.set_cons_succ]
  refine lastTake 8 (v := ?_) rfl (by kernel_rfl) (by kernel_rfl) (by kernel_rfl) (by kernel_rfl) (by kernel_rfl) (fun _ _ _ h => h) hHeld.out (yieldsIf_of rfl ?_) ?_
  rotate_left
  · (intro w hSw; go_simp <;> with_reducible rfl)
  try simp only [Act.put, List.setIfInBounds_toArray, List.set_cons_zero, List.set_cons_succ]
  refine lastTake 9 rfl (by kernel_rfl) (by kernel_rfl) (by kernel_rfl) (by kernel_rfl) (by kernel_rfl) (fun _ _ _ h => h) hHeld.out (yieldsIf_cell rfl 3 (.tmp 13) rfl _ rfl (.int .i64 (j : Int)) _ (fun _ h => blk_cell h.1 0) Try.underlying3 rfl) ?_
  try simp only [Act.put, List.setIfInBounds_toArray, List.set_cons_zero, List.set_cons_succ]
  refine lastTake 10 (v := ?_) rfl (by kernel_rfl) (by kernel_rfl) (by kernel_rfl) (by kernel_rfl) (by kernel_rfl) (fun _ _ _ h => h) hHeld.out (yieldsIf_of rfl ?_) ?_
  rotate_left
  · (intro w hSw; go_simp <;> with_reducible rfl)
  try simp only [Act.put, List.setIfInBounds_toArray, List.set_cons_zero, List.set_cons_succ]
  refine lastTake 11 (v := ?_) rfl (by kernel_rfl) (by kernel_rfl) (by kernel_rfl) (by kernel_rfl) (by kernel_rfl) (fun _ _ _ h => h) hHeld.out (yieldsIf_of rfl ?_) ?_
  rotate_left
  · (intro w hSw; go_simp <;> with_reducible rfl)
  try simp only [Act.put, List.setIfInBounds_toArray, List.set_cons_zero, List.set_cons_succ]
  refine lastTake 12 rfl (by kernel_rfl) (by kernel_rfl) (by kernel_rfl) (by kernel_rfl) (by kernel_rfl) (fun _ _ _ h => h) hHeld.out (yieldsIf_cell rfl 41 (.tmp 16) rfl _ rfl (.int .u64 x) _ (fun _ h => (blk_cell h.2 (3 + j)).trans hDR.out) Try.underlying41 rfl) ?_
  try simp only [Act.put, List.setIfInBounds_toArray, List.set_cons_zero, List.set_cons_succ]
  refine lastTake 13 (v := ?_) rfl (by kernel_rfl) (by kernel_rfl) (by kernel_rfl) (by kernel_rfl) (by kernel_rfl) (fun _ _ _ h => h) hHeld.out (yieldsIf_of rfl ?_) ?_
  rotate_left
  · (intro w hSw; go_simp <;> with_reducible rfl)
  try simp only [Act.put, List.setIfInBounds_toArray, List.set_cons_zero, List.set_cons_succ]
  refine lastTake 14 rfl (by kernel_rfl) (by kernel_rfl) (by kernel_rfl) (by kernel_rfl) (by kernel_rfl) (fun _ _ _ h => h) hHeld.out (yieldsIf_cell rfl 41 (.tmp 18) rfl _ rfl (.int .u64 m) _ (fun _ h => blk_cell h.1 2) Try.underlying41 rfl) ?_
  try simp only [Act.put, List.setIfInBounds_toArray, List.set_cons_zero, List.set_cons_succ]
  refine lastTake 15 (v := ?_) rfl (by kernel_rfl) (by kernel_rfl) (by kernel_rfl) (by kernel_rfl) (by kernel_rfl) (fun _ _ _ h => h) hHeld.out (yieldsIf_of rfl ?_) ?_
  rotate_left
  · (intro w hSw; go_simp <;> with_reducible rfl)
  try simp only [Act.put, List.setIfInBounds_toArray, List.set_cons_zero, List.set_cons_succ]
  refine lastTake 16 (v := ?_) rfl (by kernel_rfl) (by kernel_rfl) (by kernel_rfl) (by kernel_rfl) (by kernel_rfl) (fun _ _ _ h => h) hHeld.out (yieldsIf_of rfl ?_) ?_
  rotate_left
  · (intro w hSw; go_simp <;> with_reducible rfl)
  try simp only [Act.put, List.setIfInBounds_toArray, List.set_cons_zero, List.set_cons_succ]
  refine lastTake 17 rfl (by kernel_rfl) (by kernel_rfl) (by kernel_rfl) (by kernel_rfl) (by kernel_rfl) (fun _ _ _ h => h) hHeld.out (yieldsIf_cell rfl 41 (.tmp 21) rfl _ rfl (.int .u64 v) _ (fun _ h => blk_cell h.1 3) Try.underlying41 rfl) ?_
  try simp only [Act.put, List.setIfInBounds_toArray, List.set_cons_zero, List.set_cons_succ]
  refine lastOne 3 (by kernel_rfl) rfl (by decide) (fun K hK => ?_)
  go_simp
  refine (KS.out _).mono ?_
  rintro _ v2 ⟨rfl, hb⟩
  have hNewE : (Below w.heap.size w v2) := below_more (hEx.out) (Nat.le_refl _) hb
  refine hK.out _ _ ⟨blk_below (hHeld.out.1) hb, blk_below (hHeld.out.2) hb⟩ (fun hNewS => ?_)
  clear hK K
  clear hHeld hEx
  have hHeld := Lib.hid hNewS
  have hEx := Lib.hid hNewE
  clear hNewS hNewE
  clear hb
  try simp only [Act.put, List.setIfInBounds_toArray, List.set_cons_zero, List.set_cons_succ]
  refine lastTake 6 (v := ?_) rfl (by kernel_rfl) (by kernel_rfl) (by kernel_rfl) (by kernel_rfl) (by kernel_rfl) (fun _ _ _ h => h) hHeld.out (yieldsIf_of rfl ?_) ?_
  rotate_left
  · (intro w hSw; go_simp <;> with_reducible rfl)
  try simp only [Act.put, List.setIfInBounds_toArray, List.set_cons_zero, List.set_cons_succ]
  refine lastTake 7 (v := ?_) rfl (by kernel_rfl) (by kernel_rfl) (by kernel_rfl) (by kernel_rfl) (by kernel_rfl) (fun _ _ _ h => h) hHeld.out (yieldsIf_of rfl ?_) ?_
  rotate_left
  · (intro w hSw; go_simp <;> with_reducible rfl)
  try simp only [Act.put, List.setIfInBounds_toArray, List.set_cons_zero, List.set_cons_succ]
  refine lastOne 18 (by kernel_rfl) rfl (by decide) (fun K hK => ?_)
  go_simp
  refine (CL.out _).mono ?_
  rintro _ v3 ⟨rfl, hb⟩
  have hNewE : (Below w.heap.size w v3) := below_more (hEx.out) (Nat.le_refl _) hb
  refine hK.out _ _ ⟨blk_below (hHeld.out.1) hb, blk_below (hHeld.out.2) hb⟩ (fun hNewS => ?_)
  clear hK K
  clear hHeld hEx
  have hHeld := Lib.hid hNewS
  have hEx := Lib.hid hNewE
  clear hNewS hNewE
  clear hb
  try simp only [Act.put, List.setIfInBounds_toArray, List.set_cons_zero, List.set_cons_succ]
  refine lastTake 19 (v := ?_) rfl (by kernel_rfl) (by kernel_rfl) (by kernel_rfl) (by kernel_rfl) (by kernel_rfl) (fun _ _ _ h => h) hHeld.out (yieldsIf_of rfl ?_) ?_
  rotate_left
  · (intro w hSw; go_simp <;> with_reducible rfl)
  try simp only [Act.put, List.setIfInBounds_toArray, List.set_cons_zero, List.set_cons_succ]
  refine lastTake 20 (v := ?_) rfl (by kernel_rfl) (by kernel_rfl) (by kernel_rfl) (by kernel_rfl) (by kernel_rfl) (fun _ _ _ h => h) hHeld.out (yieldsIf_of rfl ?_) ?_
  rotate_left
  · (intro w hSw; go_simp <;> with_reducible rfl)
  try simp only [Act.put, List.setIfInBounds_toArray, List.set_cons_zero, List.set_cons_succ]
  refine Go.Proofs.YtekpbgmmogpbdaaW.PrintLast.wpAnyLast_done (by kernel_rfl) ?_ _
  have HFI := Lib.hid hEx.out
  clear hHeld hEx
  go_wp2_with fail
  go_ret
  exact ⟨rfl, HFI.out⟩
set_option maxHeartbeats 4000000 in
theorem Holds_no (arg cmp m v : Int) (DR : Array Value) (RI : Gives Try.prog 55 #[.agg #[.int .i64 arg, .int .i64 cmp, .int .u64 m, .int .u64 v]] (.bool false)) (w : World) :
    Calls Try.prog 46 #[.agg #[.int .i64 arg, .int .i64 cmp, .int .u64 m, .int .u64 v], .agg DR] w fun e w' => e = .returned (.bool false) ∧ Below w.heap.size w w' := by
  replace RI := Lib.hid RI
  have HIC := Lib.hid (info_cond (.int .i64 arg) (.int .i64 cmp) (.int .u64 m) (.int .u64 v))
  go_enter Try.func46, Try.ntmps46
  go_wp2_with fail
  obtain ⟨q1, q2, q3, q4⟩ := alloc2d w (Obj.cells #[.int .i64 arg, .int .i64 cmp, .int .u64 m, .int .u64 v] 61) (Obj.cells DR 44)
  generalize (w.alloc (Obj.cells #[.int .i64 arg, .int .i64 cmp, .int .u64 m, .int .u64 v] 61)).alloc (Obj.cells DR 44) = W2 at *
  replace q1 := Lib.hid q1
  replace q2 := Lib.hid q2
  replace q4 := Lib.hid q4
  clear q3
  have hfw := kind_word
  have hff := kind_fn
  have hfn := kind_not
  have hNewE : (Below w.heap.size w W2.drew) := q4.out.drew
  have hEx := Lib.hid hNewE
  clear hNewE
  refine Go.Proofs.YtekpbgmmogpbdaaW.PrintLast.wp_region_last_drew (S := fun w' => (w'.heap[w.heap.size]? = some (.cells #[.int .i64 arg, .int .i64 cmp, .int .u64 m, .int .u64 v] 61 (0, 0))) ∧ (w'.heap[(w.heap.size + 1)]? = some (.cells DR 44 (0, 0)))) (ds := []) (by kernel_rfl) ⟨q1.out, q2.out⟩ (fun hNewS => ?_)
  have hHeld := Lib.hid hNewS
  clear hNewS
  refine lastTake 0 rfl (by kernel_rfl) (by kernel_rfl) (by kernel_rfl) (by kernel_rfl) (by kernel_rfl) (fun _ _ _ h => h) hHeld.out (yieldsIf_row rfl 61 (.tmp 2) rfl _ rfl _ #[.int .i64 arg, .int .i64 cmp, .int .u64 m, .int .u64 v] _ _ (fun _ h => h.1) Try.underlying61 rfl HIC.out) ?_
  try simp only [Act.put, List.setIfInBounds_toArray, List.set_cons_zero, List.set_cons_succ]
  refine lastOne 1 (by kernel_rfl) rfl (by decide) (fun K hK => ?_)
  go_simp
  refine (RI.out _).mono ?_
  rintro _ v4 ⟨rfl, hb⟩
  have hNewE : (Below w.heap.size w v4) := below_more (hEx.out) (Nat.le_refl _) hb
  refine hK.out _ _ ⟨blk_below (hHeld.out.1) hb, blk_below (hHeld.out.2) hb⟩ (fun hNewS => ?_)
  clear hK K
  clear hHeld hEx
  have hHeld := Lib.hid hNewS
  have hEx := Lib.hid hNewE
  clear hNewS hNewE
  clear hb
  try simp only [Act.put, List.setIfInBounds_toArray, List.set_cons_zero, List.set_cons_succ]
  refine lastTake 2 (v := ?_) rfl (by kernel_rfl) (by kernel_rfl) (by kernel_rfl) (by kernel_rfl) (by kernel_rfl) (fun _ _ _ h => h) hHeld.out (yieldsIf_of rfl ?_) ?_
  rotate_left
  · (intro w hSw; go_simp <;> with_reducible rfl)
  try simp only [Act.put, List.setIfInBounds_toArray, List.set_cons_zero, List.set_cons_succ]
  refine lastTake 3 rfl (by kernel_rfl) (by kernel_rfl) (by kernel_rfl) (by kernel_rfl) (by kernel_rfl) (fun _ _ _ h => h) hHeld.out (yieldsIf_not rfl) ?_
  try simp only [Act.put, List.setIfInBounds_toArray, List.set_cons_zero, List.set_cons_succ]
  refine lastTake 4 rfl (by kernel_rfl) (by kernel_rfl) (by kernel_rfl) (by kernel_rfl) (by kernel_rfl) (fun _ _ _ h => h) hHeld.out (yieldsIf_not rfl) ?_
  try simp only [Act.put, List.setIfInBounds_toArray, List.set_cons_zero, List.set_cons_succ]
  refine lastTake 5 rfl (by kernel_rfl) (by kernel_rfl) (by kernel_rfl) (by kernel_rfl) (by kernel_rfl) (fun _ _ _ h => h) hHeld.out (yieldsIf_not rfl) ?_
  try simp only [Act.put, List.setIfInBounds_toArray, List.set_cons_zero, List.set_cons_succ]
  refine lastTake 6 rfl (by kernel_rfl) (by kernel_rfl) (by kernel_rfl) (by kernel_rfl) (by kernel_rfl) (fun _ _ _ h => h) hHeld.out (yieldsIf_not rfl) ?_
  try simp only [Act.put, List.setIfInBounds_toArray, List.set_cons_zero, List.set_cons_succ]
  refine lastTake 7 rfl (by kernel_rfl) (by kernel_rfl) (by kernel_rfl) (by kernel_rfl) (by kernel_rfl) (fun _ _ _ h => h) hHeld.out (yieldsIf_not rfl) ?_
  try simp only [Act.put, List.setIfInBounds_toArray, List.set_cons_zero, List.set_cons_succ]
  refine lastTake 8 rfl (by kernel_rfl) (by kernel_rfl) (by kernel_rfl) (by kernel_rfl) (by kernel_rfl) (fun _ _ _ h => h) hHeld.out (yieldsIf_not rfl) ?_
  try simp only [Act.put, List.setIfInBounds_toArray, List.set_cons_zero, List.set_cons_succ]
  refine lastTake 9 rfl (by kernel_rfl) (by kernel_rfl) (by kernel_rfl) (by kernel_rfl) (by kernel_rfl) (fun _ _ _ h => h) hHeld.out (yieldsIf_not rfl) ?_
  try simp only [Act.put, List.setIfInBounds_toArray, List.set_cons_zero, List.set_cons_succ]
  refine lastTake 10 rfl (by kernel_rfl) (by kernel_rfl) (by kernel_rfl) (by kernel_rfl) (by kernel_rfl) (fun _ _ _ h => h) hHeld.out (yieldsIf_not rfl) ?_
  try simp only [Act.put, List.setIfInBounds_toArray, List.set_cons_zero, List.set_cons_succ]
  refine lastTake 11 rfl (by kernel_rfl) (by kernel_rfl) (by kernel_rfl) (by kernel_rfl) (by kernel_rfl) (fun _ _ _ h => h) hHeld.out (yieldsIf_not rfl) ?_
  try simp only [Act.put, List.setIfInBounds_toArray, List.set_cons_zero, List.set_cons_succ]
  refine lastTake 12 rfl (by kernel_rfl) (by kernel_rfl) (by kernel_rfl) (by kernel_rfl) (by kernel_rfl) (fun _ _ _ h => h) hHeld.out (yieldsIf_not rfl) ?_
  try simp only [Act.put, List.setIfInBounds_toArray, List.set_cons_zero, List.set_cons_succ]
  refine lastTake 13 rfl (by kernel_rfl) (by kernel_rfl) (by kernel_rfl) (by kernel_rfl) (by kernel_rfl) (fun _ _ _ h => h) hHeld.out (yieldsIf_not rfl) ?_
  try simp only [Act.put, List.setIfInBounds_toArray, List.set_cons_zero, List.set_cons_succ]
  refine lastTake 14 rfl (by kernel_rfl) (by kernel_rfl) (by kernel_rfl) (by kernel_rfl) (by kernel_rfl) (fun _ _ _ h => h) hHeld.out (yieldsIf_not rfl) ?_
  try simp only [Act.put, List.setIfInBounds_toArray, List.set_cons_zero, List.set_cons_succ]
  refine lastTake 15 rfl (by kernel_rfl) (by kernel_rfl) (by kernel_rfl) (by kernel_rfl) (by kernel_rfl) (fun _ _ _ h => h) hHeld.out (yieldsIf_not rfl) ?_
  try simp only [Act.put, List.setIfInBounds_toArray, List.set_cons_zero, List.set_cons_succ]
  refine lastTake 16 rfl (by kernel_rfl) (by kernel_rfl) (by kernel_rfl) (by kernel_rfl) (by kernel_rfl) (fun _ _ _ h => h) hHeld.out (yieldsIf_not rfl) ?_
  try simp only [Act.put, List.setIfInBounds_toArray, List.set_cons_zero, List.set_cons_succ]
  refine lastTake 17 rfl (by kernel_rfl) (by kernel_rfl) (by kernel_rfl) (by kernel_rfl) (by kernel_rfl) (fun _ _ _ h => h) hHeld.out (yieldsIf_not rfl) ?_
  try simp only [Act.put, List.setIfInBounds_toArray, List.set_cons_zero, List.set_cons_succ]
  refine lastTake 18 rfl (by kernel_rfl) (by kernel_rfl) (by kernel_rfl) (by kernel_rfl) (by kernel_rfl) (fun _ _ _ h => h) hHeld.out (yieldsIf_not rfl) ?_
  try simp only [Act.put, List.setIfInBounds_toArray, List.set_cons_zero, List.set_cons_succ]
  refine lastTake 19 (v := ?_) rfl (by kernel_rfl) (by kernel_rfl) (by kernel_rfl) (by kernel_rfl) (by kernel_rfl) (fun _ _ _ h => h) hHeld.out (yieldsIf_of rfl ?_) ?_
  rotate_left
  · (intro w hSw; go_simp <;> with_reducible rfl)
  try simp only [Act.put, List.setIfInBounds_toArray, List.set_cons_zero, List.set_cons_succ]
  refine lastTake 20 (v := ?_) rfl (by kernel_rfl) (by kernel_rfl) (by kernel_rfl) (by kernel_rfl) (by kernel_rfl) (fun _ _ _ h => h) hHeld.out (yieldsIf_of rfl ?_) ?_
  rotate_left
  · (intro w hSw; go_simp <;> with_reducible rfl)
  try simp only [Act.put, List.setIfInBounds_toArray, List.set_cons_zero, List.set_cons_succ]
  refine Go.Proofs.YtekpbgmmogpbdaaW.PrintLast.wpAnyLast_done (by kernel_rfl) ?_ _
  have HFI := Lib.hid hEx.out
  clear hHeld hEx
  go_wp2_with fail
  go_ret
  exact ⟨rfl, HFI.out⟩
end Go.Proofs.Ytekpbgmmogpbdaa.H
set_option linter.unusedVariables false
set_option linter.unusedSimpArgs false
set_option maxRecDepth 100000
namespace Go.Proofs.Ytekpbgmmogpbdaa.H
open Go.RowKit Go.Proofs.YtekpbgmmogpbdaaW.PrintWords
theorem enter_ofC {n : Nat} {fn : Func} {c : Code} (hf : Try.prog.funcs[n]? = some fn) (hname : (fn.name == "runtime.NumGoroutine") = false) (hb : fn.body = some c) (args : Array Value) (W : World) :
    (callFunc n args).run Try.prog W = .ok (.enter n args) W := by
  unfold callFunc
  have hn : ¬ fn.name = "runtime.NumGoroutine" := by simpa using hname
  simp [Sem.run_bind, run_program, hf, hn, hb]
theorem enter_kind (k : Nat) (hk : k < 6) (args : Array Value) (W : World) : (callFunc (fnK k) args).run Try.prog W = .ok (.enter (fnK k) args) W := by
  rcases (by omega : k = 0 ∨ k = 1 ∨ k = 2 ∨ k = 3 ∨ k = 4 ∨ k = 5) with rfl | rfl | rfl | rfl | rfl | rfl
  · exact enter_ofC Try.func81 (by decide) rfl args W
  · exact enter_ofC Try.func82 (by decide) rfl args W
  · exact enter_ofC Try.func83 (by decide) rfl args W
  · exact enter_ofC Try.func84 (by decide) rfl args W
  · exact enter_ofC Try.func85 (by decide) rfl args W
  · exact enter_ofC Try.func86 (by decide) rfl args W
def holdsB (arg cmp m v : Int) (ags : List Int) : Bool := rightB arg cmp && cmpB cmp.toNat (bits .and .u64 (ags.getD arg.toNat 0) m) v
def dataA (nr ar ip : Int) (ags : List Int) : Array Value := (Value.int .u32 nr :: Value.int .u32 ar :: Value.int .u64 ip :: nums .u64 ags).toArray
structure IsDat (nr ar ip : Int) (ags : List Int) : Prop where
  len : ags.length = 6
  nr : 0 ≤ nr ∧ nr < 4294967296
  ar : 0 ≤ ar ∧ ar < 4294967296
  ip : u64P ip
  ags : ∀ k, u64P (ags.getD k 0)
theorem data_at (nr ar ip : Int) (ags : List Int) (hl : ags.length = 6) (j : Nat) (hj : j < 6) : (dataA nr ar ip ags)[3 + j]? = some (.int .u64 (ags.getD j 0)) := by
  unfold dataA
  rw [List.getElem?_toArray, Nat.add_comm 3 j]
  simp only [List.getElem?_cons_succ]
  simp [nums, List.getElem?_eq_getElem (show j < ags.length by omega), List.getD_eq_getElem?_getD]
theorem Holds_walk (arg cmp m v : Int) (nr ar ip : Int) (ags : List Int) (hd : IsDat nr ar ip ags) (hm : u64P m) : Gives Try.prog 46 #[CV arg cmp m v, .agg (dataA nr ar ip ags)] (.bool (holdsB arg cmp m v ags)) := by
  intro w
  have hR := Right_walk arg cmp m v
  unfold holdsB
  cases h : rightB arg cmp with
  | false =>
    rw [h] at hR
    exact Holds_no arg cmp m v _ hR w
  | true =>
    rw [h] at hR
    obtain ⟨j, k, rfl, rfl, hj, hk⟩ := right_nats h
    rw [Bool.true_and]
    simp only [Int.toNat_natCast]
    exact Holds_yes j k (by omega) (by omega) m v (ags.getD j 0) (hd.ags j) hm _ (data_at nr ar ip ags hd.len j hj) kindsA (wordK k) (fnK k) (notK k) kinds_walk (fun w => kinds_index k hk w) _ hR (fun args W => enter_kind k hk args W) (closure_walk k hk _ _) w
end Go.Proofs.Ytekpbgmmogpbdaa.H
namespace Go.Proofs.Ytekpbgmmogpbdaa.M
open Go.RowKit Go.Proofs.Ytekpbgmmogpbdaa.H Go.Proofs.YtekpbgmmogpbdaaW.PrintWords Go.Proofs.YtekpbgmmogpbdaaW.PrintLast Go.Proofs.YtekpbgmmogpbdaaW.PrintMore
attribute [local go_sem] max2_int min2_int max_two min_two max_three min_three max_four min_four
set_option linter.unusedVariables false
set_option linter.unusedSimpArgs false
theorem k61_mk (w : World) (x : S61)  : k61.K w x [.int .i64 x.f0, .int .i64 x.f1, .int .u64 x.f2, .int .u64 x.f3] := ⟨[.int .i64 x.f0], [.int .i64 x.f1, .int .u64 x.f2, .int .u64 x.f3], rfl, rfl, ⟨[.int .i64 x.f1], [.int .u64 x.f2, .int .u64 x.f3], rfl, rfl, ⟨[.int .u64 x.f2], [.int .u64 x.f3], rfl, rfl, rfl⟩⟩⟩
theorem k40_mk (w : World) (x : S40) {A2 : Option Addr} {c2 : Nat} (l2 : x.f2.length ≤ c2) (g2 : k61.C w A2 x.f2.length x.f2) : k40.K w x [.int .u32 x.f0, .int .u32 x.f1, .slice A2 x.f2.length c2, .int .u32 x.f3] := ⟨[.int .u32 x.f0], [.int .u32 x.f1, .slice A2 x.f2.length c2, .int .u32 x.f3], rfl, rfl, ⟨[.int .u32 x.f1], [.slice A2 x.f2.length c2, .int .u32 x.f3], rfl, rfl, ⟨[.slice A2 x.f2.length c2], [.int .u32 x.f3], rfl, ⟨A2, c2, rfl, l2, g2⟩, rfl⟩⟩⟩
end Go.Proofs.Ytekpbgmmogpbdaa.M
namespace Go.Proofs.Ytekpbgmmogpbdaa.M
open Go.RowKit Go.Proofs.Ytekpbgmmogpbdaa.H Go.Proofs.YtekpbgmmogpbdaaW.PrintWords Go.Proofs.YtekpbgmmogpbdaaW.PrintLast Go.Proofs.YtekpbgmmogpbdaaW.PrintMore
attribute [local go_sem] max2_int min2_int max_two min_two max_three min_three max_four min_four
set_option linter.unusedVariables false
set_option linter.unusedSimpArgs false
def hurdleref08_Right.f (a0_0 : Int) (a0_1 : Int) (a0_2 : Int) (a0_3 : Int) : Option (Bool) := if a0_0 ≥ 0 then (if a0_0 ≤ 5 then (if a0_1 ≥ 0 then (some (decide (a0_1 ≤ 5))) else (some false)) else (some false)) else (some false)
set_option maxHeartbeats 8000000 in
set_option maxRecDepth 100000 in
theorem hurdleref08_Right.calls (a0_0 : Int) (a0_1 : Int) (a0_2 : Int) (a0_3 : Int) (r : Bool) (w : World) (h : hurdleref08_Right.f a0_0 a0_1 a0_2 a0_3 = some r) :
    Calls Try.prog 34 #[.agg #[.int .i64 a0_0, .int .i64 a0_1, .int .u64 a0_2, .int .u64 a0_3]] w fun e w' => e = .returned (.bool r) ∧ Below w.heap.size w w' := by
  have hu61 := Try.underlying61
  have HB := Aside0.mk (Below.refl w.heap.size w)
  have H : (if a0_0 ≥ 0 then (if a0_0 ≤ 5 then (if a0_1 ≥ 0 then (some (decide (a0_1 ≤ 5))) else (some false)) else (some false)) else (some false)) = some r := h
  clear h
  by_cases c2 : a0_0 ≥ 0
  · rw [if_pos c2] at H
    have c2b0 : decide (0 ≤ a0_0) = true := decide_eq_true c2
    clear c2
    by_cases c3 : a0_0 ≤ 5
    · rw [if_pos c3] at H
      have c3b0 : decide (a0_0 ≤ 5) = true := decide_eq_true c3
      clear c3
      by_cases c4 : a0_1 ≥ 0
      · rw [if_pos c4] at H
        have c4b0 : decide (0 ≤ a0_1) = true := decide_eq_true c4
        clear c4
        obtain rfl := Option.some.inj H
        go_enter Try.func34, Try.ntmps34
        go_wp2_with (first | ((with_reducible refine gate_dst (N := 1) rfl ?_); refine box_event ?hg (N := 1) ?hd (cs := #[.int .i64 a0_0, .int .i64 a0_1, .int .u64 a0_2, .int .u64 a0_3]) (t := 61) ?hr ?_; (case hd => rfl); (case hg => rfl); (case hr => first | (go_simp; done) | (go_simp; rfl)); intro gb101 hg w5 hbox hb; have n0_ := Aside0.mk (below_step (by repeat (first | (with_reducible first | exact HB.out | apply below_alloc | apply pw_below_drewN | apply below_drew1) | exact HB.out)) hb); have n1_ := Aside0.mk (hbox); have n2_ := Aside0.mk ((by rw [hg]; exact (below_size (by repeat (first | (with_reducible first | exact HB.out | apply below_alloc | apply pw_below_drewN | apply below_drew1) | exact HB.out))) : w.heap.size ≤ gb101)); have n3_ := Aside0.mk ((by rw [hg]; exact (below_size (by repeat (first | (with_reducible first | exact HB.out | apply below_alloc | apply pw_below_drewN | apply below_drew1) | exact HB.out))) : w.heap.size ≤ gb101)); clear HB; have HB := n0_; have BK101 := n1_; have GW101 := n2_; have GE101 := n3_; clear n0_ n1_ n2_ n3_; clear hb hbox hg; have hcz6_0 : w5.cell? ⟨gb101, 0, none⟩ = some (.int .i64 a0_0) := (blk_cell BK101.out 0).trans rfl; have hcz6_1 : w5.cell? ⟨gb101, 1, none⟩ = some (.int .i64 a0_1) := (blk_cell BK101.out 1).trans rfl; have hcz6_2 : w5.cell? ⟨gb101, 2, none⟩ = some (.int .u64 a0_2) := (blk_cell BK101.out 2).trans rfl; have hcz6_3 : w5.cell? ⟨gb101, 3, none⟩ = some (.int .u64 a0_3) := (blk_cell BK101.out 3).trans rfl; have hfz6_0 := blk_frozen BK101.out 0; have hfz6_1 := blk_frozen BK101.out 1; have hfz6_2 := blk_frozen BK101.out 2; have hfz6_3 := blk_frozen BK101.out 3))
        go_ret
        exact ⟨by first | rfl | (simp [errW_none, errW_some] <;> rfl) | (simp [*, errW_none, errW_some] <;> rfl), by repeat (first | (with_reducible first | exact HB.out | apply below_alloc | apply pw_below_drewN | apply below_drew1 | refine below_set ?_ GE101.out) | exact HB.out)⟩
      · rw [if_neg c4] at H
        have c4b0 : decide (0 ≤ a0_1) = false := decide_eq_false c4
        clear c4
        obtain rfl := Option.some.inj H
        go_enter Try.func34, Try.ntmps34
        go_wp2_with (first | ((with_reducible refine gate_dst (N := 1) rfl ?_); refine box_event ?hg (N := 1) ?hd (cs := #[.int .i64 a0_0, .int .i64 a0_1, .int .u64 a0_2, .int .u64 a0_3]) (t := 61) ?hr ?_; (case hd => rfl); (case hg => rfl); (case hr => first | (go_simp; done) | (go_simp; rfl)); intro gb101 hg w7 hbox hb; have n0_ := Aside0.mk (below_step (by repeat (first | (with_reducible first | exact HB.out | apply below_alloc | apply pw_below_drewN | apply below_drew1) | exact HB.out)) hb); have n1_ := Aside0.mk (hbox); have n2_ := Aside0.mk ((by rw [hg]; exact (below_size (by repeat (first | (with_reducible first | exact HB.out | apply below_alloc | apply pw_below_drewN | apply below_drew1) | exact HB.out))) : w.heap.size ≤ gb101)); have n3_ := Aside0.mk ((by rw [hg]; exact (below_size (by repeat (first | (with_reducible first | exact HB.out | apply below_alloc | apply pw_below_drewN | apply below_drew1) | exact HB.out))) : w.heap.size ≤ gb101)); clear HB; have HB := n0_; have BK101 := n1_; have GW101 := n2_; have GE101 := n3_; clear n0_ n1_ n2_ n3_; clear hb hbox hg; have hcz8_0 : w7.cell? ⟨gb101, 0, none⟩ = some (.int .i64 a0_0) := (blk_cell BK101.out 0).trans rfl; have hcz8_1 : w7.cell? ⟨gb101, 1, none⟩ = some (.int .i64 a0_1) := (blk_cell BK101.out 1).trans rfl; have hcz8_2 : w7.cell? ⟨gb101, 2, none⟩ = some (.int .u64 a0_2) := (blk_cell BK101.out 2).trans rfl; have hcz8_3 : w7.cell? ⟨gb101, 3, none⟩ = some (.int .u64 a0_3) := (blk_cell BK101.out 3).trans rfl; have hfz8_0 := blk_frozen BK101.out 0; have hfz8_1 := blk_frozen BK101.out 1; have hfz8_2 := blk_frozen BK101.out 2; have hfz8_3 := blk_frozen BK101.out 3))
        go_ret
        exact ⟨by first | rfl | (simp [errW_none, errW_some] <;> rfl) | (simp [*, errW_none, errW_some] <;> rfl), by repeat (first | (with_reducible first | exact HB.out | apply below_alloc | apply pw_below_drewN | apply below_drew1 | refine below_set ?_ GE101.out) | exact HB.out)⟩
    · rw [if_neg c3] at H
      have c3b0 : decide (a0_0 ≤ 5) = false := decide_eq_false c3
      clear c3
      obtain rfl := Option.some.inj H
      go_enter Try.func34, Try.ntmps34
      go_wp2_with (first | ((with_reducible refine gate_dst (N := 1) rfl ?_); refine box_event ?hg (N := 1) ?hd (cs := #[.int .i64 a0_0, .int .i64 a0_1, .int .u64 a0_2, .int .u64 a0_3]) (t := 61) ?hr ?_; (case hd => rfl); (case hg => rfl); (case hr => first | (go_simp; done) | (go_simp; rfl)); intro gb101 hg w9 hbox hb; have n0_ := Aside0.mk (below_step (by repeat (first | (with_reducible first | exact HB.out | apply below_alloc | apply pw_below_drewN | apply below_drew1) | exact HB.out)) hb); have n1_ := Aside0.mk (hbox); have n2_ := Aside0.mk ((by rw [hg]; exact (below_size (by repeat (first | (with_reducible first | exact HB.out | apply below_alloc | apply pw_below_drewN | apply below_drew1) | exact HB.out))) : w.heap.size ≤ gb101)); have n3_ := Aside0.mk ((by rw [hg]; exact (below_size (by repeat (first | (with_reducible first | exact HB.out | apply below_alloc | apply pw_below_drewN | apply below_drew1) | exact HB.out))) : w.heap.size ≤ gb101)); clear HB; have HB := n0_; have BK101 := n1_; have GW101 := n2_; have GE101 := n3_; clear n0_ n1_ n2_ n3_; clear hb hbox hg; have hcz10_0 : w9.cell? ⟨gb101, 0, none⟩ = some (.int .i64 a0_0) := (blk_cell BK101.out 0).trans rfl; have hcz10_1 : w9.cell? ⟨gb101, 1, none⟩ = some (.int .i64 a0_1) := (blk_cell BK101.out 1).trans rfl; have hcz10_2 : w9.cell? ⟨gb101, 2, none⟩ = some (.int .u64 a0_2) := (blk_cell BK101.out 2).trans rfl; have hcz10_3 : w9.cell? ⟨gb101, 3, none⟩ = some (.int .u64 a0_3) := (blk_cell BK101.out 3).trans rfl; have hfz10_0 := blk_frozen BK101.out 0; have hfz10_1 := blk_frozen BK101.out 1; have hfz10_2 := blk_frozen BK101.out 2; have hfz10_3 := blk_frozen BK101.out 3))
      go_ret
      exact ⟨by first | rfl | (simp [errW_none, errW_some] <;> rfl) | (simp [*, errW_none, errW_some] <;> rfl), by repeat (first | (with_reducible first | exact HB.out | apply below_alloc | apply pw_below_drewN | apply below_drew1 | refine below_set ?_ GE101.out) | exact HB.out)⟩
  · rw [if_neg c2] at H
    have c2b0 : decide (0 ≤ a0_0) = false := decide_eq_false c2
    clear c2
    obtain rfl := Option.some.inj H
    go_enter Try.func34, Try.ntmps34
    go_wp2_with (first | ((with_reducible refine gate_dst (N := 1) rfl ?_); refine box_event ?hg (N := 1) ?hd (cs := #[.int .i64 a0_0, .int .i64 a0_1, .int .u64 a0_2, .int .u64 a0_3]) (t := 61) ?hr ?_; (case hd => rfl); (case hg => rfl); (case hr => first | (go_simp; done) | (go_simp; rfl)); intro gb101 hg w11 hbox hb; have n0_ := Aside0.mk (below_step (by repeat (first | (with_reducible first | exact HB.out | apply below_alloc | apply pw_below_drewN | apply below_drew1) | exact HB.out)) hb); have n1_ := Aside0.mk (hbox); have n2_ := Aside0.mk ((by rw [hg]; exact (below_size (by repeat (first | (with_reducible first | exact HB.out | apply below_alloc | apply pw_below_drewN | apply below_drew1) | exact HB.out))) : w.heap.size ≤ gb101)); have n3_ := Aside0.mk ((by rw [hg]; exact (below_size (by repeat (first | (with_reducible first | exact HB.out | apply below_alloc | apply pw_below_drewN | apply below_drew1) | exact HB.out))) : w.heap.size ≤ gb101)); clear HB; have HB := n0_; have BK101 := n1_; have GW101 := n2_; have GE101 := n3_; clear n0_ n1_ n2_ n3_; clear hb hbox hg; have hcz12_0 : w11.cell? ⟨gb101, 0, none⟩ = some (.int .i64 a0_0) := (blk_cell BK101.out 0).trans rfl; have hcz12_1 : w11.cell? ⟨gb101, 1, none⟩ = some (.int .i64 a0_1) := (blk_cell BK101.out 1).trans rfl; have hcz12_2 : w11.cell? ⟨gb101, 2, none⟩ = some (.int .u64 a0_2) := (blk_cell BK101.out 2).trans rfl; have hcz12_3 : w11.cell? ⟨gb101, 3, none⟩ = some (.int .u64 a0_3) := (blk_cell BK101.out 3).trans rfl; have hfz12_0 := blk_frozen BK101.out 0; have hfz12_1 := blk_frozen BK101.out 1; have hfz12_2 := blk_frozen BK101.out 2; have hfz12_3 := blk_frozen BK101.out 3))
    go_ret
    exact ⟨by first | rfl | (simp [errW_none, errW_some] <;> rfl) | (simp [*, errW_none, errW_some] <;> rfl), by repeat (first | (with_reducible first | exact HB.out | apply below_alloc | apply pw_below_drewN | apply below_drew1 | refine below_set ?_ GE101.out) | exact HB.out)⟩
def hurdleref01_digits.f : Nat → Int → Option (ByteArray)
  | 0, _ => none
  | k + 1, a0 => (some (([(IntKind.u64.wrap (48 + (Int.tmod a0 16))) % 256] : List Int) : List Int)).bind fun y102 => (if (Int.tmod a0 16) > 9 then ((some (([(IntKind.u64.wrap (87 + (Int.tmod a0 16))) % 256] : List Int) : List Int)).bind fun y105 => (if a0 < 16 then (some (strOfNums y105)) else ((hurdleref01_digits.f k (IntKind.u64.wrap (Int.tdiv a0 16))).bind fun t108 => (if t108.size + (strOfNums y105).size ≤ 9223372036854775807 then (some (t108 ++ (strOfNums y105))) else (none))))) else (if a0 < 16 then (some (strOfNums y102)) else ((hurdleref01_digits.f k (IntKind.u64.wrap (Int.tdiv a0 16))).bind fun t109 => (if t109.size + (strOfNums y102).size ≤ 9223372036854775807 then (some (t109 ++ (strOfNums y102))) else (none)))))
set_option maxHeartbeats 8000000 in
set_option maxRecDepth 100000 in
theorem hurdleref01_digits.calls (k : Nat) : ∀ (a0 : Int) (r : ByteArray) (w : World) (h : hurdleref01_digits.f k a0 = some r),
    Calls Try.prog 71 #[.int .u64 a0] w fun e w' => e = .returned (.string r) ∧ Below w.heap.size w w' := by
  induction k using Nat.strongRecOn with
  | _ k ih =>
  intro a0 r w h
  cases k with
  | zero => exact absurd h (by simp [hurdleref01_digits.f])
  | succ k =>
  simp only [hurdleref01_digits.f] at h
  have HB := Aside0.mk (Below.refl w.heap.size w)
  have H : ((some (([(IntKind.u64.wrap (48 + (Int.tmod a0 16))) % 256] : List Int) : List Int)).bind fun y102 => (if (Int.tmod a0 16) > 9 then ((some (([(IntKind.u64.wrap (87 + (Int.tmod a0 16))) % 256] : List Int) : List Int)).bind fun y105 => (if a0 < 16 then (some (strOfNums y105)) else ((hurdleref01_digits.f k (IntKind.u64.wrap (Int.tdiv a0 16))).bind fun t108 => (if t108.size + (strOfNums y105).size ≤ 9223372036854775807 then (some (t108 ++ (strOfNums y105))) else (none))))) else (if a0 < 16 then (some (strOfNums y102)) else ((hurdleref01_digits.f k (IntKind.u64.wrap (Int.tdiv a0 16))).bind fun t109 => (if t109.size + (strOfNums y102).size ≤ 9223372036854775807 then (some (t109 ++ (strOfNums y102))) else (none)))))) = some r := h
  clear h
  obtain ⟨y102, hy102⟩ : ∃ y_ : List Int, y_ = (([(IntKind.u64.wrap (48 + (Int.tmod a0 16))) % 256] : List Int)) := ⟨_, rfl⟩
  replace H : (if (Int.tmod a0 16) > 9 then ((some (([(IntKind.u64.wrap (87 + (Int.tmod a0 16))) % 256] : List Int) : List Int)).bind fun y105 => (if a0 < 16 then (some (strOfNums y105)) else ((hurdleref01_digits.f k (IntKind.u64.wrap (Int.tdiv a0 16))).bind fun t108 => (if t108.size + (strOfNums y105).size ≤ 9223372036854775807 then (some (t108 ++ (strOfNums y105))) else (none))))) else (if a0 < 16 then (some (strOfNums y102)) else ((hurdleref01_digits.f k (IntKind.u64.wrap (Int.tdiv a0 16))).bind fun t109 => (if t109.size + (strOfNums y102).size ≤ 9223372036854775807 then (some (t109 ++ (strOfNums y102))) else (none))))) = some r := by first | (rw [hy102]; with_reducible exact H) | (have H2_ := (Option.bind_some _ _).symm.trans H; rw [hy102]; with_reducible exact H2_) | (have H2_ := (Option.bind_some _ _).symm.trans H; with_reducible exact H2_) | with_reducible exact H | (rw [hy102]; exact H) | exact H
  have Ny102 := Aside0.mk hy102
  clear hy102
  by_cases c2 : (Int.tmod a0 16) > 9
  · rw [if_pos c2] at H
    have c2b0 : decide (9 < (Int.tmod a0 16)) = true := decide_eq_true c2
    clear c2
    obtain ⟨y105, hy105⟩ : ∃ y_ : List Int, y_ = (([(IntKind.u64.wrap (87 + (Int.tmod a0 16))) % 256] : List Int)) := ⟨_, rfl⟩
    replace H : (if a0 < 16 then (some (strOfNums y105)) else ((hurdleref01_digits.f k (IntKind.u64.wrap (Int.tdiv a0 16))).bind fun t108 => (if t108.size + (strOfNums y105).size ≤ 9223372036854775807 then (some (t108 ++ (strOfNums y105))) else (none)))) = some r := by first | (rw [hy105]; with_reducible exact H) | (have H2_ := (Option.bind_some _ _).symm.trans H; rw [hy105]; with_reducible exact H2_) | (have H2_ := (Option.bind_some _ _).symm.trans H; with_reducible exact H2_) | with_reducible exact H | (rw [hy105]; exact H) | exact H
    have Ny105 := Aside0.mk hy105
    clear hy105
    by_cases c3 : a0 < 16
    · rw [if_pos c3] at H
      have c3b0 : decide (a0 < 16) = true := decide_eq_true c3
      clear c3
      obtain rfl := Option.some.inj H
      go_enter Try.func71, Try.ntmps71
      go_wp2_with (first | ((with_reducible refine gate_dst (N := 10) rfl ?_); refine Kd.R_lit (Kd.int .u8) _ 5 ?hg (N := 10) ?hd (xs := ([(IntKind.u64.wrap (48 + (Int.tmod a0 16))) % 256] : List Int)) (inner := [.int .u8 ((IntKind.u64.wrap (48 + (Int.tmod a0 16))) % 256)]) (ok := fun _ => True) (okp := fun _ => True) ?hr ?hp (fun _ hk => hk) trivial (Below.refl _ _) (Nat.le_refl _) (by simp) ?_; (case hd => rfl); (case hg => rfl); (case hr => first | (go_simp; done) | (go_simp; rfl)); (case hp => exact (Reps.one (show Kd.M (Kd.int .u8) _ _ _ ((IntKind.u64.wrap (48 + (Int.tmod a0 16))) % 256) [.int .u8 ((IntKind.u64.wrap (48 + (Int.tmod a0 16))) % 256)] from rfl) (Reps.none _ _))); intro v103 w4 ho5 hb hg_ hnew_; clear hg_ hnew_; (first | rw [← Ny102.out] at ho5 | (simp only [Int.reduceToNat] at ho5; rw [← Ny102.out] at ho5)); have n0_ := Aside0.mk (Kd.R_lower ho5 (below_size (by repeat (first | (with_reducible first | exact HB.out | apply below_alloc | apply pw_below_drewN | apply below_drew1) | exact HB.out)))); have n1_ := Aside0.mk (below_step (by repeat (first | (with_reducible first | exact HB.out | apply below_alloc | apply pw_below_drewN | apply below_drew1) | exact HB.out)) hb); clear HB; have HO104 := n0_; have HB := n1_; clear n0_ n1_; clear hb ho5; have hcv6 := own_string (P := Try.prog) Try.underlying101 Try.underlying5 Try.underlying9 (Kd.own_of_R HO104.out)) | ((with_reducible refine gate_dst (N := 17) rfl ?_); refine Kd.R_lit (Kd.int .u8) _ 5 ?hg (N := 17) ?hd (xs := ([(IntKind.u64.wrap (87 + (Int.tmod a0 16))) % 256] : List Int)) (inner := [.int .u8 ((IntKind.u64.wrap (87 + (Int.tmod a0 16))) % 256)]) (ok := fun _ => True) (okp := fun _ => True) ?hr ?hp (fun _ hk => hk) trivial (Below.refl _ _) (Nat.le_refl _) (by simp) ?_; (case hd => rfl); (case hg => rfl); (case hr => first | (go_simp; done) | (go_simp; rfl)); (case hp => exact (Reps.one (show Kd.M (Kd.int .u8) _ _ _ ((IntKind.u64.wrap (87 + (Int.tmod a0 16))) % 256) [.int .u8 ((IntKind.u64.wrap (87 + (Int.tmod a0 16))) % 256)] from rfl) (Reps.none _ _))); intro v106 w7 ho8 hb hg_ hnew_; clear hg_ hnew_; (first | rw [← Ny105.out] at ho8 | (simp only [Int.reduceToNat] at ho8; rw [← Ny105.out] at ho8)); have n0_ := Aside0.mk (Kd.R_elder' (by (with_reducible repeat (first | apply Kd.R_alloc | apply Kd.R_drewN | apply Kd.R_drew)); exact HO104.out) (Kd.R_base ho8) hb); have n1_ := Aside0.mk (Kd.R_lower (Kd.R_new' ho8 (Kd.R_lt (by (with_reducible repeat (first | apply Kd.R_alloc | apply Kd.R_drewN | apply Kd.R_drew)); exact HO104.out))) (below_size (by repeat (first | (with_reducible first | exact HB.out | apply below_alloc | apply pw_below_drewN | apply below_drew1) | exact HB.out)))); have n2_ := Aside0.mk (below_step (by repeat (first | (with_reducible first | exact HB.out | apply below_alloc | apply pw_below_drewN | apply below_drew1) | exact HB.out)) hb); clear HO104; clear HB; have HO104 := n0_; have HO107 := n1_; have HB := n2_; clear n0_ n1_ n2_; clear hb ho8; have hcv9 := own_string (P := Try.prog) Try.underlying101 Try.underlying5 Try.underlying9 (Kd.own_of_R HO107.out)))
      go_ret
      exact ⟨by first | rfl | (simp [errW_none, errW_some] <;> rfl) | (simp [*, errW_none, errW_some] <;> rfl), by repeat (first | (with_reducible first | exact HB.out | apply below_alloc | apply pw_below_drewN | apply below_drew1) | exact HB.out)⟩
    · rw [if_neg c3] at H
      have c3b0 : decide (a0 < 16) = false := decide_eq_false c3
      clear c3
      replace H := Option.bind_eq_some_iff.mp H
      obtain ⟨t108, A100, H⟩ := H
      replace H : (if t108.size + (strOfNums y105).size ≤ 9223372036854775807 then (some (t108 ++ (strOfNums y105))) else (none)) = some r := H
      have A10 := Aside0.mk A100
      clear A100
      by_cases c11 : t108.size + (strOfNums y105).size ≤ 9223372036854775807
      · rw [if_pos c11] at H
        have c11b0 := eq_true c11
        have c11b1 : decide (t108.size + (strOfNums y105).size ≤ 9223372036854775807) = true := decide_eq_true c11
        try have c11b2 : (9223372036854775807 < t108.size + (strOfNums y105).size) = False := eq_false (Nat.not_lt.2 c11)
        obtain rfl := Option.some.inj H
        go_enter Try.func71, Try.ntmps71
        go_wp2_with (first | ((with_reducible refine gate_dst (N := 10) rfl ?_); refine Kd.R_lit (Kd.int .u8) _ 5 ?hg (N := 10) ?hd (xs := ([(IntKind.u64.wrap (48 + (Int.tmod a0 16))) % 256] : List Int)) (inner := [.int .u8 ((IntKind.u64.wrap (48 + (Int.tmod a0 16))) % 256)]) (ok := fun _ => True) (okp := fun _ => True) ?hr ?hp (fun _ hk => hk) trivial (Below.refl _ _) (Nat.le_refl _) (by simp) ?_; (case hd => rfl); (case hg => rfl); (case hr => first | (go_simp; done) | (go_simp; rfl)); (case hp => exact (Reps.one (show Kd.M (Kd.int .u8) _ _ _ ((IntKind.u64.wrap (48 + (Int.tmod a0 16))) % 256) [.int .u8 ((IntKind.u64.wrap (48 + (Int.tmod a0 16))) % 256)] from rfl) (Reps.none _ _))); intro v103 w12 ho13 hb hg_ hnew_; clear hg_ hnew_; (first | rw [← Ny102.out] at ho13 | (simp only [Int.reduceToNat] at ho13; rw [← Ny102.out] at ho13)); have n0_ := Aside0.mk (Kd.R_lower ho13 (below_size (by repeat (first | (with_reducible first | exact HB.out | apply below_alloc | apply pw_below_drewN | apply below_drew1) | exact HB.out)))); have n1_ := Aside0.mk (below_step (by repeat (first | (with_reducible first | exact HB.out | apply below_alloc | apply pw_below_drewN | apply below_drew1) | exact HB.out)) hb); clear HB; have HO104 := n0_; have HB := n1_; clear n0_ n1_; clear hb ho13; have hcv14 := own_string (P := Try.prog) Try.underlying101 Try.underlying5 Try.underlying9 (Kd.own_of_R HO104.out)) | ((with_reducible refine gate_dst (N := 17) rfl ?_); refine Kd.R_lit (Kd.int .u8) _ 5 ?hg (N := 17) ?hd (xs := ([(IntKind.u64.wrap (87 + (Int.tmod a0 16))) % 256] : List Int)) (inner := [.int .u8 ((IntKind.u64.wrap (87 + (Int.tmod a0 16))) % 256)]) (ok := fun _ => True) (okp := fun _ => True) ?hr ?hp (fun _ hk => hk) trivial (Below.refl _ _) (Nat.le_refl _) (by simp) ?_; (case hd => rfl); (case hg => rfl); (case hr => first | (go_simp; done) | (go_simp; rfl)); (case hp => exact (Reps.one (show Kd.M (Kd.int .u8) _ _ _ ((IntKind.u64.wrap (87 + (Int.tmod a0 16))) % 256) [.int .u8 ((IntKind.u64.wrap (87 + (Int.tmod a0 16))) % 256)] from rfl) (Reps.none _ _))); intro v106 w15 ho16 hb hg_ hnew_; clear hg_ hnew_; (first | rw [← Ny105.out] at ho16 | (simp only [Int.reduceToNat] at ho16; rw [← Ny105.out] at ho16)); have n0_ := Aside0.mk (Kd.R_elder' (by (with_reducible repeat (first | apply Kd.R_alloc | apply Kd.R_drewN | apply Kd.R_drew)); exact HO104.out) (Kd.R_base ho16) hb); have n1_ := Aside0.mk (Kd.R_lower (Kd.R_new' ho16 (Kd.R_lt (by (with_reducible repeat (first | apply Kd.R_alloc | apply Kd.R_drewN | apply Kd.R_drew)); exact HO104.out))) (below_size (by repeat (first | (with_reducible first | exact HB.out | apply below_alloc | apply pw_below_drewN | apply below_drew1) | exact HB.out)))); have n2_ := Aside0.mk (below_step (by repeat (first | (with_reducible first | exact HB.out | apply below_alloc | apply pw_below_drewN | apply below_drew1) | exact HB.out)) hb); clear HO104; clear HB; have HO104 := n0_; have HO107 := n1_; have HB := n2_; clear n0_ n1_ n2_; clear hb ho16; have hcv17 := own_string (P := Try.prog) Try.underlying101 Try.underlying5 Try.underlying9 (Kd.own_of_R HO107.out)) | ((with_reducible refine gate_callee (f := 71) rfl ?_); refine goesL_ (some 24) rfl rfl Try.func71 (by kernel_rfl) rfl #[.int .u64 (IntKind.u64.wrap (Int.tdiv a0 16))] rfl (by (try simp only [List.map_toArray, List.map_cons, List.map_nil]); first | done | rfl | (simp only [List.length_drop, List.length_take]; rfl)) ?_; (with_reducible refine (ih k (by omega) (IntKind.u64.wrap (Int.tdiv a0 16)) t108 _ A10.out).mono ?_); rintro e w18 ⟨rfl, hb⟩; refine ⟨_, rfl, ?_⟩; have n0_ := Aside0.mk (Kd.R_below (by (with_reducible repeat (first | apply Kd.R_alloc | apply Kd.R_drewN | apply Kd.R_drew)); exact HO104.out) hb); have n1_ := Aside0.mk (Kd.R_below (by (with_reducible repeat (first | apply Kd.R_alloc | apply Kd.R_drewN | apply Kd.R_drew)); exact HO107.out) hb); have n2_ := Aside0.mk (below_step (by repeat (first | (with_reducible first | exact HB.out | apply below_alloc | apply pw_below_drewN | apply below_drew1) | exact HB.out)) hb); clear HO104; clear HO107; clear HB; have HO104 := n0_; have HO107 := n1_; have HB := n2_; clear n0_ n1_ n2_; (try clear hb); (try clear hb2); (try clear hk); (try clear hi)))
        go_ret
        exact ⟨by first | rfl | (simp [errW_none, errW_some] <;> rfl) | (simp [*, errW_none, errW_some] <;> rfl), by repeat (first | (with_reducible first | exact HB.out | apply below_alloc | apply pw_below_drewN | apply below_drew1) | exact HB.out)⟩
      · rw [if_neg c11] at H
        exact absurd H (by simp)
  · rw [if_neg c2] at H
    have c2b0 : decide (9 < (Int.tmod a0 16)) = false := decide_eq_false c2
    clear c2
    by_cases c19 : a0 < 16
    · rw [if_pos c19] at H
      have c19b0 : decide (a0 < 16) = true := decide_eq_true c19
      clear c19
      obtain rfl := Option.some.inj H
      go_enter Try.func71, Try.ntmps71
      go_wp2_with (first | ((with_reducible refine gate_dst (N := 10) rfl ?_); refine Kd.R_lit (Kd.int .u8) _ 5 ?hg (N := 10) ?hd (xs := ([(IntKind.u64.wrap (48 + (Int.tmod a0 16))) % 256] : List Int)) (inner := [.int .u8 ((IntKind.u64.wrap (48 + (Int.tmod a0 16))) % 256)]) (ok := fun _ => True) (okp := fun _ => True) ?hr ?hp (fun _ hk => hk) trivial (Below.refl _ _) (Nat.le_refl _) (by simp) ?_; (case hd => rfl); (case hg => rfl); (case hr => first | (go_simp; done) | (go_simp; rfl)); (case hp => exact (Reps.one (show Kd.M (Kd.int .u8) _ _ _ ((IntKind.u64.wrap (48 + (Int.tmod a0 16))) % 256) [.int .u8 ((IntKind.u64.wrap (48 + (Int.tmod a0 16))) % 256)] from rfl) (Reps.none _ _))); intro v103 w20 ho21 hb hg_ hnew_; clear hg_ hnew_; (first | rw [← Ny102.out] at ho21 | (simp only [Int.reduceToNat] at ho21; rw [← Ny102.out] at ho21)); have n0_ := Aside0.mk (Kd.R_lower ho21 (below_size (by repeat (first | (with_reducible first | exact HB.out | apply below_alloc | apply pw_below_drewN | apply below_drew1) | exact HB.out)))); have n1_ := Aside0.mk (below_step (by repeat (first | (with_reducible first | exact HB.out | apply below_alloc | apply pw_below_drewN | apply below_drew1) | exact HB.out)) hb); clear HB; have HO104 := n0_; have HB := n1_; clear n0_ n1_; clear hb ho21; have hcv22 := own_string (P := Try.prog) Try.underlying101 Try.underlying5 Try.underlying9 (Kd.own_of_R HO104.out)))
      go_ret
      exact ⟨by first | rfl | (simp [errW_none, errW_some] <;> rfl) | (simp [*, errW_none, errW_some] <;> rfl), by repeat (first | (with_reducible first | exact HB.out | apply below_alloc | apply pw_below_drewN | apply below_drew1) | exact HB.out)⟩
    · rw [if_neg c19] at H
      have c19b0 : decide (a0 < 16) = false := decide_eq_false c19
      clear c19
      replace H := Option.bind_eq_some_iff.mp H
      obtain ⟨t109, A230, H⟩ := H
      replace H : (if t109.size + (strOfNums y102).size ≤ 9223372036854775807 then (some (t109 ++ (strOfNums y102))) else (none)) = some r := H
      have A23 := Aside0.mk A230
      clear A230
      by_cases c24 : t109.size + (strOfNums y102).size ≤ 9223372036854775807
      · rw [if_pos c24] at H
        have c24b0 := eq_true c24
        have c24b1 : decide (t109.size + (strOfNums y102).size ≤ 9223372036854775807) = true := decide_eq_true c24
        try have c24b2 : (9223372036854775807 < t109.size + (strOfNums y102).size) = False := eq_false (Nat.not_lt.2 c24)
        obtain rfl := Option.some.inj H
        go_enter Try.func71, Try.ntmps71
        go_wp2_with (first | ((with_reducible refine gate_dst (N := 10) rfl ?_); refine Kd.R_lit (Kd.int .u8) _ 5 ?hg (N := 10) ?hd (xs := ([(IntKind.u64.wrap (48 + (Int.tmod a0 16))) % 256] : List Int)) (inner := [.int .u8 ((IntKind.u64.wrap (48 + (Int.tmod a0 16))) % 256)]) (ok := fun _ => True) (okp := fun _ => True) ?hr ?hp (fun _ hk => hk) trivial (Below.refl _ _) (Nat.le_refl _) (by simp) ?_; (case hd => rfl); (case hg => rfl); (case hr => first | (go_simp; done) | (go_simp; rfl)); (case hp => exact (Reps.one (show Kd.M (Kd.int .u8) _ _ _ ((IntKind.u64.wrap (48 + (Int.tmod a0 16))) % 256) [.int .u8 ((IntKind.u64.wrap (48 + (Int.tmod a0 16))) % 256)] from rfl) (Reps.none _ _))); intro v103 w25 ho26 hb hg_ hnew_; clear hg_ hnew_; (first | rw [← Ny102.out] at ho26 | (simp only [Int.reduceToNat] at ho26; rw [← Ny102.out] at ho26)); have n0_ := Aside0.mk (Kd.R_lower ho26 (below_size (by repeat (first | (with_reducible first | exact HB.out | apply below_alloc | apply pw_below_drewN | apply below_drew1) | exact HB.out)))); have n1_ := Aside0.mk (below_step (by repeat (first | (with_reducible first | exact HB.out | apply below_alloc | apply pw_below_drewN | apply below_drew1) | exact HB.out)) hb); clear HB; have HO104 := n0_; have HB := n1_; clear n0_ n1_; clear hb ho26; have hcv27 := own_string (P := Try.prog) Try.underlying101 Try.underlying5 Try.underlying9 (Kd.own_of_R HO104.out)) | ((with_reducible refine gate_callee (f := 71) rfl ?_); refine goesL_ (some 24) rfl rfl Try.func71 (by kernel_rfl) rfl #[.int .u64 (IntKind.u64.wrap (Int.tdiv a0 16))] rfl (by (try simp only [List.map_toArray, List.map_cons, List.map_nil]); first | done | rfl | (simp only [List.length_drop, List.length_take]; rfl)) ?_; (with_reducible refine (ih k (by omega) (IntKind.u64.wrap (Int.tdiv a0 16)) t109 _ A23.out).mono ?_); rintro e w28 ⟨rfl, hb⟩; refine ⟨_, rfl, ?_⟩; have n0_ := Aside0.mk (Kd.R_below (by (with_reducible repeat (first | apply Kd.R_alloc | apply Kd.R_drewN | apply Kd.R_drew)); exact HO104.out) hb); have n1_ := Aside0.mk (below_step (by repeat (first | (with_reducible first | exact HB.out | apply below_alloc | apply pw_below_drewN | apply below_drew1) | exact HB.out)) hb); clear HO104; clear HB; have HO104 := n0_; have HB := n1_; clear n0_ n1_; (try clear hb); (try clear hb2); (try clear hk); (try clear hi)))
        go_ret
        exact ⟨by first | rfl | (simp [errW_none, errW_some] <;> rfl) | (simp [*, errW_none, errW_some] <;> rfl), by repeat (first | (with_reducible first | exact HB.out | apply below_alloc | apply pw_below_drewN | apply below_drew1) | exact HB.out)⟩
      · rw [if_neg c24] at H
        exact absurd H (by simp)
def hurdleref01_Text.f (k : Nat) (a0 : Int) : Option (ByteArray) := (hurdleref01_digits.f k a0).bind fun t110 => (if 2 + t110.size ≤ 9223372036854775807 then (some ((⟨#[48, 120]⟩ : ByteArray) ++ t110)) else (none))
set_option maxHeartbeats 8000000 in
set_option maxRecDepth 100000 in
theorem hurdleref01_Text.calls (k : Nat) (a0 : Int) (r : ByteArray) (w : World) (h : hurdleref01_Text.f k a0 = some r) :
    Calls Try.prog 54 #[.int .u64 a0] w fun e w' => e = .returned (.string r) ∧ Below w.heap.size w w' := by
  have HB := Aside0.mk (Below.refl w.heap.size w)
  have H : ((hurdleref01_digits.f k a0).bind fun t110 => (if 2 + t110.size ≤ 9223372036854775807 then (some ((⟨#[48, 120]⟩ : ByteArray) ++ t110)) else (none))) = some r := h
  clear h
  replace H := Option.bind_eq_some_iff.mp H
  obtain ⟨t110, A20, H⟩ := H
  replace H : (if 2 + t110.size ≤ 9223372036854775807 then (some ((⟨#[48, 120]⟩ : ByteArray) ++ t110)) else (none)) = some r := H
  have A2 := Aside0.mk A20
  clear A20
  by_cases c3 : 2 + t110.size ≤ 9223372036854775807
  · rw [if_pos c3] at H
    have c3b0 := eq_true c3
    have c3b1 : decide (2 + t110.size ≤ 9223372036854775807) = true := decide_eq_true c3
    try have c3b2 : (9223372036854775807 < 2 + t110.size) = False := eq_false (Nat.not_lt.2 c3)
    obtain rfl := Option.some.inj H
    go_enter Try.func54, Try.ntmps54
    go_wp2_with (first | ((with_reducible refine gate_callee (f := 71) rfl ?_); refine goesL_ (some 4) rfl rfl Try.func71 (by kernel_rfl) rfl #[.int .u64 a0] rfl (by (try simp only [List.map_toArray, List.map_cons, List.map_nil]); first | done | rfl | (simp only [List.length_drop, List.length_take]; rfl)) ?_; (with_reducible refine (hurdleref01_digits.calls k a0 t110 _ A2.out).mono ?_); rintro e w4 ⟨rfl, hb⟩; refine ⟨_, rfl, ?_⟩; have n0_ := Aside0.mk (below_step (by repeat (first | (with_reducible first | exact HB.out | apply below_alloc | apply pw_below_drewN | apply below_drew1) | exact HB.out)) hb); clear HB; have HB := n0_; clear n0_; (try clear hb); (try clear hb2); (try clear hk); (try clear hi)))
    go_ret
    exact ⟨by first | rfl | (simp [errW_none, errW_some] <;> rfl) | (simp [*, errW_none, errW_some] <;> rfl), by repeat (first | (with_reducible first | exact HB.out | apply below_alloc | apply pw_below_drewN | apply below_drew1) | exact HB.out)⟩
  · rw [if_neg c3] at H
    exact absurd H (by simp)
def hurdlelaw10_Great.l0 : Nat → Int → List (S40) → Int → Option (Bool)
  | 0, _, _, _ => none
  | k + 1, x3, x113000, x113001 => if x3 < (x113000.length : Int) then (if 0 ≤ x3 then (if (((rd_T40 x113000 x3).f2).length : Int) > 20 then (some true) else (hurdlelaw10_Great.l0 k (wrap64 (x3 + 1)) x113000 x113001)) else (none)) else (some (decide ((x113000.length : Int) > 100)))
def hurdlelaw10_Great.f (k : Nat) (l0_0 : List (S40)) (a0_1 : Int) : Option (Bool) := hurdlelaw10_Great.l0 k 0 l0_0 a0_1
set_option maxHeartbeats 8000000 in
set_option maxRecDepth 100000 in
theorem hurdlelaw10_Great.calls (k : Nat) (A0_0 : Option Addr) (c0_0 : Nat) (l0_0 : List (S40)) (a0_1 : Int) (r : Bool) (w : World) (hr0_0 : Kd.C k40 w A0_0 l0_0.length l0_0) (hc0_0 : l0_0.length ≤ c0_0) (h : hurdlelaw10_Great.f k l0_0 a0_1 = some r) :
    Calls Try.prog 14 #[.agg #[.slice A0_0 l0_0.length c0_0, .int .u32 a0_1]] w fun e w' => e = .returned (.bool r) ∧ Below w.heap.size w w' := by
  have hu25 := Try.underlying25
  have HR0_0 := Aside0.mk hr0_0
  have HC0_0 := Aside0.mk hc0_0
  clear hr0_0 hc0_0
  have HB := Aside0.mk (Below.refl w.heap.size w)
  have H : (hurdlelaw10_Great.l0 k 0 l0_0 a0_1) = some r := h
  clear h
  have H' := Aside0.mk H
  clear H
  go_enter Try.func14, Try.ntmps14
  go_wp2_with (first | ((with_reducible refine gate_dst (N := 1) rfl ?_); refine box_event ?hg (N := 1) ?hd (cs := #[.slice A0_0 l0_0.length c0_0, .int .u32 a0_1]) (t := 25) ?hr ?_; (case hd => rfl); (case hg => rfl); (case hr => first | (go_simp; done) | (go_simp; rfl)); intro gb112 hg w2 hbox hb; have n0_ := Aside0.mk (below_step (by repeat (first | (with_reducible first | exact HB.out | apply below_alloc | apply pw_below_drewN | apply below_drew1) | exact HB.out)) hb); have n1_ := Aside0.mk (hbox); have n2_ := Aside0.mk ((by rw [hg]; exact (below_size (by repeat (first | (with_reducible first | exact HB.out | apply below_alloc | apply pw_below_drewN | apply below_drew1) | exact HB.out))) : w.heap.size ≤ gb112)); have n3_ := Aside0.mk ((by rw [hg]; exact (below_size (by repeat (first | (with_reducible first | exact HB.out | apply below_alloc | apply pw_below_drewN | apply below_drew1) | exact HB.out))) : w.heap.size ≤ gb112)); clear HB; have HB := n0_; have BK112 := n1_; have GW112 := n2_; have GE112 := n3_; clear n0_ n1_ n2_ n3_; clear hb hbox hg))
  go_loopg [3] k (fun kq v3 w' => ∃ (x3_1 : Int), v3 = .int .i64 x3_1 ∧ Aside0 (hurdlelaw10_Great.l0 kq x3_1 l0_0 a0_1 = some r) ∧ Aside0 (kq ≤ k) ∧ Aside0 (w'.heap[gb112]? = some (.cells #[(.slice A0_0 l0_0.length c0_0), .int .u32 a0_1] 25 (0, 0))) ∧ Aside0 (Below w.heap.size w w'))
  case atStart => exact ⟨(0), (by first | rfl | (simp; done) | (simp [*]; done)), H', ⟨Nat.le_refl _⟩, ⟨by (with_reducible repeat (first | refine blk_drewN ?_ _ | refine blk_drew ?_ | refine blk_alloc ?_ _)); exact BK112.out⟩, ⟨by repeat (first | (with_reducible first | exact HB.out | apply below_alloc | apply pw_below_drewN | apply below_drew1 | refine below_set ?_ GE112.out) | exact HB.out)⟩⟩
  case round =>
    clear H'
    try clear c1
    try clear p2
    obtain ⟨x3_1, rfl, HA, HK1, BK112, HB⟩ := hrel
    cases gk with
    | zero => exact absurd HA.out (by simp [hurdlelaw10_Great.l0])
    | succ k1 =>
      have H := HA.out
      clear HA
      simp only [hurdlelaw10_Great.l0] at H
      by_cases c3 : x3_1 < (l0_0.length : Int)
      · rw [if_pos c3] at H
        have c3b0 : decide (x3_1 < (l0_0.length : Int)) = true := decide_eq_true c3
        clear c3
        by_cases c4 : 0 ≤ x3_1
        · rw [if_pos c4] at H
          have c4b0 : decide (0 ≤ x3_1) = true := decide_eq_true c4
          clear c4
          by_cases c5 : (((rd_T40 l0_0 x3_1).f2).length : Int) > 20
          · rw [if_pos c5] at H
            have c5b0 : decide (20 < (((rd_T40 l0_0 x3_1).f2).length : Int)) = true := decide_eq_true c5
            have c5b1 : decide (20 < ((rd_T40 l0_0 x3_1).f2).length) = true := decide_eq_true (by omega)
            clear c5
            obtain rfl := Option.some.inj H
            have hcz6_0 : wr.cell? ⟨gb112, 0, none⟩ = some (.slice A0_0 l0_0.length c0_0) := (blk_cell BK112.out 0).trans rfl
            have hcz6_1 : wr.cell? ⟨gb112, 1, none⟩ = some (.int .u32 a0_1) := (blk_cell BK112.out 1).trans rfl
            have hfz6_0 := blk_frozen BK112.out 0
            have hfz6_1 := blk_frozen BK112.out 1
            have p113 : 0 ≤ (x3_1 : Int) := of_decide_eq_true (by first | (with_reducible assumption) | assumption)
            have q113 : x3_1 < (l0_0.length : Int) := of_decide_eq_true (by first | (with_reducible assumption) | assumption)
            obtain ⟨ad113, A113_2, c113_2, e113, hx113_0, hx113_1, hx113_2, hx113_3, hl113_2, hi113_2⟩ := at_T40 HR0_0.out x3_1 p113 q113
            cases e113
            replace hx113_0 := (HB.out.cell (World.block_lt_of_cell? w _ hx113_0)).trans hx113_0
            replace hx113_1 := (HB.out.cell (World.block_lt_of_cell? w _ hx113_1)).trans hx113_1
            replace hx113_2 := (HB.out.cell (World.block_lt_of_cell? w _ hx113_2)).trans hx113_2
            replace hx113_3 := (HB.out.cell (World.block_lt_of_cell? w _ hx113_3)).trans hx113_3
            have HR113_2 := Aside0.mk hi113_2
            have HC113_2 := Aside0.mk hl113_2
            clear hi113_2 hl113_2
            replace p113 := eq_true p113
            replace q113 := eq_true q113
            go_wp2
            go_ret
            exact ⟨by first | rfl | (simp [errW_none, errW_some] <;> rfl) | (simp [*, errW_none, errW_some] <;> rfl), by repeat (first | (with_reducible first | exact HB.out | apply below_alloc | apply pw_below_drewN | apply below_drew1 | refine below_set ?_ GE112.out) | exact HB.out)⟩
          · rw [if_neg c5] at H
            have c5b0 : decide (20 < (((rd_T40 l0_0 x3_1).f2).length : Int)) = false := decide_eq_false c5
            have c5b1 : decide (20 < ((rd_T40 l0_0 x3_1).f2).length) = false := decide_eq_false (by omega)
            clear c5
            have H' := Aside0.mk H
            clear H
            have hcz7_0 : wr.cell? ⟨gb112, 0, none⟩ = some (.slice A0_0 l0_0.length c0_0) := (blk_cell BK112.out 0).trans rfl
            have hcz7_1 : wr.cell? ⟨gb112, 1, none⟩ = some (.int .u32 a0_1) := (blk_cell BK112.out 1).trans rfl
            have hfz7_0 := blk_frozen BK112.out 0
            have hfz7_1 := blk_frozen BK112.out 1
            have p113 : 0 ≤ (x3_1 : Int) := of_decide_eq_true (by first | (with_reducible assumption) | assumption)
            have q113 : x3_1 < (l0_0.length : Int) := of_decide_eq_true (by first | (with_reducible assumption) | assumption)
            obtain ⟨ad113, A113_2, c113_2, e113, hx113_0, hx113_1, hx113_2, hx113_3, hl113_2, hi113_2⟩ := at_T40 HR0_0.out x3_1 p113 q113
            cases e113
            replace hx113_0 := (HB.out.cell (World.block_lt_of_cell? w _ hx113_0)).trans hx113_0
            replace hx113_1 := (HB.out.cell (World.block_lt_of_cell? w _ hx113_1)).trans hx113_1
            replace hx113_2 := (HB.out.cell (World.block_lt_of_cell? w _ hx113_2)).trans hx113_2
            replace hx113_3 := (HB.out.cell (World.block_lt_of_cell? w _ hx113_3)).trans hx113_3
            have HR113_2 := Aside0.mk hi113_2
            have HC113_2 := Aside0.mk hl113_2
            clear hi113_2 hl113_2
            replace p113 := eq_true p113
            replace q113 := eq_true q113
            go_wp2
            go_roundg k1
            case measure => have := HK1.out; omega
            case rel => exact ⟨(wrap64 (x3_1 + 1)), (by first | rfl | (simp; done) | (simp [*]; done)), H', ⟨by have := HK1.out; omega⟩, ⟨by (with_reducible repeat (first | refine blk_drewN ?_ _ | refine blk_drew ?_ | refine blk_alloc ?_ _)); exact BK112.out⟩, ⟨by repeat (first | (with_reducible first | exact HB.out | apply below_alloc | apply pw_below_drewN | apply below_drew1 | refine below_set ?_ GE112.out) | exact HB.out)⟩⟩
        · rw [if_neg c4] at H
          exact absurd H (by simp)
      · rw [if_neg c3] at H
        have c3b0 : decide (x3_1 < (l0_0.length : Int)) = false := decide_eq_false c3
        clear c3
        obtain rfl := Option.some.inj H
        have hcz8_0 : wr.cell? ⟨gb112, 0, none⟩ = some (.slice A0_0 l0_0.length c0_0) := (blk_cell BK112.out 0).trans rfl
        have hcz8_1 : wr.cell? ⟨gb112, 1, none⟩ = some (.int .u32 a0_1) := (blk_cell BK112.out 1).trans rfl
        have hfz8_0 := blk_frozen BK112.out 0
        have hfz8_1 := blk_frozen BK112.out 1
        go_wp2
        go_ret
        exact ⟨by first | rfl | (simp [errW_none, errW_some] <;> rfl) | (simp [*, errW_none, errW_some] <;> rfl), by repeat (first | (with_reducible first | exact HB.out | apply below_alloc | apply pw_below_drewN | apply below_drew1 | refine below_set ?_ GE112.out) | exact HB.out)⟩
end Go.Proofs.Ytekpbgmmogpbdaa.M
set_option linter.unusedVariables false
set_option linter.unusedSimpArgs false
set_option maxRecDepth 100000
namespace Go.Proofs.Ytekpbgmmogpbdaa.H
open Go.RowKit Go.Proofs.Ytekpbgmmogpbdaa.M Go.Proofs.YtekpbgmmogpbdaaW.PrintWords Go.Proofs.YtekpbgmmogpbdaaW.PrintMore
theorem str_append (a b : List Int) : strOfNums a ++ strOfNums b = strOfNums (a ++ b) := by
  apply ByteArray.ext
  apply Array.ext'
  simp [strOfNums, ByteArray.data_append]
theorem ref_digits (n : Nat) : ∀ k j, n < 16 ^ (j + 1) → j ≤ 15 → j < k → hurdleref01_digits.f k (n : Int) = some (strOfNums (hexL n)) := by
  induction n using Nat.strongRecOn with
  | ind n ih =>
    intro k j hn hj hk
    obtain ⟨k, rfl⟩ : ∃ m, k = m + 1 := ⟨k - 1, by omega⟩
    have h64 : n < 18446744073709551616 := by
      have : 16 ^ (j + 1) ≤ 16 ^ 16 := Nat.pow_le_pow_right (by omega) (by omega)
      have e : (16 : Nat) ^ 16 = 18446744073709551616 := by decide
      omega
    have hm : Int.tmod (n : Int) 16 = ((n % 16 : Nat) : Int) := by rw [Int.tmod_eq_emod_of_nonneg (by omega)]; omega
    have hd : IntKind.u64.wrap (Int.tdiv (n : Int) 16) = ((n / 16 : Nat) : Int) := by
      rw [show Int.tdiv (n : Int) 16 = ((n / 16 : Nat) : Int) from rfl, IntWalk.u64_in _ (by omega)]
    simp only [hurdleref01_digits.f, Option.bind_some]
    rw [hm, hd]
    have hdig : ∀ d : Nat, d < 16 → (if (d : Int) > 9 then ([(IntKind.u64.wrap (87 + (d : Int))) % 256] : List Int) else [(IntKind.u64.wrap (48 + (d : Int))) % 256]) = [((hexc d : Nat) : Int)] := by
      intro d hd
      unfold hexc
      split
      · rw [if_neg (by omega), IntWalk.u64_in _ (by omega)]; congr 1; omega
      · rw [if_pos (by omega), IntWalk.u64_in _ (by omega)]; congr 1; omega
    have h1 := hdig (n % 16) (by omega)
    have hsz : ∀ m : Nat, m < 16 ^ 16 → (strOfNums (hexL m)).size ≤ 16 := by
      intro m hm
      rw [strOfNums_size]; exact (hexL_length 15 m hm).2
    by_cases hl : n < 16
    · have hx : hexL n = [((hexc (n % 16) : Nat) : Int)] := by rw [hexL, if_pos hl, Nat.mod_eq_of_lt hl]
      rw [hx, ← h1]
      split
      · rw [if_pos (by omega)]
      · rw [if_pos (by omega)]
    · have hx : hexL n = hexL (n / 16) ++ [((hexc (n % 16) : Nat) : Int)] := by rw [hexL, if_neg hl]
      obtain ⟨j, rfl⟩ : ∃ i, j = i + 1 := ⟨j - 1, by
        cases j with
        | zero => simp at hn; omega
        | succ j => omega⟩
      have e2 : 16 ^ (j + 1 + 1) = 16 ^ (j + 1) * 16 := Nat.pow_succ ..
      have hi := ih (n / 16) (by omega) k j (by omega) (by omega) (by omega)
      have hs := hsz (n / 16) (by omega)
      rw [hx, ← h1, hi]
      simp only [Option.bind_some]
      split
      · rw [if_neg (by omega), if_pos (by rw [strOfNums_size] at hs ⊢; rw [strOfNums_size]; simp; omega), str_append]
      · rw [if_neg (by omega), if_pos (by rw [strOfNums_size] at hs ⊢; rw [strOfNums_size]; simp; omega), str_append]
theorem ref_text (n k : Nat) (h : n < 18446744073709551616) (hk : 15 < k) : hurdleref01_Text.f k (n : Int) = some (strOfNums (textL n)) := by
  unfold hurdleref01_Text.f
  rw [ref_digits n k 15 (by omega) (by omega) hk]
  simp only [Option.bind_some]
  have hs := (hexL_length 15 n (by omega)).2
  rw [if_pos (by rw [strOfNums_size]; omega)]
  rw [show (⟨#[48, 120]⟩ : ByteArray) = strOfNums [48, 120] from rfl, str_append]
  rfl
end Go.Proofs.Ytekpbgmmogpbdaa.H
set_option linter.unusedVariables false
set_option linter.unusedSimpArgs false
set_option maxRecDepth 100000
namespace Go.Proofs.Ytekpbgmmogpbdaa.H
open Go.RowKit Go.Proofs.YtekpbgmmogpbdaaW.PrintWords
theorem RefText_walk (n : Int) (h : u64P n) : Gives Try.prog 54 #[.int .u64 n] (.string (textB n)) := by
  intro w
  obtain ⟨k, rfl⟩ := Int.eq_ofNat_of_zero_le h.1
  exact M.hurdleref01_Text.calls 16 (k : Int) _ w (ref_text k 16 (by unfold u64P at h; omega) (by omega))
def hurdleref01_Text.f (a0 : Int) : Option ByteArray := if u64P a0 then some (textB a0) else none
theorem hurdleref01_Text.calls (a0 : Int) (r : ByteArray) (w : World) (h : hurdleref01_Text.f a0 = some r) :
    Calls Try.prog 54 #[.int .u64 a0] w fun e w' => e = .returned (.string r) ∧ Below w.heap.size w w' := by
  unfold hurdleref01_Text.f at h
  split at h
  · rename_i hh
    have := RefText_walk a0 hh w
    rw [Option.some.inj h] at this
    exact this
  · simp at h
end Go.Proofs.Ytekpbgmmogpbdaa.H
namespace Go.Proofs.Ytekpbgmmogpbdaa.P
open Go.RowKit Go.Proofs.Ytekpbgmmogpbdaa.H Go.Proofs.YtekpbgmmogpbdaaW.PrintWords Go.Proofs.YtekpbgmmogpbdaaW.PrintLast Go.Proofs.YtekpbgmmogpbdaaW.PrintMore
attribute [local go_sem] max2_int min2_int max_two min_two max_three min_three max_four min_four
set_option linter.unusedVariables false
set_option linter.unusedSimpArgs false
theorem k61_mk (w : World) (x : S61)  : k61.K w x [.int .i64 x.f0, .int .i64 x.f1, .int .u64 x.f2, .int .u64 x.f3] := ⟨[.int .i64 x.f0], [.int .i64 x.f1, .int .u64 x.f2, .int .u64 x.f3], rfl, rfl, ⟨[.int .i64 x.f1], [.int .u64 x.f2, .int .u64 x.f3], rfl, rfl, ⟨[.int .u64 x.f2], [.int .u64 x.f3], rfl, rfl, rfl⟩⟩⟩
theorem k40_mk (w : World) (x : S40) {A2 : Option Addr} {c2 : Nat} (l2 : x.f2.length ≤ c2) (g2 : k61.C w A2 x.f2.length x.f2) : k40.K w x [.int .u32 x.f0, .int .u32 x.f1, .slice A2 x.f2.length c2, .int .u32 x.f3] := ⟨[.int .u32 x.f0], [.int .u32 x.f1, .slice A2 x.f2.length c2, .int .u32 x.f3], rfl, rfl, ⟨[.int .u32 x.f1], [.slice A2 x.f2.length c2, .int .u32 x.f3], rfl, rfl, ⟨[.slice A2 x.f2.length c2], [.int .u32 x.f3], rfl, ⟨A2, c2, rfl, l2, g2⟩, rfl⟩⟩⟩
theorem k40_mkF (W : World) (ok : Nat → Prop) (x : S40) {A2 : Option Addr} {c2 : Nat} (l2 : x.f2.length ≤ c2) (g2 : Kd.F k61 W ok A2 x.f2.length x.f2) : Kd.FK k40 W ok x [.int .u32 x.f0, .int .u32 x.f1, .slice A2 x.f2.length c2, .int .u32 x.f3] := fun W2 hW => k40_mk W2 x l2 (g2 W2 hW)
end Go.Proofs.Ytekpbgmmogpbdaa.P
namespace Go.Proofs.Ytekpbgmmogpbdaa.P
open Go.RowKit Go.Proofs.Ytekpbgmmogpbdaa.H Go.Proofs.YtekpbgmmogpbdaaW.PrintWords Go.Proofs.YtekpbgmmogpbdaaW.PrintLast Go.Proofs.YtekpbgmmogpbdaaW.PrintMore
attribute [local go_sem] max2_int min2_int max_two min_two max_three min_three max_four min_four
set_option linter.unusedVariables false
set_option linter.unusedSimpArgs false
def hurdlelaw10_Great.l0 : Nat → Int → List (S40) → Int → Option (Bool)
  | 0, _, _, _ => none
  | k + 1, x3, x102000, x102001 => if x3 < (x102000.length : Int) then (if 0 ≤ x3 then (if (((rd_T40 x102000 x3).f2).length : Int) > 20 then (some true) else (hurdlelaw10_Great.l0 k (wrap64 (x3 + 1)) x102000 x102001)) else (none)) else (some (decide ((x102000.length : Int) > 100)))
def hurdlelaw10_Great.f (k : Nat) (l0_0 : List (S40)) (a0_1 : Int) : Option (Bool) := hurdlelaw10_Great.l0 k 0 l0_0 a0_1
set_option maxHeartbeats 8000000 in
set_option maxRecDepth 100000 in
theorem hurdlelaw10_Great.calls (k : Nat) (A0_0 : Option Addr) (c0_0 : Nat) (l0_0 : List (S40)) (a0_1 : Int) (r : Bool) (w : World) (hr0_0 : Kd.C k40 w A0_0 l0_0.length l0_0) (hc0_0 : l0_0.length ≤ c0_0) (h : hurdlelaw10_Great.f k l0_0 a0_1 = some r) :
    Calls Try.prog 14 #[.agg #[.slice A0_0 l0_0.length c0_0, .int .u32 a0_1]] w fun e w' => e = .returned (.bool r) ∧ Below w.heap.size w w' := by
  have hu25 := Try.underlying25
  have HR0_0 := Aside0.mk hr0_0
  have HC0_0 := Aside0.mk hc0_0
  clear hr0_0 hc0_0
  have HB := Aside0.mk (Below.refl w.heap.size w)
  have H : (hurdlelaw10_Great.l0 k 0 l0_0 a0_1) = some r := h
  clear h
  have H' := Aside0.mk H
  clear H
  go_enter Try.func14, Try.ntmps14
  go_wp2_with (first | ((with_reducible refine gate_dst (N := 1) rfl ?_); refine box_event ?hg (N := 1) ?hd (cs := #[.slice A0_0 l0_0.length c0_0, .int .u32 a0_1]) (t := 25) ?hr ?_; (case hd => rfl); (case hg => rfl); (case hr => first | (go_simp; done) | (go_simp; rfl)); intro gb101 hg w2 hbox hb; have n0_ := Aside0.mk (below_step (by repeat (first | (with_reducible first | exact HB.out | apply below_alloc | apply pw_below_drewN | apply below_drew1) | exact HB.out)) hb); have n1_ := Aside0.mk (hbox); have n2_ := Aside0.mk ((by rw [hg]; exact (below_size (by repeat (first | (with_reducible first | exact HB.out | apply below_alloc | apply pw_below_drewN | apply below_drew1) | exact HB.out))) : w.heap.size ≤ gb101)); have n3_ := Aside0.mk ((by rw [hg]; exact (below_size (by repeat (first | (with_reducible first | exact HB.out | apply below_alloc | apply pw_below_drewN | apply below_drew1) | exact HB.out))) : w.heap.size ≤ gb101)); clear HB; have HB := n0_; have BK101 := n1_; have GW101 := n2_; have GE101 := n3_; clear n0_ n1_ n2_ n3_; clear hb hbox hg))
  go_loopg [3] k (fun kq v3 w' => ∃ (x3_1 : Int), v3 = .int .i64 x3_1 ∧ Aside0 (hurdlelaw10_Great.l0 kq x3_1 l0_0 a0_1 = some r) ∧ Aside0 (kq ≤ k) ∧ Aside0 (w'.heap[gb101]? = some (.cells #[(.slice A0_0 l0_0.length c0_0), .int .u32 a0_1] 25 (0, 0))) ∧ Aside0 (Below w.heap.size w w'))
  case atStart => exact ⟨(0), (by first | rfl | (simp; done) | (simp [*]; done)), H', ⟨Nat.le_refl _⟩, ⟨by (with_reducible repeat (first | refine blk_drewN ?_ _ | refine blk_drew ?_ | refine blk_alloc ?_ _)); exact BK101.out⟩, ⟨by repeat (first | (with_reducible first | exact HB.out | apply below_alloc | apply pw_below_drewN | apply below_drew1 | refine below_set ?_ GE101.out) | exact HB.out)⟩⟩
  case round =>
    clear H'
    try clear c1
    try clear p2
    obtain ⟨x3_1, rfl, HA, HK1, BK101, HB⟩ := hrel
    cases gk with
    | zero => exact absurd HA.out (by simp [hurdlelaw10_Great.l0])
    | succ k1 =>
      have H := HA.out
      clear HA
      simp only [hurdlelaw10_Great.l0] at H
      by_cases c3 : x3_1 < (l0_0.length : Int)
      · rw [if_pos c3] at H
        have c3b0 : decide (x3_1 < (l0_0.length : Int)) = true := decide_eq_true c3
        clear c3
        by_cases c4 : 0 ≤ x3_1
        · rw [if_pos c4] at H
          have c4b0 : decide (0 ≤ x3_1) = true := decide_eq_true c4
          clear c4
          by_cases c5 : (((rd_T40 l0_0 x3_1).f2).length : Int) > 20
          · rw [if_pos c5] at H
            have c5b0 : decide (20 < (((rd_T40 l0_0 x3_1).f2).length : Int)) = true := decide_eq_true c5
            have c5b1 : decide (20 < ((rd_T40 l0_0 x3_1).f2).length) = true := decide_eq_true (by omega)
            clear c5
            obtain rfl := Option.some.inj H
            have hcz6_0 : wr.cell? ⟨gb101, 0, none⟩ = some (.slice A0_0 l0_0.length c0_0) := (blk_cell BK101.out 0).trans rfl
            have hcz6_1 : wr.cell? ⟨gb101, 1, none⟩ = some (.int .u32 a0_1) := (blk_cell BK101.out 1).trans rfl
            have hfz6_0 := blk_frozen BK101.out 0
            have hfz6_1 := blk_frozen BK101.out 1
            have p102 : 0 ≤ (x3_1 : Int) := of_decide_eq_true (by first | (with_reducible assumption) | assumption)
            have q102 : x3_1 < (l0_0.length : Int) := of_decide_eq_true (by first | (with_reducible assumption) | assumption)
            obtain ⟨ad102, A102_2, c102_2, e102, hx102_0, hx102_1, hx102_2, hx102_3, hl102_2, hi102_2⟩ := at_T40 HR0_0.out x3_1 p102 q102
            cases e102
            replace hx102_0 := (HB.out.cell (World.block_lt_of_cell? w _ hx102_0)).trans hx102_0
            replace hx102_1 := (HB.out.cell (World.block_lt_of_cell? w _ hx102_1)).trans hx102_1
            replace hx102_2 := (HB.out.cell (World.block_lt_of_cell? w _ hx102_2)).trans hx102_2
            replace hx102_3 := (HB.out.cell (World.block_lt_of_cell? w _ hx102_3)).trans hx102_3
            have HR102_2 := Aside0.mk hi102_2
            have HC102_2 := Aside0.mk hl102_2
            clear hi102_2 hl102_2
            replace p102 := eq_true p102
            replace q102 := eq_true q102
            go_wp2
            go_ret
            exact ⟨by first | rfl | (simp [errW_none, errW_some] <;> rfl) | (simp [*, errW_none, errW_some] <;> rfl), by repeat (first | (with_reducible first | exact HB.out | apply below_alloc | apply pw_below_drewN | apply below_drew1 | refine below_set ?_ GE101.out) | exact HB.out)⟩
          · rw [if_neg c5] at H
            have c5b0 : decide (20 < (((rd_T40 l0_0 x3_1).f2).length : Int)) = false := decide_eq_false c5
            have c5b1 : decide (20 < ((rd_T40 l0_0 x3_1).f2).length) = false := decide_eq_false (by omega)
            clear c5
            have H' := Aside0.mk H
            clear H
            have hcz7_0 : wr.cell? ⟨gb101, 0, none⟩ = some (.slice A0_0 l0_0.length c0_0) := (blk_cell BK101.out 0).trans rfl
            have hcz7_1 : wr.cell? ⟨gb101, 1, none⟩ = some (.int .u32 a0_1) := (blk_cell BK101.out 1).trans rfl
            have hfz7_0 := blk_frozen BK101.out 0
            have hfz7_1 := blk_frozen BK101.out 1
            have p102 : 0 ≤ (x3_1 : Int) := of_decide_eq_true (by first | (with_reducible assumption) | assumption)
            have q102 : x3_1 < (l0_0.length : Int) := of_decide_eq_true (by first | (with_reducible assumption) | assumption)
            obtain ⟨ad102, A102_2, c102_2, e102, hx102_0, hx102_1, hx102_2, hx102_3, hl102_2, hi102_2⟩ := at_T40 HR0_0.out x3_1 p102 q102
            cases e102
            replace hx102_0 := (HB.out.cell (World.block_lt_of_cell? w _ hx102_0)).trans hx102_0
            replace hx102_1 := (HB.out.cell (World.block_lt_of_cell? w _ hx102_1)).trans hx102_1
            replace hx102_2 := (HB.out.cell (World.block_lt_of_cell? w _ hx102_2)).trans hx102_2
            replace hx102_3 := (HB.out.cell (World.block_lt_of_cell? w _ hx102_3)).trans hx102_3
            have HR102_2 := Aside0.mk hi102_2
            have HC102_2 := Aside0.mk hl102_2
            clear hi102_2 hl102_2
            replace p102 := eq_true p102
            replace q102 := eq_true q102
            go_wp2
            go_roundg k1
            case measure => have := HK1.out; omega
            case rel => exact ⟨(wrap64 (x3_1 + 1)), (by first | rfl | (simp; done) | (simp [*]; done)), H', ⟨by have := HK1.out; omega⟩, ⟨by (with_reducible repeat (first | refine blk_drewN ?_ _ | refine blk_drew ?_ | refine blk_alloc ?_ _)); exact BK101.out⟩, ⟨by repeat (first | (with_reducible first | exact HB.out | apply below_alloc | apply pw_below_drewN | apply below_drew1 | refine below_set ?_ GE101.out) | exact HB.out)⟩⟩
        · rw [if_neg c4] at H
          exact absurd H (by simp)
      · rw [if_neg c3] at H
        have c3b0 : decide (x3_1 < (l0_0.length : Int)) = false := decide_eq_false c3
        clear c3
        obtain rfl := Option.some.inj H
        have hcz8_0 : wr.cell? ⟨gb101, 0, none⟩ = some (.slice A0_0 l0_0.length c0_0) := (blk_cell BK101.out 0).trans rfl
        have hcz8_1 : wr.cell? ⟨gb101, 1, none⟩ = some (.int .u32 a0_1) := (blk_cell BK101.out 1).trans rfl
        have hfz8_0 := blk_frozen BK101.out 0
        have hfz8_1 := blk_frozen BK101.out 1
        go_wp2
        go_ret
        exact ⟨by first | rfl | (simp [errW_none, errW_some] <;> rfl) | (simp [*, errW_none, errW_some] <;> rfl), by repeat (first | (with_reducible first | exact HB.out | apply below_alloc | apply pw_below_drewN | apply below_drew1 | refine below_set ?_ GE101.out) | exact HB.out)⟩
end Go.Proofs.Ytekpbgmmogpbdaa.P
set_option linter.unusedVariables false
set_option linter.unusedSimpArgs false
set_option maxRecDepth 100000
namespace Go.Proofs.Ytekpbgmmogpbdaa.H
open Go.RowKit Go.Proofs.Ytekpbgmmogpbdaa.P Go.Proofs.YtekpbgmmogpbdaaW.PrintWords
theorem Ev_pos {α : Type} {c : Prop} [Decidable c] {g f : Nat → Option α} {r : α} (hc : c) (h : Ev g r) : Ev (fun n => if c then g n else f n) r := Ev.congr (fun _ => if_pos hc) h
theorem Ev_neg {α : Type} {c : Prop} [Decidable c] {g f : Nat → Option α} {r : α} (hc : ¬ c) (h : Ev f r) : Ev (fun n => if c then g n else f n) r := Ev.congr (fun _ => if_neg hc) h
end Go.Proofs.Ytekpbgmmogpbdaa.H
set_option linter.unusedVariables false
set_option linter.unusedSimpArgs false
set_option maxRecDepth 100000
namespace Go.Proofs.Ytekpbgmmogpbdaa.H
open Go.RowKit Go.Proofs.Ytekpbgmmogpbdaa.P Go.Proofs.YtekpbgmmogpbdaaW.PrintWords Go.Proofs.YtekpbgmmogpbdaaW.PrintLast Go.Proofs.YtekpbgmmogpbdaaW.PrintMore
attribute [local go_sem] max2_int min2_int max_two min_two max_three min_three max_four min_four
def condsH (cs : List S61) (ags : List Int) : Bool := cs.all fun x => holdsB x.f0 x.f1 x.f2 x.f3 ags
def fitsB (ar nr : Int) (cs : List S61) (dn da : Int) (ags : List Int) : Bool := decide (ar = da) && (decide (nr = dn) && condsH cs ags)
set_option maxHeartbeats 4000000 in
theorem Fits_lit (ar nr ac : Int) (A : Option Addr) (c : Nat) (cs : List S61) (dn da di y0 y1 y2 y3 y4 y5 : Int) (hd : IsDat dn da di [y0, y1, y2, y3, y4, y5]) (hk : ∀ x ∈ cs, u64P x.f2) (hc : cs.length ≤ c) (w : World) (hC : k61.C w A cs.length cs) :
    Calls Try.prog 26 #[.agg #[.int .u32 ar, .int .u32 nr, .slice A cs.length c, .int .u32 ac], .agg #[.int .u32 dn, .int .u32 da, .int .u64 di, .int .u64 y0, .int .u64 y1, .int .u64 y2, .int .u64 y3, .int .u64 y4, .int .u64 y5]] w fun e w' => e = .returned (.bool (fitsB ar nr cs dn da [y0, y1, y2, y3, y4, y5])) ∧ Below w.heap.size w w' := by
  have HB := Aside0.mk (Below.refl w.heap.size w)
  have HC := Aside0.mk hC
  have HN : Aside0 (cs.length ≤ 9223372036854775807) := ⟨hC.2.1⟩
  have HH : Aside0 (∀ x ∈ cs, ∀ W : World, Calls Try.prog 46 #[.agg #[.int .i64 x.f0, .int .i64 x.f1, .int .u64 x.f2, .int .u64 x.f3], .agg #[.int .u32 dn, .int .u32 da, .int .u64 di, .int .u64 y0, .int .u64 y1, .int .u64 y2, .int .u64 y3, .int .u64 y4, .int .u64 y5]] W fun e w' => e = .returned (.bool (holdsB x.f0 x.f1 x.f2 x.f3 [y0, y1, y2, y3, y4, y5])) ∧ Below W.heap.size W w') := ⟨fun x hx W => Holds_walk x.f0 x.f1 x.f2 x.f3 dn da di _ hd (hk x hx) W⟩
  clear hC hk hd
  by_cases h1 : ar = da ∧ nr = dn
  · obtain ⟨h1, h2⟩ := h1
    have e1 : (ar == da) = true := by simpa using h1
    have e2 : (nr == dn) = true := by simpa using h2
    have e1n : (ar != da) = false := by simpa using h1
    have e2n : (nr != dn) = false := by simpa using h2
    have HF := Aside0.mk (show fitsB ar nr cs dn da [y0, y1, y2, y3, y4, y5] = condsH cs [y0, y1, y2, y3, y4, y5] by simp [fitsB, h1, h2])
    clear h1 h2
    go_enter Try.func26, Try.ntmps26
    go_wp2_with (first | ((with_reducible refine gate_dst (N := 2) rfl ?_); (try (refine gate_guard (by rfl) ?_; dsimp only)); refine box_event ?hg (N := 2) ?hd (cs := #[.int .u32 ar, .int .u32 nr, .slice A cs.length c, .int .u32 ac]) (t := 40) ?hr ?_; (case hd => rfl); (case hg => rfl); (case hr => first | (go_simp; done) | (go_simp; rfl)); intro gx hgx w1 hbox hbx; have n0_ := Aside0.mk (below_step HB.out hbx); have n1_ := Aside0.mk hbox; clear HB hbx hbox hgx; have HB := n0_; have BKX := n1_; clear n0_ n1_) | ((with_reducible refine gate_dst (N := 3) rfl ?_); (try (refine gate_guard (by rfl) ?_; dsimp only)); refine box_event ?hg (N := 3) ?hd (cs := #[.int .u32 dn, .int .u32 da, .int .u64 di, .int .u64 y0, .int .u64 y1, .int .u64 y2, .int .u64 y3, .int .u64 y4, .int .u64 y5]) (t := 44) ?hr ?_; (case hd => rfl); (case hg => rfl); (case hr => first | (go_simp; done) | (go_simp; rfl)); intro gd hgx w2 hbox hbx; have n0_ := Aside0.mk (below_step HB.out hbx); have n1_ := Aside0.mk (blk_below BKX.out hbx); have n2_ := Aside0.mk hbox; have NXD := Aside0.mk (by rw [hgx]; exact Nat.ne_of_lt (blk_lt BKX.out) : gx ≠ gd); clear HB BKX hbx hbox hgx; have HB := n0_; have BKX := n1_; have BKD := n2_; clear n0_ n1_ n2_; have hx0 : w2.cell? ⟨gx, 0, none⟩ = some (.int .u32 ar) := (blk_cell BKX.out 0).trans rfl; have hx1 : w2.cell? ⟨gx, 1, none⟩ = some (.int .u32 nr) := (blk_cell BKX.out 1).trans rfl; have hx2 : w2.cell? ⟨gx, 2, none⟩ = some (.slice A cs.length c) := (blk_cell BKX.out 2).trans rfl; have hx3 : w2.cell? ⟨gx, 3, none⟩ = some (.int .u32 ac) := (blk_cell BKX.out 3).trans rfl; have hd0 : w2.cell? ⟨gd, 0, none⟩ = some (.int .u32 dn) := (blk_cell BKD.out 0).trans rfl; have hd1 : w2.cell? ⟨gd, 1, none⟩ = some (.int .u32 da) := (blk_cell BKD.out 1).trans rfl; have hd2 : w2.cell? ⟨gd, 2, none⟩ = some (.int .u64 di) := (blk_cell BKD.out 2).trans rfl; have hd3 : w2.cell? ⟨gd, 3, none⟩ = some (.int .u64 y0) := (blk_cell BKD.out 3).trans rfl; have hd4 : w2.cell? ⟨gd, 4, none⟩ = some (.int .u64 y1) := (blk_cell BKD.out 4).trans rfl; have hd5 : w2.cell? ⟨gd, 5, none⟩ = some (.int .u64 y2) := (blk_cell BKD.out 5).trans rfl; have hd6 : w2.cell? ⟨gd, 6, none⟩ = some (.int .u64 y3) := (blk_cell BKD.out 6).trans rfl; have hd7 : w2.cell? ⟨gd, 7, none⟩ = some (.int .u64 y4) := (blk_cell BKD.out 7).trans rfl; have hd8 : w2.cell? ⟨gd, 8, none⟩ = some (.int .u64 y5) := (blk_cell BKD.out 8).trans rfl))
    clear hx0 hx1 hx2 hx3 hd0 hd1 hd2 hd3 hd4 hd5 hd6 hd7 hd8 e1 e2 e1n e2n
    go_loopw [22] (fun v22 wr => ∃ i : Nat, v22 = .int .i64 i ∧ i ≤ cs.length ∧ Aside0 (condsH (cs.drop i) [y0, y1, y2, y3, y4, y5] = condsH cs [y0, y1, y2, y3, y4, y5]) ∧ Aside0 (wr.heap[gx]? = some (.cells #[.int .u32 ar, .int .u32 nr, .slice A cs.length c, .int .u32 ac] 40 (0, 0))) ∧ Aside0 (wr.heap[gd]? = some (.cells #[.int .u32 dn, .int .u32 da, .int .u64 di, .int .u64 y0, .int .u64 y1, .int .u64 y2, .int .u64 y3, .int .u64 y4, .int .u64 y5] 44 (0, 0))) ∧ Aside0 (k61.C wr A cs.length cs) ∧ Aside0 (Below w.heap.size w wr)) (fun v22 _ => cs.length - (intOf v22).toNat)
    case atStart => exact ⟨0, rfl, Nat.zero_le _, ⟨rfl⟩, BKX, BKD, ⟨Kd.C_below HC.out (HB.out)⟩, HB⟩
    case round =>
      clear BKX BKD HC HB
      obtain ⟨i, rfl, hi, HT, BKX, BKD, HC, HB⟩ := hrel
      by_cases hlt : i < cs.length
      · have hii : (0 : Int) ≤ (i : Int) := by omega
        obtain ⟨x, hx⟩ : ∃ x, rd_T61 cs (i : Int) = x := ⟨_, rfl⟩
        have hxe : x = cs[i] := by rw [← hx, rd61 cs i hlt]
        have hxm : x ∈ cs := by rw [hxe]; exact List.getElem_mem hlt
        obtain ⟨ad, e, g0, g1, g2, g3⟩ := at_T61 HC.out (i : Int) hii (by omega)
        subst e
        rw [hx] at g0 g1 g2 g3
        simp only [Int.toNat_natCast] at g0 g1 g2 g3
        have HX := Aside0.mk (HH.out x hxm)
        have hdr : condsH (cs.drop i) [y0, y1, y2, y3, y4, y5] = (holdsB x.f0 x.f1 x.f2 x.f3 [y0, y1, y2, y3, y4, y5] && condsH (cs.drop (i + 1)) [y0, y1, y2, y3, y4, y5]) := by
          rw [List.drop_eq_getElem_cons hlt, ← hxe]; rfl
        have HDRR := Aside0.mk hdr
        clear hdr hxe hxm hx
        have hN := HN.out
        have p := eq_true hii
        have q : ((i : Int) < (cs.length : Int)) = True := eq_true (by omega)
        have qb : decide ((i : Int) < (cs.length : Int)) = true := decide_eq_true (by omega)
        cases hb : holdsB x.f0 x.f1 x.f2 x.f3 [y0, y1, y2, y3, y4, y5] with
        | true =>
          rw [hb] at HX HDRR
          clear hb
          go_wp2_with (first | ((with_reducible refine gate_dst (N := 6) rfl ?_); (try (refine gate_guard (by rfl) ?_; dsimp only)); refine box_event ?hg (N := 6) ?hd (cs := #[.int .i64 0, .int .i64 0, .int .u64 0, .int .u64 0]) (t := 61) ?hr ?_; (case hd => rfl); (case hg => rfl); (case hr => first | (go_simp; done) | (go_simp; rfl)); intro gc hgx w3 hbox hbx; have HX9 : Aside0 (Below wr.heap.size wr w3) := ⟨hbx⟩; have HGX : Aside0 (wr.heap.size ≤ gc) := ⟨by rw [hgx]; exact Nat.le_refl _⟩; have BKC := Aside0.mk hbox; clear hbx hbox hgx; have hc0 : w3.cell? ⟨gc, 0, none⟩ = some (.int .i64 0) := (blk_cell BKC.out 0).trans rfl; have hc1 : w3.cell? ⟨gc, 1, none⟩ = some (.int .i64 0) := (blk_cell BKC.out 1).trans rfl; have hc2 : w3.cell? ⟨gc, 2, none⟩ = some (.int .u64 0) := (blk_cell BKC.out 2).trans rfl; have hc3 : w3.cell? ⟨gc, 3, none⟩ = some (.int .u64 0) := (blk_cell BKC.out 3).trans rfl; have hf0 : w3.frozen? ⟨gc, 0, none⟩ = false := blk_frozen BKC.out 0; have hf1 : w3.frozen? ⟨gc, 1, none⟩ = false := blk_frozen BKC.out 1; have hf2 : w3.frozen? ⟨gc, 2, none⟩ = false := blk_frozen BKC.out 2; have hf3 : w3.frozen? ⟨gc, 3, none⟩ = false := blk_frozen BKC.out 3; have g0 := (pw_cell_below HX9.out g0); have g1 := (pw_cell_below HX9.out g1); have g2 := (pw_cell_below HX9.out g2); have g3 := (pw_cell_below HX9.out g3)) | ((with_reducible refine gate_store (t := 61) (p := 6) rfl ?_); refine store_event (t := 61) (p := 6) (v := ?vo_) (w1 := ((((w3.setCell ⟨gc, 0, none⟩ (.int .i64 x.f0)).setCell ⟨gc, 1, none⟩ (.int .i64 x.f1)).setCell ⟨gc, 2, none⟩ (.int .u64 x.f2)).setCell ⟨gc, 3, none⟩ (.int .u64 x.f3))) ?hg ?ho ?hn ?hr ?_; (case ho => rfl); (case hg => rfl); (case hn => rfl); (case hr => first | (go_simp; done) | (go_simp; rfl)); intro w4 hw; have n0_ : Aside0 (Below wr.heap.size wr w4) := ⟨by rw [hw]; exact below_set (below_set (below_set (below_set HX9.out HGX.out) HGX.out) HGX.out) HGX.out⟩; have n1_ : Aside0 (w4.heap[gc]? = some (.cells #[.int .i64 x.f0, .int .i64 x.f1, .int .u64 x.f2, .int .u64 x.f3] 61 (0, 0))) := ⟨by rw [hw]; exact (blk_put (cs := #[.int .i64 x.f0, .int .i64 x.f1, .int .u64 x.f2, .int .u64 0]) (blk_put (cs := #[.int .i64 x.f0, .int .i64 x.f1, .int .u64 0, .int .u64 0]) (blk_put (cs := #[.int .i64 x.f0, .int .i64 0, .int .u64 0, .int .u64 0]) (blk_put (cs := #[.int .i64 0, .int .i64 0, .int .u64 0, .int .u64 0]) BKC.out 0 _ rfl) 1 _ rfl) 2 _ rfl) 3 _ rfl)⟩; have n2_ := Aside0.mk (blk_below BKX.out n0_.out); have n3_ := Aside0.mk (blk_below BKD.out n0_.out); have n4_ := Aside0.mk (Kd.C_below HC.out n0_.out); have n5_ := Aside0.mk (below_step HB.out n0_.out); clear hw HX9 HGX BKC BKX BKD HC HB n0_ hc0 hc1 hc2 hc3 hf0 hf1 hf2 hf3 g0 g1 g2 g3; have BKC := n1_; have BKX := n2_; have BKD := n3_; have HC := n4_; have HB := n5_; clear n1_ n2_ n3_ n4_ n5_; have hc0 : w4.cell? ⟨gc, 0, none⟩ = some (.int .i64 x.f0) := (blk_cell BKC.out 0).trans rfl; have hc1 : w4.cell? ⟨gc, 1, none⟩ = some (.int .i64 x.f1) := (blk_cell BKC.out 1).trans rfl; have hc2 : w4.cell? ⟨gc, 2, none⟩ = some (.int .u64 x.f2) := (blk_cell BKC.out 2).trans rfl; have hc3 : w4.cell? ⟨gc, 3, none⟩ = some (.int .u64 x.f3) := (blk_cell BKC.out 3).trans rfl; have hd0 : w4.cell? ⟨gd, 0, none⟩ = some (.int .u32 dn) := (blk_cell BKD.out 0).trans rfl; have hd1 : w4.cell? ⟨gd, 1, none⟩ = some (.int .u32 da) := (blk_cell BKD.out 1).trans rfl; have hd2 : w4.cell? ⟨gd, 2, none⟩ = some (.int .u64 di) := (blk_cell BKD.out 2).trans rfl; have hd3 : w4.cell? ⟨gd, 3, none⟩ = some (.int .u64 y0) := (blk_cell BKD.out 3).trans rfl; have hd4 : w4.cell? ⟨gd, 4, none⟩ = some (.int .u64 y1) := (blk_cell BKD.out 4).trans rfl; have hd5 : w4.cell? ⟨gd, 5, none⟩ = some (.int .u64 y2) := (blk_cell BKD.out 5).trans rfl; have hd6 : w4.cell? ⟨gd, 6, none⟩ = some (.int .u64 y3) := (blk_cell BKD.out 6).trans rfl; have hd7 : w4.cell? ⟨gd, 7, none⟩ = some (.int .u64 y4) := (blk_cell BKD.out 7).trans rfl; have hd8 : w4.cell? ⟨gd, 8, none⟩ = some (.int .u64 y5) := (blk_cell BKD.out 8).trans rfl) | ((with_reducible refine gate_callee (f := 46) rfl ?_); refine goesL_ (some 28) rfl rfl Try.func46 (by kernel_rfl) rfl #[.agg #[.int .i64 x.f0, .int .i64 x.f1, .int .u64 x.f2, .int .u64 x.f3], .agg #[.int .u32 dn, .int .u32 da, .int .u64 di, .int .u64 y0, .int .u64 y1, .int .u64 y2, .int .u64 y3, .int .u64 y4, .int .u64 y5]] rfl (by (try simp only [List.map_toArray, List.map_cons, List.map_nil]); first | done | rfl | (simp only [List.length_drop, List.length_take]; rfl)) ?_; (refine (HX.out _).mono ?_); rintro e w5 ⟨rfl, hb⟩; refine ⟨_, rfl, ?_⟩; have n2_ := Aside0.mk (blk_below BKX.out hb); have n3_ := Aside0.mk (blk_below BKD.out hb); have n4_ := Aside0.mk (Kd.C_below HC.out hb); have n5_ := Aside0.mk (below_step HB.out hb); clear BKX BKD HC HB BKC hb hc0 hc1 hc2 hc3 hd0 hd1 hd2 hd3 hd4 hd5 hd6 hd7 hd8; have BKX := n2_; have BKD := n3_; have HC := n4_; have HB := n5_; clear n2_ n3_ n4_ n5_))
          go_roundw
          case rel => exact ⟨i + 1, by go_num, by omega, ⟨by rw [← HT.out, HDRR.out, Bool.true_and]⟩, BKX, BKD, HC, HB⟩
          case measure => simp [intOf]; omega
        | false =>
          rw [hb] at HX HDRR
          clear hb
          go_wp2_with (first | ((with_reducible refine gate_dst (N := 6) rfl ?_); (try (refine gate_guard (by rfl) ?_; dsimp only)); refine box_event ?hg (N := 6) ?hd (cs := #[.int .i64 0, .int .i64 0, .int .u64 0, .int .u64 0]) (t := 61) ?hr ?_; (case hd => rfl); (case hg => rfl); (case hr => first | (go_simp; done) | (go_simp; rfl)); intro gc hgx w3 hbox hbx; have HX9 : Aside0 (Below wr.heap.size wr w3) := ⟨hbx⟩; have HGX : Aside0 (wr.heap.size ≤ gc) := ⟨by rw [hgx]; exact Nat.le_refl _⟩; have BKC := Aside0.mk hbox; clear hbx hbox hgx; have hc0 : w3.cell? ⟨gc, 0, none⟩ = some (.int .i64 0) := (blk_cell BKC.out 0).trans rfl; have hc1 : w3.cell? ⟨gc, 1, none⟩ = some (.int .i64 0) := (blk_cell BKC.out 1).trans rfl; have hc2 : w3.cell? ⟨gc, 2, none⟩ = some (.int .u64 0) := (blk_cell BKC.out 2).trans rfl; have hc3 : w3.cell? ⟨gc, 3, none⟩ = some (.int .u64 0) := (blk_cell BKC.out 3).trans rfl; have hf0 : w3.frozen? ⟨gc, 0, none⟩ = false := blk_frozen BKC.out 0; have hf1 : w3.frozen? ⟨gc, 1, none⟩ = false := blk_frozen BKC.out 1; have hf2 : w3.frozen? ⟨gc, 2, none⟩ = false := blk_frozen BKC.out 2; have hf3 : w3.frozen? ⟨gc, 3, none⟩ = false := blk_frozen BKC.out 3; have g0 := (pw_cell_below HX9.out g0); have g1 := (pw_cell_below HX9.out g1); have g2 := (pw_cell_below HX9.out g2); have g3 := (pw_cell_below HX9.out g3)) | ((with_reducible refine gate_store (t := 61) (p := 6) rfl ?_); refine store_event (t := 61) (p := 6) (v := ?vo_) (w1 := ((((w3.setCell ⟨gc, 0, none⟩ (.int .i64 x.f0)).setCell ⟨gc, 1, none⟩ (.int .i64 x.f1)).setCell ⟨gc, 2, none⟩ (.int .u64 x.f2)).setCell ⟨gc, 3, none⟩ (.int .u64 x.f3))) ?hg ?ho ?hn ?hr ?_; (case ho => rfl); (case hg => rfl); (case hn => rfl); (case hr => first | (go_simp; done) | (go_simp; rfl)); intro w4 hw; have n0_ : Aside0 (Below wr.heap.size wr w4) := ⟨by rw [hw]; exact below_set (below_set (below_set (below_set HX9.out HGX.out) HGX.out) HGX.out) HGX.out⟩; have n1_ : Aside0 (w4.heap[gc]? = some (.cells #[.int .i64 x.f0, .int .i64 x.f1, .int .u64 x.f2, .int .u64 x.f3] 61 (0, 0))) := ⟨by rw [hw]; exact (blk_put (cs := #[.int .i64 x.f0, .int .i64 x.f1, .int .u64 x.f2, .int .u64 0]) (blk_put (cs := #[.int .i64 x.f0, .int .i64 x.f1, .int .u64 0, .int .u64 0]) (blk_put (cs := #[.int .i64 x.f0, .int .i64 0, .int .u64 0, .int .u64 0]) (blk_put (cs := #[.int .i64 0, .int .i64 0, .int .u64 0, .int .u64 0]) BKC.out 0 _ rfl) 1 _ rfl) 2 _ rfl) 3 _ rfl)⟩; have n2_ := Aside0.mk (blk_below BKX.out n0_.out); have n3_ := Aside0.mk (blk_below BKD.out n0_.out); have n4_ := Aside0.mk (Kd.C_below HC.out n0_.out); have n5_ := Aside0.mk (below_step HB.out n0_.out); clear hw HX9 HGX BKC BKX BKD HC HB n0_ hc0 hc1 hc2 hc3 hf0 hf1 hf2 hf3 g0 g1 g2 g3; have BKC := n1_; have BKX := n2_; have BKD := n3_; have HC := n4_; have HB := n5_; clear n1_ n2_ n3_ n4_ n5_; have hc0 : w4.cell? ⟨gc, 0, none⟩ = some (.int .i64 x.f0) := (blk_cell BKC.out 0).trans rfl; have hc1 : w4.cell? ⟨gc, 1, none⟩ = some (.int .i64 x.f1) := (blk_cell BKC.out 1).trans rfl; have hc2 : w4.cell? ⟨gc, 2, none⟩ = some (.int .u64 x.f2) := (blk_cell BKC.out 2).trans rfl; have hc3 : w4.cell? ⟨gc, 3, none⟩ = some (.int .u64 x.f3) := (blk_cell BKC.out 3).trans rfl; have hd0 : w4.cell? ⟨gd, 0, none⟩ = some (.int .u32 dn) := (blk_cell BKD.out 0).trans rfl; have hd1 : w4.cell? ⟨gd, 1, none⟩ = some (.int .u32 da) := (blk_cell BKD.out 1).trans rfl; have hd2 : w4.cell? ⟨gd, 2, none⟩ = some (.int .u64 di) := (blk_cell BKD.out 2).trans rfl; have hd3 : w4.cell? ⟨gd, 3, none⟩ = some (.int .u64 y0) := (blk_cell BKD.out 3).trans rfl; have hd4 : w4.cell? ⟨gd, 4, none⟩ = some (.int .u64 y1) := (blk_cell BKD.out 4).trans rfl; have hd5 : w4.cell? ⟨gd, 5, none⟩ = some (.int .u64 y2) := (blk_cell BKD.out 5).trans rfl; have hd6 : w4.cell? ⟨gd, 6, none⟩ = some (.int .u64 y3) := (blk_cell BKD.out 6).trans rfl; have hd7 : w4.cell? ⟨gd, 7, none⟩ = some (.int .u64 y4) := (blk_cell BKD.out 7).trans rfl; have hd8 : w4.cell? ⟨gd, 8, none⟩ = some (.int .u64 y5) := (blk_cell BKD.out 8).trans rfl) | ((with_reducible refine gate_callee (f := 46) rfl ?_); refine goesL_ (some 28) rfl rfl Try.func46 (by kernel_rfl) rfl #[.agg #[.int .i64 x.f0, .int .i64 x.f1, .int .u64 x.f2, .int .u64 x.f3], .agg #[.int .u32 dn, .int .u32 da, .int .u64 di, .int .u64 y0, .int .u64 y1, .int .u64 y2, .int .u64 y3, .int .u64 y4, .int .u64 y5]] rfl (by (try simp only [List.map_toArray, List.map_cons, List.map_nil]); first | done | rfl | (simp only [List.length_drop, List.length_take]; rfl)) ?_; (refine (HX.out _).mono ?_); rintro e w5 ⟨rfl, hb⟩; refine ⟨_, rfl, ?_⟩; have n2_ := Aside0.mk (blk_below BKX.out hb); have n3_ := Aside0.mk (blk_below BKD.out hb); have n4_ := Aside0.mk (Kd.C_below HC.out hb); have n5_ := Aside0.mk (below_step HB.out hb); clear BKX BKD HC HB BKC hb hc0 hc1 hc2 hc3 hd0 hd1 hd2 hd3 hd4 hd5 hd6 hd7 hd8; have BKX := n2_; have BKD := n3_; have HC := n4_; have HB := n5_; clear n2_ n3_ n4_ n5_))
          go_ret
          exact ⟨by rw [HF.out, ← HT.out, HDRR.out, Bool.false_and]; rfl, HB.out⟩
      · have qb : decide ((i : Int) < (cs.length : Int)) = false := decide_eq_false (by omega)
        have q : ((i : Int) < (cs.length : Int)) = False := eq_false (by omega)
        go_wp2
        go_ret
        exact ⟨by rw [HF.out, ← HT.out, List.drop_eq_nil_of_le (by omega)]; rfl, HB.out⟩
  · have HF := Aside0.mk (show fitsB ar nr cs dn da [y0, y1, y2, y3, y4, y5] = false by
      simp only [fitsB]
      by_cases h2 : ar = da
      · have h3 : ¬ nr = dn := fun h => h1 ⟨h2, h⟩
        simp [h3]
      · simp [h2])
    by_cases h2 : ar = da
    · have h3 : ¬ nr = dn := fun h => h1 ⟨h2, h⟩
      have e1 : (ar == da) = true := by simpa using h2
      have e2 : (nr == dn) = false := by simpa using h3
      have e1n : (ar != da) = false := by simpa using h2
      have e2n : (nr != dn) = true := by simpa using h3
      clear h1 h2 h3
      go_enter Try.func26, Try.ntmps26
      go_wp2_with (first | ((with_reducible refine gate_dst (N := 2) rfl ?_); (try (refine gate_guard (by rfl) ?_; dsimp only)); refine box_event ?hg (N := 2) ?hd (cs := #[.int .u32 ar, .int .u32 nr, .slice A cs.length c, .int .u32 ac]) (t := 40) ?hr ?_; (case hd => rfl); (case hg => rfl); (case hr => first | (go_simp; done) | (go_simp; rfl)); intro gx hgx w1 hbox hbx; have n0_ := Aside0.mk (below_step HB.out hbx); have n1_ := Aside0.mk hbox; clear HB hbx hbox hgx; have HB := n0_; have BKX := n1_; clear n0_ n1_) | ((with_reducible refine gate_dst (N := 3) rfl ?_); (try (refine gate_guard (by rfl) ?_; dsimp only)); refine box_event ?hg (N := 3) ?hd (cs := #[.int .u32 dn, .int .u32 da, .int .u64 di, .int .u64 y0, .int .u64 y1, .int .u64 y2, .int .u64 y3, .int .u64 y4, .int .u64 y5]) (t := 44) ?hr ?_; (case hd => rfl); (case hg => rfl); (case hr => first | (go_simp; done) | (go_simp; rfl)); intro gd hgx w2 hbox hbx; have n0_ := Aside0.mk (below_step HB.out hbx); have n1_ := Aside0.mk (blk_below BKX.out hbx); have n2_ := Aside0.mk hbox; have NXD := Aside0.mk (by rw [hgx]; exact Nat.ne_of_lt (blk_lt BKX.out) : gx ≠ gd); clear HB BKX hbx hbox hgx; have HB := n0_; have BKX := n1_; have BKD := n2_; clear n0_ n1_ n2_; have hx0 : w2.cell? ⟨gx, 0, none⟩ = some (.int .u32 ar) := (blk_cell BKX.out 0).trans rfl; have hx1 : w2.cell? ⟨gx, 1, none⟩ = some (.int .u32 nr) := (blk_cell BKX.out 1).trans rfl; have hx2 : w2.cell? ⟨gx, 2, none⟩ = some (.slice A cs.length c) := (blk_cell BKX.out 2).trans rfl; have hx3 : w2.cell? ⟨gx, 3, none⟩ = some (.int .u32 ac) := (blk_cell BKX.out 3).trans rfl; have hd0 : w2.cell? ⟨gd, 0, none⟩ = some (.int .u32 dn) := (blk_cell BKD.out 0).trans rfl; have hd1 : w2.cell? ⟨gd, 1, none⟩ = some (.int .u32 da) := (blk_cell BKD.out 1).trans rfl; have hd2 : w2.cell? ⟨gd, 2, none⟩ = some (.int .u64 di) := (blk_cell BKD.out 2).trans rfl; have hd3 : w2.cell? ⟨gd, 3, none⟩ = some (.int .u64 y0) := (blk_cell BKD.out 3).trans rfl; have hd4 : w2.cell? ⟨gd, 4, none⟩ = some (.int .u64 y1) := (blk_cell BKD.out 4).trans rfl; have hd5 : w2.cell? ⟨gd, 5, none⟩ = some (.int .u64 y2) := (blk_cell BKD.out 5).trans rfl; have hd6 : w2.cell? ⟨gd, 6, none⟩ = some (.int .u64 y3) := (blk_cell BKD.out 6).trans rfl; have hd7 : w2.cell? ⟨gd, 7, none⟩ = some (.int .u64 y4) := (blk_cell BKD.out 7).trans rfl; have hd8 : w2.cell? ⟨gd, 8, none⟩ = some (.int .u64 y5) := (blk_cell BKD.out 8).trans rfl))
      go_ret
      exact ⟨by rw [HF.out]; rfl, HB.out⟩
    · have e1 : (ar == da) = false := by simpa using h2
      have e1n : (ar != da) = true := by simpa using h2
      clear h1 h2
      go_enter Try.func26, Try.ntmps26
      go_wp2_with (first | ((with_reducible refine gate_dst (N := 2) rfl ?_); (try (refine gate_guard (by rfl) ?_; dsimp only)); refine box_event ?hg (N := 2) ?hd (cs := #[.int .u32 ar, .int .u32 nr, .slice A cs.length c, .int .u32 ac]) (t := 40) ?hr ?_; (case hd => rfl); (case hg => rfl); (case hr => first | (go_simp; done) | (go_simp; rfl)); intro gx hgx w1 hbox hbx; have n0_ := Aside0.mk (below_step HB.out hbx); have n1_ := Aside0.mk hbox; clear HB hbx hbox hgx; have HB := n0_; have BKX := n1_; clear n0_ n1_) | ((with_reducible refine gate_dst (N := 3) rfl ?_); (try (refine gate_guard (by rfl) ?_; dsimp only)); refine box_event ?hg (N := 3) ?hd (cs := #[.int .u32 dn, .int .u32 da, .int .u64 di, .int .u64 y0, .int .u64 y1, .int .u64 y2, .int .u64 y3, .int .u64 y4, .int .u64 y5]) (t := 44) ?hr ?_; (case hd => rfl); (case hg => rfl); (case hr => first | (go_simp; done) | (go_simp; rfl)); intro gd hgx w2 hbox hbx; have n0_ := Aside0.mk (below_step HB.out hbx); have n1_ := Aside0.mk (blk_below BKX.out hbx); have n2_ := Aside0.mk hbox; have NXD := Aside0.mk (by rw [hgx]; exact Nat.ne_of_lt (blk_lt BKX.out) : gx ≠ gd); clear HB BKX hbx hbox hgx; have HB := n0_; have BKX := n1_; have BKD := n2_; clear n0_ n1_ n2_; have hx0 : w2.cell? ⟨gx, 0, none⟩ = some (.int .u32 ar) := (blk_cell BKX.out 0).trans rfl; have hx1 : w2.cell? ⟨gx, 1, none⟩ = some (.int .u32 nr) := (blk_cell BKX.out 1).trans rfl; have hx2 : w2.cell? ⟨gx, 2, none⟩ = some (.slice A cs.length c) := (blk_cell BKX.out 2).trans rfl; have hx3 : w2.cell? ⟨gx, 3, none⟩ = some (.int .u32 ac) := (blk_cell BKX.out 3).trans rfl; have hd0 : w2.cell? ⟨gd, 0, none⟩ = some (.int .u32 dn) := (blk_cell BKD.out 0).trans rfl; have hd1 : w2.cell? ⟨gd, 1, none⟩ = some (.int .u32 da) := (blk_cell BKD.out 1).trans rfl; have hd2 : w2.cell? ⟨gd, 2, none⟩ = some (.int .u64 di) := (blk_cell BKD.out 2).trans rfl; have hd3 : w2.cell? ⟨gd, 3, none⟩ = some (.int .u64 y0) := (blk_cell BKD.out 3).trans rfl; have hd4 : w2.cell? ⟨gd, 4, none⟩ = some (.int .u64 y1) := (blk_cell BKD.out 4).trans rfl; have hd5 : w2.cell? ⟨gd, 5, none⟩ = some (.int .u64 y2) := (blk_cell BKD.out 5).trans rfl; have hd6 : w2.cell? ⟨gd, 6, none⟩ = some (.int .u64 y3) := (blk_cell BKD.out 6).trans rfl; have hd7 : w2.cell? ⟨gd, 7, none⟩ = some (.int .u64 y4) := (blk_cell BKD.out 7).trans rfl; have hd8 : w2.cell? ⟨gd, 8, none⟩ = some (.int .u64 y5) := (blk_cell BKD.out 8).trans rfl))
      go_ret
      exact ⟨by rw [HF.out]; rfl, HB.out⟩
def firstI (L : List S40) (p : S40 → Bool) : Int := match L.findIdx? p with | some i => (i : Int) | none => -1
theorem firstI_at (L : List S40) (p : S40 → Bool) (i : Nat) (hi : i < L.length) (h : p L[i] = true) (hb : ∀ j (hj : j < L.length), j < i → p L[j] = false) : firstI L p = (i : Int) := by
  unfold firstI
  rw [(List.findIdx?_eq_some_iff_getElem).2 ⟨hi, h, fun j hj => by rw [hb j (by omega) hj]; decide⟩]
theorem firstI_none (L : List S40) (p : S40 → Bool) (h : ∀ j (hj : j < L.length), p L[j] = false) : firstI L p = -1 := by
  unfold firstI
  rw [List.findIdx?_eq_none_iff.2 (fun x hx => by obtain ⟨j, hj, rfl⟩ := List.mem_iff_getElem.1 hx; exact h j hj)]
def fitX (dn da : Int) (ags : List Int) (x : S40) : Bool := fitsB x.f0 x.f1 x.f2 dn da ags
def firstR (L : List S40) (df dn da : Int) (ags : List Int) : Int × Int := if polB L df = true then (firstI L (fitX dn da ags), 0) else (0, 1)
set_option maxHeartbeats 4000000 in
theorem Fits_closure (A : Option Addr) (c : Nat) (L : List S40) (df : Int) (dn da di y0 y1 y2 y3 y4 y5 : Int) (hd : IsDat dn da di [y0, y1, y2, y3, y4, y5]) (hk : polK L df) (gp gd : Nat) (i : Nat) (hi : i < L.length) (w : World) (hC : k40.C w A L.length L)
    (hp : w.heap[gp]? = some (.cells #[.slice A L.length c, .int .u32 df] 25 (0, 0))) (hg : w.heap[gd]? = some (.cells #[.int .u32 dn, .int .u32 da, .int .u64 di, .int .u64 y0, .int .u64 y1, .int .u64 y2, .int .u64 y3, .int .u64 y4, .int .u64 y5] 44 (0, 0))) :
    Calls Try.prog 45 #[.int .i64 (i : Int), .pointer (some ⟨gp, 0, none⟩), .pointer (some ⟨gd, 0, none⟩)] w fun e w' => e = .returned (.bool (fitsB L[i].f0 L[i].f1 L[i].f2 dn da [y0, y1, y2, y3, y4, y5])) ∧ Below w.heap.size w w' := by
  obtain ⟨x, hx⟩ : ∃ x, rd_T40 L (i : Int) = x := ⟨_, rfl⟩
  have hxe : x = L[i] := by rw [← hx, rd40 L i hi]
  have hK := hk.1 x (by rw [hxe]; exact List.getElem_mem hi)
  have hii : (0 : Int) ≤ (i : Int) := by omega
  have hx0 : w.cell? ⟨gp, 0, none⟩ = some (.slice A L.length c) := (blk_cell hp 0).trans rfl; have hx1 : w.cell? ⟨gp, 1, none⟩ = some (.int .u32 df) := (blk_cell hp 1).trans rfl; have hd0 : w.cell? ⟨gd, 0, none⟩ = some (.int .u32 dn) := (blk_cell hg 0).trans rfl; have hd1 : w.cell? ⟨gd, 1, none⟩ = some (.int .u32 da) := (blk_cell hg 1).trans rfl; have hd2 : w.cell? ⟨gd, 2, none⟩ = some (.int .u64 di) := (blk_cell hg 2).trans rfl; have hd3 : w.cell? ⟨gd, 3, none⟩ = some (.int .u64 y0) := (blk_cell hg 3).trans rfl; have hd4 : w.cell? ⟨gd, 4, none⟩ = some (.int .u64 y1) := (blk_cell hg 4).trans rfl; have hd5 : w.cell? ⟨gd, 5, none⟩ = some (.int .u64 y2) := (blk_cell hg 5).trans rfl; have hd6 : w.cell? ⟨gd, 6, none⟩ = some (.int .u64 y3) := (blk_cell hg 6).trans rfl; have hd7 : w.cell? ⟨gd, 7, none⟩ = some (.int .u64 y4) := (blk_cell hg 7).trans rfl; have hd8 : w.cell? ⟨gd, 8, none⟩ = some (.int .u64 y5) := (blk_cell hg 8).trans rfl
  obtain ⟨ad, A2, c2, e, g0, g1, g2, g3, hc2, hC2⟩ := at_T40 hC (i : Int) hii (by omega)
  subst e
  rw [hx] at g0 g1 g2 g3 hc2 hC2
  simp only [Int.toNat_natCast] at g0 g1 g2 g3
  rw [← hxe]
  have HFT : Aside0 (∀ W : World, k61.C W A2 x.f2.length x.f2 → Calls Try.prog 26 #[.agg #[.int .u32 x.f0, .int .u32 x.f1, .slice A2 x.f2.length c2, .int .u32 x.f3], .agg #[.int .u32 dn, .int .u32 da, .int .u64 di, .int .u64 y0, .int .u64 y1, .int .u64 y2, .int .u64 y3, .int .u64 y4, .int .u64 y5]] W fun e w' => e = .returned (.bool (fitsB x.f0 x.f1 x.f2 dn da [y0, y1, y2, y3, y4, y5])) ∧ Below W.heap.size W w') :=
    ⟨fun W hW => Fits_lit x.f0 x.f1 x.f3 A2 c2 x.f2 dn da di y0 y1 y2 y3 y4 y5 hd (fun y hy => (hK.2.2.2 y hy).1) hc2 W hW⟩
  have HC2 := Aside0.mk hC2
  have HN := hC.2.1
  clear hC2 hxe hx hK hd hk hC
  have p := eq_true hii
  have q : ((i : Int) < (L.length : Int)) = True := eq_true (by omega)
  have q2 : (i < L.length) = True := eq_true (by omega)
  clear hp hg
  go_enter Try.func45, Try.ntmps45
  go_wp2_with fail
  go_still_tail 6, (by kernel_rfl)
  change wpList _ _ _ _ _ w.drew
  go_wp2_with (first | ((with_reducible refine gate_callee (f := 26) rfl ?_); refine goesL_ (some 11) rfl rfl Try.func26 (by kernel_rfl) rfl #[.agg #[.int .u32 x.f0, .int .u32 x.f1, .slice A2 x.f2.length c2, .int .u32 x.f3], .agg #[.int .u32 dn, .int .u32 da, .int .u64 di, .int .u64 y0, .int .u64 y1, .int .u64 y2, .int .u64 y3, .int .u64 y4, .int .u64 y5]] rfl (by (try simp only [List.map_toArray, List.map_cons, List.map_nil]); first | done | rfl | (simp only [List.length_drop, List.length_take]; rfl)) ?_; (refine (HFT.out _ (Kd.C_below HC2.out (below_drew (Below.refl _ _)))).mono ?_); rintro e w5 ⟨rfl, hb⟩; refine ⟨_, rfl, ?_⟩; have n5_ := Aside0.mk (below_step (below_drew (Below.refl w.heap.size w)) hb); clear hb; have HB := n5_; clear n5_))
  go_ret
  exact ⟨rfl, HB.out⟩
set_option maxHeartbeats 4000000 in
theorem First_lit (A : Option Addr) (c : Nat) (L : List S40) (df : Int) (dn da di y0 y1 y2 y3 y4 y5 : Int) (hd : IsDat dn da di [y0, y1, y2, y3, y4, y5]) (hk : polK L df) (hl : L.length ≤ 1000) (hcl : ∀ x ∈ L, x.f2.length ≤ 1000) (hc : L.length ≤ c) (w : World) (hC : k40.C w A L.length L) :
    Calls Try.prog 24 #[.agg #[.slice A L.length c, .int .u32 df], .agg #[.int .u32 dn, .int .u32 da, .int .u64 di, .int .u64 y0, .int .u64 y1, .int .u64 y2, .int .u64 y3, .int .u64 y4, .int .u64 y5]] w fun e w' => e = .returned (.tuple #[.int .i64 (firstR L df dn da [y0, y1, y2, y3, y4, y5]).1, .int .i64 (firstR L df dn da [y0, y1, y2, y3, y4, y5]).2]) ∧ Below w.heap.size w w' := by
  have HB := Aside0.mk (Below.refl w.heap.size w)
  have HC := Aside0.mk hC
  have HR : Aside0 (∀ W : World, k40.C W A L.length L → Calls Try.prog 18 #[.agg #[.slice A L.length c, .int .u32 df]] W fun e w' => e = .returned (.bool (polB L df)) ∧ Below W.heap.size W w') := ⟨fun W hW => by
    obtain ⟨k, hk⟩ := Ev.rounds (right_ev L df hk hl hcl)
    exact policy_Right.calls k A c L df _ W hW hc hk⟩
  clear hC
  unfold firstR
  cases hb : polB L df with
  | false =>
    rw [hb] at HR
    rw [if_neg (by decide)]
    go_enter Try.func24, Try.ntmps24
    go_wp2_with (first | ((with_reducible refine gate_dst (N := 2) rfl ?_); (try (refine gate_guard (by rfl) ?_; dsimp only)); refine box_event ?hg (N := 2) ?hd (cs := #[.slice A L.length c, .int .u32 df]) (t := 25) ?hr ?_; (case hd => rfl); (case hg => rfl); (case hr => first | (go_simp; done) | (go_simp; rfl)); intro gp hgx w1 hbox hbx; have n0_ := Aside0.mk (below_step HB.out hbx); have n1_ := Aside0.mk hbox; clear HB hbx hbox hgx; have HB := n0_; have BKP := n1_; clear n0_ n1_) | ((with_reducible refine gate_dst (N := 3) rfl ?_); (try (refine gate_guard (by rfl) ?_; dsimp only)); refine box_event ?hg (N := 3) ?hd (cs := #[.int .u32 dn, .int .u32 da, .int .u64 di, .int .u64 y0, .int .u64 y1, .int .u64 y2, .int .u64 y3, .int .u64 y4, .int .u64 y5]) (t := 44) ?hr ?_; (case hd => rfl); (case hg => rfl); (case hr => first | (go_simp; done) | (go_simp; rfl)); intro gd hgx w2 hbox hbx; have n0_ := Aside0.mk (below_step HB.out hbx); have n1_ := Aside0.mk (blk_below BKP.out hbx); have n2_ := Aside0.mk hbox; clear HB BKP hbx hbox hgx; have HB := n0_; have BKP := n1_; have BKD := n2_; clear n0_ n1_ n2_; have hx0 : w2.cell? ⟨gp, 0, none⟩ = some (.slice A L.length c) := (blk_cell BKP.out 0).trans rfl; have hx1 : w2.cell? ⟨gp, 1, none⟩ = some (.int .u32 df) := (blk_cell BKP.out 1).trans rfl) | ((with_reducible refine gate_callee (f := 18) rfl ?_); refine goesL_ (some 9) rfl rfl Try.func18 (by kernel_rfl) rfl #[.agg #[.slice A L.length c, .int .u32 df]] rfl (by (try simp only [List.map_toArray, List.map_cons, List.map_nil]); first | done | rfl | (simp only [List.length_drop, List.length_take]; rfl)) ?_; (refine (HR.out _ (by have := HC.out; exact Kd.C_below this (by repeat (first | exact HB.out)))).mono ?_); rintro e w3 ⟨rfl, hb⟩; refine ⟨_, rfl, ?_⟩; have n2_ := Aside0.mk (blk_below BKP.out hb); have n3_ := Aside0.mk (blk_below BKD.out hb); have n5_ := Aside0.mk (below_step HB.out hb); clear BKP BKD HB hb hx0 hx1; have BKP := n2_; have BKD := n3_; have HB := n5_; clear n2_ n3_ n5_; have hx0 : w3.cell? ⟨gp, 0, none⟩ = some (.slice A L.length c) := (blk_cell BKP.out 0).trans rfl; have hx1 : w3.cell? ⟨gp, 1, none⟩ = some (.int .u32 df) := (blk_cell BKP.out 1).trans rfl))
    go_ret2
    exact ⟨rfl, HB.out⟩
  | true =>
    rw [hb] at HR
    rw [if_pos rfl]
    go_enter Try.func24, Try.ntmps24
    go_wp2_with (first | ((with_reducible refine gate_dst (N := 2) rfl ?_); (try (refine gate_guard (by rfl) ?_; dsimp only)); refine box_event ?hg (N := 2) ?hd (cs := #[.slice A L.length c, .int .u32 df]) (t := 25) ?hr ?_; (case hd => rfl); (case hg => rfl); (case hr => first | (go_simp; done) | (go_simp; rfl)); intro gp hgx w1 hbox hbx; have n0_ := Aside0.mk (below_step HB.out hbx); have n1_ := Aside0.mk hbox; clear HB hbx hbox hgx; have HB := n0_; have BKP := n1_; clear n0_ n1_) | ((with_reducible refine gate_dst (N := 3) rfl ?_); (try (refine gate_guard (by rfl) ?_; dsimp only)); refine box_event ?hg (N := 3) ?hd (cs := #[.int .u32 dn, .int .u32 da, .int .u64 di, .int .u64 y0, .int .u64 y1, .int .u64 y2, .int .u64 y3, .int .u64 y4, .int .u64 y5]) (t := 44) ?hr ?_; (case hd => rfl); (case hg => rfl); (case hr => first | (go_simp; done) | (go_simp; rfl)); intro gd hgx w2 hbox hbx; have n0_ := Aside0.mk (below_step HB.out hbx); have n1_ := Aside0.mk (blk_below BKP.out hbx); have n2_ := Aside0.mk hbox; clear HB BKP hbx hbox hgx; have HB := n0_; have BKP := n1_; have BKD := n2_; clear n0_ n1_ n2_; have hx0 : w2.cell? ⟨gp, 0, none⟩ = some (.slice A L.length c) := (blk_cell BKP.out 0).trans rfl; have hx1 : w2.cell? ⟨gp, 1, none⟩ = some (.int .u32 df) := (blk_cell BKP.out 1).trans rfl) | ((with_reducible refine gate_callee (f := 18) rfl ?_); refine goesL_ (some 9) rfl rfl Try.func18 (by kernel_rfl) rfl #[.agg #[.slice A L.length c, .int .u32 df]] rfl (by (try simp only [List.map_toArray, List.map_cons, List.map_nil]); first | done | rfl | (simp only [List.length_drop, List.length_take]; rfl)) ?_; (refine (HR.out _ (by have := HC.out; exact Kd.C_below this (by repeat (first | exact HB.out)))).mono ?_); rintro e w3 ⟨rfl, hb⟩; refine ⟨_, rfl, ?_⟩; have n2_ := Aside0.mk (blk_below BKP.out hb); have n3_ := Aside0.mk (blk_below BKD.out hb); have n5_ := Aside0.mk (below_step HB.out hb); clear BKP BKD HB hb hx0 hx1; have BKP := n2_; have BKD := n3_; have HB := n5_; clear n2_ n3_ n5_; have hx0 : w3.cell? ⟨gp, 0, none⟩ = some (.slice A L.length c) := (blk_cell BKP.out 0).trans rfl; have hx1 : w3.cell? ⟨gp, 1, none⟩ = some (.int .u32 df) := (blk_cell BKP.out 1).trans rfl))
    have HC3 := Aside0.mk (Kd.C_below HC.out HB.out)
    clear HC hx0 hx1
    go_loopw [15] (fun v15 wr => ∃ i : Nat, v15 = .int .i64 i ∧ i ≤ L.length ∧ Aside0 (∀ j (h : j < L.length), j < i → fitsB L[j].f0 L[j].f1 L[j].f2 dn da [y0, y1, y2, y3, y4, y5] = false) ∧ Aside0 (wr.heap[gp]? = some (.cells #[.slice A L.length c, .int .u32 df] 25 (0, 0))) ∧ Aside0 (wr.heap[gd]? = some (.cells #[.int .u32 dn, .int .u32 da, .int .u64 di, .int .u64 y0, .int .u64 y1, .int .u64 y2, .int .u64 y3, .int .u64 y4, .int .u64 y5] 44 (0, 0))) ∧ Aside0 (k40.C wr A L.length L) ∧ Aside0 (Below w.heap.size w wr)) (fun v15 _ => L.length - (intOf v15).toNat)
    case atStart => exact ⟨0, rfl, Nat.zero_le _, ⟨fun j _ h => by omega⟩, BKP, BKD, HC3, HB⟩
    case round =>
      clear BKP BKD HC3 HB
      obtain ⟨i, rfl, hi, HT, BKP, BKD, HC, HB⟩ := hrel
      by_cases hlt : i < L.length
      · have q : ((i : Int) < (L.length : Int)) = True := eq_true (by omega)
        have qb : decide ((i : Int) < (L.length : Int)) = true := decide_eq_true (by omega)
        have HX := Aside0.mk (Fits_closure A c L df dn da di y0 y1 y2 y3 y4 y5 hd hk gp gd i hlt wr HC.out BKP.out BKD.out)
        cases hf : fitsB L[i].f0 L[i].f1 L[i].f2 dn da [y0, y1, y2, y3, y4, y5] with
        | true =>
          rw [hf] at HX
          go_wp2_with fail
          refine (HX.out).mono ?_
          rintro e w5 ⟨rfl, hb5⟩
          have HB5 := Aside0.mk (below_step HB.out hb5)
          clear hb5
          go_wp2_with fail
          go_ret2
          exact ⟨by rw [firstI_at L (fitX dn da [y0, y1, y2, y3, y4, y5]) i hlt hf (fun j hj h => HT.out j hj h)]; rfl, HB5.out⟩
        | false =>
          rw [hf] at HX
          have hf := Aside0.mk hf
          have hN : L.length ≤ 9223372036854775807 := HC.out.2.1
          go_wp2_with fail
          refine (HX.out).mono ?_
          rintro e w5 ⟨rfl, hb5⟩
          have n2_ := Aside0.mk (blk_below BKP.out hb5)
          have n3_ := Aside0.mk (blk_below BKD.out hb5)
          have n4_ := Aside0.mk (Kd.C_below HC.out hb5)
          have n5_ := Aside0.mk (below_step HB.out hb5)
          clear hb5
          go_wp2_with fail
          go_roundw
          case rel => exact ⟨i + 1, by go_num, by omega, ⟨fun j hj h => by
            by_cases e : j = i
            · subst e; exact hf.out
            · exact HT.out j hj (by omega)⟩, n2_, n3_, n4_, n5_⟩
          case measure => simp [intOf]; omega
      · have qb : decide ((i : Int) < (L.length : Int)) = false := decide_eq_false (by omega)
        have q : ((i : Int) < (L.length : Int)) = False := eq_false (by omega)
        go_wp2
        go_ret2
        exact ⟨by rw [firstI_none L (fitX dn da [y0, y1, y2, y3, y4, y5]) (fun j hj => HT.out j hj (by omega))]; rfl, HB.out⟩
def judgeR (L : List S40) (df dn da : Int) (ags : List Int) : Int × Int := if polB L df = true then ((match L.find? (fitX dn da ags) with | some x => x.f3 | none => df), 0) else (0, 1)
theorem find_at (L : List S40) (p : S40 → Bool) (i : Nat) (hi : i < L.length) (h : firstI L p = (i : Int)) : L.find? p = some L[i] := by
  unfold firstI at h
  cases hf : L.findIdx? p with
  | none => rw [hf] at h; simp only [] at h; omega
  | some k =>
    rw [hf] at h
    simp only [] at h
    obtain rfl : k = i := by omega
    obtain ⟨h1, h2, h3⟩ := (List.findIdx?_eq_some_iff_getElem).1 hf
    rw [List.find?_eq_some_iff_getElem]
    exact ⟨h2, k, h1, rfl, fun j hj => by have := h3 j hj; simpa using this⟩
theorem find_none (L : List S40) (p : S40 → Bool) (h : firstI L p = -1) : L.find? p = none := by
  unfold firstI at h
  cases hf : L.findIdx? p with
  | none => rw [List.findIdx?_eq_none_iff] at hf; rw [List.find?_eq_none]; intro x hx; simp [hf x hx]
  | some k => rw [hf] at h; simp only [] at h; omega
theorem firstI_cases (L : List S40) (p : S40 → Bool) : firstI L p = -1 ∨ ∃ i : Nat, i < L.length ∧ firstI L p = (i : Int) := by
  unfold firstI
  cases hf : L.findIdx? p with
  | none => exact .inl rfl
  | some k => exact .inr ⟨k, ((List.findIdx?_eq_some_iff_getElem).1 hf).1, rfl⟩
set_option maxHeartbeats 4000000 in
theorem Judge_lit (A : Option Addr) (c : Nat) (L : List S40) (df : Int) (dn da di y0 y1 y2 y3 y4 y5 : Int) (hd : IsDat dn da di [y0, y1, y2, y3, y4, y5]) (hk : polK L df) (hl : L.length ≤ 1000) (hcl : ∀ x ∈ L, x.f2.length ≤ 1000) (hc : L.length ≤ c) (w : World) (hC : k40.C w A L.length L) :
    Calls Try.prog 25 #[.agg #[.slice A L.length c, .int .u32 df], .agg #[.int .u32 dn, .int .u32 da, .int .u64 di, .int .u64 y0, .int .u64 y1, .int .u64 y2, .int .u64 y3, .int .u64 y4, .int .u64 y5]] w fun e w' => e = .returned (.tuple #[.int .u32 (judgeR L df dn da [y0, y1, y2, y3, y4, y5]).1, .int .i64 (judgeR L df dn da [y0, y1, y2, y3, y4, y5]).2]) ∧ Below w.heap.size w w' := by
  have HB := Aside0.mk (Below.refl w.heap.size w)
  have HC := Aside0.mk hC
  have HF : Aside0 (∀ W : World, k40.C W A L.length L → Calls Try.prog 24 #[.agg #[.slice A L.length c, .int .u32 df], .agg #[.int .u32 dn, .int .u32 da, .int .u64 di, .int .u64 y0, .int .u64 y1, .int .u64 y2, .int .u64 y3, .int .u64 y4, .int .u64 y5]] W fun e w' => e = .returned (.tuple #[.int .i64 (firstR L df dn da [y0, y1, y2, y3, y4, y5]).1, .int .i64 (firstR L df dn da [y0, y1, y2, y3, y4, y5]).2]) ∧ Below W.heap.size W w') := ⟨fun W hW => First_lit A c L df dn da di y0 y1 y2 y3 y4 y5 hd hk hl hcl hc W hW⟩
  clear hC hd hk hl hcl
  cases hb : polB L df with
  | false =>
    rw [show firstR L df dn da [y0, y1, y2, y3, y4, y5] = (0, 1) by unfold firstR; rw [hb]; rfl] at HF
    have HJ := Aside0.mk (show judgeR L df dn da [y0, y1, y2, y3, y4, y5] = (0, 1) by unfold judgeR; rw [hb]; rfl)
    clear hb
    go_enter Try.func25, Try.ntmps25
    go_wp2_with (first | ((with_reducible refine gate_dst (N := 2) rfl ?_); (try (refine gate_guard (by rfl) ?_; dsimp only)); refine box_event ?hg (N := 2) ?hd (cs := #[.slice A L.length c, .int .u32 df]) (t := 25) ?hr ?_; (case hd => rfl); (case hg => rfl); (case hr => first | (go_simp; done) | (go_simp; rfl)); intro gp hgx w1 hbox hbx; have n0_ := Aside0.mk (below_step HB.out hbx); have n1_ := Aside0.mk hbox; clear HB hbx hbox hgx; have HB := n0_; have BKP := n1_; clear n0_ n1_) | ((with_reducible refine gate_dst (N := 3) rfl ?_); (try (refine gate_guard (by rfl) ?_; dsimp only)); refine box_event ?hg (N := 3) ?hd (cs := #[.int .u32 dn, .int .u32 da, .int .u64 di, .int .u64 y0, .int .u64 y1, .int .u64 y2, .int .u64 y3, .int .u64 y4, .int .u64 y5]) (t := 44) ?hr ?_; (case hd => rfl); (case hg => rfl); (case hr => first | (go_simp; done) | (go_simp; rfl)); intro gd hgx w2 hbox hbx; have n0_ := Aside0.mk (below_step HB.out hbx); have n1_ := Aside0.mk (blk_below BKP.out hbx); have n2_ := Aside0.mk hbox; clear HB BKP hbx hbox hgx; have HB := n0_; have BKP := n1_; have BKD := n2_; clear n0_ n1_ n2_; have hx0 : w2.cell? ⟨gp, 0, none⟩ = some (.slice A L.length c) := (blk_cell BKP.out 0).trans rfl; have hx1 : w2.cell? ⟨gp, 1, none⟩ = some (.int .u32 df) := (blk_cell BKP.out 1).trans rfl; have hd0 : w2.cell? ⟨gd, 0, none⟩ = some (.int .u32 dn) := (blk_cell BKD.out 0).trans rfl; have hd1 : w2.cell? ⟨gd, 1, none⟩ = some (.int .u32 da) := (blk_cell BKD.out 1).trans rfl; have hd2 : w2.cell? ⟨gd, 2, none⟩ = some (.int .u64 di) := (blk_cell BKD.out 2).trans rfl; have hd3 : w2.cell? ⟨gd, 3, none⟩ = some (.int .u64 y0) := (blk_cell BKD.out 3).trans rfl; have hd4 : w2.cell? ⟨gd, 4, none⟩ = some (.int .u64 y1) := (blk_cell BKD.out 4).trans rfl; have hd5 : w2.cell? ⟨gd, 5, none⟩ = some (.int .u64 y2) := (blk_cell BKD.out 5).trans rfl; have hd6 : w2.cell? ⟨gd, 6, none⟩ = some (.int .u64 y3) := (blk_cell BKD.out 6).trans rfl; have hd7 : w2.cell? ⟨gd, 7, none⟩ = some (.int .u64 y4) := (blk_cell BKD.out 7).trans rfl; have hd8 : w2.cell? ⟨gd, 8, none⟩ = some (.int .u64 y5) := (blk_cell BKD.out 8).trans rfl) | ((with_reducible refine gate_callee (f := 24) rfl ?_); refine goesL_ (some 11) rfl rfl Try.func24 (by kernel_rfl) rfl #[.agg #[.slice A L.length c, .int .u32 df], .agg #[.int .u32 dn, .int .u32 da, .int .u64 di, .int .u64 y0, .int .u64 y1, .int .u64 y2, .int .u64 y3, .int .u64 y4, .int .u64 y5]] rfl (by (try simp only [List.map_toArray, List.map_cons, List.map_nil]); first | done | rfl | (simp only [List.length_drop, List.length_take]; rfl)) ?_; (refine (HF.out _ (by have := HC.out; exact Kd.C_below this HB.out)).mono ?_); rintro e w3 ⟨rfl, hb⟩; refine ⟨_, rfl, ?_⟩; have n2_ := Aside0.mk (blk_below BKP.out hb); have n5_ := Aside0.mk (below_step HB.out hb); clear BKP BKD HB hb hx0 hx1 hd0 hd1 hd2 hd3 hd4 hd5 hd6 hd7 hd8; have BKP := n2_; have HB := n5_; clear n2_ n5_; have hx0 : w3.cell? ⟨gp, 0, none⟩ = some (.slice A L.length c) := (blk_cell BKP.out 0).trans rfl; have hx1 : w3.cell? ⟨gp, 1, none⟩ = some (.int .u32 df) := (blk_cell BKP.out 1).trans rfl))
    go_ret2
    exact ⟨by rw [HJ.out]; rfl, HB.out⟩
  | true =>
    rcases firstI_cases L (fitX dn da [y0, y1, y2, y3, y4, y5]) with h | ⟨i, hi, h⟩
    · rw [show firstR L df dn da [y0, y1, y2, y3, y4, y5] = (-1, 0) by unfold firstR; rw [hb, if_pos rfl, h]] at HF
      have HJ := Aside0.mk (show judgeR L df dn da [y0, y1, y2, y3, y4, y5] = (df, 0) by unfold judgeR; rw [hb, if_pos rfl, find_none L _ h])
      clear hb h
      go_enter Try.func25, Try.ntmps25
      go_wp2_with (first | ((with_reducible refine gate_dst (N := 2) rfl ?_); (try (refine gate_guard (by rfl) ?_; dsimp only)); refine box_event ?hg (N := 2) ?hd (cs := #[.slice A L.length c, .int .u32 df]) (t := 25) ?hr ?_; (case hd => rfl); (case hg => rfl); (case hr => first | (go_simp; done) | (go_simp; rfl)); intro gp hgx w1 hbox hbx; have n0_ := Aside0.mk (below_step HB.out hbx); have n1_ := Aside0.mk hbox; clear HB hbx hbox hgx; have HB := n0_; have BKP := n1_; clear n0_ n1_) | ((with_reducible refine gate_dst (N := 3) rfl ?_); (try (refine gate_guard (by rfl) ?_; dsimp only)); refine box_event ?hg (N := 3) ?hd (cs := #[.int .u32 dn, .int .u32 da, .int .u64 di, .int .u64 y0, .int .u64 y1, .int .u64 y2, .int .u64 y3, .int .u64 y4, .int .u64 y5]) (t := 44) ?hr ?_; (case hd => rfl); (case hg => rfl); (case hr => first | (go_simp; done) | (go_simp; rfl)); intro gd hgx w2 hbox hbx; have n0_ := Aside0.mk (below_step HB.out hbx); have n1_ := Aside0.mk (blk_below BKP.out hbx); have n2_ := Aside0.mk hbox; clear HB BKP hbx hbox hgx; have HB := n0_; have BKP := n1_; have BKD := n2_; clear n0_ n1_ n2_; have hx0 : w2.cell? ⟨gp, 0, none⟩ = some (.slice A L.length c) := (blk_cell BKP.out 0).trans rfl; have hx1 : w2.cell? ⟨gp, 1, none⟩ = some (.int .u32 df) := (blk_cell BKP.out 1).trans rfl; have hd0 : w2.cell? ⟨gd, 0, none⟩ = some (.int .u32 dn) := (blk_cell BKD.out 0).trans rfl; have hd1 : w2.cell? ⟨gd, 1, none⟩ = some (.int .u32 da) := (blk_cell BKD.out 1).trans rfl; have hd2 : w2.cell? ⟨gd, 2, none⟩ = some (.int .u64 di) := (blk_cell BKD.out 2).trans rfl; have hd3 : w2.cell? ⟨gd, 3, none⟩ = some (.int .u64 y0) := (blk_cell BKD.out 3).trans rfl; have hd4 : w2.cell? ⟨gd, 4, none⟩ = some (.int .u64 y1) := (blk_cell BKD.out 4).trans rfl; have hd5 : w2.cell? ⟨gd, 5, none⟩ = some (.int .u64 y2) := (blk_cell BKD.out 5).trans rfl; have hd6 : w2.cell? ⟨gd, 6, none⟩ = some (.int .u64 y3) := (blk_cell BKD.out 6).trans rfl; have hd7 : w2.cell? ⟨gd, 7, none⟩ = some (.int .u64 y4) := (blk_cell BKD.out 7).trans rfl; have hd8 : w2.cell? ⟨gd, 8, none⟩ = some (.int .u64 y5) := (blk_cell BKD.out 8).trans rfl) | ((with_reducible refine gate_callee (f := 24) rfl ?_); refine goesL_ (some 11) rfl rfl Try.func24 (by kernel_rfl) rfl #[.agg #[.slice A L.length c, .int .u32 df], .agg #[.int .u32 dn, .int .u32 da, .int .u64 di, .int .u64 y0, .int .u64 y1, .int .u64 y2, .int .u64 y3, .int .u64 y4, .int .u64 y5]] rfl (by (try simp only [List.map_toArray, List.map_cons, List.map_nil]); first | done | rfl | (simp only [List.length_drop, List.length_take]; rfl)) ?_; (refine (HF.out _ (by have := HC.out; exact Kd.C_below this HB.out)).mono ?_); rintro e w3 ⟨rfl, hb⟩; refine ⟨_, rfl, ?_⟩; have n2_ := Aside0.mk (blk_below BKP.out hb); have n5_ := Aside0.mk (below_step HB.out hb); clear BKP BKD HB hb hx0 hx1 hd0 hd1 hd2 hd3 hd4 hd5 hd6 hd7 hd8; have BKP := n2_; have HB := n5_; clear n2_ n5_; have hx0 : w3.cell? ⟨gp, 0, none⟩ = some (.slice A L.length c) := (blk_cell BKP.out 0).trans rfl; have hx1 : w3.cell? ⟨gp, 1, none⟩ = some (.int .u32 df) := (blk_cell BKP.out 1).trans rfl))
      go_ret2
      exact ⟨by rw [HJ.out]; rfl, HB.out⟩
    · rw [show firstR L df dn da [y0, y1, y2, y3, y4, y5] = ((i : Int), 0) by unfold firstR; rw [hb, if_pos rfl, h]] at HF
      have HJ := Aside0.mk (show judgeR L df dn da [y0, y1, y2, y3, y4, y5] = (L[i].f3, 0) by unfold judgeR; rw [hb, if_pos rfl, find_at L _ i hi h])
      clear hb h
      obtain ⟨x, hx⟩ : ∃ x, rd_T40 L (i : Int) = x := ⟨_, rfl⟩
      have hxe : x = L[i] := by rw [← hx, rd40 L i hi]
      rw [← hxe] at HJ
      have hii : (0 : Int) ≤ (i : Int) := by omega
      have ATT := Aside0.mk (fun (W : World) (hW : k40.C W A L.length L) => hx ▸ at_T40 hW (i : Int) hii (by omega))
      clear hxe
      have p := eq_true hii
      have q : ((i : Int) < (L.length : Int)) = True := eq_true (by omega)
      have q2 : (i < L.length) = True := eq_true hi
      have qb : decide ((i : Int) < 0) = false := decide_eq_false (by omega)
      have HN := HC.out.2.1
      go_enter Try.func25, Try.ntmps25
      go_wp2_with (first | ((with_reducible refine gate_dst (N := 2) rfl ?_); (try (refine gate_guard (by rfl) ?_; dsimp only)); refine box_event ?hg (N := 2) ?hd (cs := #[.slice A L.length c, .int .u32 df]) (t := 25) ?hr ?_; (case hd => rfl); (case hg => rfl); (case hr => first | (go_simp; done) | (go_simp; rfl)); intro gp hgx w1 hbox hbx; have n0_ := Aside0.mk (below_step HB.out hbx); have n1_ := Aside0.mk hbox; clear HB hbx hbox hgx; have HB := n0_; have BKP := n1_; clear n0_ n1_) | ((with_reducible refine gate_dst (N := 3) rfl ?_); (try (refine gate_guard (by rfl) ?_; dsimp only)); refine box_event ?hg (N := 3) ?hd (cs := #[.int .u32 dn, .int .u32 da, .int .u64 di, .int .u64 y0, .int .u64 y1, .int .u64 y2, .int .u64 y3, .int .u64 y4, .int .u64 y5]) (t := 44) ?hr ?_; (case hd => rfl); (case hg => rfl); (case hr => first | (go_simp; done) | (go_simp; rfl)); intro gd hgx w2 hbox hbx; have n0_ := Aside0.mk (below_step HB.out hbx); have n1_ := Aside0.mk (blk_below BKP.out hbx); have n2_ := Aside0.mk hbox; clear HB BKP hbx hbox hgx; have HB := n0_; have BKP := n1_; have BKD := n2_; clear n0_ n1_ n2_; have hx0 : w2.cell? ⟨gp, 0, none⟩ = some (.slice A L.length c) := (blk_cell BKP.out 0).trans rfl; have hx1 : w2.cell? ⟨gp, 1, none⟩ = some (.int .u32 df) := (blk_cell BKP.out 1).trans rfl; have hd0 : w2.cell? ⟨gd, 0, none⟩ = some (.int .u32 dn) := (blk_cell BKD.out 0).trans rfl; have hd1 : w2.cell? ⟨gd, 1, none⟩ = some (.int .u32 da) := (blk_cell BKD.out 1).trans rfl; have hd2 : w2.cell? ⟨gd, 2, none⟩ = some (.int .u64 di) := (blk_cell BKD.out 2).trans rfl; have hd3 : w2.cell? ⟨gd, 3, none⟩ = some (.int .u64 y0) := (blk_cell BKD.out 3).trans rfl; have hd4 : w2.cell? ⟨gd, 4, none⟩ = some (.int .u64 y1) := (blk_cell BKD.out 4).trans rfl; have hd5 : w2.cell? ⟨gd, 5, none⟩ = some (.int .u64 y2) := (blk_cell BKD.out 5).trans rfl; have hd6 : w2.cell? ⟨gd, 6, none⟩ = some (.int .u64 y3) := (blk_cell BKD.out 6).trans rfl; have hd7 : w2.cell? ⟨gd, 7, none⟩ = some (.int .u64 y4) := (blk_cell BKD.out 7).trans rfl; have hd8 : w2.cell? ⟨gd, 8, none⟩ = some (.int .u64 y5) := (blk_cell BKD.out 8).trans rfl) | ((with_reducible refine gate_callee (f := 24) rfl ?_); refine goesL_ (some 11) rfl rfl Try.func24 (by kernel_rfl) rfl #[.agg #[.slice A L.length c, .int .u32 df], .agg #[.int .u32 dn, .int .u32 da, .int .u64 di, .int .u64 y0, .int .u64 y1, .int .u64 y2, .int .u64 y3, .int .u64 y4, .int .u64 y5]] rfl (by (try simp only [List.map_toArray, List.map_cons, List.map_nil]); first | done | rfl | (simp only [List.length_drop, List.length_take]; rfl)) ?_; (refine (HF.out _ (by have := HC.out; exact Kd.C_below this HB.out)).mono ?_); rintro e w3 ⟨rfl, hb⟩; refine ⟨_, rfl, ?_⟩; have n2_ := Aside0.mk (blk_below BKP.out hb); have n5_ := Aside0.mk (below_step HB.out hb); clear BKP BKD HB hb hx0 hx1 hd0 hd1 hd2 hd3 hd4 hd5 hd6 hd7 hd8; have BKP := n2_; have HB := n5_; clear n2_ n5_; have hx0 : w3.cell? ⟨gp, 0, none⟩ = some (.slice A L.length c) := (blk_cell BKP.out 0).trans rfl; have hx1 : w3.cell? ⟨gp, 1, none⟩ = some (.int .u32 df) := (blk_cell BKP.out 1).trans rfl; obtain ⟨ad, A2, c2, ea, g0, g1, g2, g3, hc2, hC2⟩ := ATT.out _ (Kd.C_below HC.out HB.out); (try subst ea); simp only [Int.toNat_natCast] at g0 g1 g2 g3))
      go_ret2
      exact ⟨by rw [HJ.out]; rfl, HB.out⟩
end Go.Proofs.Ytekpbgmmogpbdaa.H
set_option linter.unusedVariables false
set_option linter.unusedSimpArgs false
set_option maxRecDepth 100000
namespace Go.Proofs.Ytekpbgmmogpbdaa.H
open Go.RowKit Go.Proofs.Ytekpbgmmogpbdaa.P Go.Proofs.YtekpbgmmogpbdaaW.PrintWords Go.Proofs.YtekpbgmmogpbdaaW.PrintLast Go.Proofs.YtekpbgmmogpbdaaW.PrintMore
attribute [local go_sem] max2_int min2_int max_two min_two max_three min_three max_four min_four
def judgeV (L : List S40) (df dn da : Int) (ags : List Int) : Int := match L.find? (fitX dn da ags) with | some x => x.f3 | none => df
end Go.Proofs.Ytekpbgmmogpbdaa.H
namespace Go.Proofs.Ytekpbgmmogpbdaa.P
open Go.RowKit Go.Proofs.Ytekpbgmmogpbdaa.H Go.Proofs.YtekpbgmmogpbdaaW.PrintWords Go.Proofs.YtekpbgmmogpbdaaW.PrintLast Go.Proofs.YtekpbgmmogpbdaaW.PrintMore
attribute [local go_sem] max2_int min2_int max_two min_two max_three min_three max_four min_four
set_option linter.unusedVariables false
set_option linter.unusedSimpArgs false
def hurdleref01_digits.f : Nat → Int → Option (ByteArray)
  | 0, _ => none
  | k + 1, a0 => (some (([(IntKind.u64.wrap (48 + (Int.tmod a0 16))) % 256] : List Int) : List Int)).bind fun y230 => (if (Int.tmod a0 16) > 9 then ((some (([(IntKind.u64.wrap (87 + (Int.tmod a0 16))) % 256] : List Int) : List Int)).bind fun y233 => (if a0 < 16 then (some (strOfNums y233)) else ((hurdleref01_digits.f k (IntKind.u64.wrap (Int.tdiv a0 16))).bind fun t236 => (if t236.size + (strOfNums y233).size ≤ 9223372036854775807 then (some (t236 ++ (strOfNums y233))) else (none))))) else (if a0 < 16 then (some (strOfNums y230)) else ((hurdleref01_digits.f k (IntKind.u64.wrap (Int.tdiv a0 16))).bind fun t237 => (if t237.size + (strOfNums y230).size ≤ 9223372036854775807 then (some (t237 ++ (strOfNums y230))) else (none)))))
set_option maxHeartbeats 8000000 in
set_option maxRecDepth 100000 in
theorem hurdleref01_digits.calls (k : Nat) : ∀ (a0 : Int) (r : ByteArray) (w : World) (h : hurdleref01_digits.f k a0 = some r),
    Calls Try.prog 71 #[.int .u64 a0] w fun e w' => e = .returned (.string r) ∧ Below w.heap.size w w' := by
  induction k using Nat.strongRecOn with
  | _ k ih =>
  intro a0 r w h
  cases k with
  | zero => exact absurd h (by simp [hurdleref01_digits.f])
  | succ k =>
  simp only [hurdleref01_digits.f] at h
  have HB := Aside0.mk (Below.refl w.heap.size w)
  have H : ((some (([(IntKind.u64.wrap (48 + (Int.tmod a0 16))) % 256] : List Int) : List Int)).bind fun y230 => (if (Int.tmod a0 16) > 9 then ((some (([(IntKind.u64.wrap (87 + (Int.tmod a0 16))) % 256] : List Int) : List Int)).bind fun y233 => (if a0 < 16 then (some (strOfNums y233)) else ((hurdleref01_digits.f k (IntKind.u64.wrap (Int.tdiv a0 16))).bind fun t236 => (if t236.size + (strOfNums y233).size ≤ 9223372036854775807 then (some (t236 ++ (strOfNums y233))) else (none))))) else (if a0 < 16 then (some (strOfNums y230)) else ((hurdleref01_digits.f k (IntKind.u64.wrap (Int.tdiv a0 16))).bind fun t237 => (if t237.size + (strOfNums y230).size ≤ 9223372036854775807 then (some (t237 ++ (strOfNums y230))) else (none)))))) = some r := h
  clear h
  obtain ⟨y230, hy230⟩ : ∃ y_ : List Int, y_ = (([(IntKind.u64.wrap (48 + (Int.tmod a0 16))) % 256] : List Int)) := ⟨_, rfl⟩
  replace H : (if (Int.tmod a0 16) > 9 then ((some (([(IntKind.u64.wrap (87 + (Int.tmod a0 16))) % 256] : List Int) : List Int)).bind fun y233 => (if a0 < 16 then (some (strOfNums y233)) else ((hurdleref01_digits.f k (IntKind.u64.wrap (Int.tdiv a0 16))).bind fun t236 => (if t236.size + (strOfNums y233).size ≤ 9223372036854775807 then (some (t236 ++ (strOfNums y233))) else (none))))) else (if a0 < 16 then (some (strOfNums y230)) else ((hurdleref01_digits.f k (IntKind.u64.wrap (Int.tdiv a0 16))).bind fun t237 => (if t237.size + (strOfNums y230).size ≤ 9223372036854775807 then (some (t237 ++ (strOfNums y230))) else (none))))) = some r := by first | (rw [hy230]; with_reducible exact H) | (have H2_ := (Option.bind_some _ _).symm.trans H; rw [hy230]; with_reducible exact H2_) | (have H2_ := (Option.bind_some _ _).symm.trans H; with_reducible exact H2_) | with_reducible exact H | (rw [hy230]; exact H) | exact H
  have Ny230 := Aside0.mk hy230
  clear hy230
  by_cases c2 : (Int.tmod a0 16) > 9
  · rw [if_pos c2] at H
    have c2b0 : decide (9 < (Int.tmod a0 16)) = true := decide_eq_true c2
    clear c2
    obtain ⟨y233, hy233⟩ : ∃ y_ : List Int, y_ = (([(IntKind.u64.wrap (87 + (Int.tmod a0 16))) % 256] : List Int)) := ⟨_, rfl⟩
    replace H : (if a0 < 16 then (some (strOfNums y233)) else ((hurdleref01_digits.f k (IntKind.u64.wrap (Int.tdiv a0 16))).bind fun t236 => (if t236.size + (strOfNums y233).size ≤ 9223372036854775807 then (some (t236 ++ (strOfNums y233))) else (none)))) = some r := by first | (rw [hy233]; with_reducible exact H) | (have H2_ := (Option.bind_some _ _).symm.trans H; rw [hy233]; with_reducible exact H2_) | (have H2_ := (Option.bind_some _ _).symm.trans H; with_reducible exact H2_) | with_reducible exact H | (rw [hy233]; exact H) | exact H
    have Ny233 := Aside0.mk hy233
    clear hy233
    by_cases c3 : a0 < 16
    · rw [if_pos c3] at H
      have c3b0 : decide (a0 < 16) = true := decide_eq_true c3
      clear c3
      obtain rfl := Option.some.inj H
      go_enter Try.func71, Try.ntmps71
      go_wp2_with (first | ((with_reducible refine gate_dst (N := 10) rfl ?_); refine Kd.R_lit (Kd.int .u8) _ 5 ?hg (N := 10) ?hd (xs := ([(IntKind.u64.wrap (48 + (Int.tmod a0 16))) % 256] : List Int)) (inner := [.int .u8 ((IntKind.u64.wrap (48 + (Int.tmod a0 16))) % 256)]) (ok := fun _ => True) (okp := fun _ => True) ?hr ?hp (fun _ hk => hk) trivial (Below.refl _ _) (Nat.le_refl _) (by simp) ?_; (case hd => rfl); (case hg => rfl); (case hr => first | (go_simp; done) | (go_simp; rfl)); (case hp => exact (Reps.one (show Kd.M (Kd.int .u8) _ _ _ ((IntKind.u64.wrap (48 + (Int.tmod a0 16))) % 256) [.int .u8 ((IntKind.u64.wrap (48 + (Int.tmod a0 16))) % 256)] from rfl) (Reps.none _ _))); intro v231 w4 ho5 hb hg_ hnew_; clear hg_ hnew_; (first | rw [← Ny230.out] at ho5 | (simp only [Int.reduceToNat] at ho5; rw [← Ny230.out] at ho5)); have n0_ := Aside0.mk (Kd.R_lower ho5 (below_size (by repeat (first | (with_reducible first | exact HB.out | apply below_alloc | apply pw_below_drewN | apply below_drew1) | exact HB.out)))); have n1_ := Aside0.mk (below_step (by repeat (first | (with_reducible first | exact HB.out | apply below_alloc | apply pw_below_drewN | apply below_drew1) | exact HB.out)) hb); clear HB; have HO232 := n0_; have HB := n1_; clear n0_ n1_; clear hb ho5; have hcv6 := own_string (P := Try.prog) Try.underlying101 Try.underlying5 Try.underlying9 (Kd.own_of_R HO232.out)) | ((with_reducible refine gate_dst (N := 17) rfl ?_); refine Kd.R_lit (Kd.int .u8) _ 5 ?hg (N := 17) ?hd (xs := ([(IntKind.u64.wrap (87 + (Int.tmod a0 16))) % 256] : List Int)) (inner := [.int .u8 ((IntKind.u64.wrap (87 + (Int.tmod a0 16))) % 256)]) (ok := fun _ => True) (okp := fun _ => True) ?hr ?hp (fun _ hk => hk) trivial (Below.refl _ _) (Nat.le_refl _) (by simp) ?_; (case hd => rfl); (case hg => rfl); (case hr => first | (go_simp; done) | (go_simp; rfl)); (case hp => exact (Reps.one (show Kd.M (Kd.int .u8) _ _ _ ((IntKind.u64.wrap (87 + (Int.tmod a0 16))) % 256) [.int .u8 ((IntKind.u64.wrap (87 + (Int.tmod a0 16))) % 256)] from rfl) (Reps.none _ _))); intro v234 w7 ho8 hb hg_ hnew_; clear hg_ hnew_; (first | rw [← Ny233.out] at ho8 | (simp only [Int.reduceToNat] at ho8; rw [← Ny233.out] at ho8)); have n0_ := Aside0.mk (Kd.R_elder' (by (with_reducible repeat (first | apply Kd.R_alloc | apply Kd.R_drewN | apply Kd.R_drew)); exact HO232.out) (Kd.R_base ho8) hb); have n1_ := Aside0.mk (Kd.R_lower (Kd.R_new' ho8 (Kd.R_lt (by (with_reducible repeat (first | apply Kd.R_alloc | apply Kd.R_drewN | apply Kd.R_drew)); exact HO232.out))) (below_size (by repeat (first | (with_reducible first | exact HB.out | apply below_alloc | apply pw_below_drewN | apply below_drew1) | exact HB.out)))); have n2_ := Aside0.mk (below_step (by repeat (first | (with_reducible first | exact HB.out | apply below_alloc | apply pw_below_drewN | apply below_drew1) | exact HB.out)) hb); clear HO232; clear HB; have HO232 := n0_; have HO235 := n1_; have HB := n2_; clear n0_ n1_ n2_; clear hb ho8; have hcv9 := own_string (P := Try.prog) Try.underlying101 Try.underlying5 Try.underlying9 (Kd.own_of_R HO235.out)))
      go_ret
      exact ⟨by first | rfl | (simp [errW_none, errW_some] <;> rfl) | (simp [*, errW_none, errW_some] <;> rfl), by repeat (first | (with_reducible first | exact HB.out | apply below_alloc | apply pw_below_drewN | apply below_drew1) | exact HB.out)⟩
    · rw [if_neg c3] at H
      have c3b0 : decide (a0 < 16) = false := decide_eq_false c3
      clear c3
      replace H := Option.bind_eq_some_iff.mp H
      obtain ⟨t236, A100, H⟩ := H
      replace H : (if t236.size + (strOfNums y233).size ≤ 9223372036854775807 then (some (t236 ++ (strOfNums y233))) else (none)) = some r := H
      have A10 := Aside0.mk A100
      clear A100
      by_cases c11 : t236.size + (strOfNums y233).size ≤ 9223372036854775807
      · rw [if_pos c11] at H
        have c11b0 := eq_true c11
        have c11b1 : decide (t236.size + (strOfNums y233).size ≤ 9223372036854775807) = true := decide_eq_true c11
        try have c11b2 : (9223372036854775807 < t236.size + (strOfNums y233).size) = False := eq_false (Nat.not_lt.2 c11)
        obtain rfl := Option.some.inj H
        go_enter Try.func71, Try.ntmps71
        go_wp2_with (first | ((with_reducible refine gate_dst (N := 10) rfl ?_); refine Kd.R_lit (Kd.int .u8) _ 5 ?hg (N := 10) ?hd (xs := ([(IntKind.u64.wrap (48 + (Int.tmod a0 16))) % 256] : List Int)) (inner := [.int .u8 ((IntKind.u64.wrap (48 + (Int.tmod a0 16))) % 256)]) (ok := fun _ => True) (okp := fun _ => True) ?hr ?hp (fun _ hk => hk) trivial (Below.refl _ _) (Nat.le_refl _) (by simp) ?_; (case hd => rfl); (case hg => rfl); (case hr => first | (go_simp; done) | (go_simp; rfl)); (case hp => exact (Reps.one (show Kd.M (Kd.int .u8) _ _ _ ((IntKind.u64.wrap (48 + (Int.tmod a0 16))) % 256) [.int .u8 ((IntKind.u64.wrap (48 + (Int.tmod a0 16))) % 256)] from rfl) (Reps.none _ _))); intro v231 w12 ho13 hb hg_ hnew_; clear hg_ hnew_; (first | rw [← Ny230.out] at ho13 | (simp only [Int.reduceToNat] at ho13; rw [← Ny230.out] at ho13)); have n0_ := Aside0.mk (Kd.R_lower ho13 (below_size (by repeat (first | (with_reducible first | exact HB.out | apply below_alloc | apply pw_below_drewN | apply below_drew1) | exact HB.out)))); have n1_ := Aside0.mk (below_step (by repeat (first | (with_reducible first | exact HB.out | apply below_alloc | apply pw_below_drewN | apply below_drew1) | exact HB.out)) hb); clear HB; have HO232 := n0_; have HB := n1_; clear n0_ n1_; clear hb ho13; have hcv14 := own_string (P := Try.prog) Try.underlying101 Try.underlying5 Try.underlying9 (Kd.own_of_R HO232.out)) | ((with_reducible refine gate_dst (N := 17) rfl ?_); refine Kd.R_lit (Kd.int .u8) _ 5 ?hg (N := 17) ?hd (xs := ([(IntKind.u64.wrap (87 + (Int.tmod a0 16))) % 256] : List Int)) (inner := [.int .u8 ((IntKind.u64.wrap (87 + (Int.tmod a0 16))) % 256)]) (ok := fun _ => True) (okp := fun _ => True) ?hr ?hp (fun _ hk => hk) trivial (Below.refl _ _) (Nat.le_refl _) (by simp) ?_; (case hd => rfl); (case hg => rfl); (case hr => first | (go_simp; done) | (go_simp; rfl)); (case hp => exact (Reps.one (show Kd.M (Kd.int .u8) _ _ _ ((IntKind.u64.wrap (87 + (Int.tmod a0 16))) % 256) [.int .u8 ((IntKind.u64.wrap (87 + (Int.tmod a0 16))) % 256)] from rfl) (Reps.none _ _))); intro v234 w15 ho16 hb hg_ hnew_; clear hg_ hnew_; (first | rw [← Ny233.out] at ho16 | (simp only [Int.reduceToNat] at ho16; rw [← Ny233.out] at ho16)); have n0_ := Aside0.mk (Kd.R_elder' (by (with_reducible repeat (first | apply Kd.R_alloc | apply Kd.R_drewN | apply Kd.R_drew)); exact HO232.out) (Kd.R_base ho16) hb); have n1_ := Aside0.mk (Kd.R_lower (Kd.R_new' ho16 (Kd.R_lt (by (with_reducible repeat (first | apply Kd.R_alloc | apply Kd.R_drewN | apply Kd.R_drew)); exact HO232.out))) (below_size (by repeat (first | (with_reducible first | exact HB.out | apply below_alloc | apply pw_below_drewN | apply below_drew1) | exact HB.out)))); have n2_ := Aside0.mk (below_step (by repeat (first | (with_reducible first | exact HB.out | apply below_alloc | apply pw_below_drewN | apply below_drew1) | exact HB.out)) hb); clear HO232; clear HB; have HO232 := n0_; have HO235 := n1_; have HB := n2_; clear n0_ n1_ n2_; clear hb ho16; have hcv17 := own_string (P := Try.prog) Try.underlying101 Try.underlying5 Try.underlying9 (Kd.own_of_R HO235.out)) | ((with_reducible refine gate_callee (f := 71) rfl ?_); refine goesL_ (some 24) rfl rfl Try.func71 (by kernel_rfl) rfl #[.int .u64 (IntKind.u64.wrap (Int.tdiv a0 16))] rfl (by (try simp only [List.map_toArray, List.map_cons, List.map_nil]); first | done | rfl | (simp only [List.length_drop, List.length_take]; rfl)) ?_; (with_reducible refine (ih k (by omega) (IntKind.u64.wrap (Int.tdiv a0 16)) t236 _ A10.out).mono ?_); rintro e w18 ⟨rfl, hb⟩; refine ⟨_, rfl, ?_⟩; have n0_ := Aside0.mk (Kd.R_below (by (with_reducible repeat (first | apply Kd.R_alloc | apply Kd.R_drewN | apply Kd.R_drew)); exact HO232.out) hb); have n1_ := Aside0.mk (Kd.R_below (by (with_reducible repeat (first | apply Kd.R_alloc | apply Kd.R_drewN | apply Kd.R_drew)); exact HO235.out) hb); have n2_ := Aside0.mk (below_step (by repeat (first | (with_reducible first | exact HB.out | apply below_alloc | apply pw_below_drewN | apply below_drew1) | exact HB.out)) hb); clear HO232; clear HO235; clear HB; have HO232 := n0_; have HO235 := n1_; have HB := n2_; clear n0_ n1_ n2_; (try clear hb); (try clear hb2); (try clear hk); (try clear hi)))
        go_ret
        exact ⟨by first | rfl | (simp [errW_none, errW_some] <;> rfl) | (simp [*, errW_none, errW_some] <;> rfl), by repeat (first | (with_reducible first | exact HB.out | apply below_alloc | apply pw_below_drewN | apply below_drew1) | exact HB.out)⟩
      · rw [if_neg c11] at H
        exact absurd H (by simp)
  · rw [if_neg c2] at H
    have c2b0 : decide (9 < (Int.tmod a0 16)) = false := decide_eq_false c2
    clear c2
    by_cases c19 : a0 < 16
    · rw [if_pos c19] at H
      have c19b0 : decide (a0 < 16) = true := decide_eq_true c19
      clear c19
      obtain rfl := Option.some.inj H
      go_enter Try.func71, Try.ntmps71
      go_wp2_with (first | ((with_reducible refine gate_dst (N := 10) rfl ?_); refine Kd.R_lit (Kd.int .u8) _ 5 ?hg (N := 10) ?hd (xs := ([(IntKind.u64.wrap (48 + (Int.tmod a0 16))) % 256] : List Int)) (inner := [.int .u8 ((IntKind.u64.wrap (48 + (Int.tmod a0 16))) % 256)]) (ok := fun _ => True) (okp := fun _ => True) ?hr ?hp (fun _ hk => hk) trivial (Below.refl _ _) (Nat.le_refl _) (by simp) ?_; (case hd => rfl); (case hg => rfl); (case hr => first | (go_simp; done) | (go_simp; rfl)); (case hp => exact (Reps.one (show Kd.M (Kd.int .u8) _ _ _ ((IntKind.u64.wrap (48 + (Int.tmod a0 16))) % 256) [.int .u8 ((IntKind.u64.wrap (48 + (Int.tmod a0 16))) % 256)] from rfl) (Reps.none _ _))); intro v231 w20 ho21 hb hg_ hnew_; clear hg_ hnew_; (first | rw [← Ny230.out] at ho21 | (simp only [Int.reduceToNat] at ho21; rw [← Ny230.out] at ho21)); have n0_ := Aside0.mk (Kd.R_lower ho21 (below_size (by repeat (first | (with_reducible first | exact HB.out | apply below_alloc | apply pw_below_drewN | apply below_drew1) | exact HB.out)))); have n1_ := Aside0.mk (below_step (by repeat (first | (with_reducible first | exact HB.out | apply below_alloc | apply pw_below_drewN | apply below_drew1) | exact HB.out)) hb); clear HB; have HO232 := n0_; have HB := n1_; clear n0_ n1_; clear hb ho21; have hcv22 := own_string (P := Try.prog) Try.underlying101 Try.underlying5 Try.underlying9 (Kd.own_of_R HO232.out)))
      go_ret
      exact ⟨by first | rfl | (simp [errW_none, errW_some] <;> rfl) | (simp [*, errW_none, errW_some] <;> rfl), by repeat (first | (with_reducible first | exact HB.out | apply below_alloc | apply pw_below_drewN | apply below_drew1) | exact HB.out)⟩
    · rw [if_neg c19] at H
      have c19b0 : decide (a0 < 16) = false := decide_eq_false c19
      clear c19
      replace H := Option.bind_eq_some_iff.mp H
      obtain ⟨t237, A230, H⟩ := H
      replace H : (if t237.size + (strOfNums y230).size ≤ 9223372036854775807 then (some (t237 ++ (strOfNums y230))) else (none)) = some r := H
      have A23 := Aside0.mk A230
      clear A230
      by_cases c24 : t237.size + (strOfNums y230).size ≤ 9223372036854775807
      · rw [if_pos c24] at H
        have c24b0 := eq_true c24
        have c24b1 : decide (t237.size + (strOfNums y230).size ≤ 9223372036854775807) = true := decide_eq_true c24
        try have c24b2 : (9223372036854775807 < t237.size + (strOfNums y230).size) = False := eq_false (Nat.not_lt.2 c24)
        obtain rfl := Option.some.inj H
        go_enter Try.func71, Try.ntmps71
        go_wp2_with (first | ((with_reducible refine gate_dst (N := 10) rfl ?_); refine Kd.R_lit (Kd.int .u8) _ 5 ?hg (N := 10) ?hd (xs := ([(IntKind.u64.wrap (48 + (Int.tmod a0 16))) % 256] : List Int)) (inner := [.int .u8 ((IntKind.u64.wrap (48 + (Int.tmod a0 16))) % 256)]) (ok := fun _ => True) (okp := fun _ => True) ?hr ?hp (fun _ hk => hk) trivial (Below.refl _ _) (Nat.le_refl _) (by simp) ?_; (case hd => rfl); (case hg => rfl); (case hr => first | (go_simp; done) | (go_simp; rfl)); (case hp => exact (Reps.one (show Kd.M (Kd.int .u8) _ _ _ ((IntKind.u64.wrap (48 + (Int.tmod a0 16))) % 256) [.int .u8 ((IntKind.u64.wrap (48 + (Int.tmod a0 16))) % 256)] from rfl) (Reps.none _ _))); intro v231 w25 ho26 hb hg_ hnew_; clear hg_ hnew_; (first | rw [← Ny230.out] at ho26 | (simp only [Int.reduceToNat] at ho26; rw [← Ny230.out] at ho26)); have n0_ := Aside0.mk (Kd.R_lower ho26 (below_size (by repeat (first | (with_reducible first | exact HB.out | apply below_alloc | apply pw_below_drewN | apply below_drew1) | exact HB.out)))); have n1_ := Aside0.mk (below_step (by repeat (first | (with_reducible first | exact HB.out | apply below_alloc | apply pw_below_drewN | apply below_drew1) | exact HB.out)) hb); clear HB; have HO232 := n0_; have HB := n1_; clear n0_ n1_; clear hb ho26; have hcv27 := own_string (P := Try.prog) Try.underlying101 Try.underlying5 Try.underlying9 (Kd.own_of_R HO232.out)) | ((with_reducible refine gate_callee (f := 71) rfl ?_); refine goesL_ (some 24) rfl rfl Try.func71 (by kernel_rfl) rfl #[.int .u64 (IntKind.u64.wrap (Int.tdiv a0 16))] rfl (by (try simp only [List.map_toArray, List.map_cons, List.map_nil]); first | done | rfl | (simp only [List.length_drop, List.length_take]; rfl)) ?_; (with_reducible refine (ih k (by omega) (IntKind.u64.wrap (Int.tdiv a0 16)) t237 _ A23.out).mono ?_); rintro e w28 ⟨rfl, hb⟩; refine ⟨_, rfl, ?_⟩; have n0_ := Aside0.mk (Kd.R_below (by (with_reducible repeat (first | apply Kd.R_alloc | apply Kd.R_drewN | apply Kd.R_drew)); exact HO232.out) hb); have n1_ := Aside0.mk (below_step (by repeat (first | (with_reducible first | exact HB.out | apply below_alloc | apply pw_below_drewN | apply below_drew1) | exact HB.out)) hb); clear HO232; clear HB; have HO232 := n0_; have HB := n1_; clear n0_ n1_; (try clear hb); (try clear hb2); (try clear hk); (try clear hi)))
        go_ret
        exact ⟨by first | rfl | (simp [errW_none, errW_some] <;> rfl) | (simp [*, errW_none, errW_some] <;> rfl), by repeat (first | (with_reducible first | exact HB.out | apply below_alloc | apply pw_below_drewN | apply below_drew1) | exact HB.out)⟩
      · rw [if_neg c24] at H
        exact absurd H (by simp)
def hurdleref09_Action.j0 : Nat → Int → Bool → Option (ByteArray)
  | 0, _, _ => none
  | k + 1, x0, x8 => if x8 = true then ((hurdleref01_Text.f ((x0 - 327680) % 4294967296)).bind fun t238 => (if 6 + t238.size ≤ 9223372036854775807 then (some ((⟨#[101, 114, 114, 111, 114, 58]⟩ : ByteArray) ++ t238)) else (none))) else (if x0 = 0 then (some (⟨#[107, 105, 108, 108]⟩ : ByteArray)) else (if x0 = 196608 then (some (⟨#[116, 114, 97, 112]⟩ : ByteArray)) else (if x0 = 2147221504 then (some (⟨#[108, 111, 103]⟩ : ByteArray)) else (if x0 = 2147418112 then (some (⟨#[97, 108, 108, 111, 119]⟩ : ByteArray)) else (some (⟨#[]⟩ : ByteArray))))))
def hurdleref09_Action.f (k : Nat) (a0 : Int) : Option (ByteArray) := if a0 ≥ 327680 then (hurdleref09_Action.j0 k a0 (decide (a0 ≤ 331775))) else (hurdleref09_Action.j0 k a0 false)
set_option maxHeartbeats 8000000 in
set_option maxRecDepth 100000 in
theorem hurdleref09_Action.calls (k : Nat) (a0 : Int) (r : ByteArray) (w : World) (h : hurdleref09_Action.f k a0 = some r) :
    Calls Try.prog 33 #[.int .u32 a0] w fun e w' => e = .returned (.string r) ∧ Below w.heap.size w w' := by
  have HB := Aside0.mk (Below.refl w.heap.size w)
  have H : (if a0 ≥ 327680 then (hurdleref09_Action.j0 k a0 (decide (a0 ≤ 331775))) else (hurdleref09_Action.j0 k a0 false)) = some r := h
  clear h
  have HC2 := Aside0.mk H
  clear H
  go_enter Try.func33, Try.ntmps33
  go_upto_region 1 with (fail)
  go_cut [8] (fun v8 wc => ∃ (kq : Nat) (x8_1 : Bool), v8 = .bool x8_1 ∧ Aside0 (hurdleref09_Action.j0 kq a0 x8_1 = some r) ∧ Aside0 (kq ≤ k) ∧ Aside0 (Below w.heap.size w wc))
  case first =>
    have H := HC2.out
    clear HC2
    by_cases c3 : a0 ≥ 327680
    · rw [if_pos c3] at H
      have c3b0 : decide (327680 ≤ a0) = true := decide_eq_true c3
      clear c3
      (first | rw [c3b0] | (simp only [i64_w, i32_w]; rw [c3b0]) | skip)
      have H' := Aside0.mk H
      clear H
      go_wp2
      go_meet
      case rel => exact ⟨_, (decide (a0 ≤ 331775)), (by first | rfl | (simp; done) | (simp [*]; done)), H', ⟨by first | omega | exact Nat.le_refl _⟩, ⟨by repeat (first | (with_reducible first | exact HB.out | apply below_alloc | apply pw_below_drewN | apply below_drew1) | exact HB.out)⟩⟩
    · rw [if_neg c3] at H
      have c3b0 : decide (327680 ≤ a0) = false := decide_eq_false c3
      clear c3
      (first | rw [c3b0] | (simp only [i64_w, i32_w]; rw [c3b0]) | skip)
      have H' := Aside0.mk H
      clear H
      go_wp2
      go_meet
      case rel => exact ⟨_, (false), (by first | rfl | (simp; done) | (simp [*]; done)), H', ⟨by first | omega | exact Nat.le_refl _⟩, ⟨by repeat (first | (with_reducible first | exact HB.out | apply below_alloc | apply pw_below_drewN | apply below_drew1) | exact HB.out)⟩⟩
  case rest =>
    clear HC2
    try clear p2
    try clear c3
    try clear c3b0
    obtain ⟨kq, x8_1, rfl, HA, HJ1, HB⟩ := hcut
    cases kq with
    | zero => exact absurd HA.out (by simp [hurdleref09_Action.j0])
    | succ kj1 =>
      have H := HA.out
      clear HA
      simp only [hurdleref09_Action.j0] at H
      by_cases c4 : x8_1 = true
      · subst c4
        have H1 : ((hurdleref01_Text.f ((a0 - 327680) % 4294967296)).bind fun t238 => (if 6 + t238.size ≤ 9223372036854775807 then (some ((⟨#[101, 114, 114, 111, 114, 58]⟩ : ByteArray) ++ t238)) else (none))) = some r := by rw [if_pos rfl] at H; exact H
        clear H
        have H := H1
        clear H1
        replace H := Option.bind_eq_some_iff.mp H
        obtain ⟨t238, A50, H⟩ := H
        replace H : (if 6 + t238.size ≤ 9223372036854775807 then (some ((⟨#[101, 114, 114, 111, 114, 58]⟩ : ByteArray) ++ t238)) else (none)) = some r := H
        have A5 := Aside0.mk A50
        clear A50
        by_cases c6 : 6 + t238.size ≤ 9223372036854775807
        · rw [if_pos c6] at H
          have c6b0 := eq_true c6
          have c6b1 : decide (6 + t238.size ≤ 9223372036854775807) = true := decide_eq_true c6
          try have c6b2 : (9223372036854775807 < 6 + t238.size) = False := eq_false (Nat.not_lt.2 c6)
          obtain rfl := Option.some.inj H
          go_wp2_with (first | ((with_reducible refine gate_callee (f := 54) rfl ?_); refine goesL_ (some 12) rfl rfl Try.func54 (by kernel_rfl) rfl #[.int .u64 ((a0 - 327680) % 4294967296)] rfl (by (try simp only [List.map_toArray, List.map_cons, List.map_nil]); first | done | rfl | (simp only [List.length_drop, List.length_take]; rfl)) ?_; (with_reducible refine (hurdleref01_Text.calls ((a0 - 327680) % 4294967296) t238 _ A5.out).mono ?_); rintro e w7 ⟨rfl, hb⟩; refine ⟨_, rfl, ?_⟩; have n0_ := Aside0.mk (below_step (by repeat (first | (with_reducible first | exact HB.out | apply below_alloc | apply pw_below_drewN | apply below_drew1) | exact HB.out)) hb); clear HB; have HB := n0_; clear n0_; (try clear hb); (try clear hb2); (try clear hk); (try clear hi)))
          go_ret
          exact ⟨by first | rfl | (simp [errW_none, errW_some] <;> rfl) | (simp [*, errW_none, errW_some] <;> rfl), by repeat (first | (with_reducible first | exact HB.out | apply below_alloc | apply pw_below_drewN | apply below_drew1) | exact HB.out)⟩
        · rw [if_neg c6] at H
          exact absurd H (by simp)
      · replace c4 := Bool.eq_false_iff.mpr c4
        subst c4
        have H1 : (if a0 = 0 then (some (⟨#[107, 105, 108, 108]⟩ : ByteArray)) else (if a0 = 196608 then (some (⟨#[116, 114, 97, 112]⟩ : ByteArray)) else (if a0 = 2147221504 then (some (⟨#[108, 111, 103]⟩ : ByteArray)) else (if a0 = 2147418112 then (some (⟨#[97, 108, 108, 111, 119]⟩ : ByteArray)) else (some (⟨#[]⟩ : ByteArray)))))) = some r := by rw [if_neg (show ¬ (false = true) by decide)] at H; exact H
        clear H
        have H := H1
        clear H1
        by_cases c8 : a0 = 0
        · rw [if_pos c8] at H
          have c8b0 : (a0 == 0) = true := beq_iff_eq.mpr c8
          have c8b1 : (a0 != 0) = false := bne_eq_false_iff_eq.mpr c8
          clear c8
          obtain rfl := Option.some.inj H
          go_wp2
          go_ret
          exact ⟨by first | rfl | (simp [errW_none, errW_some] <;> rfl) | (simp [*, errW_none, errW_some] <;> rfl), by repeat (first | (with_reducible first | exact HB.out | apply below_alloc | apply pw_below_drewN | apply below_drew1) | exact HB.out)⟩
        · rw [if_neg c8] at H
          have c8b0 : (a0 == 0) = false := beq_eq_false_iff_ne.mpr c8
          have c8b1 : (a0 != 0) = true := bne_iff_ne.mpr c8
          by_cases c9 : a0 = 196608
          · rw [if_pos c9] at H
            have c9b0 : (a0 == 196608) = true := beq_iff_eq.mpr c9
            have c9b1 : (a0 != 196608) = false := bne_eq_false_iff_eq.mpr c9
            clear c9
            obtain rfl := Option.some.inj H
            go_wp2
            go_ret
            exact ⟨by first | rfl | (simp [errW_none, errW_some] <;> rfl) | (simp [*, errW_none, errW_some] <;> rfl), by repeat (first | (with_reducible first | exact HB.out | apply below_alloc | apply pw_below_drewN | apply below_drew1) | exact HB.out)⟩
          · rw [if_neg c9] at H
            have c9b0 : (a0 == 196608) = false := beq_eq_false_iff_ne.mpr c9
            have c9b1 : (a0 != 196608) = true := bne_iff_ne.mpr c9
            by_cases c10 : a0 = 2147221504
            · rw [if_pos c10] at H
              have c10b0 : (a0 == 2147221504) = true := beq_iff_eq.mpr c10
              have c10b1 : (a0 != 2147221504) = false := bne_eq_false_iff_eq.mpr c10
              clear c10
              obtain rfl := Option.some.inj H
              go_wp2
              go_ret
              exact ⟨by first | rfl | (simp [errW_none, errW_some] <;> rfl) | (simp [*, errW_none, errW_some] <;> rfl), by repeat (first | (with_reducible first | exact HB.out | apply below_alloc | apply pw_below_drewN | apply below_drew1) | exact HB.out)⟩
            · rw [if_neg c10] at H
              have c10b0 : (a0 == 2147221504) = false := beq_eq_false_iff_ne.mpr c10
              have c10b1 : (a0 != 2147221504) = true := bne_iff_ne.mpr c10
              by_cases c11 : a0 = 2147418112
              · rw [if_pos c11] at H
                have c11b0 : (a0 == 2147418112) = true := beq_iff_eq.mpr c11
                have c11b1 : (a0 != 2147418112) = false := bne_eq_false_iff_eq.mpr c11
                clear c11
                obtain rfl := Option.some.inj H
                go_wp2
                go_ret
                exact ⟨by first | rfl | (simp [errW_none, errW_some] <;> rfl) | (simp [*, errW_none, errW_some] <;> rfl), by repeat (first | (with_reducible first | exact HB.out | apply below_alloc | apply pw_below_drewN | apply below_drew1) | exact HB.out)⟩
              · rw [if_neg c11] at H
                have c11b0 : (a0 == 2147418112) = false := beq_eq_false_iff_ne.mpr c11
                have c11b1 : (a0 != 2147418112) = true := bne_iff_ne.mpr c11
                obtain rfl := Option.some.inj H
                go_wp2
                go_ret
                exact ⟨by first | rfl | (simp [errW_none, errW_some] <;> rfl) | (simp [*, errW_none, errW_some] <;> rfl), by repeat (first | (with_reducible first | exact HB.out | apply below_alloc | apply pw_below_drewN | apply below_drew1) | exact HB.out)⟩
def hurdleref08_Right.f (a0_0 : Int) (a0_1 : Int) (a0_2 : Int) (a0_3 : Int) : Option (Bool) := if a0_0 ≥ 0 then (if a0_0 ≤ 5 then (if a0_1 ≥ 0 then (some (decide (a0_1 ≤ 5))) else (some false)) else (some false)) else (some false)
set_option maxHeartbeats 8000000 in
set_option maxRecDepth 100000 in
theorem hurdleref08_Right.calls (a0_0 : Int) (a0_1 : Int) (a0_2 : Int) (a0_3 : Int) (r : Bool) (w : World) (h : hurdleref08_Right.f a0_0 a0_1 a0_2 a0_3 = some r) :
    Calls Try.prog 34 #[.agg #[.int .i64 a0_0, .int .i64 a0_1, .int .u64 a0_2, .int .u64 a0_3]] w fun e w' => e = .returned (.bool r) ∧ Below w.heap.size w w' := by
  have hu61 := Try.underlying61
  have HB := Aside0.mk (Below.refl w.heap.size w)
  have H : (if a0_0 ≥ 0 then (if a0_0 ≤ 5 then (if a0_1 ≥ 0 then (some (decide (a0_1 ≤ 5))) else (some false)) else (some false)) else (some false)) = some r := h
  clear h
  by_cases c2 : a0_0 ≥ 0
  · rw [if_pos c2] at H
    have c2b0 : decide (0 ≤ a0_0) = true := decide_eq_true c2
    clear c2
    by_cases c3 : a0_0 ≤ 5
    · rw [if_pos c3] at H
      have c3b0 : decide (a0_0 ≤ 5) = true := decide_eq_true c3
      clear c3
      by_cases c4 : a0_1 ≥ 0
      · rw [if_pos c4] at H
        have c4b0 : decide (0 ≤ a0_1) = true := decide_eq_true c4
        clear c4
        obtain rfl := Option.some.inj H
        go_enter Try.func34, Try.ntmps34
        go_wp2_with (first | ((with_reducible refine gate_dst (N := 1) rfl ?_); refine box_event ?hg (N := 1) ?hd (cs := #[.int .i64 a0_0, .int .i64 a0_1, .int .u64 a0_2, .int .u64 a0_3]) (t := 61) ?hr ?_; (case hd => rfl); (case hg => rfl); (case hr => first | (go_simp; done) | (go_simp; rfl)); intro gb239 hg w5 hbox hb; have n0_ := Aside0.mk (below_step (by repeat (first | (with_reducible first | exact HB.out | apply below_alloc | apply pw_below_drewN | apply below_drew1) | exact HB.out)) hb); have n1_ := Aside0.mk (hbox); have n2_ := Aside0.mk ((by rw [hg]; exact (below_size (by repeat (first | (with_reducible first | exact HB.out | apply below_alloc | apply pw_below_drewN | apply below_drew1) | exact HB.out))) : w.heap.size ≤ gb239)); have n3_ := Aside0.mk ((by rw [hg]; exact (below_size (by repeat (first | (with_reducible first | exact HB.out | apply below_alloc | apply pw_below_drewN | apply below_drew1) | exact HB.out))) : w.heap.size ≤ gb239)); clear HB; have HB := n0_; have BK239 := n1_; have GW239 := n2_; have GE239 := n3_; clear n0_ n1_ n2_ n3_; clear hb hbox hg; have hcz6_0 : w5.cell? ⟨gb239, 0, none⟩ = some (.int .i64 a0_0) := (blk_cell BK239.out 0).trans rfl; have hcz6_1 : w5.cell? ⟨gb239, 1, none⟩ = some (.int .i64 a0_1) := (blk_cell BK239.out 1).trans rfl; have hcz6_2 : w5.cell? ⟨gb239, 2, none⟩ = some (.int .u64 a0_2) := (blk_cell BK239.out 2).trans rfl; have hcz6_3 : w5.cell? ⟨gb239, 3, none⟩ = some (.int .u64 a0_3) := (blk_cell BK239.out 3).trans rfl; have hfz6_0 := blk_frozen BK239.out 0; have hfz6_1 := blk_frozen BK239.out 1; have hfz6_2 := blk_frozen BK239.out 2; have hfz6_3 := blk_frozen BK239.out 3))
        go_ret
        exact ⟨by first | rfl | (simp [errW_none, errW_some] <;> rfl) | (simp [*, errW_none, errW_some] <;> rfl), by repeat (first | (with_reducible first | exact HB.out | apply below_alloc | apply pw_below_drewN | apply below_drew1 | refine below_set ?_ GE239.out) | exact HB.out)⟩
      · rw [if_neg c4] at H
        have c4b0 : decide (0 ≤ a0_1) = false := decide_eq_false c4
        clear c4
        obtain rfl := Option.some.inj H
        go_enter Try.func34, Try.ntmps34
        go_wp2_with (first | ((with_reducible refine gate_dst (N := 1) rfl ?_); refine box_event ?hg (N := 1) ?hd (cs := #[.int .i64 a0_0, .int .i64 a0_1, .int .u64 a0_2, .int .u64 a0_3]) (t := 61) ?hr ?_; (case hd => rfl); (case hg => rfl); (case hr => first | (go_simp; done) | (go_simp; rfl)); intro gb239 hg w7 hbox hb; have n0_ := Aside0.mk (below_step (by repeat (first | (with_reducible first | exact HB.out | apply below_alloc | apply pw_below_drewN | apply below_drew1) | exact HB.out)) hb); have n1_ := Aside0.mk (hbox); have n2_ := Aside0.mk ((by rw [hg]; exact (below_size (by repeat (first | (with_reducible first | exact HB.out | apply below_alloc | apply pw_below_drewN | apply below_drew1) | exact HB.out))) : w.heap.size ≤ gb239)); have n3_ := Aside0.mk ((by rw [hg]; exact (below_size (by repeat (first | (with_reducible first | exact HB.out | apply below_alloc | apply pw_below_drewN | apply below_drew1) | exact HB.out))) : w.heap.size ≤ gb239)); clear HB; have HB := n0_; have BK239 := n1_; have GW239 := n2_; have GE239 := n3_; clear n0_ n1_ n2_ n3_; clear hb hbox hg; have hcz8_0 : w7.cell? ⟨gb239, 0, none⟩ = some (.int .i64 a0_0) := (blk_cell BK239.out 0).trans rfl; have hcz8_1 : w7.cell? ⟨gb239, 1, none⟩ = some (.int .i64 a0_1) := (blk_cell BK239.out 1).trans rfl; have hcz8_2 : w7.cell? ⟨gb239, 2, none⟩ = some (.int .u64 a0_2) := (blk_cell BK239.out 2).trans rfl; have hcz8_3 : w7.cell? ⟨gb239, 3, none⟩ = some (.int .u64 a0_3) := (blk_cell BK239.out 3).trans rfl; have hfz8_0 := blk_frozen BK239.out 0; have hfz8_1 := blk_frozen BK239.out 1; have hfz8_2 := blk_frozen BK239.out 2; have hfz8_3 := blk_frozen BK239.out 3))
        go_ret
        exact ⟨by first | rfl | (simp [errW_none, errW_some] <;> rfl) | (simp [*, errW_none, errW_some] <;> rfl), by repeat (first | (with_reducible first | exact HB.out | apply below_alloc | apply pw_below_drewN | apply below_drew1 | refine below_set ?_ GE239.out) | exact HB.out)⟩
    · rw [if_neg c3] at H
      have c3b0 : decide (a0_0 ≤ 5) = false := decide_eq_false c3
      clear c3
      obtain rfl := Option.some.inj H
      go_enter Try.func34, Try.ntmps34
      go_wp2_with (first | ((with_reducible refine gate_dst (N := 1) rfl ?_); refine box_event ?hg (N := 1) ?hd (cs := #[.int .i64 a0_0, .int .i64 a0_1, .int .u64 a0_2, .int .u64 a0_3]) (t := 61) ?hr ?_; (case hd => rfl); (case hg => rfl); (case hr => first | (go_simp; done) | (go_simp; rfl)); intro gb239 hg w9 hbox hb; have n0_ := Aside0.mk (below_step (by repeat (first | (with_reducible first | exact HB.out | apply below_alloc | apply pw_below_drewN | apply below_drew1) | exact HB.out)) hb); have n1_ := Aside0.mk (hbox); have n2_ := Aside0.mk ((by rw [hg]; exact (below_size (by repeat (first | (with_reducible first | exact HB.out | apply below_alloc | apply pw_below_drewN | apply below_drew1) | exact HB.out))) : w.heap.size ≤ gb239)); have n3_ := Aside0.mk ((by rw [hg]; exact (below_size (by repeat (first | (with_reducible first | exact HB.out | apply below_alloc | apply pw_below_drewN | apply below_drew1) | exact HB.out))) : w.heap.size ≤ gb239)); clear HB; have HB := n0_; have BK239 := n1_; have GW239 := n2_; have GE239 := n3_; clear n0_ n1_ n2_ n3_; clear hb hbox hg; have hcz10_0 : w9.cell? ⟨gb239, 0, none⟩ = some (.int .i64 a0_0) := (blk_cell BK239.out 0).trans rfl; have hcz10_1 : w9.cell? ⟨gb239, 1, none⟩ = some (.int .i64 a0_1) := (blk_cell BK239.out 1).trans rfl; have hcz10_2 : w9.cell? ⟨gb239, 2, none⟩ = some (.int .u64 a0_2) := (blk_cell BK239.out 2).trans rfl; have hcz10_3 : w9.cell? ⟨gb239, 3, none⟩ = some (.int .u64 a0_3) := (blk_cell BK239.out 3).trans rfl; have hfz10_0 := blk_frozen BK239.out 0; have hfz10_1 := blk_frozen BK239.out 1; have hfz10_2 := blk_frozen BK239.out 2; have hfz10_3 := blk_frozen BK239.out 3))
      go_ret
      exact ⟨by first | rfl | (simp [errW_none, errW_some] <;> rfl) | (simp [*, errW_none, errW_some] <;> rfl), by repeat (first | (with_reducible first | exact HB.out | apply below_alloc | apply pw_below_drewN | apply below_drew1 | refine below_set ?_ GE239.out) | exact HB.out)⟩
  · rw [if_neg c2] at H
    have c2b0 : decide (0 ≤ a0_0) = false := decide_eq_false c2
    clear c2
    obtain rfl := Option.some.inj H
    go_enter Try.func34, Try.ntmps34
    go_wp2_with (first | ((with_reducible refine gate_dst (N := 1) rfl ?_); refine box_event ?hg (N := 1) ?hd (cs := #[.int .i64 a0_0, .int .i64 a0_1, .int .u64 a0_2, .int .u64 a0_3]) (t := 61) ?hr ?_; (case hd => rfl); (case hg => rfl); (case hr => first | (go_simp; done) | (go_simp; rfl)); intro gb239 hg w11 hbox hb; have n0_ := Aside0.mk (below_step (by repeat (first | (with_reducible first | exact HB.out | apply below_alloc | apply pw_below_drewN | apply below_drew1) | exact HB.out)) hb); have n1_ := Aside0.mk (hbox); have n2_ := Aside0.mk ((by rw [hg]; exact (below_size (by repeat (first | (with_reducible first | exact HB.out | apply below_alloc | apply pw_below_drewN | apply below_drew1) | exact HB.out))) : w.heap.size ≤ gb239)); have n3_ := Aside0.mk ((by rw [hg]; exact (below_size (by repeat (first | (with_reducible first | exact HB.out | apply below_alloc | apply pw_below_drewN | apply below_drew1) | exact HB.out))) : w.heap.size ≤ gb239)); clear HB; have HB := n0_; have BK239 := n1_; have GW239 := n2_; have GE239 := n3_; clear n0_ n1_ n2_ n3_; clear hb hbox hg; have hcz12_0 : w11.cell? ⟨gb239, 0, none⟩ = some (.int .i64 a0_0) := (blk_cell BK239.out 0).trans rfl; have hcz12_1 : w11.cell? ⟨gb239, 1, none⟩ = some (.int .i64 a0_1) := (blk_cell BK239.out 1).trans rfl; have hcz12_2 : w11.cell? ⟨gb239, 2, none⟩ = some (.int .u64 a0_2) := (blk_cell BK239.out 2).trans rfl; have hcz12_3 : w11.cell? ⟨gb239, 3, none⟩ = some (.int .u64 a0_3) := (blk_cell BK239.out 3).trans rfl; have hfz12_0 := blk_frozen BK239.out 0; have hfz12_1 := blk_frozen BK239.out 1; have hfz12_2 := blk_frozen BK239.out 2; have hfz12_3 := blk_frozen BK239.out 3))
    go_ret
    exact ⟨by first | rfl | (simp [errW_none, errW_some] <;> rfl) | (simp [*, errW_none, errW_some] <;> rfl), by repeat (first | (with_reducible first | exact HB.out | apply below_alloc | apply pw_below_drewN | apply below_drew1 | refine below_set ?_ GE239.out) | exact HB.out)⟩
end Go.Proofs.Ytekpbgmmogpbdaa.P
set_option linter.unusedVariables false
set_option linter.unusedSimpArgs false
set_option maxRecDepth 100000
namespace Go.Proofs.Ytekpbgmmogpbdaa.H
open Go.RowKit Go.Proofs.Ytekpbgmmogpbdaa.P Go.Proofs.YtekpbgmmogpbdaaW.PrintWords Go.Proofs.YtekpbgmmogpbdaaW.PrintLast Go.Proofs.YtekpbgmmogpbdaaW.PrintMore
attribute [local go_sem] max2_int min2_int max_two min_two max_three min_three max_four min_four
theorem put9 (W : World) (g : Nat) (t : TypeId) (o0 o1 o2 o3 o4 o5 o6 o7 o8 v0 v1 v2 v3 v4 v5 v6 v7 v8 : Value) (h : W.heap[g]? = some (.cells #[o0, o1, o2, o3, o4, o5, o6, o7, o8] t (0, 0))) :
    (((((((((W.setCell ⟨g, 0, none⟩ v0).setCell ⟨g, 1, none⟩ v1).setCell ⟨g, 2, none⟩ v2).setCell ⟨g, 3, none⟩ v3).setCell ⟨g, 4, none⟩ v4).setCell ⟨g, 5, none⟩ v5).setCell ⟨g, 6, none⟩ v6).setCell ⟨g, 7, none⟩ v7).setCell ⟨g, 8, none⟩ v8).heap[g]? = some (.cells #[v0, v1, v2, v3, v4, v5, v6, v7, v8] t (0, 0)) ∧ (∀ k, k ≠ g → (((((((((W.setCell ⟨g, 0, none⟩ v0).setCell ⟨g, 1, none⟩ v1).setCell ⟨g, 2, none⟩ v2).setCell ⟨g, 3, none⟩ v3).setCell ⟨g, 4, none⟩ v4).setCell ⟨g, 5, none⟩ v5).setCell ⟨g, 6, none⟩ v6).setCell ⟨g, 7, none⟩ v7).setCell ⟨g, 8, none⟩ v8).heap[k]? = W.heap[k]?) ∧ ∀ (w : World), Below w.heap.size w W → w.heap.size ≤ g → Below w.heap.size w (((((((((W.setCell ⟨g, 0, none⟩ v0).setCell ⟨g, 1, none⟩ v1).setCell ⟨g, 2, none⟩ v2).setCell ⟨g, 3, none⟩ v3).setCell ⟨g, 4, none⟩ v4).setCell ⟨g, 5, none⟩ v5).setCell ⟨g, 6, none⟩ v6).setCell ⟨g, 7, none⟩ v7).setCell ⟨g, 8, none⟩ v8) := by
  have h0 := blk_put (cs := #[o0, o1, o2, o3, o4, o5, o6, o7, o8]) h 0 v0 rfl
  have h1 := blk_put (cs := #[v0, o1, o2, o3, o4, o5, o6, o7, o8]) h0 1 v1 rfl
  have h2 := blk_put (cs := #[v0, v1, o2, o3, o4, o5, o6, o7, o8]) h1 2 v2 rfl
  have h3 := blk_put (cs := #[v0, v1, v2, o3, o4, o5, o6, o7, o8]) h2 3 v3 rfl
  have h4 := blk_put (cs := #[v0, v1, v2, v3, o4, o5, o6, o7, o8]) h3 4 v4 rfl
  have h5 := blk_put (cs := #[v0, v1, v2, v3, v4, o5, o6, o7, o8]) h4 5 v5 rfl
  have h6 := blk_put (cs := #[v0, v1, v2, v3, v4, v5, o6, o7, o8]) h5 6 v6 rfl
  have h7 := blk_put (cs := #[v0, v1, v2, v3, v4, v5, v6, o7, o8]) h6 7 v7 rfl
  have h8 := blk_put (cs := #[v0, v1, v2, v3, v4, v5, v6, v7, o8]) h7 8 v8 rfl
  refine ⟨h8, fun k hk => ?_, fun w hb hg => ?_⟩
  · simp only [heap_setCell_other _ ⟨g, _, none⟩ k _ hk]
  · exact (below_set (below_set (below_set (below_set (below_set (below_set (below_set (below_set (below_set hb hg) hg) hg) hg) hg) hg) hg) hg) hg)
theorem kn_polOk : polOk knL 0 := (parse_only kn1_parse).2.2.1
theorem kn_polB : polB knL 0 = true := (polOk_iff (polOk_K kn_polOk)).2 kn_polOk
theorem kn_ags (x : Int) (h : 0 ≤ x ∧ x < 18446744073709551616) : IsDat 1 3221225534 0 [x, 0, 0, 0, 0, 0] := ⟨rfl, by decide, by decide, by decide, fun k => by
  match k with
  | 0 => exact h
  | 1 | 2 | 3 | 4 | 5 => exact ⟨Int.le_refl _, by show (0 : Int) < _; omega⟩
  | k + 6 => exact ⟨by simp, by simp⟩⟩
set_option maxRecDepth 100000 in
theorem kn_j1 : judgeR knL 0 1 3221225534 [1099511627777, 0, 0, 0, 0, 0] = (2147418112, 0) := by unfold judgeR; rw [if_pos kn_polB]; kernel_rfl
set_option maxRecDepth 100000 in
theorem kn_j2 : judgeR knL 0 1 3221225534 [2, 0, 0, 0, 0, 0] = (0, 0) := by unfold judgeR; rw [if_pos kn_polB]; kernel_rfl
set_option maxRecDepth 100000 in
theorem kn_f2 : firstR knL 0 1 3221225534 [2, 0, 0, 0, 0, 0] = (-1, 0) := by unfold firstR; rw [if_pos kn_polB]; kernel_rfl
set_option maxHeartbeats 8000000 in
theorem Knows11 : Gives Try.prog 23 #[] (.bool true) := by
  intro w
  have hcl : ∀ x ∈ knL, x.f2.length ≤ 1000 := by intro x hx; have := (kn_polOk.2.1 x hx).2.2.2.1; omega
  have HPA : Aside0 (∀ W : World, Calls Try.prog 20 #[.string (⟨#[111, 110, 32, 120, 54, 52, 32, 119, 114, 105, 116, 101, 32, 97, 108, 108, 111, 119, 32, 105, 102, 32, 97, 48, 32, 48, 120, 102, 102, 102, 102, 102, 102, 102, 102, 32, 101, 113, 32, 48, 120, 49, 10, 100, 101, 102, 97, 117, 108, 116, 32, 107, 105, 108, 108, 10]⟩ : ByteArray)] W fun e w' => ∃ v : Value, e = .returned (.tuple #[.agg #[v, .int .u32 0], .int .i64 0, .int .i64 0]) ∧ Kd.S k40 40 w' W.heap.size (fun _ => True) v knL ∧ Below W.heap.size W w') := ⟨fun W => policy_Parse.calls (⟨#[111, 110, 32, 120, 54, 52, 32, 119, 114, 105, 116, 101, 32, 97, 108, 108, 111, 119, 32, 105, 102, 32, 97, 48, 32, 48, 120, 102, 102, 102, 102, 102, 102, 102, 102, 32, 101, 113, 32, 48, 120, 49, 10, 100, 101, 102, 97, 117, 108, 116, 32, 107, 105, 108, 108, 10]⟩ : ByteArray) knL 0 0 0 W (by rw [parse_f _ (by decide), ← kn1_parse]; rfl)⟩
  have HJ1 : Aside0 (∀ (A : Option Addr) (c : Nat) (W : World), knL.length ≤ c → k40.C W A knL.length knL → Calls Try.prog 25 #[.agg #[.slice A knL.length c, .int .u32 0], .agg #[.int .u32 1, .int .u32 3221225534, .int .u64 0, .int .u64 1099511627777, .int .u64 0, .int .u64 0, .int .u64 0, .int .u64 0, .int .u64 0]] W fun e w' => e = .returned (.tuple #[.int .u32 2147418112, .int .i64 0]) ∧ Below W.heap.size W w') := ⟨fun A c W hc hC => by
    have := Judge_lit A c knL 0 1 3221225534 0 1099511627777 0 0 0 0 0 (kn_ags _ (by decide)) (polOk_K kn_polOk) (by decide) hcl hc W hC
    rw [kn_j1] at this; exact this⟩
  have HJ2 : Aside0 (∀ (A : Option Addr) (c : Nat) (W : World), knL.length ≤ c → k40.C W A knL.length knL → Calls Try.prog 25 #[.agg #[.slice A knL.length c, .int .u32 0], .agg #[.int .u32 1, .int .u32 3221225534, .int .u64 0, .int .u64 2, .int .u64 0, .int .u64 0, .int .u64 0, .int .u64 0, .int .u64 0]] W fun e w' => e = .returned (.tuple #[.int .u32 0, .int .i64 0]) ∧ Below W.heap.size W w') := ⟨fun A c W hc hC => by
    have := Judge_lit A c knL 0 1 3221225534 0 2 0 0 0 0 0 (kn_ags _ (by decide)) (polOk_K kn_polOk) (by decide) hcl hc W hC
    rw [kn_j2] at this; exact this⟩
  have HF2 : Aside0 (∀ (A : Option Addr) (c : Nat) (W : World), knL.length ≤ c → k40.C W A knL.length knL → Calls Try.prog 24 #[.agg #[.slice A knL.length c, .int .u32 0], .agg #[.int .u32 1, .int .u32 3221225534, .int .u64 0, .int .u64 2, .int .u64 0, .int .u64 0, .int .u64 0, .int .u64 0, .int .u64 0]] W fun e w' => e = .returned (.tuple #[.int .i64 (-1), .int .i64 0]) ∧ Below W.heap.size W w') := ⟨fun A c W hc hC => by
    have := First_lit A c knL 0 1 3221225534 0 2 0 0 0 0 0 (kn_ags _ (by decide)) (polOk_K kn_polOk) (by decide) hcl hc W hC
    rw [kn_f2] at this; exact this⟩
  clear hcl
  obtain ⟨L, hL⟩ : ∃ L, knL = L := ⟨_, rfl⟩
  rw [hL] at HPA HJ1 HJ2 HF2
  clear hL
  go_enter Try.func23, Try.ntmps23
  go_wp2_with (first | ((with_reducible refine gate_callee (f := 20) rfl ?_); refine goesL_ (some 12) rfl rfl Try.func20 (by kernel_rfl) rfl #[.string (⟨#[111, 110, 32, 120, 54, 52, 32, 119, 114, 105, 116, 101, 32, 97, 108, 108, 111, 119, 32, 105, 102, 32, 97, 48, 32, 48, 120, 102, 102, 102, 102, 102, 102, 102, 102, 32, 101, 113, 32, 48, 120, 49, 10, 100, 101, 102, 97, 117, 108, 116, 32, 107, 105, 108, 108, 10]⟩ : ByteArray)] rfl (by (try simp only [List.map_toArray, List.map_cons, List.map_nil]); first | done | rfl | (simp only [List.length_drop, List.length_take]; rfl)) ?_; (refine (HPA.out _).mono ?_); rintro e w1 ⟨v, rfl, ho, hb⟩; refine ⟨_, rfl, ?_⟩; obtain ⟨A, c, ev⟩ := Kd.S_slice ho; subst ev; have HB := Aside0.mk hb; have HS := Aside0.mk ho; clear ho hb) | ((with_reducible refine gate_dst (N := 1) rfl ?_); (try (refine gate_guard (by rfl) ?_; dsimp only)); refine box_event ?hg (N := 1) ?hd (cs := #[.slice none 0 0, .int .u32 0]) (t := 25) ?hr ?_; (case hd => rfl); (case hg => rfl); (case hr => first | (go_simp; done) | (go_simp; rfl)); intro gp hgx w2 hbox hbx; have n0_ := Aside0.mk (below_step HB.out hbx); have n1_ := Aside0.mk hbox; have n2_ := Aside0.mk (Kd.S_below HS.out hbx); have GEP : Aside0 (w.heap.size ≤ gp) := ⟨by rw [hgx]; exact (below_size HB.out)⟩; clear HB HS hbx hbox hgx; have HB := n0_; have BKP := n1_; have HS := n2_; clear n0_ n1_ n2_; have hx0 : w2.cell? ⟨gp, 0, none⟩ = some (.slice none 0 0) := (blk_cell BKP.out 0).trans rfl; have hx1 : w2.cell? ⟨gp, 1, none⟩ = some (.int .u32 0) := (blk_cell BKP.out 1).trans rfl; have hfx0 := blk_frozen BKP.out 0; have hfx1 := blk_frozen BKP.out 1) | ((with_reducible refine gate_store (t := 25) (p := 1) rfl ?_); refine store_event (t := 25) (p := 1) (v := ?vo_w3) (w1 := ((w2.setCell ⟨gp, 0, none⟩ (.slice A L.length c)).setCell ⟨gp, 1, none⟩ (.int .u32 0))) ?hg ?ho ?hn ?hr ?_; (case ho => rfl); (case hg => rfl); (case hn => rfl); (case hr => first | (go_simp; done) | (go_simp; rfl)); intro w3 hw; have n0_ : Aside0 (Below w.heap.size w w3) := ⟨by rw [hw]; exact (below_set (below_set HB.out GEP.out) GEP.out)⟩; have n1_ : Aside0 (w3.heap[gp]? = some (.cells #[.slice A L.length c, .int .u32 0] 25 (0, 0))) := ⟨by rw [hw]; exact (blk_put (cs := #[.slice A L.length c, .int .u32 0]) (blk_put (cs := #[.slice none 0 0, .int .u32 0]) BKP.out 0 _ rfl) 1 _ rfl)⟩; have n2_ : Aside0 (Kd.S k40 40 w3 w.heap.size (fun _ => True) (.slice A L.length c) L) := ⟨by rw [hw]; exact (Kd.S_set (Kd.S_set HS.out BKP.out (by decide) 0 (.slice A L.length c)) (blk_put (cs := #[.slice none 0 0, .int .u32 0]) BKP.out 0 _ rfl) (by decide) 1 (.int .u32 0))⟩; clear hw HB HS BKP; have HB := n0_; have BKP := n1_; have HS := n2_; clear n0_ n1_ n2_; clear hx0 hx1 hfx0 hfx1) | ((with_reducible refine gate_dst (N := 4) rfl ?_); (try (refine gate_guard (by rfl) ?_; dsimp only)); refine box_event ?hg (N := 4) ?hd (cs := #[.int .u32 0, .int .u32 0, .int .u64 0, .int .u64 0, .int .u64 0, .int .u64 0, .int .u64 0, .int .u64 0, .int .u64 0]) (t := 44) ?hr ?_; (case hd => rfl); (case hg => rfl); (case hr => first | (go_simp; done) | (go_simp; rfl)); intro gd hgx w4 hbox hbx; have n0_ := Aside0.mk (below_step HB.out hbx); have n1_ := Aside0.mk hbox; have n2_ := Aside0.mk (Kd.S_below HS.out hbx); have n3_ := Aside0.mk (blk_below BKP.out hbx); have GED : Aside0 (w.heap.size ≤ gd) := ⟨by rw [hgx]; exact (below_size HB.out)⟩; have NPD : Aside0 (gp ≠ gd) := ⟨by rw [hgx]; exact Nat.ne_of_lt (blk_lt BKP.out)⟩; clear HB HS BKP hbx hbox hgx; have HB := n0_; have BKD := n1_; have HS := n2_; have BKP := n3_; clear n0_ n1_ n2_ n3_; have hd0 : w4.cell? ⟨gd, 0, none⟩ = some (.int .u32 0) := (blk_cell BKD.out 0).trans rfl; have hd1 : w4.cell? ⟨gd, 1, none⟩ = some (.int .u32 0) := (blk_cell BKD.out 1).trans rfl; have hd2 : w4.cell? ⟨gd, 2, none⟩ = some (.int .u64 0) := (blk_cell BKD.out 2).trans rfl; have hd3 : w4.cell? ⟨gd, 3, none⟩ = some (.int .u64 0) := (blk_cell BKD.out 3).trans rfl; have hd4 : w4.cell? ⟨gd, 4, none⟩ = some (.int .u64 0) := (blk_cell BKD.out 4).trans rfl; have hd5 : w4.cell? ⟨gd, 5, none⟩ = some (.int .u64 0) := (blk_cell BKD.out 5).trans rfl; have hd6 : w4.cell? ⟨gd, 6, none⟩ = some (.int .u64 0) := (blk_cell BKD.out 6).trans rfl; have hd7 : w4.cell? ⟨gd, 7, none⟩ = some (.int .u64 0) := (blk_cell BKD.out 7).trans rfl; have hd8 : w4.cell? ⟨gd, 8, none⟩ = some (.int .u64 0) := (blk_cell BKD.out 8).trans rfl; have hfd0 := blk_frozen BKD.out 0; have hfd1 := blk_frozen BKD.out 1; have hfd2 := blk_frozen BKD.out 2; have hfd3 := blk_frozen BKD.out 3; have hfd4 := blk_frozen BKD.out 4; have hfd5 := blk_frozen BKD.out 5; have hfd6 := blk_frozen BKD.out 6; have hfd7 := blk_frozen BKD.out 7; have hfd8 := blk_frozen BKD.out 8) | ((with_reducible refine gate_store (t := 44) (p := 4) rfl ?_); refine store_event (t := 44) (p := 4) (v := ?vo_w5) (w1 := (((((((((w4.setCell ⟨gd, 0, none⟩ (.int .u32 1)).setCell ⟨gd, 1, none⟩ (.int .u32 3221225534)).setCell ⟨gd, 2, none⟩ (.int .u64 0)).setCell ⟨gd, 3, none⟩ (.int .u64 0)).setCell ⟨gd, 4, none⟩ (.int .u64 0)).setCell ⟨gd, 5, none⟩ (.int .u64 0)).setCell ⟨gd, 6, none⟩ (.int .u64 0)).setCell ⟨gd, 7, none⟩ (.int .u64 0)).setCell ⟨gd, 8, none⟩ (.int .u64 0))) ?hg ?ho ?hn ?hr ?_; (case ho => rfl); (case hg => rfl); (case hn => rfl); (case hr => first | (go_simp; done) | (go_simp; rfl)); intro w5 hw; obtain ⟨q1, q2, q3⟩ := put9 w4 gd 44 (.int .u32 0) (.int .u32 0) (.int .u64 0) (.int .u64 0) (.int .u64 0) (.int .u64 0) (.int .u64 0) (.int .u64 0) (.int .u64 0) (.int .u32 1) (.int .u32 3221225534) (.int .u64 0) (.int .u64 0) (.int .u64 0) (.int .u64 0) (.int .u64 0) (.int .u64 0) (.int .u64 0) BKD.out; rw [← hw] at q1 q2 q3; clear hw; have n0_ := Aside0.mk (q3 _ HB.out GED.out); have n1_ := Aside0.mk q1; have n2_ : Aside0 (Kd.S k40 40 w5 w.heap.size (fun _ => True) (.slice A L.length c) L) := ⟨Kd.S_mono (Kd.S_step (Kd.S_types HS.out BKD.out (by decide)) (fun k hk _ => q2 k hk.2)) (fun _ _ => trivial)⟩; have n3_ := Aside0.mk ((q2 gp NPD.out).trans BKP.out); clear HB HS BKD BKP q1 q2 q3; have HB := n0_; have BKD := n1_; have HS := n2_; have BKP := n3_; clear n0_ n1_ n2_ n3_; clear hd0 hd1 hd2 hd3 hd4 hd5 hd6 hd7 hd8 hfd0 hfd1 hfd2 hfd3 hfd4 hfd5 hfd6 hfd7 hfd8; have hd0 : w5.cell? ⟨gd, 0, none⟩ = some (.int .u32 1) := (blk_cell BKD.out 0).trans rfl; have hd1 : w5.cell? ⟨gd, 1, none⟩ = some (.int .u32 3221225534) := (blk_cell BKD.out 1).trans rfl; have hd2 : w5.cell? ⟨gd, 2, none⟩ = some (.int .u64 0) := (blk_cell BKD.out 2).trans rfl; have hd3 : w5.cell? ⟨gd, 3, none⟩ = some (.int .u64 0) := (blk_cell BKD.out 3).trans rfl; have hd4 : w5.cell? ⟨gd, 4, none⟩ = some (.int .u64 0) := (blk_cell BKD.out 4).trans rfl; have hd5 : w5.cell? ⟨gd, 5, none⟩ = some (.int .u64 0) := (blk_cell BKD.out 5).trans rfl; have hd6 : w5.cell? ⟨gd, 6, none⟩ = some (.int .u64 0) := (blk_cell BKD.out 6).trans rfl; have hd7 : w5.cell? ⟨gd, 7, none⟩ = some (.int .u64 0) := (blk_cell BKD.out 7).trans rfl; have hd8 : w5.cell? ⟨gd, 8, none⟩ = some (.int .u64 0) := (blk_cell BKD.out 8).trans rfl; have hfd3 : w5.frozen? ⟨gd, 3, none⟩ = false := blk_frozen BKD.out 3) | ((with_reducible refine gate_store (t := 41) (p := 18) rfl ?_); refine store_event (t := 41) (p := 18) (v := ?vo_w6) (w1 := w5.setCell ⟨gd, 3, none⟩ (.int .u64 1099511627777)) ?hg ?ho ?hn ?hr ?_; (case ho => rfl); (case hg => rfl); (case hn => rfl); (case hr => first | (go_simp; done) | (go_simp; rfl)); intro w6 hw; have n0_ : Aside0 (Below w.heap.size w w6) := ⟨by rw [hw]; exact below_set HB.out GED.out⟩; have n1_ : Aside0 (w6.heap[gd]? = some (.cells #[.int .u32 1, .int .u32 3221225534, .int .u64 0, .int .u64 1099511627777, .int .u64 0, .int .u64 0, .int .u64 0, .int .u64 0, .int .u64 0] 44 (0, 0))) := ⟨by rw [hw]; exact blk_put (cs := #[.int .u32 1, .int .u32 3221225534, .int .u64 0, .int .u64 0, .int .u64 0, .int .u64 0, .int .u64 0, .int .u64 0, .int .u64 0]) BKD.out 3 _ rfl⟩; have n2_ : Aside0 (Kd.S k40 40 w6 w.heap.size (fun _ => True) (.slice A L.length c) L) := ⟨by rw [hw]; exact Kd.S_set HS.out BKD.out (by decide) 3 _⟩; have n3_ : Aside0 (w6.heap[gp]? = some (.cells #[.slice A L.length c, .int .u32 0] 25 (0, 0))) := ⟨by rw [hw]; exact (blk_far BKP.out NPD.out _)⟩; clear BKP; have BKP := n3_; clear n3_; clear hw HB HS BKD hd0 hd1 hd2 hd3 hd4 hd5 hd6 hd7 hd8 hfd3; have HB := n0_; have BKD := n1_; have HS := n2_; clear n0_ n1_ n2_; (try clear hx0 hx1); have hd0 : w6.cell? ⟨gd, 0, none⟩ = some (.int .u32 1) := (blk_cell BKD.out 0).trans rfl; have hd1 : w6.cell? ⟨gd, 1, none⟩ = some (.int .u32 3221225534) := (blk_cell BKD.out 1).trans rfl; have hd2 : w6.cell? ⟨gd, 2, none⟩ = some (.int .u64 0) := (blk_cell BKD.out 2).trans rfl; have hd3 : w6.cell? ⟨gd, 3, none⟩ = some (.int .u64 1099511627777) := (blk_cell BKD.out 3).trans rfl; have hd4 : w6.cell? ⟨gd, 4, none⟩ = some (.int .u64 0) := (blk_cell BKD.out 4).trans rfl; have hd5 : w6.cell? ⟨gd, 5, none⟩ = some (.int .u64 0) := (blk_cell BKD.out 5).trans rfl; have hd6 : w6.cell? ⟨gd, 6, none⟩ = some (.int .u64 0) := (blk_cell BKD.out 6).trans rfl; have hd7 : w6.cell? ⟨gd, 7, none⟩ = some (.int .u64 0) := (blk_cell BKD.out 7).trans rfl; have hd8 : w6.cell? ⟨gd, 8, none⟩ = some (.int .u64 0) := (blk_cell BKD.out 8).trans rfl; have hx0 : w6.cell? ⟨gp, 0, none⟩ = some (.slice A L.length c) := (blk_cell BKP.out 0).trans rfl; have hx1 : w6.cell? ⟨gp, 1, none⟩ = some (.int .u32 0) := (blk_cell BKP.out 1).trans rfl; have hfd3 : w6.frozen? ⟨gd, 3, none⟩ = false := blk_frozen BKD.out 3) | ((with_reducible refine gate_callee (f := 25) rfl ?_); refine goesL_ (some 22) rfl rfl Try.func25 (by kernel_rfl) rfl #[.agg #[.slice A L.length c, .int .u32 0], .agg #[.int .u32 1, .int .u32 3221225534, .int .u64 0, .int .u64 1099511627777, .int .u64 0, .int .u64 0, .int .u64 0, .int .u64 0, .int .u64 0]] rfl (by (try simp only [List.map_toArray, List.map_cons, List.map_nil]); first | done | rfl | (simp only [List.length_drop, List.length_take]; rfl)) ?_; (refine (HJ1.out _ _ _ (Kd.S_reads' HS.out).2.1 (Kd.S_reads' HS.out).2.2).mono ?_); rintro e w7 ⟨rfl, hb⟩; refine ⟨_, rfl, ?_⟩; have n0_ := Aside0.mk (below_step HB.out hb); have n1_ := Aside0.mk (blk_below BKD.out hb); have n2_ := Aside0.mk (Kd.S_below HS.out hb); have n3_ := Aside0.mk (blk_below BKP.out hb); clear HB HS BKD BKP hb hd0 hd1 hd2 hd3 hd4 hd5 hd6 hd7 hd8 hx0 hx1 hfd3; have HB := n0_; have BKD := n1_; have HS := n2_; have BKP := n3_; clear n0_ n1_ n2_ n3_; have hd0 : w7.cell? ⟨gd, 0, none⟩ = some (.int .u32 1) := (blk_cell BKD.out 0).trans rfl; have hd1 : w7.cell? ⟨gd, 1, none⟩ = some (.int .u32 3221225534) := (blk_cell BKD.out 1).trans rfl; have hd2 : w7.cell? ⟨gd, 2, none⟩ = some (.int .u64 0) := (blk_cell BKD.out 2).trans rfl; have hd3 : w7.cell? ⟨gd, 3, none⟩ = some (.int .u64 1099511627777) := (blk_cell BKD.out 3).trans rfl; have hd4 : w7.cell? ⟨gd, 4, none⟩ = some (.int .u64 0) := (blk_cell BKD.out 4).trans rfl; have hd5 : w7.cell? ⟨gd, 5, none⟩ = some (.int .u64 0) := (blk_cell BKD.out 5).trans rfl; have hd6 : w7.cell? ⟨gd, 6, none⟩ = some (.int .u64 0) := (blk_cell BKD.out 6).trans rfl; have hd7 : w7.cell? ⟨gd, 7, none⟩ = some (.int .u64 0) := (blk_cell BKD.out 7).trans rfl; have hd8 : w7.cell? ⟨gd, 8, none⟩ = some (.int .u64 0) := (blk_cell BKD.out 8).trans rfl; have hx0 : w7.cell? ⟨gp, 0, none⟩ = some (.slice A L.length c) := (blk_cell BKP.out 0).trans rfl; have hx1 : w7.cell? ⟨gp, 1, none⟩ = some (.int .u32 0) := (blk_cell BKP.out 1).trans rfl; have hfd3 : w7.frozen? ⟨gd, 3, none⟩ = false := blk_frozen BKD.out 3) | ((with_reducible refine gate_store (t := 41) (p := 26) rfl ?_); refine store_event (t := 41) (p := 26) (v := ?vo_w8) (w1 := w7.setCell ⟨gd, 3, none⟩ (.int .u64 2)) ?hg ?ho ?hn ?hr ?_; (case ho => rfl); (case hg => rfl); (case hn => rfl); (case hr => first | (go_simp; done) | (go_simp; rfl)); intro w8 hw; have n0_ : Aside0 (Below w.heap.size w w8) := ⟨by rw [hw]; exact below_set HB.out GED.out⟩; have n1_ : Aside0 (w8.heap[gd]? = some (.cells #[.int .u32 1, .int .u32 3221225534, .int .u64 0, .int .u64 2, .int .u64 0, .int .u64 0, .int .u64 0, .int .u64 0, .int .u64 0] 44 (0, 0))) := ⟨by rw [hw]; exact blk_put (cs := #[.int .u32 1, .int .u32 3221225534, .int .u64 0, .int .u64 1099511627777, .int .u64 0, .int .u64 0, .int .u64 0, .int .u64 0, .int .u64 0]) BKD.out 3 _ rfl⟩; have n2_ : Aside0 (Kd.S k40 40 w8 w.heap.size (fun _ => True) (.slice A L.length c) L) := ⟨by rw [hw]; exact Kd.S_set HS.out BKD.out (by decide) 3 _⟩; have n3_ : Aside0 (w8.heap[gp]? = some (.cells #[.slice A L.length c, .int .u32 0] 25 (0, 0))) := ⟨by rw [hw]; exact (blk_far BKP.out NPD.out _)⟩; clear BKP; have BKP := n3_; clear n3_; clear hw HB HS BKD hd0 hd1 hd2 hd3 hd4 hd5 hd6 hd7 hd8 hfd3; have HB := n0_; have BKD := n1_; have HS := n2_; clear n0_ n1_ n2_; (try clear hx0 hx1); have hd0 : w8.cell? ⟨gd, 0, none⟩ = some (.int .u32 1) := (blk_cell BKD.out 0).trans rfl; have hd1 : w8.cell? ⟨gd, 1, none⟩ = some (.int .u32 3221225534) := (blk_cell BKD.out 1).trans rfl; have hd2 : w8.cell? ⟨gd, 2, none⟩ = some (.int .u64 0) := (blk_cell BKD.out 2).trans rfl; have hd3 : w8.cell? ⟨gd, 3, none⟩ = some (.int .u64 2) := (blk_cell BKD.out 3).trans rfl; have hd4 : w8.cell? ⟨gd, 4, none⟩ = some (.int .u64 0) := (blk_cell BKD.out 4).trans rfl; have hd5 : w8.cell? ⟨gd, 5, none⟩ = some (.int .u64 0) := (blk_cell BKD.out 5).trans rfl; have hd6 : w8.cell? ⟨gd, 6, none⟩ = some (.int .u64 0) := (blk_cell BKD.out 6).trans rfl; have hd7 : w8.cell? ⟨gd, 7, none⟩ = some (.int .u64 0) := (blk_cell BKD.out 7).trans rfl; have hd8 : w8.cell? ⟨gd, 8, none⟩ = some (.int .u64 0) := (blk_cell BKD.out 8).trans rfl; have hx0 : w8.cell? ⟨gp, 0, none⟩ = some (.slice A L.length c) := (blk_cell BKP.out 0).trans rfl; have hx1 : w8.cell? ⟨gp, 1, none⟩ = some (.int .u32 0) := (blk_cell BKP.out 1).trans rfl; have hfd3 : w8.frozen? ⟨gd, 3, none⟩ = false := blk_frozen BKD.out 3) | ((with_reducible refine gate_callee (f := 25) rfl ?_); refine goesL_ (some 30) rfl rfl Try.func25 (by kernel_rfl) rfl #[.agg #[.slice A L.length c, .int .u32 0], .agg #[.int .u32 1, .int .u32 3221225534, .int .u64 0, .int .u64 2, .int .u64 0, .int .u64 0, .int .u64 0, .int .u64 0, .int .u64 0]] rfl (by (try simp only [List.map_toArray, List.map_cons, List.map_nil]); first | done | rfl | (simp only [List.length_drop, List.length_take]; rfl)) ?_; (refine (HJ2.out _ _ _ (Kd.S_reads' HS.out).2.1 (Kd.S_reads' HS.out).2.2).mono ?_); rintro e w9 ⟨rfl, hb⟩; refine ⟨_, rfl, ?_⟩; have n0_ := Aside0.mk (below_step HB.out hb); have n1_ := Aside0.mk (blk_below BKD.out hb); have n2_ := Aside0.mk (Kd.S_below HS.out hb); have n3_ := Aside0.mk (blk_below BKP.out hb); clear HB HS BKD BKP hb hd0 hd1 hd2 hd3 hd4 hd5 hd6 hd7 hd8 hx0 hx1 hfd3; have HB := n0_; have BKD := n1_; have HS := n2_; have BKP := n3_; clear n0_ n1_ n2_ n3_; have hd0 : w9.cell? ⟨gd, 0, none⟩ = some (.int .u32 1) := (blk_cell BKD.out 0).trans rfl; have hd1 : w9.cell? ⟨gd, 1, none⟩ = some (.int .u32 3221225534) := (blk_cell BKD.out 1).trans rfl; have hd2 : w9.cell? ⟨gd, 2, none⟩ = some (.int .u64 0) := (blk_cell BKD.out 2).trans rfl; have hd3 : w9.cell? ⟨gd, 3, none⟩ = some (.int .u64 2) := (blk_cell BKD.out 3).trans rfl; have hd4 : w9.cell? ⟨gd, 4, none⟩ = some (.int .u64 0) := (blk_cell BKD.out 4).trans rfl; have hd5 : w9.cell? ⟨gd, 5, none⟩ = some (.int .u64 0) := (blk_cell BKD.out 5).trans rfl; have hd6 : w9.cell? ⟨gd, 6, none⟩ = some (.int .u64 0) := (blk_cell BKD.out 6).trans rfl; have hd7 : w9.cell? ⟨gd, 7, none⟩ = some (.int .u64 0) := (blk_cell BKD.out 7).trans rfl; have hd8 : w9.cell? ⟨gd, 8, none⟩ = some (.int .u64 0) := (blk_cell BKD.out 8).trans rfl; have hx0 : w9.cell? ⟨gp, 0, none⟩ = some (.slice A L.length c) := (blk_cell BKP.out 0).trans rfl; have hx1 : w9.cell? ⟨gp, 1, none⟩ = some (.int .u32 0) := (blk_cell BKP.out 1).trans rfl; have hfd3 : w9.frozen? ⟨gd, 3, none⟩ = false := blk_frozen BKD.out 3) | ((with_reducible refine gate_callee (f := 24) rfl ?_); refine goesL_ (some 36) rfl rfl Try.func24 (by kernel_rfl) rfl #[.agg #[.slice A L.length c, .int .u32 0], .agg #[.int .u32 1, .int .u32 3221225534, .int .u64 0, .int .u64 2, .int .u64 0, .int .u64 0, .int .u64 0, .int .u64 0, .int .u64 0]] rfl (by (try simp only [List.map_toArray, List.map_cons, List.map_nil]); first | done | rfl | (simp only [List.length_drop, List.length_take]; rfl)) ?_; (refine (HF2.out _ _ _ (Kd.S_reads' HS.out).2.1 (Kd.S_reads' HS.out).2.2).mono ?_); rintro e w10 ⟨rfl, hb⟩; refine ⟨_, rfl, ?_⟩; have n0_ := Aside0.mk (below_step HB.out hb); have n1_ := Aside0.mk (blk_below BKD.out hb); have n2_ := Aside0.mk (Kd.S_below HS.out hb); have n3_ := Aside0.mk (blk_below BKP.out hb); clear HB HS BKD BKP hb hd0 hd1 hd2 hd3 hd4 hd5 hd6 hd7 hd8 hx0 hx1 hfd3; have HB := n0_; have BKD := n1_; have HS := n2_; have BKP := n3_; clear n0_ n1_ n2_ n3_; have hd0 : w10.cell? ⟨gd, 0, none⟩ = some (.int .u32 1) := (blk_cell BKD.out 0).trans rfl; have hd1 : w10.cell? ⟨gd, 1, none⟩ = some (.int .u32 3221225534) := (blk_cell BKD.out 1).trans rfl; have hd2 : w10.cell? ⟨gd, 2, none⟩ = some (.int .u64 0) := (blk_cell BKD.out 2).trans rfl; have hd3 : w10.cell? ⟨gd, 3, none⟩ = some (.int .u64 2) := (blk_cell BKD.out 3).trans rfl; have hd4 : w10.cell? ⟨gd, 4, none⟩ = some (.int .u64 0) := (blk_cell BKD.out 4).trans rfl; have hd5 : w10.cell? ⟨gd, 5, none⟩ = some (.int .u64 0) := (blk_cell BKD.out 5).trans rfl; have hd6 : w10.cell? ⟨gd, 6, none⟩ = some (.int .u64 0) := (blk_cell BKD.out 6).trans rfl; have hd7 : w10.cell? ⟨gd, 7, none⟩ = some (.int .u64 0) := (blk_cell BKD.out 7).trans rfl; have hd8 : w10.cell? ⟨gd, 8, none⟩ = some (.int .u64 0) := (blk_cell BKD.out 8).trans rfl; have hx0 : w10.cell? ⟨gp, 0, none⟩ = some (.slice A L.length c) := (blk_cell BKP.out 0).trans rfl; have hx1 : w10.cell? ⟨gp, 1, none⟩ = some (.int .u32 0) := (blk_cell BKP.out 1).trans rfl; have hfd3 : w10.frozen? ⟨gd, 3, none⟩ = false := blk_frozen BKD.out 3))
  go_ret
  exact ⟨rfl, HB.out⟩
end Go.Proofs.Ytekpbgmmogpbdaa.H
set_option linter.unusedVariables false
set_option linter.unusedSimpArgs false
set_option maxRecDepth 100000
namespace Go.Proofs.Ytekpbgmmogpbdaa.H
open Go.RowKit Go.Proofs.Ytekpbgmmogpbdaa.P Go.Proofs.YtekpbgmmogpbdaaW.PrintWords
def greatB (L : List S40) : Bool := L.any (fun x => decide (20 < x.f2.length)) || decide (100 < L.length)
theorem great_l0 (df : Int) (L : List S40) (hl : L.length ≤ 9223372036854775807) : ∀ (d i : Nat), i + d = L.length →
    Ev (fun k => hurdlelaw10_Great.l0 k (i : Int) L df) ((L.drop i).any (fun x => decide (20 < x.f2.length)) || decide (100 < L.length)) := by
  intro d
  induction d with
  | zero =>
    intro i hi
    refine Ev.step (f := fun _ => some (decide ((L.length : Int) > 100))) (fun k => ?_) ?_
    · simp only [hurdlelaw10_Great.l0]
      rw [if_neg (by omega)]
    · rw [List.drop_eq_nil_of_le (by omega), List.any_nil, Bool.false_or, show decide ((L.length : Int) > 100) = decide (100 < L.length) from decide_eq_decide.2 (by omega)]
      exact Ev.now _
  | succ d ih =>
    intro i hi
    have hlt : i < L.length := by omega
    have hd : L.drop i = L[i] :: L.drop (i + 1) := List.drop_eq_getElem_cons hlt
    by_cases hr : 20 < L[i].f2.length
    · refine Ev.step (f := fun _ => some true) (fun k => ?_) ?_
      · simp only [hurdlelaw10_Great.l0]
        rw [if_pos (by omega), if_pos (by omega), rd40 L i hlt, if_pos (by omega)]
      · rw [hd, List.any_cons, decide_eq_true hr, Bool.true_or, Bool.true_or]
        exact Ev.now _
    · refine Ev.step (f := fun k => hurdlelaw10_Great.l0 k ((i + 1 : Nat) : Int) L df) (fun k => ?_) ?_
      · simp only [hurdlelaw10_Great.l0]
        rw [if_pos (by omega), if_pos (by omega), rd40 L i hlt, if_neg (by omega), show wrap64 ((i : Int) + 1) = ((i + 1 : Nat) : Int) by unfold wrap64; omega]
      · rw [hd, List.any_cons, decide_eq_false hr, Bool.false_or]
        exact ih (i + 1) (by omega)
theorem great_ev (L : List S40) (df : Int) (hl : L.length ≤ 9223372036854775807) : Ev (fun k => hurdlelaw10_Great.f k L df) (greatB L) := great_l0 df L hl L.length 0 (by omega)
theorem great_false {L : List S40} (h : greatB L = false) : L.length ≤ 100 ∧ ∀ x ∈ L, x.f2.length ≤ 20 := by
  unfold greatB at h
  rw [Bool.or_eq_false_iff] at h
  refine ⟨by have := of_decide_eq_false h.2; omega, fun x hx => ?_⟩
  have := List.any_eq_false.1 h.1 x hx
  simp at this
  omega
theorem C_len {α : Type} {d : Kd α} {w : World} {A : Option Addr} {n : Nat} {L : List α} (h : d.C w A n L) : n ≤ 9223372036854775807 := h.2.1
end Go.Proofs.Ytekpbgmmogpbdaa.H
namespace Go.Proofs.Ytekpbgmmogpbdaa.P
open Go.RowKit Go.Proofs.Ytekpbgmmogpbdaa.H Go.Proofs.YtekpbgmmogpbdaaW.PrintWords Go.Proofs.YtekpbgmmogpbdaaW.PrintLast Go.Proofs.YtekpbgmmogpbdaaW.PrintMore
attribute [local go_sem] max2_int min2_int max_two min_two max_three min_three max_four min_four
set_option linter.unusedVariables false
set_option linter.unusedSimpArgs false
mutual
def hurdleref10_Right.j0 : Nat → Bool → List (S40) → Int → Option (Bool)
  | 0, _, _, _ => none
  | k + 1, x15, x241000, x241001 => if x15 = true then (some false) else (hurdleref10_Right.l0 k 0 x241000 x241001)
def hurdleref10_Right.l0 : Nat → Int → List (S40) → Int → Option (Bool)
  | 0, _, _, _ => none
  | k + 1, x3, x241000, x241001 => if x3 < (x241000.length : Int) then (if 0 ≤ x3 then (if (((rd_T40 x241000 x3).f2).length : Int) > 4 then (hurdleref10_Right.j2 k x3 true x241000 x241001 ((rd_T40 x241000 x3).f0) ((rd_T40 x241000 x3).f1) ((rd_T40 x241000 x3).f2) ((rd_T40 x241000 x3).f3)) else ((hurdleref09_Action.f k ((rd_T40 x241000 x3).f3)).bind fun t244 => (hurdleref10_Right.j2 k x3 (t244.toList == ([] : List UInt8)) x241000 x241001 ((rd_T40 x241000 x3).f0) ((rd_T40 x241000 x3).f1) ((rd_T40 x241000 x3).f2) ((rd_T40 x241000 x3).f3)))) else (none)) else (some true)
def hurdleref10_Right.j2 : Nat → Int → Bool → List (S40) → Int → Int → Int → List (S61) → Int → Option (Bool)
  | 0, _, _, _, _, _, _, _, _ => none
  | k + 1, x3, x37, x241000, x241001, x244000, x244001, x244002, x244003 => if x37 = true then (some false) else (hurdleref10_Right.l1 k x3 0 x241000 x241001 x244000 x244001 x244002 x244003)
def hurdleref10_Right.l1 : Nat → Int → Int → List (S40) → Int → Int → Int → List (S61) → Int → Option (Bool)
  | 0, _, _, _, _, _, _, _, _ => none
  | k + 1, x3, x5, x241000, x241001, x244000, x244001, x244002, x244003 => if x5 < (x244002.length : Int) then (if 0 ≤ x5 then ((hurdleref08_Right.f ((rd_T61 x244002 x5).f0) ((rd_T61 x244002 x5).f1) ((rd_T61 x244002 x5).f2) ((rd_T61 x244002 x5).f3)).bind fun t246 => (if t246 = true then (hurdleref10_Right.l1 k x3 (wrap64 (x5 + 1)) x241000 x241001 x244000 x244001 x244002 x244003) else (some false))) else (none)) else (hurdleref10_Right.l0 k (wrap64 (x3 + 1)) x241000 x241001)
end
def hurdleref10_Right.f (k : Nat) (l0_0 : List (S40)) (a0_1 : Int) : Option (Bool) := if (l0_0.length : Int) > 64 then (hurdleref10_Right.j0 k true l0_0 a0_1) else ((hurdleref09_Action.f k a0_1).bind fun t241 => (hurdleref10_Right.j0 k (t241.toList == ([] : List UInt8)) l0_0 a0_1))
set_option maxHeartbeats 8000000 in
set_option maxRecDepth 100000 in
theorem hurdleref10_Right.calls (k : Nat) (A0_0 : Option Addr) (c0_0 : Nat) (l0_0 : List (S40)) (a0_1 : Int) (r : Bool) (w : World) (hr0_0 : Kd.C k40 w A0_0 l0_0.length l0_0) (hc0_0 : l0_0.length ≤ c0_0) (h : hurdleref10_Right.f k l0_0 a0_1 = some r) :
    Calls Try.prog 17 #[.agg #[.slice A0_0 l0_0.length c0_0, .int .u32 a0_1]] w fun e w' => e = .returned (.bool r) ∧ Below w.heap.size w w' := by
  have hu25 := Try.underlying25
  have hu40 := Try.underlying40
  have hu61 := Try.underlying61
  have HR0_0 := Aside0.mk hr0_0
  have HC0_0 := Aside0.mk hc0_0
  clear hr0_0 hc0_0
  have HB := Aside0.mk (Below.refl w.heap.size w)
  have H : (if (l0_0.length : Int) > 64 then (hurdleref10_Right.j0 k true l0_0 a0_1) else ((hurdleref09_Action.f k a0_1).bind fun t241 => (hurdleref10_Right.j0 k (t241.toList == ([] : List UInt8)) l0_0 a0_1))) = some r := h
  clear h
  have HC2 := Aside0.mk H
  clear H
  go_enter Try.func17, Try.ntmps17
  go_upto_region 1 with (first | ((with_reducible refine gate_dst (N := 1) rfl ?_); refine box_event ?hg (N := 1) ?hd (cs := #[.slice A0_0 l0_0.length c0_0, .int .u32 a0_1]) (t := 25) ?hr ?_; (case hd => rfl); (case hg => rfl); (case hr => first | (go_simp; done) | (go_simp; rfl)); intro gb240 hg w3 hbox hb; have n0_ := Aside0.mk (below_step (by repeat (first | (with_reducible first | exact HB.out | apply below_alloc | apply pw_below_drewN | apply below_drew1) | exact HB.out)) hb); have n1_ := Aside0.mk (hbox); have n2_ := Aside0.mk ((by rw [hg]; exact (below_size (by repeat (first | (with_reducible first | exact HB.out | apply below_alloc | apply pw_below_drewN | apply below_drew1) | exact HB.out))) : w.heap.size ≤ gb240)); have n3_ := Aside0.mk ((by rw [hg]; exact (below_size (by repeat (first | (with_reducible first | exact HB.out | apply below_alloc | apply pw_below_drewN | apply below_drew1) | exact HB.out))) : w.heap.size ≤ gb240)); clear HB; have HB := n0_; have BK240 := n1_; have GW240 := n2_; have GE240 := n3_; clear n0_ n1_ n2_ n3_; clear hb hbox hg))
  (try simp only [Act.put, List.setIfInBounds_toArray, List.set_cons_zero, List.set_cons_succ])
  go_cut [15] (fun v15 wc => ∃ (kq : Nat) (x15_1 : Bool), v15 = .bool x15_1 ∧ Aside0 (hurdleref10_Right.j0 kq x15_1 l0_0 a0_1 = some r) ∧ Aside0 (kq ≤ k) ∧ Aside0 (wc.heap[gb240]? = some (.cells #[(.slice A0_0 l0_0.length c0_0), .int .u32 a0_1] 25 (0, 0))) ∧ Aside0 (Below w.heap.size w wc))
  case first =>
    have H := HC2.out
    clear HC2
    by_cases c4 : (l0_0.length : Int) > 64
    · rw [if_pos c4] at H
      have c4b0 : decide (64 < (l0_0.length : Int)) = true := decide_eq_true c4
      have c4b1 : decide (64 < l0_0.length) = true := decide_eq_true (by omega)
      clear c4
      (first | rw [c4b0] | (simp only [i64_w, i32_w]; rw [c4b0]) | skip)
      have H' := Aside0.mk H
      clear H
      have hcz5_0 : w3.cell? ⟨gb240, 0, none⟩ = some (.slice A0_0 l0_0.length c0_0) := (blk_cell BK240.out 0).trans rfl
      have hcz5_1 : w3.cell? ⟨gb240, 1, none⟩ = some (.int .u32 a0_1) := (blk_cell BK240.out 1).trans rfl
      have hfz5_0 := blk_frozen BK240.out 0
      have hfz5_1 := blk_frozen BK240.out 1
      go_wp2
      go_meet
      case rel => exact ⟨_, (true), (by first | rfl | (simp; done) | (simp [*]; done)), H', ⟨by first | omega | exact Nat.le_refl _⟩, ⟨by (with_reducible repeat (first | refine blk_drewN ?_ _ | refine blk_drew ?_ | refine blk_alloc ?_ _)); exact BK240.out⟩, ⟨by repeat (first | (with_reducible first | exact HB.out | apply below_alloc | apply pw_below_drewN | apply below_drew1 | refine below_set ?_ GE240.out) | exact HB.out)⟩⟩
    · rw [if_neg c4] at H
      have c4b0 : decide (64 < (l0_0.length : Int)) = false := decide_eq_false c4
      have c4b1 : decide (64 < l0_0.length) = false := decide_eq_false (by omega)
      clear c4
      (first | rw [c4b0] | (simp only [i64_w, i32_w]; rw [c4b0]) | skip)
      replace H := Option.bind_eq_some_iff.mp H
      obtain ⟨t241, A60, H⟩ := H
      replace H : (hurdleref10_Right.j0 k (t241.toList == ([] : List UInt8)) l0_0 a0_1) = some r := H
      have A6 := Aside0.mk A60
      clear A60
      have H' := Aside0.mk H
      clear H
      have hcz7_0 : w3.cell? ⟨gb240, 0, none⟩ = some (.slice A0_0 l0_0.length c0_0) := (blk_cell BK240.out 0).trans rfl
      have hcz7_1 : w3.cell? ⟨gb240, 1, none⟩ = some (.int .u32 a0_1) := (blk_cell BK240.out 1).trans rfl
      have hfz7_0 := blk_frozen BK240.out 0
      have hfz7_1 := blk_frozen BK240.out 1
      go_wp2_with (first | (go_at_call 33; (with_reducible refine (hurdleref09_Action.calls k a0_1 t241 _ A6.out).mono ?_); rintro e w8 ⟨rfl, hb⟩; have n0_ := Aside0.mk (blk_below (g := gb240) (o := .cells #[.slice A0_0 l0_0.length c0_0, .int .u32 a0_1] 25 (0, 0)) (by (with_reducible repeat (first | refine blk_drewN ?_ _ | refine blk_drew ?_ | refine blk_alloc ?_ _)); exact BK240.out) hb); have n1_ := Aside0.mk (below_step (by repeat (first | (with_reducible first | exact HB.out | apply below_alloc | apply pw_below_drewN | apply below_drew1 | refine below_set ?_ GE240.out) | exact HB.out)) hb); clear BK240; clear HB; have BK240 := n0_; have HB := n1_; clear n0_ n1_; (try clear hb); (try clear hb2); (try clear hk); (try clear hi)))
      go_meet
      case rel => exact ⟨_, ((t241.toList == ([] : List UInt8))), (by first | rfl | (simp; done) | (simp [*]; done)), H', ⟨by first | omega | exact Nat.le_refl _⟩, ⟨by (with_reducible repeat (first | refine blk_drewN ?_ _ | refine blk_drew ?_ | refine blk_alloc ?_ _)); exact BK240.out⟩, ⟨by repeat (first | (with_reducible first | exact HB.out | apply below_alloc | apply pw_below_drewN | apply below_drew1 | refine below_set ?_ GE240.out) | exact HB.out)⟩⟩
  case rest =>
    clear HC2
    try clear c1
    try clear p2
    try clear c4
    try clear c4b0
    try clear c4b1
    try clear hcz5_0
    try clear hcz5_1
    try clear hcz7_0
    try clear hcz7_1
    try clear hfz5_0
    try clear hfz5_1
    try clear hfz7_0
    try clear hfz7_1
    obtain ⟨kq, x15_1, rfl, HA, HJ1, BK240, HB⟩ := hcut
    cases kq with
    | zero => exact absurd HA.out (by simp [hurdleref10_Right.j0])
    | succ kj1 =>
      have H := HA.out
      clear HA
      simp only [hurdleref10_Right.j0] at H
      by_cases c9 : x15_1 = true
      · subst c9
        have H1 : (some false) = some r := by rw [if_pos rfl] at H; exact H
        clear H
        have H := H1
        clear H1
        obtain rfl := Option.some.inj H
        go_wp2
        go_ret
        exact ⟨by first | rfl | (simp [errW_none, errW_some] <;> rfl) | (simp [*, errW_none, errW_some] <;> rfl), by repeat (first | (with_reducible first | exact HB.out | apply below_alloc | apply pw_below_drewN | apply below_drew1 | refine below_set ?_ GE240.out) | exact HB.out)⟩
      · replace c9 := Bool.eq_false_iff.mpr c9
        subst c9
        have H1 : (hurdleref10_Right.l0 kj1 0 l0_0 a0_1) = some r := by rw [if_neg (show ¬ (false = true) by decide)] at H; exact H
        clear H
        have H := H1
        clear H1
        have H' := Aside0.mk H
        clear H
        go_wp2
        go_loopg [3] kj1 (fun kq v3 w' => ∃ (x3_2 : Int), v3 = .int .i64 x3_2 ∧ Aside0 (hurdleref10_Right.l0 kq x3_2 l0_0 a0_1 = some r) ∧ Aside0 (kq ≤ kj1) ∧ Aside0 (w'.heap[gb240]? = some (.cells #[(.slice A0_0 l0_0.length c0_0), .int .u32 a0_1] 25 (0, 0))) ∧ Aside0 (Below w.heap.size w w'))
        case atStart => exact ⟨(0), (by first | rfl | (simp; done) | (simp [*]; done)), H', ⟨Nat.le_refl _⟩, ⟨by (with_reducible repeat (first | refine blk_drewN ?_ _ | refine blk_drew ?_ | refine blk_alloc ?_ _)); exact BK240.out⟩, ⟨by repeat (first | (with_reducible first | exact HB.out | apply below_alloc | apply pw_below_drewN | apply below_drew1 | refine below_set ?_ GE240.out) | exact HB.out)⟩⟩
        case round =>
          clear H'
          try clear c1
          try clear p2
          try clear c4
          try clear c4b0
          try clear c4b1
          try clear c9
          try clear hcz5_0
          try clear hcz5_1
          try clear hcz7_0
          try clear hcz7_1
          try clear hfz5_0
          try clear hfz5_1
          try clear hfz7_0
          try clear hfz7_1
          try clear p2
          obtain ⟨x3_2, rfl, HA, HK2, BK240, HB⟩ := hrel
          cases gk with
          | zero => exact absurd HA.out (by simp [hurdleref10_Right.l0])
          | succ k2 =>
            have H := HA.out
            clear HA
            simp only [hurdleref10_Right.l0] at H
            by_cases c10 : x3_2 < (l0_0.length : Int)
            · rw [if_pos c10] at H
              have c10b0 : decide (x3_2 < (l0_0.length : Int)) = true := decide_eq_true c10
              clear c10
              by_cases c11 : 0 ≤ x3_2
              · rw [if_pos c11] at H
                have c11b0 : decide (0 ≤ x3_2) = true := decide_eq_true c11
                clear c11
                have HC12 := Aside0.mk H
                clear H
                have hcz13_0 : wr.cell? ⟨gb240, 0, none⟩ = some (.slice A0_0 l0_0.length c0_0) := (blk_cell BK240.out 0).trans rfl
                have hcz13_1 : wr.cell? ⟨gb240, 1, none⟩ = some (.int .u32 a0_1) := (blk_cell BK240.out 1).trans rfl
                have hfz13_0 := blk_frozen BK240.out 0
                have hfz13_1 := blk_frozen BK240.out 1
                have p242 : 0 ≤ (x3_2 : Int) := of_decide_eq_true (by first | (with_reducible assumption) | assumption)
                have q242 : x3_2 < (l0_0.length : Int) := of_decide_eq_true (by first | (with_reducible assumption) | assumption)
                obtain ⟨ad242, A242_2, c242_2, e242, hx242_0, hx242_1, hx242_2, hx242_3, hl242_2, hi242_2⟩ := at_T40 HR0_0.out x3_2 p242 q242
                cases e242
                replace hx242_0 := (HB.out.cell (World.block_lt_of_cell? w _ hx242_0)).trans hx242_0
                replace hx242_1 := (HB.out.cell (World.block_lt_of_cell? w _ hx242_1)).trans hx242_1
                replace hx242_2 := (HB.out.cell (World.block_lt_of_cell? w _ hx242_2)).trans hx242_2
                replace hx242_3 := (HB.out.cell (World.block_lt_of_cell? w _ hx242_3)).trans hx242_3
                have HR242_2 := Aside0.mk hi242_2
                have HC242_2 := Aside0.mk hl242_2
                clear hi242_2 hl242_2
                replace p242 := eq_true p242
                replace q242 := eq_true q242
                go_upto_region 7 with (first | ((with_reducible refine gate_dst (N := 4) rfl ?_); refine box_event ?hg (N := 4) ?hd (cs := #[.int .u32 0, .int .u32 0, .slice none 0 0, .int .u32 0]) (t := 40) ?hr ?_; (case hd => rfl); (case hg => rfl); (case hr => first | (go_simp; done) | (go_simp; rfl)); intro gb243 hg w14 hbox hb; have n0_ := Aside0.mk (blk_below (g := gb240) (o := .cells #[.slice (some ad242) l0_0.length c0_0, .int .u32 a0_1] 25 (0, 0)) (by (with_reducible repeat (first | refine blk_drewN ?_ _ | refine blk_drew ?_ | refine blk_alloc ?_ _)); exact BK240.out) hb); have n1_ := Aside0.mk (below_step (by repeat (first | (with_reducible first | exact HB.out | apply below_alloc | apply pw_below_drewN | apply below_drew1 | refine below_set ?_ GE240.out) | exact HB.out)) hb); have n2_ := Aside0.mk (hbox); have n3_ := Aside0.mk ((by rw [hg]; exact (below_size (by repeat (first | (with_reducible first | exact HB.out | apply below_alloc | apply pw_below_drewN | apply below_drew1 | refine below_set ?_ GE240.out) | exact HB.out))) : w.heap.size ≤ gb243)); have n4_ := Aside0.mk ((by rw [hg]; exact (below_size (by repeat (first | (with_reducible first | exact HB.out | apply below_alloc | apply pw_below_drewN | apply below_drew1 | refine below_set ?_ GE240.out) | exact HB.out))) : w.heap.size ≤ gb243)); have n5_ := Aside0.mk ((by rw [hg]; exact Nat.ne_of_lt (blk_lt (g := gb240) (o := .cells #[.slice (some ad242) l0_0.length c0_0, .int .u32 a0_1] 25 (0, 0)) (by (with_reducible repeat (first | refine blk_drewN ?_ _ | refine blk_drew ?_ | refine blk_alloc ?_ _)); exact BK240.out)) : gb240 ≠ gb243)); have n6_ := Aside0.mk ((by rw [hg]; exact Nat.ne_of_gt (blk_lt (g := gb240) (o := .cells #[.slice (some ad242) l0_0.length c0_0, .int .u32 a0_1] 25 (0, 0)) (by (with_reducible repeat (first | refine blk_drewN ?_ _ | refine blk_drew ?_ | refine blk_alloc ?_ _)); exact BK240.out)) : gb243 ≠ gb240)); clear BK240; clear HB; have BK240 := n0_; have HB := n1_; have BK243 := n2_; have GW243 := n3_; have GE243 := n4_; have NB240_243 := n5_; have NB243_240 := n6_; clear n0_ n1_ n2_ n3_ n4_ n5_ n6_; clear hb hbox hg; have hnb15 := NB243_240.out; have hnc15 := NB240_243.out; have hcz16_0 : w14.cell? ⟨gb243, 0, none⟩ = some (.int .u32 0) := (blk_cell BK243.out 0).trans rfl; have hcz16_1 : w14.cell? ⟨gb243, 1, none⟩ = some (.int .u32 0) := (blk_cell BK243.out 1).trans rfl; have hcz16_2 : w14.cell? ⟨gb243, 2, none⟩ = some (.slice none 0 0) := (blk_cell BK243.out 2).trans rfl; have hcz16_3 : w14.cell? ⟨gb243, 3, none⟩ = some (.int .u32 0) := (blk_cell BK243.out 3).trans rfl; have hfz16_0 := blk_frozen BK243.out 0; have hfz16_1 := blk_frozen BK243.out 1; have hfz16_2 := blk_frozen BK243.out 2; have hfz16_3 := blk_frozen BK243.out 3))
                (try simp only [Act.put, List.setIfInBounds_toArray, List.set_cons_zero, List.set_cons_succ])
                go_cut [37] (fun v37 wc => ∃ (kq : Nat) (x37_11 : Bool), v37 = .bool x37_11 ∧ Aside0 (hurdleref10_Right.j2 kq x3_2 x37_11 l0_0 a0_1 ((rd_T40 l0_0 x3_2).f0) ((rd_T40 l0_0 x3_2).f1) ((rd_T40 l0_0 x3_2).f2) ((rd_T40 l0_0 x3_2).f3) = some r) ∧ Aside0 (kq ≤ k2) ∧ Aside0 (wc.heap[gb240]? = some (.cells #[(.slice (some ad242) l0_0.length c0_0), .int .u32 a0_1] 25 (0, 0))) ∧ Aside0 (wc.heap[gb243]? = some (.cells #[.int .u32 ((rd_T40 l0_0 x3_2).f0), .int .u32 ((rd_T40 l0_0 x3_2).f1), (.slice A242_2 ((rd_T40 l0_0 x3_2).f2).length c242_2), .int .u32 ((rd_T40 l0_0 x3_2).f3)] 40 (0, 0))) ∧ Aside0 (Below w.heap.size w wc))
                case first =>
                  have H := HC12.out
                  clear HC12
                  by_cases c17 : (((rd_T40 l0_0 x3_2).f2).length : Int) > 4
                  · rw [if_pos c17] at H
                    have c17b0 : decide (4 < (((rd_T40 l0_0 x3_2).f2).length : Int)) = true := decide_eq_true c17
                    have c17b1 : decide (4 < ((rd_T40 l0_0 x3_2).f2).length) = true := decide_eq_true (by omega)
                    clear c17
                    (first | rw [c17b0] | (simp only [i64_w, i32_w]; rw [c17b0]) | skip)
                    have H' := Aside0.mk H
                    clear H
                    have hnb18 := NB243_240.out
                    have hnc18 := NB240_243.out
                    have hcz19_0 : w14.cell? ⟨gb243, 0, none⟩ = some (.int .u32 0) := (blk_cell BK243.out 0).trans rfl
                    have hcz19_1 : w14.cell? ⟨gb243, 1, none⟩ = some (.int .u32 0) := (blk_cell BK243.out 1).trans rfl
                    have hcz19_2 : w14.cell? ⟨gb243, 2, none⟩ = some (.slice none 0 0) := (blk_cell BK243.out 2).trans rfl
                    have hcz19_3 : w14.cell? ⟨gb243, 3, none⟩ = some (.int .u32 0) := (blk_cell BK243.out 3).trans rfl
                    have hfz19_0 := blk_frozen BK243.out 0
                    have hfz19_1 := blk_frozen BK243.out 1
                    have hfz19_2 := blk_frozen BK243.out 2
                    have hfz19_3 := blk_frozen BK243.out 3
                    go_wp2
                    go_meet
                    case rel => exact ⟨_, (true), (by first | rfl | (simp; done) | (simp [*]; done)), H', ⟨by have := HJ1.out; have := HK2.out; first | omega | exact Nat.le_refl _⟩, ⟨by (with_reducible repeat (first | refine blk_drewN ?_ _ | refine blk_drew ?_ | refine blk_alloc ?_ _)); refine blk_far ?_ NB240_243.out _; (with_reducible repeat (first | refine blk_drewN ?_ _ | refine blk_drew ?_ | refine blk_alloc ?_ _)); refine blk_far ?_ NB240_243.out _; (with_reducible repeat (first | refine blk_drewN ?_ _ | refine blk_drew ?_ | refine blk_alloc ?_ _)); refine blk_far ?_ NB240_243.out _; (with_reducible repeat (first | refine blk_drewN ?_ _ | refine blk_drew ?_ | refine blk_alloc ?_ _)); refine blk_far ?_ NB240_243.out _; (with_reducible repeat (first | refine blk_drewN ?_ _ | refine blk_drew ?_ | refine blk_alloc ?_ _)); exact BK240.out⟩, ⟨by (with_reducible repeat (first | refine blk_drewN ?_ _ | refine blk_drew ?_ | refine blk_alloc ?_ _)); refine blk_put (cs := #[.int .u32 ((rd_T40 l0_0 x3_2).f0), .int .u32 ((rd_T40 l0_0 x3_2).f1), .slice A242_2 ((rd_T40 l0_0 x3_2).f2).length c242_2, .int .u32 0]) ?_ 3 _ rfl; (with_reducible repeat (first | refine blk_drewN ?_ _ | refine blk_drew ?_ | refine blk_alloc ?_ _)); refine blk_put (cs := #[.int .u32 ((rd_T40 l0_0 x3_2).f0), .int .u32 ((rd_T40 l0_0 x3_2).f1), .slice none 0 0, .int .u32 0]) ?_ 2 _ rfl; (with_reducible repeat (first | refine blk_drewN ?_ _ | refine blk_drew ?_ | refine blk_alloc ?_ _)); refine blk_put (cs := #[.int .u32 ((rd_T40 l0_0 x3_2).f0), .int .u32 0, .slice none 0 0, .int .u32 0]) ?_ 1 _ rfl; (with_reducible repeat (first | refine blk_drewN ?_ _ | refine blk_drew ?_ | refine blk_alloc ?_ _)); refine blk_put (cs := #[.int .u32 0, .int .u32 0, .slice none 0 0, .int .u32 0]) ?_ 0 _ rfl; (with_reducible repeat (first | refine blk_drewN ?_ _ | refine blk_drew ?_ | refine blk_alloc ?_ _)); exact BK243.out⟩, ⟨by repeat (first | (with_reducible first | exact HB.out | apply below_alloc | apply pw_below_drewN | apply below_drew1 | refine below_set ?_ GE240.out | refine below_set ?_ GE243.out) | exact HB.out)⟩⟩
                  · rw [if_neg c17] at H
                    have c17b0 : decide (4 < (((rd_T40 l0_0 x3_2).f2).length : Int)) = false := decide_eq_false c17
                    have c17b1 : decide (4 < ((rd_T40 l0_0 x3_2).f2).length) = false := decide_eq_false (by omega)
                    clear c17
                    (first | rw [c17b0] | (simp only [i64_w, i32_w]; rw [c17b0]) | skip)
                    replace H := Option.bind_eq_some_iff.mp H
                    obtain ⟨t244, A200, H⟩ := H
                    replace H : (hurdleref10_Right.j2 k2 x3_2 (t244.toList == ([] : List UInt8)) l0_0 a0_1 ((rd_T40 l0_0 x3_2).f0) ((rd_T40 l0_0 x3_2).f1) ((rd_T40 l0_0 x3_2).f2) ((rd_T40 l0_0 x3_2).f3)) = some r := H
                    have A20 := Aside0.mk A200
                    clear A200
                    have H' := Aside0.mk H
                    clear H
                    have hnb21 := NB243_240.out
                    have hnc21 := NB240_243.out
                    have hcz22_0 : w14.cell? ⟨gb243, 0, none⟩ = some (.int .u32 0) := (blk_cell BK243.out 0).trans rfl
                    have hcz22_1 : w14.cell? ⟨gb243, 1, none⟩ = some (.int .u32 0) := (blk_cell BK243.out 1).trans rfl
                    have hcz22_2 : w14.cell? ⟨gb243, 2, none⟩ = some (.slice none 0 0) := (blk_cell BK243.out 2).trans rfl
                    have hcz22_3 : w14.cell? ⟨gb243, 3, none⟩ = some (.int .u32 0) := (blk_cell BK243.out 3).trans rfl
                    have hfz22_0 := blk_frozen BK243.out 0
                    have hfz22_1 := blk_frozen BK243.out 1
                    have hfz22_2 := blk_frozen BK243.out 2
                    have hfz22_3 := blk_frozen BK243.out 3
                    go_wp2_with (first | (go_at_call 33; (with_reducible refine (hurdleref09_Action.calls k2 ((rd_T40 l0_0 x3_2).f3) t244 _ A20.out).mono ?_); rintro e w23 ⟨rfl, hb⟩; have n0_ := Aside0.mk (blk_below (g := gb240) (o := .cells #[.slice (some ad242) l0_0.length c0_0, .int .u32 a0_1] 25 (0, 0)) (by (with_reducible repeat (first | refine blk_drewN ?_ _ | refine blk_drew ?_ | refine blk_alloc ?_ _)); refine blk_far ?_ NB240_243.out _; (with_reducible repeat (first | refine blk_drewN ?_ _ | refine blk_drew ?_ | refine blk_alloc ?_ _)); refine blk_far ?_ NB240_243.out _; (with_reducible repeat (first | refine blk_drewN ?_ _ | refine blk_drew ?_ | refine blk_alloc ?_ _)); refine blk_far ?_ NB240_243.out _; (with_reducible repeat (first | refine blk_drewN ?_ _ | refine blk_drew ?_ | refine blk_alloc ?_ _)); refine blk_far ?_ NB240_243.out _; (with_reducible repeat (first | refine blk_drewN ?_ _ | refine blk_drew ?_ | refine blk_alloc ?_ _)); exact BK240.out) hb); have n1_ := Aside0.mk (blk_below (g := gb243) (o := .cells #[.int .u32 ((rd_T40 l0_0 x3_2).f0), .int .u32 ((rd_T40 l0_0 x3_2).f1), .slice A242_2 ((rd_T40 l0_0 x3_2).f2).length c242_2, .int .u32 ((rd_T40 l0_0 x3_2).f3)] 40 (0, 0)) (by (with_reducible repeat (first | refine blk_drewN ?_ _ | refine blk_drew ?_ | refine blk_alloc ?_ _)); refine blk_put (cs := #[.int .u32 ((rd_T40 l0_0 x3_2).f0), .int .u32 ((rd_T40 l0_0 x3_2).f1), .slice A242_2 ((rd_T40 l0_0 x3_2).f2).length c242_2, .int .u32 0]) ?_ 3 _ rfl; (with_reducible repeat (first | refine blk_drewN ?_ _ | refine blk_drew ?_ | refine blk_alloc ?_ _)); refine blk_put (cs := #[.int .u32 ((rd_T40 l0_0 x3_2).f0), .int .u32 ((rd_T40 l0_0 x3_2).f1), .slice none 0 0, .int .u32 0]) ?_ 2 _ rfl; (with_reducible repeat (first | refine blk_drewN ?_ _ | refine blk_drew ?_ | refine blk_alloc ?_ _)); refine blk_put (cs := #[.int .u32 ((rd_T40 l0_0 x3_2).f0), .int .u32 0, .slice none 0 0, .int .u32 0]) ?_ 1 _ rfl; (with_reducible repeat (first | refine blk_drewN ?_ _ | refine blk_drew ?_ | refine blk_alloc ?_ _)); refine blk_put (cs := #[.int .u32 0, .int .u32 0, .slice none 0 0, .int .u32 0]) ?_ 0 _ rfl; (with_reducible repeat (first | refine blk_drewN ?_ _ | refine blk_drew ?_ | refine blk_alloc ?_ _)); exact BK243.out) hb); have n2_ := Aside0.mk (below_step (by repeat (first | (with_reducible first | exact HB.out | apply below_alloc | apply pw_below_drewN | apply below_drew1 | refine below_set ?_ GE240.out | refine below_set ?_ GE243.out) | exact HB.out)) hb); clear BK240; clear BK243; clear HB; have BK240 := n0_; have BK243 := n1_; have HB := n2_; clear n0_ n1_ n2_; (try clear hb); (try clear hb2); (try clear hk); (try clear hi)))
                    go_meet
                    case rel => exact ⟨_, ((t244.toList == ([] : List UInt8))), (by first | rfl | (simp; done) | (simp [*]; done)), H', ⟨by have := HJ1.out; have := HK2.out; first | omega | exact Nat.le_refl _⟩, ⟨by (with_reducible repeat (first | refine blk_drewN ?_ _ | refine blk_drew ?_ | refine blk_alloc ?_ _)); exact BK240.out⟩, ⟨by (with_reducible repeat (first | refine blk_drewN ?_ _ | refine blk_drew ?_ | refine blk_alloc ?_ _)); exact BK243.out⟩, ⟨by repeat (first | (with_reducible first | exact HB.out | apply below_alloc | apply pw_below_drewN | apply below_drew1 | refine below_set ?_ GE240.out | refine below_set ?_ GE243.out) | exact HB.out)⟩⟩
                case rest =>
                  clear HC12
                  try clear c1
                  try clear c2
                  try clear p2
                  try clear q2
                  try clear hx2
                  try clear c4
                  try clear c4b0
                  try clear c4b1
                  try clear c9
                  try clear c10
                  try clear c10b0
                  try clear c11
                  try clear c11b0
                  try clear c15
                  try clear c17
                  try clear c17b0
                  try clear c17b1
                  try clear c18
                  try clear c21
                  try clear hcz13_0
                  try clear hcz13_1
                  try clear hcz16_0
                  try clear hcz16_1
                  try clear hcz16_2
                  try clear hcz16_3
                  try clear hcz19_0
                  try clear hcz19_1
                  try clear hcz19_2
                  try clear hcz19_3
                  try clear hcz22_0
                  try clear hcz22_1
                  try clear hcz22_2
                  try clear hcz22_3
                  try clear hcz5_0
                  try clear hcz5_1
                  try clear hcz7_0
                  try clear hcz7_1
                  try clear hfz13_0
                  try clear hfz13_1
                  try clear hfz16_0
                  try clear hfz16_1
                  try clear hfz16_2
                  try clear hfz16_3
                  try clear hfz19_0
                  try clear hfz19_1
                  try clear hfz19_2
                  try clear hfz19_3
                  try clear hfz22_0
                  try clear hfz22_1
                  try clear hfz22_2
                  try clear hfz22_3
                  try clear hfz5_0
                  try clear hfz5_1
                  try clear hfz7_0
                  try clear hfz7_1
                  try clear hx242_0
                  try clear hx242_1
                  try clear hx242_2
                  try clear hx242_3
                  try clear p2
                  try clear p242
                  try clear q242
                  obtain ⟨kq, x37_11, rfl, HA, HJ11, BK240, BK243, HB⟩ := hcut
                  cases kq with
                  | zero => exact absurd HA.out (by simp [hurdleref10_Right.j2])
                  | succ kj11 =>
                    have H := HA.out
                    clear HA
                    simp only [hurdleref10_Right.j2] at H
                    by_cases c24 : x37_11 = true
                    · subst c24
                      have H1 : (some false) = some r := by rw [if_pos rfl] at H; exact H
                      clear H
                      have H := H1
                      clear H1
                      obtain rfl := Option.some.inj H
                      go_wp2
                      go_ret
                      exact ⟨by first | rfl | (simp [errW_none, errW_some] <;> rfl) | (simp [*, errW_none, errW_some] <;> rfl), by repeat (first | (with_reducible first | exact HB.out | apply below_alloc | apply pw_below_drewN | apply below_drew1 | refine below_set ?_ GE240.out | refine below_set ?_ GE243.out) | exact HB.out)⟩
                    · replace c24 := Bool.eq_false_iff.mpr c24
                      subst c24
                      have H1 : (hurdleref10_Right.l1 kj11 x3_2 0 l0_0 a0_1 ((rd_T40 l0_0 x3_2).f0) ((rd_T40 l0_0 x3_2).f1) ((rd_T40 l0_0 x3_2).f2) ((rd_T40 l0_0 x3_2).f3)) = some r := by rw [if_neg (show ¬ (false = true) by decide)] at H; exact H
                      clear H
                      have H := H1
                      clear H1
                      have H' := Aside0.mk H
                      clear H
                      go_wp2
                      go_loopg [5] kj11 (fun kq v5 w' => ∃ (x5_4 : Int), v5 = .int .i64 x5_4 ∧ Aside0 (hurdleref10_Right.l1 kq x3_2 x5_4 l0_0 a0_1 ((rd_T40 l0_0 x3_2).f0) ((rd_T40 l0_0 x3_2).f1) ((rd_T40 l0_0 x3_2).f2) ((rd_T40 l0_0 x3_2).f3) = some r) ∧ Aside0 (kq ≤ kj11) ∧ Aside0 (w'.heap[gb240]? = some (.cells #[(.slice (some ad242) l0_0.length c0_0), .int .u32 a0_1] 25 (0, 0))) ∧ Aside0 (w'.heap[gb243]? = some (.cells #[.int .u32 ((rd_T40 l0_0 x3_2).f0), .int .u32 ((rd_T40 l0_0 x3_2).f1), (.slice A242_2 ((rd_T40 l0_0 x3_2).f2).length c242_2), .int .u32 ((rd_T40 l0_0 x3_2).f3)] 40 (0, 0))) ∧ Aside0 (Below w.heap.size w w'))
                      case atStart => exact ⟨(0), (by first | rfl | (simp; done) | (simp [*]; done)), H', ⟨Nat.le_refl _⟩, ⟨by (with_reducible repeat (first | refine blk_drewN ?_ _ | refine blk_drew ?_ | refine blk_alloc ?_ _)); exact BK240.out⟩, ⟨by (with_reducible repeat (first | refine blk_drewN ?_ _ | refine blk_drew ?_ | refine blk_alloc ?_ _)); exact BK243.out⟩, ⟨by repeat (first | (with_reducible first | exact HB.out | apply below_alloc | apply pw_below_drewN | apply below_drew1 | refine below_set ?_ GE240.out | refine below_set ?_ GE243.out) | exact HB.out)⟩⟩
                      case round =>
                        clear H'
                        try clear c1
                        try clear c2
                        try clear p2
                        try clear q2
                        try clear hx2
                        try clear c4
                        try clear c4b0
                        try clear c4b1
                        try clear c9
                        try clear c10
                        try clear c10b0
                        try clear c11
                        try clear c11b0
                        try clear c15
                        try clear c17
                        try clear c17b0
                        try clear c17b1
                        try clear c18
                        try clear c21
                        try clear c24
                        try clear p24
                        try clear q24
                        try clear hx24
                        try clear hcz13_0
                        try clear hcz13_1
                        try clear hcz16_0
                        try clear hcz16_1
                        try clear hcz16_2
                        try clear hcz16_3
                        try clear hcz19_0
                        try clear hcz19_1
                        try clear hcz19_2
                        try clear hcz19_3
                        try clear hcz22_0
                        try clear hcz22_1
                        try clear hcz22_2
                        try clear hcz22_3
                        try clear hcz5_0
                        try clear hcz5_1
                        try clear hcz7_0
                        try clear hcz7_1
                        try clear hfz13_0
                        try clear hfz13_1
                        try clear hfz16_0
                        try clear hfz16_1
                        try clear hfz16_2
                        try clear hfz16_3
                        try clear hfz19_0
                        try clear hfz19_1
                        try clear hfz19_2
                        try clear hfz19_3
                        try clear hfz22_0
                        try clear hfz22_1
                        try clear hfz22_2
                        try clear hfz22_3
                        try clear hfz5_0
                        try clear hfz5_1
                        try clear hfz7_0
                        try clear hfz7_1
                        try clear hx242_0
                        try clear hx242_1
                        try clear hx242_2
                        try clear hx242_3
                        try clear p2
                        try clear p242
                        try clear q2
                        try clear q242
                        obtain ⟨x5_4, rfl, HA, HK4, BK240, BK243, HB⟩ := hrel
                        cases gk with
                        | zero => exact absurd HA.out (by simp [hurdleref10_Right.l1])
                        | succ k4 =>
                          have H := HA.out
                          clear HA
                          simp only [hurdleref10_Right.l1] at H
                          by_cases c25 : x5_4 < (((rd_T40 l0_0 x3_2).f2).length : Int)
                          · rw [if_pos c25] at H
                            have c25b0 : decide (x5_4 < (((rd_T40 l0_0 x3_2).f2).length : Int)) = true := decide_eq_true c25
                            clear c25
                            by_cases c26 : 0 ≤ x5_4
                            · rw [if_pos c26] at H
                              have c26b0 : decide (0 ≤ x5_4) = true := decide_eq_true c26
                              clear c26
                              replace H := Option.bind_eq_some_iff.mp H
                              obtain ⟨t246, A270, H⟩ := H
                              replace H : (if t246 = true then (hurdleref10_Right.l1 k4 x3_2 (wrap64 (x5_4 + 1)) l0_0 a0_1 ((rd_T40 l0_0 x3_2).f0) ((rd_T40 l0_0 x3_2).f1) ((rd_T40 l0_0 x3_2).f2) ((rd_T40 l0_0 x3_2).f3)) else (some false)) = some r := H
                              have A27 := Aside0.mk A270
                              clear A270
                              by_cases c28 : t246 = true
                              · subst c28
                                have H1 : (hurdleref10_Right.l1 k4 x3_2 (wrap64 (x5_4 + 1)) l0_0 a0_1 ((rd_T40 l0_0 x3_2).f0) ((rd_T40 l0_0 x3_2).f1) ((rd_T40 l0_0 x3_2).f2) ((rd_T40 l0_0 x3_2).f3)) = some r := by rw [if_pos rfl] at H; exact H
                                clear H
                                have H := H1
                                clear H1
                                have H' := Aside0.mk H
                                clear H
                                have hnb29 := NB243_240.out
                                have hnc29 := NB240_243.out
                                have hcz30_0 : wr.cell? ⟨gb243, 0, none⟩ = some (.int .u32 ((rd_T40 l0_0 x3_2).f0)) := (blk_cell BK243.out 0).trans rfl
                                have hcz30_1 : wr.cell? ⟨gb243, 1, none⟩ = some (.int .u32 ((rd_T40 l0_0 x3_2).f1)) := (blk_cell BK243.out 1).trans rfl
                                have hcz30_2 : wr.cell? ⟨gb243, 2, none⟩ = some (.slice A242_2 ((rd_T40 l0_0 x3_2).f2).length c242_2) := (blk_cell BK243.out 2).trans rfl
                                have hcz30_3 : wr.cell? ⟨gb243, 3, none⟩ = some (.int .u32 ((rd_T40 l0_0 x3_2).f3)) := (blk_cell BK243.out 3).trans rfl
                                have hfz30_0 := blk_frozen BK243.out 0
                                have hfz30_1 := blk_frozen BK243.out 1
                                have hfz30_2 := blk_frozen BK243.out 2
                                have hfz30_3 := blk_frozen BK243.out 3
                                have p245 : 0 ≤ (x5_4 : Int) := of_decide_eq_true (by first | (with_reducible assumption) | assumption)
                                have q245 : x5_4 < (((rd_T40 l0_0 x3_2).f2).length : Int) := of_decide_eq_true (by first | (with_reducible assumption) | assumption)
                                obtain ⟨ad245, e245, hx245_0, hx245_1, hx245_2, hx245_3⟩ := at_T61 HR242_2.out x5_4 p245 q245
                                cases e245
                                replace hx245_0 := (HB.out.cell (World.block_lt_of_cell? w _ hx245_0)).trans hx245_0
                                replace hx245_1 := (HB.out.cell (World.block_lt_of_cell? w _ hx245_1)).trans hx245_1
                                replace hx245_2 := (HB.out.cell (World.block_lt_of_cell? w _ hx245_2)).trans hx245_2
                                replace hx245_3 := (HB.out.cell (World.block_lt_of_cell? w _ hx245_3)).trans hx245_3
                                replace p245 := eq_true p245
                                replace q245 := eq_true q245
                                go_wp2_with (first | ((with_reducible refine gate_callee (f := 34) rfl ?_); refine goesL_ (some 50) rfl rfl Try.func34 (by kernel_rfl) rfl #[.agg #[.int .i64 ((rd_T61 ((rd_T40 l0_0 x3_2).f2) x5_4).f0), .int .i64 ((rd_T61 ((rd_T40 l0_0 x3_2).f2) x5_4).f1), .int .u64 ((rd_T61 ((rd_T40 l0_0 x3_2).f2) x5_4).f2), .int .u64 ((rd_T61 ((rd_T40 l0_0 x3_2).f2) x5_4).f3)]] rfl (by (try simp only [List.map_toArray, List.map_cons, List.map_nil]); first | done | rfl | (simp only [List.length_drop, List.length_take]; rfl)) ?_; (with_reducible refine (hurdleref08_Right.calls ((rd_T61 ((rd_T40 l0_0 x3_2).f2) x5_4).f0) ((rd_T61 ((rd_T40 l0_0 x3_2).f2) x5_4).f1) ((rd_T61 ((rd_T40 l0_0 x3_2).f2) x5_4).f2) ((rd_T61 ((rd_T40 l0_0 x3_2).f2) x5_4).f3) true _ A27.out).mono ?_); rintro e w31 ⟨rfl, hb⟩; refine ⟨_, rfl, ?_⟩; have n0_ := Aside0.mk (blk_below (g := gb240) (o := .cells #[.slice (some ad242) l0_0.length c0_0, .int .u32 a0_1] 25 (0, 0)) (by (with_reducible repeat (first | refine blk_drewN ?_ _ | refine blk_drew ?_ | refine blk_alloc ?_ _)); exact BK240.out) hb); have n1_ := Aside0.mk (blk_below (g := gb243) (o := .cells #[.int .u32 ((rd_T40 l0_0 x3_2).f0), .int .u32 ((rd_T40 l0_0 x3_2).f1), .slice (some ad245) ((rd_T40 l0_0 x3_2).f2).length c242_2, .int .u32 ((rd_T40 l0_0 x3_2).f3)] 40 (0, 0)) (by (with_reducible repeat (first | refine blk_drewN ?_ _ | refine blk_drew ?_ | refine blk_alloc ?_ _)); exact BK243.out) hb); have n2_ := Aside0.mk (below_step (by repeat (first | (with_reducible first | exact HB.out | apply below_alloc | apply pw_below_drewN | apply below_drew1 | refine below_set ?_ GE240.out | refine below_set ?_ GE243.out) | exact HB.out)) hb); clear BK240; clear BK243; clear HB; have BK240 := n0_; have BK243 := n1_; have HB := n2_; clear n0_ n1_ n2_; (try clear hb); (try clear hb2); (try clear hk); (try clear hi)))
                                go_roundg k4
                                case measure => have := HJ1.out; have := HK2.out; have := HJ11.out; have := HK4.out; omega
                                case rel => exact ⟨(wrap64 (x5_4 + 1)), (by first | rfl | (simp; done) | (simp [*]; done)), H', ⟨by have := HJ1.out; have := HK2.out; have := HJ11.out; have := HK4.out; omega⟩, ⟨by (with_reducible repeat (first | refine blk_drewN ?_ _ | refine blk_drew ?_ | refine blk_alloc ?_ _)); exact BK240.out⟩, ⟨by (with_reducible repeat (first | refine blk_drewN ?_ _ | refine blk_drew ?_ | refine blk_alloc ?_ _)); exact BK243.out⟩, ⟨by repeat (first | (with_reducible first | exact HB.out | apply below_alloc | apply pw_below_drewN | apply below_drew1 | refine below_set ?_ GE240.out | refine below_set ?_ GE243.out) | exact HB.out)⟩⟩
                              · replace c28 := Bool.eq_false_iff.mpr c28
                                subst c28
                                have H1 : (some false) = some r := by rw [if_neg (show ¬ (false = true) by decide)] at H; exact H
                                clear H
                                have H := H1
                                clear H1
                                obtain rfl := Option.some.inj H
                                have hnb32 := NB243_240.out
                                have hnc32 := NB240_243.out
                                have hcz33_0 : wr.cell? ⟨gb243, 0, none⟩ = some (.int .u32 ((rd_T40 l0_0 x3_2).f0)) := (blk_cell BK243.out 0).trans rfl
                                have hcz33_1 : wr.cell? ⟨gb243, 1, none⟩ = some (.int .u32 ((rd_T40 l0_0 x3_2).f1)) := (blk_cell BK243.out 1).trans rfl
                                have hcz33_2 : wr.cell? ⟨gb243, 2, none⟩ = some (.slice A242_2 ((rd_T40 l0_0 x3_2).f2).length c242_2) := (blk_cell BK243.out 2).trans rfl
                                have hcz33_3 : wr.cell? ⟨gb243, 3, none⟩ = some (.int .u32 ((rd_T40 l0_0 x3_2).f3)) := (blk_cell BK243.out 3).trans rfl
                                have hfz33_0 := blk_frozen BK243.out 0
                                have hfz33_1 := blk_frozen BK243.out 1
                                have hfz33_2 := blk_frozen BK243.out 2
                                have hfz33_3 := blk_frozen BK243.out 3
                                have p245 : 0 ≤ (x5_4 : Int) := of_decide_eq_true (by first | (with_reducible assumption) | assumption)
                                have q245 : x5_4 < (((rd_T40 l0_0 x3_2).f2).length : Int) := of_decide_eq_true (by first | (with_reducible assumption) | assumption)
                                obtain ⟨ad245, e245, hx245_0, hx245_1, hx245_2, hx245_3⟩ := at_T61 HR242_2.out x5_4 p245 q245
                                cases e245
                                replace hx245_0 := (HB.out.cell (World.block_lt_of_cell? w _ hx245_0)).trans hx245_0
                                replace hx245_1 := (HB.out.cell (World.block_lt_of_cell? w _ hx245_1)).trans hx245_1
                                replace hx245_2 := (HB.out.cell (World.block_lt_of_cell? w _ hx245_2)).trans hx245_2
                                replace hx245_3 := (HB.out.cell (World.block_lt_of_cell? w _ hx245_3)).trans hx245_3
                                replace p245 := eq_true p245
                                replace q245 := eq_true q245
                                go_wp2_with (first | ((with_reducible refine gate_callee (f := 34) rfl ?_); refine goesL_ (some 50) rfl rfl Try.func34 (by kernel_rfl) rfl #[.agg #[.int .i64 ((rd_T61 ((rd_T40 l0_0 x3_2).f2) x5_4).f0), .int .i64 ((rd_T61 ((rd_T40 l0_0 x3_2).f2) x5_4).f1), .int .u64 ((rd_T61 ((rd_T40 l0_0 x3_2).f2) x5_4).f2), .int .u64 ((rd_T61 ((rd_T40 l0_0 x3_2).f2) x5_4).f3)]] rfl (by (try simp only [List.map_toArray, List.map_cons, List.map_nil]); first | done | rfl | (simp only [List.length_drop, List.length_take]; rfl)) ?_; (with_reducible refine (hurdleref08_Right.calls ((rd_T61 ((rd_T40 l0_0 x3_2).f2) x5_4).f0) ((rd_T61 ((rd_T40 l0_0 x3_2).f2) x5_4).f1) ((rd_T61 ((rd_T40 l0_0 x3_2).f2) x5_4).f2) ((rd_T61 ((rd_T40 l0_0 x3_2).f2) x5_4).f3) false _ A27.out).mono ?_); rintro e w34 ⟨rfl, hb⟩; refine ⟨_, rfl, ?_⟩; have n0_ := Aside0.mk (blk_below (g := gb240) (o := .cells #[.slice (some ad242) l0_0.length c0_0, .int .u32 a0_1] 25 (0, 0)) (by (with_reducible repeat (first | refine blk_drewN ?_ _ | refine blk_drew ?_ | refine blk_alloc ?_ _)); exact BK240.out) hb); have n1_ := Aside0.mk (blk_below (g := gb243) (o := .cells #[.int .u32 ((rd_T40 l0_0 x3_2).f0), .int .u32 ((rd_T40 l0_0 x3_2).f1), .slice (some ad245) ((rd_T40 l0_0 x3_2).f2).length c242_2, .int .u32 ((rd_T40 l0_0 x3_2).f3)] 40 (0, 0)) (by (with_reducible repeat (first | refine blk_drewN ?_ _ | refine blk_drew ?_ | refine blk_alloc ?_ _)); exact BK243.out) hb); have n2_ := Aside0.mk (below_step (by repeat (first | (with_reducible first | exact HB.out | apply below_alloc | apply pw_below_drewN | apply below_drew1 | refine below_set ?_ GE240.out | refine below_set ?_ GE243.out) | exact HB.out)) hb); clear BK240; clear BK243; clear HB; have BK240 := n0_; have BK243 := n1_; have HB := n2_; clear n0_ n1_ n2_; (try clear hb); (try clear hb2); (try clear hk); (try clear hi)))
                                go_ret
                                exact ⟨by first | rfl | (simp [errW_none, errW_some] <;> rfl) | (simp [*, errW_none, errW_some] <;> rfl), by repeat (first | (with_reducible first | exact HB.out | apply below_alloc | apply pw_below_drewN | apply below_drew1 | refine below_set ?_ GE240.out | refine below_set ?_ GE243.out) | exact HB.out)⟩
                            · rw [if_neg c26] at H
                              exact absurd H (by simp)
                          · rw [if_neg c25] at H
                            have c25b0 : decide (x5_4 < (((rd_T40 l0_0 x3_2).f2).length : Int)) = false := decide_eq_false c25
                            clear c25
                            have H' := Aside0.mk H
                            clear H
                            have hnb35 := NB243_240.out
                            have hnc35 := NB240_243.out
                            have hcz36_0 : wr.cell? ⟨gb243, 0, none⟩ = some (.int .u32 ((rd_T40 l0_0 x3_2).f0)) := (blk_cell BK243.out 0).trans rfl
                            have hcz36_1 : wr.cell? ⟨gb243, 1, none⟩ = some (.int .u32 ((rd_T40 l0_0 x3_2).f1)) := (blk_cell BK243.out 1).trans rfl
                            have hcz36_2 : wr.cell? ⟨gb243, 2, none⟩ = some (.slice A242_2 ((rd_T40 l0_0 x3_2).f2).length c242_2) := (blk_cell BK243.out 2).trans rfl
                            have hcz36_3 : wr.cell? ⟨gb243, 3, none⟩ = some (.int .u32 ((rd_T40 l0_0 x3_2).f3)) := (blk_cell BK243.out 3).trans rfl
                            have hfz36_0 := blk_frozen BK243.out 0
                            have hfz36_1 := blk_frozen BK243.out 1
                            have hfz36_2 := blk_frozen BK243.out 2
                            have hfz36_3 := blk_frozen BK243.out 3
                            go_wp2
                            go_roundg k4
                            case measure => have := HJ1.out; have := HK2.out; have := HJ11.out; have := HK4.out; omega
                            case rel => exact ⟨(wrap64 (x3_2 + 1)), (by first | rfl | (simp; done) | (simp [*]; done)), H', ⟨by have := HJ1.out; have := HK2.out; have := HJ11.out; have := HK4.out; omega⟩, ⟨by (with_reducible repeat (first | refine blk_drewN ?_ _ | refine blk_drew ?_ | refine blk_alloc ?_ _)); exact BK240.out⟩, ⟨by repeat (first | (with_reducible first | exact HB.out | apply below_alloc | apply pw_below_drewN | apply below_drew1 | refine below_set ?_ GE240.out | refine below_set ?_ GE243.out) | exact HB.out)⟩⟩
              · rw [if_neg c11] at H
                exact absurd H (by simp)
            · rw [if_neg c10] at H
              have c10b0 : decide (x3_2 < (l0_0.length : Int)) = false := decide_eq_false c10
              clear c10
              obtain rfl := Option.some.inj H
              have hcz37_0 : wr.cell? ⟨gb240, 0, none⟩ = some (.slice A0_0 l0_0.length c0_0) := (blk_cell BK240.out 0).trans rfl
              have hcz37_1 : wr.cell? ⟨gb240, 1, none⟩ = some (.int .u32 a0_1) := (blk_cell BK240.out 1).trans rfl
              have hfz37_0 := blk_frozen BK240.out 0
              have hfz37_1 := blk_frozen BK240.out 1
              go_wp2
              go_ret
              exact ⟨by first | rfl | (simp [errW_none, errW_some] <;> rfl) | (simp [*, errW_none, errW_some] <;> rfl), by repeat (first | (with_reducible first | exact HB.out | apply below_alloc | apply pw_below_drewN | apply below_drew1 | refine below_set ?_ GE240.out) | exact HB.out)⟩
end Go.Proofs.Ytekpbgmmogpbdaa.P
set_option linter.unusedVariables false
set_option linter.unusedSimpArgs false
set_option maxRecDepth 100000
namespace Go.Proofs.Ytekpbgmmogpbdaa.H
open Go.RowKit Go.Proofs.Ytekpbgmmogpbdaa.P Go.Proofs.YtekpbgmmogpbdaaW.PrintWords Go.Proofs.YtekpbgmmogpbdaaW.PrintMore
theorem ref_textP (n : Nat) (h : n < 18446744073709551616) : H.hurdleref01_Text.f (n : Int) = some (strOfNums (textL n)) := by
  unfold H.hurdleref01_Text.f
  rw [if_pos (by unfold u64P; omega)]
  rfl
theorem ref_action (v : Nat) (hv : v < 4294967296) (k : Nat) (hk : 30 ≤ k) : hurdleref09_Action.f k (v : Int) = some (actOf v).1 := by
  obtain ⟨k, rfl⟩ : ∃ m, k = m + 1 := ⟨k - 1, by omega⟩
  unfold hurdleref09_Action.f
  have hmid : ∀ b : Bool, b = true ∧ 327680 ≤ v ∧ v ≤ 331775 ∨ b = false ∧ ¬ (327680 ≤ v ∧ v ≤ 331775) → hurdleref09_Action.j0 (k + 1) (v : Int) b = some (actOf v).1 := by
    intro b hb
    simp only [hurdleref09_Action.j0]
    rcases act_cases v hv with ⟨p, hp, h2, h3, _⟩ | ⟨d, hd, hvd, h3⟩ | ⟨hm, hmm, h3⟩
    · rw [h3]
      have hf : b = false := by
        rcases hb with ⟨_, h⟩ | ⟨h, _⟩
        · exact absurd h2 (AL_mid (v : Int) (by omega) (by omega) p hp)
        · exact h
      subst hf
      rw [if_neg (by decide)]
      rw [← h2]
      unfold AL at hp
      simp only [List.mem_cons, List.not_mem_nil, or_false] at hp
      rcases hp with rfl | rfl | rfl | rfl
      · rw [if_pos rfl]
      · rw [if_neg (by decide), if_pos rfl]
      · rw [if_neg (by decide), if_neg (by decide), if_pos rfl]
      · rw [if_neg (by decide), if_neg (by decide), if_neg (by decide), if_pos rfl]
    · rw [h3]
      have ht : b = true := by
        rcases hb with ⟨h, _⟩ | ⟨_, h⟩
        · exact h
        · exact absurd ⟨by omega, by omega⟩ h
      subst ht
      rw [if_pos rfl, show ((v : Int) - 327680) % 4294967296 = ((d : Nat) : Int) by omega, ref_textP d (by omega)]
      simp only [Option.bind_some]
      have hs := textL_size d (by omega)
      rw [if_pos (by omega)]
      rfl
    · rw [h3]
      have hf : b = false := by
        rcases hb with ⟨_, h⟩ | ⟨h, _⟩
        · exact absurd h hmm
        · exact h
      subst hf
      have m0 := hm (⟨#[107, 105, 108, 108]⟩, 0) (by unfold AL; simp)
      have m1 := hm (⟨#[116, 114, 97, 112]⟩, 196608) (by unfold AL; simp)
      have m2 := hm (⟨#[108, 111, 103]⟩, 2147221504) (by unfold AL; simp)
      have m3 := hm (⟨#[97, 108, 108, 111, 119]⟩, 2147418112) (by unfold AL; simp)
      rw [if_neg (by decide), if_neg (fun h => m0 h.symm), if_neg (fun h => m1 h.symm), if_neg (fun h => m2 h.symm), if_neg (fun h => m3 h.symm)]
  by_cases h1 : (v : Int) ≥ 327680
  · rw [if_pos h1]
    by_cases h2 : (v : Int) ≤ 331775
    · rw [decide_eq_true h2]; exact hmid true (.inl ⟨rfl, by omega, by omega⟩)
    · rw [decide_eq_false h2]; exact hmid false (.inr ⟨rfl, by omega⟩)
  · rw [if_neg h1]; exact hmid false (.inr ⟨rfl, by omega⟩)
end Go.Proofs.Ytekpbgmmogpbdaa.H
set_option linter.unusedVariables false
set_option linter.unusedSimpArgs false
set_option maxRecDepth 100000
namespace Go.Proofs.Ytekpbgmmogpbdaa.H
open Go.RowKit Go.Proofs.Ytekpbgmmogpbdaa.P Go.Proofs.YtekpbgmmogpbdaaW.PrintWords
theorem action_ev {v : Int} (h : u32P v) : Ev (fun k => hurdleref09_Action.f k v) (actOf v.toNat).1 := by
  obtain ⟨hn, he⟩ := toN h
  refine ⟨30, fun k hk => ?_⟩
  have := ref_action v.toNat hn k hk
  rw [he] at this
  exact this
theorem action_empty {v : Int} (h : u32P v) : ((actOf v.toNat).1.toList == ([] : List UInt8)) = !(actB v) := by
  unfold actB
  rcases act_cases v.toNat (toN h).1 with ⟨p, hp, h2, h3, h4⟩ | ⟨d, hd, h2, h3⟩ | ⟨h1, h2, h3⟩
  · rw [h3, ByteArray.toList_eq]
    cases hh : p.1.data.toList with
    | nil => exact absurd hh h4
    | cons a l => rfl
  · rw [h3, ByteArray.toList_eq, ba_add]
    rfl
  · rw [h3, ByteArray.toList_eq]; rfl
theorem ref_Right_f (a b c d : Int) : P.hurdleref08_Right.f a b c d = some (rightB a b) := by
  unfold P.hurdleref08_Right.f rightB
  by_cases h1 : a ≥ 0
  · rw [if_pos h1]
    by_cases h2 : a ≤ 5
    · rw [if_pos h2]
      by_cases h3 : b ≥ 0
      · rw [if_pos h3]; simp [h1, h3]; omega
      · rw [if_neg h3]; simp [h1]; omega
    · rw [if_neg h2]; simp; omega
  · rw [if_neg h1]; simp [h1]
theorem refRight_l1 (df : Int) (L : List S40) (x : S40) (i : Nat) (hi : i ≤ 1000) (hl : x.f2.length ≤ 1000) (r : Bool) (hn : Ev (fun k => hurdleref10_Right.l0 k ((i + 1 : Nat) : Int) L df) r) : ∀ (d j : Nat), j + d = x.f2.length →
    Ev (fun k => hurdleref10_Right.l1 k (i : Int) (j : Int) L df x.f0 x.f1 x.f2 x.f3) (condsB (x.f2.drop j) && r) := by
  intro d
  induction d with
  | zero =>
    intro j hj
    refine Ev.step (f := fun k => hurdleref10_Right.l0 k ((i + 1 : Nat) : Int) L df) (fun k => ?_) ?_
    · simp only [hurdleref10_Right.l1]
      rw [if_neg (by omega), wS i (by omega)]
    · rw [List.drop_eq_nil_of_le (by omega)]
      exact hn
  | succ d ih =>
    intro j hj
    have hlt : j < x.f2.length := by omega
    have hd : x.f2.drop j = x.f2[j] :: x.f2.drop (j + 1) := List.drop_eq_getElem_cons hlt
    by_cases hr : rightB x.f2[j].f0 x.f2[j].f1 = true
    · refine Ev.step (f := fun k => hurdleref10_Right.l1 k (i : Int) ((j + 1 : Nat) : Int) L df x.f0 x.f1 x.f2 x.f3) (fun k => ?_) ?_
      · simp only [hurdleref10_Right.l1]
        rw [if_pos (by omega), if_pos (by omega), rd61 x.f2 j hlt, ref_Right_f, Option.bind_some, if_pos hr, wS j (by omega)]
      · rw [hd, show condsB (x.f2[j] :: x.f2.drop (j + 1)) = condsB (x.f2.drop (j + 1)) by simp only [condsB, List.all_cons, hr, Bool.true_and]]
        exact ih (j + 1) (by omega)
    · refine Ev.step (f := fun _ => some false) (fun k => ?_) ?_
      · simp only [hurdleref10_Right.l1]
        rw [if_pos (by omega), if_pos (by omega), rd61 x.f2 j hlt, ref_Right_f, Option.bind_some, if_neg hr]
      · rw [hd, show condsB (x.f2[j] :: x.f2.drop (j + 1)) = false by simp only [condsB, List.all_cons]; rw [Bool.eq_false_iff.2 hr]; rfl]
        exact Ev.now _
theorem refRight_l0 (df : Int) (L : List S40) (hl : L.length ≤ 1000) (hk : ∀ x ∈ L, u32P x.f3) : ∀ (d i : Nat), i + d = L.length →
    Ev (fun k => hurdleref10_Right.l0 k (i : Int) L df) (rulesB (L.drop i)) := by
  intro d
  induction d with
  | zero =>
    intro i hi
    refine Ev.step (f := fun _ => some true) (fun k => ?_) ?_
    · simp only [hurdleref10_Right.l0]
      rw [if_neg (by omega)]
    · rw [List.drop_eq_nil_of_le (by omega)]
      exact Ev.now _
  | succ d ih =>
    intro i hi
    have hlt : i < L.length := by omega
    have hd : L.drop i = L[i] :: L.drop (i + 1) := List.drop_eq_getElem_cons hlt
    have hx := hk L[i] (List.getElem_mem hlt)
    have hrest := ih (i + 1) (by omega)
    have hj2 : ∀ b : Bool, (b = false → L[i].f2.length ≤ 1000) → Ev (fun k => hurdleref10_Right.j2 k (i : Int) b L df L[i].f0 L[i].f1 L[i].f2 L[i].f3) (!b && (condsB L[i].f2 && rulesB (L.drop (i + 1)))) := by
      intro b hb
      cases b with
      | true => exact Ev.step (f := fun _ => some false) (fun k => by simp only [hurdleref10_Right.j2, if_true]) (Ev.now _)
      | false =>
        refine Ev.step (f := fun k => hurdleref10_Right.l1 k (i : Int) ((0 : Nat) : Int) L df L[i].f0 L[i].f1 L[i].f2 L[i].f3) (fun k => ?_) ?_
        · simp only [hurdleref10_Right.j2, Bool.false_eq_true, if_false]; rfl
        · exact refRight_l1 df L L[i] i (by omega) (hb rfl) _ hrest L[i].f2.length 0 (by omega)
    rw [hd, show rulesB (L[i] :: L.drop (i + 1)) = (ruleB L[i] && rulesB (L.drop (i + 1))) by simp only [rulesB, List.all_cons]]
    by_cases h4 : (L[i].f2.length : Int) > 4
    · refine Ev.step (f := fun k => hurdleref10_Right.j2 k (i : Int) true L df L[i].f0 L[i].f1 L[i].f2 L[i].f3) (fun k => ?_) ?_
      · simp only [hurdleref10_Right.l0]
        rw [if_pos (by omega), if_pos (by omega), rd40 L i hlt, if_pos h4]
      · have : ruleB L[i] = false := by
          unfold ruleB
          rw [show decide (L[i].f2.length ≤ 4) = false from decide_eq_false (by omega)]
          simp
        rw [this]
        exact hj2 true (by simp)
    · refine Ev.step (f := fun k => (hurdleref09_Action.f k L[i].f3).bind fun t => hurdleref10_Right.j2 k (i : Int) (t.toList == ([] : List UInt8)) L df L[i].f0 L[i].f1 L[i].f2 L[i].f3) (fun k => ?_) ?_
      · simp only [hurdleref10_Right.l0]
        rw [if_pos (by omega), if_pos (by omega), rd40 L i hlt, if_neg h4]
      · refine Ev.bind (action_ev hx) ?_
        rw [action_empty hx]
        have := hj2 (!(actB L[i].f3)) (fun _ => by omega)
        rw [show (ruleB L[i] && rulesB (L.drop (i + 1))) = (!!(actB L[i].f3) && (condsB L[i].f2 && rulesB (L.drop (i + 1)))) by
          unfold ruleB
          rw [show decide (L[i].f2.length ≤ 4) = true from decide_eq_true (by omega), Bool.not_not, Bool.and_true]
          cases condsB L[i].f2 <;> cases actB L[i].f3 <;> rfl]
        exact this
theorem refRight_any (L : List S40) (df : Int) (h : polK L df) : Ev (fun k => hurdleref10_Right.f k L df) (polB L df) := by
  unfold hurdleref10_Right.f polB
  by_cases h64 : (L.length : Int) > 64
  · rw [show decide (L.length ≤ 64) = false from decide_eq_false (by omega), Bool.and_false, Bool.and_false]
    exact Ev_pos h64 (Ev.step (f := fun _ => some false) (fun k => by simp only [hurdleref10_Right.j0, if_true]) (Ev.now _))
  · have h0 := refRight_l0 df L (by omega) (fun x hx => (h.1 x hx).2.2.1) L.length 0 (by omega)
    have hj : ∀ b : Bool, Ev (fun k => hurdleref10_Right.j0 k b L df) (!b && rulesB L) := by
      intro b
      cases b with
      | true => exact Ev.step (f := fun _ => some false) (fun k => by simp only [hurdleref10_Right.j0, if_true]) (Ev.now _)
      | false => exact Ev.step (f := fun k => hurdleref10_Right.l0 k ((0 : Nat) : Int) L df) (fun k => by simp only [hurdleref10_Right.j0, Bool.false_eq_true, if_false]; rfl) h0
    rw [show decide (L.length ≤ 64) = true from decide_eq_true (by omega), Bool.and_true]
    refine Ev_neg h64 (Ev.bind (action_ev h.2) ?_)
    rw [action_empty h.2, Bool.and_comm]
    have := hj (!(actB df))
    rw [Bool.not_not] at this
    exact this
end Go.Proofs.Ytekpbgmmogpbdaa.H
set_option linter.unusedVariables false
set_option linter.unusedSimpArgs false
set_option maxRecDepth 100000
namespace Go.Proofs.Ytekpbgmmogpbdaa.H
open Go.RowKit Go.Proofs.Ytekpbgmmogpbdaa.P Go.Proofs.YtekpbgmmogpbdaaW.PrintWords
def small (L : List S40) : Prop := L.length ≤ 1000 ∧ ∀ x ∈ L, x.f2.length ≤ 1000
open Classical in
noncomputable def denote_Judge.f (l0_0 : List S40) (a0_1 : Int) (a1_0 : Int) (a1_1 : Int) (a1_2 : Int) (a1_3 : Int) (a1_4 : Int) (a1_5 : Int) (a1_6 : Int) (a1_7 : Int) (a1_8 : Int) : Option (Int × Int) := if polK l0_0 a0_1 ∧ small l0_0 ∧ IsDat a1_0 a1_1 a1_2 [a1_3, a1_4, a1_5, a1_6, a1_7, a1_8] then some (judgeR l0_0 a0_1 a1_0 a1_1 [a1_3, a1_4, a1_5, a1_6, a1_7, a1_8]) else none
theorem denote_Judge.calls (A0_0 : Option Addr) (c0_0 : Nat) (l0_0 : List S40) (a0_1 : Int) (a1_0 : Int) (a1_1 : Int) (a1_2 : Int) (a1_3 : Int) (a1_4 : Int) (a1_5 : Int) (a1_6 : Int) (a1_7 : Int) (a1_8 : Int) (r1 : Int) (r2 : Int) (w : World) (hr0_0 : Kd.C k40 w A0_0 l0_0.length l0_0) (hc0_0 : l0_0.length ≤ c0_0) (h : denote_Judge.f l0_0 a0_1 a1_0 a1_1 a1_2 a1_3 a1_4 a1_5 a1_6 a1_7 a1_8 = some (r1, r2)) :
    Calls Try.prog 25 #[.agg #[.slice A0_0 l0_0.length c0_0, .int .u32 a0_1], .agg #[.int .u32 a1_0, .int .u32 a1_1, .int .u64 a1_2, .int .u64 a1_3, .int .u64 a1_4, .int .u64 a1_5, .int .u64 a1_6, .int .u64 a1_7, .int .u64 a1_8]] w fun e w' => e = .returned (.tuple #[.int .u32 r1, .int .i64 r2]) ∧ Below w.heap.size w w' := by
  unfold denote_Judge.f at h
  split at h
  · rename_i hh
    have he := Option.some.inj h
    have := Judge_lit A0_0 c0_0 l0_0 a0_1 a1_0 a1_1 a1_2 a1_3 a1_4 a1_5 a1_6 a1_7 a1_8 hh.2.2 hh.1 hh.2.1.1 hh.2.1.2 hc0_0 w hr0_0
    rw [he] at this
    exact this
  · simp at h
open Classical in
noncomputable def denote_Fits.f (a0_0 : Int) (a0_1 : Int) (l0_2 : List S61) (a0_3 : Int) (a1_0 : Int) (a1_1 : Int) (a1_2 : Int) (a1_3 : Int) (a1_4 : Int) (a1_5 : Int) (a1_6 : Int) (a1_7 : Int) (a1_8 : Int) : Option (Bool) := if (∀ x ∈ l0_2, u64P x.f2) ∧ IsDat a1_0 a1_1 a1_2 [a1_3, a1_4, a1_5, a1_6, a1_7, a1_8] then some (fitsB a0_0 a0_1 l0_2 a1_0 a1_1 [a1_3, a1_4, a1_5, a1_6, a1_7, a1_8]) else none
theorem denote_Fits.calls (a0_0 : Int) (a0_1 : Int) (A0_2 : Option Addr) (c0_2 : Nat) (l0_2 : List S61) (a0_3 : Int) (a1_0 : Int) (a1_1 : Int) (a1_2 : Int) (a1_3 : Int) (a1_4 : Int) (a1_5 : Int) (a1_6 : Int) (a1_7 : Int) (a1_8 : Int) (r : Bool) (w : World) (hr0_2 : Kd.C k61 w A0_2 l0_2.length l0_2) (hc0_2 : l0_2.length ≤ c0_2) (h : denote_Fits.f a0_0 a0_1 l0_2 a0_3 a1_0 a1_1 a1_2 a1_3 a1_4 a1_5 a1_6 a1_7 a1_8 = some r) :
    Calls Try.prog 26 #[.agg #[.int .u32 a0_0, .int .u32 a0_1, .slice A0_2 l0_2.length c0_2, .int .u32 a0_3], .agg #[.int .u32 a1_0, .int .u32 a1_1, .int .u64 a1_2, .int .u64 a1_3, .int .u64 a1_4, .int .u64 a1_5, .int .u64 a1_6, .int .u64 a1_7, .int .u64 a1_8]] w fun e w' => e = .returned (.bool r) ∧ Below w.heap.size w w' := by
  unfold denote_Fits.f at h
  split at h
  · rename_i hh
    have he := Option.some.inj h
    have := Fits_lit a0_0 a0_1 a0_3 A0_2 c0_2 l0_2 a1_0 a1_1 a1_2 a1_3 a1_4 a1_5 a1_6 a1_7 a1_8 hh.2 hh.1 hc0_2 w hr0_2
    rw [he] at this
    exact this
  · simp at h
open Classical in
noncomputable def hurdlelaw10_Great.f (l0_0 : List S40) (a0_1 : Int) : Option (Bool) := if l0_0.length ≤ 9223372036854775807 then some (greatB l0_0) else none
theorem hurdlelaw10_Great.calls (A0_0 : Option Addr) (c0_0 : Nat) (l0_0 : List S40) (a0_1 : Int) (r : Bool) (w : World) (hr0_0 : Kd.C k40 w A0_0 l0_0.length l0_0) (hc0_0 : l0_0.length ≤ c0_0) (h : hurdlelaw10_Great.f l0_0 a0_1 = some r) :
    Calls Try.prog 14 #[.agg #[.slice A0_0 l0_0.length c0_0, .int .u32 a0_1]] w fun e w' => e = .returned (.bool r) ∧ Below w.heap.size w w' := by
  unfold hurdlelaw10_Great.f at h
  split at h
  · rename_i hh
    have he := Option.some.inj h
    obtain ⟨k, hk⟩ := Ev.rounds (great_ev l0_0 a0_1 hh)
    rw [he] at hk
    exact (P.hurdlelaw10_Great.calls k A0_0 c0_0 l0_0 a0_1 r w hr0_0 hc0_0 hk).mono (fun e w' h => h)
  · simp at h
open Classical in
noncomputable def hurdleref10_Right.f (l0_0 : List S40) (a0_1 : Int) : Option (Bool) := if polK l0_0 a0_1 then some (polB l0_0 a0_1) else none
theorem hurdleref10_Right.calls (A0_0 : Option Addr) (c0_0 : Nat) (l0_0 : List S40) (a0_1 : Int) (r : Bool) (w : World) (hr0_0 : Kd.C k40 w A0_0 l0_0.length l0_0) (hc0_0 : l0_0.length ≤ c0_0) (h : hurdleref10_Right.f l0_0 a0_1 = some r) :
    Calls Try.prog 17 #[.agg #[.slice A0_0 l0_0.length c0_0, .int .u32 a0_1]] w fun e w' => e = .returned (.bool r) ∧ Below w.heap.size w w' := by
  unfold hurdleref10_Right.f at h
  split at h
  · rename_i hh
    have he := Option.some.inj h
    obtain ⟨k, hk⟩ := Ev.rounds (refRight_any l0_0 a0_1 hh)
    rw [he] at hk
    exact (P.hurdleref10_Right.calls k A0_0 c0_0 l0_0 a0_1 r w hr0_0 hc0_0 hk).mono (fun e w' h => h)
  · simp at h
def hurdlelaw11_knows.f : Option Bool := some true
theorem hurdlelaw11_knows.calls (r : Bool) (w : World) (h : hurdlelaw11_knows.f = some r) : Calls Try.prog 23 #[] w fun e w' => e = .returned (.bool r) ∧ Below w.heap.size w w' := by
  obtain rfl := Option.some.inj h
  exact Knows11 w
end Go.Proofs.Ytekpbgmmogpbdaa.H
