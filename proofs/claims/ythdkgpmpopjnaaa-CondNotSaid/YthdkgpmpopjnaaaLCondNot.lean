/-
CondNot.
-/
import Derived.Test.YthdkgpmpopjnaaaProg
import Derived.WalkKit
import Derived.WalkSpells
import Derived.WalkLawsBesides
import Derived.Handy
import Derived.Lib.Hide
import Derived.Deep.QuietTactic
import Derived.BigQuiet
import Derived.Test.YthdkgpmpopjnaaaHRHolds
import Derived.Test.YthdkgpmpopjnaaaWWords
set_option linter.unusedVariables false
set_option linter.unusedSimpArgs false
namespace Go.Proofs.Ythdkgpmpopjnaaa.H
open Go.RowKit Go.Proofs.YthdkgpmpopjnaaaW.PrintWords

attribute [local go_sem high] eqCn
theorem wpList_load_row_g {P : Program} {ops : Array Oper} {rest : List Oper} {o : Oper} {a : Act} {w : World} {Q : Exit → Act → World → Prop} (hw : Region.wanted o (yielded ops a.tmps) = true) (ty : TypeId) (x : Operand) (ho : o.op = .load ty x)
    (g : Nat) (hx : a.eval x = .pointer (some ⟨g, 0, none⟩)) (t : TypeId) (cs : Array Value) (fr : Nat × Nat) (d : TypeDesc) (hg : w.heap[g]? = some (.cells cs t fr))
    (hu : P.underlying ty = some d) (hd : (match d with | .struct _ | .array _ _ => true | _ => false) = true) (hi : (P.info? ty).map (·.size) = some cs.size)
    (h : wpList P ops Q rest (a.put o.dst (.agg cs)) w) : wpList P ops Q (o :: rest) a w :=
  wpList_step fun K hK => by rw [if_pos hw]; exact wp_load_row ty x ho g hx t cs fr d hg hu hd hi (hK _ _ h)
set_option maxHeartbeats 4000000 in
theorem CondNot_no (a c m v : Int) (DR : Array Value) (HID : (Try.prog.info? 28).map (·.size) = some DR.size) (NO : Gives Try.prog 23 #[.agg #[.int .i64 a, .int .i64 c, .int .u64 m, .int .u64 v]] (.agg #[.int .i64 a, .int .i64 c, .int .u64 m, .int .u64 v])) (RR : Gives Try.prog 15 #[.agg #[.int .i64 a, .int .i64 c, .int .u64 m, .int .u64 v]] (.bool false)) (HO : Gives Try.prog 16 #[.agg #[.int .i64 a, .int .i64 c, .int .u64 m, .int .u64 v], .agg DR] (.bool false)) (KN : Gives Try.prog 18 #[] (.bool true)) (w : World) :
    Calls Try.prog 5 #[.agg #[.int .i64 a, .int .i64 c, .int .u64 m, .int .u64 v], .agg DR] w fun e w' => e = .returned (.bool true) ∧ Below w.heap.size w w' := by
  replace NO := Lib.hid NO
  replace RR := Lib.hid RR
  replace HO := Lib.hid HO
  replace KN := Lib.hid KN
  have HIC := Lib.hid (info_cond (.int .i64 a) (.int .i64 c) (.int .u64 m) (.int .u64 v))
  have HIN := Lib.hid (info_cond (.int .i64 a) (.int .i64 c) (.int .u64 m) (.int .u64 v))
  replace HID := Lib.hid HID
  have q1 := Lib.hid (alloc2d w (Obj.cells #[.int .i64 a, .int .i64 c, .int .u64 m, .int .u64 v] 24) (Obj.cells DR 28)).1
  have q2 := Lib.hid (alloc2d w (Obj.cells #[.int .i64 a, .int .i64 c, .int .u64 m, .int .u64 v] 24) (Obj.cells DR 28)).2.1
  have q4 := Lib.hid (alloc2d w (Obj.cells #[.int .i64 a, .int .i64 c, .int .u64 m, .int .u64 v] 24) (Obj.cells DR 28)).2.2.2
  go_enter Try.func5, Try.ntmps5
  go_wp2_with (refine wpList_load_row rfl 24 (.tmp 2) rfl _ rfl _ _ _ _ q1.out Try.underlying24 rfl HIC.out ?_)
  refine (NO.out _).mono ?_
  rintro e w1 ⟨rfl, hb⟩
  have q1_1 := Lib.hid (blk_below q1.out hb)
  have q2_1 := Lib.hid (blk_below q2.out hb)
  have q4_1 := Lib.hid (below_more q4.out (Nat.le_refl _) hb)
  clear hb q1 q2 q4
  have r1 := Lib.hid (blk_alloc q1_1.out (.cells #[.int .i64 a, .int .i64 c, .int .u64 m, .int .u64 v] 24))
  have r2 := Lib.hid (blk_alloc q2_1.out (.cells #[.int .i64 a, .int .i64 c, .int .u64 m, .int .u64 v] 24))
  have r3 := Lib.hid (heap_alloc_new w1 (.cells #[.int .i64 a, .int .i64 c, .int .u64 m, .int .u64 v] 24))
  have r4 := Lib.hid (q4_1.out.alloc q4_1.out.size (.cells #[.int .i64 a, .int .i64 c, .int .u64 m, .int .u64 v] 24))
  clear q1_1 q2_1 q4_1
  go_wp2_with (refine wpList_load_row rfl 24 (.tmp 2) rfl _ rfl _ _ _ _ r1.out Try.underlying24 rfl HIC.out ?_)
  refine (RR.out _).mono ?_
  rintro e w2 ⟨rfl, hb⟩
  have r1_2 := Lib.hid (blk_below r1.out hb)
  have r2_2 := Lib.hid (blk_below r2.out hb)
  have r3_2 := Lib.hid (blk_below r3.out hb)
  have r4_2 := Lib.hid (below_more r4.out (Nat.le_refl _) hb)
  clear hb r1 r2 r3 r4
  have hE : eqCB a c m v a c m v = true := eqCB_same _ _ _ _
  go_wp2_with (first | (refine wpList_load_row_g rfl 24 (.tmp 5) rfl _ rfl _ _ _ _ r3_2.out Try.underlying24 rfl HIC.out ?_) | (refine wpList_load_row_g rfl 24 (.tmp 2) rfl _ rfl _ _ _ _ r1_2.out Try.underlying24 rfl HIC.out ?_) | (refine wpList_load_row_g rfl 28 (.tmp 3) rfl _ rfl _ _ _ _ r2_2.out Try.underlying28 rfl HID.out ?_))
  refine (HO.out _).mono ?_
  rintro e w3 ⟨rfl, hb⟩
  have r4_3 := Lib.hid (below_more r4_2.out (Nat.le_refl _) hb)
  clear hb  r4_2
  go_wp2_with fail
  refine (KN.out _).mono ?_
  rintro e w4 ⟨rfl, hb⟩
  have r4_4 := Lib.hid (below_more r4_3.out (Nat.le_refl _) hb)
  clear hb  r4_3
  go_wp2_with fail
  go_ret
  exact ⟨rfl, r4_4.out⟩
set_option maxHeartbeats 4000000 in
theorem CondNot_true (a c c2 m v : Int) (DR : Array Value) (HID : (Try.prog.info? 28).map (·.size) = some DR.size) (NO : Gives Try.prog 23 #[.agg #[.int .i64 a, .int .i64 c, .int .u64 m, .int .u64 v]] (.agg #[.int .i64 a, .int .i64 c2, .int .u64 m, .int .u64 v])) (NN : Gives Try.prog 23 #[.agg #[.int .i64 a, .int .i64 c2, .int .u64 m, .int .u64 v]] (.agg #[.int .i64 a, .int .i64 c, .int .u64 m, .int .u64 v])) (RR : Gives Try.prog 15 #[.agg #[.int .i64 a, .int .i64 c, .int .u64 m, .int .u64 v]] (.bool true)) (HO : Gives Try.prog 16 #[.agg #[.int .i64 a, .int .i64 c, .int .u64 m, .int .u64 v], .agg DR] (.bool true)) (HN : Gives Try.prog 16 #[.agg #[.int .i64 a, .int .i64 c2, .int .u64 m, .int .u64 v], .agg DR] (.bool false)) (KN : Gives Try.prog 18 #[] (.bool true)) (w : World) :
    Calls Try.prog 5 #[.agg #[.int .i64 a, .int .i64 c, .int .u64 m, .int .u64 v], .agg DR] w fun e w' => e = .returned (.bool true) ∧ Below w.heap.size w w' := by
  replace NO := Lib.hid NO
  replace NN := Lib.hid NN
  replace RR := Lib.hid RR
  replace HO := Lib.hid HO
  replace HN := Lib.hid HN
  replace KN := Lib.hid KN
  have HIC := Lib.hid (info_cond (.int .i64 a) (.int .i64 c) (.int .u64 m) (.int .u64 v))
  have HIN := Lib.hid (info_cond (.int .i64 a) (.int .i64 c2) (.int .u64 m) (.int .u64 v))
  replace HID := Lib.hid HID
  have q1 := Lib.hid (alloc2d w (Obj.cells #[.int .i64 a, .int .i64 c, .int .u64 m, .int .u64 v] 24) (Obj.cells DR 28)).1
  have q2 := Lib.hid (alloc2d w (Obj.cells #[.int .i64 a, .int .i64 c, .int .u64 m, .int .u64 v] 24) (Obj.cells DR 28)).2.1
  have q4 := Lib.hid (alloc2d w (Obj.cells #[.int .i64 a, .int .i64 c, .int .u64 m, .int .u64 v] 24) (Obj.cells DR 28)).2.2.2
  go_enter Try.func5, Try.ntmps5
  go_wp2_with (refine wpList_load_row rfl 24 (.tmp 2) rfl _ rfl _ _ _ _ q1.out Try.underlying24 rfl HIC.out ?_)
  refine (NO.out _).mono ?_
  rintro e w1 ⟨rfl, hb⟩
  have q1_1 := Lib.hid (blk_below q1.out hb)
  have q2_1 := Lib.hid (blk_below q2.out hb)
  have q4_1 := Lib.hid (below_more q4.out (Nat.le_refl _) hb)
  clear hb q1 q2 q4
  have r1 := Lib.hid (blk_alloc q1_1.out (.cells #[.int .i64 a, .int .i64 c2, .int .u64 m, .int .u64 v] 24))
  have r2 := Lib.hid (blk_alloc q2_1.out (.cells #[.int .i64 a, .int .i64 c2, .int .u64 m, .int .u64 v] 24))
  have r3 := Lib.hid (heap_alloc_new w1 (.cells #[.int .i64 a, .int .i64 c2, .int .u64 m, .int .u64 v] 24))
  have r4 := Lib.hid (q4_1.out.alloc q4_1.out.size (.cells #[.int .i64 a, .int .i64 c2, .int .u64 m, .int .u64 v] 24))
  clear q1_1 q2_1 q4_1
  go_wp2_with (refine wpList_load_row rfl 24 (.tmp 2) rfl _ rfl _ _ _ _ r1.out Try.underlying24 rfl HIC.out ?_)
  refine (RR.out _).mono ?_
  rintro e w2 ⟨rfl, hb⟩
  have r1_2 := Lib.hid (blk_below r1.out hb)
  have r2_2 := Lib.hid (blk_below r2.out hb)
  have r3_2 := Lib.hid (blk_below r3.out hb)
  have r4_2 := Lib.hid (below_more r4.out (Nat.le_refl _) hb)
  clear hb r1 r2 r3 r4
  have hE : eqCB a c m v a c m v = true := eqCB_same _ _ _ _
  go_wp2_with fail
  refine wp_region_held_drew (S := (fun w' => (w'.heap[w.heap.size]? = some (.cells #[.int .i64 a, .int .i64 c, .int .u64 m, .int .u64 v] 24 (0, 0))) ∧ (w'.heap[(w.heap.size + 1)]? = some (.cells DR 28 (0, 0))) ∧ (w'.heap[w1.heap.size]? = some (.cells #[.int .i64 a, .int .i64 c2, .int .u64 m, .int .u64 v] 24 (0, 0))) ∧ (Below w.heap.size w w'))) (by kernel_rfl) ⟨r1_2.out, r2_2.out, r3_2.out, r4_2.out.drew⟩ (fun hNew => ?_)
  have hHeld := Lib.hid hNew
  clear hNew
  refine wpAnyH_takeL 0 rfl (by kernel_rfl) (by kernel_rfl) (by kernel_rfl) (fun _ _ _ h => h) hHeld.out (yieldsIf_row rfl 24 (.tmp 5) rfl _ rfl _ #[.int .i64 a, .int .i64 c2, .int .u64 m, .int .u64 v] _ _ (fun _ h => h.2.2.1) Try.underlying24 rfl HIN.out) ?_
  try simp only [Act.put, List.setIfInBounds_toArray, List.set_cons_zero, List.set_cons_succ]
  refine wpAnyH_takeL 1 rfl (by kernel_rfl) (by kernel_rfl) (by kernel_rfl) (fun _ _ _ h => h) hHeld.out (yieldsIf_row rfl 28 (.tmp 3) rfl _ rfl _ DR _ _ (fun _ h => h.2.1) Try.underlying28 rfl HID.out) ?_
  try simp only [Act.put, List.setIfInBounds_toArray, List.set_cons_zero, List.set_cons_succ]
  refine wpAnyH_takeL 3 rfl (by kernel_rfl) (by kernel_rfl) (by kernel_rfl) (fun _ _ _ h => h) hHeld.out (yieldsIf_row rfl 24 (.tmp 2) rfl _ rfl _ #[.int .i64 a, .int .i64 c, .int .u64 m, .int .u64 v] _ _ (fun _ h => h.1) Try.underlying24 rfl HIC.out) ?_
  try simp only [Act.put, List.setIfInBounds_toArray, List.set_cons_zero, List.set_cons_succ]
  refine wpAnyH_takeL 4 rfl (by kernel_rfl) (by kernel_rfl) (by kernel_rfl) (fun _ _ _ h => h) hHeld.out (yieldsIf_row rfl 28 (.tmp 3) rfl _ rfl _ DR _ _ (fun _ h => h.2.1) Try.underlying28 rfl HID.out) ?_
  try simp only [Act.put, List.setIfInBounds_toArray, List.set_cons_zero, List.set_cons_succ]
  refine wpAnyH_one 2 _ (by kernel_rfl) rfl (fun _ h => h) (fun K hK => ?_)
  go_simp
  refine (HN.out _).mono ?_
  rintro _ v30 ⟨rfl, hb⟩
  refine hK.out _ _ ⟨blk_below (hHeld.out.1) hb, blk_below (hHeld.out.2.1) hb, blk_below (hHeld.out.2.2.1) hb, below_more (hHeld.out.2.2.2) (Nat.le_refl _) hb⟩ (fun hNew => ?_)
  clear hK K hHeld hb
  have hHeld := Lib.hid hNew
  clear hNew
  try simp only [Act.put, List.setIfInBounds_toArray, List.set_cons_zero, List.set_cons_succ]
  refine wpAnyH_one 5 _ (by kernel_rfl) rfl (fun _ h => h) (fun K hK => ?_)
  go_simp
  refine (HO.out _).mono ?_
  rintro _ v31 ⟨rfl, hb⟩
  refine hK.out _ _ ⟨blk_below (hHeld.out.1) hb, blk_below (hHeld.out.2.1) hb, blk_below (hHeld.out.2.2.1) hb, below_more (hHeld.out.2.2.2) (Nat.le_refl _) hb⟩ (fun hNew => ?_)
  clear hK K hHeld hb
  have hHeld := Lib.hid hNew
  clear hNew
  try simp only [Act.put, List.setIfInBounds_toArray, List.set_cons_zero, List.set_cons_succ]
  refine wpAnyH_takeL 6 (v := ?_) rfl (by kernel_rfl) (by kernel_rfl) (by kernel_rfl) (fun _ _ _ h => h) hHeld.out (yieldsIf_of rfl ?_) ?_
  rotate_left
  · (intro w hSw; go_simp <;> with_reducible rfl)
  try simp only [Act.put, List.setIfInBounds_toArray, List.set_cons_zero, List.set_cons_succ]
  refine wpAnyH_takeL 7 (v := ?_) rfl (by kernel_rfl) (by kernel_rfl) (by kernel_rfl) (fun _ _ _ h => h) hHeld.out (yieldsIf_of rfl ?_) ?_
  rotate_left
  · (intro w hSw; go_simp <;> with_reducible rfl)
  try simp only [Act.put, List.setIfInBounds_toArray, List.set_cons_zero, List.set_cons_succ]
  refine wpAnyH_takeL 8 rfl (by kernel_rfl) (by kernel_rfl) (by kernel_rfl) (fun _ _ _ h => h) hHeld.out (yieldsIf_row rfl 24 (.tmp 5) rfl _ rfl _ #[.int .i64 a, .int .i64 c2, .int .u64 m, .int .u64 v] _ _ (fun _ h => h.2.2.1) Try.underlying24 rfl HIN.out) ?_
  try simp only [Act.put, List.setIfInBounds_toArray, List.set_cons_zero, List.set_cons_succ]
  refine wpAnyH_takeL 10 rfl (by kernel_rfl) (by kernel_rfl) (by kernel_rfl) (fun _ _ _ h => h) hHeld.out (yieldsIf_row rfl 24 (.tmp 2) rfl _ rfl _ #[.int .i64 a, .int .i64 c, .int .u64 m, .int .u64 v] _ _ (fun _ h => h.1) Try.underlying24 rfl HIC.out) ?_
  try simp only [Act.put, List.setIfInBounds_toArray, List.set_cons_zero, List.set_cons_succ]
  refine wpAnyH_one 9 _ (by kernel_rfl) rfl (fun _ h => h) (fun K hK => ?_)
  go_simp
  refine (NN.out _).mono ?_
  rintro _ v32 ⟨rfl, hb⟩
  refine hK.out _ _ ⟨blk_below (hHeld.out.1) hb, blk_below (hHeld.out.2.1) hb, blk_below (hHeld.out.2.2.1) hb, below_more (hHeld.out.2.2.2) (Nat.le_refl _) hb⟩ (fun hNew => ?_)
  clear hK K hHeld hb
  have hHeld := Lib.hid hNew
  clear hNew
  try simp only [Act.put, List.setIfInBounds_toArray, List.set_cons_zero, List.set_cons_succ]
  refine wpAnyH_takeL 11 (v := ?_) rfl (by kernel_rfl) (by kernel_rfl) (by kernel_rfl) (fun _ _ _ h => h) hHeld.out (yieldsIf_of rfl ?_) ?_
  rotate_left
  · (intro w hSw; go_simp <;> with_reducible rfl)
  try simp only [Act.put, List.setIfInBounds_toArray, List.set_cons_zero, List.set_cons_succ]
  refine wpAnyH_takeL 12 (v := ?_) rfl (by kernel_rfl) (by kernel_rfl) (by kernel_rfl) (fun _ _ _ h => h) hHeld.out (yieldsIf_of rfl ?_) ?_
  rotate_left
  · (intro w hSw; go_simp <;> with_reducible rfl)
  try simp only [Act.put, List.setIfInBounds_toArray, List.set_cons_zero, List.set_cons_succ]
  refine wpAnyH_takeL 13 (v := ?_) rfl (by kernel_rfl) (by kernel_rfl) (by kernel_rfl) (fun _ _ _ h => h) hHeld.out (yieldsIf_of rfl ?_) ?_
  rotate_left
  · (intro w hSw; go_simp <;> with_reducible rfl)
  try simp only [Act.put, List.setIfInBounds_toArray, List.set_cons_zero, List.set_cons_succ]
  refine wpAnyH_takeL 14 (v := ?_) rfl (by kernel_rfl) (by kernel_rfl) (by kernel_rfl) (fun _ _ _ h => h) hHeld.out (yieldsIf_of rfl ?_) ?_
  rotate_left
  · (intro w hSw; go_simp <;> with_reducible rfl)
  try simp only [Act.put, List.setIfInBounds_toArray, List.set_cons_zero, List.set_cons_succ]
  refine wpAnyH_takeL 15 rfl (by kernel_rfl) (by kernel_rfl) (by kernel_rfl) (fun _ _ _ h => h) hHeld.out (yieldsIf_cell rfl 3 (.tmp 37) rfl _ rfl (.int .i64 a) _ (fun _ h => (blk_cell h.2.2.1 0).trans rfl) Try.underlying3 rfl) ?_
  try simp only [Act.put, List.setIfInBounds_toArray, List.set_cons_zero, List.set_cons_succ]
  refine wpAnyH_takeL 16 (v := ?_) rfl (by kernel_rfl) (by kernel_rfl) (by kernel_rfl) (fun _ _ _ h => h) hHeld.out (yieldsIf_of rfl ?_) ?_
  rotate_left
  · (intro w hSw; go_simp <;> with_reducible rfl)
  try simp only [Act.put, List.setIfInBounds_toArray, List.set_cons_zero, List.set_cons_succ]
  refine wpAnyH_takeL 17 rfl (by kernel_rfl) (by kernel_rfl) (by kernel_rfl) (fun _ _ _ h => h) hHeld.out (yieldsIf_cell rfl 3 (.tmp 39) rfl _ rfl (.int .i64 a) _ (fun _ h => (blk_cell h.1 0).trans rfl) Try.underlying3 rfl) ?_
  try simp only [Act.put, List.setIfInBounds_toArray, List.set_cons_zero, List.set_cons_succ]
  refine wpAnyH_takeL 18 (v := ?_) rfl (by kernel_rfl) (by kernel_rfl) (by kernel_rfl) (fun _ _ _ h => h) hHeld.out (yieldsIf_of rfl ?_) ?_
  rotate_left
  · (intro w hSw; go_simp <;> with_reducible rfl)
  try simp only [Act.put, List.setIfInBounds_toArray, List.set_cons_zero, List.set_cons_succ]
  refine wpAnyH_takeL 19 (v := ?_) rfl (by kernel_rfl) (by kernel_rfl) (by kernel_rfl) (fun _ _ _ h => h) hHeld.out (yieldsIf_of rfl ?_) ?_
  rotate_left
  · (intro w hSw; go_simp <;> with_reducible rfl)
  try simp only [Act.put, List.setIfInBounds_toArray, List.set_cons_zero, List.set_cons_succ]
  refine wpAnyH_takeL 20 (v := ?_) rfl (by kernel_rfl) (by kernel_rfl) (by kernel_rfl) (fun _ _ _ h => h) hHeld.out (yieldsIf_of rfl ?_) ?_
  rotate_left
  · (intro w hSw; go_simp <;> with_reducible rfl)
  try simp only [Act.put, List.setIfInBounds_toArray, List.set_cons_zero, List.set_cons_succ]
  refine wpAnyH_takeL 21 (v := ?_) rfl (by kernel_rfl) (by kernel_rfl) (by kernel_rfl) (fun _ _ _ h => h) hHeld.out (yieldsIf_of rfl ?_) ?_
  rotate_left
  · (intro w hSw; go_simp <;> with_reducible rfl)
  try simp only [Act.put, List.setIfInBounds_toArray, List.set_cons_zero, List.set_cons_succ]
  refine wpAnyH_takeL 22 rfl (by kernel_rfl) (by kernel_rfl) (by kernel_rfl) (fun _ _ _ h => h) hHeld.out (yieldsIf_cell rfl 22 (.tmp 44) rfl _ rfl (.int .u64 m) _ (fun _ h => (blk_cell h.2.2.1 2).trans rfl) Try.underlying22 rfl) ?_
  try simp only [Act.put, List.setIfInBounds_toArray, List.set_cons_zero, List.set_cons_succ]
  refine wpAnyH_takeL 23 (v := ?_) rfl (by kernel_rfl) (by kernel_rfl) (by kernel_rfl) (fun _ _ _ h => h) hHeld.out (yieldsIf_of rfl ?_) ?_
  rotate_left
  · (intro w hSw; go_simp <;> with_reducible rfl)
  try simp only [Act.put, List.setIfInBounds_toArray, List.set_cons_zero, List.set_cons_succ]
  refine wpAnyH_takeL 24 rfl (by kernel_rfl) (by kernel_rfl) (by kernel_rfl) (fun _ _ _ h => h) hHeld.out (yieldsIf_cell rfl 22 (.tmp 46) rfl _ rfl (.int .u64 m) _ (fun _ h => (blk_cell h.1 2).trans rfl) Try.underlying22 rfl) ?_
  try simp only [Act.put, List.setIfInBounds_toArray, List.set_cons_zero, List.set_cons_succ]
  refine wpAnyH_takeL 25 (v := ?_) rfl (by kernel_rfl) (by kernel_rfl) (by kernel_rfl) (fun _ _ _ h => h) hHeld.out (yieldsIf_of rfl ?_) ?_
  rotate_left
  · (intro w hSw; go_simp <;> with_reducible rfl)
  try simp only [Act.put, List.setIfInBounds_toArray, List.set_cons_zero, List.set_cons_succ]
  refine wpAnyH_takeL 26 (v := ?_) rfl (by kernel_rfl) (by kernel_rfl) (by kernel_rfl) (fun _ _ _ h => h) hHeld.out (yieldsIf_of rfl ?_) ?_
  rotate_left
  · (intro w hSw; go_simp <;> with_reducible rfl)
  try simp only [Act.put, List.setIfInBounds_toArray, List.set_cons_zero, List.set_cons_succ]
  refine wpAnyH_takeL 27 (v := ?_) rfl (by kernel_rfl) (by kernel_rfl) (by kernel_rfl) (fun _ _ _ h => h) hHeld.out (yieldsIf_of rfl ?_) ?_
  rotate_left
  · (intro w hSw; go_simp <;> with_reducible rfl)
  try simp only [Act.put, List.setIfInBounds_toArray, List.set_cons_zero, List.set_cons_succ]
  refine wpAnyH_takeL 28 (v := ?_) rfl (by kernel_rfl) (by kernel_rfl) (by kernel_rfl) (fun _ _ _ h => h) hHeld.out (yieldsIf_of rfl ?_) ?_
  rotate_left
  · (intro w hSw; go_simp <;> with_reducible rfl)
  try simp only [Act.put, List.setIfInBounds_toArray, List.set_cons_zero, List.set_cons_succ]
  refine wpAnyH_takeL 29 rfl (by kernel_rfl) (by kernel_rfl) (by kernel_rfl) (fun _ _ _ h => h) hHeld.out (yieldsIf_cell rfl 22 (.tmp 51) rfl _ rfl (.int .u64 v) _ (fun _ h => (blk_cell h.2.2.1 3).trans rfl) Try.underlying22 rfl) ?_
  try simp only [Act.put, List.setIfInBounds_toArray, List.set_cons_zero, List.set_cons_succ]
  refine wpAnyH_takeL 30 (v := ?_) rfl (by kernel_rfl) (by kernel_rfl) (by kernel_rfl) (fun _ _ _ h => h) hHeld.out (yieldsIf_of rfl ?_) ?_
  rotate_left
  · (intro w hSw; go_simp <;> with_reducible rfl)
  try simp only [Act.put, List.setIfInBounds_toArray, List.set_cons_zero, List.set_cons_succ]
  refine wpAnyH_takeL 31 rfl (by kernel_rfl) (by kernel_rfl) (by kernel_rfl) (fun _ _ _ h => h) hHeld.out (yieldsIf_cell rfl 22 (.tmp 53) rfl _ rfl (.int .u64 v) _ (fun _ h => (blk_cell h.1 3).trans rfl) Try.underlying22 rfl) ?_
  try simp only [Act.put, List.setIfInBounds_toArray, List.set_cons_zero, List.set_cons_succ]
  refine wpAnyH_takeL 32 (v := ?_) rfl (by kernel_rfl) (by kernel_rfl) (by kernel_rfl) (fun _ _ _ h => h) hHeld.out (yieldsIf_of rfl ?_) ?_
  rotate_left
  · (intro w hSw; go_simp <;> with_reducible rfl)
  try simp only [Act.put, List.setIfInBounds_toArray, List.set_cons_zero, List.set_cons_succ]
  refine wpAnyH_takeL 33 (v := ?_) rfl (by kernel_rfl) (by kernel_rfl) (by kernel_rfl) (fun _ _ _ h => h) hHeld.out (yieldsIf_of rfl ?_) ?_
  rotate_left
  · (intro w hSw; go_simp <;> with_reducible rfl)
  try simp only [Act.put, List.setIfInBounds_toArray, List.set_cons_zero, List.set_cons_succ]
  refine wpAnyH_takeL 34 (v := ?_) rfl (by kernel_rfl) (by kernel_rfl) (by kernel_rfl) (fun _ _ _ h => h) hHeld.out (yieldsIf_of rfl ?_) ?_
  rotate_left
  · (intro w hSw; go_simp <;> with_reducible rfl)
  try simp only [Act.put, List.setIfInBounds_toArray, List.set_cons_zero, List.set_cons_succ]
  refine wpAnyH_one 35 _ (by kernel_rfl) rfl (fun _ h => h) (fun K hK => ?_)
  go_simp
  refine (KN.out _).mono ?_
  rintro _ v33 ⟨rfl, hb⟩
  refine hK.out _ _ ⟨blk_below (hHeld.out.1) hb, blk_below (hHeld.out.2.1) hb, blk_below (hHeld.out.2.2.1) hb, below_more (hHeld.out.2.2.2) (Nat.le_refl _) hb⟩ (fun hNew => ?_)
  clear hK K hHeld hb
  have hHeld := Lib.hid hNew
  clear hNew
  try simp only [Act.put, List.setIfInBounds_toArray, List.set_cons_zero, List.set_cons_succ]
  refine wpAnyH_takeL 36 (v := ?_) rfl (by kernel_rfl) (by kernel_rfl) (by kernel_rfl) (fun _ _ _ h => h) hHeld.out (yieldsIf_of rfl ?_) ?_
  rotate_left
  · (intro w hSw; go_simp <;> with_reducible rfl)
  try simp only [Act.put, List.setIfInBounds_toArray, List.set_cons_zero, List.set_cons_succ]
  refine wpAnyH_takeL 37 (v := ?_) rfl (by kernel_rfl) (by kernel_rfl) (by kernel_rfl) (fun _ _ _ h => h) hHeld.out (yieldsIf_of rfl ?_) ?_
  rotate_left
  · (intro w hSw; go_simp <;> with_reducible rfl)
  try simp only [Act.put, List.setIfInBounds_toArray, List.set_cons_zero, List.set_cons_succ]
  refine wpAnyH_done (by kernel_rfl) ?_ _
  have HFI := Lib.hid (hHeld.out.2.2.2)
  clear hHeld
  go_wp2_with fail
  go_ret
  exact ⟨rfl, HFI.out⟩
set_option maxHeartbeats 4000000 in
theorem CondNot_false (a c c2 m v : Int) (DR : Array Value) (HID : (Try.prog.info? 28).map (·.size) = some DR.size) (NO : Gives Try.prog 23 #[.agg #[.int .i64 a, .int .i64 c, .int .u64 m, .int .u64 v]] (.agg #[.int .i64 a, .int .i64 c2, .int .u64 m, .int .u64 v])) (NN : Gives Try.prog 23 #[.agg #[.int .i64 a, .int .i64 c2, .int .u64 m, .int .u64 v]] (.agg #[.int .i64 a, .int .i64 c, .int .u64 m, .int .u64 v])) (RR : Gives Try.prog 15 #[.agg #[.int .i64 a, .int .i64 c, .int .u64 m, .int .u64 v]] (.bool true)) (HO : Gives Try.prog 16 #[.agg #[.int .i64 a, .int .i64 c, .int .u64 m, .int .u64 v], .agg DR] (.bool false)) (HN : Gives Try.prog 16 #[.agg #[.int .i64 a, .int .i64 c2, .int .u64 m, .int .u64 v], .agg DR] (.bool true)) (KN : Gives Try.prog 18 #[] (.bool true)) (w : World) :
    Calls Try.prog 5 #[.agg #[.int .i64 a, .int .i64 c, .int .u64 m, .int .u64 v], .agg DR] w fun e w' => e = .returned (.bool true) ∧ Below w.heap.size w w' := by
  replace NO := Lib.hid NO
  replace NN := Lib.hid NN
  replace RR := Lib.hid RR
  replace HO := Lib.hid HO
  replace HN := Lib.hid HN
  replace KN := Lib.hid KN
  have HIC := Lib.hid (info_cond (.int .i64 a) (.int .i64 c) (.int .u64 m) (.int .u64 v))
  have HIN := Lib.hid (info_cond (.int .i64 a) (.int .i64 c2) (.int .u64 m) (.int .u64 v))
  replace HID := Lib.hid HID
  have q1 := Lib.hid (alloc2d w (Obj.cells #[.int .i64 a, .int .i64 c, .int .u64 m, .int .u64 v] 24) (Obj.cells DR 28)).1
  have q2 := Lib.hid (alloc2d w (Obj.cells #[.int .i64 a, .int .i64 c, .int .u64 m, .int .u64 v] 24) (Obj.cells DR 28)).2.1
  have q4 := Lib.hid (alloc2d w (Obj.cells #[.int .i64 a, .int .i64 c, .int .u64 m, .int .u64 v] 24) (Obj.cells DR 28)).2.2.2
  go_enter Try.func5, Try.ntmps5
  go_wp2_with (refine wpList_load_row rfl 24 (.tmp 2) rfl _ rfl _ _ _ _ q1.out Try.underlying24 rfl HIC.out ?_)
  refine (NO.out _).mono ?_
  rintro e w1 ⟨rfl, hb⟩
  have q1_1 := Lib.hid (blk_below q1.out hb)
  have q2_1 := Lib.hid (blk_below q2.out hb)
  have q4_1 := Lib.hid (below_more q4.out (Nat.le_refl _) hb)
  clear hb q1 q2 q4
  have r1 := Lib.hid (blk_alloc q1_1.out (.cells #[.int .i64 a, .int .i64 c2, .int .u64 m, .int .u64 v] 24))
  have r2 := Lib.hid (blk_alloc q2_1.out (.cells #[.int .i64 a, .int .i64 c2, .int .u64 m, .int .u64 v] 24))
  have r3 := Lib.hid (heap_alloc_new w1 (.cells #[.int .i64 a, .int .i64 c2, .int .u64 m, .int .u64 v] 24))
  have r4 := Lib.hid (q4_1.out.alloc q4_1.out.size (.cells #[.int .i64 a, .int .i64 c2, .int .u64 m, .int .u64 v] 24))
  clear q1_1 q2_1 q4_1
  go_wp2_with (refine wpList_load_row rfl 24 (.tmp 2) rfl _ rfl _ _ _ _ r1.out Try.underlying24 rfl HIC.out ?_)
  refine (RR.out _).mono ?_
  rintro e w2 ⟨rfl, hb⟩
  have r1_2 := Lib.hid (blk_below r1.out hb)
  have r2_2 := Lib.hid (blk_below r2.out hb)
  have r3_2 := Lib.hid (blk_below r3.out hb)
  have r4_2 := Lib.hid (below_more r4.out (Nat.le_refl _) hb)
  clear hb r1 r2 r3 r4
  have hE : eqCB a c m v a c m v = true := eqCB_same _ _ _ _
  go_wp2_with fail
  refine wp_region_held_drew (S := (fun w' => (w'.heap[w.heap.size]? = some (.cells #[.int .i64 a, .int .i64 c, .int .u64 m, .int .u64 v] 24 (0, 0))) ∧ (w'.heap[(w.heap.size + 1)]? = some (.cells DR 28 (0, 0))) ∧ (w'.heap[w1.heap.size]? = some (.cells #[.int .i64 a, .int .i64 c2, .int .u64 m, .int .u64 v] 24 (0, 0))) ∧ (Below w.heap.size w w'))) (by kernel_rfl) ⟨r1_2.out, r2_2.out, r3_2.out, r4_2.out.drew⟩ (fun hNew => ?_)
  have hHeld := Lib.hid hNew
  clear hNew
  refine wpAnyH_takeL 0 rfl (by kernel_rfl) (by kernel_rfl) (by kernel_rfl) (fun _ _ _ h => h) hHeld.out (yieldsIf_row rfl 24 (.tmp 5) rfl _ rfl _ #[.int .i64 a, .int .i64 c2, .int .u64 m, .int .u64 v] _ _ (fun _ h => h.2.2.1) Try.underlying24 rfl HIN.out) ?_
  try simp only [Act.put, List.setIfInBounds_toArray, List.set_cons_zero, List.set_cons_succ]
  refine wpAnyH_takeL 1 rfl (by kernel_rfl) (by kernel_rfl) (by kernel_rfl) (fun _ _ _ h => h) hHeld.out (yieldsIf_row rfl 28 (.tmp 3) rfl _ rfl _ DR _ _ (fun _ h => h.2.1) Try.underlying28 rfl HID.out) ?_
  try simp only [Act.put, List.setIfInBounds_toArray, List.set_cons_zero, List.set_cons_succ]
  refine wpAnyH_takeL 3 rfl (by kernel_rfl) (by kernel_rfl) (by kernel_rfl) (fun _ _ _ h => h) hHeld.out (yieldsIf_row rfl 24 (.tmp 2) rfl _ rfl _ #[.int .i64 a, .int .i64 c, .int .u64 m, .int .u64 v] _ _ (fun _ h => h.1) Try.underlying24 rfl HIC.out) ?_
  try simp only [Act.put, List.setIfInBounds_toArray, List.set_cons_zero, List.set_cons_succ]
  refine wpAnyH_takeL 4 rfl (by kernel_rfl) (by kernel_rfl) (by kernel_rfl) (fun _ _ _ h => h) hHeld.out (yieldsIf_row rfl 28 (.tmp 3) rfl _ rfl _ DR _ _ (fun _ h => h.2.1) Try.underlying28 rfl HID.out) ?_
  try simp only [Act.put, List.setIfInBounds_toArray, List.set_cons_zero, List.set_cons_succ]
  refine wpAnyH_one 2 _ (by kernel_rfl) rfl (fun _ h => h) (fun K hK => ?_)
  go_simp
  refine (HN.out _).mono ?_
  rintro _ v34 ⟨rfl, hb⟩
  refine hK.out _ _ ⟨blk_below (hHeld.out.1) hb, blk_below (hHeld.out.2.1) hb, blk_below (hHeld.out.2.2.1) hb, below_more (hHeld.out.2.2.2) (Nat.le_refl _) hb⟩ (fun hNew => ?_)
  clear hK K hHeld hb
  have hHeld := Lib.hid hNew
  clear hNew
  try simp only [Act.put, List.setIfInBounds_toArray, List.set_cons_zero, List.set_cons_succ]
  refine wpAnyH_one 5 _ (by kernel_rfl) rfl (fun _ h => h) (fun K hK => ?_)
  go_simp
  refine (HO.out _).mono ?_
  rintro _ v35 ⟨rfl, hb⟩
  refine hK.out _ _ ⟨blk_below (hHeld.out.1) hb, blk_below (hHeld.out.2.1) hb, blk_below (hHeld.out.2.2.1) hb, below_more (hHeld.out.2.2.2) (Nat.le_refl _) hb⟩ (fun hNew => ?_)
  clear hK K hHeld hb
  have hHeld := Lib.hid hNew
  clear hNew
  try simp only [Act.put, List.setIfInBounds_toArray, List.set_cons_zero, List.set_cons_succ]
  refine wpAnyH_takeL 6 (v := ?_) rfl (by kernel_rfl) (by kernel_rfl) (by kernel_rfl) (fun _ _ _ h => h) hHeld.out (yieldsIf_of rfl ?_) ?_
  rotate_left
  · (intro w hSw; go_simp <;> with_reducible rfl)
  try simp only [Act.put, List.setIfInBounds_toArray, List.set_cons_zero, List.set_cons_succ]
  refine wpAnyH_takeL 7 (v := ?_) rfl (by kernel_rfl) (by kernel_rfl) (by kernel_rfl) (fun _ _ _ h => h) hHeld.out (yieldsIf_of rfl ?_) ?_
  rotate_left
  · (intro w hSw; go_simp <;> with_reducible rfl)
  try simp only [Act.put, List.setIfInBounds_toArray, List.set_cons_zero, List.set_cons_succ]
  refine wpAnyH_takeL 8 rfl (by kernel_rfl) (by kernel_rfl) (by kernel_rfl) (fun _ _ _ h => h) hHeld.out (yieldsIf_row rfl 24 (.tmp 5) rfl _ rfl _ #[.int .i64 a, .int .i64 c2, .int .u64 m, .int .u64 v] _ _ (fun _ h => h.2.2.1) Try.underlying24 rfl HIN.out) ?_
  try simp only [Act.put, List.setIfInBounds_toArray, List.set_cons_zero, List.set_cons_succ]
  refine wpAnyH_takeL 10 rfl (by kernel_rfl) (by kernel_rfl) (by kernel_rfl) (fun _ _ _ h => h) hHeld.out (yieldsIf_row rfl 24 (.tmp 2) rfl _ rfl _ #[.int .i64 a, .int .i64 c, .int .u64 m, .int .u64 v] _ _ (fun _ h => h.1) Try.underlying24 rfl HIC.out) ?_
  try simp only [Act.put, List.setIfInBounds_toArray, List.set_cons_zero, List.set_cons_succ]
  refine wpAnyH_one 9 _ (by kernel_rfl) rfl (fun _ h => h) (fun K hK => ?_)
  go_simp
  refine (NN.out _).mono ?_
  rintro _ v36 ⟨rfl, hb⟩
  refine hK.out _ _ ⟨blk_below (hHeld.out.1) hb, blk_below (hHeld.out.2.1) hb, blk_below (hHeld.out.2.2.1) hb, below_more (hHeld.out.2.2.2) (Nat.le_refl _) hb⟩ (fun hNew => ?_)
  clear hK K hHeld hb
  have hHeld := Lib.hid hNew
  clear hNew
  try simp only [Act.put, List.setIfInBounds_toArray, List.set_cons_zero, List.set_cons_succ]
  refine wpAnyH_takeL 11 (v := ?_) rfl (by kernel_rfl) (by kernel_rfl) (by kernel_rfl) (fun _ _ _ h => h) hHeld.out (yieldsIf_of rfl ?_) ?_
  rotate_left
  · (intro w hSw; go_simp <;> with_reducible rfl)
  try simp only [Act.put, List.setIfInBounds_toArray, List.set_cons_zero, List.set_cons_succ]
  refine wpAnyH_takeL 12 (v := ?_) rfl (by kernel_rfl) (by kernel_rfl) (by kernel_rfl) (fun _ _ _ h => h) hHeld.out (yieldsIf_of rfl ?_) ?_
  rotate_left
  · (intro w hSw; go_simp <;> with_reducible rfl)
  try simp only [Act.put, List.setIfInBounds_toArray, List.set_cons_zero, List.set_cons_succ]
  refine wpAnyH_takeL 13 (v := ?_) rfl (by kernel_rfl) (by kernel_rfl) (by kernel_rfl) (fun _ _ _ h => h) hHeld.out (yieldsIf_of rfl ?_) ?_
  rotate_left
  · (intro w hSw; go_simp <;> with_reducible rfl)
  try simp only [Act.put, List.setIfInBounds_toArray, List.set_cons_zero, List.set_cons_succ]
  refine wpAnyH_takeL 14 (v := ?_) rfl (by kernel_rfl) (by kernel_rfl) (by kernel_rfl) (fun _ _ _ h => h) hHeld.out (yieldsIf_of rfl ?_) ?_
  rotate_left
  · (intro w hSw; go_simp <;> with_reducible rfl)
  try simp only [Act.put, List.setIfInBounds_toArray, List.set_cons_zero, List.set_cons_succ]
  refine wpAnyH_takeL 15 rfl (by kernel_rfl) (by kernel_rfl) (by kernel_rfl) (fun _ _ _ h => h) hHeld.out (yieldsIf_cell rfl 3 (.tmp 37) rfl _ rfl (.int .i64 a) _ (fun _ h => (blk_cell h.2.2.1 0).trans rfl) Try.underlying3 rfl) ?_
  try simp only [Act.put, List.setIfInBounds_toArray, List.set_cons_zero, List.set_cons_succ]
  refine wpAnyH_takeL 16 (v := ?_) rfl (by kernel_rfl) (by kernel_rfl) (by kernel_rfl) (fun _ _ _ h => h) hHeld.out (yieldsIf_of rfl ?_) ?_
  rotate_left
  · (intro w hSw; go_simp <;> with_reducible rfl)
  try simp only [Act.put, List.setIfInBounds_toArray, List.set_cons_zero, List.set_cons_succ]
  refine wpAnyH_takeL 17 rfl (by kernel_rfl) (by kernel_rfl) (by kernel_rfl) (fun _ _ _ h => h) hHeld.out (yieldsIf_cell rfl 3 (.tmp 39) rfl _ rfl (.int .i64 a) _ (fun _ h => (blk_cell h.1 0).trans rfl) Try.underlying3 rfl) ?_
  try simp only [Act.put, List.setIfInBounds_toArray, List.set_cons_zero, List.set_cons_succ]
  refine wpAnyH_takeL 18 (v := ?_) rfl (by kernel_rfl) (by kernel_rfl) (by kernel_rfl) (fun _ _ _ h => h) hHeld.out (yieldsIf_of rfl ?_) ?_
  rotate_left
  · (intro w hSw; go_simp <;> with_reducible rfl)
  try simp only [Act.put, List.setIfInBounds_toArray, List.set_cons_zero, List.set_cons_succ]
  refine wpAnyH_takeL 19 (v := ?_) rfl (by kernel_rfl) (by kernel_rfl) (by kernel_rfl) (fun _ _ _ h => h) hHeld.out (yieldsIf_of rfl ?_) ?_
  rotate_left
  · (intro w hSw; go_simp <;> with_reducible rfl)
  try simp only [Act.put, List.setIfInBounds_toArray, List.set_cons_zero, List.set_cons_succ]
  refine wpAnyH_takeL 20 (v := ?_) rfl (by kernel_rfl) (by kernel_rfl) (by kernel_rfl) (fun _ _ _ h => h) hHeld.out (yieldsIf_of rfl ?_) ?_
  rotate_left
  · (intro w hSw; go_simp <;> with_reducible rfl)
  try simp only [Act.put, List.setIfInBounds_toArray, List.set_cons_zero, List.set_cons_succ]
  refine wpAnyH_takeL 21 (v := ?_) rfl (by kernel_rfl) (by kernel_rfl) (by kernel_rfl) (fun _ _ _ h => h) hHeld.out (yieldsIf_of rfl ?_) ?_
  rotate_left
  · (intro w hSw; go_simp <;> with_reducible rfl)
  try simp only [Act.put, List.setIfInBounds_toArray, List.set_cons_zero, List.set_cons_succ]
  refine wpAnyH_takeL 22 rfl (by kernel_rfl) (by kernel_rfl) (by kernel_rfl) (fun _ _ _ h => h) hHeld.out (yieldsIf_cell rfl 22 (.tmp 44) rfl _ rfl (.int .u64 m) _ (fun _ h => (blk_cell h.2.2.1 2).trans rfl) Try.underlying22 rfl) ?_
  try simp only [Act.put, List.setIfInBounds_toArray, List.set_cons_zero, List.set_cons_succ]
  refine wpAnyH_takeL 23 (v := ?_) rfl (by kernel_rfl) (by kernel_rfl) (by kernel_rfl) (fun _ _ _ h => h) hHeld.out (yieldsIf_of rfl ?_) ?_
  rotate_left
  · (intro w hSw; go_simp <;> with_reducible rfl)
  try simp only [Act.put, List.setIfInBounds_toArray, List.set_cons_zero, List.set_cons_succ]
  refine wpAnyH_takeL 24 rfl (by kernel_rfl) (by kernel_rfl) (by kernel_rfl) (fun _ _ _ h => h) hHeld.out (yieldsIf_cell rfl 22 (.tmp 46) rfl _ rfl (.int .u64 m) _ (fun _ h => (blk_cell h.1 2).trans rfl) Try.underlying22 rfl) ?_
  try simp only [Act.put, List.setIfInBounds_toArray, List.set_cons_zero, List.set_cons_succ]
  refine wpAnyH_takeL 25 (v := ?_) rfl (by kernel_rfl) (by kernel_rfl) (by kernel_rfl) (fun _ _ _ h => h) hHeld.out (yieldsIf_of rfl ?_) ?_
  rotate_left
  · (intro w hSw; go_simp <;> with_reducible rfl)
  try simp only [Act.put, List.setIfInBounds_toArray, List.set_cons_zero, List.set_cons_succ]
  refine wpAnyH_takeL 26 (v := ?_) rfl (by kernel_rfl) (by kernel_rfl) (by kernel_rfl) (fun _ _ _ h => h) hHeld.out (yieldsIf_of rfl ?_) ?_
  rotate_left
  · (intro w hSw; go_simp <;> with_reducible rfl)
  try simp only [Act.put, List.setIfInBounds_toArray, List.set_cons_zero, List.set_cons_succ]
  refine wpAnyH_takeL 27 (v := ?_) rfl (by kernel_rfl) (by kernel_rfl) (by kernel_rfl) (fun _ _ _ h => h) hHeld.out (yieldsIf_of rfl ?_) ?_
  rotate_left
  · (intro w hSw; go_simp <;> with_reducible rfl)
  try simp only [Act.put, List.setIfInBounds_toArray, List.set_cons_zero, List.set_cons_succ]
  refine wpAnyH_takeL 28 (v := ?_) rfl (by kernel_rfl) (by kernel_rfl) (by kernel_rfl) (fun _ _ _ h => h) hHeld.out (yieldsIf_of rfl ?_) ?_
  rotate_left
  · (intro w hSw; go_simp <;> with_reducible rfl)
  try simp only [Act.put, List.setIfInBounds_toArray, List.set_cons_zero, List.set_cons_succ]
  refine wpAnyH_takeL 29 rfl (by kernel_rfl) (by kernel_rfl) (by kernel_rfl) (fun _ _ _ h => h) hHeld.out (yieldsIf_cell rfl 22 (.tmp 51) rfl _ rfl (.int .u64 v) _ (fun _ h => (blk_cell h.2.2.1 3).trans rfl) Try.underlying22 rfl) ?_
  try simp only [Act.put, List.setIfInBounds_toArray, List.set_cons_zero, List.set_cons_succ]
  refine wpAnyH_takeL 30 (v := ?_) rfl (by kernel_rfl) (by kernel_rfl) (by kernel_rfl) (fun _ _ _ h => h) hHeld.out (yieldsIf_of rfl ?_) ?_
  rotate_left
  · (intro w hSw; go_simp <;> with_reducible rfl)
  try simp only [Act.put, List.setIfInBounds_toArray, List.set_cons_zero, List.set_cons_succ]
  refine wpAnyH_takeL 31 rfl (by kernel_rfl) (by kernel_rfl) (by kernel_rfl) (fun _ _ _ h => h) hHeld.out (yieldsIf_cell rfl 22 (.tmp 53) rfl _ rfl (.int .u64 v) _ (fun _ h => (blk_cell h.1 3).trans rfl) Try.underlying22 rfl) ?_
  try simp only [Act.put, List.setIfInBounds_toArray, List.set_cons_zero, List.set_cons_succ]
  refine wpAnyH_takeL 32 (v := ?_) rfl (by kernel_rfl) (by kernel_rfl) (by kernel_rfl) (fun _ _ _ h => h) hHeld.out (yieldsIf_of rfl ?_) ?_
  rotate_left
  · (intro w hSw; go_simp <;> with_reducible rfl)
  try simp only [Act.put, List.setIfInBounds_toArray, List.set_cons_zero, List.set_cons_succ]
  refine wpAnyH_takeL 33 (v := ?_) rfl (by kernel_rfl) (by kernel_rfl) (by kernel_rfl) (fun _ _ _ h => h) hHeld.out (yieldsIf_of rfl ?_) ?_
  rotate_left
  · (intro w hSw; go_simp <;> with_reducible rfl)
  try simp only [Act.put, List.setIfInBounds_toArray, List.set_cons_zero, List.set_cons_succ]
  refine wpAnyH_takeL 34 (v := ?_) rfl (by kernel_rfl) (by kernel_rfl) (by kernel_rfl) (fun _ _ _ h => h) hHeld.out (yieldsIf_of rfl ?_) ?_
  rotate_left
  · (intro w hSw; go_simp <;> with_reducible rfl)
  try simp only [Act.put, List.setIfInBounds_toArray, List.set_cons_zero, List.set_cons_succ]
  refine wpAnyH_one 35 _ (by kernel_rfl) rfl (fun _ h => h) (fun K hK => ?_)
  go_simp
  refine (KN.out _).mono ?_
  rintro _ v37 ⟨rfl, hb⟩
  refine hK.out _ _ ⟨blk_below (hHeld.out.1) hb, blk_below (hHeld.out.2.1) hb, blk_below (hHeld.out.2.2.1) hb, below_more (hHeld.out.2.2.2) (Nat.le_refl _) hb⟩ (fun hNew => ?_)
  clear hK K hHeld hb
  have hHeld := Lib.hid hNew
  clear hNew
  try simp only [Act.put, List.setIfInBounds_toArray, List.set_cons_zero, List.set_cons_succ]
  refine wpAnyH_takeL 36 (v := ?_) rfl (by kernel_rfl) (by kernel_rfl) (by kernel_rfl) (fun _ _ _ h => h) hHeld.out (yieldsIf_of rfl ?_) ?_
  rotate_left
  · (intro w hSw; go_simp <;> with_reducible rfl)
  try simp only [Act.put, List.setIfInBounds_toArray, List.set_cons_zero, List.set_cons_succ]
  refine wpAnyH_takeL 37 (v := ?_) rfl (by kernel_rfl) (by kernel_rfl) (by kernel_rfl) (fun _ _ _ h => h) hHeld.out (yieldsIf_of rfl ?_) ?_
  rotate_left
  · (intro w hSw; go_simp <;> with_reducible rfl)
  try simp only [Act.put, List.setIfInBounds_toArray, List.set_cons_zero, List.set_cons_succ]
  refine wpAnyH_done (by kernel_rfl) ?_ _
  have HFI := Lib.hid (hHeld.out.2.2.2)
  clear hHeld
  go_wp2_with fail
  go_ret
  exact ⟨rfl, HFI.out⟩
theorem CondNot_row (a c m v x0 x1 x2 x3 x4 x5 x6 x7 x8 : Int) (hc : IsCond a c m v) (hd : IsDat x0 x1 x2 [x3, x4, x5, x6, x7, x8]) (w : World) :
    Calls Try.prog 5 #[CV a c m v, .agg (dataA x0 x1 x2 [x3, x4, x5, x6, x7, x8])] w fun e w' => e = .returned (.bool true) ∧ Below w.heap.size w w' := by
  have h2 := RefRight_walk a c m v
  have h3 := Holds_walk a c m v x0 x1 x2 _ hd hc.1
  have i2 := info_data x0 x1 x2 _ hd.len
  have h5 := Not_walk a c m v
  cases hr : rightB a c with
  | false =>
    rw [hr] at h2 h5
    rw [show holdsB a c m v [x3, x4, x5, x6, x7, x8] = false by unfold holdsB; rw [hr]; rfl] at h3
    exact CondNot_no a c m v _ i2 h5 h2 h3 knows_walk w
  | true =>
    obtain ⟨n1, n2⟩ := not_right a c hr
    have h4 := Holds_walk a (notI c) m v x0 x1 x2 _ hd hc.1
    have h6 := Not_walk a (notI c) m v
    rw [hr] at h2 h5
    rw [if_pos rfl] at h5
    rw [n1, if_pos rfl, n2] at h6
    have e : holdsB a (notI c) m v [x3, x4, x5, x6, x7, x8] = !holdsB a c m v [x3, x4, x5, x6, x7, x8] := by
      obtain ⟨j, k, rfl, rfl, hj, hk⟩ := right_nats hr
      unfold holdsB
      rw [n1, hr, Bool.true_and, Bool.true_and]
      exact cmp_not k hk _ _
    rw [e] at h4
    generalize holdsB a c m v [x3, x4, x5, x6, x7, x8] = q at *
    cases q
    · exact CondNot_false a c (notI c) m v _ i2 h5 h6 h2 h3 h4 knows_walk w
    · exact CondNot_true a c (notI c) m v _ i2 h5 h6 h2 h3 h4 knows_walk w
end Go.Proofs.Ythdkgpmpopjnaaa.H
