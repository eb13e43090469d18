/-
AffineExact: the walk.
-/
import Derived.Test.YtocofkkkblelgaaProg
import Derived.WalkKit
import Derived.WalkSpells
import Derived.WalkLawsBesides
import Derived.Handy
import Derived.Lib.Hide
import Derived.Test.YtocofkkkblelgaaHAff9
import Derived.Test.YtocofkkkblelgaaWWords
set_option linter.unusedVariables false
set_option linter.unusedSimpArgs false
namespace Go.Proofs.Ytocofkkkblelgaa.H
open Go.RowKit Go.Proofs.YtocofkkkblelgaaW.PrintWords

set_option maxHeartbeats 4000000 in
theorem AffineExact_true (RF RG RV RW : Array Value) (a b : Int) (hF : FRow RF) (hG : FRow RG) (hV : VRow RV) (hW : VRow RW) (EQ : ∀ w, (Op.equalIn 10000 25 (.agg RF) (.agg RG)).run Try.prog w = .ok true w)
    (AP : Gives Try.prog 26 #[.agg RF, .agg RG] (.tuple #[.agg RW, .bool false])) (EF : Gives Try.prog 23 #[.agg RF, .agg RV] (.int .u32 a)) (EG : Gives Try.prog 23 #[.agg RG, .agg RV] (.int .u32 a))
    (KN : Gives Try.prog 19 #[] (.bool true)) (w : World) :
    Calls Try.prog 7 #[.agg RF, .agg RG, .agg RV] w fun e w' => e = .returned (.bool true) ∧ Below w.heap.size w w' := by
  replace hF := Lib.hid hF
  replace hG := Lib.hid hG
  replace hV := Lib.hid hV
  replace hW := Lib.hid hW
  replace AP := Lib.hid AP
  replace EF := Lib.hid EF
  replace EG := Lib.hid EG
  replace KN := Lib.hid KN
  obtain ⟨q1, q2, q3, q4, q5⟩ := alloc3 w (Obj.cells RF 25) (Obj.cells RG 25) (Obj.cells RV 23)
  replace q1 := Lib.hid q1
  replace q2 := Lib.hid q2
  replace q3 := Lib.hid q3
  replace q5 := Lib.hid q5
  clear q4
  go_enter Try.func7, Try.ntmps7
  go_wp2_with (first | (refine wpList_load_row_g rfl 25 (.tmp 3) rfl _ rfl _ _ _ _ q1.out Try.underlying25 rfl hF.out.info ?_) | (refine wpList_load_row_g rfl 25 (.tmp 4) rfl _ rfl _ _ _ _ q2.out Try.underlying25 rfl hG.out.info ?_))
  refine (AP.out _).mono ?_
  rintro e w1 ⟨rfl, hb⟩
  have p1 := Lib.hid (blk_below q1.out hb)
  have p2 := Lib.hid (blk_below q2.out hb)
  have p3 := Lib.hid (blk_below q3.out hb)
  have p5 := Lib.hid (below_more q5.out (Nat.le_refl _) hb)
  clear hb q1 q2 q3 q5
  obtain ⟨W2, hW2, r, b⟩ := letvar w1 #[Value.int .u32 0, Value.int .u32 0, Value.int .u32 0, Value.int .u32 0, Value.int .u32 0, Value.int .u32 0, Value.int .u32 0, Value.int .u32 0, Value.int .u32 0, Value.int .u32 0, Value.int .u32 0, Value.int .u32 0, Value.int .u32 0, Value.int .u32 0, Value.int .u32 0, Value.int .u32 0, Value.int .u32 0, Value.int .u32 0, Value.int .u32 0, Value.int .u32 0, Value.int .u32 0, Value.int .u32 0, Value.int .u32 0, Value.int .u32 0, Value.int .u32 0, Value.int .u32 0, Value.int .u32 0, Value.int .u32 0, Value.int .u32 0, Value.int .u32 0, Value.int .u32 0, Value.int .u32 0, Value.int .u32 0, Value.int .u32 0] RW 23
  have HW := Lib.hid hW2
  have r4 := Lib.hid r
  have r1 := Lib.hid (blk_below p1.out b)
  have r2 := Lib.hid (blk_below p2.out b)
  have r3 := Lib.hid (blk_below p3.out b)
  have r5 := Lib.hid (below_more p5.out (Nat.le_refl _) b)
  clear hW2 r b p1 p2 p3 p5
  go_wp2_with (first | (refine wpList_store_row rfl 23 (.tmp 7) (.tmp 13) rfl rfl w1.heap.size rfl RW rfl _ _ (heap_alloc_new _ _) hW.out.size.symm hW.out.info hW.out.one ?_; rw [HW.out]) | (refine wpList_load_row_g rfl 25 (.tmp 3) rfl _ rfl _ _ _ _ r1.out Try.underlying25 rfl hF.out.info ?_) | (refine wpList_load_row_g rfl 25 (.tmp 4) rfl _ rfl _ _ _ _ r2.out Try.underlying25 rfl hG.out.info ?_))
  refine wp_region_held_drew (S := (fun w' => (w'.heap[w.heap.size]? = some (.cells RF 25 (0, 0))) ∧ (w'.heap[(w.heap.size + 1)]? = some (.cells RG 25 (0, 0))) ∧ (w'.heap[(w.heap.size + 1 + 1)]? = some (.cells RV 23 (0, 0))) ∧ (w'.heap[w1.heap.size]? = some (.cells RW 23 (0, 0))) ∧ (Below w.heap.size w w'))) (by kernel_rfl) ⟨r1.out, r2.out, r3.out, r4.out, r5.out.drew⟩ (fun hNew => ?_)
  have hHeld := Lib.hid hNew
  clear hNew
  refine wpAnyH_takeL 0 rfl (by kernel_rfl) (by kernel_rfl) (by kernel_rfl) (fun _ _ _ h => h) hHeld.out (yieldsIf_row rfl 25 (.tmp 3) rfl _ rfl _ RF _ _ (fun _ h => h.1) Try.underlying25 rfl hF.out.info) ?_
  try simp only [Act.put, List.setIfInBounds_toArray, List.set_cons_zero, List.set_cons_succ]
  refine wpAnyH_takeL 1 rfl (by kernel_rfl) (by kernel_rfl) (by kernel_rfl) (fun _ _ _ h => h) hHeld.out (yieldsIf_row rfl 23 (.tmp 5) rfl _ rfl _ RV _ _ (fun _ h => h.2.2.1) Try.underlying23 rfl hV.out.info) ?_
  try simp only [Act.put, List.setIfInBounds_toArray, List.set_cons_zero, List.set_cons_succ]
  refine wpAnyH_takeL 3 rfl (by kernel_rfl) (by kernel_rfl) (by kernel_rfl) (fun _ _ _ h => h) hHeld.out (yieldsIf_row rfl 25 (.tmp 4) rfl _ rfl _ RG _ _ (fun _ h => h.2.1) Try.underlying25 rfl hG.out.info) ?_
  try simp only [Act.put, List.setIfInBounds_toArray, List.set_cons_zero, List.set_cons_succ]
  refine wpAnyH_takeL 4 rfl (by kernel_rfl) (by kernel_rfl) (by kernel_rfl) (fun _ _ _ h => h) hHeld.out (yieldsIf_row rfl 23 (.tmp 5) rfl _ rfl _ RV _ _ (fun _ h => h.2.2.1) Try.underlying23 rfl hV.out.info) ?_
  try simp only [Act.put, List.setIfInBounds_toArray, List.set_cons_zero, List.set_cons_succ]
  refine wpAnyH_one 2 _ (by kernel_rfl) rfl (fun _ h => h) (fun K hK => ?_)
  go_simp
  refine (EF.out _).mono ?_
  rintro _ v27 ⟨rfl, hb⟩
  refine hK.out _ _ ⟨blk_below (hHeld.out.1) hb, blk_below (hHeld.out.2.1) hb, blk_below (hHeld.out.2.2.1) hb, blk_below (hHeld.out.2.2.2.1) hb, below_more (hHeld.out.2.2.2.2) (Nat.le_refl _) hb⟩ (fun hNew => ?_)
  clear hK K hHeld hb
  have hHeld := Lib.hid hNew
  clear hNew
  try simp only [Act.put, List.setIfInBounds_toArray, List.set_cons_zero, List.set_cons_succ]
  refine wpAnyH_one 5 _ (by kernel_rfl) rfl (fun _ h => h) (fun K hK => ?_)
  go_simp
  refine (EG.out _).mono ?_
  rintro _ v28 ⟨rfl, hb⟩
  refine hK.out _ _ ⟨blk_below (hHeld.out.1) hb, blk_below (hHeld.out.2.1) hb, blk_below (hHeld.out.2.2.1) hb, blk_below (hHeld.out.2.2.2.1) hb, below_more (hHeld.out.2.2.2.2) (Nat.le_refl _) hb⟩ (fun hNew => ?_)
  clear hK K hHeld hb
  have hHeld := Lib.hid hNew
  clear hNew
  try simp only [Act.put, List.setIfInBounds_toArray, List.set_cons_zero, List.set_cons_succ]
  refine wpAnyH_takeL 6 (v := ?_) rfl (by kernel_rfl) (by kernel_rfl) (by kernel_rfl) (fun _ _ _ h => h) hHeld.out (yieldsIf_of rfl ?_) ?_
  rotate_left
  · (intro w hSw; go_simp <;> with_reducible rfl)
  try simp only [Act.put, List.setIfInBounds_toArray, List.set_cons_zero, List.set_cons_succ]
  refine wpAnyH_takeL 7 (v := ?_) rfl (by kernel_rfl) (by kernel_rfl) (by kernel_rfl) (fun _ _ _ h => h) hHeld.out (yieldsIf_of rfl ?_) ?_
  rotate_left
  · (intro w hSw; go_simp <;> with_reducible rfl)
  try simp only [Act.put, List.setIfInBounds_toArray, List.set_cons_zero, List.set_cons_succ]
  refine wpAnyH_one 8 _ (by kernel_rfl) rfl (fun _ h => h) (fun K hK => ?_)
  go_simp
  refine (KN.out _).mono ?_
  rintro _ v29 ⟨rfl, hb⟩
  refine hK.out _ _ ⟨blk_below (hHeld.out.1) hb, blk_below (hHeld.out.2.1) hb, blk_below (hHeld.out.2.2.1) hb, blk_below (hHeld.out.2.2.2.1) hb, below_more (hHeld.out.2.2.2.2) (Nat.le_refl _) hb⟩ (fun hNew => ?_)
  clear hK K hHeld hb
  have hHeld := Lib.hid hNew
  clear hNew
  try simp only [Act.put, List.setIfInBounds_toArray, List.set_cons_zero, List.set_cons_succ]
  refine wpAnyH_takeL 9 (v := ?_) rfl (by kernel_rfl) (by kernel_rfl) (by kernel_rfl) (fun _ _ _ h => h) hHeld.out (yieldsIf_of rfl ?_) ?_
  rotate_left
  · (intro w hSw; go_simp <;> with_reducible rfl)
  try simp only [Act.put, List.setIfInBounds_toArray, List.set_cons_zero, List.set_cons_succ]
  refine wpAnyH_takeL 10 (v := ?_) rfl (by kernel_rfl) (by kernel_rfl) (by kernel_rfl) (fun _ _ _ h => h) hHeld.out (yieldsIf_of rfl ?_) ?_
  rotate_left
  · (intro w hSw; go_simp <;> with_reducible rfl)
  try simp only [Act.put, List.setIfInBounds_toArray, List.set_cons_zero, List.set_cons_succ]
  refine wpAnyH_done (by kernel_rfl) ?_ _
  have hfin := Lib.hid hHeld.out.2.2.2.2
  clear hHeld
  go_wp2_with fail
  go_ret
  exact ⟨rfl, hfin.out⟩
set_option maxHeartbeats 4000000 in
theorem AffineExact_false (RF RG RV RW : Array Value) (a b : Int) (hF : FRow RF) (hG : FRow RG) (hV : VRow RV) (hW : VRow RW) (EQ : ∀ w, (Op.equalIn 10000 25 (.agg RF) (.agg RG)).run Try.prog w = .ok false w)
    (AP : Gives Try.prog 26 #[.agg RF, .agg RG] (.tuple #[.agg RW, .bool true])) (EF : Gives Try.prog 23 #[.agg RF, .agg RW] (.int .u32 a)) (EG : Gives Try.prog 23 #[.agg RG, .agg RW] (.int .u32 b)) (hab : ¬ (a = b)) (hab2 : (a != b) = true)
    (KN : Gives Try.prog 19 #[] (.bool true)) (w : World) :
    Calls Try.prog 7 #[.agg RF, .agg RG, .agg RV] w fun e w' => e = .returned (.bool true) ∧ Below w.heap.size w w' := by
  replace hF := Lib.hid hF
  replace hG := Lib.hid hG
  replace hV := Lib.hid hV
  replace hW := Lib.hid hW
  replace AP := Lib.hid AP
  replace EF := Lib.hid EF
  replace EG := Lib.hid EG
  replace KN := Lib.hid KN
  obtain ⟨q1, q2, q3, q4, q5⟩ := alloc3 w (Obj.cells RF 25) (Obj.cells RG 25) (Obj.cells RV 23)
  replace q1 := Lib.hid q1
  replace q2 := Lib.hid q2
  replace q3 := Lib.hid q3
  replace q5 := Lib.hid q5
  clear q4
  go_enter Try.func7, Try.ntmps7
  go_wp2_with (first | (refine wpList_load_row_g rfl 25 (.tmp 3) rfl _ rfl _ _ _ _ q1.out Try.underlying25 rfl hF.out.info ?_) | (refine wpList_load_row_g rfl 25 (.tmp 4) rfl _ rfl _ _ _ _ q2.out Try.underlying25 rfl hG.out.info ?_))
  refine (AP.out _).mono ?_
  rintro e w1 ⟨rfl, hb⟩
  have p1 := Lib.hid (blk_below q1.out hb)
  have p2 := Lib.hid (blk_below q2.out hb)
  have p3 := Lib.hid (blk_below q3.out hb)
  have p5 := Lib.hid (below_more q5.out (Nat.le_refl _) hb)
  clear hb q1 q2 q3 q5
  obtain ⟨W2, hW2, r, b⟩ := letvar w1 #[Value.int .u32 0, Value.int .u32 0, Value.int .u32 0, Value.int .u32 0, Value.int .u32 0, Value.int .u32 0, Value.int .u32 0, Value.int .u32 0, Value.int .u32 0, Value.int .u32 0, Value.int .u32 0, Value.int .u32 0, Value.int .u32 0, Value.int .u32 0, Value.int .u32 0, Value.int .u32 0, Value.int .u32 0, Value.int .u32 0, Value.int .u32 0, Value.int .u32 0, Value.int .u32 0, Value.int .u32 0, Value.int .u32 0, Value.int .u32 0, Value.int .u32 0, Value.int .u32 0, Value.int .u32 0, Value.int .u32 0, Value.int .u32 0, Value.int .u32 0, Value.int .u32 0, Value.int .u32 0, Value.int .u32 0, Value.int .u32 0] RW 23
  have HW := Lib.hid hW2
  have r4 := Lib.hid r
  have r1 := Lib.hid (blk_below p1.out b)
  have r2 := Lib.hid (blk_below p2.out b)
  have r3 := Lib.hid (blk_below p3.out b)
  have r5 := Lib.hid (below_more p5.out (Nat.le_refl _) b)
  clear hW2 r b p1 p2 p3 p5
  go_wp2_with (first | (refine wpList_store_row rfl 23 (.tmp 7) (.tmp 13) rfl rfl w1.heap.size rfl RW rfl _ _ (heap_alloc_new _ _) hW.out.size.symm hW.out.info hW.out.one ?_; rw [HW.out]) | (refine wpList_load_row_g rfl 25 (.tmp 3) rfl _ rfl _ _ _ _ r1.out Try.underlying25 rfl hF.out.info ?_) | (refine wpList_load_row_g rfl 25 (.tmp 4) rfl _ rfl _ _ _ _ r2.out Try.underlying25 rfl hG.out.info ?_))
  refine wp_region_held_drew (S := (fun w' => (w'.heap[w.heap.size]? = some (.cells RF 25 (0, 0))) ∧ (w'.heap[(w.heap.size + 1)]? = some (.cells RG 25 (0, 0))) ∧ (w'.heap[(w.heap.size + 1 + 1)]? = some (.cells RV 23 (0, 0))) ∧ (w'.heap[w1.heap.size]? = some (.cells RW 23 (0, 0))) ∧ (Below w.heap.size w w'))) (by kernel_rfl) ⟨r1.out, r2.out, r3.out, r4.out, r5.out.drew⟩ (fun hNew => ?_)
  have hHeld := Lib.hid hNew
  clear hNew
  refine wpAnyH_takeL 0 rfl (by kernel_rfl) (by kernel_rfl) (by kernel_rfl) (fun _ _ _ h => h) hHeld.out (yieldsIf_row rfl 25 (.tmp 3) rfl _ rfl _ RF _ _ (fun _ h => h.1) Try.underlying25 rfl hF.out.info) ?_
  try simp only [Act.put, List.setIfInBounds_toArray, List.set_cons_zero, List.set_cons_succ]
  refine wpAnyH_takeL 1 rfl (by kernel_rfl) (by kernel_rfl) (by kernel_rfl) (fun _ _ _ h => h) hHeld.out (yieldsIf_row rfl 23 (.tmp 7) rfl _ rfl _ RW _ _ (fun _ h => h.2.2.2.1) Try.underlying23 rfl hW.out.info) ?_
  try simp only [Act.put, List.setIfInBounds_toArray, List.set_cons_zero, List.set_cons_succ]
  refine wpAnyH_takeL 3 rfl (by kernel_rfl) (by kernel_rfl) (by kernel_rfl) (fun _ _ _ h => h) hHeld.out (yieldsIf_row rfl 25 (.tmp 4) rfl _ rfl _ RG _ _ (fun _ h => h.2.1) Try.underlying25 rfl hG.out.info) ?_
  try simp only [Act.put, List.setIfInBounds_toArray, List.set_cons_zero, List.set_cons_succ]
  refine wpAnyH_takeL 4 rfl (by kernel_rfl) (by kernel_rfl) (by kernel_rfl) (fun _ _ _ h => h) hHeld.out (yieldsIf_row rfl 23 (.tmp 7) rfl _ rfl _ RW _ _ (fun _ h => h.2.2.2.1) Try.underlying23 rfl hW.out.info) ?_
  try simp only [Act.put, List.setIfInBounds_toArray, List.set_cons_zero, List.set_cons_succ]
  refine wpAnyH_one 2 _ (by kernel_rfl) rfl (fun _ h => h) (fun K hK => ?_)
  go_simp
  refine (EF.out _).mono ?_
  rintro _ v30 ⟨rfl, hb⟩
  refine hK.out _ _ ⟨blk_below (hHeld.out.1) hb, blk_below (hHeld.out.2.1) hb, blk_below (hHeld.out.2.2.1) hb, blk_below (hHeld.out.2.2.2.1) hb, below_more (hHeld.out.2.2.2.2) (Nat.le_refl _) hb⟩ (fun hNew => ?_)
  clear hK K hHeld hb
  have hHeld := Lib.hid hNew
  clear hNew
  try simp only [Act.put, List.setIfInBounds_toArray, List.set_cons_zero, List.set_cons_succ]
  refine wpAnyH_one 5 _ (by kernel_rfl) rfl (fun _ h => h) (fun K hK => ?_)
  go_simp
  refine (EG.out _).mono ?_
  rintro _ v31 ⟨rfl, hb⟩
  refine hK.out _ _ ⟨blk_below (hHeld.out.1) hb, blk_below (hHeld.out.2.1) hb, blk_below (hHeld.out.2.2.1) hb, blk_below (hHeld.out.2.2.2.1) hb, below_more (hHeld.out.2.2.2.2) (Nat.le_refl _) hb⟩ (fun hNew => ?_)
  clear hK K hHeld hb
  have hHeld := Lib.hid hNew
  clear hNew
  try simp only [Act.put, List.setIfInBounds_toArray, List.set_cons_zero, List.set_cons_succ]
  refine wpAnyH_takeL 6 (v := ?_) rfl (by kernel_rfl) (by kernel_rfl) (by kernel_rfl) (fun _ _ _ h => h) hHeld.out (yieldsIf_of rfl ?_) ?_
  rotate_left
  · (intro w hSw; go_simp <;> with_reducible rfl)
  try simp only [Act.put, List.setIfInBounds_toArray, List.set_cons_zero, List.set_cons_succ]
  refine wpAnyH_takeL 7 (v := ?_) rfl (by kernel_rfl) (by kernel_rfl) (by kernel_rfl) (fun _ _ _ h => h) hHeld.out (yieldsIf_of rfl ?_) ?_
  rotate_left
  · (intro w hSw; go_simp <;> with_reducible rfl)
  try simp only [Act.put, List.setIfInBounds_toArray, List.set_cons_zero, List.set_cons_succ]
  refine wpAnyH_one 8 _ (by kernel_rfl) rfl (fun _ h => h) (fun K hK => ?_)
  go_simp
  refine (KN.out _).mono ?_
  rintro _ v32 ⟨rfl, hb⟩
  refine hK.out _ _ ⟨blk_below (hHeld.out.1) hb, blk_below (hHeld.out.2.1) hb, blk_below (hHeld.out.2.2.1) hb, blk_below (hHeld.out.2.2.2.1) hb, below_more (hHeld.out.2.2.2.2) (Nat.le_refl _) hb⟩ (fun hNew => ?_)
  clear hK K hHeld hb
  have hHeld := Lib.hid hNew
  clear hNew
  try simp only [Act.put, List.setIfInBounds_toArray, List.set_cons_zero, List.set_cons_succ]
  refine wpAnyH_takeL 9 (v := ?_) rfl (by kernel_rfl) (by kernel_rfl) (by kernel_rfl) (fun _ _ _ h => h) hHeld.out (yieldsIf_of rfl ?_) ?_
  rotate_left
  · (intro w hSw; go_simp <;> with_reducible rfl)
  try simp only [Act.put, List.setIfInBounds_toArray, List.set_cons_zero, List.set_cons_succ]
  refine wpAnyH_takeL 10 (v := ?_) rfl (by kernel_rfl) (by kernel_rfl) (by kernel_rfl) (fun _ _ _ h => h) hHeld.out (yieldsIf_of rfl ?_) ?_
  rotate_left
  · (intro w hSw; go_simp <;> with_reducible rfl)
  try simp only [Act.put, List.setIfInBounds_toArray, List.set_cons_zero, List.set_cons_succ]
  refine wpAnyH_done (by kernel_rfl) ?_ _
  have hfin := Lib.hid hHeld.out.2.2.2.2
  clear hHeld
  go_wp2_with fail
  go_ret
  exact ⟨rfl, hfin.out⟩
end Go.Proofs.Ytocofkkkblelgaa.H
