/-
Package hurdlelaw14: knows.
-/
import Derived.Test.YtocofkkkblelgaaProg
import Derived.WalkKit
import Derived.WalkSpells
import Derived.WalkLawsBesides
import Derived.Handy
import Derived.Lib.Hide
import Derived.Test.YtocofkkkblelgaaHAff7
import Derived.Test.YtocofkkkblelgaaHSeq
import Derived.Test.YtocofkkkblelgaaWWords
set_option linter.unusedVariables false
set_option linter.unusedSimpArgs false
namespace Go.Proofs.Ytocofkkkblelgaa.H
open Go.RowKit Go.Proofs.YtocofkkkblelgaaW.PrintWords

/-- The row of a form: what the walks ask of it. -/
structure FRow (R : Array Value) : Prop where
  size : R.size = 35
  info : (Try.prog.info? 25).map (·.size) = some R.size
  one : ∀ v ∈ R.toList, v.oneCell' = true
/-- The row of an assignment. -/
structure VRow (R : Array Value) : Prop where
  size : R.size = 34
  info : (Try.prog.info? 23).map (·.size) = some R.size
  one : ∀ v ∈ R.toList, v.oneCell' = true

set_option maxHeartbeats 2000000 in
theorem knows_abs (RA RB RM RV RS RD RC : Array Value) (hA : FRow RA) (hB : FRow RB) (hV : VRow RV) (hV0 : RV[0]? = some (.int .u32 1))
    (V0 : Gives Try.prog 9 #[.int .i64 0] (.tuple #[.agg RA, .int .i64 0])) (V1 : Gives Try.prog 9 #[.int .i64 1] (.tuple #[.agg RB, .int .i64 0]))
    (M : Gives Try.prog 16 #[.agg RA, .int .u32 3] (.agg RM)) (AP : Gives Try.prog 26 #[.agg RM, .agg RA] (.tuple #[.agg RV, .bool true]))
    (AD : Gives Try.prog 13 #[.agg RA, .agg RB] (.agg RS)) (SB : Gives Try.prog 15 #[.agg RS, .agg RA] (.agg RD)) (SG : Gives Try.prog 21 #[.agg RD] (.tuple #[.int .i64 1, .bool true]))
    (CN : Gives Try.prog 17 #[.int .u32 5] (.agg RC)) (CT : Gives Try.prog 20 #[.agg RC] (.tuple #[.int .u32 5, .bool true])) (EV : Gives Try.prog 23 #[.agg RA, .agg RV] (.int .u32 1))
    (w : World) : Calls Try.prog 19 #[] w fun e w' => e = .returned (.bool true) ∧ Below w.heap.size w w' := by
  replace V0 := Lib.hid V0
  replace V1 := Lib.hid V1
  replace M := Lib.hid M
  replace AP := Lib.hid AP
  replace AD := Lib.hid AD
  replace SB := Lib.hid SB
  replace SG := Lib.hid SG
  replace CN := Lib.hid CN
  replace CT := Lib.hid CT
  replace EV := Lib.hid EV
  replace hA := Lib.hid hA
  replace hB := Lib.hid hB
  replace hV := Lib.hid hV
  replace hV0 := Lib.hid hV0
  go_enter Try.func19, Try.ntmps19
  go_wp2_with fail
  refine (V0.out _).mono ?_
  rintro e w1 ⟨rfl, hb⟩
  have HB1 := Lib.hid hb
  clear hb
  obtain ⟨W2, hW, r, b⟩ := letvar w1 #[Value.int .u32 0, Value.int .u32 0, Value.int .u32 0, Value.int .u32 0, Value.int .u32 0, Value.int .u32 0, Value.int .u32 0, Value.int .u32 0, Value.int .u32 0, Value.int .u32 0, Value.int .u32 0, Value.int .u32 0, Value.int .u32 0, Value.int .u32 0, Value.int .u32 0, Value.int .u32 0, Value.int .u32 0, Value.int .u32 0, Value.int .u32 0, Value.int .u32 0, Value.int .u32 0, Value.int .u32 0, Value.int .u32 0, Value.int .u32 0, Value.int .u32 0, Value.int .u32 0, Value.int .u32 0, Value.int .u32 0, Value.int .u32 0, Value.int .u32 0, Value.int .u32 0, Value.int .u32 0, Value.int .u32 0, Value.int .u32 0, Value.int .u32 0] RA 25
  have HW := Lib.hid hW
  have A2 := Lib.hid r
  have HB2 := Lib.hid (below_more HB1.out (Nat.le_refl _) b)
  clear hW r b
  go_wp2_with (refine wpList_store_row rfl 25 (.tmp 1) (.tmp 13) rfl rfl w1.heap.size rfl RA rfl _ _ (heap_alloc_new _ _) hA.out.size.symm hA.out.info hA.out.one ?_; rw [HW.out])
  clear HW
  refine (V1.out _).mono ?_
  rintro e w3 ⟨rfl, hb⟩
  have A3 := Lib.hid (blk_below A2.out hb)
  have HB3 := Lib.hid (below_more HB2.out (Nat.le_refl _) hb)
  clear hb
  obtain ⟨W4, hW, r, b⟩ := letvar w3 #[Value.int .u32 0, Value.int .u32 0, Value.int .u32 0, Value.int .u32 0, Value.int .u32 0, Value.int .u32 0, Value.int .u32 0, Value.int .u32 0, Value.int .u32 0, Value.int .u32 0, Value.int .u32 0, Value.int .u32 0, Value.int .u32 0, Value.int .u32 0, Value.int .u32 0, Value.int .u32 0, Value.int .u32 0, Value.int .u32 0, Value.int .u32 0, Value.int .u32 0, Value.int .u32 0, Value.int .u32 0, Value.int .u32 0, Value.int .u32 0, Value.int .u32 0, Value.int .u32 0, Value.int .u32 0, Value.int .u32 0, Value.int .u32 0, Value.int .u32 0, Value.int .u32 0, Value.int .u32 0, Value.int .u32 0, Value.int .u32 0, Value.int .u32 0] RB 25
  have HW := Lib.hid hW
  have B4 := Lib.hid r
  have A4 := Lib.hid (blk_below A3.out b)
  have HB4 := Lib.hid (below_more HB3.out (Nat.le_refl _) b)
  clear hW r b
  go_wp2_with (refine wpList_store_row rfl 25 (.tmp 3) (.tmp 17) rfl rfl w3.heap.size rfl RB rfl _ _ (heap_alloc_new _ _) hB.out.size.symm hB.out.info hB.out.one ?_; rw [HW.out])
  clear HW
  refine wp_region_held_drew (S := (fun w' => (w'.heap[w1.heap.size]? = some (.cells RA 25 (0, 0))) ∧ (w'.heap[w3.heap.size]? = some (.cells RB 25 (0, 0))) ∧ (Below w.heap.size w w'))) (by kernel_rfl) ⟨A4.out, B4.out, HB4.out.drew⟩ (fun hNew => ?_)
  have hHeld := Lib.hid hNew
  clear hNew
  refine wpAnyH_takeL 0 rfl (by kernel_rfl) (by kernel_rfl) (by kernel_rfl) (fun _ _ _ h => h) hHeld.out (yieldsIf_row rfl 25 (.tmp 1) rfl _ rfl _ RA _ _ (fun _ h => h.1) Try.underlying25 rfl hA.out.info) ?_
  try simp only [Act.put, List.setIfInBounds_toArray, List.set_cons_zero, List.set_cons_succ]
  refine wpAnyH_takeL 2 rfl (by kernel_rfl) (by kernel_rfl) (by kernel_rfl) (fun _ _ _ h => h) hHeld.out (yieldsIf_row rfl 25 (.tmp 1) rfl _ rfl _ RA _ _ (fun _ h => h.1) Try.underlying25 rfl hA.out.info) ?_
  try simp only [Act.put, List.setIfInBounds_toArray, List.set_cons_zero, List.set_cons_succ]
  refine wpAnyH_ready (rs := [1, 7]) (by kernel_rfl) (by simp) (AllReadyH.cons rfl (fun K hK => ?_) (AllReadyH.cons rfl (fun K hK => ?_) (AllReadyH.nil)))
  · go_simp
    refine (M.out _).mono ?_
    rintro _ v1 ⟨rfl, hb⟩
    refine hK.out _ _ ⟨blk_below (hHeld.out.1) hb, blk_below (hHeld.out.2.1) hb, below_more (hHeld.out.2.2) (Nat.le_refl _) hb⟩ (fun hNew => ?_)
    clear hK K hHeld hb
    have hHeld := Lib.hid hNew
    clear hNew
    try simp only [Act.put, List.setIfInBounds_toArray, List.set_cons_zero, List.set_cons_succ]
    refine wpAnyH_ready (rs := [3, 7]) (by kernel_rfl) (by simp) (AllReadyH.cons rfl (fun K hK => ?_) (AllReadyH.cons rfl (fun K hK => ?_) (AllReadyH.nil)))
    · go_simp
      refine (AP.out _).mono ?_
      rintro _ v2 ⟨rfl, hb⟩
      refine hK.out _ _ ⟨blk_below (hHeld.out.1) hb, blk_below (hHeld.out.2.1) hb, below_more (hHeld.out.2.2) (Nat.le_refl _) hb⟩ (fun hNew => ?_)
      clear hK K hHeld hb
      have hHeld := Lib.hid hNew
      clear hNew
      try simp only [Act.put, List.setIfInBounds_toArray, List.set_cons_zero, List.set_cons_succ]
      refine wpAnyH_takeL 4 (v := ?_) rfl (by kernel_rfl) (by kernel_rfl) (by kernel_rfl) (fun _ _ _ h => h) hHeld.out (yieldsIf_of rfl ?_) ?_
      rotate_left
      · (intro w hSw; go_simp <;> with_reducible rfl)
      try simp only [Act.put, List.setIfInBounds_toArray, List.set_cons_zero, List.set_cons_succ]
      refine wpAnyH_takeL 5 (v := ?_) rfl (by kernel_rfl) (by kernel_rfl) (by kernel_rfl) (fun _ _ _ h => h) hHeld.out (yieldsIf_of rfl ?_) ?_
      rotate_left
      · (intro w hSw; go_simp <;> with_reducible rfl)
      try simp only [Act.put, List.setIfInBounds_toArray, List.set_cons_zero, List.set_cons_succ]
      refine wpAnyH_takeL 6 (v := ?_) rfl (by kernel_rfl) (by kernel_rfl) (by kernel_rfl) (fun _ _ _ h => h) hHeld.out (yieldsIf_of rfl ?_) ?_
      rotate_left
      · (intro w hSw; go_simp <;> with_reducible rfl)
      try simp only [Act.put, List.setIfInBounds_toArray, List.set_cons_zero, List.set_cons_succ]
      refine wpAnyH_one 7 _ (by kernel_rfl) rfl (fun _ h => h) (fun K hK => ?_)
      go_simp
      have hnv_a := Nat.ne_of_lt (blk_lt hHeld.out.1)
      have hnv_x := Nat.ne_of_lt (blk_lt hHeld.out.2.1)
      have hlev := (hHeld.out.2.2).size
      refine hK.out _ _ ⟨blk_alloc (hHeld.out.1) _, blk_alloc (hHeld.out.2.1) _, (hHeld.out.2.2).alloc (hHeld.out.2.2).size _⟩ (fun hNew => ?_)
      have hNew := And.intro (HasRow.new v2 (t := 23) (n := 34) (Z := (nums .u32 z34).toArray) (by rfl)) hNew
      refine wpAnyH_stronger (fun w' => (HasRow w' v2.heap.size 23 34) ∧ (w'.heap[w1.heap.size]? = some (.cells RA 25 (0, 0))) ∧ (w'.heap[w3.heap.size]? = some (.cells RB 25 (0, 0))) ∧ (Below w.heap.size w w')) (fun _ h => h.2) ?_
      clear hK K hHeld
      have hHeld := Lib.hid hNew
      clear hNew
      try simp only [Act.put, List.setIfInBounds_toArray, List.set_cons_zero, List.set_cons_succ]
      refine wpAnyH_one 8 _ (by kernel_rfl) rfl (fun _ h => h) (fun K hK => ?_)
      rw [if_pos (by rfl)]
      refine wp_store_has 23 (.tmp 5) (.tmp 24) rfl rfl hHeld.out.1 rfl RV rfl hV.out.size hV.out.info hV.out.one ?_
      refine hK.out _ _ ⟨HasRow.same hHeld.out.1 hV.out.size, row_setRow hHeld.out.2.1 hnv_a, row_setRow hHeld.out.2.2.1 hnv_x, below_setRow hHeld.out.2.2.2 hlev⟩ (fun hNew => ?_)
      have hNew := And.intro (HasRow.stored (hHeld.out.1) RV) hNew
      refine wpAnyH_stronger (fun w' => (w'.heap[v2.heap.size]? = some (.cells RV 23 (0, 0))) ∧ (HasRow w' v2.heap.size 23 34) ∧ (w'.heap[w1.heap.size]? = some (.cells RA 25 (0, 0))) ∧ (w'.heap[w3.heap.size]? = some (.cells RB 25 (0, 0))) ∧ (Below w.heap.size w w')) (fun _ h => h.2) ?_
      clear hK K hHeld
      have hHeld := Lib.hid hNew
      clear hNew
      try simp only [Act.put, List.setIfInBounds_toArray, List.set_cons_zero, List.set_cons_succ]
      refine wpAnyH_takeL 9 (v := ?_) rfl (by kernel_rfl) (by kernel_rfl) (by kernel_rfl) (fun _ _ _ h => h) hHeld.out (yieldsIf_of rfl ?_) ?_
      rotate_left
      · (intro w hSw; go_simp <;> with_reducible rfl)
      try simp only [Act.put, List.setIfInBounds_toArray, List.set_cons_zero, List.set_cons_succ]
      refine wpAnyH_done (by kernel_rfl) ?_ _
      go_wp2_with fail
      refine wp_region_held_drew (S := (fun w' => (w'.heap[v2.heap.size]? = some (.cells RV 23 (0, 0))) ∧ (HasRow w' v2.heap.size 23 34) ∧ (w'.heap[w1.heap.size]? = some (.cells RA 25 (0, 0))) ∧ (w'.heap[w3.heap.size]? = some (.cells RB 25 (0, 0))) ∧ (Below w.heap.size w w'))) (by kernel_rfl) (show ((World.drew _).heap[v2.heap.size]? = some (.cells RV 23 (0, 0))) ∧ (HasRow (World.drew _) v2.heap.size 23 34) ∧ ((World.drew _).heap[w1.heap.size]? = some (.cells RA 25 (0, 0))) ∧ ((World.drew _).heap[w3.heap.size]? = some (.cells RB 25 (0, 0))) ∧ (Below w.heap.size w (World.drew _)) from ⟨(hHeld.out.1), (hHeld.out.2.1), (hHeld.out.2.2.1), (hHeld.out.2.2.2.1), (hHeld.out.2.2.2.2).drew⟩) (fun hNew => ?_)
      have hHeld := Lib.hid hNew
      clear hNew
      refine wpAnyH_takeL 0 rfl (by kernel_rfl) (by kernel_rfl) (by kernel_rfl) (fun _ _ _ h => h) hHeld.out (yieldsIf_row rfl 25 (.tmp 1) rfl _ rfl _ RA _ _ (fun _ h => h.2.2.1) Try.underlying25 rfl hA.out.info) ?_
      try simp only [Act.put, List.setIfInBounds_toArray, List.set_cons_zero, List.set_cons_succ]
      refine wpAnyH_takeL 1 rfl (by kernel_rfl) (by kernel_rfl) (by kernel_rfl) (fun _ _ _ h => h) hHeld.out (yieldsIf_row rfl 25 (.tmp 3) rfl _ rfl _ RB _ _ (fun _ h => h.2.2.2.1) Try.underlying25 rfl hB.out.info) ?_
      try simp only [Act.put, List.setIfInBounds_toArray, List.set_cons_zero, List.set_cons_succ]
      refine wpAnyH_takeL 3 rfl (by kernel_rfl) (by kernel_rfl) (by kernel_rfl) (fun _ _ _ h => h) hHeld.out (yieldsIf_row rfl 25 (.tmp 1) rfl _ rfl _ RA _ _ (fun _ h => h.2.2.1) Try.underlying25 rfl hA.out.info) ?_
      try simp only [Act.put, List.setIfInBounds_toArray, List.set_cons_zero, List.set_cons_succ]
      refine wpAnyH_one 2 _ (by kernel_rfl) rfl (fun _ h => h) (fun K hK => ?_)
      go_simp
      refine (AD.out _).mono ?_
      rintro _ v3 ⟨rfl, hb⟩
      refine hK.out _ _ ⟨blk_below (hHeld.out.1) hb, HasRow.below (hHeld.out.2.1) hb, blk_below (hHeld.out.2.2.1) hb, blk_below (hHeld.out.2.2.2.1) hb, below_more (hHeld.out.2.2.2.2) (Nat.le_refl _) hb⟩ (fun hNew => ?_)
      clear hK K hHeld hb
      have hHeld := Lib.hid hNew
      clear hNew
      try simp only [Act.put, List.setIfInBounds_toArray, List.set_cons_zero, List.set_cons_succ]
      refine wpAnyH_one 4 _ (by kernel_rfl) rfl (fun _ h => h) (fun K hK => ?_)
      go_simp
      refine (SB.out _).mono ?_
      rintro _ v4 ⟨rfl, hb⟩
      refine hK.out _ _ ⟨blk_below (hHeld.out.1) hb, HasRow.below (hHeld.out.2.1) hb, blk_below (hHeld.out.2.2.1) hb, blk_below (hHeld.out.2.2.2.1) hb, below_more (hHeld.out.2.2.2.2) (Nat.le_refl _) hb⟩ (fun hNew => ?_)
      clear hK K hHeld hb
      have hHeld := Lib.hid hNew
      clear hNew
      try simp only [Act.put, List.setIfInBounds_toArray, List.set_cons_zero, List.set_cons_succ]
      refine wpAnyH_one 5 _ (by kernel_rfl) rfl (fun _ h => h) (fun K hK => ?_)
      go_simp
      refine (SG.out _).mono ?_
      rintro _ v5 ⟨rfl, hb⟩
      refine hK.out _ _ ⟨blk_below (hHeld.out.1) hb, HasRow.below (hHeld.out.2.1) hb, blk_below (hHeld.out.2.2.1) hb, blk_below (hHeld.out.2.2.2.1) hb, below_more (hHeld.out.2.2.2.2) (Nat.le_refl _) hb⟩ (fun hNew => ?_)
      clear hK K hHeld hb
      have hHeld := Lib.hid hNew
      clear hNew
      try simp only [Act.put, List.setIfInBounds_toArray, List.set_cons_zero, List.set_cons_succ]
      refine wpAnyH_takeL 6 (v := ?_) rfl (by kernel_rfl) (by kernel_rfl) (by kernel_rfl) (fun _ _ _ h => h) hHeld.out (yieldsIf_of rfl ?_) ?_
      rotate_left
      · (intro w hSw; go_simp <;> with_reducible rfl)
      try simp only [Act.put, List.setIfInBounds_toArray, List.set_cons_zero, List.set_cons_succ]
      refine wpAnyH_takeL 7 (v := ?_) rfl (by kernel_rfl) (by kernel_rfl) (by kernel_rfl) (fun _ _ _ h => h) hHeld.out (yieldsIf_of rfl ?_) ?_
      rotate_left
      · (intro w hSw; go_simp <;> with_reducible rfl)
      try simp only [Act.put, List.setIfInBounds_toArray, List.set_cons_zero, List.set_cons_succ]
      refine wpAnyH_takeL 8 (v := ?_) rfl (by kernel_rfl) (by kernel_rfl) (by kernel_rfl) (fun _ _ _ h => h) hHeld.out (yieldsIf_of rfl ?_) ?_
      rotate_left
      · (intro w hSw; go_simp <;> with_reducible rfl)
      try simp only [Act.put, List.setIfInBounds_toArray, List.set_cons_zero, List.set_cons_succ]
      refine wpAnyH_takeL 9 (v := ?_) rfl (by kernel_rfl) (by kernel_rfl) (by kernel_rfl) (fun _ _ _ h => h) hHeld.out (yieldsIf_of rfl ?_) ?_
      rotate_left
      · (intro w hSw; go_simp <;> with_reducible rfl)
      try simp only [Act.put, List.setIfInBounds_toArray, List.set_cons_zero, List.set_cons_succ]
      refine wpAnyH_takeL 10 (v := ?_) rfl (by kernel_rfl) (by kernel_rfl) (by kernel_rfl) (fun _ _ _ h => h) hHeld.out (yieldsIf_of rfl ?_) ?_
      rotate_left
      · (intro w hSw; go_simp <;> with_reducible rfl)
      try simp only [Act.put, List.setIfInBounds_toArray, List.set_cons_zero, List.set_cons_succ]
      refine wpAnyH_done (by kernel_rfl) ?_ _
      go_wp2_with fail
      refine (CN.out _).mono ?_
      rintro e w7 ⟨rfl, hb⟩
      have hNew : (w7.heap[v2.heap.size]? = some (.cells RV 23 (0, 0))) ∧ (HasRow w7 v2.heap.size 23 34) ∧ (w7.heap[w1.heap.size]? = some (.cells RA 25 (0, 0))) ∧ (w7.heap[w3.heap.size]? = some (.cells RB 25 (0, 0))) ∧ (Below w.heap.size w w7) := ⟨blk_below (hHeld.out.1) hb, HasRow.below (hHeld.out.2.1) hb, blk_below (hHeld.out.2.2.1) hb, blk_below (hHeld.out.2.2.2.1) hb, below_more (hHeld.out.2.2.2.2) (Nat.le_refl _) hb⟩
      clear hb hHeld
      have hHeld := Lib.hid hNew
      clear hNew
      go_wp2_with fail
      refine (CT.out _).mono ?_
      rintro e w8 ⟨rfl, hb⟩
      have hNew : (w8.heap[v2.heap.size]? = some (.cells RV 23 (0, 0))) ∧ (HasRow w8 v2.heap.size 23 34) ∧ (w8.heap[w1.heap.size]? = some (.cells RA 25 (0, 0))) ∧ (w8.heap[w3.heap.size]? = some (.cells RB 25 (0, 0))) ∧ (Below w.heap.size w w8) := ⟨blk_below (hHeld.out.1) hb, HasRow.below (hHeld.out.2.1) hb, blk_below (hHeld.out.2.2.1) hb, blk_below (hHeld.out.2.2.2.1) hb, below_more (hHeld.out.2.2.2.2) (Nat.le_refl _) hb⟩
      clear hb hHeld
      have hHeld := Lib.hid hNew
      clear hNew
      have hcell : w8.cell? ⟨v2.heap.size, 0, none⟩ = some (.int .u32 1) := (blk_cell hHeld.out.1 0).trans hV0.out
      go_wp2_with (first | (refine wpList_load_row_g rfl 25 (.tmp 1) rfl _ rfl _ _ _ _ hHeld.out.2.2.1 Try.underlying25 rfl hA.out.info ?_) | (refine wpList_load_row_g rfl 23 (.tmp 5) rfl _ rfl _ _ _ _ hHeld.out.1 Try.underlying23 rfl hV.out.info ?_))
      refine (EV.out _).mono ?_
      rintro e w9 ⟨rfl, hb⟩
      have hfin : Below w.heap.size w w9 := below_more hHeld.out.2.2.2.2 (Nat.le_refl _) hb
      clear hb hHeld hcell
      replace hfin := Lib.hid hfin
      go_wp2_with fail
      go_ret
      exact ⟨rfl, hfin.out⟩
    · go_simp
      have hnv_a := Nat.ne_of_lt (blk_lt hHeld.out.1)
      have hnv_x := Nat.ne_of_lt (blk_lt hHeld.out.2.1)
      have hlev := (hHeld.out.2.2).size
      refine hK.out _ _ ⟨blk_alloc (hHeld.out.1) _, blk_alloc (hHeld.out.2.1) _, (hHeld.out.2.2).alloc (hHeld.out.2.2).size _⟩ (fun hNew => ?_)
      have hNew := And.intro (HasRow.new v1 (t := 23) (n := 34) (Z := (nums .u32 z34).toArray) (by rfl)) hNew
      refine wpAnyH_stronger (fun w' => (HasRow w' v1.heap.size 23 34) ∧ (w'.heap[w1.heap.size]? = some (.cells RA 25 (0, 0))) ∧ (w'.heap[w3.heap.size]? = some (.cells RB 25 (0, 0))) ∧ (Below w.heap.size w w')) (fun _ h => h.2) ?_
      clear hK K hHeld
      have hHeld := Lib.hid hNew
      clear hNew
      try simp only [Act.put, List.setIfInBounds_toArray, List.set_cons_zero, List.set_cons_succ]
      refine wpAnyH_one 3 _ (by kernel_rfl) rfl (fun _ h => h) (fun K hK => ?_)
      go_simp
      refine (AP.out _).mono ?_
      rintro _ v6 ⟨rfl, hb⟩
      refine hK.out _ _ ⟨HasRow.below (hHeld.out.1) hb, blk_below (hHeld.out.2.1) hb, blk_below (hHeld.out.2.2.1) hb, below_more (hHeld.out.2.2.2) (Nat.le_refl _) hb⟩ (fun hNew => ?_)
      clear hK K hHeld hb
      have hHeld := Lib.hid hNew
      clear hNew
      try simp only [Act.put, List.setIfInBounds_toArray, List.set_cons_zero, List.set_cons_succ]
      refine wpAnyH_takeL 4 (v := ?_) rfl (by kernel_rfl) (by kernel_rfl) (by kernel_rfl) (fun _ _ _ h => h) hHeld.out (yieldsIf_of rfl ?_) ?_
      rotate_left
      · (intro w hSw; go_simp <;> with_reducible rfl)
      try simp only [Act.put, List.setIfInBounds_toArray, List.set_cons_zero, List.set_cons_succ]
      refine wpAnyH_takeL 5 (v := ?_) rfl (by kernel_rfl) (by kernel_rfl) (by kernel_rfl) (fun _ _ _ h => h) hHeld.out (yieldsIf_of rfl ?_) ?_
      rotate_left
      · (intro w hSw; go_simp <;> with_reducible rfl)
      try simp only [Act.put, List.setIfInBounds_toArray, List.set_cons_zero, List.set_cons_succ]
      refine wpAnyH_takeL 6 (v := ?_) rfl (by kernel_rfl) (by kernel_rfl) (by kernel_rfl) (fun _ _ _ h => h) hHeld.out (yieldsIf_of rfl ?_) ?_
      rotate_left
      · (intro w hSw; go_simp <;> with_reducible rfl)
      try simp only [Act.put, List.setIfInBounds_toArray, List.set_cons_zero, List.set_cons_succ]
      refine wpAnyH_one 8 _ (by kernel_rfl) rfl (fun _ h => h) (fun K hK => ?_)
      rw [if_pos (by rfl)]
      refine wp_store_has 23 (.tmp 5) (.tmp 24) rfl rfl hHeld.out.1 rfl RV rfl hV.out.size hV.out.info hV.out.one ?_
      refine hK.out _ _ ⟨HasRow.same hHeld.out.1 hV.out.size, row_setRow hHeld.out.2.1 hnv_a, row_setRow hHeld.out.2.2.1 hnv_x, below_setRow hHeld.out.2.2.2 hlev⟩ (fun hNew => ?_)
      have hNew := And.intro (HasRow.stored (hHeld.out.1) RV) hNew
      refine wpAnyH_stronger (fun w' => (w'.heap[v1.heap.size]? = some (.cells RV 23 (0, 0))) ∧ (HasRow w' v1.heap.size 23 34) ∧ (w'.heap[w1.heap.size]? = some (.cells RA 25 (0, 0))) ∧ (w'.heap[w3.heap.size]? = some (.cells RB 25 (0, 0))) ∧ (Below w.heap.size w w')) (fun _ h => h.2) ?_
      clear hK K hHeld
      have hHeld := Lib.hid hNew
      clear hNew
      try simp only [Act.put, List.setIfInBounds_toArray, List.set_cons_zero, List.set_cons_succ]
      refine wpAnyH_takeL 9 (v := ?_) rfl (by kernel_rfl) (by kernel_rfl) (by kernel_rfl) (fun _ _ _ h => h) hHeld.out (yieldsIf_of rfl ?_) ?_
      rotate_left
      · (intro w hSw; go_simp <;> with_reducible rfl)
      try simp only [Act.put, List.setIfInBounds_toArray, List.set_cons_zero, List.set_cons_succ]
      refine wpAnyH_done (by kernel_rfl) ?_ _
      go_wp2_with fail
      refine wp_region_held_drew (S := (fun w' => (w'.heap[v1.heap.size]? = some (.cells RV 23 (0, 0))) ∧ (HasRow w' v1.heap.size 23 34) ∧ (w'.heap[w1.heap.size]? = some (.cells RA 25 (0, 0))) ∧ (w'.heap[w3.heap.size]? = some (.cells RB 25 (0, 0))) ∧ (Below w.heap.size w w'))) (by kernel_rfl) (show ((World.drew _).heap[v1.heap.size]? = some (.cells RV 23 (0, 0))) ∧ (HasRow (World.drew _) v1.heap.size 23 34) ∧ ((World.drew _).heap[w1.heap.size]? = some (.cells RA 25 (0, 0))) ∧ ((World.drew _).heap[w3.heap.size]? = some (.cells RB 25 (0, 0))) ∧ (Below w.heap.size w (World.drew _)) from ⟨(hHeld.out.1), (hHeld.out.2.1), (hHeld.out.2.2.1), (hHeld.out.2.2.2.1), (hHeld.out.2.2.2.2).drew⟩) (fun hNew => ?_)
      have hHeld := Lib.hid hNew
      clear hNew
      refine wpAnyH_takeL 0 rfl (by kernel_rfl) (by kernel_rfl) (by kernel_rfl) (fun _ _ _ h => h) hHeld.out (yieldsIf_row rfl 25 (.tmp 1) rfl _ rfl _ RA _ _ (fun _ h => h.2.2.1) Try.underlying25 rfl hA.out.info) ?_
      try simp only [Act.put, List.setIfInBounds_toArray, List.set_cons_zero, List.set_cons_succ]
      refine wpAnyH_takeL 1 rfl (by kernel_rfl) (by kernel_rfl) (by kernel_rfl) (fun _ _ _ h => h) hHeld.out (yieldsIf_row rfl 25 (.tmp 3) rfl _ rfl _ RB _ _ (fun _ h => h.2.2.2.1) Try.underlying25 rfl hB.out.info) ?_
      try simp only [Act.put, List.setIfInBounds_toArray, List.set_cons_zero, List.set_cons_succ]
      refine wpAnyH_takeL 3 rfl (by kernel_rfl) (by kernel_rfl) (by kernel_rfl) (fun _ _ _ h => h) hHeld.out (yieldsIf_row rfl 25 (.tmp 1) rfl _ rfl _ RA _ _ (fun _ h => h.2.2.1) Try.underlying25 rfl hA.out.info) ?_
      try simp only [Act.put, List.setIfInBounds_toArray, List.set_cons_zero, List.set_cons_succ]
      refine wpAnyH_one 2 _ (by kernel_rfl) rfl (fun _ h => h) (fun K hK => ?_)
      go_simp
      refine (AD.out _).mono ?_
      rintro _ v7 ⟨rfl, hb⟩
      refine hK.out _ _ ⟨blk_below (hHeld.out.1) hb, HasRow.below (hHeld.out.2.1) hb, blk_below (hHeld.out.2.2.1) hb, blk_below (hHeld.out.2.2.2.1) hb, below_more (hHeld.out.2.2.2.2) (Nat.le_refl _) hb⟩ (fun hNew => ?_)
      clear hK K hHeld hb
      have hHeld := Lib.hid hNew
      clear hNew
      try simp only [Act.put, List.setIfInBounds_toArray, List.set_cons_zero, List.set_cons_succ]
      refine wpAnyH_one 4 _ (by kernel_rfl) rfl (fun _ h => h) (fun K hK => ?_)
      go_simp
      refine (SB.out _).mono ?_
      rintro _ v8 ⟨rfl, hb⟩
      refine hK.out _ _ ⟨blk_below (hHeld.out.1) hb, HasRow.below (hHeld.out.2.1) hb, blk_below (hHeld.out.2.2.1) hb, blk_below (hHeld.out.2.2.2.1) hb, below_more (hHeld.out.2.2.2.2) (Nat.le_refl _) hb⟩ (fun hNew => ?_)
      clear hK K hHeld hb
      have hHeld := Lib.hid hNew
      clear hNew
      try simp only [Act.put, List.setIfInBounds_toArray, List.set_cons_zero, List.set_cons_succ]
      refine wpAnyH_one 5 _ (by kernel_rfl) rfl (fun _ h => h) (fun K hK => ?_)
      go_simp
      refine (SG.out _).mono ?_
      rintro _ v9 ⟨rfl, hb⟩
      refine hK.out _ _ ⟨blk_below (hHeld.out.1) hb, HasRow.below (hHeld.out.2.1) hb, blk_below (hHeld.out.2.2.1) hb, blk_below (hHeld.out.2.2.2.1) hb, below_more (hHeld.out.2.2.2.2) (Nat.le_refl _) hb⟩ (fun hNew => ?_)
      clear hK K hHeld hb
      have hHeld := Lib.hid hNew
      clear hNew
      try simp only [Act.put, List.setIfInBounds_toArray, List.set_cons_zero, List.set_cons_succ]
      refine wpAnyH_takeL 6 (v := ?_) rfl (by kernel_rfl) (by kernel_rfl) (by kernel_rfl) (fun _ _ _ h => h) hHeld.out (yieldsIf_of rfl ?_) ?_
      rotate_left
      · (intro w hSw; go_simp <;> with_reducible rfl)
      try simp only [Act.put, List.setIfInBounds_toArray, List.set_cons_zero, List.set_cons_succ]
      refine wpAnyH_takeL 7 (v := ?_) rfl (by kernel_rfl) (by kernel_rfl) (by kernel_rfl) (fun _ _ _ h => h) hHeld.out (yieldsIf_of rfl ?_) ?_
      rotate_left
      · (intro w hSw; go_simp <;> with_reducible rfl)
      try simp only [Act.put, List.setIfInBounds_toArray, List.set_cons_zero, List.set_cons_succ]
      refine wpAnyH_takeL 8 (v := ?_) rfl (by kernel_rfl) (by kernel_rfl) (by kernel_rfl) (fun _ _ _ h => h) hHeld.out (yieldsIf_of rfl ?_) ?_
      rotate_left
      · (intro w hSw; go_simp <;> with_reducible rfl)
      try simp only [Act.put, List.setIfInBounds_toArray, List.set_cons_zero, List.set_cons_succ]
      refine wpAnyH_takeL 9 (v := ?_) rfl (by kernel_rfl) (by kernel_rfl) (by kernel_rfl) (fun _ _ _ h => h) hHeld.out (yieldsIf_of rfl ?_) ?_
      rotate_left
      · (intro w hSw; go_simp <;> with_reducible rfl)
      try simp only [Act.put, List.setIfInBounds_toArray, List.set_cons_zero, List.set_cons_succ]
      refine wpAnyH_takeL 10 (v := ?_) rfl (by kernel_rfl) (by kernel_rfl) (by kernel_rfl) (fun _ _ _ h => h) hHeld.out (yieldsIf_of rfl ?_) ?_
      rotate_left
      · (intro w hSw; go_simp <;> with_reducible rfl)
      try simp only [Act.put, List.setIfInBounds_toArray, List.set_cons_zero, List.set_cons_succ]
      refine wpAnyH_done (by kernel_rfl) ?_ _
      go_wp2_with fail
      refine (CN.out _).mono ?_
      rintro e w7 ⟨rfl, hb⟩
      have hNew : (w7.heap[v1.heap.size]? = some (.cells RV 23 (0, 0))) ∧ (HasRow w7 v1.heap.size 23 34) ∧ (w7.heap[w1.heap.size]? = some (.cells RA 25 (0, 0))) ∧ (w7.heap[w3.heap.size]? = some (.cells RB 25 (0, 0))) ∧ (Below w.heap.size w w7) := ⟨blk_below (hHeld.out.1) hb, HasRow.below (hHeld.out.2.1) hb, blk_below (hHeld.out.2.2.1) hb, blk_below (hHeld.out.2.2.2.1) hb, below_more (hHeld.out.2.2.2.2) (Nat.le_refl _) hb⟩
      clear hb hHeld
      have hHeld := Lib.hid hNew
      clear hNew
      go_wp2_with fail
      refine (CT.out _).mono ?_
      rintro e w8 ⟨rfl, hb⟩
      have hNew : (w8.heap[v1.heap.size]? = some (.cells RV 23 (0, 0))) ∧ (HasRow w8 v1.heap.size 23 34) ∧ (w8.heap[w1.heap.size]? = some (.cells RA 25 (0, 0))) ∧ (w8.heap[w3.heap.size]? = some (.cells RB 25 (0, 0))) ∧ (Below w.heap.size w w8) := ⟨blk_below (hHeld.out.1) hb, HasRow.below (hHeld.out.2.1) hb, blk_below (hHeld.out.2.2.1) hb, blk_below (hHeld.out.2.2.2.1) hb, below_more (hHeld.out.2.2.2.2) (Nat.le_refl _) hb⟩
      clear hb hHeld
      have hHeld := Lib.hid hNew
      clear hNew
      have hcell : w8.cell? ⟨v1.heap.size, 0, none⟩ = some (.int .u32 1) := (blk_cell hHeld.out.1 0).trans hV0.out
      go_wp2_with (first | (refine wpList_load_row_g rfl 25 (.tmp 1) rfl _ rfl _ _ _ _ hHeld.out.2.2.1 Try.underlying25 rfl hA.out.info ?_) | (refine wpList_load_row_g rfl 23 (.tmp 5) rfl _ rfl _ _ _ _ hHeld.out.1 Try.underlying23 rfl hV.out.info ?_))
      refine (EV.out _).mono ?_
      rintro e w9 ⟨rfl, hb⟩
      have hfin : Below w.heap.size w w9 := below_more hHeld.out.2.2.2.2 (Nat.le_refl _) hb
      clear hb hHeld hcell
      replace hfin := Lib.hid hfin
      go_wp2_with fail
      go_ret
      exact ⟨rfl, hfin.out⟩
  · go_simp
    have hnv_a := Nat.ne_of_lt (blk_lt hHeld.out.1)
    have hnv_x := Nat.ne_of_lt (blk_lt hHeld.out.2.1)
    have hlev := (hHeld.out.2.2).size
    refine hK.out _ _ ⟨blk_alloc (hHeld.out.1) _, blk_alloc (hHeld.out.2.1) _, (hHeld.out.2.2).alloc (hHeld.out.2.2).size _⟩ (fun hNew => ?_)
    have hNew := And.intro (HasRow.new W4.drew (t := 23) (n := 34) (Z := (nums .u32 z34).toArray) (by rfl)) hNew
    refine wpAnyH_stronger (fun w' => (HasRow w' W4.heap.size 23 34) ∧ (w'.heap[w1.heap.size]? = some (.cells RA 25 (0, 0))) ∧ (w'.heap[w3.heap.size]? = some (.cells RB 25 (0, 0))) ∧ (Below w.heap.size w w')) (fun _ h => h.2) ?_
    clear hK K hHeld
    have hHeld := Lib.hid hNew
    clear hNew
    try simp only [Act.put, List.setIfInBounds_toArray, List.set_cons_zero, List.set_cons_succ]
    refine wpAnyH_one 1 _ (by kernel_rfl) rfl (fun _ h => h) (fun K hK => ?_)
    go_simp
    refine (M.out _).mono ?_
    rintro _ v10 ⟨rfl, hb⟩
    refine hK.out _ _ ⟨HasRow.below (hHeld.out.1) hb, blk_below (hHeld.out.2.1) hb, blk_below (hHeld.out.2.2.1) hb, below_more (hHeld.out.2.2.2) (Nat.le_refl _) hb⟩ (fun hNew => ?_)
    clear hK K hHeld hb
    have hHeld := Lib.hid hNew
    clear hNew
    try simp only [Act.put, List.setIfInBounds_toArray, List.set_cons_zero, List.set_cons_succ]
    refine wpAnyH_one 3 _ (by kernel_rfl) rfl (fun _ h => h) (fun K hK => ?_)
    go_simp
    refine (AP.out _).mono ?_
    rintro _ v11 ⟨rfl, hb⟩
    refine hK.out _ _ ⟨HasRow.below (hHeld.out.1) hb, blk_below (hHeld.out.2.1) hb, blk_below (hHeld.out.2.2.1) hb, below_more (hHeld.out.2.2.2) (Nat.le_refl _) hb⟩ (fun hNew => ?_)
    clear hK K hHeld hb
    have hHeld := Lib.hid hNew
    clear hNew
    try simp only [Act.put, List.setIfInBounds_toArray, List.set_cons_zero, List.set_cons_succ]
    refine wpAnyH_takeL 4 (v := ?_) rfl (by kernel_rfl) (by kernel_rfl) (by kernel_rfl) (fun _ _ _ h => h) hHeld.out (yieldsIf_of rfl ?_) ?_
    rotate_left
    · (intro w hSw; go_simp <;> with_reducible rfl)
    try simp only [Act.put, List.setIfInBounds_toArray, List.set_cons_zero, List.set_cons_succ]
    refine wpAnyH_takeL 5 (v := ?_) rfl (by kernel_rfl) (by kernel_rfl) (by kernel_rfl) (fun _ _ _ h => h) hHeld.out (yieldsIf_of rfl ?_) ?_
    rotate_left
    · (intro w hSw; go_simp <;> with_reducible rfl)
    try simp only [Act.put, List.setIfInBounds_toArray, List.set_cons_zero, List.set_cons_succ]
    refine wpAnyH_takeL 6 (v := ?_) rfl (by kernel_rfl) (by kernel_rfl) (by kernel_rfl) (fun _ _ _ h => h) hHeld.out (yieldsIf_of rfl ?_) ?_
    rotate_left
    · (intro w hSw; go_simp <;> with_reducible rfl)
    try simp only [Act.put, List.setIfInBounds_toArray, List.set_cons_zero, List.set_cons_succ]
    refine wpAnyH_one 8 _ (by kernel_rfl) rfl (fun _ h => h) (fun K hK => ?_)
    rw [if_pos (by rfl)]
    refine wp_store_has 23 (.tmp 5) (.tmp 24) rfl rfl hHeld.out.1 rfl RV rfl hV.out.size hV.out.info hV.out.one ?_
    refine hK.out _ _ ⟨HasRow.same hHeld.out.1 hV.out.size, row_setRow hHeld.out.2.1 hnv_a, row_setRow hHeld.out.2.2.1 hnv_x, below_setRow hHeld.out.2.2.2 hlev⟩ (fun hNew => ?_)
    have hNew := And.intro (HasRow.stored (hHeld.out.1) RV) hNew
    refine wpAnyH_stronger (fun w' => (w'.heap[W4.heap.size]? = some (.cells RV 23 (0, 0))) ∧ (HasRow w' W4.heap.size 23 34) ∧ (w'.heap[w1.heap.size]? = some (.cells RA 25 (0, 0))) ∧ (w'.heap[w3.heap.size]? = some (.cells RB 25 (0, 0))) ∧ (Below w.heap.size w w')) (fun _ h => h.2) ?_
    clear hK K hHeld
    have hHeld := Lib.hid hNew
    clear hNew
    try simp only [Act.put, List.setIfInBounds_toArray, List.set_cons_zero, List.set_cons_succ]
    refine wpAnyH_takeL 9 (v := ?_) rfl (by kernel_rfl) (by kernel_rfl) (by kernel_rfl) (fun _ _ _ h => h) hHeld.out (yieldsIf_of rfl ?_) ?_
    rotate_left
    · (intro w hSw; go_simp <;> with_reducible rfl)
    try simp only [Act.put, List.setIfInBounds_toArray, List.set_cons_zero, List.set_cons_succ]
    refine wpAnyH_done (by kernel_rfl) ?_ _
    go_wp2_with fail
    refine wp_region_held_drew (S := (fun w' => (w'.heap[W4.heap.size]? = some (.cells RV 23 (0, 0))) ∧ (HasRow w' W4.heap.size 23 34) ∧ (w'.heap[w1.heap.size]? = some (.cells RA 25 (0, 0))) ∧ (w'.heap[w3.heap.size]? = some (.cells RB 25 (0, 0))) ∧ (Below w.heap.size w w'))) (by kernel_rfl) (show ((World.drew _).heap[W4.heap.size]? = some (.cells RV 23 (0, 0))) ∧ (HasRow (World.drew _) W4.heap.size 23 34) ∧ ((World.drew _).heap[w1.heap.size]? = some (.cells RA 25 (0, 0))) ∧ ((World.drew _).heap[w3.heap.size]? = some (.cells RB 25 (0, 0))) ∧ (Below w.heap.size w (World.drew _)) from ⟨(hHeld.out.1), (hHeld.out.2.1), (hHeld.out.2.2.1), (hHeld.out.2.2.2.1), (hHeld.out.2.2.2.2).drew⟩) (fun hNew => ?_)
    have hHeld := Lib.hid hNew
    clear hNew
    refine wpAnyH_takeL 0 rfl (by kernel_rfl) (by kernel_rfl) (by kernel_rfl) (fun _ _ _ h => h) hHeld.out (yieldsIf_row rfl 25 (.tmp 1) rfl _ rfl _ RA _ _ (fun _ h => h.2.2.1) Try.underlying25 rfl hA.out.info) ?_
    try simp only [Act.put, List.setIfInBounds_toArray, List.set_cons_zero, List.set_cons_succ]
    refine wpAnyH_takeL 1 rfl (by kernel_rfl) (by kernel_rfl) (by kernel_rfl) (fun _ _ _ h => h) hHeld.out (yieldsIf_row rfl 25 (.tmp 3) rfl _ rfl _ RB _ _ (fun _ h => h.2.2.2.1) Try.underlying25 rfl hB.out.info) ?_
    try simp only [Act.put, List.setIfInBounds_toArray, List.set_cons_zero, List.set_cons_succ]
    refine wpAnyH_takeL 3 rfl (by kernel_rfl) (by kernel_rfl) (by kernel_rfl) (fun _ _ _ h => h) hHeld.out (yieldsIf_row rfl 25 (.tmp 1) rfl _ rfl _ RA _ _ (fun _ h => h.2.2.1) Try.underlying25 rfl hA.out.info) ?_
    try simp only [Act.put, List.setIfInBounds_toArray, List.set_cons_zero, List.set_cons_succ]
    refine wpAnyH_one 2 _ (by kernel_rfl) rfl (fun _ h => h) (fun K hK => ?_)
    go_simp
    refine (AD.out _).mono ?_
    rintro _ v12 ⟨rfl, hb⟩
    refine hK.out _ _ ⟨blk_below (hHeld.out.1) hb, HasRow.below (hHeld.out.2.1) hb, blk_below (hHeld.out.2.2.1) hb, blk_below (hHeld.out.2.2.2.1) hb, below_more (hHeld.out.2.2.2.2) (Nat.le_refl _) hb⟩ (fun hNew => ?_)
    clear hK K hHeld hb
    have hHeld := Lib.hid hNew
    clear hNew
    try simp only [Act.put, List.setIfInBounds_toArray, List.set_cons_zero, List.set_cons_succ]
    refine wpAnyH_one 4 _ (by kernel_rfl) rfl (fun _ h => h) (fun K hK => ?_)
    go_simp
    refine (SB.out _).mono ?_
    rintro _ v13 ⟨rfl, hb⟩
    refine hK.out _ _ ⟨blk_below (hHeld.out.1) hb, HasRow.below (hHeld.out.2.1) hb, blk_below (hHeld.out.2.2.1) hb, blk_below (hHeld.out.2.2.2.1) hb, below_more (hHeld.out.2.2.2.2) (Nat.le_refl _) hb⟩ (fun hNew => ?_)
    clear hK K hHeld hb
    have hHeld := Lib.hid hNew
    clear hNew
    try simp only [Act.put, List.setIfInBounds_toArray, List.set_cons_zero, List.set_cons_succ]
    refine wpAnyH_one 5 _ (by kernel_rfl) rfl (fun _ h => h) (fun K hK => ?_)
    go_simp
    refine (SG.out _).mono ?_
    rintro _ v14 ⟨rfl, hb⟩
    refine hK.out _ _ ⟨blk_below (hHeld.out.1) hb, HasRow.below (hHeld.out.2.1) hb, blk_below (hHeld.out.2.2.1) hb, blk_below (hHeld.out.2.2.2.1) hb, below_more (hHeld.out.2.2.2.2) (Nat.le_refl _) hb⟩ (fun hNew => ?_)
    clear hK K hHeld hb
    have hHeld := Lib.hid hNew
    clear hNew
    try simp only [Act.put, List.setIfInBounds_toArray, List.set_cons_zero, List.set_cons_succ]
    refine wpAnyH_takeL 6 (v := ?_) rfl (by kernel_rfl) (by kernel_rfl) (by kernel_rfl) (fun _ _ _ h => h) hHeld.out (yieldsIf_of rfl ?_) ?_
    rotate_left
    · (intro w hSw; go_simp <;> with_reducible rfl)
    try simp only [Act.put, List.setIfInBounds_toArray, List.set_cons_zero, List.set_cons_succ]
    refine wpAnyH_takeL 7 (v := ?_) rfl (by kernel_rfl) (by kernel_rfl) (by kernel_rfl) (fun _ _ _ h => h) hHeld.out (yieldsIf_of rfl ?_) ?_
    rotate_left
    · (intro w hSw; go_simp <;> with_reducible rfl)
    try simp only [Act.put, List.setIfInBounds_toArray, List.set_cons_zero, List.set_cons_succ]
    refine wpAnyH_takeL 8 (v := ?_) rfl (by kernel_rfl) (by kernel_rfl) (by kernel_rfl) (fun _ _ _ h => h) hHeld.out (yieldsIf_of rfl ?_) ?_
    rotate_left
    · (intro w hSw; go_simp <;> with_reducible rfl)
    try simp only [Act.put, List.setIfInBounds_toArray, List.set_cons_zero, List.set_cons_succ]
    refine wpAnyH_takeL 9 (v := ?_) rfl (by kernel_rfl) (by kernel_rfl) (by kernel_rfl) (fun _ _ _ h => h) hHeld.out (yieldsIf_of rfl ?_) ?_
    rotate_left
    · (intro w hSw; go_simp <;> with_reducible rfl)
    try simp only [Act.put, List.setIfInBounds_toArray, List.set_cons_zero, List.set_cons_succ]
    refine wpAnyH_takeL 10 (v := ?_) rfl (by kernel_rfl) (by kernel_rfl) (by kernel_rfl) (fun _ _ _ h => h) hHeld.out (yieldsIf_of rfl ?_) ?_
    rotate_left
    · (intro w hSw; go_simp <;> with_reducible rfl)
    try simp only [Act.put, List.setIfInBounds_toArray, List.set_cons_zero, List.set_cons_succ]
    refine wpAnyH_done (by kernel_rfl) ?_ _
    go_wp2_with fail
    refine (CN.out _).mono ?_
    rintro e w7 ⟨rfl, hb⟩
    have hNew : (w7.heap[W4.heap.size]? = some (.cells RV 23 (0, 0))) ∧ (HasRow w7 W4.heap.size 23 34) ∧ (w7.heap[w1.heap.size]? = some (.cells RA 25 (0, 0))) ∧ (w7.heap[w3.heap.size]? = some (.cells RB 25 (0, 0))) ∧ (Below w.heap.size w w7) := ⟨blk_below (hHeld.out.1) hb, HasRow.below (hHeld.out.2.1) hb, blk_below (hHeld.out.2.2.1) hb, blk_below (hHeld.out.2.2.2.1) hb, below_more (hHeld.out.2.2.2.2) (Nat.le_refl _) hb⟩
    clear hb hHeld
    have hHeld := Lib.hid hNew
    clear hNew
    go_wp2_with fail
    refine (CT.out _).mono ?_
    rintro e w8 ⟨rfl, hb⟩
    have hNew : (w8.heap[W4.heap.size]? = some (.cells RV 23 (0, 0))) ∧ (HasRow w8 W4.heap.size 23 34) ∧ (w8.heap[w1.heap.size]? = some (.cells RA 25 (0, 0))) ∧ (w8.heap[w3.heap.size]? = some (.cells RB 25 (0, 0))) ∧ (Below w.heap.size w w8) := ⟨blk_below (hHeld.out.1) hb, HasRow.below (hHeld.out.2.1) hb, blk_below (hHeld.out.2.2.1) hb, blk_below (hHeld.out.2.2.2.1) hb, below_more (hHeld.out.2.2.2.2) (Nat.le_refl _) hb⟩
    clear hb hHeld
    have hHeld := Lib.hid hNew
    clear hNew
    have hcell : w8.cell? ⟨W4.heap.size, 0, none⟩ = some (.int .u32 1) := (blk_cell hHeld.out.1 0).trans hV0.out
    go_wp2_with (first | (refine wpList_load_row_g rfl 25 (.tmp 1) rfl _ rfl _ _ _ _ hHeld.out.2.2.1 Try.underlying25 rfl hA.out.info ?_) | (refine wpList_load_row_g rfl 23 (.tmp 5) rfl _ rfl _ _ _ _ hHeld.out.1 Try.underlying23 rfl hV.out.info ?_))
    refine (EV.out _).mono ?_
    rintro e w9 ⟨rfl, hb⟩
    have hfin : Below w.heap.size w w9 := below_more hHeld.out.2.2.2.2 (Nat.le_refl _) hb
    clear hb hHeld hcell
    replace hfin := Lib.hid hfin
    go_wp2_with fail
    go_ret
    exact ⟨rfl, hfin.out⟩
end Go.Proofs.Ytocofkkkblelgaa.H
