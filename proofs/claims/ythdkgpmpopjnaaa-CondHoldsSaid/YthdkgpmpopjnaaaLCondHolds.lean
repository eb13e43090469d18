/-
CondHolds.
-/
import Derived.Test.YthdkgpmpopjnaaaProg
import Derived.WalkKit
import Derived.WalkSpells
import Derived.WalkLawsBesides
import Derived.Handy
import Derived.Lib.Hide
import Derived.Deep.QuietTactic
import Derived.BigQuiet
import Derived.Test.YthdkgpmpopjnaaaHRHolds
import Derived.Test.YthdkgpmpopjnaaaWWords
set_option linter.unusedVariables false
set_option linter.unusedSimpArgs false
namespace Go.Proofs.Ythdkgpmpopjnaaa.H
open Go.RowKit Go.Proofs.YthdkgpmpopjnaaaW.PrintWords

set_option maxHeartbeats 4000000 in
theorem CondHolds_true_true (CR DR : Array Value) (HIC : (Try.prog.info? 24).map (·.size) = some CR.size) (HID : (Try.prog.info? 28).map (·.size) = some DR.size) (RI : Gives Try.prog 14 #[.agg CR] (.bool true)) (RR : Gives Try.prog 15 #[.agg CR] (.bool true)) (HO : Gives Try.prog 16 #[.agg CR, .agg DR] (.bool true)) (RH : Gives Try.prog 17 #[.agg CR, .agg DR] (.bool true)) (KN : Gives Try.prog 18 #[] (.bool true)) (w : World) :
    Calls Try.prog 3 #[.agg CR, .agg DR] w fun e w' => e = .returned (.bool true) ∧ Below w.heap.size w w' := by
  replace RI := Lib.hid RI
  replace RR := Lib.hid RR
  replace HO := Lib.hid HO
  replace RH := Lib.hid RH
  replace KN := Lib.hid KN
  replace HIC := Lib.hid HIC
  replace HID := Lib.hid HID
  go_enter Try.func3, Try.ntmps3
  go_wp2_with fail
  obtain ⟨q1, q2, q3, q4⟩ := alloc2d w (Obj.cells CR 24) (Obj.cells DR 28)
  obtain ⟨W2, hW2⟩ : ∃ W2, (w.alloc (Obj.cells CR 24)).alloc (Obj.cells DR 28) = W2 := ⟨_, rfl⟩
  rw [hW2] at q1 q2 q3 q4
  try rw [hW2]
  clear hW2
  replace q1 := Lib.hid q1
  replace q2 := Lib.hid q2
  replace q4 := Lib.hid q4
  clear q3
  refine wp_region_held_drew (S := (fun w' => (w'.heap[w.heap.size]? = some (.cells CR 24 (0, 0))) ∧ (w'.heap[(w.heap.size + 1)]? = some (.cells DR 28 (0, 0))) ∧ (Below w.heap.size w w'))) (by kernel_rfl) ⟨q1.out, q2.out, q4.out.drew⟩ (fun hNew => ?_)
  have hHeld := Lib.hid hNew
  clear hNew
  refine wpAnyH_takeL 0 rfl (by kernel_rfl) (by kernel_rfl) (by kernel_rfl) (fun _ _ _ h => h) hHeld.out (yieldsIf_row rfl 24 (.tmp 2) rfl _ rfl _ CR _ _ (fun _ h => h.1) Try.underlying24 rfl HIC.out) ?_
  try simp only [Act.put, List.setIfInBounds_toArray, List.set_cons_zero, List.set_cons_succ]
  refine wpAnyH_takeL 2 rfl (by kernel_rfl) (by kernel_rfl) (by kernel_rfl) (fun _ _ _ h => h) hHeld.out (yieldsIf_row rfl 24 (.tmp 2) rfl _ rfl _ CR _ _ (fun _ h => h.1) Try.underlying24 rfl HIC.out) ?_
  try simp only [Act.put, List.setIfInBounds_toArray, List.set_cons_zero, List.set_cons_succ]
  refine wpAnyH_one 1 _ (by kernel_rfl) rfl (fun _ h => h) (fun K hK => ?_)
  go_simp
  refine (RI.out _).mono ?_
  rintro _ v10 ⟨rfl, hb⟩
  refine hK.out _ _ ⟨blk_below (hHeld.out.1) hb, blk_below (hHeld.out.2.1) hb, below_more (hHeld.out.2.2) (Nat.le_refl _) hb⟩ (fun hNew => ?_)
  clear hK K hHeld hb
  have hHeld := Lib.hid hNew
  clear hNew
  try simp only [Act.put, List.setIfInBounds_toArray, List.set_cons_zero, List.set_cons_succ]
  refine wpAnyH_one 3 _ (by kernel_rfl) rfl (fun _ h => h) (fun K hK => ?_)
  go_simp
  refine (RR.out _).mono ?_
  rintro _ v11 ⟨rfl, hb⟩
  refine hK.out _ _ ⟨blk_below (hHeld.out.1) hb, blk_below (hHeld.out.2.1) hb, below_more (hHeld.out.2.2) (Nat.le_refl _) hb⟩ (fun hNew => ?_)
  clear hK K hHeld hb
  have hHeld := Lib.hid hNew
  clear hNew
  try simp only [Act.put, List.setIfInBounds_toArray, List.set_cons_zero, List.set_cons_succ]
  refine wpAnyH_takeL 4 (v := ?_) rfl (by kernel_rfl) (by kernel_rfl) (by kernel_rfl) (fun _ _ _ h => h) hHeld.out (yieldsIf_of rfl ?_) ?_
  rotate_left
  · (intro w hSw; go_simp <;> with_reducible rfl)
  try simp only [Act.put, List.setIfInBounds_toArray, List.set_cons_zero, List.set_cons_succ]
  refine wpAnyH_takeL 5 (v := ?_) rfl (by kernel_rfl) (by kernel_rfl) (by kernel_rfl) (fun _ _ _ h => h) hHeld.out (yieldsIf_of rfl ?_) ?_
  rotate_left
  · (intro w hSw; go_simp <;> with_reducible rfl)
  try simp only [Act.put, List.setIfInBounds_toArray, List.set_cons_zero, List.set_cons_succ]
  refine wpAnyH_takeL 6 rfl (by kernel_rfl) (by kernel_rfl) (by kernel_rfl) (fun _ _ _ h => h) hHeld.out (yieldsIf_row rfl 24 (.tmp 2) rfl _ rfl _ CR _ _ (fun _ h => h.1) Try.underlying24 rfl HIC.out) ?_
  try simp only [Act.put, List.setIfInBounds_toArray, List.set_cons_zero, List.set_cons_succ]
  refine wpAnyH_takeL 7 rfl (by kernel_rfl) (by kernel_rfl) (by kernel_rfl) (fun _ _ _ h => h) hHeld.out (yieldsIf_row rfl 28 (.tmp 3) rfl _ rfl _ DR _ _ (fun _ h => h.2.1) Try.underlying28 rfl HID.out) ?_
  try simp only [Act.put, List.setIfInBounds_toArray, List.set_cons_zero, List.set_cons_succ]
  refine wpAnyH_takeL 9 rfl (by kernel_rfl) (by kernel_rfl) (by kernel_rfl) (fun _ _ _ h => h) hHeld.out (yieldsIf_row rfl 24 (.tmp 2) rfl _ rfl _ CR _ _ (fun _ h => h.1) Try.underlying24 rfl HIC.out) ?_
  try simp only [Act.put, List.setIfInBounds_toArray, List.set_cons_zero, List.set_cons_succ]
  refine wpAnyH_takeL 10 rfl (by kernel_rfl) (by kernel_rfl) (by kernel_rfl) (fun _ _ _ h => h) hHeld.out (yieldsIf_row rfl 28 (.tmp 3) rfl _ rfl _ DR _ _ (fun _ h => h.2.1) Try.underlying28 rfl HID.out) ?_
  try simp only [Act.put, List.setIfInBounds_toArray, List.set_cons_zero, List.set_cons_succ]
  refine wpAnyH_one 8 _ (by kernel_rfl) rfl (fun _ h => h) (fun K hK => ?_)
  go_simp
  refine (HO.out _).mono ?_
  rintro _ v12 ⟨rfl, hb⟩
  refine hK.out _ _ ⟨blk_below (hHeld.out.1) hb, blk_below (hHeld.out.2.1) hb, below_more (hHeld.out.2.2) (Nat.le_refl _) hb⟩ (fun hNew => ?_)
  clear hK K hHeld hb
  have hHeld := Lib.hid hNew
  clear hNew
  try simp only [Act.put, List.setIfInBounds_toArray, List.set_cons_zero, List.set_cons_succ]
  refine wpAnyH_one 11 _ (by kernel_rfl) rfl (fun _ h => h) (fun K hK => ?_)
  go_simp
  refine (RH.out _).mono ?_
  rintro _ v13 ⟨rfl, hb⟩
  refine hK.out _ _ ⟨blk_below (hHeld.out.1) hb, blk_below (hHeld.out.2.1) hb, below_more (hHeld.out.2.2) (Nat.le_refl _) hb⟩ (fun hNew => ?_)
  clear hK K hHeld hb
  have hHeld := Lib.hid hNew
  clear hNew
  try simp only [Act.put, List.setIfInBounds_toArray, List.set_cons_zero, List.set_cons_succ]
  refine wpAnyH_takeL 12 (v := ?_) rfl (by kernel_rfl) (by kernel_rfl) (by kernel_rfl) (fun _ _ _ h => h) hHeld.out (yieldsIf_of rfl ?_) ?_
  rotate_left
  · (intro w hSw; go_simp <;> with_reducible rfl)
  try simp only [Act.put, List.setIfInBounds_toArray, List.set_cons_zero, List.set_cons_succ]
  refine wpAnyH_takeL 13 (v := ?_) rfl (by kernel_rfl) (by kernel_rfl) (by kernel_rfl) (fun _ _ _ h => h) hHeld.out (yieldsIf_of rfl ?_) ?_
  rotate_left
  · (intro w hSw; go_simp <;> with_reducible rfl)
  try simp only [Act.put, List.setIfInBounds_toArray, List.set_cons_zero, List.set_cons_succ]
  refine wpAnyH_takeL 14 (v := ?_) rfl (by kernel_rfl) (by kernel_rfl) (by kernel_rfl) (fun _ _ _ h => h) hHeld.out (yieldsIf_of rfl ?_) ?_
  rotate_left
  · (intro w hSw; go_simp <;> with_reducible rfl)
  try simp only [Act.put, List.setIfInBounds_toArray, List.set_cons_zero, List.set_cons_succ]
  refine wpAnyH_one 15 _ (by kernel_rfl) rfl (fun _ h => h) (fun K hK => ?_)
  go_simp
  refine (KN.out _).mono ?_
  rintro _ v14 ⟨rfl, hb⟩
  refine hK.out _ _ ⟨blk_below (hHeld.out.1) hb, blk_below (hHeld.out.2.1) hb, below_more (hHeld.out.2.2) (Nat.le_refl _) hb⟩ (fun hNew => ?_)
  clear hK K hHeld hb
  have hHeld := Lib.hid hNew
  clear hNew
  try simp only [Act.put, List.setIfInBounds_toArray, List.set_cons_zero, List.set_cons_succ]
  refine wpAnyH_takeL 16 (v := ?_) rfl (by kernel_rfl) (by kernel_rfl) (by kernel_rfl) (fun _ _ _ h => h) hHeld.out (yieldsIf_of rfl ?_) ?_
  rotate_left
  · (intro w hSw; go_simp <;> with_reducible rfl)
  try simp only [Act.put, List.setIfInBounds_toArray, List.set_cons_zero, List.set_cons_succ]
  refine wpAnyH_takeL 17 (v := ?_) rfl (by kernel_rfl) (by kernel_rfl) (by kernel_rfl) (fun _ _ _ h => h) hHeld.out (yieldsIf_of rfl ?_) ?_
  rotate_left
  · (intro w hSw; go_simp <;> with_reducible rfl)
  try simp only [Act.put, List.setIfInBounds_toArray, List.set_cons_zero, List.set_cons_succ]
  refine wpAnyH_done (by kernel_rfl) ?_ _
  have HFI := Lib.hid (hHeld.out.2.2)
  clear hHeld
  go_wp2_with fail
  go_ret
  exact ⟨rfl, HFI.out⟩
set_option maxHeartbeats 4000000 in
theorem CondHolds_true_false (CR DR : Array Value) (HIC : (Try.prog.info? 24).map (·.size) = some CR.size) (HID : (Try.prog.info? 28).map (·.size) = some DR.size) (RI : Gives Try.prog 14 #[.agg CR] (.bool true)) (RR : Gives Try.prog 15 #[.agg CR] (.bool true)) (HO : Gives Try.prog 16 #[.agg CR, .agg DR] (.bool false)) (RH : Gives Try.prog 17 #[.agg CR, .agg DR] (.bool false)) (KN : Gives Try.prog 18 #[] (.bool true)) (w : World) :
    Calls Try.prog 3 #[.agg CR, .agg DR] w fun e w' => e = .returned (.bool true) ∧ Below w.heap.size w w' := by
  replace RI := Lib.hid RI
  replace RR := Lib.hid RR
  replace HO := Lib.hid HO
  replace RH := Lib.hid RH
  replace KN := Lib.hid KN
  replace HIC := Lib.hid HIC
  replace HID := Lib.hid HID
  go_enter Try.func3, Try.ntmps3
  go_wp2_with fail
  obtain ⟨q1, q2, q3, q4⟩ := alloc2d w (Obj.cells CR 24) (Obj.cells DR 28)
  obtain ⟨W2, hW2⟩ : ∃ W2, (w.alloc (Obj.cells CR 24)).alloc (Obj.cells DR 28) = W2 := ⟨_, rfl⟩
  rw [hW2] at q1 q2 q3 q4
  try rw [hW2]
  clear hW2
  replace q1 := Lib.hid q1
  replace q2 := Lib.hid q2
  replace q4 := Lib.hid q4
  clear q3
  refine wp_region_held_drew (S := (fun w' => (w'.heap[w.heap.size]? = some (.cells CR 24 (0, 0))) ∧ (w'.heap[(w.heap.size + 1)]? = some (.cells DR 28 (0, 0))) ∧ (Below w.heap.size w w'))) (by kernel_rfl) ⟨q1.out, q2.out, q4.out.drew⟩ (fun hNew => ?_)
  have hHeld := Lib.hid hNew
  clear hNew
  refine wpAnyH_takeL 0 rfl (by kernel_rfl) (by kernel_rfl) (by kernel_rfl) (fun _ _ _ h => h) hHeld.out (yieldsIf_row rfl 24 (.tmp 2) rfl _ rfl _ CR _ _ (fun _ h => h.1) Try.underlying24 rfl HIC.out) ?_
  try simp only [Act.put, List.setIfInBounds_toArray, List.set_cons_zero, List.set_cons_succ]
  refine wpAnyH_takeL 2 rfl (by kernel_rfl) (by kernel_rfl) (by kernel_rfl) (fun _ _ _ h => h) hHeld.out (yieldsIf_row rfl 24 (.tmp 2) rfl _ rfl _ CR _ _ (fun _ h => h.1) Try.underlying24 rfl HIC.out) ?_
  try simp only [Act.put, List.setIfInBounds_toArray, List.set_cons_zero, List.set_cons_succ]
  refine wpAnyH_one 1 _ (by kernel_rfl) rfl (fun _ h => h) (fun K hK => ?_)
  go_simp
  refine (RI.out _).mono ?_
  rintro _ v15 ⟨rfl, hb⟩
  refine hK.out _ _ ⟨blk_below (hHeld.out.1) hb, blk_below (hHeld.out.2.1) hb, below_more (hHeld.out.2.2) (Nat.le_refl _) hb⟩ (fun hNew => ?_)
  clear hK K hHeld hb
  have hHeld := Lib.hid hNew
  clear hNew
  try simp only [Act.put, List.setIfInBounds_toArray, List.set_cons_zero, List.set_cons_succ]
  refine wpAnyH_one 3 _ (by kernel_rfl) rfl (fun _ h => h) (fun K hK => ?_)
  go_simp
  refine (RR.out _).mono ?_
  rintro _ v16 ⟨rfl, hb⟩
  refine hK.out _ _ ⟨blk_below (hHeld.out.1) hb, blk_below (hHeld.out.2.1) hb, below_more (hHeld.out.2.2) (Nat.le_refl _) hb⟩ (fun hNew => ?_)
  clear hK K hHeld hb
  have hHeld := Lib.hid hNew
  clear hNew
  try simp only [Act.put, List.setIfInBounds_toArray, List.set_cons_zero, List.set_cons_succ]
  refine wpAnyH_takeL 4 (v := ?_) rfl (by kernel_rfl) (by kernel_rfl) (by kernel_rfl) (fun _ _ _ h => h) hHeld.out (yieldsIf_of rfl ?_) ?_
  rotate_left
  · (intro w hSw; go_simp <;> with_reducible rfl)
  try simp only [Act.put, List.setIfInBounds_toArray, List.set_cons_zero, List.set_cons_succ]
  refine wpAnyH_takeL 5 (v := ?_) rfl (by kernel_rfl) (by kernel_rfl) (by kernel_rfl) (fun _ _ _ h => h) hHeld.out (yieldsIf_of rfl ?_) ?_
  rotate_left
  · (intro w hSw; go_simp <;> with_reducible rfl)
  try simp only [Act.put, List.setIfInBounds_toArray, List.set_cons_zero, List.set_cons_succ]
  refine wpAnyH_takeL 6 rfl (by kernel_rfl) (by kernel_rfl) (by kernel_rfl) (fun _ _ _ h => h) hHeld.out (yieldsIf_row rfl 24 (.tmp 2) rfl _ rfl _ CR _ _ (fun _ h => h.1) Try.underlying24 rfl HIC.out) ?_
  try simp only [Act.put, List.setIfInBounds_toArray, List.set_cons_zero, List.set_cons_succ]
  refine wpAnyH_takeL 7 rfl (by kernel_rfl) (by kernel_rfl) (by kernel_rfl) (fun _ _ _ h => h) hHeld.out (yieldsIf_row rfl 28 (.tmp 3) rfl _ rfl _ DR _ _ (fun _ h => h.2.1) Try.underlying28 rfl HID.out) ?_
  try simp only [Act.put, List.setIfInBounds_toArray, List.set_cons_zero, List.set_cons_succ]
  refine wpAnyH_takeL 9 rfl (by kernel_rfl) (by kernel_rfl) (by kernel_rfl) (fun _ _ _ h => h) hHeld.out (yieldsIf_row rfl 24 (.tmp 2) rfl _ rfl _ CR _ _ (fun _ h => h.1) Try.underlying24 rfl HIC.out) ?_
  try simp only [Act.put, List.setIfInBounds_toArray, List.set_cons_zero, List.set_cons_succ]
  refine wpAnyH_takeL 10 rfl (by kernel_rfl) (by kernel_rfl) (by kernel_rfl) (fun _ _ _ h => h) hHeld.out (yieldsIf_row rfl 28 (.tmp 3) rfl _ rfl _ DR _ _ (fun _ h => h.2.1) Try.underlying28 rfl HID.out) ?_
  try simp only [Act.put, List.setIfInBounds_toArray, List.set_cons_zero, List.set_cons_succ]
  refine wpAnyH_one 8 _ (by kernel_rfl) rfl (fun _ h => h) (fun K hK => ?_)
  go_simp
  refine (HO.out _).mono ?_
  rintro _ v17 ⟨rfl, hb⟩
  refine hK.out _ _ ⟨blk_below (hHeld.out.1) hb, blk_below (hHeld.out.2.1) hb, below_more (hHeld.out.2.2) (Nat.le_refl _) hb⟩ (fun hNew => ?_)
  clear hK K hHeld hb
  have hHeld := Lib.hid hNew
  clear hNew
  try simp only [Act.put, List.setIfInBounds_toArray, List.set_cons_zero, List.set_cons_succ]
  refine wpAnyH_one 11 _ (by kernel_rfl) rfl (fun _ h => h) (fun K hK => ?_)
  go_simp
  refine (RH.out _).mono ?_
  rintro _ v18 ⟨rfl, hb⟩
  refine hK.out _ _ ⟨blk_below (hHeld.out.1) hb, blk_below (hHeld.out.2.1) hb, below_more (hHeld.out.2.2) (Nat.le_refl _) hb⟩ (fun hNew => ?_)
  clear hK K hHeld hb
  have hHeld := Lib.hid hNew
  clear hNew
  try simp only [Act.put, List.setIfInBounds_toArray, List.set_cons_zero, List.set_cons_succ]
  refine wpAnyH_takeL 12 (v := ?_) rfl (by kernel_rfl) (by kernel_rfl) (by kernel_rfl) (fun _ _ _ h => h) hHeld.out (yieldsIf_of rfl ?_) ?_
  rotate_left
  · (intro w hSw; go_simp <;> with_reducible rfl)
  try simp only [Act.put, List.setIfInBounds_toArray, List.set_cons_zero, List.set_cons_succ]
  refine wpAnyH_takeL 13 (v := ?_) rfl (by kernel_rfl) (by kernel_rfl) (by kernel_rfl) (fun _ _ _ h => h) hHeld.out (yieldsIf_of rfl ?_) ?_
  rotate_left
  · (intro w hSw; go_simp <;> with_reducible rfl)
  try simp only [Act.put, List.setIfInBounds_toArray, List.set_cons_zero, List.set_cons_succ]
  refine wpAnyH_takeL 14 (v := ?_) rfl (by kernel_rfl) (by kernel_rfl) (by kernel_rfl) (fun _ _ _ h => h) hHeld.out (yieldsIf_of rfl ?_) ?_
  rotate_left
  · (intro w hSw; go_simp <;> with_reducible rfl)
  try simp only [Act.put, List.setIfInBounds_toArray, List.set_cons_zero, List.set_cons_succ]
  refine wpAnyH_one 15 _ (by kernel_rfl) rfl (fun _ h => h) (fun K hK => ?_)
  go_simp
  refine (KN.out _).mono ?_
  rintro _ v19 ⟨rfl, hb⟩
  refine hK.out _ _ ⟨blk_below (hHeld.out.1) hb, blk_below (hHeld.out.2.1) hb, below_more (hHeld.out.2.2) (Nat.le_refl _) hb⟩ (fun hNew => ?_)
  clear hK K hHeld hb
  have hHeld := Lib.hid hNew
  clear hNew
  try simp only [Act.put, List.setIfInBounds_toArray, List.set_cons_zero, List.set_cons_succ]
  refine wpAnyH_takeL 16 (v := ?_) rfl (by kernel_rfl) (by kernel_rfl) (by kernel_rfl) (fun _ _ _ h => h) hHeld.out (yieldsIf_of rfl ?_) ?_
  rotate_left
  · (intro w hSw; go_simp <;> with_reducible rfl)
  try simp only [Act.put, List.setIfInBounds_toArray, List.set_cons_zero, List.set_cons_succ]
  refine wpAnyH_takeL 17 (v := ?_) rfl (by kernel_rfl) (by kernel_rfl) (by kernel_rfl) (fun _ _ _ h => h) hHeld.out (yieldsIf_of rfl ?_) ?_
  rotate_left
  · (intro w hSw; go_simp <;> with_reducible rfl)
  try simp only [Act.put, List.setIfInBounds_toArray, List.set_cons_zero, List.set_cons_succ]
  refine wpAnyH_done (by kernel_rfl) ?_ _
  have HFI := Lib.hid (hHeld.out.2.2)
  clear hHeld
  go_wp2_with fail
  go_ret
  exact ⟨rfl, HFI.out⟩
set_option maxHeartbeats 4000000 in
theorem CondHolds_false_true (CR DR : Array Value) (HIC : (Try.prog.info? 24).map (·.size) = some CR.size) (HID : (Try.prog.info? 28).map (·.size) = some DR.size) (RI : Gives Try.prog 14 #[.agg CR] (.bool false)) (RR : Gives Try.prog 15 #[.agg CR] (.bool false)) (HO : Gives Try.prog 16 #[.agg CR, .agg DR] (.bool true)) (RH : Gives Try.prog 17 #[.agg CR, .agg DR] (.bool true)) (KN : Gives Try.prog 18 #[] (.bool true)) (w : World) :
    Calls Try.prog 3 #[.agg CR, .agg DR] w fun e w' => e = .returned (.bool true) ∧ Below w.heap.size w w' := by
  replace RI := Lib.hid RI
  replace RR := Lib.hid RR
  replace HO := Lib.hid HO
  replace RH := Lib.hid RH
  replace KN := Lib.hid KN
  replace HIC := Lib.hid HIC
  replace HID := Lib.hid HID
  go_enter Try.func3, Try.ntmps3
  go_wp2_with fail
  obtain ⟨q1, q2, q3, q4⟩ := alloc2d w (Obj.cells CR 24) (Obj.cells DR 28)
  obtain ⟨W2, hW2⟩ : ∃ W2, (w.alloc (Obj.cells CR 24)).alloc (Obj.cells DR 28) = W2 := ⟨_, rfl⟩
  rw [hW2] at q1 q2 q3 q4
  try rw [hW2]
  clear hW2
  replace q1 := Lib.hid q1
  replace q2 := Lib.hid q2
  replace q4 := Lib.hid q4
  clear q3
  refine wp_region_held_drew (S := (fun w' => (w'.heap[w.heap.size]? = some (.cells CR 24 (0, 0))) ∧ (w'.heap[(w.heap.size + 1)]? = some (.cells DR 28 (0, 0))) ∧ (Below w.heap.size w w'))) (by kernel_rfl) ⟨q1.out, q2.out, q4.out.drew⟩ (fun hNew => ?_)
  have hHeld := Lib.hid hNew
  clear hNew
  refine wpAnyH_takeL 0 rfl (by kernel_rfl) (by kernel_rfl) (by kernel_rfl) (fun _ _ _ h => h) hHeld.out (yieldsIf_row rfl 24 (.tmp 2) rfl _ rfl _ CR _ _ (fun _ h => h.1) Try.underlying24 rfl HIC.out) ?_
  try simp only [Act.put, List.setIfInBounds_toArray, List.set_cons_zero, List.set_cons_succ]
  refine wpAnyH_takeL 2 rfl (by kernel_rfl) (by kernel_rfl) (by kernel_rfl) (fun _ _ _ h => h) hHeld.out (yieldsIf_row rfl 24 (.tmp 2) rfl _ rfl _ CR _ _ (fun _ h => h.1) Try.underlying24 rfl HIC.out) ?_
  try simp only [Act.put, List.setIfInBounds_toArray, List.set_cons_zero, List.set_cons_succ]
  refine wpAnyH_one 1 _ (by kernel_rfl) rfl (fun _ h => h) (fun K hK => ?_)
  go_simp
  refine (RI.out _).mono ?_
  rintro _ v20 ⟨rfl, hb⟩
  refine hK.out _ _ ⟨blk_below (hHeld.out.1) hb, blk_below (hHeld.out.2.1) hb, below_more (hHeld.out.2.2) (Nat.le_refl _) hb⟩ (fun hNew => ?_)
  clear hK K hHeld hb
  have hHeld := Lib.hid hNew
  clear hNew
  try simp only [Act.put, List.setIfInBounds_toArray, List.set_cons_zero, List.set_cons_succ]
  refine wpAnyH_one 3 _ (by kernel_rfl) rfl (fun _ h => h) (fun K hK => ?_)
  go_simp
  refine (RR.out _).mono ?_
  rintro _ v21 ⟨rfl, hb⟩
  refine hK.out _ _ ⟨blk_below (hHeld.out.1) hb, blk_below (hHeld.out.2.1) hb, below_more (hHeld.out.2.2) (Nat.le_refl _) hb⟩ (fun hNew => ?_)
  clear hK K hHeld hb
  have hHeld := Lib.hid hNew
  clear hNew
  try simp only [Act.put, List.setIfInBounds_toArray, List.set_cons_zero, List.set_cons_succ]
  refine wpAnyH_takeL 4 (v := ?_) rfl (by kernel_rfl) (by kernel_rfl) (by kernel_rfl) (fun _ _ _ h => h) hHeld.out (yieldsIf_of rfl ?_) ?_
  rotate_left
  · (intro w hSw; go_simp <;> with_reducible rfl)
  try simp only [Act.put, List.setIfInBounds_toArray, List.set_cons_zero, List.set_cons_succ]
  refine wpAnyH_takeL 5 (v := ?_) rfl (by kernel_rfl) (by kernel_rfl) (by kernel_rfl) (fun _ _ _ h => h) hHeld.out (yieldsIf_of rfl ?_) ?_
  rotate_left
  · (intro w hSw; go_simp <;> with_reducible rfl)
  try simp only [Act.put, List.setIfInBounds_toArray, List.set_cons_zero, List.set_cons_succ]
  refine wpAnyH_takeL 6 rfl (by kernel_rfl) (by kernel_rfl) (by kernel_rfl) (fun _ _ _ h => h) hHeld.out (yieldsIf_row rfl 24 (.tmp 2) rfl _ rfl _ CR _ _ (fun _ h => h.1) Try.underlying24 rfl HIC.out) ?_
  try simp only [Act.put, List.setIfInBounds_toArray, List.set_cons_zero, List.set_cons_succ]
  refine wpAnyH_takeL 7 rfl (by kernel_rfl) (by kernel_rfl) (by kernel_rfl) (fun _ _ _ h => h) hHeld.out (yieldsIf_row rfl 28 (.tmp 3) rfl _ rfl _ DR _ _ (fun _ h => h.2.1) Try.underlying28 rfl HID.out) ?_
  try simp only [Act.put, List.setIfInBounds_toArray, List.set_cons_zero, List.set_cons_succ]
  refine wpAnyH_takeL 9 rfl (by kernel_rfl) (by kernel_rfl) (by kernel_rfl) (fun _ _ _ h => h) hHeld.out (yieldsIf_row rfl 24 (.tmp 2) rfl _ rfl _ CR _ _ (fun _ h => h.1) Try.underlying24 rfl HIC.out) ?_
  try simp only [Act.put, List.setIfInBounds_toArray, List.set_cons_zero, List.set_cons_succ]
  refine wpAnyH_takeL 10 rfl (by kernel_rfl) (by kernel_rfl) (by kernel_rfl) (fun _ _ _ h => h) hHeld.out (yieldsIf_row rfl 28 (.tmp 3) rfl _ rfl _ DR _ _ (fun _ h => h.2.1) Try.underlying28 rfl HID.out) ?_
  try simp only [Act.put, List.setIfInBounds_toArray, List.set_cons_zero, List.set_cons_succ]
  refine wpAnyH_one 8 _ (by kernel_rfl) rfl (fun _ h => h) (fun K hK => ?_)
  go_simp
  refine (HO.out _).mono ?_
  rintro _ v22 ⟨rfl, hb⟩
  refine hK.out _ _ ⟨blk_below (hHeld.out.1) hb, blk_below (hHeld.out.2.1) hb, below_more (hHeld.out.2.2) (Nat.le_refl _) hb⟩ (fun hNew => ?_)
  clear hK K hHeld hb
  have hHeld := Lib.hid hNew
  clear hNew
  try simp only [Act.put, List.setIfInBounds_toArray, List.set_cons_zero, List.set_cons_succ]
  refine wpAnyH_one 11 _ (by kernel_rfl) rfl (fun _ h => h) (fun K hK => ?_)
  go_simp
  refine (RH.out _).mono ?_
  rintro _ v23 ⟨rfl, hb⟩
  refine hK.out _ _ ⟨blk_below (hHeld.out.1) hb, blk_below (hHeld.out.2.1) hb, below_more (hHeld.out.2.2) (Nat.le_refl _) hb⟩ (fun hNew => ?_)
  clear hK K hHeld hb
  have hHeld := Lib.hid hNew
  clear hNew
  try simp only [Act.put, List.setIfInBounds_toArray, List.set_cons_zero, List.set_cons_succ]
  refine wpAnyH_takeL 12 (v := ?_) rfl (by kernel_rfl) (by kernel_rfl) (by kernel_rfl) (fun _ _ _ h => h) hHeld.out (yieldsIf_of rfl ?_) ?_
  rotate_left
  · (intro w hSw; go_simp <;> with_reducible rfl)
  try simp only [Act.put, List.setIfInBounds_toArray, List.set_cons_zero, List.set_cons_succ]
  refine wpAnyH_takeL 13 (v := ?_) rfl (by kernel_rfl) (by kernel_rfl) (by kernel_rfl) (fun _ _ _ h => h) hHeld.out (yieldsIf_of rfl ?_) ?_
  rotate_left
  · (intro w hSw; go_simp <;> with_reducible rfl)
  try simp only [Act.put, List.setIfInBounds_toArray, List.set_cons_zero, List.set_cons_succ]
  refine wpAnyH_takeL 14 (v := ?_) rfl (by kernel_rfl) (by kernel_rfl) (by kernel_rfl) (fun _ _ _ h => h) hHeld.out (yieldsIf_of rfl ?_) ?_
  rotate_left
  · (intro w hSw; go_simp <;> with_reducible rfl)
  try simp only [Act.put, List.setIfInBounds_toArray, List.set_cons_zero, List.set_cons_succ]
  refine wpAnyH_one 15 _ (by kernel_rfl) rfl (fun _ h => h) (fun K hK => ?_)
  go_simp
  refine (KN.out _).mono ?_
  rintro _ v24 ⟨rfl, hb⟩
  refine hK.out _ _ ⟨blk_below (hHeld.out.1) hb, blk_below (hHeld.out.2.1) hb, below_more (hHeld.out.2.2) (Nat.le_refl _) hb⟩ (fun hNew => ?_)
  clear hK K hHeld hb
  have hHeld := Lib.hid hNew
  clear hNew
  try simp only [Act.put, List.setIfInBounds_toArray, List.set_cons_zero, List.set_cons_succ]
  refine wpAnyH_takeL 16 (v := ?_) rfl (by kernel_rfl) (by kernel_rfl) (by kernel_rfl) (fun _ _ _ h => h) hHeld.out (yieldsIf_of rfl ?_) ?_
  rotate_left
  · (intro w hSw; go_simp <;> with_reducible rfl)
  try simp only [Act.put, List.setIfInBounds_toArray, List.set_cons_zero, List.set_cons_succ]
  refine wpAnyH_takeL 17 (v := ?_) rfl (by kernel_rfl) (by kernel_rfl) (by kernel_rfl) (fun _ _ _ h => h) hHeld.out (yieldsIf_of rfl ?_) ?_
  rotate_left
  · (intro w hSw; go_simp <;> with_reducible rfl)
  try simp only [Act.put, List.setIfInBounds_toArray, List.set_cons_zero, List.set_cons_succ]
  refine wpAnyH_done (by kernel_rfl) ?_ _
  have HFI := Lib.hid (hHeld.out.2.2)
  clear hHeld
  go_wp2_with fail
  go_ret
  exact ⟨rfl, HFI.out⟩
set_option maxHeartbeats 4000000 in
theorem CondHolds_false_false (CR DR : Array Value) (HIC : (Try.prog.info? 24).map (·.size) = some CR.size) (HID : (Try.prog.info? 28).map (·.size) = some DR.size) (RI : Gives Try.prog 14 #[.agg CR] (.bool false)) (RR : Gives Try.prog 15 #[.agg CR] (.bool false)) (HO : Gives Try.prog 16 #[.agg CR, .agg DR] (.bool false)) (RH : Gives Try.prog 17 #[.agg CR, .agg DR] (.bool false)) (KN : Gives Try.prog 18 #[] (.bool true)) (w : World) :
    Calls Try.prog 3 #[.agg CR, .agg DR] w fun e w' => e = .returned (.bool true) ∧ Below w.heap.size w w' := by
  replace RI := Lib.hid RI
  replace RR := Lib.hid RR
  replace HO := Lib.hid HO
  replace RH := Lib.hid RH
  replace KN := Lib.hid KN
  replace HIC := Lib.hid HIC
  replace HID := Lib.hid HID
  go_enter Try.func3, Try.ntmps3
  go_wp2_with fail
  obtain ⟨q1, q2, q3, q4⟩ := alloc2d w (Obj.cells CR 24) (Obj.cells DR 28)
  obtain ⟨W2, hW2⟩ : ∃ W2, (w.alloc (Obj.cells CR 24)).alloc (Obj.cells DR 28) = W2 := ⟨_, rfl⟩
  rw [hW2] at q1 q2 q3 q4
  try rw [hW2]
  clear hW2
  replace q1 := Lib.hid q1
  replace q2 := Lib.hid q2
  replace q4 := Lib.hid q4
  clear q3
  refine wp_region_held_drew (S := (fun w' => (w'.heap[w.heap.size]? = some (.cells CR 24 (0, 0))) ∧ (w'.heap[(w.heap.size + 1)]? = some (.cells DR 28 (0, 0))) ∧ (Below w.heap.size w w'))) (by kernel_rfl) ⟨q1.out, q2.out, q4.out.drew⟩ (fun hNew => ?_)
  have hHeld := Lib.hid hNew
  clear hNew
  refine wpAnyH_takeL 0 rfl (by kernel_rfl) (by kernel_rfl) (by kernel_rfl) (fun _ _ _ h => h) hHeld.out (yieldsIf_row rfl 24 (.tmp 2) rfl _ rfl _ CR _ _ (fun _ h => h.1) Try.underlying24 rfl HIC.out) ?_
  try simp only [Act.put, List.setIfInBounds_toArray, List.set_cons_zero, List.set_cons_succ]
  refine wpAnyH_takeL 2 rfl (by kernel_rfl) (by kernel_rfl) (by kernel_rfl) (fun _ _ _ h => h) hHeld.out (yieldsIf_row rfl 24 (.tmp 2) rfl _ rfl _ CR _ _ (fun _ h => h.1) Try.underlying24 rfl HIC.out) ?_
  try simp only [Act.put, List.setIfInBounds_toArray, List.set_cons_zero, List.set_cons_succ]
  refine wpAnyH_one 1 _ (by kernel_rfl) rfl (fun _ h => h) (fun K hK => ?_)
  go_simp
  refine (RI.out _).mono ?_
  rintro _ v25 ⟨rfl, hb⟩
  refine hK.out _ _ ⟨blk_below (hHeld.out.1) hb, blk_below (hHeld.out.2.1) hb, below_more (hHeld.out.2.2) (Nat.le_refl _) hb⟩ (fun hNew => ?_)
  clear hK K hHeld hb
  have hHeld := Lib.hid hNew
  clear hNew
  try simp only [Act.put, List.setIfInBounds_toArray, List.set_cons_zero, List.set_cons_succ]
  refine wpAnyH_one 3 _ (by kernel_rfl) rfl (fun _ h => h) (fun K hK => ?_)
  go_simp
  refine (RR.out _).mono ?_
  rintro _ v26 ⟨rfl, hb⟩
  refine hK.out _ _ ⟨blk_below (hHeld.out.1) hb, blk_below (hHeld.out.2.1) hb, below_more (hHeld.out.2.2) (Nat.le_refl _) hb⟩ (fun hNew => ?_)
  clear hK K hHeld hb
  have hHeld := Lib.hid hNew
  clear hNew
  try simp only [Act.put, List.setIfInBounds_toArray, List.set_cons_zero, List.set_cons_succ]
  refine wpAnyH_takeL 4 (v := ?_) rfl (by kernel_rfl) (by kernel_rfl) (by kernel_rfl) (fun _ _ _ h => h) hHeld.out (yieldsIf_of rfl ?_) ?_
  rotate_left
  · (intro w hSw; go_simp <;> with_reducible rfl)
  try simp only [Act.put, List.setIfInBounds_toArray, List.set_cons_zero, List.set_cons_succ]
  refine wpAnyH_takeL 5 (v := ?_) rfl (by kernel_rfl) (by kernel_rfl) (by kernel_rfl) (fun _ _ _ h => h) hHeld.out (yieldsIf_of rfl ?_) ?_
  rotate_left
  · (intro w hSw; go_simp <;> with_reducible rfl)
  try simp only [Act.put, List.setIfInBounds_toArray, List.set_cons_zero, List.set_cons_succ]
  refine wpAnyH_takeL 6 rfl (by kernel_rfl) (by kernel_rfl) (by kernel_rfl) (fun _ _ _ h => h) hHeld.out (yieldsIf_row rfl 24 (.tmp 2) rfl _ rfl _ CR _ _ (fun _ h => h.1) Try.underlying24 rfl HIC.out) ?_
  try simp only [Act.put, List.setIfInBounds_toArray, List.set_cons_zero, List.set_cons_succ]
  refine wpAnyH_takeL 7 rfl (by kernel_rfl) (by kernel_rfl) (by kernel_rfl) (fun _ _ _ h => h) hHeld.out (yieldsIf_row rfl 28 (.tmp 3) rfl _ rfl _ DR _ _ (fun _ h => h.2.1) Try.underlying28 rfl HID.out) ?_
  try simp only [Act.put, List.setIfInBounds_toArray, List.set_cons_zero, List.set_cons_succ]
  refine wpAnyH_takeL 9 rfl (by kernel_rfl) (by kernel_rfl) (by kernel_rfl) (fun _ _ _ h => h) hHeld.out (yieldsIf_row rfl 24 (.tmp 2) rfl _ rfl _ CR _ _ (fun _ h => h.1) Try.underlying24 rfl HIC.out) ?_
  try simp only [Act.put, List.setIfInBounds_toArray, List.set_cons_zero, List.set_cons_succ]
  refine wpAnyH_takeL 10 rfl (by kernel_rfl) (by kernel_rfl) (by kernel_rfl) (fun _ _ _ h => h) hHeld.out (yieldsIf_row rfl 28 (.tmp 3) rfl _ rfl _ DR _ _ (fun _ h => h.2.1) Try.underlying28 rfl HID.out) ?_
  try simp only [Act.put, List.setIfInBounds_toArray, List.set_cons_zero, List.set_cons_succ]
  refine wpAnyH_one 8 _ (by kernel_rfl) rfl (fun _ h => h) (fun K hK => ?_)
  go_simp
  refine (HO.out _).mono ?_
  rintro _ v27 ⟨rfl, hb⟩
  refine hK.out _ _ ⟨blk_below (hHeld.out.1) hb, blk_below (hHeld.out.2.1) hb, below_more (hHeld.out.2.2) (Nat.le_refl _) hb⟩ (fun hNew => ?_)
  clear hK K hHeld hb
  have hHeld := Lib.hid hNew
  clear hNew
  try simp only [Act.put, List.setIfInBounds_toArray, List.set_cons_zero, List.set_cons_succ]
  refine wpAnyH_one 11 _ (by kernel_rfl) rfl (fun _ h => h) (fun K hK => ?_)
  go_simp
  refine (RH.out _).mono ?_
  rintro _ v28 ⟨rfl, hb⟩
  refine hK.out _ _ ⟨blk_below (hHeld.out.1) hb, blk_below (hHeld.out.2.1) hb, below_more (hHeld.out.2.2) (Nat.le_refl _) hb⟩ (fun hNew => ?_)
  clear hK K hHeld hb
  have hHeld := Lib.hid hNew
  clear hNew
  try simp only [Act.put, List.setIfInBounds_toArray, List.set_cons_zero, List.set_cons_succ]
  refine wpAnyH_takeL 12 (v := ?_) rfl (by kernel_rfl) (by kernel_rfl) (by kernel_rfl) (fun _ _ _ h => h) hHeld.out (yieldsIf_of rfl ?_) ?_
  rotate_left
  · (intro w hSw; go_simp <;> with_reducible rfl)
  try simp only [Act.put, List.setIfInBounds_toArray, List.set_cons_zero, List.set_cons_succ]
  refine wpAnyH_takeL 13 (v := ?_) rfl (by kernel_rfl) (by kernel_rfl) (by kernel_rfl) (fun _ _ _ h => h) hHeld.out (yieldsIf_of rfl ?_) ?_
  rotate_left
  · (intro w hSw; go_simp <;> with_reducible rfl)
  try simp only [Act.put, List.setIfInBounds_toArray, List.set_cons_zero, List.set_cons_succ]
  refine wpAnyH_takeL 14 (v := ?_) rfl (by kernel_rfl) (by kernel_rfl) (by kernel_rfl) (fun _ _ _ h => h) hHeld.out (yieldsIf_of rfl ?_) ?_
  rotate_left
  · (intro w hSw; go_simp <;> with_reducible rfl)
  try simp only [Act.put, List.setIfInBounds_toArray, List.set_cons_zero, List.set_cons_succ]
  refine wpAnyH_one 15 _ (by kernel_rfl) rfl (fun _ h => h) (fun K hK => ?_)
  go_simp
  refine (KN.out _).mono ?_
  rintro _ v29 ⟨rfl, hb⟩
  refine hK.out _ _ ⟨blk_below (hHeld.out.1) hb, blk_below (hHeld.out.2.1) hb, below_more (hHeld.out.2.2) (Nat.le_refl _) hb⟩ (fun hNew => ?_)
  clear hK K hHeld hb
  have hHeld := Lib.hid hNew
  clear hNew
  try simp only [Act.put, List.setIfInBounds_toArray, List.set_cons_zero, List.set_cons_succ]
  refine wpAnyH_takeL 16 (v := ?_) rfl (by kernel_rfl) (by kernel_rfl) (by kernel_rfl) (fun _ _ _ h => h) hHeld.out (yieldsIf_of rfl ?_) ?_
  rotate_left
  · (intro w hSw; go_simp <;> with_reducible rfl)
  try simp only [Act.put, List.setIfInBounds_toArray, List.set_cons_zero, List.set_cons_succ]
  refine wpAnyH_takeL 17 (v := ?_) rfl (by kernel_rfl) (by kernel_rfl) (by kernel_rfl) (fun _ _ _ h => h) hHeld.out (yieldsIf_of rfl ?_) ?_
  rotate_left
  · (intro w hSw; go_simp <;> with_reducible rfl)
  try simp only [Act.put, List.setIfInBounds_toArray, List.set_cons_zero, List.set_cons_succ]
  refine wpAnyH_done (by kernel_rfl) ?_ _
  have HFI := Lib.hid (hHeld.out.2.2)
  clear hHeld
  go_wp2_with fail
  go_ret
  exact ⟨rfl, HFI.out⟩
theorem CondHolds_row (a c m v x0 x1 x2 x3 x4 x5 x6 x7 x8 : Int) (hc : IsCond a c m v) (hd : IsDat x0 x1 x2 [x3, x4, x5, x6, x7, x8]) (w : World) :
    Calls Try.prog 3 #[CV a c m v, .agg (dataA x0 x1 x2 [x3, x4, x5, x6, x7, x8])] w fun e w' => e = .returned (.bool true) ∧ Below w.heap.size w w' := by
  have h1 := Right_walk a c m v
  have h2 := RefRight_walk a c m v
  have h3 := Holds_walk a c m v x0 x1 x2 _ hd hc.1
  have h4 := RefHolds_walk a c m v x0 x1 x2 _ hd hc.1
  have i1 := info_cond (.int .i64 a) (.int .i64 c) (.int .u64 m) (.int .u64 v)
  have i2 := info_data x0 x1 x2 _ hd.len
  generalize rightB a c = r at *
  generalize holdsB a c m v [x3, x4, x5, x6, x7, x8] = q at *
  cases r <;> cases q
  · exact CondHolds_false_false _ _ i1 i2 h1 h2 h3 h4 knows_walk w
  · exact CondHolds_false_true _ _ i1 i2 h1 h2 h3 h4 knows_walk w
  · exact CondHolds_true_false _ _ i1 i2 h1 h2 h3 h4 knows_walk w
  · exact CondHolds_true_true _ _ i1 i2 h1 h2 h3 h4 knows_walk w
end Go.Proofs.Ythdkgpmpopjnaaa.H
