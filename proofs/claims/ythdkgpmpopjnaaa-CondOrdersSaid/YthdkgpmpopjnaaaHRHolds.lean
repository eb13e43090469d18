/-
The reference of cond: Holds.
-/
import Derived.Test.YthdkgpmpopjnaaaProg
import Derived.WalkKit
import Derived.WalkSpells
import Derived.WalkLawsBesides
import Derived.Handy
import Derived.Lib.Hide
import Derived.Deep.QuietTactic
import Derived.BigQuiet
import Derived.Test.YthdkgpmpopjnaaaHCondH
import Derived.Test.YthdkgpmpopjnaaaWWords
set_option linter.unusedVariables false
set_option linter.unusedSimpArgs false
namespace Go.Proofs.Ythdkgpmpopjnaaa.H
open Go.RowKit Go.Proofs.YthdkgpmpopjnaaaW.PrintWords

set_option maxHeartbeats 4000000 in
theorem RefHolds_no (arg cmp m v : Int) (DR : Array Value) (RI : Gives Try.prog 15 #[.agg #[.int .i64 arg, .int .i64 cmp, .int .u64 m, .int .u64 v]] (.bool false)) (w : World) :
    Calls Try.prog 17 #[.agg #[.int .i64 arg, .int .i64 cmp, .int .u64 m, .int .u64 v], .agg DR] w fun e w' => e = .returned (.bool false) ∧ Below w.heap.size w w' := by
  replace RI := Lib.hid RI
  have HIC := Lib.hid (info_cond (.int .i64 arg) (.int .i64 cmp) (.int .u64 m) (.int .u64 v))
  have q1 := Lib.hid (alloc2d w (Obj.cells #[.int .i64 arg, .int .i64 cmp, .int .u64 m, .int .u64 v] 24) (Obj.cells DR 28)).1
  have q4 := Lib.hid (alloc2d w (Obj.cells #[.int .i64 arg, .int .i64 cmp, .int .u64 m, .int .u64 v] 24) (Obj.cells DR 28)).2.2.2
  go_enter Try.func17, Try.ntmps17
  go_wp2_with (refine wpList_load_row rfl 24 (.tmp 2) rfl _ rfl _ _ _ _ q1.out Try.underlying24 rfl HIC.out ?_)
  refine (RI.out _).mono ?_
  rintro e w1 ⟨rfl, hb⟩
  have q1_1 := Lib.hid (blk_below q1.out hb)
  have q4_1 := Lib.hid (below_more q4.out (Nat.le_refl _) hb)
  clear hb q1 q4
  go_wp2_with fail
  go_ret
  exact ⟨rfl, q4_1.out⟩
set_option maxHeartbeats 4000000 in
theorem RefHolds_yes (j : Nat) (hj : (j : Int) < 6) (cmp m v x y : Int) (hc : 0 ≤ cmp ∧ cmp ≤ 5) (DR : Array Value) (hDR : DR[3 + j]? = some (.int .u64 x)) (RI : Gives Try.prog 15 #[.agg #[.int .i64 (j : Int), .int .i64 cmp, .int .u64 m, .int .u64 v]] (.bool true)) (MK : Gives Try.prog 38 #[.int .u64 x, .int .u64 m] (.int .u64 y)) (w : World) :
    Calls Try.prog 17 #[.agg #[.int .i64 (j : Int), .int .i64 cmp, .int .u64 m, .int .u64 v], .agg DR] w fun e w' => e = .returned (.bool (cmpB cmp.toNat y v)) ∧ Below w.heap.size w w' := by
  replace RI := Lib.hid RI
  replace MK := Lib.hid MK
  replace hDR := Lib.hid hDR
  have HIC := Lib.hid (info_cond (.int .i64 (j : Int)) (.int .i64 cmp) (.int .u64 m) (.int .u64 v))
  obtain ⟨r, hr⟩ : ∃ r, cmpB cmp.toNat y v = r := ⟨_, rfl⟩
  rw [hr]
  have HR := Lib.hid hr
  replace hc := Lib.hid hc
  clear hr
  have q1 := Lib.hid (alloc2d w (Obj.cells #[.int .i64 (j : Int), .int .i64 cmp, .int .u64 m, .int .u64 v] 24) (Obj.cells DR 28)).1
  have q2 := Lib.hid (alloc2d w (Obj.cells #[.int .i64 (j : Int), .int .i64 cmp, .int .u64 m, .int .u64 v] 24) (Obj.cells DR 28)).2.1
  have q4 := Lib.hid (alloc2d w (Obj.cells #[.int .i64 (j : Int), .int .i64 cmp, .int .u64 m, .int .u64 v] 24) (Obj.cells DR 28)).2.2.2
  go_enter Try.func17, Try.ntmps17
  go_wp2_with (refine wpList_load_row rfl 24 (.tmp 2) rfl _ rfl _ _ _ _ q1.out Try.underlying24 rfl HIC.out ?_)
  refine (RI.out _).mono ?_
  rintro e w1 ⟨rfl, hb⟩
  have q1_1 := Lib.hid (blk_below q1.out hb)
  have q2_1 := Lib.hid (blk_below q2.out hb)
  have q4_1 := Lib.hid (below_more q4.out (Nat.le_refl _) hb)
  clear hb q1 q2 q4
  go_wp2_with fail
  refine wp_region_held_drew (S := (fun w' => (w'.heap[w.heap.size]? = some (.cells #[.int .i64 (j : Int), .int .i64 cmp, .int .u64 m, .int .u64 v] 24 (0, 0))) ∧ (w'.heap[(w.heap.size + 1)]? = some (.cells DR 28 (0, 0))) ∧ (Below w.heap.size w w'))) (by kernel_rfl) ⟨q1_1.out, q2_1.out, q4_1.out.drew⟩ (fun hNew => ?_)
  have hHeld := Lib.hid hNew
  clear hNew
  refine wpAnyH_takeL 0 (v := ?_) rfl (by kernel_rfl) (by kernel_rfl) (by kernel_rfl) (fun _ _ _ h => h) hHeld.out (yieldsIf_of rfl ?_) ?_
  rotate_left
  · (intro w hSw; go_simp <;> with_reducible rfl)
  try simp only [Act.put, List.setIfInBounds_toArray, List.set_cons_zero, List.set_cons_succ]
  refine wpAnyH_takeL 1 rfl (by kernel_rfl) (by kernel_rfl) (by kernel_rfl) (fun _ _ _ h => h) hHeld.out (yieldsIf_cell rfl 3 (.tmp 11) rfl _ rfl (.int .i64 (j : Int)) _ (fun _ h => (blk_cell h.1 0).trans rfl) Try.underlying3 rfl) ?_
  try simp only [Act.put, List.setIfInBounds_toArray, List.set_cons_zero, List.set_cons_succ]
  refine wpAnyH_takeL 2 (v := ?_) rfl (by kernel_rfl) (by kernel_rfl) (by kernel_rfl) (fun _ _ _ h => h) hHeld.out (yieldsIf_of rfl ?_) ?_
  rotate_left
  · (intro w hSw; go_simp <;> with_reducible rfl)
  try simp only [Act.put, List.setIfInBounds_toArray, List.set_cons_zero, List.set_cons_succ]
  refine wpAnyH_takeL 3 (v := ?_) rfl (by kernel_rfl) (by kernel_rfl) (by kernel_rfl) (fun _ _ _ h => h) hHeld.out (yieldsIf_of rfl ?_) ?_
  rotate_left
  · (intro w hSw; go_simp <;> with_reducible rfl)
  try simp only [Act.put, List.setIfInBounds_toArray, List.set_cons_zero, List.set_cons_succ]
  refine wpAnyH_takeL 4 rfl (by kernel_rfl) (by kernel_rfl) (by kernel_rfl) (fun _ _ _ h => h) hHeld.out (yieldsIf_cell rfl 22 (.tmp 14) rfl _ rfl (.int .u64 x) _ (fun _ h => (blk_cell h.2.1 (3 + j)).trans hDR.out) Try.underlying22 rfl) ?_
  try simp only [Act.put, List.setIfInBounds_toArray, List.set_cons_zero, List.set_cons_succ]
  refine wpAnyH_takeL 5 (v := ?_) rfl (by kernel_rfl) (by kernel_rfl) (by kernel_rfl) (fun _ _ _ h => h) hHeld.out (yieldsIf_of rfl ?_) ?_
  rotate_left
  · (intro w hSw; go_simp <;> with_reducible rfl)
  try simp only [Act.put, List.setIfInBounds_toArray, List.set_cons_zero, List.set_cons_succ]
  refine wpAnyH_takeL 6 rfl (by kernel_rfl) (by kernel_rfl) (by kernel_rfl) (fun _ _ _ h => h) hHeld.out (yieldsIf_cell rfl 22 (.tmp 16) rfl _ rfl (.int .u64 m) _ (fun _ h => (blk_cell h.1 2).trans rfl) Try.underlying22 rfl) ?_
  try simp only [Act.put, List.setIfInBounds_toArray, List.set_cons_zero, List.set_cons_succ]
  refine wpAnyH_one 7 _ (by kernel_rfl) rfl (fun _ h => h) (fun K hK => ?_)
  go_simp
  refine (MK.out _).mono ?_
  rintro _ v9 ⟨rfl, hb⟩
  refine hK.out _ _ ⟨blk_below (hHeld.out.1) hb, blk_below (hHeld.out.2.1) hb, below_more (hHeld.out.2.2) (Nat.le_refl _) hb⟩ (fun hNew => ?_)
  clear hK K hHeld hb
  have hHeld := Lib.hid hNew
  clear hNew
  try simp only [Act.put, List.setIfInBounds_toArray, List.set_cons_zero, List.set_cons_succ]
  refine wpAnyH_takeL 8 (v := ?_) rfl (by kernel_rfl) (by kernel_rfl) (by kernel_rfl) (fun _ _ _ h => h) hHeld.out (yieldsIf_of rfl ?_) ?_
  rotate_left
  · (intro w hSw; go_simp <;> with_reducible rfl)
  try simp only [Act.put, List.setIfInBounds_toArray, List.set_cons_zero, List.set_cons_succ]
  refine wpAnyH_done (by kernel_rfl) ?_ _
  have HFI := Lib.hid (hHeld.out.2.2)
  obtain ⟨c0, c1, c2, c3⟩ := cells4 (hHeld.out.1)
  clear hHeld
  have hc5 := hc.out
  clear hc
  rcases (by omega : cmp = 0 ∨ cmp = 1 ∨ cmp = 2 ∨ cmp = 3 ∨ cmp = 4 ∨ cmp = 5) with rfl | rfl | rfl | rfl | rfl | rfl
  · clear hc5
    rcases (by omega : (y < v ∧ ¬ v < y) ∨ (¬ y < v ∧ ¬ v < y) ∨ (¬ y < v ∧ v < y)) with ⟨h1, h2⟩ | ⟨h1, h2⟩ | ⟨h1, h2⟩
    · have e : r = false := by rw [← HR.out]; simp [cmpB] <;> omega
      subst e
      clear HR
      go_wp2_with fail
      go_ret
      exact ⟨rfl, HFI.out⟩
    · have e : r = true := by rw [← HR.out]; simp [cmpB] <;> omega
      subst e
      clear HR
      go_wp2_with fail
      go_ret
      exact ⟨rfl, HFI.out⟩
    · have e : r = false := by rw [← HR.out]; simp [cmpB] <;> omega
      subst e
      clear HR
      go_wp2_with fail
      go_ret
      exact ⟨rfl, HFI.out⟩
  · clear hc5
    rcases (by omega : (y < v ∧ ¬ v < y) ∨ (¬ y < v ∧ ¬ v < y) ∨ (¬ y < v ∧ v < y)) with ⟨h1, h2⟩ | ⟨h1, h2⟩ | ⟨h1, h2⟩
    · have e : r = true := by rw [← HR.out]; simp [cmpB] <;> omega
      subst e
      clear HR
      go_wp2_with fail
      go_ret
      exact ⟨rfl, HFI.out⟩
    · have e : r = false := by rw [← HR.out]; simp [cmpB] <;> omega
      subst e
      clear HR
      go_wp2_with fail
      go_ret
      exact ⟨rfl, HFI.out⟩
    · have e : r = true := by rw [← HR.out]; simp [cmpB] <;> omega
      subst e
      clear HR
      go_wp2_with fail
      go_ret
      exact ⟨rfl, HFI.out⟩
  · clear hc5
    rcases (by omega : (y < v ∧ ¬ v < y) ∨ (¬ y < v ∧ ¬ v < y) ∨ (¬ y < v ∧ v < y)) with ⟨h1, h2⟩ | ⟨h1, h2⟩ | ⟨h1, h2⟩
    · have e : r = true := by rw [← HR.out]; simp [cmpB] <;> omega
      subst e
      clear HR
      go_wp2_with fail
      go_ret
      exact ⟨rfl, HFI.out⟩
    · have e : r = false := by rw [← HR.out]; simp [cmpB] <;> omega
      subst e
      clear HR
      go_wp2_with fail
      go_ret
      exact ⟨rfl, HFI.out⟩
    · have e : r = false := by rw [← HR.out]; simp [cmpB] <;> omega
      subst e
      clear HR
      go_wp2_with fail
      go_ret
      exact ⟨rfl, HFI.out⟩
  · clear hc5
    rcases (by omega : (y < v ∧ ¬ v < y) ∨ (¬ y < v ∧ ¬ v < y) ∨ (¬ y < v ∧ v < y)) with ⟨h1, h2⟩ | ⟨h1, h2⟩ | ⟨h1, h2⟩
    · have e : r = true := by rw [← HR.out]; simp [cmpB] <;> omega
      subst e
      clear HR
      go_wp2_with fail
      go_ret
      exact ⟨rfl, HFI.out⟩
    · have e : r = true := by rw [← HR.out]; simp [cmpB] <;> omega
      subst e
      clear HR
      go_wp2_with fail
      go_ret
      exact ⟨rfl, HFI.out⟩
    · have e : r = false := by rw [← HR.out]; simp [cmpB] <;> omega
      subst e
      clear HR
      go_wp2_with fail
      go_ret
      exact ⟨rfl, HFI.out⟩
  · clear hc5
    rcases (by omega : (y < v ∧ ¬ v < y) ∨ (¬ y < v ∧ ¬ v < y) ∨ (¬ y < v ∧ v < y)) with ⟨h1, h2⟩ | ⟨h1, h2⟩ | ⟨h1, h2⟩
    · have e : r = false := by rw [← HR.out]; simp [cmpB] <;> omega
      subst e
      clear HR
      go_wp2_with fail
      go_ret
      exact ⟨rfl, HFI.out⟩
    · have e : r = false := by rw [← HR.out]; simp [cmpB] <;> omega
      subst e
      clear HR
      go_wp2_with fail
      go_ret
      exact ⟨rfl, HFI.out⟩
    · have e : r = true := by rw [← HR.out]; simp [cmpB] <;> omega
      subst e
      clear HR
      go_wp2_with fail
      go_ret
      exact ⟨rfl, HFI.out⟩
  · clear hc5
    rcases (by omega : (y < v ∧ ¬ v < y) ∨ (¬ y < v ∧ ¬ v < y) ∨ (¬ y < v ∧ v < y)) with ⟨h1, h2⟩ | ⟨h1, h2⟩ | ⟨h1, h2⟩
    · have e : r = false := by rw [← HR.out]; simp [cmpB] <;> omega
      subst e
      clear HR
      go_wp2_with fail
      go_ret
      exact ⟨rfl, HFI.out⟩
    · have e : r = true := by rw [← HR.out]; simp [cmpB] <;> omega
      subst e
      clear HR
      go_wp2_with fail
      go_ret
      exact ⟨rfl, HFI.out⟩
    · have e : r = true := by rw [← HR.out]; simp [cmpB] <;> omega
      subst e
      clear HR
      go_wp2_with fail
      go_ret
      exact ⟨rfl, HFI.out⟩
theorem RefHolds_walk (arg cmp m v : Int) (nr ar ip : Int) (ags : List Int) (hd : IsDat nr ar ip ags) (hm : u64P m) : Gives Try.prog 17 #[CV arg cmp m v, .agg (dataA nr ar ip ags)] (.bool (holdsB arg cmp m v ags)) := by
  intro w
  have hR := RefRight_walk arg cmp m v
  unfold holdsB
  cases h : rightB arg cmp with
  | false =>
    rw [h] at hR
    exact RefHolds_no arg cmp m v _ hR w
  | true =>
    rw [h] at hR
    obtain ⟨j, k, rfl, rfl, hj, hk⟩ := right_nats h
    rw [Bool.true_and]
    try simp only [Int.toNat_natCast]
    exact RefHolds_yes j (by omega) (k : Int) m v (ags.getD j 0) _ (by omega) _ (data_at nr ar ip ags hd.len j hj) hR (Masked_walk _ m (hd.ags j) hm) w
end Go.Proofs.Ythdkgpmpopjnaaa.H
