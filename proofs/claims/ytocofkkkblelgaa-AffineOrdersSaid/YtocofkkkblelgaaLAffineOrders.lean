/-
AffineOrders: the walk.
-/
import Derived.Test.YtocofkkkblelgaaProg
import Derived.WalkKit
import Derived.WalkSpells
import Derived.WalkLawsBesides
import Derived.Handy
import Derived.Lib.Hide
import Derived.Test.YtocofkkkblelgaaHAff9
import Derived.Test.YtocofkkkblelgaaWWords
set_option linter.unusedVariables false
set_option linter.unusedSimpArgs false
namespace Go.Proofs.Ytocofkkkblelgaa.H
open Go.RowKit Go.Proofs.YtocofkkkblelgaaW.PrintWords

set_option maxHeartbeats 8000000 in
theorem AffineOrders_abs (RF RG RH RS RT RU RZ RX RY RV : Array Value) (hF : FRow RF) (hG : FRow RG) (hH : FRow RH)
    (AFG : Gives Try.prog 13 #[.agg RF, .agg RG] (.agg RS)) (AGF : Gives Try.prog 13 #[.agg RG, .agg RF] (.agg RS)) (ASH : Gives Try.prog 13 #[.agg RS, .agg RH] (.agg RT)) (AGH : Gives Try.prog 13 #[.agg RG, .agg RH] (.agg RU)) (AFU : Gives Try.prog 13 #[.agg RF, .agg RU] (.agg RT)) (SSG : Gives Try.prog 15 #[.agg RS, .agg RG] (.agg RF)) (MF0 : Gives Try.prog 16 #[.agg RF, .int .u32 0] (.agg RZ)) (CC0 : Gives Try.prog 17 #[.int .u32 0] (.agg RZ)) (MF1 : Gives Try.prog 16 #[.agg RF, .int .u32 1] (.agg RF)) (MS3 : Gives Try.prog 16 #[.agg RS, .int .u32 3] (.agg RX)) (MF3 : Gives Try.prog 16 #[.agg RF, .int .u32 3] (.agg RY)) (MG3 : Gives Try.prog 16 #[.agg RG, .int .u32 3] (.agg RV)) (AYV : Gives Try.prog 13 #[.agg RY, .agg RV] (.agg RX))
    (eRS : ∀ w, (Op.equalIn 10000 25 (.agg RS) (.agg RS)).run Try.prog w = .ok true w) (eRT : ∀ w, (Op.equalIn 10000 25 (.agg RT) (.agg RT)).run Try.prog w = .ok true w) (eRF : ∀ w, (Op.equalIn 10000 25 (.agg RF) (.agg RF)).run Try.prog w = .ok true w) (eRZ : ∀ w, (Op.equalIn 10000 25 (.agg RZ) (.agg RZ)).run Try.prog w = .ok true w) (eRX : ∀ w, (Op.equalIn 10000 25 (.agg RX) (.agg RX)).run Try.prog w = .ok true w)
    (KN : Gives Try.prog 19 #[] (.bool true)) (w : World) :
    Calls Try.prog 8 #[.agg RF, .agg RG, .agg RH] w fun e w' => e = .returned (.bool true) ∧ Below w.heap.size w w' := by
  replace hF := Lib.hid hF
  replace hG := Lib.hid hG
  replace hH := Lib.hid hH
  replace KN := Lib.hid KN
  replace AFG := Lib.hid AFG
  replace AGF := Lib.hid AGF
  replace ASH := Lib.hid ASH
  replace AGH := Lib.hid AGH
  replace AFU := Lib.hid AFU
  replace SSG := Lib.hid SSG
  replace MF0 := Lib.hid MF0
  replace CC0 := Lib.hid CC0
  replace MF1 := Lib.hid MF1
  replace MS3 := Lib.hid MS3
  replace MF3 := Lib.hid MF3
  replace MG3 := Lib.hid MG3
  replace AYV := Lib.hid AYV
  go_enter Try.func8, Try.ntmps8
  go_wp2_with fail
  obtain ⟨q1, q2, q3, q4, q5⟩ := alloc3 w (Obj.cells RF 25) (Obj.cells RG 25) (Obj.cells RH 25)
  generalize ((w.alloc (Obj.cells RF 25)).alloc (Obj.cells RG 25)).alloc (Obj.cells RH 25) = W3 at *
  replace q1 := Lib.hid q1
  replace q2 := Lib.hid q2
  replace q3 := Lib.hid q3
  replace q5 := Lib.hid q5
  clear q4
  refine wp_region_held_drew (S := (fun w' => (w'.heap[w.heap.size]? = some (.cells RF 25 (0, 0))) ∧ (w'.heap[(w.heap.size + 1)]? = some (.cells RG 25 (0, 0))) ∧ (w'.heap[(w.heap.size + 1 + 1)]? = some (.cells RH 25 (0, 0))) ∧ (Below w.heap.size w w'))) (by kernel_rfl) ⟨q1.out, q2.out, q3.out, q5.out.drew⟩ (fun hNew => ?_)
  have hHeld := Lib.hid hNew
  clear hNew
  refine wpAnyH_takeL 0 rfl (by kernel_rfl) (by kernel_rfl) (by kernel_rfl) (fun _ _ _ h => h) hHeld.out (yieldsIf_row rfl 25 (.tmp 3) rfl _ rfl _ RF _ _ (fun _ h => h.1) Try.underlying25 rfl hF.out.info) ?_
  try simp only [Act.put, List.setIfInBounds_toArray, List.set_cons_zero, List.set_cons_succ]
  refine wpAnyH_takeL 1 rfl (by kernel_rfl) (by kernel_rfl) (by kernel_rfl) (fun _ _ _ h => h) hHeld.out (yieldsIf_row rfl 25 (.tmp 4) rfl _ rfl _ RG _ _ (fun _ h => h.2.1) Try.underlying25 rfl hG.out.info) ?_
  try simp only [Act.put, List.setIfInBounds_toArray, List.set_cons_zero, List.set_cons_succ]
  refine wpAnyH_takeL 3 rfl (by kernel_rfl) (by kernel_rfl) (by kernel_rfl) (fun _ _ _ h => h) hHeld.out (yieldsIf_row rfl 25 (.tmp 4) rfl _ rfl _ RG _ _ (fun _ h => h.2.1) Try.underlying25 rfl hG.out.info) ?_
  try simp only [Act.put, List.setIfInBounds_toArray, List.set_cons_zero, List.set_cons_succ]
  refine wpAnyH_takeL 4 rfl (by kernel_rfl) (by kernel_rfl) (by kernel_rfl) (fun _ _ _ h => h) hHeld.out (yieldsIf_row rfl 25 (.tmp 3) rfl _ rfl _ RF _ _ (fun _ h => h.1) Try.underlying25 rfl hF.out.info) ?_
  try simp only [Act.put, List.setIfInBounds_toArray, List.set_cons_zero, List.set_cons_succ]
  refine wpAnyH_one 2 _ (by kernel_rfl) rfl (fun _ h => h) (fun K hK => ?_)
  go_simp
  refine (AFG.out _).mono ?_
  rintro _ v10 ⟨rfl, hb⟩
  refine hK.out _ _ ⟨blk_below (hHeld.out.1) hb, blk_below (hHeld.out.2.1) hb, blk_below (hHeld.out.2.2.1) hb, below_more (hHeld.out.2.2.2) (Nat.le_refl _) hb⟩ (fun hNew => ?_)
  clear hK K hHeld hb
  have hHeld := Lib.hid hNew
  clear hNew
  try simp only [Act.put, List.setIfInBounds_toArray, List.set_cons_zero, List.set_cons_succ]
  refine wpAnyH_one 5 _ (by kernel_rfl) rfl (fun _ h => h) (fun K hK => ?_)
  go_simp
  refine (AGF.out _).mono ?_
  rintro _ v11 ⟨rfl, hb⟩
  refine hK.out _ _ ⟨blk_below (hHeld.out.1) hb, blk_below (hHeld.out.2.1) hb, blk_below (hHeld.out.2.2.1) hb, below_more (hHeld.out.2.2.2) (Nat.le_refl _) hb⟩ (fun hNew => ?_)
  clear hK K hHeld hb
  have hHeld := Lib.hid hNew
  clear hNew
  try simp only [Act.put, List.setIfInBounds_toArray, List.set_cons_zero, List.set_cons_succ]
  refine wpAnyH_takeL 6 (v := ?_) rfl (by kernel_rfl) (by kernel_rfl) (by kernel_rfl) (fun _ _ _ h => h) hHeld.out (yieldsIf_of rfl ?_) ?_
  rotate_left
  · (intro w hSw; go_simp <;> with_reducible rfl)
  try simp only [Act.put, List.setIfInBounds_toArray, List.set_cons_zero, List.set_cons_succ]
  refine wpAnyH_takeL 7 (v := ?_) rfl (by kernel_rfl) (by kernel_rfl) (by kernel_rfl) (fun _ _ _ h => h) hHeld.out (yieldsIf_of rfl ?_) ?_
  rotate_left
  · (intro w hSw; go_simp <;> with_reducible rfl)
  try simp only [Act.put, List.setIfInBounds_toArray, List.set_cons_zero, List.set_cons_succ]
  refine wpAnyH_takeL 8 rfl (by kernel_rfl) (by kernel_rfl) (by kernel_rfl) (fun _ _ _ h => h) hHeld.out (yieldsIf_row rfl 25 (.tmp 3) rfl _ rfl _ RF _ _ (fun _ h => h.1) Try.underlying25 rfl hF.out.info) ?_
  try simp only [Act.put, List.setIfInBounds_toArray, List.set_cons_zero, List.set_cons_succ]
  refine wpAnyH_takeL 9 rfl (by kernel_rfl) (by kernel_rfl) (by kernel_rfl) (fun _ _ _ h => h) hHeld.out (yieldsIf_row rfl 25 (.tmp 4) rfl _ rfl _ RG _ _ (fun _ h => h.2.1) Try.underlying25 rfl hG.out.info) ?_
  try simp only [Act.put, List.setIfInBounds_toArray, List.set_cons_zero, List.set_cons_succ]
  refine wpAnyH_takeL 11 rfl (by kernel_rfl) (by kernel_rfl) (by kernel_rfl) (fun _ _ _ h => h) hHeld.out (yieldsIf_row rfl 25 (.tmp 5) rfl _ rfl _ RH _ _ (fun _ h => h.2.2.1) Try.underlying25 rfl hH.out.info) ?_
  try simp only [Act.put, List.setIfInBounds_toArray, List.set_cons_zero, List.set_cons_succ]
  refine wpAnyH_takeL 13 rfl (by kernel_rfl) (by kernel_rfl) (by kernel_rfl) (fun _ _ _ h => h) hHeld.out (yieldsIf_row rfl 25 (.tmp 3) rfl _ rfl _ RF _ _ (fun _ h => h.1) Try.underlying25 rfl hF.out.info) ?_
  try simp only [Act.put, List.setIfInBounds_toArray, List.set_cons_zero, List.set_cons_succ]
  refine wpAnyH_takeL 14 rfl (by kernel_rfl) (by kernel_rfl) (by kernel_rfl) (fun _ _ _ h => h) hHeld.out (yieldsIf_row rfl 25 (.tmp 4) rfl _ rfl _ RG _ _ (fun _ h => h.2.1) Try.underlying25 rfl hG.out.info) ?_
  try simp only [Act.put, List.setIfInBounds_toArray, List.set_cons_zero, List.set_cons_succ]
  refine wpAnyH_takeL 15 rfl (by kernel_rfl) (by kernel_rfl) (by kernel_rfl) (fun _ _ _ h => h) hHeld.out (yieldsIf_row rfl 25 (.tmp 5) rfl _ rfl _ RH _ _ (fun _ h => h.2.2.1) Try.underlying25 rfl hH.out.info) ?_
  try simp only [Act.put, List.setIfInBounds_toArray, List.set_cons_zero, List.set_cons_succ]
  refine wpAnyH_one 10 _ (by kernel_rfl) rfl (fun _ h => h) (fun K hK => ?_)
  go_simp
  refine (AFG.out _).mono ?_
  rintro _ v12 ⟨rfl, hb⟩
  refine hK.out _ _ ⟨blk_below (hHeld.out.1) hb, blk_below (hHeld.out.2.1) hb, blk_below (hHeld.out.2.2.1) hb, below_more (hHeld.out.2.2.2) (Nat.le_refl _) hb⟩ (fun hNew => ?_)
  clear hK K hHeld hb
  have hHeld := Lib.hid hNew
  clear hNew
  try simp only [Act.put, List.setIfInBounds_toArray, List.set_cons_zero, List.set_cons_succ]
  refine wpAnyH_one 12 _ (by kernel_rfl) rfl (fun _ h => h) (fun K hK => ?_)
  go_simp
  refine (ASH.out _).mono ?_
  rintro _ v13 ⟨rfl, hb⟩
  refine hK.out _ _ ⟨blk_below (hHeld.out.1) hb, blk_below (hHeld.out.2.1) hb, blk_below (hHeld.out.2.2.1) hb, below_more (hHeld.out.2.2.2) (Nat.le_refl _) hb⟩ (fun hNew => ?_)
  clear hK K hHeld hb
  have hHeld := Lib.hid hNew
  clear hNew
  try simp only [Act.put, List.setIfInBounds_toArray, List.set_cons_zero, List.set_cons_succ]
  refine wpAnyH_one 16 _ (by kernel_rfl) rfl (fun _ h => h) (fun K hK => ?_)
  go_simp
  refine (AGH.out _).mono ?_
  rintro _ v14 ⟨rfl, hb⟩
  refine hK.out _ _ ⟨blk_below (hHeld.out.1) hb, blk_below (hHeld.out.2.1) hb, blk_below (hHeld.out.2.2.1) hb, below_more (hHeld.out.2.2.2) (Nat.le_refl _) hb⟩ (fun hNew => ?_)
  clear hK K hHeld hb
  have hHeld := Lib.hid hNew
  clear hNew
  try simp only [Act.put, List.setIfInBounds_toArray, List.set_cons_zero, List.set_cons_succ]
  refine wpAnyH_one 17 _ (by kernel_rfl) rfl (fun _ h => h) (fun K hK => ?_)
  go_simp
  refine (AFU.out _).mono ?_
  rintro _ v15 ⟨rfl, hb⟩
  refine hK.out _ _ ⟨blk_below (hHeld.out.1) hb, blk_below (hHeld.out.2.1) hb, blk_below (hHeld.out.2.2.1) hb, below_more (hHeld.out.2.2.2) (Nat.le_refl _) hb⟩ (fun hNew => ?_)
  clear hK K hHeld hb
  have hHeld := Lib.hid hNew
  clear hNew
  try simp only [Act.put, List.setIfInBounds_toArray, List.set_cons_zero, List.set_cons_succ]
  refine wpAnyH_takeL 18 (v := ?_) rfl (by kernel_rfl) (by kernel_rfl) (by kernel_rfl) (fun _ _ _ h => h) hHeld.out (yieldsIf_of rfl ?_) ?_
  rotate_left
  · (intro w hSw; go_simp <;> with_reducible rfl)
  try simp only [Act.put, List.setIfInBounds_toArray, List.set_cons_zero, List.set_cons_succ]
  refine wpAnyH_takeL 19 (v := ?_) rfl (by kernel_rfl) (by kernel_rfl) (by kernel_rfl) (fun _ _ _ h => h) hHeld.out (yieldsIf_of rfl ?_) ?_
  rotate_left
  · (intro w hSw; go_simp <;> with_reducible rfl)
  try simp only [Act.put, List.setIfInBounds_toArray, List.set_cons_zero, List.set_cons_succ]
  refine wpAnyH_takeL 20 (v := ?_) rfl (by kernel_rfl) (by kernel_rfl) (by kernel_rfl) (fun _ _ _ h => h) hHeld.out (yieldsIf_of rfl ?_) ?_
  rotate_left
  · (intro w hSw; go_simp <;> with_reducible rfl)
  try simp only [Act.put, List.setIfInBounds_toArray, List.set_cons_zero, List.set_cons_succ]
  refine wpAnyH_takeL 21 rfl (by kernel_rfl) (by kernel_rfl) (by kernel_rfl) (fun _ _ _ h => h) hHeld.out (yieldsIf_row rfl 25 (.tmp 3) rfl _ rfl _ RF _ _ (fun _ h => h.1) Try.underlying25 rfl hF.out.info) ?_
  try simp only [Act.put, List.setIfInBounds_toArray, List.set_cons_zero, List.set_cons_succ]
  refine wpAnyH_takeL 22 rfl (by kernel_rfl) (by kernel_rfl) (by kernel_rfl) (fun _ _ _ h => h) hHeld.out (yieldsIf_row rfl 25 (.tmp 4) rfl _ rfl _ RG _ _ (fun _ h => h.2.1) Try.underlying25 rfl hG.out.info) ?_
  try simp only [Act.put, List.setIfInBounds_toArray, List.set_cons_zero, List.set_cons_succ]
  refine wpAnyH_takeL 24 rfl (by kernel_rfl) (by kernel_rfl) (by kernel_rfl) (fun _ _ _ h => h) hHeld.out (yieldsIf_row rfl 25 (.tmp 4) rfl _ rfl _ RG _ _ (fun _ h => h.2.1) Try.underlying25 rfl hG.out.info) ?_
  try simp only [Act.put, List.setIfInBounds_toArray, List.set_cons_zero, List.set_cons_succ]
  refine wpAnyH_takeL 26 rfl (by kernel_rfl) (by kernel_rfl) (by kernel_rfl) (fun _ _ _ h => h) hHeld.out (yieldsIf_row rfl 25 (.tmp 3) rfl _ rfl _ RF _ _ (fun _ h => h.1) Try.underlying25 rfl hF.out.info) ?_
  try simp only [Act.put, List.setIfInBounds_toArray, List.set_cons_zero, List.set_cons_succ]
  refine wpAnyH_one 23 _ (by kernel_rfl) rfl (fun _ h => h) (fun K hK => ?_)
  go_simp
  refine (AFG.out _).mono ?_
  rintro _ v16 ⟨rfl, hb⟩
  refine hK.out _ _ ⟨blk_below (hHeld.out.1) hb, blk_below (hHeld.out.2.1) hb, blk_below (hHeld.out.2.2.1) hb, below_more (hHeld.out.2.2.2) (Nat.le_refl _) hb⟩ (fun hNew => ?_)
  clear hK K hHeld hb
  have hHeld := Lib.hid hNew
  clear hNew
  try simp only [Act.put, List.setIfInBounds_toArray, List.set_cons_zero, List.set_cons_succ]
  refine wpAnyH_one 25 _ (by kernel_rfl) rfl (fun _ h => h) (fun K hK => ?_)
  go_simp
  refine (SSG.out _).mono ?_
  rintro _ v17 ⟨rfl, hb⟩
  refine hK.out _ _ ⟨blk_below (hHeld.out.1) hb, blk_below (hHeld.out.2.1) hb, blk_below (hHeld.out.2.2.1) hb, below_more (hHeld.out.2.2.2) (Nat.le_refl _) hb⟩ (fun hNew => ?_)
  clear hK K hHeld hb
  have hHeld := Lib.hid hNew
  clear hNew
  try simp only [Act.put, List.setIfInBounds_toArray, List.set_cons_zero, List.set_cons_succ]
  refine wpAnyH_takeL 27 (v := ?_) rfl (by kernel_rfl) (by kernel_rfl) (by kernel_rfl) (fun _ _ _ h => h) hHeld.out (yieldsIf_of rfl ?_) ?_
  rotate_left
  · (intro w hSw; go_simp <;> with_reducible rfl)
  try simp only [Act.put, List.setIfInBounds_toArray, List.set_cons_zero, List.set_cons_succ]
  refine wpAnyH_takeL 28 (v := ?_) rfl (by kernel_rfl) (by kernel_rfl) (by kernel_rfl) (fun _ _ _ h => h) hHeld.out (yieldsIf_of rfl ?_) ?_
  rotate_left
  · (intro w hSw; go_simp <;> with_reducible rfl)
  try simp only [Act.put, List.setIfInBounds_toArray, List.set_cons_zero, List.set_cons_succ]
  refine wpAnyH_takeL 29 (v := ?_) rfl (by kernel_rfl) (by kernel_rfl) (by kernel_rfl) (fun _ _ _ h => h) hHeld.out (yieldsIf_of rfl ?_) ?_
  rotate_left
  · (intro w hSw; go_simp <;> with_reducible rfl)
  try simp only [Act.put, List.setIfInBounds_toArray, List.set_cons_zero, List.set_cons_succ]
  refine wpAnyH_takeL 30 rfl (by kernel_rfl) (by kernel_rfl) (by kernel_rfl) (fun _ _ _ h => h) hHeld.out (yieldsIf_row rfl 25 (.tmp 3) rfl _ rfl _ RF _ _ (fun _ h => h.1) Try.underlying25 rfl hF.out.info) ?_
  try simp only [Act.put, List.setIfInBounds_toArray, List.set_cons_zero, List.set_cons_succ]
  refine wpAnyH_one 31 _ (by kernel_rfl) rfl (fun _ h => h) (fun K hK => ?_)
  go_simp
  refine (MF0.out _).mono ?_
  rintro _ v18 ⟨rfl, hb⟩
  refine hK.out _ _ ⟨blk_below (hHeld.out.1) hb, blk_below (hHeld.out.2.1) hb, blk_below (hHeld.out.2.2.1) hb, below_more (hHeld.out.2.2.2) (Nat.le_refl _) hb⟩ (fun hNew => ?_)
  clear hK K hHeld hb
  have hHeld := Lib.hid hNew
  clear hNew
  try simp only [Act.put, List.setIfInBounds_toArray, List.set_cons_zero, List.set_cons_succ]
  refine wpAnyH_one 32 _ (by kernel_rfl) rfl (fun _ h => h) (fun K hK => ?_)
  go_simp
  refine (CC0.out _).mono ?_
  rintro _ v19 ⟨rfl, hb⟩
  refine hK.out _ _ ⟨blk_below (hHeld.out.1) hb, blk_below (hHeld.out.2.1) hb, blk_below (hHeld.out.2.2.1) hb, below_more (hHeld.out.2.2.2) (Nat.le_refl _) hb⟩ (fun hNew => ?_)
  clear hK K hHeld hb
  have hHeld := Lib.hid hNew
  clear hNew
  try simp only [Act.put, List.setIfInBounds_toArray, List.set_cons_zero, List.set_cons_succ]
  refine wpAnyH_takeL 33 (v := ?_) rfl (by kernel_rfl) (by kernel_rfl) (by kernel_rfl) (fun _ _ _ h => h) hHeld.out (yieldsIf_of rfl ?_) ?_
  rotate_left
  · (intro w hSw; go_simp <;> with_reducible rfl)
  try simp only [Act.put, List.setIfInBounds_toArray, List.set_cons_zero, List.set_cons_succ]
  refine wpAnyH_takeL 34 (v := ?_) rfl (by kernel_rfl) (by kernel_rfl) (by kernel_rfl) (fun _ _ _ h => h) hHeld.out (yieldsIf_of rfl ?_) ?_
  rotate_left
  · (intro w hSw; go_simp <;> with_reducible rfl)
  try simp only [Act.put, List.setIfInBounds_toArray, List.set_cons_zero, List.set_cons_succ]
  refine wpAnyH_takeL 35 (v := ?_) rfl (by kernel_rfl) (by kernel_rfl) (by kernel_rfl) (fun _ _ _ h => h) hHeld.out (yieldsIf_of rfl ?_) ?_
  rotate_left
  · (intro w hSw; go_simp <;> with_reducible rfl)
  try simp only [Act.put, List.setIfInBounds_toArray, List.set_cons_zero, List.set_cons_succ]
  refine wpAnyH_takeL 36 rfl (by kernel_rfl) (by kernel_rfl) (by kernel_rfl) (fun _ _ _ h => h) hHeld.out (yieldsIf_row rfl 25 (.tmp 3) rfl _ rfl _ RF _ _ (fun _ h => h.1) Try.underlying25 rfl hF.out.info) ?_
  try simp only [Act.put, List.setIfInBounds_toArray, List.set_cons_zero, List.set_cons_succ]
  refine wpAnyH_takeL 38 rfl (by kernel_rfl) (by kernel_rfl) (by kernel_rfl) (fun _ _ _ h => h) hHeld.out (yieldsIf_row rfl 25 (.tmp 3) rfl _ rfl _ RF _ _ (fun _ h => h.1) Try.underlying25 rfl hF.out.info) ?_
  try simp only [Act.put, List.setIfInBounds_toArray, List.set_cons_zero, List.set_cons_succ]
  refine wpAnyH_one 37 _ (by kernel_rfl) rfl (fun _ h => h) (fun K hK => ?_)
  go_simp
  refine (MF1.out _).mono ?_
  rintro _ v20 ⟨rfl, hb⟩
  refine hK.out _ _ ⟨blk_below (hHeld.out.1) hb, blk_below (hHeld.out.2.1) hb, blk_below (hHeld.out.2.2.1) hb, below_more (hHeld.out.2.2.2) (Nat.le_refl _) hb⟩ (fun hNew => ?_)
  clear hK K hHeld hb
  have hHeld := Lib.hid hNew
  clear hNew
  try simp only [Act.put, List.setIfInBounds_toArray, List.set_cons_zero, List.set_cons_succ]
  refine wpAnyH_takeL 39 (v := ?_) rfl (by kernel_rfl) (by kernel_rfl) (by kernel_rfl) (fun _ _ _ h => h) hHeld.out (yieldsIf_of rfl ?_) ?_
  rotate_left
  · (intro w hSw; go_simp <;> with_reducible rfl)
  try simp only [Act.put, List.setIfInBounds_toArray, List.set_cons_zero, List.set_cons_succ]
  refine wpAnyH_takeL 40 (v := ?_) rfl (by kernel_rfl) (by kernel_rfl) (by kernel_rfl) (fun _ _ _ h => h) hHeld.out (yieldsIf_of rfl ?_) ?_
  rotate_left
  · (intro w hSw; go_simp <;> with_reducible rfl)
  try simp only [Act.put, List.setIfInBounds_toArray, List.set_cons_zero, List.set_cons_succ]
  refine wpAnyH_takeL 41 (v := ?_) rfl (by kernel_rfl) (by kernel_rfl) (by kernel_rfl) (fun _ _ _ h => h) hHeld.out (yieldsIf_of rfl ?_) ?_
  rotate_left
  · (intro w hSw; go_simp <;> with_reducible rfl)
  try simp only [Act.put, List.setIfInBounds_toArray, List.set_cons_zero, List.set_cons_succ]
  refine wpAnyH_takeL 42 rfl (by kernel_rfl) (by kernel_rfl) (by kernel_rfl) (fun _ _ _ h => h) hHeld.out (yieldsIf_row rfl 25 (.tmp 3) rfl _ rfl _ RF _ _ (fun _ h => h.1) Try.underlying25 rfl hF.out.info) ?_
  try simp only [Act.put, List.setIfInBounds_toArray, List.set_cons_zero, List.set_cons_succ]
  refine wpAnyH_takeL 43 rfl (by kernel_rfl) (by kernel_rfl) (by kernel_rfl) (fun _ _ _ h => h) hHeld.out (yieldsIf_row rfl 25 (.tmp 4) rfl _ rfl _ RG _ _ (fun _ h => h.2.1) Try.underlying25 rfl hG.out.info) ?_
  try simp only [Act.put, List.setIfInBounds_toArray, List.set_cons_zero, List.set_cons_succ]
  refine wpAnyH_takeL 46 rfl (by kernel_rfl) (by kernel_rfl) (by kernel_rfl) (fun _ _ _ h => h) hHeld.out (yieldsIf_row rfl 25 (.tmp 3) rfl _ rfl _ RF _ _ (fun _ h => h.1) Try.underlying25 rfl hF.out.info) ?_
  try simp only [Act.put, List.setIfInBounds_toArray, List.set_cons_zero, List.set_cons_succ]
  refine wpAnyH_takeL 48 rfl (by kernel_rfl) (by kernel_rfl) (by kernel_rfl) (fun _ _ _ h => h) hHeld.out (yieldsIf_row rfl 25 (.tmp 4) rfl _ rfl _ RG _ _ (fun _ h => h.2.1) Try.underlying25 rfl hG.out.info) ?_
  try simp only [Act.put, List.setIfInBounds_toArray, List.set_cons_zero, List.set_cons_succ]
  refine wpAnyH_one 44 _ (by kernel_rfl) rfl (fun _ h => h) (fun K hK => ?_)
  go_simp
  refine (AFG.out _).mono ?_
  rintro _ v21 ⟨rfl, hb⟩
  refine hK.out _ _ ⟨blk_below (hHeld.out.1) hb, blk_below (hHeld.out.2.1) hb, blk_below (hHeld.out.2.2.1) hb, below_more (hHeld.out.2.2.2) (Nat.le_refl _) hb⟩ (fun hNew => ?_)
  clear hK K hHeld hb
  have hHeld := Lib.hid hNew
  clear hNew
  try simp only [Act.put, List.setIfInBounds_toArray, List.set_cons_zero, List.set_cons_succ]
  refine wpAnyH_one 45 _ (by kernel_rfl) rfl (fun _ h => h) (fun K hK => ?_)
  go_simp
  refine (MS3.out _).mono ?_
  rintro _ v22 ⟨rfl, hb⟩
  refine hK.out _ _ ⟨blk_below (hHeld.out.1) hb, blk_below (hHeld.out.2.1) hb, blk_below (hHeld.out.2.2.1) hb, below_more (hHeld.out.2.2.2) (Nat.le_refl _) hb⟩ (fun hNew => ?_)
  clear hK K hHeld hb
  have hHeld := Lib.hid hNew
  clear hNew
  try simp only [Act.put, List.setIfInBounds_toArray, List.set_cons_zero, List.set_cons_succ]
  refine wpAnyH_one 47 _ (by kernel_rfl) rfl (fun _ h => h) (fun K hK => ?_)
  go_simp
  refine (MF3.out _).mono ?_
  rintro _ v23 ⟨rfl, hb⟩
  refine hK.out _ _ ⟨blk_below (hHeld.out.1) hb, blk_below (hHeld.out.2.1) hb, blk_below (hHeld.out.2.2.1) hb, below_more (hHeld.out.2.2.2) (Nat.le_refl _) hb⟩ (fun hNew => ?_)
  clear hK K hHeld hb
  have hHeld := Lib.hid hNew
  clear hNew
  try simp only [Act.put, List.setIfInBounds_toArray, List.set_cons_zero, List.set_cons_succ]
  refine wpAnyH_one 49 _ (by kernel_rfl) rfl (fun _ h => h) (fun K hK => ?_)
  go_simp
  refine (MG3.out _).mono ?_
  rintro _ v24 ⟨rfl, hb⟩
  refine hK.out _ _ ⟨blk_below (hHeld.out.1) hb, blk_below (hHeld.out.2.1) hb, blk_below (hHeld.out.2.2.1) hb, below_more (hHeld.out.2.2.2) (Nat.le_refl _) hb⟩ (fun hNew => ?_)
  clear hK K hHeld hb
  have hHeld := Lib.hid hNew
  clear hNew
  try simp only [Act.put, List.setIfInBounds_toArray, List.set_cons_zero, List.set_cons_succ]
  refine wpAnyH_one 50 _ (by kernel_rfl) rfl (fun _ h => h) (fun K hK => ?_)
  go_simp
  refine (AYV.out _).mono ?_
  rintro _ v25 ⟨rfl, hb⟩
  refine hK.out _ _ ⟨blk_below (hHeld.out.1) hb, blk_below (hHeld.out.2.1) hb, blk_below (hHeld.out.2.2.1) hb, below_more (hHeld.out.2.2.2) (Nat.le_refl _) hb⟩ (fun hNew => ?_)
  clear hK K hHeld hb
  have hHeld := Lib.hid hNew
  clear hNew
  try simp only [Act.put, List.setIfInBounds_toArray, List.set_cons_zero, List.set_cons_succ]
  refine wpAnyH_takeL 51 (v := ?_) rfl (by kernel_rfl) (by kernel_rfl) (by kernel_rfl) (fun _ _ _ h => h) hHeld.out (yieldsIf_of rfl ?_) ?_
  rotate_left
  · (intro w hSw; go_simp <;> with_reducible rfl)
  try simp only [Act.put, List.setIfInBounds_toArray, List.set_cons_zero, List.set_cons_succ]
  refine wpAnyH_takeL 52 (v := ?_) rfl (by kernel_rfl) (by kernel_rfl) (by kernel_rfl) (fun _ _ _ h => h) hHeld.out (yieldsIf_of rfl ?_) ?_
  rotate_left
  · (intro w hSw; go_simp <;> with_reducible rfl)
  try simp only [Act.put, List.setIfInBounds_toArray, List.set_cons_zero, List.set_cons_succ]
  refine wpAnyH_takeL 53 (v := ?_) rfl (by kernel_rfl) (by kernel_rfl) (by kernel_rfl) (fun _ _ _ h => h) hHeld.out (yieldsIf_of rfl ?_) ?_
  rotate_left
  · (intro w hSw; go_simp <;> with_reducible rfl)
  try simp only [Act.put, List.setIfInBounds_toArray, List.set_cons_zero, List.set_cons_succ]
  refine wpAnyH_one 54 _ (by kernel_rfl) rfl (fun _ h => h) (fun K hK => ?_)
  go_simp
  refine (KN.out _).mono ?_
  rintro _ v26 ⟨rfl, hb⟩
  refine hK.out _ _ ⟨blk_below (hHeld.out.1) hb, blk_below (hHeld.out.2.1) hb, blk_below (hHeld.out.2.2.1) hb, below_more (hHeld.out.2.2.2) (Nat.le_refl _) hb⟩ (fun hNew => ?_)
  clear hK K hHeld hb
  have hHeld := Lib.hid hNew
  clear hNew
  try simp only [Act.put, List.setIfInBounds_toArray, List.set_cons_zero, List.set_cons_succ]
  refine wpAnyH_takeL 55 (v := ?_) rfl (by kernel_rfl) (by kernel_rfl) (by kernel_rfl) (fun _ _ _ h => h) hHeld.out (yieldsIf_of rfl ?_) ?_
  rotate_left
  · (intro w hSw; go_simp <;> with_reducible rfl)
  try simp only [Act.put, List.setIfInBounds_toArray, List.set_cons_zero, List.set_cons_succ]
  refine wpAnyH_takeL 56 (v := ?_) rfl (by kernel_rfl) (by kernel_rfl) (by kernel_rfl) (fun _ _ _ h => h) hHeld.out (yieldsIf_of rfl ?_) ?_
  rotate_left
  · (intro w hSw; go_simp <;> with_reducible rfl)
  try simp only [Act.put, List.setIfInBounds_toArray, List.set_cons_zero, List.set_cons_succ]
  refine wpAnyH_done (by kernel_rfl) ?_ _
  have hfin := Lib.hid hHeld.out.2.2.2
  clear hHeld
  go_wp2_with fail
  go_ret
  exact ⟨rfl, hfin.out⟩
end Go.Proofs.Ytocofkkkblelgaa.H
