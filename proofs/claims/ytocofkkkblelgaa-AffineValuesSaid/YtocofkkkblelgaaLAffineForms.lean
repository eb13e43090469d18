/-
AffineForms: the walks.
-/
import Derived.Test.YtocofkkkblelgaaProg
import Derived.WalkKit
import Derived.WalkSpells
import Derived.WalkLawsBesides
import Derived.Handy
import Derived.Lib.Hide
import Derived.Test.YtocofkkkblelgaaHRForms
import Derived.Test.YtocofkkkblelgaaWWords
set_option linter.unusedVariables false
set_option linter.unusedSimpArgs false
namespace Go.Proofs.Ytocofkkkblelgaa.H
open Go.RowKit Go.Proofs.YtocofkkkblelgaaW.PrintWords

set_option maxHeartbeats 8000000 in
theorem AffineForms_bad (RF RG RV RS RD RM RK : Array Value) (f0 g0 s0 d0 m0 k : Int) (fs gs ls ld lm : List Int) (hF : FRow RF) (hG : FRow RG) (hV : FRow RV)
    (ASF : GRF 11 #[.agg RF] f0 fs) (ASG : GRF 11 #[.agg RG] g0 gs) (ASS : GRF 11 #[.agg RS] s0 ls) (ASD : GRF 11 #[.agg RD] d0 ld) (ASM : GRF 11 #[.agg RM] m0 lm) (ASK : GRF 11 #[.agg RK] k z34)
    (ADD : Gives Try.prog 13 #[.agg RF, .agg RG] (.agg RS)) (SUB : Gives Try.prog 15 #[.agg RF, .agg RG] (.agg RD)) (MUL : Gives Try.prog 16 #[.agg RF, .int .u32 k] (.agg RM)) (CON : Gives Try.prog 17 #[.int .u32 k] (.agg RK))
    (SM1 : GRF2 14 f0 1 g0 1 fs gs s0 ls) (SM2 : GRF2 14 f0 1 g0 4294967295 fs gs d0 ld) (SM3 : GRF2 14 f0 k g0 0 fs gs m0 lm) (NEW : GRF 18 #[.int .u32 k] k z34)
    (SA1 : GSame s0 s0 ls ls true) (SA2 : GSame d0 d0 ld ld true) (SA3 : GSame m0 m0 lm lm true) (SA4 : GSame k k z34 z34 true) (KN : Gives Try.prog 19 #[] (.bool true))
    (i : Int) (hi : i < 0 ∨ 33 < i) (VAR : Gives Try.prog 9 #[.int .i64 i] (.tuple #[.agg RV, .int .i64 1])) (EQZ : ∀ w, (Op.equalIn 10000 25 (.agg RV) (.agg #[Value.int .u32 0, Value.int .u32 0, Value.int .u32 0, Value.int .u32 0, Value.int .u32 0, Value.int .u32 0, Value.int .u32 0, Value.int .u32 0, Value.int .u32 0, Value.int .u32 0, Value.int .u32 0, Value.int .u32 0, Value.int .u32 0, Value.int .u32 0, Value.int .u32 0, Value.int .u32 0, Value.int .u32 0, Value.int .u32 0, Value.int .u32 0, Value.int .u32 0, Value.int .u32 0, Value.int .u32 0, Value.int .u32 0, Value.int .u32 0, Value.int .u32 0, Value.int .u32 0, Value.int .u32 0, Value.int .u32 0, Value.int .u32 0, Value.int .u32 0, Value.int .u32 0, Value.int .u32 0, Value.int .u32 0, Value.int .u32 0, Value.int .u32 0])).run Try.prog w = .ok true w) (w : World) :
    Calls Try.prog 3 #[.agg RF, .agg RG, .int .u32 k, .int .i64 i] w fun e w' => e = .returned (.bool true) ∧ Below w.heap.size w w' := by
  replace hF := Lib.hid hF
  replace hG := Lib.hid hG
  replace hV := Lib.hid hV
  replace ASF := Lib.hid ASF
  replace ASG := Lib.hid ASG
  replace ASS := Lib.hid ASS
  replace ASD := Lib.hid ASD
  replace ASM := Lib.hid ASM
  replace ASK := Lib.hid ASK
  replace ADD := Lib.hid ADD
  replace SUB := Lib.hid SUB
  replace MUL := Lib.hid MUL
  replace CON := Lib.hid CON
  replace SM1 := Lib.hid SM1
  replace SM2 := Lib.hid SM2
  replace SM3 := Lib.hid SM3
  replace NEW := Lib.hid NEW
  replace SA1 := Lib.hid SA1
  replace SA2 := Lib.hid SA2
  replace SA3 := Lib.hid SA3
  replace SA4 := Lib.hid SA4
  replace KN := Lib.hid KN
  replace VAR := Lib.hid VAR
  obtain ⟨q1, q2, q3, q4⟩ := alloc2d w (Obj.cells RF 25) (Obj.cells RG 25)
  replace q1 := Lib.hid q1
  replace q2 := Lib.hid q2
  replace q4 := Lib.hid q4
  clear q3
  by_cases h0 : i < 0
  · clear hi
    go_enter Try.func3, Try.ntmps3
    go_wp2_with fail
    refine (VAR.out _).mono ?_
    rintro e w1 ⟨rfl, hb⟩
    have p1 := Lib.hid (blk_below q1.out hb)
    have p2 := Lib.hid (blk_below q2.out hb)
    have p4 := Lib.hid (below_more q4.out (Nat.le_refl _) hb)
    clear hb q1 q2 q4
    obtain ⟨W2, hW2, r, b⟩ := letvar w1 #[Value.int .u32 0, Value.int .u32 0, Value.int .u32 0, Value.int .u32 0, Value.int .u32 0, Value.int .u32 0, Value.int .u32 0, Value.int .u32 0, Value.int .u32 0, Value.int .u32 0, Value.int .u32 0, Value.int .u32 0, Value.int .u32 0, Value.int .u32 0, Value.int .u32 0, Value.int .u32 0, Value.int .u32 0, Value.int .u32 0, Value.int .u32 0, Value.int .u32 0, Value.int .u32 0, Value.int .u32 0, Value.int .u32 0, Value.int .u32 0, Value.int .u32 0, Value.int .u32 0, Value.int .u32 0, Value.int .u32 0, Value.int .u32 0, Value.int .u32 0, Value.int .u32 0, Value.int .u32 0, Value.int .u32 0, Value.int .u32 0, Value.int .u32 0] RV 25
    have HW := Lib.hid hW2
    have r3 := Lib.hid r
    have r1 := Lib.hid (blk_below p1.out b)
    have r2 := Lib.hid (blk_below p2.out b)
    have r4 := Lib.hid (below_more p4.out (Nat.le_refl _) b)
    clear hW2 r b p1 p2 p4
    go_wp2_with (first | (refine wpList_store_row rfl 25 (.tmp 9) (.tmp 17) rfl rfl w1.heap.size rfl RV rfl _ _ (heap_alloc_new _ _) hV.out.size.symm hV.out.info hV.out.one ?_; rw [HW.out]) | (refine wpList_load_row_g rfl 25 (.tmp 9) rfl _ rfl _ _ _ _ r3.out Try.underlying25 rfl hV.out.info ?_))
    have hNewE : (Below w.heap.size w W2.drew) := r4.out.drew
    have hEx := Lib.hid hNewE
    clear hNewE
    refine Go.Proofs.YtocofkkkblelgaaW.PrintLast.wp_region_last_drew (S := fun w' => (w'.heap[w.heap.size]? = some (.cells RF 25 (0, 0))) ∧ (w'.heap[(w.heap.size + 1)]? = some (.cells RG 25 (0, 0)))) (ds := []) (by kernel_rfl) ⟨r1.out, r2.out⟩ (fun hNewS => ?_)
    have hHeld := Lib.hid hNewS
    clear hNewS
    refine lastTake 0 rfl (by kernel_rfl) (by kernel_rfl) (by kernel_rfl) (by kernel_rfl) (by kernel_rfl) (fun _ _ _ h => h) hHeld.out (yieldsIf_row rfl 25 (.tmp 4) rfl _ rfl _ RF _ _ (fun _ h => h.1) Try.underlying25 rfl hF.out.info) ?_
    try simp only [Act.put, List.setIfInBounds_toArray, List.set_cons_zero, List.set_cons_succ]
    refine lastTake 1 rfl (by kernel_rfl) (by kernel_rfl) (by kernel_rfl) (by kernel_rfl) (by kernel_rfl) (fun _ _ _ h => h) hHeld.out (yieldsIf_row rfl 25 (.tmp 5) rfl _ rfl _ RG _ _ (fun _ h => h.2) Try.underlying25 rfl hG.out.info) ?_
    try simp only [Act.put, List.setIfInBounds_toArray, List.set_cons_zero, List.set_cons_succ]
    refine lastTake 4 rfl (by kernel_rfl) (by kernel_rfl) (by kernel_rfl) (by kernel_rfl) (by kernel_rfl) (fun _ _ _ h => h) hHeld.out (yieldsIf_row rfl 25 (.tmp 4) rfl _ rfl _ RF _ _ (fun _ h => h.1) Try.underlying25 rfl hF.out.info) ?_
    try simp only [Act.put, List.setIfInBounds_toArray, List.set_cons_zero, List.set_cons_succ]
    refine lastTake 6 rfl (by kernel_rfl) (by kernel_rfl) (by kernel_rfl) (by kernel_rfl) (by kernel_rfl) (fun _ _ _ h => h) hHeld.out (yieldsIf_row rfl 25 (.tmp 5) rfl _ rfl _ RG _ _ (fun _ h => h.2) Try.underlying25 rfl hG.out.info) ?_
    try simp only [Act.put, List.setIfInBounds_toArray, List.set_cons_zero, List.set_cons_succ]
    refine lastOne 2 (by kernel_rfl) rfl (by decide) (fun K hK => ?_)
    go_simp
    refine (ADD.out _).mono ?_
    rintro _ v1 ⟨rfl, hb⟩
    have hNewE : (Below w.heap.size w v1) := below_more (hEx.out) (Nat.le_refl _) hb
    refine hK.out _ _ ⟨blk_below (hHeld.out.1) hb, blk_below (hHeld.out.2) hb⟩ (fun hNewS => ?_)
    clear hK K
    clear hHeld hEx
    have hHeld := Lib.hid hNewS
    have hEx := Lib.hid hNewE
    clear hNewS hNewE
    clear hb
    try simp only [Act.put, List.setIfInBounds_toArray, List.set_cons_zero, List.set_cons_succ]
    refine lastOne 3 (by kernel_rfl) rfl (by decide) (fun K hK => ?_)
    go_simp
    refine (ASS.out _).mono ?_
    rintro _ v2 ⟨adp7, np7, rfl, hnp7, hrd, hb⟩
    have hNewE : (ReadsInt v2 .u32 (some adp7) 34 ls) ∧ (Below w.heap.size w v2) := ⟨hrd, below_more (hEx.out) (Nat.le_refl _) hb⟩
    refine hK.out _ _ ⟨blk_below (hHeld.out.1) hb, blk_below (hHeld.out.2) hb⟩ (fun hNewS => ?_)
    clear hK K
    clear hHeld hEx
    have hHeld := Lib.hid hNewS
    have hEx := Lib.hid hNewE
    clear hNewS hNewE
    clear hb hrd
    try simp only [Act.put, List.setIfInBounds_toArray, List.set_cons_zero, List.set_cons_succ]
    refine lastOne 5 (by kernel_rfl) rfl (by decide) (fun K hK => ?_)
    go_simp
    refine (ASF.out _).mono ?_
    rintro _ v3 ⟨adq7, nq7, rfl, hnq7, hrd, hb⟩
    have hNewE : (ReadsInt v3 .u32 (some adq7) 34 fs) ∧ (ReadsInt v3 .u32 (some adp7) 34 ls) ∧ (Below w.heap.size w v3) := ⟨hrd, ReadsInt.below (hEx.out.1) hb, below_more (hEx.out.2) (Nat.le_refl _) hb⟩
    refine hK.out _ _ ⟨blk_below (hHeld.out.1) hb, blk_below (hHeld.out.2) hb⟩ (fun hNewS => ?_)
    clear hK K
    clear hHeld hEx
    have hHeld := Lib.hid hNewS
    have hEx := Lib.hid hNewE
    clear hNewS hNewE
    clear hb hrd
    try simp only [Act.put, List.setIfInBounds_toArray, List.set_cons_zero, List.set_cons_succ]
    refine lastOne 7 (by kernel_rfl) rfl (by decide) (fun K hK => ?_)
    go_simp
    refine (ASG.out _).mono ?_
    rintro _ v4 ⟨adr7, nr7, rfl, hnr7, hrd, hb⟩
    have hNewE : (ReadsInt v4 .u32 (some adr7) 34 gs) ∧ (ReadsInt v4 .u32 (some adq7) 34 fs) ∧ (ReadsInt v4 .u32 (some adp7) 34 ls) ∧ (Below w.heap.size w v4) := ⟨hrd, ReadsInt.below (hEx.out.1) hb, ReadsInt.below (hEx.out.2.1) hb, below_more (hEx.out.2.2) (Nat.le_refl _) hb⟩
    refine hK.out _ _ ⟨blk_below (hHeld.out.1) hb, blk_below (hHeld.out.2) hb⟩ (fun hNewS => ?_)
    clear hK K
    clear hHeld hEx
    have hHeld := Lib.hid hNewS
    have hEx := Lib.hid hNewE
    clear hNewS hNewE
    clear hb hrd
    try simp only [Act.put, List.setIfInBounds_toArray, List.set_cons_zero, List.set_cons_succ]
    refine lastOne 8 (by kernel_rfl) rfl (by decide) (fun K hK => ?_)
    go_simp
    refine (SM1.out _ _ _ _ _ hEx.out.2.1 hEx.out.1).mono ?_
    rintro _ v5 ⟨adt7, nt7, rfl, hnt7, hrd, hb⟩
    have hNewE : (ReadsInt v5 .u32 (some adt7) 34 ls) ∧ (ReadsInt v5 .u32 (some adr7) 34 gs) ∧ (ReadsInt v5 .u32 (some adq7) 34 fs) ∧ (ReadsInt v5 .u32 (some adp7) 34 ls) ∧ (Below w.heap.size w v5) := ⟨hrd, ReadsInt.below (hEx.out.1) hb, ReadsInt.below (hEx.out.2.1) hb, ReadsInt.below (hEx.out.2.2.1) hb, below_more (hEx.out.2.2.2) (Nat.le_refl _) hb⟩
    refine hK.out _ _ ⟨blk_below (hHeld.out.1) hb, blk_below (hHeld.out.2) hb⟩ (fun hNewS => ?_)
    clear hK K
    clear hHeld hEx
    have hHeld := Lib.hid hNewS
    have hEx := Lib.hid hNewE
    clear hNewS hNewE
    clear hb hrd
    try simp only [Act.put, List.setIfInBounds_toArray, List.set_cons_zero, List.set_cons_succ]
    refine lastOne 9 (by kernel_rfl) rfl (by decide) (fun K hK => ?_)
    go_simp
    refine (SA1.out _ _ _ _ _ hnp7 hnt7 hEx.out.2.2.2.1 hEx.out.1).mono ?_
    rintro _ v6 ⟨rfl, hb⟩
    have hNewE : (ReadsInt v6 .u32 (some adt7) 34 ls) ∧ (ReadsInt v6 .u32 (some adr7) 34 gs) ∧ (ReadsInt v6 .u32 (some adq7) 34 fs) ∧ (ReadsInt v6 .u32 (some adp7) 34 ls) ∧ (Below w.heap.size w v6) := ⟨ReadsInt.below (hEx.out.1) hb, ReadsInt.below (hEx.out.2.1) hb, ReadsInt.below (hEx.out.2.2.1) hb, ReadsInt.below (hEx.out.2.2.2.1) hb, below_more (hEx.out.2.2.2.2) (Nat.le_refl _) hb⟩
    refine hK.out _ _ ⟨blk_below (hHeld.out.1) hb, blk_below (hHeld.out.2) hb⟩ (fun hNewS => ?_)
    clear hK K
    clear hHeld hEx
    have hHeld := Lib.hid hNewS
    have hEx := Lib.hid hNewE
    clear hNewS hNewE
    clear hb
    try simp only [Act.put, List.setIfInBounds_toArray, List.set_cons_zero, List.set_cons_succ]
    refine lastTake 10 (v := ?_) rfl (by kernel_rfl) (by kernel_rfl) (by kernel_rfl) (by kernel_rfl) (by kernel_rfl) (fun _ _ _ h => h) hHeld.out (yieldsIf_of rfl ?_) ?_
    rotate_left
    · (intro w hSw; go_simp <;> with_reducible rfl)
    try simp only [Act.put, List.setIfInBounds_toArray, List.set_cons_zero, List.set_cons_succ]
    refine Go.Proofs.YtocofkkkblelgaaW.PrintLast.wpAnyLast_done (by kernel_rfl) ?_ _
    have hNewE : (Below w.heap.size w v6) := hEx.out.2.2.2.2
    have hNewS : (v6.heap[w.heap.size]? = some (.cells RF 25 (0, 0))) ∧ (v6.heap[(w.heap.size + 1)]? = some (.cells RG 25 (0, 0))) := hHeld.out
    clear hEx hHeld
    have HE := Lib.hid hNewE
    have HS := Lib.hid hNewS
    clear hNewE hNewS
    go_wp2_with fail
    have hNewE : (Below w.heap.size w v6.drew) := HE.out.drew
    have hEx := Lib.hid hNewE
    clear hNewE
    refine Go.Proofs.YtocofkkkblelgaaW.PrintLast.wp_region_last_drew (S := fun w' => (w'.heap[w.heap.size]? = some (.cells RF 25 (0, 0))) ∧ (w'.heap[(w.heap.size + 1)]? = some (.cells RG 25 (0, 0)))) (ds := []) (by kernel_rfl) HS.out (fun hNewS => ?_)
    have hHeld := Lib.hid hNewS
    clear hNewS
    refine lastTake 0 rfl (by kernel_rfl) (by kernel_rfl) (by kernel_rfl) (by kernel_rfl) (by kernel_rfl) (fun _ _ _ h => h) hHeld.out (yieldsIf_row rfl 25 (.tmp 4) rfl _ rfl _ RF _ _ (fun _ h => h.1) Try.underlying25 rfl hF.out.info) ?_
    try simp only [Act.put, List.setIfInBounds_toArray, List.set_cons_zero, List.set_cons_succ]
    refine lastTake 1 rfl (by kernel_rfl) (by kernel_rfl) (by kernel_rfl) (by kernel_rfl) (by kernel_rfl) (fun _ _ _ h => h) hHeld.out (yieldsIf_row rfl 25 (.tmp 5) rfl _ rfl _ RG _ _ (fun _ h => h.2) Try.underlying25 rfl hG.out.info) ?_
    try simp only [Act.put, List.setIfInBounds_toArray, List.set_cons_zero, List.set_cons_succ]
    refine lastTake 4 rfl (by kernel_rfl) (by kernel_rfl) (by kernel_rfl) (by kernel_rfl) (by kernel_rfl) (fun _ _ _ h => h) hHeld.out (yieldsIf_row rfl 25 (.tmp 4) rfl _ rfl _ RF _ _ (fun _ h => h.1) Try.underlying25 rfl hF.out.info) ?_
    try simp only [Act.put, List.setIfInBounds_toArray, List.set_cons_zero, List.set_cons_succ]
    refine lastTake 6 rfl (by kernel_rfl) (by kernel_rfl) (by kernel_rfl) (by kernel_rfl) (by kernel_rfl) (fun _ _ _ h => h) hHeld.out (yieldsIf_row rfl 25 (.tmp 5) rfl _ rfl _ RG _ _ (fun _ h => h.2) Try.underlying25 rfl hG.out.info) ?_
    try simp only [Act.put, List.setIfInBounds_toArray, List.set_cons_zero, List.set_cons_succ]
    refine lastOne 2 (by kernel_rfl) rfl (by decide) (fun K hK => ?_)
    go_simp
    refine (SUB.out _).mono ?_
    rintro _ v7 ⟨rfl, hb⟩
    have hNewE : (Below w.heap.size w v7) := below_more (hEx.out) (Nat.le_refl _) hb
    refine hK.out _ _ ⟨blk_below (hHeld.out.1) hb, blk_below (hHeld.out.2) hb⟩ (fun hNewS => ?_)
    clear hK K
    clear hHeld hEx
    have hHeld := Lib.hid hNewS
    have hEx := Lib.hid hNewE
    clear hNewS hNewE
    clear hb
    try simp only [Act.put, List.setIfInBounds_toArray, List.set_cons_zero, List.set_cons_succ]
    refine lastOne 3 (by kernel_rfl) rfl (by decide) (fun K hK => ?_)
    go_simp
    refine (ASD.out _).mono ?_
    rintro _ v8 ⟨adp8, np8, rfl, hnp8, hrd, hb⟩
    have hNewE : (ReadsInt v8 .u32 (some adp8) 34 ld) ∧ (Below w.heap.size w v8) := ⟨hrd, below_more (hEx.out) (Nat.le_refl _) hb⟩
    refine hK.out _ _ ⟨blk_below (hHeld.out.1) hb, blk_below (hHeld.out.2) hb⟩ (fun hNewS => ?_)
    clear hK K
    clear hHeld hEx
    have hHeld := Lib.hid hNewS
    have hEx := Lib.hid hNewE
    clear hNewS hNewE
    clear hb hrd
    try simp only [Act.put, List.setIfInBounds_toArray, List.set_cons_zero, List.set_cons_succ]
    refine lastOne 5 (by kernel_rfl) rfl (by decide) (fun K hK => ?_)
    go_simp
    refine (ASF.out _).mono ?_
    rintro _ v9 ⟨adq8, nq8, rfl, hnq8, hrd, hb⟩
    have hNewE : (ReadsInt v9 .u32 (some adq8) 34 fs) ∧ (ReadsInt v9 .u32 (some adp8) 34 ld) ∧ (Below w.heap.size w v9) := ⟨hrd, ReadsInt.below (hEx.out.1) hb, below_more (hEx.out.2) (Nat.le_refl _) hb⟩
    refine hK.out _ _ ⟨blk_below (hHeld.out.1) hb, blk_below (hHeld.out.2) hb⟩ (fun hNewS => ?_)
    clear hK K
    clear hHeld hEx
    have hHeld := Lib.hid hNewS
    have hEx := Lib.hid hNewE
    clear hNewS hNewE
    clear hb hrd
    try simp only [Act.put, List.setIfInBounds_toArray, List.set_cons_zero, List.set_cons_succ]
    refine lastOne 7 (by kernel_rfl) rfl (by decide) (fun K hK => ?_)
    go_simp
    refine (ASG.out _).mono ?_
    rintro _ v10 ⟨adr8, nr8, rfl, hnr8, hrd, hb⟩
    have hNewE : (ReadsInt v10 .u32 (some adr8) 34 gs) ∧ (ReadsInt v10 .u32 (some adq8) 34 fs) ∧ (ReadsInt v10 .u32 (some adp8) 34 ld) ∧ (Below w.heap.size w v10) := ⟨hrd, ReadsInt.below (hEx.out.1) hb, ReadsInt.below (hEx.out.2.1) hb, below_more (hEx.out.2.2) (Nat.le_refl _) hb⟩
    refine hK.out _ _ ⟨blk_below (hHeld.out.1) hb, blk_below (hHeld.out.2) hb⟩ (fun hNewS => ?_)
    clear hK K
    clear hHeld hEx
    have hHeld := Lib.hid hNewS
    have hEx := Lib.hid hNewE
    clear hNewS hNewE
    clear hb hrd
    try simp only [Act.put, List.setIfInBounds_toArray, List.set_cons_zero, List.set_cons_succ]
    refine lastOne 8 (by kernel_rfl) rfl (by decide) (fun K hK => ?_)
    go_simp
    refine (SM2.out _ _ _ _ _ hEx.out.2.1 hEx.out.1).mono ?_
    rintro _ v11 ⟨adt8, nt8, rfl, hnt8, hrd, hb⟩
    have hNewE : (ReadsInt v11 .u32 (some adt8) 34 ld) ∧ (ReadsInt v11 .u32 (some adr8) 34 gs) ∧ (ReadsInt v11 .u32 (some adq8) 34 fs) ∧ (ReadsInt v11 .u32 (some adp8) 34 ld) ∧ (Below w.heap.size w v11) := ⟨hrd, ReadsInt.below (hEx.out.1) hb, ReadsInt.below (hEx.out.2.1) hb, ReadsInt.below (hEx.out.2.2.1) hb, below_more (hEx.out.2.2.2) (Nat.le_refl _) hb⟩
    refine hK.out _ _ ⟨blk_below (hHeld.out.1) hb, blk_below (hHeld.out.2) hb⟩ (fun hNewS => ?_)
    clear hK K
    clear hHeld hEx
    have hHeld := Lib.hid hNewS
    have hEx := Lib.hid hNewE
    clear hNewS hNewE
    clear hb hrd
    try simp only [Act.put, List.setIfInBounds_toArray, List.set_cons_zero, List.set_cons_succ]
    refine lastOne 9 (by kernel_rfl) rfl (by decide) (fun K hK => ?_)
    go_simp
    refine (SA2.out _ _ _ _ _ hnp8 hnt8 hEx.out.2.2.2.1 hEx.out.1).mono ?_
    rintro _ v12 ⟨rfl, hb⟩
    have hNewE : (ReadsInt v12 .u32 (some adt8) 34 ld) ∧ (ReadsInt v12 .u32 (some adr8) 34 gs) ∧ (ReadsInt v12 .u32 (some adq8) 34 fs) ∧ (ReadsInt v12 .u32 (some adp8) 34 ld) ∧ (Below w.heap.size w v12) := ⟨ReadsInt.below (hEx.out.1) hb, ReadsInt.below (hEx.out.2.1) hb, ReadsInt.below (hEx.out.2.2.1) hb, ReadsInt.below (hEx.out.2.2.2.1) hb, below_more (hEx.out.2.2.2.2) (Nat.le_refl _) hb⟩
    refine hK.out _ _ ⟨blk_below (hHeld.out.1) hb, blk_below (hHeld.out.2) hb⟩ (fun hNewS => ?_)
    clear hK K
    clear hHeld hEx
    have hHeld := Lib.hid hNewS
    have hEx := Lib.hid hNewE
    clear hNewS hNewE
    clear hb
    try simp only [Act.put, List.setIfInBounds_toArray, List.set_cons_zero, List.set_cons_succ]
    refine lastTake 10 (v := ?_) rfl (by kernel_rfl) (by kernel_rfl) (by kernel_rfl) (by kernel_rfl) (by kernel_rfl) (fun _ _ _ h => h) hHeld.out (yieldsIf_of rfl ?_) ?_
    rotate_left
    · (intro w hSw; go_simp <;> with_reducible rfl)
    try simp only [Act.put, List.setIfInBounds_toArray, List.set_cons_zero, List.set_cons_succ]
    refine Go.Proofs.YtocofkkkblelgaaW.PrintLast.wpAnyLast_done (by kernel_rfl) ?_ _
    have hNewE : (Below w.heap.size w v12) := hEx.out.2.2.2.2
    have hNewS : (v12.heap[w.heap.size]? = some (.cells RF 25 (0, 0))) ∧ (v12.heap[(w.heap.size + 1)]? = some (.cells RG 25 (0, 0))) := hHeld.out
    clear hEx hHeld
    have HE := Lib.hid hNewE
    have HS := Lib.hid hNewS
    clear hNewE hNewS
    go_wp2_with fail
    have hNewE : (Below w.heap.size w v12.drew) := HE.out.drew
    have hEx := Lib.hid hNewE
    clear hNewE
    refine Go.Proofs.YtocofkkkblelgaaW.PrintLast.wp_region_last_drew (S := fun w' => (w'.heap[w.heap.size]? = some (.cells RF 25 (0, 0))) ∧ (w'.heap[(w.heap.size + 1)]? = some (.cells RG 25 (0, 0)))) (ds := []) (by kernel_rfl) HS.out (fun hNewS => ?_)
    have hHeld := Lib.hid hNewS
    clear hNewS
    refine lastTake 0 rfl (by kernel_rfl) (by kernel_rfl) (by kernel_rfl) (by kernel_rfl) (by kernel_rfl) (fun _ _ _ h => h) hHeld.out (yieldsIf_row rfl 25 (.tmp 4) rfl _ rfl _ RF _ _ (fun _ h => h.1) Try.underlying25 rfl hF.out.info) ?_
    try simp only [Act.put, List.setIfInBounds_toArray, List.set_cons_zero, List.set_cons_succ]
    refine lastTake 1 (v := ?_) rfl (by kernel_rfl) (by kernel_rfl) (by kernel_rfl) (by kernel_rfl) (by kernel_rfl) (fun _ _ _ h => h) hHeld.out (yieldsIf_of rfl ?_) ?_
    rotate_left
    · (intro w hSw; go_simp <;> with_reducible rfl)
    try simp only [Act.put, List.setIfInBounds_toArray, List.set_cons_zero, List.set_cons_succ]
    refine lastTake 4 rfl (by kernel_rfl) (by kernel_rfl) (by kernel_rfl) (by kernel_rfl) (by kernel_rfl) (fun _ _ _ h => h) hHeld.out (yieldsIf_row rfl 25 (.tmp 4) rfl _ rfl _ RF _ _ (fun _ h => h.1) Try.underlying25 rfl hF.out.info) ?_
    try simp only [Act.put, List.setIfInBounds_toArray, List.set_cons_zero, List.set_cons_succ]
    refine lastTake 6 (v := ?_) rfl (by kernel_rfl) (by kernel_rfl) (by kernel_rfl) (by kernel_rfl) (by kernel_rfl) (fun _ _ _ h => h) hHeld.out (yieldsIf_of rfl ?_) ?_
    rotate_left
    · (intro w hSw; go_simp <;> with_reducible rfl)
    try simp only [Act.put, List.setIfInBounds_toArray, List.set_cons_zero, List.set_cons_succ]
    refine lastTake 7 rfl (by kernel_rfl) (by kernel_rfl) (by kernel_rfl) (by kernel_rfl) (by kernel_rfl) (fun _ _ _ h => h) hHeld.out (yieldsIf_row rfl 25 (.tmp 5) rfl _ rfl _ RG _ _ (fun _ h => h.2) Try.underlying25 rfl hG.out.info) ?_
    try simp only [Act.put, List.setIfInBounds_toArray, List.set_cons_zero, List.set_cons_succ]
    refine lastOne 2 (by kernel_rfl) rfl (by decide) (fun K hK => ?_)
    go_simp
    refine (MUL.out _).mono ?_
    rintro _ v13 ⟨rfl, hb⟩
    have hNewE : (Below w.heap.size w v13) := below_more (hEx.out) (Nat.le_refl _) hb
    refine hK.out _ _ ⟨blk_below (hHeld.out.1) hb, blk_below (hHeld.out.2) hb⟩ (fun hNewS => ?_)
    clear hK K
    clear hHeld hEx
    have hHeld := Lib.hid hNewS
    have hEx := Lib.hid hNewE
    clear hNewS hNewE
    clear hb
    try simp only [Act.put, List.setIfInBounds_toArray, List.set_cons_zero, List.set_cons_succ]
    refine lastOne 3 (by kernel_rfl) rfl (by decide) (fun K hK => ?_)
    go_simp
    refine (ASM.out _).mono ?_
    rintro _ v14 ⟨adp9, np9, rfl, hnp9, hrd, hb⟩
    have hNewE : (ReadsInt v14 .u32 (some adp9) 34 lm) ∧ (Below w.heap.size w v14) := ⟨hrd, below_more (hEx.out) (Nat.le_refl _) hb⟩
    refine hK.out _ _ ⟨blk_below (hHeld.out.1) hb, blk_below (hHeld.out.2) hb⟩ (fun hNewS => ?_)
    clear hK K
    clear hHeld hEx
    have hHeld := Lib.hid hNewS
    have hEx := Lib.hid hNewE
    clear hNewS hNewE
    clear hb hrd
    try simp only [Act.put, List.setIfInBounds_toArray, List.set_cons_zero, List.set_cons_succ]
    refine lastOne 5 (by kernel_rfl) rfl (by decide) (fun K hK => ?_)
    go_simp
    refine (ASF.out _).mono ?_
    rintro _ v15 ⟨adq9, nq9, rfl, hnq9, hrd, hb⟩
    have hNewE : (ReadsInt v15 .u32 (some adq9) 34 fs) ∧ (ReadsInt v15 .u32 (some adp9) 34 lm) ∧ (Below w.heap.size w v15) := ⟨hrd, ReadsInt.below (hEx.out.1) hb, below_more (hEx.out.2) (Nat.le_refl _) hb⟩
    refine hK.out _ _ ⟨blk_below (hHeld.out.1) hb, blk_below (hHeld.out.2) hb⟩ (fun hNewS => ?_)
    clear hK K
    clear hHeld hEx
    have hHeld := Lib.hid hNewS
    have hEx := Lib.hid hNewE
    clear hNewS hNewE
    clear hb hrd
    try simp only [Act.put, List.setIfInBounds_toArray, List.set_cons_zero, List.set_cons_succ]
    refine lastOne 8 (by kernel_rfl) rfl (by decide) (fun K hK => ?_)
    go_simp
    refine (ASG.out _).mono ?_
    rintro _ v16 ⟨adr9, nr9, rfl, hnr9, hrd, hb⟩
    have hNewE : (ReadsInt v16 .u32 (some adr9) 34 gs) ∧ (ReadsInt v16 .u32 (some adq9) 34 fs) ∧ (ReadsInt v16 .u32 (some adp9) 34 lm) ∧ (Below w.heap.size w v16) := ⟨hrd, ReadsInt.below (hEx.out.1) hb, ReadsInt.below (hEx.out.2.1) hb, below_more (hEx.out.2.2) (Nat.le_refl _) hb⟩
    refine hK.out _ _ ⟨blk_below (hHeld.out.1) hb, blk_below (hHeld.out.2) hb⟩ (fun hNewS => ?_)
    clear hK K
    clear hHeld hEx
    have hHeld := Lib.hid hNewS
    have hEx := Lib.hid hNewE
    clear hNewS hNewE
    clear hb hrd
    try simp only [Act.put, List.setIfInBounds_toArray, List.set_cons_zero, List.set_cons_succ]
    refine lastOne 9 (by kernel_rfl) rfl (by decide) (fun K hK => ?_)
    go_simp
    refine (SM3.out _ _ _ _ _ hEx.out.2.1 hEx.out.1).mono ?_
    rintro _ v17 ⟨adt9, nt9, rfl, hnt9, hrd, hb⟩
    have hNewE : (ReadsInt v17 .u32 (some adt9) 34 lm) ∧ (ReadsInt v17 .u32 (some adr9) 34 gs) ∧ (ReadsInt v17 .u32 (some adq9) 34 fs) ∧ (ReadsInt v17 .u32 (some adp9) 34 lm) ∧ (Below w.heap.size w v17) := ⟨hrd, ReadsInt.below (hEx.out.1) hb, ReadsInt.below (hEx.out.2.1) hb, ReadsInt.below (hEx.out.2.2.1) hb, below_more (hEx.out.2.2.2) (Nat.le_refl _) hb⟩
    refine hK.out _ _ ⟨blk_below (hHeld.out.1) hb, blk_below (hHeld.out.2) hb⟩ (fun hNewS => ?_)
    clear hK K
    clear hHeld hEx
    have hHeld := Lib.hid hNewS
    have hEx := Lib.hid hNewE
    clear hNewS hNewE
    clear hb hrd
    try simp only [Act.put, List.setIfInBounds_toArray, List.set_cons_zero, List.set_cons_succ]
    refine lastOne 10 (by kernel_rfl) rfl (by decide) (fun K hK => ?_)
    go_simp
    refine (SA3.out _ _ _ _ _ hnp9 hnt9 hEx.out.2.2.2.1 hEx.out.1).mono ?_
    rintro _ v18 ⟨rfl, hb⟩
    have hNewE : (ReadsInt v18 .u32 (some adt9) 34 lm) ∧ (ReadsInt v18 .u32 (some adr9) 34 gs) ∧ (ReadsInt v18 .u32 (some adq9) 34 fs) ∧ (ReadsInt v18 .u32 (some adp9) 34 lm) ∧ (Below w.heap.size w v18) := ⟨ReadsInt.below (hEx.out.1) hb, ReadsInt.below (hEx.out.2.1) hb, ReadsInt.below (hEx.out.2.2.1) hb, ReadsInt.below (hEx.out.2.2.2.1) hb, below_more (hEx.out.2.2.2.2) (Nat.le_refl _) hb⟩
    refine hK.out _ _ ⟨blk_below (hHeld.out.1) hb, blk_below (hHeld.out.2) hb⟩ (fun hNewS => ?_)
    clear hK K
    clear hHeld hEx
    have hHeld := Lib.hid hNewS
    have hEx := Lib.hid hNewE
    clear hNewS hNewE
    clear hb
    try simp only [Act.put, List.setIfInBounds_toArray, List.set_cons_zero, List.set_cons_succ]
    refine lastTake 11 (v := ?_) rfl (by kernel_rfl) (by kernel_rfl) (by kernel_rfl) (by kernel_rfl) (by kernel_rfl) (fun _ _ _ h => h) hHeld.out (yieldsIf_of rfl ?_) ?_
    rotate_left
    · (intro w hSw; go_simp <;> with_reducible rfl)
    try simp only [Act.put, List.setIfInBounds_toArray, List.set_cons_zero, List.set_cons_succ]
    refine Go.Proofs.YtocofkkkblelgaaW.PrintLast.wpAnyLast_done (by kernel_rfl) ?_ _
    have hNewE : (Below w.heap.size w v18) := hEx.out.2.2.2.2
    have hNewS : (v18.heap[w.heap.size]? = some (.cells RF 25 (0, 0))) ∧ (v18.heap[(w.heap.size + 1)]? = some (.cells RG 25 (0, 0))) := hHeld.out
    clear hEx hHeld
    have HE := Lib.hid hNewE
    have HS := Lib.hid hNewS
    clear hNewE hNewS
    go_wp2_with fail
    refine (CON.out _).mono ?_
    rintro _ x1 ⟨rfl, hb⟩
    have B1 := Lib.hid (below_more HE.out (Nat.le_refl _) hb)
    clear hb HE
    go_wp2_with fail
    refine (ASK.out _).mono ?_
    rintro _ x2 ⟨ada, na, rfl, hna, hra, hb⟩
    have B2 := Lib.hid (below_more B1.out (Nat.le_refl _) hb)
    have RA := Lib.hid hra
    clear hb hra B1
    go_wp2_with fail
    refine (NEW.out _).mono ?_
    rintro _ x3 ⟨adb, nb, rfl, hnb, hrb, hb⟩
    have B3 := Lib.hid (below_more B2.out (Nat.le_refl _) hb)
    have RB := Lib.hid hrb
    have RA3 := Lib.hid (ReadsInt.below RA.out hb)
    clear hb hrb B2 RA
    go_wp2_with fail
    refine (SA4.out _ _ _ _ _ hna hnb RA3.out RB.out).mono ?_
    rintro _ x4 ⟨rfl, hb⟩
    have B4 := Lib.hid (below_more B3.out (Nat.le_refl _) hb)
    clear hb B3 RA3 RB
    go_wp2_with fail
    refine (KN.out _).mono ?_
    rintro _ x5 ⟨rfl, hb⟩
    have B5 := Lib.hid (below_more B4.out (Nat.le_refl _) hb)
    clear hb B4
    go_wp2_with fail
    go_ret
    exact ⟨rfl, B5.out⟩
  · have h1 : 33 < i := by omega
    clear hi
    go_enter Try.func3, Try.ntmps3
    go_wp2_with fail
    refine (VAR.out _).mono ?_
    rintro e w1 ⟨rfl, hb⟩
    have p1 := Lib.hid (blk_below q1.out hb)
    have p2 := Lib.hid (blk_below q2.out hb)
    have p4 := Lib.hid (below_more q4.out (Nat.le_refl _) hb)
    clear hb q1 q2 q4
    obtain ⟨W2, hW2, r, b⟩ := letvar w1 #[Value.int .u32 0, Value.int .u32 0, Value.int .u32 0, Value.int .u32 0, Value.int .u32 0, Value.int .u32 0, Value.int .u32 0, Value.int .u32 0, Value.int .u32 0, Value.int .u32 0, Value.int .u32 0, Value.int .u32 0, Value.int .u32 0, Value.int .u32 0, Value.int .u32 0, Value.int .u32 0, Value.int .u32 0, Value.int .u32 0, Value.int .u32 0, Value.int .u32 0, Value.int .u32 0, Value.int .u32 0, Value.int .u32 0, Value.int .u32 0, Value.int .u32 0, Value.int .u32 0, Value.int .u32 0, Value.int .u32 0, Value.int .u32 0, Value.int .u32 0, Value.int .u32 0, Value.int .u32 0, Value.int .u32 0, Value.int .u32 0, Value.int .u32 0] RV 25
    have HW := Lib.hid hW2
    have r3 := Lib.hid r
    have r1 := Lib.hid (blk_below p1.out b)
    have r2 := Lib.hid (blk_below p2.out b)
    have r4 := Lib.hid (below_more p4.out (Nat.le_refl _) b)
    clear hW2 r b p1 p2 p4
    go_wp2_with (first | (refine wpList_store_row rfl 25 (.tmp 9) (.tmp 17) rfl rfl w1.heap.size rfl RV rfl _ _ (heap_alloc_new _ _) hV.out.size.symm hV.out.info hV.out.one ?_; rw [HW.out]) | (refine wpList_load_row_g rfl 25 (.tmp 9) rfl _ rfl _ _ _ _ r3.out Try.underlying25 rfl hV.out.info ?_))
    have hNewE : (Below w.heap.size w W2.drew) := r4.out.drew
    have hEx := Lib.hid hNewE
    clear hNewE
    refine Go.Proofs.YtocofkkkblelgaaW.PrintLast.wp_region_last_drew (S := fun w' => (w'.heap[w.heap.size]? = some (.cells RF 25 (0, 0))) ∧ (w'.heap[(w.heap.size + 1)]? = some (.cells RG 25 (0, 0)))) (ds := []) (by kernel_rfl) ⟨r1.out, r2.out⟩ (fun hNewS => ?_)
    have hHeld := Lib.hid hNewS
    clear hNewS
    refine lastTake 0 rfl (by kernel_rfl) (by kernel_rfl) (by kernel_rfl) (by kernel_rfl) (by kernel_rfl) (fun _ _ _ h => h) hHeld.out (yieldsIf_row rfl 25 (.tmp 4) rfl _ rfl _ RF _ _ (fun _ h => h.1) Try.underlying25 rfl hF.out.info) ?_
    try simp only [Act.put, List.setIfInBounds_toArray, List.set_cons_zero, List.set_cons_succ]
    refine lastTake 1 rfl (by kernel_rfl) (by kernel_rfl) (by kernel_rfl) (by kernel_rfl) (by kernel_rfl) (fun _ _ _ h => h) hHeld.out (yieldsIf_row rfl 25 (.tmp 5) rfl _ rfl _ RG _ _ (fun _ h => h.2) Try.underlying25 rfl hG.out.info) ?_
    try simp only [Act.put, List.setIfInBounds_toArray, List.set_cons_zero, List.set_cons_succ]
    refine lastTake 4 rfl (by kernel_rfl) (by kernel_rfl) (by kernel_rfl) (by kernel_rfl) (by kernel_rfl) (fun _ _ _ h => h) hHeld.out (yieldsIf_row rfl 25 (.tmp 4) rfl _ rfl _ RF _ _ (fun _ h => h.1) Try.underlying25 rfl hF.out.info) ?_
    try simp only [Act.put, List.setIfInBounds_toArray, List.set_cons_zero, List.set_cons_succ]
    refine lastTake 6 rfl (by kernel_rfl) (by kernel_rfl) (by kernel_rfl) (by kernel_rfl) (by kernel_rfl) (fun _ _ _ h => h) hHeld.out (yieldsIf_row rfl 25 (.tmp 5) rfl _ rfl _ RG _ _ (fun _ h => h.2) Try.underlying25 rfl hG.out.info) ?_
    try simp only [Act.put, List.setIfInBounds_toArray, List.set_cons_zero, List.set_cons_succ]
    refine lastOne 2 (by kernel_rfl) rfl (by decide) (fun K hK => ?_)
    go_simp
    refine (ADD.out _).mono ?_
    rintro _ v19 ⟨rfl, hb⟩
    have hNewE : (Below w.heap.size w v19) := below_more (hEx.out) (Nat.le_refl _) hb
    refine hK.out _ _ ⟨blk_below (hHeld.out.1) hb, blk_below (hHeld.out.2) hb⟩ (fun hNewS => ?_)
    clear hK K
    clear hHeld hEx
    have hHeld := Lib.hid hNewS
    have hEx := Lib.hid hNewE
    clear hNewS hNewE
    clear hb
    try simp only [Act.put, List.setIfInBounds_toArray, List.set_cons_zero, List.set_cons_succ]
    refine lastOne 3 (by kernel_rfl) rfl (by decide) (fun K hK => ?_)
    go_simp
    refine (ASS.out _).mono ?_
    rintro _ v20 ⟨adp7, np7, rfl, hnp7, hrd, hb⟩
    have hNewE : (ReadsInt v20 .u32 (some adp7) 34 ls) ∧ (Below w.heap.size w v20) := ⟨hrd, below_more (hEx.out) (Nat.le_refl _) hb⟩
    refine hK.out _ _ ⟨blk_below (hHeld.out.1) hb, blk_below (hHeld.out.2) hb⟩ (fun hNewS => ?_)
    clear hK K
    clear hHeld hEx
    have hHeld := Lib.hid hNewS
    have hEx := Lib.hid hNewE
    clear hNewS hNewE
    clear hb hrd
    try simp only [Act.put, List.setIfInBounds_toArray, List.set_cons_zero, List.set_cons_succ]
    refine lastOne 5 (by kernel_rfl) rfl (by decide) (fun K hK => ?_)
    go_simp
    refine (ASF.out _).mono ?_
    rintro _ v21 ⟨adq7, nq7, rfl, hnq7, hrd, hb⟩
    have hNewE : (ReadsInt v21 .u32 (some adq7) 34 fs) ∧ (ReadsInt v21 .u32 (some adp7) 34 ls) ∧ (Below w.heap.size w v21) := ⟨hrd, ReadsInt.below (hEx.out.1) hb, below_more (hEx.out.2) (Nat.le_refl _) hb⟩
    refine hK.out _ _ ⟨blk_below (hHeld.out.1) hb, blk_below (hHeld.out.2) hb⟩ (fun hNewS => ?_)
    clear hK K
    clear hHeld hEx
    have hHeld := Lib.hid hNewS
    have hEx := Lib.hid hNewE
    clear hNewS hNewE
    clear hb hrd
    try simp only [Act.put, List.setIfInBounds_toArray, List.set_cons_zero, List.set_cons_succ]
    refine lastOne 7 (by kernel_rfl) rfl (by decide) (fun K hK => ?_)
    go_simp
    refine (ASG.out _).mono ?_
    rintro _ v22 ⟨adr7, nr7, rfl, hnr7, hrd, hb⟩
    have hNewE : (ReadsInt v22 .u32 (some adr7) 34 gs) ∧ (ReadsInt v22 .u32 (some adq7) 34 fs) ∧ (ReadsInt v22 .u32 (some adp7) 34 ls) ∧ (Below w.heap.size w v22) := ⟨hrd, ReadsInt.below (hEx.out.1) hb, ReadsInt.below (hEx.out.2.1) hb, below_more (hEx.out.2.2) (Nat.le_refl _) hb⟩
    refine hK.out _ _ ⟨blk_below (hHeld.out.1) hb, blk_below (hHeld.out.2) hb⟩ (fun hNewS => ?_)
    clear hK K
    clear hHeld hEx
    have hHeld := Lib.hid hNewS
    have hEx := Lib.hid hNewE
    clear hNewS hNewE
    clear hb hrd
    try simp only [Act.put, List.setIfInBounds_toArray, List.set_cons_zero, List.set_cons_succ]
    refine lastOne 8 (by kernel_rfl) rfl (by decide) (fun K hK => ?_)
    go_simp
    refine (SM1.out _ _ _ _ _ hEx.out.2.1 hEx.out.1).mono ?_
    rintro _ v23 ⟨adt7, nt7, rfl, hnt7, hrd, hb⟩
    have hNewE : (ReadsInt v23 .u32 (some adt7) 34 ls) ∧ (ReadsInt v23 .u32 (some adr7) 34 gs) ∧ (ReadsInt v23 .u32 (some adq7) 34 fs) ∧ (ReadsInt v23 .u32 (some adp7) 34 ls) ∧ (Below w.heap.size w v23) := ⟨hrd, ReadsInt.below (hEx.out.1) hb, ReadsInt.below (hEx.out.2.1) hb, ReadsInt.below (hEx.out.2.2.1) hb, below_more (hEx.out.2.2.2) (Nat.le_refl _) hb⟩
    refine hK.out _ _ ⟨blk_below (hHeld.out.1) hb, blk_below (hHeld.out.2) hb⟩ (fun hNewS => ?_)
    clear hK K
    clear hHeld hEx
    have hHeld := Lib.hid hNewS
    have hEx := Lib.hid hNewE
    clear hNewS hNewE
    clear hb hrd
    try simp only [Act.put, List.setIfInBounds_toArray, List.set_cons_zero, List.set_cons_succ]
    refine lastOne 9 (by kernel_rfl) rfl (by decide) (fun K hK => ?_)
    go_simp
    refine (SA1.out _ _ _ _ _ hnp7 hnt7 hEx.out.2.2.2.1 hEx.out.1).mono ?_
    rintro _ v24 ⟨rfl, hb⟩
    have hNewE : (ReadsInt v24 .u32 (some adt7) 34 ls) ∧ (ReadsInt v24 .u32 (some adr7) 34 gs) ∧ (ReadsInt v24 .u32 (some adq7) 34 fs) ∧ (ReadsInt v24 .u32 (some adp7) 34 ls) ∧ (Below w.heap.size w v24) := ⟨ReadsInt.below (hEx.out.1) hb, ReadsInt.below (hEx.out.2.1) hb, ReadsInt.below (hEx.out.2.2.1) hb, ReadsInt.below (hEx.out.2.2.2.1) hb, below_more (hEx.out.2.2.2.2) (Nat.le_refl _) hb⟩
    refine hK.out _ _ ⟨blk_below (hHeld.out.1) hb, blk_below (hHeld.out.2) hb⟩ (fun hNewS => ?_)
    clear hK K
    clear hHeld hEx
    have hHeld := Lib.hid hNewS
    have hEx := Lib.hid hNewE
    clear hNewS hNewE
    clear hb
    try simp only [Act.put, List.setIfInBounds_toArray, List.set_cons_zero, List.set_cons_succ]
    refine lastTake 10 (v := ?_) rfl (by kernel_rfl) (by kernel_rfl) (by kernel_rfl) (by kernel_rfl) (by kernel_rfl) (fun _ _ _ h => h) hHeld.out (yieldsIf_of rfl ?_) ?_
    rotate_left
    · (intro w hSw; go_simp <;> with_reducible rfl)
    try simp only [Act.put, List.setIfInBounds_toArray, List.set_cons_zero, List.set_cons_succ]
    refine Go.Proofs.YtocofkkkblelgaaW.PrintLast.wpAnyLast_done (by kernel_rfl) ?_ _
    have hNewE : (Below w.heap.size w v24) := hEx.out.2.2.2.2
    have hNewS : (v24.heap[w.heap.size]? = some (.cells RF 25 (0, 0))) ∧ (v24.heap[(w.heap.size + 1)]? = some (.cells RG 25 (0, 0))) := hHeld.out
    clear hEx hHeld
    have HE := Lib.hid hNewE
    have HS := Lib.hid hNewS
    clear hNewE hNewS
    go_wp2_with fail
    have hNewE : (Below w.heap.size w v24.drew) := HE.out.drew
    have hEx := Lib.hid hNewE
    clear hNewE
    refine Go.Proofs.YtocofkkkblelgaaW.PrintLast.wp_region_last_drew (S := fun w' => (w'.heap[w.heap.size]? = some (.cells RF 25 (0, 0))) ∧ (w'.heap[(w.heap.size + 1)]? = some (.cells RG 25 (0, 0)))) (ds := []) (by kernel_rfl) HS.out (fun hNewS => ?_)
    have hHeld := Lib.hid hNewS
    clear hNewS
    refine lastTake 0 rfl (by kernel_rfl) (by kernel_rfl) (by kernel_rfl) (by kernel_rfl) (by kernel_rfl) (fun _ _ _ h => h) hHeld.out (yieldsIf_row rfl 25 (.tmp 4) rfl _ rfl _ RF _ _ (fun _ h => h.1) Try.underlying25 rfl hF.out.info) ?_
    try simp only [Act.put, List.setIfInBounds_toArray, List.set_cons_zero, List.set_cons_succ]
    refine lastTake 1 rfl (by kernel_rfl) (by kernel_rfl) (by kernel_rfl) (by kernel_rfl) (by kernel_rfl) (fun _ _ _ h => h) hHeld.out (yieldsIf_row rfl 25 (.tmp 5) rfl _ rfl _ RG _ _ (fun _ h => h.2) Try.underlying25 rfl hG.out.info) ?_
    try simp only [Act.put, List.setIfInBounds_toArray, List.set_cons_zero, List.set_cons_succ]
    refine lastTake 4 rfl (by kernel_rfl) (by kernel_rfl) (by kernel_rfl) (by kernel_rfl) (by kernel_rfl) (fun _ _ _ h => h) hHeld.out (yieldsIf_row rfl 25 (.tmp 4) rfl _ rfl _ RF _ _ (fun _ h => h.1) Try.underlying25 rfl hF.out.info) ?_
    try simp only [Act.put, List.setIfInBounds_toArray, List.set_cons_zero, List.set_cons_succ]
    refine lastTake 6 rfl (by kernel_rfl) (by kernel_rfl) (by kernel_rfl) (by kernel_rfl) (by kernel_rfl) (fun _ _ _ h => h) hHeld.out (yieldsIf_row rfl 25 (.tmp 5) rfl _ rfl _ RG _ _ (fun _ h => h.2) Try.underlying25 rfl hG.out.info) ?_
    try simp only [Act.put, List.setIfInBounds_toArray, List.set_cons_zero, List.set_cons_succ]
    refine lastOne 2 (by kernel_rfl) rfl (by decide) (fun K hK => ?_)
    go_simp
    refine (SUB.out _).mono ?_
    rintro _ v25 ⟨rfl, hb⟩
    have hNewE : (Below w.heap.size w v25) := below_more (hEx.out) (Nat.le_refl _) hb
    refine hK.out _ _ ⟨blk_below (hHeld.out.1) hb, blk_below (hHeld.out.2) hb⟩ (fun hNewS => ?_)
    clear hK K
    clear hHeld hEx
    have hHeld := Lib.hid hNewS
    have hEx := Lib.hid hNewE
    clear hNewS hNewE
    clear hb
    try simp only [Act.put, List.setIfInBounds_toArray, List.set_cons_zero, List.set_cons_succ]
    refine lastOne 3 (by kernel_rfl) rfl (by decide) (fun K hK => ?_)
    go_simp
    refine (ASD.out _).mono ?_
    rintro _ v26 ⟨adp8, np8, rfl, hnp8, hrd, hb⟩
    have hNewE : (ReadsInt v26 .u32 (some adp8) 34 ld) ∧ (Below w.heap.size w v26) := ⟨hrd, below_more (hEx.out) (Nat.le_refl _) hb⟩
    refine hK.out _ _ ⟨blk_below (hHeld.out.1) hb, blk_below (hHeld.out.2) hb⟩ (fun hNewS => ?_)
    clear hK K
    clear hHeld hEx
    have hHeld := Lib.hid hNewS
    have hEx := Lib.hid hNewE
    clear hNewS hNewE
    clear hb hrd
    try simp only [Act.put, List.setIfInBounds_toArray, List.set_cons_zero, List.set_cons_succ]
    refine lastOne 5 (by kernel_rfl) rfl (by decide) (fun K hK => ?_)
    go_simp
    refine (ASF.out _).mono ?_
    rintro _ v27 ⟨adq8, nq8, rfl, hnq8, hrd, hb⟩
    have hNewE : (ReadsInt v27 .u32 (some adq8) 34 fs) ∧ (ReadsInt v27 .u32 (some adp8) 34 ld) ∧ (Below w.heap.size w v27) := ⟨hrd, ReadsInt.below (hEx.out.1) hb, below_more (hEx.out.2) (Nat.le_refl _) hb⟩
    refine hK.out _ _ ⟨blk_below (hHeld.out.1) hb, blk_below (hHeld.out.2) hb⟩ (fun hNewS => ?_)
    clear hK K
    clear hHeld hEx
    have hHeld := Lib.hid hNewS
    have hEx := Lib.hid hNewE
    clear hNewS hNewE
    clear hb hrd
    try simp only [Act.put, List.setIfInBounds_toArray, List.set_cons_zero, List.set_cons_succ]
    refine lastOne 7 (by kernel_rfl) rfl (by decide) (fun K hK => ?_)
    go_simp
    refine (ASG.out _).mono ?_
    rintro _ v28 ⟨adr8, nr8, rfl, hnr8, hrd, hb⟩
    have hNewE : (ReadsInt v28 .u32 (some adr8) 34 gs) ∧ (ReadsInt v28 .u32 (some adq8) 34 fs) ∧ (ReadsInt v28 .u32 (some adp8) 34 ld) ∧ (Below w.heap.size w v28) := ⟨hrd, ReadsInt.below (hEx.out.1) hb, ReadsInt.below (hEx.out.2.1) hb, below_more (hEx.out.2.2) (Nat.le_refl _) hb⟩
    refine hK.out _ _ ⟨blk_below (hHeld.out.1) hb, blk_below (hHeld.out.2) hb⟩ (fun hNewS => ?_)
    clear hK K
    clear hHeld hEx
    have hHeld := Lib.hid hNewS
    have hEx := Lib.hid hNewE
    clear hNewS hNewE
    clear hb hrd
    try simp only [Act.put, List.setIfInBounds_toArray, List.set_cons_zero, List.set_cons_succ]
    refine lastOne 8 (by kernel_rfl) rfl (by decide) (fun K hK => ?_)
    go_simp
    refine (SM2.out _ _ _ _ _ hEx.out.2.1 hEx.out.1).mono ?_
    rintro _ v29 ⟨adt8, nt8, rfl, hnt8, hrd, hb⟩
    have hNewE : (ReadsInt v29 .u32 (some adt8) 34 ld) ∧ (ReadsInt v29 .u32 (some adr8) 34 gs) ∧ (ReadsInt v29 .u32 (some adq8) 34 fs) ∧ (ReadsInt v29 .u32 (some adp8) 34 ld) ∧ (Below w.heap.size w v29) := ⟨hrd, ReadsInt.below (hEx.out.1) hb, ReadsInt.below (hEx.out.2.1) hb, ReadsInt.below (hEx.out.2.2.1) hb, below_more (hEx.out.2.2.2) (Nat.le_refl _) hb⟩
    refine hK.out _ _ ⟨blk_below (hHeld.out.1) hb, blk_below (hHeld.out.2) hb⟩ (fun hNewS => ?_)
    clear hK K
    clear hHeld hEx
    have hHeld := Lib.hid hNewS
    have hEx := Lib.hid hNewE
    clear hNewS hNewE
    clear hb hrd
    try simp only [Act.put, List.setIfInBounds_toArray, List.set_cons_zero, List.set_cons_succ]
    refine lastOne 9 (by kernel_rfl) rfl (by decide) (fun K hK => ?_)
    go_simp
    refine (SA2.out _ _ _ _ _ hnp8 hnt8 hEx.out.2.2.2.1 hEx.out.1).mono ?_
    rintro _ v30 ⟨rfl, hb⟩
    have hNewE : (ReadsInt v30 .u32 (some adt8) 34 ld) ∧ (ReadsInt v30 .u32 (some adr8) 34 gs) ∧ (ReadsInt v30 .u32 (some adq8) 34 fs) ∧ (ReadsInt v30 .u32 (some adp8) 34 ld) ∧ (Below w.heap.size w v30) := ⟨ReadsInt.below (hEx.out.1) hb, ReadsInt.below (hEx.out.2.1) hb, ReadsInt.below (hEx.out.2.2.1) hb, ReadsInt.below (hEx.out.2.2.2.1) hb, below_more (hEx.out.2.2.2.2) (Nat.le_refl _) hb⟩
    refine hK.out _ _ ⟨blk_below (hHeld.out.1) hb, blk_below (hHeld.out.2) hb⟩ (fun hNewS => ?_)
    clear hK K
    clear hHeld hEx
    have hHeld := Lib.hid hNewS
    have hEx := Lib.hid hNewE
    clear hNewS hNewE
    clear hb
    try simp only [Act.put, List.setIfInBounds_toArray, List.set_cons_zero, List.set_cons_succ]
    refine lastTake 10 (v := ?_) rfl (by kernel_rfl) (by kernel_rfl) (by kernel_rfl) (by kernel_rfl) (by kernel_rfl) (fun _ _ _ h => h) hHeld.out (yieldsIf_of rfl ?_) ?_
    rotate_left
    · (intro w hSw; go_simp <;> with_reducible rfl)
    try simp only [Act.put, List.setIfInBounds_toArray, List.set_cons_zero, List.set_cons_succ]
    refine Go.Proofs.YtocofkkkblelgaaW.PrintLast.wpAnyLast_done (by kernel_rfl) ?_ _
    have hNewE : (Below w.heap.size w v30) := hEx.out.2.2.2.2
    have hNewS : (v30.heap[w.heap.size]? = some (.cells RF 25 (0, 0))) ∧ (v30.heap[(w.heap.size + 1)]? = some (.cells RG 25 (0, 0))) := hHeld.out
    clear hEx hHeld
    have HE := Lib.hid hNewE
    have HS := Lib.hid hNewS
    clear hNewE hNewS
    go_wp2_with fail
    have hNewE : (Below w.heap.size w v30.drew) := HE.out.drew
    have hEx := Lib.hid hNewE
    clear hNewE
    refine Go.Proofs.YtocofkkkblelgaaW.PrintLast.wp_region_last_drew (S := fun w' => (w'.heap[w.heap.size]? = some (.cells RF 25 (0, 0))) ∧ (w'.heap[(w.heap.size + 1)]? = some (.cells RG 25 (0, 0)))) (ds := []) (by kernel_rfl) HS.out (fun hNewS => ?_)
    have hHeld := Lib.hid hNewS
    clear hNewS
    refine lastTake 0 rfl (by kernel_rfl) (by kernel_rfl) (by kernel_rfl) (by kernel_rfl) (by kernel_rfl) (fun _ _ _ h => h) hHeld.out (yieldsIf_row rfl 25 (.tmp 4) rfl _ rfl _ RF _ _ (fun _ h => h.1) Try.underlying25 rfl hF.out.info) ?_
    try simp only [Act.put, List.setIfInBounds_toArray, List.set_cons_zero, List.set_cons_succ]
    refine lastTake 1 (v := ?_) rfl (by kernel_rfl) (by kernel_rfl) (by kernel_rfl) (by kernel_rfl) (by kernel_rfl) (fun _ _ _ h => h) hHeld.out (yieldsIf_of rfl ?_) ?_
    rotate_left
    · (intro w hSw; go_simp <;> with_reducible rfl)
    try simp only [Act.put, List.setIfInBounds_toArray, List.set_cons_zero, List.set_cons_succ]
    refine lastTake 4 rfl (by kernel_rfl) (by kernel_rfl) (by kernel_rfl) (by kernel_rfl) (by kernel_rfl) (fun _ _ _ h => h) hHeld.out (yieldsIf_row rfl 25 (.tmp 4) rfl _ rfl _ RF _ _ (fun _ h => h.1) Try.underlying25 rfl hF.out.info) ?_
    try simp only [Act.put, List.setIfInBounds_toArray, List.set_cons_zero, List.set_cons_succ]
    refine lastTake 6 (v := ?_) rfl (by kernel_rfl) (by kernel_rfl) (by kernel_rfl) (by kernel_rfl) (by kernel_rfl) (fun _ _ _ h => h) hHeld.out (yieldsIf_of rfl ?_) ?_
    rotate_left
    · (intro w hSw; go_simp <;> with_reducible rfl)
    try simp only [Act.put, List.setIfInBounds_toArray, List.set_cons_zero, List.set_cons_succ]
    refine lastTake 7 rfl (by kernel_rfl) (by kernel_rfl) (by kernel_rfl) (by kernel_rfl) (by kernel_rfl) (fun _ _ _ h => h) hHeld.out (yieldsIf_row rfl 25 (.tmp 5) rfl _ rfl _ RG _ _ (fun _ h => h.2) Try.underlying25 rfl hG.out.info) ?_
    try simp only [Act.put, List.setIfInBounds_toArray, List.set_cons_zero, List.set_cons_succ]
    refine lastOne 2 (by kernel_rfl) rfl (by decide) (fun K hK => ?_)
    go_simp
    refine (MUL.out _).mono ?_
    rintro _ v31 ⟨rfl, hb⟩
    have hNewE : (Below w.heap.size w v31) := below_more (hEx.out) (Nat.le_refl _) hb
    refine hK.out _ _ ⟨blk_below (hHeld.out.1) hb, blk_below (hHeld.out.2) hb⟩ (fun hNewS => ?_)
    clear hK K
    clear hHeld hEx
    have hHeld := Lib.hid hNewS
    have hEx := Lib.hid hNewE
    clear hNewS hNewE
    clear hb
    try simp only [Act.put, List.setIfInBounds_toArray, List.set_cons_zero, List.set_cons_succ]
    refine lastOne 3 (by kernel_rfl) rfl (by decide) (fun K hK => ?_)
    go_simp
    refine (ASM.out _).mono ?_
    rintro _ v32 ⟨adp9, np9, rfl, hnp9, hrd, hb⟩
    have hNewE : (ReadsInt v32 .u32 (some adp9) 34 lm) ∧ (Below w.heap.size w v32) := ⟨hrd, below_more (hEx.out) (Nat.le_refl _) hb⟩
    refine hK.out _ _ ⟨blk_below (hHeld.out.1) hb, blk_below (hHeld.out.2) hb⟩ (fun hNewS => ?_)
    clear hK K
    clear hHeld hEx
    have hHeld := Lib.hid hNewS
    have hEx := Lib.hid hNewE
    clear hNewS hNewE
    clear hb hrd
    try simp only [Act.put, List.setIfInBounds_toArray, List.set_cons_zero, List.set_cons_succ]
    refine lastOne 5 (by kernel_rfl) rfl (by decide) (fun K hK => ?_)
    go_simp
    refine (ASF.out _).mono ?_
    rintro _ v33 ⟨adq9, nq9, rfl, hnq9, hrd, hb⟩
    have hNewE : (ReadsInt v33 .u32 (some adq9) 34 fs) ∧ (ReadsInt v33 .u32 (some adp9) 34 lm) ∧ (Below w.heap.size w v33) := ⟨hrd, ReadsInt.below (hEx.out.1) hb, below_more (hEx.out.2) (Nat.le_refl _) hb⟩
    refine hK.out _ _ ⟨blk_below (hHeld.out.1) hb, blk_below (hHeld.out.2) hb⟩ (fun hNewS => ?_)
    clear hK K
    clear hHeld hEx
    have hHeld := Lib.hid hNewS
    have hEx := Lib.hid hNewE
    clear hNewS hNewE
    clear hb hrd
    try simp only [Act.put, List.setIfInBounds_toArray, List.set_cons_zero, List.set_cons_succ]
    refine lastOne 8 (by kernel_rfl) rfl (by decide) (fun K hK => ?_)
    go_simp
    refine (ASG.out _).mono ?_
    rintro _ v34 ⟨adr9, nr9, rfl, hnr9, hrd, hb⟩
    have hNewE : (ReadsInt v34 .u32 (some adr9) 34 gs) ∧ (ReadsInt v34 .u32 (some adq9) 34 fs) ∧ (ReadsInt v34 .u32 (some adp9) 34 lm) ∧ (Below w.heap.size w v34) := ⟨hrd, ReadsInt.below (hEx.out.1) hb, ReadsInt.below (hEx.out.2.1) hb, below_more (hEx.out.2.2) (Nat.le_refl _) hb⟩
    refine hK.out _ _ ⟨blk_below (hHeld.out.1) hb, blk_below (hHeld.out.2) hb⟩ (fun hNewS => ?_)
    clear hK K
    clear hHeld hEx
    have hHeld := Lib.hid hNewS
    have hEx := Lib.hid hNewE
    clear hNewS hNewE
    clear hb hrd
    try simp only [Act.put, List.setIfInBounds_toArray, List.set_cons_zero, List.set_cons_succ]
    refine lastOne 9 (by kernel_rfl) rfl (by decide) (fun K hK => ?_)
    go_simp
    refine (SM3.out _ _ _ _ _ hEx.out.2.1 hEx.out.1).mono ?_
    rintro _ v35 ⟨adt9, nt9, rfl, hnt9, hrd, hb⟩
    have hNewE : (ReadsInt v35 .u32 (some adt9) 34 lm) ∧ (ReadsInt v35 .u32 (some adr9) 34 gs) ∧ (ReadsInt v35 .u32 (some adq9) 34 fs) ∧ (ReadsInt v35 .u32 (some adp9) 34 lm) ∧ (Below w.heap.size w v35) := ⟨hrd, ReadsInt.below (hEx.out.1) hb, ReadsInt.below (hEx.out.2.1) hb, ReadsInt.below (hEx.out.2.2.1) hb, below_more (hEx.out.2.2.2) (Nat.le_refl _) hb⟩
    refine hK.out _ _ ⟨blk_below (hHeld.out.1) hb, blk_below (hHeld.out.2) hb⟩ (fun hNewS => ?_)
    clear hK K
    clear hHeld hEx
    have hHeld := Lib.hid hNewS
    have hEx := Lib.hid hNewE
    clear hNewS hNewE
    clear hb hrd
    try simp only [Act.put, List.setIfInBounds_toArray, List.set_cons_zero, List.set_cons_succ]
    refine lastOne 10 (by kernel_rfl) rfl (by decide) (fun K hK => ?_)
    go_simp
    refine (SA3.out _ _ _ _ _ hnp9 hnt9 hEx.out.2.2.2.1 hEx.out.1).mono ?_
    rintro _ v36 ⟨rfl, hb⟩
    have hNewE : (ReadsInt v36 .u32 (some adt9) 34 lm) ∧ (ReadsInt v36 .u32 (some adr9) 34 gs) ∧ (ReadsInt v36 .u32 (some adq9) 34 fs) ∧ (ReadsInt v36 .u32 (some adp9) 34 lm) ∧ (Below w.heap.size w v36) := ⟨ReadsInt.below (hEx.out.1) hb, ReadsInt.below (hEx.out.2.1) hb, ReadsInt.below (hEx.out.2.2.1) hb, ReadsInt.below (hEx.out.2.2.2.1) hb, below_more (hEx.out.2.2.2.2) (Nat.le_refl _) hb⟩
    refine hK.out _ _ ⟨blk_below (hHeld.out.1) hb, blk_below (hHeld.out.2) hb⟩ (fun hNewS => ?_)
    clear hK K
    clear hHeld hEx
    have hHeld := Lib.hid hNewS
    have hEx := Lib.hid hNewE
    clear hNewS hNewE
    clear hb
    try simp only [Act.put, List.setIfInBounds_toArray, List.set_cons_zero, List.set_cons_succ]
    refine lastTake 11 (v := ?_) rfl (by kernel_rfl) (by kernel_rfl) (by kernel_rfl) (by kernel_rfl) (by kernel_rfl) (fun _ _ _ h => h) hHeld.out (yieldsIf_of rfl ?_) ?_
    rotate_left
    · (intro w hSw; go_simp <;> with_reducible rfl)
    try simp only [Act.put, List.setIfInBounds_toArray, List.set_cons_zero, List.set_cons_succ]
    refine Go.Proofs.YtocofkkkblelgaaW.PrintLast.wpAnyLast_done (by kernel_rfl) ?_ _
    have hNewE : (Below w.heap.size w v36) := hEx.out.2.2.2.2
    have hNewS : (v36.heap[w.heap.size]? = some (.cells RF 25 (0, 0))) ∧ (v36.heap[(w.heap.size + 1)]? = some (.cells RG 25 (0, 0))) := hHeld.out
    clear hEx hHeld
    have HE := Lib.hid hNewE
    have HS := Lib.hid hNewS
    clear hNewE hNewS
    go_wp2_with fail
    refine (CON.out _).mono ?_
    rintro _ x1 ⟨rfl, hb⟩
    have B1 := Lib.hid (below_more HE.out (Nat.le_refl _) hb)
    clear hb HE
    go_wp2_with fail
    refine (ASK.out _).mono ?_
    rintro _ x2 ⟨ada, na, rfl, hna, hra, hb⟩
    have B2 := Lib.hid (below_more B1.out (Nat.le_refl _) hb)
    have RA := Lib.hid hra
    clear hb hra B1
    go_wp2_with fail
    refine (NEW.out _).mono ?_
    rintro _ x3 ⟨adb, nb, rfl, hnb, hrb, hb⟩
    have B3 := Lib.hid (below_more B2.out (Nat.le_refl _) hb)
    have RB := Lib.hid hrb
    have RA3 := Lib.hid (ReadsInt.below RA.out hb)
    clear hb hrb B2 RA
    go_wp2_with fail
    refine (SA4.out _ _ _ _ _ hna hnb RA3.out RB.out).mono ?_
    rintro _ x4 ⟨rfl, hb⟩
    have B4 := Lib.hid (below_more B3.out (Nat.le_refl _) hb)
    clear hb B3 RA3 RB
    go_wp2_with fail
    refine (KN.out _).mono ?_
    rintro _ x5 ⟨rfl, hb⟩
    have B5 := Lib.hid (below_more B4.out (Nat.le_refl _) hb)
    clear hb B4
    go_wp2_with fail
    go_ret
    exact ⟨rfl, B5.out⟩
set_option maxHeartbeats 8000000 in
theorem AffineForms_ok (RF RG RV RS RD RM RK : Array Value) (f0 g0 s0 d0 m0 k : Int) (fs gs ls ld lm : List Int) (hF : FRow RF) (hG : FRow RG) (hV : FRow RV)
    (ASF : GRF 11 #[.agg RF] f0 fs) (ASG : GRF 11 #[.agg RG] g0 gs) (ASS : GRF 11 #[.agg RS] s0 ls) (ASD : GRF 11 #[.agg RD] d0 ld) (ASM : GRF 11 #[.agg RM] m0 lm) (ASK : GRF 11 #[.agg RK] k z34)
    (ADD : Gives Try.prog 13 #[.agg RF, .agg RG] (.agg RS)) (SUB : Gives Try.prog 15 #[.agg RF, .agg RG] (.agg RD)) (MUL : Gives Try.prog 16 #[.agg RF, .int .u32 k] (.agg RM)) (CON : Gives Try.prog 17 #[.int .u32 k] (.agg RK))
    (SM1 : GRF2 14 f0 1 g0 1 fs gs s0 ls) (SM2 : GRF2 14 f0 1 g0 4294967295 fs gs d0 ld) (SM3 : GRF2 14 f0 k g0 0 fs gs m0 lm) (NEW : GRF 18 #[.int .u32 k] k z34)
    (SA1 : GSame s0 s0 ls ls true) (SA2 : GSame d0 d0 ld ld true) (SA3 : GSame m0 m0 lm lm true) (SA4 : GSame k k z34 z34 true) (KN : Gives Try.prog 19 #[] (.bool true))
    (lv : List Int) (i : Int) (hi : 0 ≤ i ∧ i ≤ 33) (VAR : Gives Try.prog 9 #[.int .i64 i] (.tuple #[.agg RV, .int .i64 0])) (ASV : GRF 11 #[.agg RV] 0 lv) (RVA : GRF 12 #[.int .i64 i] 0 lv) (SAV : GSame 0 0 lv lv true) (w : World) :
    Calls Try.prog 3 #[.agg RF, .agg RG, .int .u32 k, .int .i64 i] w fun e w' => e = .returned (.bool true) ∧ Below w.heap.size w w' := by
  replace hF := Lib.hid hF
  replace hG := Lib.hid hG
  replace hV := Lib.hid hV
  replace ASF := Lib.hid ASF
  replace ASG := Lib.hid ASG
  replace ASS := Lib.hid ASS
  replace ASD := Lib.hid ASD
  replace ASM := Lib.hid ASM
  replace ASK := Lib.hid ASK
  replace ADD := Lib.hid ADD
  replace SUB := Lib.hid SUB
  replace MUL := Lib.hid MUL
  replace CON := Lib.hid CON
  replace SM1 := Lib.hid SM1
  replace SM2 := Lib.hid SM2
  replace SM3 := Lib.hid SM3
  replace NEW := Lib.hid NEW
  replace SA1 := Lib.hid SA1
  replace SA2 := Lib.hid SA2
  replace SA3 := Lib.hid SA3
  replace SA4 := Lib.hid SA4
  replace KN := Lib.hid KN
  replace VAR := Lib.hid VAR
  replace ASV := Lib.hid ASV
  replace RVA := Lib.hid RVA
  replace SAV := Lib.hid SAV
  obtain ⟨q1, q2, q3, q4⟩ := alloc2d w (Obj.cells RF 25) (Obj.cells RG 25)
  replace q1 := Lib.hid q1
  replace q2 := Lib.hid q2
  replace q4 := Lib.hid q4
  clear q3
  obtain ⟨h0, h1⟩ := hi
  go_enter Try.func3, Try.ntmps3
  go_wp2_with fail
  refine (VAR.out _).mono ?_
  rintro e w1 ⟨rfl, hb⟩
  have p1 := Lib.hid (blk_below q1.out hb)
  have p2 := Lib.hid (blk_below q2.out hb)
  have p4 := Lib.hid (below_more q4.out (Nat.le_refl _) hb)
  clear hb q1 q2 q4
  obtain ⟨W2, hW2, r, b⟩ := letvar w1 #[Value.int .u32 0, Value.int .u32 0, Value.int .u32 0, Value.int .u32 0, Value.int .u32 0, Value.int .u32 0, Value.int .u32 0, Value.int .u32 0, Value.int .u32 0, Value.int .u32 0, Value.int .u32 0, Value.int .u32 0, Value.int .u32 0, Value.int .u32 0, Value.int .u32 0, Value.int .u32 0, Value.int .u32 0, Value.int .u32 0, Value.int .u32 0, Value.int .u32 0, Value.int .u32 0, Value.int .u32 0, Value.int .u32 0, Value.int .u32 0, Value.int .u32 0, Value.int .u32 0, Value.int .u32 0, Value.int .u32 0, Value.int .u32 0, Value.int .u32 0, Value.int .u32 0, Value.int .u32 0, Value.int .u32 0, Value.int .u32 0, Value.int .u32 0] RV 25
  have HW := Lib.hid hW2
  have r3 := Lib.hid r
  have r1 := Lib.hid (blk_below p1.out b)
  have r2 := Lib.hid (blk_below p2.out b)
  have r4 := Lib.hid (below_more p4.out (Nat.le_refl _) b)
  clear hW2 r b p1 p2 p4
  go_wp2_with (first | (refine wpList_store_row rfl 25 (.tmp 9) (.tmp 17) rfl rfl w1.heap.size rfl RV rfl _ _ (heap_alloc_new _ _) hV.out.size.symm hV.out.info hV.out.one ?_; rw [HW.out]) | (refine wpList_load_row_g rfl 25 (.tmp 9) rfl _ rfl _ _ _ _ r3.out Try.underlying25 rfl hV.out.info ?_))
  refine (ASV.out _).mono ?_
  rintro _ y1 ⟨ada, na, rfl, hna, hra, hb⟩
  have u1 := Lib.hid (blk_below r1.out hb)
  have u2 := Lib.hid (blk_below r2.out hb)
  have u4 := Lib.hid (below_more r4.out (Nat.le_refl _) hb)
  have RA := Lib.hid hra
  clear hb hra r1 r2 r3 r4
  go_wp2_with fail
  refine (RVA.out _).mono ?_
  rintro _ y2 ⟨adb, nb, rfl, hnb, hrb, hb⟩
  have v1 := Lib.hid (blk_below u1.out hb)
  have v2 := Lib.hid (blk_below u2.out hb)
  have v4 := Lib.hid (below_more u4.out (Nat.le_refl _) hb)
  have RB := Lib.hid hrb
  have RA2 := Lib.hid (ReadsInt.below RA.out hb)
  clear hb hrb u1 u2 u4 RA
  go_wp2_with fail
  refine (SAV.out _ _ _ _ _ hna hnb RA2.out RB.out).mono ?_
  rintro _ y3 ⟨rfl, hb⟩
  have r1 := Lib.hid (blk_below v1.out hb)
  have r2 := Lib.hid (blk_below v2.out hb)
  have r4 := Lib.hid (below_more v4.out (Nat.le_refl _) hb)
  clear hb v1 v2 v4 RA2 RB
  go_wp2_with fail
  have hNewE : (Below w.heap.size w y3.drew) := r4.out.drew
  have hEx := Lib.hid hNewE
  clear hNewE
  refine Go.Proofs.YtocofkkkblelgaaW.PrintLast.wp_region_last_drew (S := fun w' => (w'.heap[w.heap.size]? = some (.cells RF 25 (0, 0))) ∧ (w'.heap[(w.heap.size + 1)]? = some (.cells RG 25 (0, 0)))) (ds := []) (by kernel_rfl) ⟨r1.out, r2.out⟩ (fun hNewS => ?_)
  have hHeld := Lib.hid hNewS
  clear hNewS
  refine lastTake 0 rfl (by kernel_rfl) (by kernel_rfl) (by kernel_rfl) (by kernel_rfl) (by kernel_rfl) (fun _ _ _ h => h) hHeld.out (yieldsIf_row rfl 25 (.tmp 4) rfl _ rfl _ RF _ _ (fun _ h => h.1) Try.underlying25 rfl hF.out.info) ?_
  try simp only [Act.put, List.setIfInBounds_toArray, List.set_cons_zero, List.set_cons_succ]
  refine lastTake 1 rfl (by kernel_rfl) (by kernel_rfl) (by kernel_rfl) (by kernel_rfl) (by kernel_rfl) (fun _ _ _ h => h) hHeld.out (yieldsIf_row rfl 25 (.tmp 5) rfl _ rfl _ RG _ _ (fun _ h => h.2) Try.underlying25 rfl hG.out.info) ?_
  try simp only [Act.put, List.setIfInBounds_toArray, List.set_cons_zero, List.set_cons_succ]
  refine lastTake 4 rfl (by kernel_rfl) (by kernel_rfl) (by kernel_rfl) (by kernel_rfl) (by kernel_rfl) (fun _ _ _ h => h) hHeld.out (yieldsIf_row rfl 25 (.tmp 4) rfl _ rfl _ RF _ _ (fun _ h => h.1) Try.underlying25 rfl hF.out.info) ?_
  try simp only [Act.put, List.setIfInBounds_toArray, List.set_cons_zero, List.set_cons_succ]
  refine lastTake 6 rfl (by kernel_rfl) (by kernel_rfl) (by kernel_rfl) (by kernel_rfl) (by kernel_rfl) (fun _ _ _ h => h) hHeld.out (yieldsIf_row rfl 25 (.tmp 5) rfl _ rfl _ RG _ _ (fun _ h => h.2) Try.underlying25 rfl hG.out.info) ?_
  try simp only [Act.put, List.setIfInBounds_toArray, List.set_cons_zero, List.set_cons_succ]
  refine lastOne 2 (by kernel_rfl) rfl (by decide) (fun K hK => ?_)
  go_simp
  refine (ADD.out _).mono ?_
  rintro _ v37 ⟨rfl, hb⟩
  have hNewE : (Below w.heap.size w v37) := below_more (hEx.out) (Nat.le_refl _) hb
  refine hK.out _ _ ⟨blk_below (hHeld.out.1) hb, blk_below (hHeld.out.2) hb⟩ (fun hNewS => ?_)
  clear hK K
  clear hHeld hEx
  have hHeld := Lib.hid hNewS
  have hEx := Lib.hid hNewE
  clear hNewS hNewE
  clear hb
  try simp only [Act.put, List.setIfInBounds_toArray, List.set_cons_zero, List.set_cons_succ]
  refine lastOne 3 (by kernel_rfl) rfl (by decide) (fun K hK => ?_)
  go_simp
  refine (ASS.out _).mono ?_
  rintro _ v38 ⟨adp7, np7, rfl, hnp7, hrd, hb⟩
  have hNewE : (ReadsInt v38 .u32 (some adp7) 34 ls) ∧ (Below w.heap.size w v38) := ⟨hrd, below_more (hEx.out) (Nat.le_refl _) hb⟩
  refine hK.out _ _ ⟨blk_below (hHeld.out.1) hb, blk_below (hHeld.out.2) hb⟩ (fun hNewS => ?_)
  clear hK K
  clear hHeld hEx
  have hHeld := Lib.hid hNewS
  have hEx := Lib.hid hNewE
  clear hNewS hNewE
  clear hb hrd
  try simp only [Act.put, List.setIfInBounds_toArray, List.set_cons_zero, List.set_cons_succ]
  refine lastOne 5 (by kernel_rfl) rfl (by decide) (fun K hK => ?_)
  go_simp
  refine (ASF.out _).mono ?_
  rintro _ v39 ⟨adq7, nq7, rfl, hnq7, hrd, hb⟩
  have hNewE : (ReadsInt v39 .u32 (some adq7) 34 fs) ∧ (ReadsInt v39 .u32 (some adp7) 34 ls) ∧ (Below w.heap.size w v39) := ⟨hrd, ReadsInt.below (hEx.out.1) hb, below_more (hEx.out.2) (Nat.le_refl _) hb⟩
  refine hK.out _ _ ⟨blk_below (hHeld.out.1) hb, blk_below (hHeld.out.2) hb⟩ (fun hNewS => ?_)
  clear hK K
  clear hHeld hEx
  have hHeld := Lib.hid hNewS
  have hEx := Lib.hid hNewE
  clear hNewS hNewE
  clear hb hrd
  try simp only [Act.put, List.setIfInBounds_toArray, List.set_cons_zero, List.set_cons_succ]
  refine lastOne 7 (by kernel_rfl) rfl (by decide) (fun K hK => ?_)
  go_simp
  refine (ASG.out _).mono ?_
  rintro _ v40 ⟨adr7, nr7, rfl, hnr7, hrd, hb⟩
  have hNewE : (ReadsInt v40 .u32 (some adr7) 34 gs) ∧ (ReadsInt v40 .u32 (some adq7) 34 fs) ∧ (ReadsInt v40 .u32 (some adp7) 34 ls) ∧ (Below w.heap.size w v40) := ⟨hrd, ReadsInt.below (hEx.out.1) hb, ReadsInt.below (hEx.out.2.1) hb, below_more (hEx.out.2.2) (Nat.le_refl _) hb⟩
  refine hK.out _ _ ⟨blk_below (hHeld.out.1) hb, blk_below (hHeld.out.2) hb⟩ (fun hNewS => ?_)
  clear hK K
  clear hHeld hEx
  have hHeld := Lib.hid hNewS
  have hEx := Lib.hid hNewE
  clear hNewS hNewE
  clear hb hrd
  try simp only [Act.put, List.setIfInBounds_toArray, List.set_cons_zero, List.set_cons_succ]
  refine lastOne 8 (by kernel_rfl) rfl (by decide) (fun K hK => ?_)
  go_simp
  refine (SM1.out _ _ _ _ _ hEx.out.2.1 hEx.out.1).mono ?_
  rintro _ v41 ⟨adt7, nt7, rfl, hnt7, hrd, hb⟩
  have hNewE : (ReadsInt v41 .u32 (some adt7) 34 ls) ∧ (ReadsInt v41 .u32 (some adr7) 34 gs) ∧ (ReadsInt v41 .u32 (some adq7) 34 fs) ∧ (ReadsInt v41 .u32 (some adp7) 34 ls) ∧ (Below w.heap.size w v41) := ⟨hrd, ReadsInt.below (hEx.out.1) hb, ReadsInt.below (hEx.out.2.1) hb, ReadsInt.below (hEx.out.2.2.1) hb, below_more (hEx.out.2.2.2) (Nat.le_refl _) hb⟩
  refine hK.out _ _ ⟨blk_below (hHeld.out.1) hb, blk_below (hHeld.out.2) hb⟩ (fun hNewS => ?_)
  clear hK K
  clear hHeld hEx
  have hHeld := Lib.hid hNewS
  have hEx := Lib.hid hNewE
  clear hNewS hNewE
  clear hb hrd
  try simp only [Act.put, List.setIfInBounds_toArray, List.set_cons_zero, List.set_cons_succ]
  refine lastOne 9 (by kernel_rfl) rfl (by decide) (fun K hK => ?_)
  go_simp
  refine (SA1.out _ _ _ _ _ hnp7 hnt7 hEx.out.2.2.2.1 hEx.out.1).mono ?_
  rintro _ v42 ⟨rfl, hb⟩
  have hNewE : (ReadsInt v42 .u32 (some adt7) 34 ls) ∧ (ReadsInt v42 .u32 (some adr7) 34 gs) ∧ (ReadsInt v42 .u32 (some adq7) 34 fs) ∧ (ReadsInt v42 .u32 (some adp7) 34 ls) ∧ (Below w.heap.size w v42) := ⟨ReadsInt.below (hEx.out.1) hb, ReadsInt.below (hEx.out.2.1) hb, ReadsInt.below (hEx.out.2.2.1) hb, ReadsInt.below (hEx.out.2.2.2.1) hb, below_more (hEx.out.2.2.2.2) (Nat.le_refl _) hb⟩
  refine hK.out _ _ ⟨blk_below (hHeld.out.1) hb, blk_below (hHeld.out.2) hb⟩ (fun hNewS => ?_)
  clear hK K
  clear hHeld hEx
  have hHeld := Lib.hid hNewS
  have hEx := Lib.hid hNewE
  clear hNewS hNewE
  clear hb
  try simp only [Act.put, List.setIfInBounds_toArray, List.set_cons_zero, List.set_cons_succ]
  refine lastTake 10 (v := ?_) rfl (by kernel_rfl) (by kernel_rfl) (by kernel_rfl) (by kernel_rfl) (by kernel_rfl) (fun _ _ _ h => h) hHeld.out (yieldsIf_of rfl ?_) ?_
  rotate_left
  · (intro w hSw; go_simp <;> with_reducible rfl)
  try simp only [Act.put, List.setIfInBounds_toArray, List.set_cons_zero, List.set_cons_succ]
  refine Go.Proofs.YtocofkkkblelgaaW.PrintLast.wpAnyLast_done (by kernel_rfl) ?_ _
  have hNewE : (Below w.heap.size w v42) := hEx.out.2.2.2.2
  have hNewS : (v42.heap[w.heap.size]? = some (.cells RF 25 (0, 0))) ∧ (v42.heap[(w.heap.size + 1)]? = some (.cells RG 25 (0, 0))) := hHeld.out
  clear hEx hHeld
  have HE := Lib.hid hNewE
  have HS := Lib.hid hNewS
  clear hNewE hNewS
  go_wp2_with fail
  have hNewE : (Below w.heap.size w v42.drew) := HE.out.drew
  have hEx := Lib.hid hNewE
  clear hNewE
  refine Go.Proofs.YtocofkkkblelgaaW.PrintLast.wp_region_last_drew (S := fun w' => (w'.heap[w.heap.size]? = some (.cells RF 25 (0, 0))) ∧ (w'.heap[(w.heap.size + 1)]? = some (.cells RG 25 (0, 0)))) (ds := []) (by kernel_rfl) HS.out (fun hNewS => ?_)
  have hHeld := Lib.hid hNewS
  clear hNewS
  refine lastTake 0 rfl (by kernel_rfl) (by kernel_rfl) (by kernel_rfl) (by kernel_rfl) (by kernel_rfl) (fun _ _ _ h => h) hHeld.out (yieldsIf_row rfl 25 (.tmp 4) rfl _ rfl _ RF _ _ (fun _ h => h.1) Try.underlying25 rfl hF.out.info) ?_
  try simp only [Act.put, List.setIfInBounds_toArray, List.set_cons_zero, List.set_cons_succ]
  refine lastTake 1 rfl (by kernel_rfl) (by kernel_rfl) (by kernel_rfl) (by kernel_rfl) (by kernel_rfl) (fun _ _ _ h => h) hHeld.out (yieldsIf_row rfl 25 (.tmp 5) rfl _ rfl _ RG _ _ (fun _ h => h.2) Try.underlying25 rfl hG.out.info) ?_
  try simp only [Act.put, List.setIfInBounds_toArray, List.set_cons_zero, List.set_cons_succ]
  refine lastTake 4 rfl (by kernel_rfl) (by kernel_rfl) (by kernel_rfl) (by kernel_rfl) (by kernel_rfl) (fun _ _ _ h => h) hHeld.out (yieldsIf_row rfl 25 (.tmp 4) rfl _ rfl _ RF _ _ (fun _ h => h.1) Try.underlying25 rfl hF.out.info) ?_
  try simp only [Act.put, List.setIfInBounds_toArray, List.set_cons_zero, List.set_cons_succ]
  refine lastTake 6 rfl (by kernel_rfl) (by kernel_rfl) (by kernel_rfl) (by kernel_rfl) (by kernel_rfl) (fun _ _ _ h => h) hHeld.out (yieldsIf_row rfl 25 (.tmp 5) rfl _ rfl _ RG _ _ (fun _ h => h.2) Try.underlying25 rfl hG.out.info) ?_
  try simp only [Act.put, List.setIfInBounds_toArray, List.set_cons_zero, List.set_cons_succ]
  refine lastOne 2 (by kernel_rfl) rfl (by decide) (fun K hK => ?_)
  go_simp
  refine (SUB.out _).mono ?_
  rintro _ v43 ⟨rfl, hb⟩
  have hNewE : (Below w.heap.size w v43) := below_more (hEx.out) (Nat.le_refl _) hb
  refine hK.out _ _ ⟨blk_below (hHeld.out.1) hb, blk_below (hHeld.out.2) hb⟩ (fun hNewS => ?_)
  clear hK K
  clear hHeld hEx
  have hHeld := Lib.hid hNewS
  have hEx := Lib.hid hNewE
  clear hNewS hNewE
  clear hb
  try simp only [Act.put, List.setIfInBounds_toArray, List.set_cons_zero, List.set_cons_succ]
  refine lastOne 3 (by kernel_rfl) rfl (by decide) (fun K hK => ?_)
  go_simp
  refine (ASD.out _).mono ?_
  rintro _ v44 ⟨adp8, np8, rfl, hnp8, hrd, hb⟩
  have hNewE : (ReadsInt v44 .u32 (some adp8) 34 ld) ∧ (Below w.heap.size w v44) := ⟨hrd, below_more (hEx.out) (Nat.le_refl _) hb⟩
  refine hK.out _ _ ⟨blk_below (hHeld.out.1) hb, blk_below (hHeld.out.2) hb⟩ (fun hNewS => ?_)
  clear hK K
  clear hHeld hEx
  have hHeld := Lib.hid hNewS
  have hEx := Lib.hid hNewE
  clear hNewS hNewE
  clear hb hrd
  try simp only [Act.put, List.setIfInBounds_toArray, List.set_cons_zero, List.set_cons_succ]
  refine lastOne 5 (by kernel_rfl) rfl (by decide) (fun K hK => ?_)
  go_simp
  refine (ASF.out _).mono ?_
  rintro _ v45 ⟨adq8, nq8, rfl, hnq8, hrd, hb⟩
  have hNewE : (ReadsInt v45 .u32 (some adq8) 34 fs) ∧ (ReadsInt v45 .u32 (some adp8) 34 ld) ∧ (Below w.heap.size w v45) := ⟨hrd, ReadsInt.below (hEx.out.1) hb, below_more (hEx.out.2) (Nat.le_refl _) hb⟩
  refine hK.out _ _ ⟨blk_below (hHeld.out.1) hb, blk_below (hHeld.out.2) hb⟩ (fun hNewS => ?_)
  clear hK K
  clear hHeld hEx
  have hHeld := Lib.hid hNewS
  have hEx := Lib.hid hNewE
  clear hNewS hNewE
  clear hb hrd
  try simp only [Act.put, List.setIfInBounds_toArray, List.set_cons_zero, List.set_cons_succ]
  refine lastOne 7 (by kernel_rfl) rfl (by decide) (fun K hK => ?_)
  go_simp
  refine (ASG.out _).mono ?_
  rintro _ v46 ⟨adr8, nr8, rfl, hnr8, hrd, hb⟩
  have hNewE : (ReadsInt v46 .u32 (some adr8) 34 gs) ∧ (ReadsInt v46 .u32 (some adq8) 34 fs) ∧ (ReadsInt v46 .u32 (some adp8) 34 ld) ∧ (Below w.heap.size w v46) := ⟨hrd, ReadsInt.below (hEx.out.1) hb, ReadsInt.below (hEx.out.2.1) hb, below_more (hEx.out.2.2) (Nat.le_refl _) hb⟩
  refine hK.out _ _ ⟨blk_below (hHeld.out.1) hb, blk_below (hHeld.out.2) hb⟩ (fun hNewS => ?_)
  clear hK K
  clear hHeld hEx
  have hHeld := Lib.hid hNewS
  have hEx := Lib.hid hNewE
  clear hNewS hNewE
  clear hb hrd
  try simp only [Act.put, List.setIfInBounds_toArray, List.set_cons_zero, List.set_cons_succ]
  refine lastOne 8 (by kernel_rfl) rfl (by decide) (fun K hK => ?_)
  go_simp
  refine (SM2.out _ _ _ _ _ hEx.out.2.1 hEx.out.1).mono ?_
  rintro _ v47 ⟨adt8, nt8, rfl, hnt8, hrd, hb⟩
  have hNewE : (ReadsInt v47 .u32 (some adt8) 34 ld) ∧ (ReadsInt v47 .u32 (some adr8) 34 gs) ∧ (ReadsInt v47 .u32 (some adq8) 34 fs) ∧ (ReadsInt v47 .u32 (some adp8) 34 ld) ∧ (Below w.heap.size w v47) := ⟨hrd, ReadsInt.below (hEx.out.1) hb, ReadsInt.below (hEx.out.2.1) hb, ReadsInt.below (hEx.out.2.2.1) hb, below_more (hEx.out.2.2.2) (Nat.le_refl _) hb⟩
  refine hK.out _ _ ⟨blk_below (hHeld.out.1) hb, blk_below (hHeld.out.2) hb⟩ (fun hNewS => ?_)
  clear hK K
  clear hHeld hEx
  have hHeld := Lib.hid hNewS
  have hEx := Lib.hid hNewE
  clear hNewS hNewE
  clear hb hrd
  try simp only [Act.put, List.setIfInBounds_toArray, List.set_cons_zero, List.set_cons_succ]
  refine lastOne 9 (by kernel_rfl) rfl (by decide) (fun K hK => ?_)
  go_simp
  refine (SA2.out _ _ _ _ _ hnp8 hnt8 hEx.out.2.2.2.1 hEx.out.1).mono ?_
  rintro _ v48 ⟨rfl, hb⟩
  have hNewE : (ReadsInt v48 .u32 (some adt8) 34 ld) ∧ (ReadsInt v48 .u32 (some adr8) 34 gs) ∧ (ReadsInt v48 .u32 (some adq8) 34 fs) ∧ (ReadsInt v48 .u32 (some adp8) 34 ld) ∧ (Below w.heap.size w v48) := ⟨ReadsInt.below (hEx.out.1) hb, ReadsInt.below (hEx.out.2.1) hb, ReadsInt.below (hEx.out.2.2.1) hb, ReadsInt.below (hEx.out.2.2.2.1) hb, below_more (hEx.out.2.2.2.2) (Nat.le_refl _) hb⟩
  refine hK.out _ _ ⟨blk_below (hHeld.out.1) hb, blk_below (hHeld.out.2) hb⟩ (fun hNewS => ?_)
  clear hK K
  clear hHeld hEx
  have hHeld := Lib.hid hNewS
  have hEx := Lib.hid hNewE
  clear hNewS hNewE
  clear hb
  try simp only [Act.put, List.setIfInBounds_toArray, List.set_cons_zero, List.set_cons_succ]
  refine lastTake 10 (v := ?_) rfl (by kernel_rfl) (by kernel_rfl) (by kernel_rfl) (by kernel_rfl) (by kernel_rfl) (fun _ _ _ h => h) hHeld.out (yieldsIf_of rfl ?_) ?_
  rotate_left
  · (intro w hSw; go_simp <;> with_reducible rfl)
  try simp only [Act.put, List.setIfInBounds_toArray, List.set_cons_zero, List.set_cons_succ]
  refine Go.Proofs.YtocofkkkblelgaaW.PrintLast.wpAnyLast_done (by kernel_rfl) ?_ _
  have hNewE : (Below w.heap.size w v48) := hEx.out.2.2.2.2
  have hNewS : (v48.heap[w.heap.size]? = some (.cells RF 25 (0, 0))) ∧ (v48.heap[(w.heap.size + 1)]? = some (.cells RG 25 (0, 0))) := hHeld.out
  clear hEx hHeld
  have HE := Lib.hid hNewE
  have HS := Lib.hid hNewS
  clear hNewE hNewS
  go_wp2_with fail
  have hNewE : (Below w.heap.size w v48.drew) := HE.out.drew
  have hEx := Lib.hid hNewE
  clear hNewE
  refine Go.Proofs.YtocofkkkblelgaaW.PrintLast.wp_region_last_drew (S := fun w' => (w'.heap[w.heap.size]? = some (.cells RF 25 (0, 0))) ∧ (w'.heap[(w.heap.size + 1)]? = some (.cells RG 25 (0, 0)))) (ds := []) (by kernel_rfl) HS.out (fun hNewS => ?_)
  have hHeld := Lib.hid hNewS
  clear hNewS
  refine lastTake 0 rfl (by kernel_rfl) (by kernel_rfl) (by kernel_rfl) (by kernel_rfl) (by kernel_rfl) (fun _ _ _ h => h) hHeld.out (yieldsIf_row rfl 25 (.tmp 4) rfl _ rfl _ RF _ _ (fun _ h => h.1) Try.underlying25 rfl hF.out.info) ?_
  try simp only [Act.put, List.setIfInBounds_toArray, List.set_cons_zero, List.set_cons_succ]
  refine lastTake 1 (v := ?_) rfl (by kernel_rfl) (by kernel_rfl) (by kernel_rfl) (by kernel_rfl) (by kernel_rfl) (fun _ _ _ h => h) hHeld.out (yieldsIf_of rfl ?_) ?_
  rotate_left
  · (intro w hSw; go_simp <;> with_reducible rfl)
  try simp only [Act.put, List.setIfInBounds_toArray, List.set_cons_zero, List.set_cons_succ]
  refine lastTake 4 rfl (by kernel_rfl) (by kernel_rfl) (by kernel_rfl) (by kernel_rfl) (by kernel_rfl) (fun _ _ _ h => h) hHeld.out (yieldsIf_row rfl 25 (.tmp 4) rfl _ rfl _ RF _ _ (fun _ h => h.1) Try.underlying25 rfl hF.out.info) ?_
  try simp only [Act.put, List.setIfInBounds_toArray, List.set_cons_zero, List.set_cons_succ]
  refine lastTake 6 (v := ?_) rfl (by kernel_rfl) (by kernel_rfl) (by kernel_rfl) (by kernel_rfl) (by kernel_rfl) (fun _ _ _ h => h) hHeld.out (yieldsIf_of rfl ?_) ?_
  rotate_left
  · (intro w hSw; go_simp <;> with_reducible rfl)
  try simp only [Act.put, List.setIfInBounds_toArray, List.set_cons_zero, List.set_cons_succ]
  refine lastTake 7 rfl (by kernel_rfl) (by kernel_rfl) (by kernel_rfl) (by kernel_rfl) (by kernel_rfl) (fun _ _ _ h => h) hHeld.out (yieldsIf_row rfl 25 (.tmp 5) rfl _ rfl _ RG _ _ (fun _ h => h.2) Try.underlying25 rfl hG.out.info) ?_
  try simp only [Act.put, List.setIfInBounds_toArray, List.set_cons_zero, List.set_cons_succ]
  refine lastOne 2 (by kernel_rfl) rfl (by decide) (fun K hK => ?_)
  go_simp
  refine (MUL.out _).mono ?_
  rintro _ v49 ⟨rfl, hb⟩
  have hNewE : (Below w.heap.size w v49) := below_more (hEx.out) (Nat.le_refl _) hb
  refine hK.out _ _ ⟨blk_below (hHeld.out.1) hb, blk_below (hHeld.out.2) hb⟩ (fun hNewS => ?_)
  clear hK K
  clear hHeld hEx
  have hHeld := Lib.hid hNewS
  have hEx := Lib.hid hNewE
  clear hNewS hNewE
  clear hb
  try simp only [Act.put, List.setIfInBounds_toArray, List.set_cons_zero, List.set_cons_succ]
  refine lastOne 3 (by kernel_rfl) rfl (by decide) (fun K hK => ?_)
  go_simp
  refine (ASM.out _).mono ?_
  rintro _ v50 ⟨adp9, np9, rfl, hnp9, hrd, hb⟩
  have hNewE : (ReadsInt v50 .u32 (some adp9) 34 lm) ∧ (Below w.heap.size w v50) := ⟨hrd, below_more (hEx.out) (Nat.le_refl _) hb⟩
  refine hK.out _ _ ⟨blk_below (hHeld.out.1) hb, blk_below (hHeld.out.2) hb⟩ (fun hNewS => ?_)
  clear hK K
  clear hHeld hEx
  have hHeld := Lib.hid hNewS
  have hEx := Lib.hid hNewE
  clear hNewS hNewE
  clear hb hrd
  try simp only [Act.put, List.setIfInBounds_toArray, List.set_cons_zero, List.set_cons_succ]
  refine lastOne 5 (by kernel_rfl) rfl (by decide) (fun K hK => ?_)
  go_simp
  refine (ASF.out _).mono ?_
  rintro _ v51 ⟨adq9, nq9, rfl, hnq9, hrd, hb⟩
  have hNewE : (ReadsInt v51 .u32 (some adq9) 34 fs) ∧ (ReadsInt v51 .u32 (some adp9) 34 lm) ∧ (Below w.heap.size w v51) := ⟨hrd, ReadsInt.below (hEx.out.1) hb, below_more (hEx.out.2) (Nat.le_refl _) hb⟩
  refine hK.out _ _ ⟨blk_below (hHeld.out.1) hb, blk_below (hHeld.out.2) hb⟩ (fun hNewS => ?_)
  clear hK K
  clear hHeld hEx
  have hHeld := Lib.hid hNewS
  have hEx := Lib.hid hNewE
  clear hNewS hNewE
  clear hb hrd
  try simp only [Act.put, List.setIfInBounds_toArray, List.set_cons_zero, List.set_cons_succ]
  refine lastOne 8 (by kernel_rfl) rfl (by decide) (fun K hK => ?_)
  go_simp
  refine (ASG.out _).mono ?_
  rintro _ v52 ⟨adr9, nr9, rfl, hnr9, hrd, hb⟩
  have hNewE : (ReadsInt v52 .u32 (some adr9) 34 gs) ∧ (ReadsInt v52 .u32 (some adq9) 34 fs) ∧ (ReadsInt v52 .u32 (some adp9) 34 lm) ∧ (Below w.heap.size w v52) := ⟨hrd, ReadsInt.below (hEx.out.1) hb, ReadsInt.below (hEx.out.2.1) hb, below_more (hEx.out.2.2) (Nat.le_refl _) hb⟩
  refine hK.out _ _ ⟨blk_below (hHeld.out.1) hb, blk_below (hHeld.out.2) hb⟩ (fun hNewS => ?_)
  clear hK K
  clear hHeld hEx
  have hHeld := Lib.hid hNewS
  have hEx := Lib.hid hNewE
  clear hNewS hNewE
  clear hb hrd
  try simp only [Act.put, List.setIfInBounds_toArray, List.set_cons_zero, List.set_cons_succ]
  refine lastOne 9 (by kernel_rfl) rfl (by decide) (fun K hK => ?_)
  go_simp
  refine (SM3.out _ _ _ _ _ hEx.out.2.1 hEx.out.1).mono ?_
  rintro _ v53 ⟨adt9, nt9, rfl, hnt9, hrd, hb⟩
  have hNewE : (ReadsInt v53 .u32 (some adt9) 34 lm) ∧ (ReadsInt v53 .u32 (some adr9) 34 gs) ∧ (ReadsInt v53 .u32 (some adq9) 34 fs) ∧ (ReadsInt v53 .u32 (some adp9) 34 lm) ∧ (Below w.heap.size w v53) := ⟨hrd, ReadsInt.below (hEx.out.1) hb, ReadsInt.below (hEx.out.2.1) hb, ReadsInt.below (hEx.out.2.2.1) hb, below_more (hEx.out.2.2.2) (Nat.le_refl _) hb⟩
  refine hK.out _ _ ⟨blk_below (hHeld.out.1) hb, blk_below (hHeld.out.2) hb⟩ (fun hNewS => ?_)
  clear hK K
  clear hHeld hEx
  have hHeld := Lib.hid hNewS
  have hEx := Lib.hid hNewE
  clear hNewS hNewE
  clear hb hrd
  try simp only [Act.put, List.setIfInBounds_toArray, List.set_cons_zero, List.set_cons_succ]
  refine lastOne 10 (by kernel_rfl) rfl (by decide) (fun K hK => ?_)
  go_simp
  refine (SA3.out _ _ _ _ _ hnp9 hnt9 hEx.out.2.2.2.1 hEx.out.1).mono ?_
  rintro _ v54 ⟨rfl, hb⟩
  have hNewE : (ReadsInt v54 .u32 (some adt9) 34 lm) ∧ (ReadsInt v54 .u32 (some adr9) 34 gs) ∧ (ReadsInt v54 .u32 (some adq9) 34 fs) ∧ (ReadsInt v54 .u32 (some adp9) 34 lm) ∧ (Below w.heap.size w v54) := ⟨ReadsInt.below (hEx.out.1) hb, ReadsInt.below (hEx.out.2.1) hb, ReadsInt.below (hEx.out.2.2.1) hb, ReadsInt.below (hEx.out.2.2.2.1) hb, below_more (hEx.out.2.2.2.2) (Nat.le_refl _) hb⟩
  refine hK.out _ _ ⟨blk_below (hHeld.out.1) hb, blk_below (hHeld.out.2) hb⟩ (fun hNewS => ?_)
  clear hK K
  clear hHeld hEx
  have hHeld := Lib.hid hNewS
  have hEx := Lib.hid hNewE
  clear hNewS hNewE
  clear hb
  try simp only [Act.put, List.setIfInBounds_toArray, List.set_cons_zero, List.set_cons_succ]
  refine lastTake 11 (v := ?_) rfl (by kernel_rfl) (by kernel_rfl) (by kernel_rfl) (by kernel_rfl) (by kernel_rfl) (fun _ _ _ h => h) hHeld.out (yieldsIf_of rfl ?_) ?_
  rotate_left
  · (intro w hSw; go_simp <;> with_reducible rfl)
  try simp only [Act.put, List.setIfInBounds_toArray, List.set_cons_zero, List.set_cons_succ]
  refine Go.Proofs.YtocofkkkblelgaaW.PrintLast.wpAnyLast_done (by kernel_rfl) ?_ _
  have hNewE : (Below w.heap.size w v54) := hEx.out.2.2.2.2
  have hNewS : (v54.heap[w.heap.size]? = some (.cells RF 25 (0, 0))) ∧ (v54.heap[(w.heap.size + 1)]? = some (.cells RG 25 (0, 0))) := hHeld.out
  clear hEx hHeld
  have HE := Lib.hid hNewE
  have HS := Lib.hid hNewS
  clear hNewE hNewS
  go_wp2_with fail
  refine (CON.out _).mono ?_
  rintro _ x1 ⟨rfl, hb⟩
  have B1 := Lib.hid (below_more HE.out (Nat.le_refl _) hb)
  clear hb HE
  go_wp2_with fail
  refine (ASK.out _).mono ?_
  rintro _ x2 ⟨ada, na, rfl, hna, hra, hb⟩
  have B2 := Lib.hid (below_more B1.out (Nat.le_refl _) hb)
  have RA := Lib.hid hra
  clear hb hra B1
  go_wp2_with fail
  refine (NEW.out _).mono ?_
  rintro _ x3 ⟨adb, nb, rfl, hnb, hrb, hb⟩
  have B3 := Lib.hid (below_more B2.out (Nat.le_refl _) hb)
  have RB := Lib.hid hrb
  have RA3 := Lib.hid (ReadsInt.below RA.out hb)
  clear hb hrb B2 RA
  go_wp2_with fail
  refine (SA4.out _ _ _ _ _ hna hnb RA3.out RB.out).mono ?_
  rintro _ x4 ⟨rfl, hb⟩
  have B4 := Lib.hid (below_more B3.out (Nat.le_refl _) hb)
  clear hb B3 RA3 RB
  go_wp2_with fail
  refine (KN.out _).mono ?_
  rintro _ x5 ⟨rfl, hb⟩
  have B5 := Lib.hid (below_more B4.out (Nat.le_refl _) hb)
  clear hb B4
  go_wp2_with fail
  go_ret
  exact ⟨rfl, B5.out⟩
end Go.Proofs.Ytocofkkkblelgaa.H
