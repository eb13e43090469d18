/-
DataBytes.
-/
import Derived.Test.YtgfmeiddicodoaaProg
import Derived.WalkKit
import Derived.WalkSpells
import Derived.WalkLawsBesides
import Derived.Handy
import Derived.Lib.Hide
import Derived.Deep.QuietTactic
import Derived.BigQuiet
import Derived.Test.YtgfmeiddicodoaaHRConc
import Derived.Test.YtgfmeiddicodoaaWWords
set_option linter.unusedVariables false
set_option linter.unusedSimpArgs false
namespace Go.Proofs.Ytgfmeiddicodoaa.H
open Go.RowKit Go.Proofs.YtgfmeiddicodoaaW.PrintWords

attribute [local go_sem high] eqDn
set_option maxHeartbeats 8000000 in
theorem DataBytes_less (x0 x1 x2 x3 x4 x5 x6 x7 x8 : Int) (A : Option Addr) (c n : Nat) (L B : List Int) (hn : L.length = n) (hs : ¬ 200 < n) (hs2 : n < 64) (FA : ∀ A c w, ReadsInt w .u8 A n L → Calls Try.prog 32 #[.slice A n c] w fun e w' => e = .returned (.tuple #[.agg #[.int .u32 0, .int .u32 0, .int .u64 0, .int .u64 0, .int .u64 0, .int .u64 0, .int .u64 0, .int .u64 0, .int .u64 0], .int .i64 9]) ∧ Below w.heap.size w w')
    (BY : (∀ w, Calls Try.prog 33 #[.agg #[.int .u32 x0, .int .u32 x1, .int .u64 x2, .int .u64 x3, .int .u64 x4, .int .u64 x5, .int .u64 x6, .int .u64 x7, .int .u64 x8]] w fun e w' => ∃ v, e = .returned v ∧ w'.ownsRow w.heap.size 5 1 v 64 (nums .u8 B) ∧ Below w.heap.size w w')) (RB : (∀ w, Calls Try.prog 34 #[.agg #[.int .u32 x0, .int .u32 x1, .int .u64 x2, .int .u64 x3, .int .u64 x4, .int .u64 x5, .int .u64 x6, .int .u64 x7, .int .u64 x8]] w fun e w' => ∃ v, e = .returned v ∧ w'.ownsRow w.heap.size 5 1 v 64 (nums .u8 B) ∧ Below w.heap.size w w')) (w : World) (hL : ReadsInt w .u8 A n L) :
    Calls Try.prog 13 #[.agg #[.int .u32 x0, .int .u32 x1, .int .u64 x2, .int .u64 x3, .int .u64 x4, .int .u64 x5, .int .u64 x6, .int .u64 x7, .int .u64 x8], .slice A n c] w fun e w' => e = .returned (.bool true) ∧ Below w.heap.size w w' := by
  have KN := Lib.hid knows_walk
  have HI := Lib.hid (info_data (.int .u32 x0) (.int .u32 x1) (.int .u64 x2) (.int .u64 x3) (.int .u64 x4) (.int .u64 x5) (.int .u64 x6) (.int .u64 x7) (.int .u64 x8))
  have HY := Lib.hid (info_data (.int .u32 0) (.int .u32 0) (.int .u64 0) (.int .u64 0) (.int .u64 0) (.int .u64 0) (.int .u64 0) (.int .u64 0) (.int .u64 0))
  have OY := Lib.hid (one_data (0) (0) (0) (0) (0) (0) (0) (0) (0))
  have Q0 := Lib.hid (heap_alloc_new w (Obj.cells #[.int .u32 x0, .int .u32 x1, .int .u64 x2, .int .u64 x3, .int .u64 x4, .int .u64 x5, .int .u64 x6, .int .u64 x7, .int .u64 x8] 26))
  have Q3 := Lib.hid ((Below.refl w.heap.size w).alloc (Nat.le_refl _) (Obj.cells #[.int .u32 x0, .int .u32 x1, .int .u64 x2, .int .u64 x3, .int .u64 x4, .int .u64 x5, .int .u64 x6, .int .u64 x7, .int .u64 x8] 26))
  replace FA := Lib.hid FA
  replace BY := Lib.hid BY
  replace RB := Lib.hid RB
  have RL := Lib.hid hL
  clear hL
  have HN := Lib.hid hn
  clear hn
  have OL := own_lit (w.alloc (Obj.cells #[.int .u32 x0, .int .u32 x1, .int .u64 x2, .int .u64 x3, .int .u64 x4, .int .u64 x5, .int .u64 x6, .int .u64 x7, .int .u64 x8] 26)) w.heap.size 5 .u8 [] Q3.out.size (by simp)
  rw [show (w.alloc (Obj.cells #[.int .u32 x0, .int .u32 x1, .int .u64 x2, .int .u64 x3, .int .u64 x4, .int .u64 x5, .int .u64 x6, .int .u64 x7, .int .u64 x8] 26)).heap.size = w.heap.size + 1 from Array.size_push _] at OL
  replace OL := Lib.hid OL
  go_enter Try.func13, Try.ntmps13
  go_wp2_with (at_builtin; go_must (refine print_append_row (w0 := w) (W := (w.alloc (Obj.cells #[.int .u32 x0, .int .u32 x1, .int .u64 x2, .int .u64 x3, .int .u64 x4, .int .u64 x5, .int .u64 x6, .int .u64 x7, .int .u64 x8] 26)).alloc (.cells #[] 5)) w.heap.size rfl (.tmp 12) (.tmp 13) 49 5 .u8 1 rfl Try.underlying49 Try.info8d (by decide) (.slice (some ⟨w.heap.size + 1, 0, none⟩) 0 0) [] L A n c rfl rfl OL.out (RL.out.below (Q3.out.alloc Q3.out.size _)) (Q3.out.alloc Q3.out.size _) (by simp <;> omega) (by simp; omega) ?_); intro v1 w5 ho hb hg hat; have HO5 := Lib.hid ho; have HB5 := Lib.hid hb; have HG5 := Lib.hid hg; clear ho hb hg hat)
  have hx5 := blk_grown (blk_alloc Q0.out (.cells #[] 5)) HG5.out (by intro h; have := blk_lt Q0.out; simp [Value.ownBlock] at h <;> omega)
  have ho5 : w5.ownsRow w.heap.size 5 1 v1 L.length (nums .u8 L) := HO5.out
  rw [HN.out] at ho5
  have X5 := Lib.hid hx5
  have O5 := Lib.hid ho5
  clear HO5 HG5 hx5 ho5 Q0
  obtain ⟨A5, c5, rfl, hr5⟩ := own_reads O5.out
  have R5 := Lib.hid hr5
  clear hr5 O5
  refine (FA.out A5 c5 w5 R5.out).mono ?_
  rintro e w6 ⟨rfl, hb⟩
  have X6 := Lib.hid (blk_below X5.out hb)
  have RL6 := Lib.hid (RL.out.below (HB5.out.trans (hb.mono HB5.out.size)))
  have HB6 := Lib.hid (HB5.out.trans (hb.mono HB5.out.size))
  clear hb
  obtain ⟨W7, hW7⟩ : ∃ W7, (w6.alloc (.cells #[.int .u32 0, .int .u32 0, .int .u64 0, .int .u64 0, .int .u64 0, .int .u64 0, .int .u64 0, .int .u64 0, .int .u64 0] 26)).setRow w6.heap.size #[.int .u32 0, .int .u32 0, .int .u64 0, .int .u64 0, .int .u64 0, .int .u64 0, .int .u64 0, .int .u64 0, .int .u64 0] = W7 := ⟨_, rfl⟩
  have r7 := heap_setRow_same (w6.alloc (.cells #[.int .u32 0, .int .u32 0, .int .u64 0, .int .u64 0, .int .u64 0, .int .u64 0, .int .u64 0, .int .u64 0, .int .u64 0] 26)) w6.heap.size #[.int .u32 0, .int .u32 0, .int .u64 0, .int .u64 0, .int .u64 0, .int .u64 0, .int .u64 0, .int .u64 0, .int .u64 0] _ _ _ (heap_alloc_new w6 (.cells #[.int .u32 0, .int .u32 0, .int .u64 0, .int .u64 0, .int .u64 0, .int .u64 0, .int .u64 0, .int .u64 0, .int .u64 0] 26))
  rw [hW7] at r7
  have b7 : Below w6.heap.size w6 W7 := by rw [← hW7]; exact ((Below.refl _ _).alloc (Nat.le_refl _) _).trans ⟨rfl, rfl, rfl, by simp, fun k hk => heap_setRow_other _ _ _ _ (by omega)⟩
  have HW7 := Lib.hid hW7
  have Y7 := Lib.hid r7
  have X7 := Lib.hid (blk_below X6.out b7)
  have RL7 := Lib.hid (RL6.out.below b7)
  have HB7 := Lib.hid (HB6.out.trans (b7.mono HB6.out.size))
  have hy := Lib.hid (HB6.out.size)
  clear hW7 r7 b7
  go_wp2_with (refine wpList_store_row rfl 26 (.tmp 5) (.tmp 16) rfl rfl w6.heap.size rfl #[.int .u32 0, .int .u32 0, .int .u64 0, .int .u64 0, .int .u64 0, .int .u64 0, .int .u64 0, .int .u64 0, .int .u64 0] rfl _ _ (heap_alloc_new _ _) rfl HY.out OY.out ?_; rw [HW7.out])
  clear HW7 X6 RL6 HB6 X5 R5 HB5 Q3 RL
  have hNewE : (W7.drew.heap[w6.heap.size]? = some (.cells #[.int .u32 0, .int .u32 0, .int .u64 0, .int .u64 0, .int .u64 0, .int .u64 0, .int .u64 0, .int .u64 0, .int .u64 0] 26 (0, 0))) ∧ (ReadsInt W7.drew .u8 A n L) ∧ (Below w.heap.size w W7.drew) := ⟨Y7.out, RL7.out, HB7.out.drew⟩
  have hEx := Lib.hid hNewE
  clear hNewE
  refine Go.Proofs.YtgfmeiddicodoaaW.PrintLast.wp_region_last_drew (S := fun w' => (w'.heap[w.heap.size]? = some (.cells #[.int .u32 x0, .int .u32 x1, .int .u64 x2, .int .u64 x3, .int .u64 x4, .int .u64 x5, .int .u64 x6, .int .u64 x7, .int .u64 x8] 26 (0, 0)))) (ds := []) (by kernel_rfl) X7.out (fun hNewS => ?_)
  have hHeld := Lib.hid hNewS
  clear hNewS
  refine lastTake 0 rfl (by kernel_rfl) (by kernel_rfl) (by kernel_rfl) (by kernel_rfl) (by kernel_rfl) (fun _ _ _ h => h) hHeld.out (yieldsIf_row rfl 26 (.tmp 2) rfl _ rfl _ #[.int .u32 x0, .int .u32 x1, .int .u64 x2, .int .u64 x3, .int .u64 x4, .int .u64 x5, .int .u64 x6, .int .u64 x7, .int .u64 x8] _ _ (fun _ h => h) Try.underlying26 rfl HI.out) ?_
  try simp only [Act.put, List.setIfInBounds_toArray, List.set_cons_zero, List.set_cons_succ]
  refine lastTake 3 rfl (by kernel_rfl) (by kernel_rfl) (by kernel_rfl) (by kernel_rfl) (by kernel_rfl) (fun _ _ _ h => h) hHeld.out (yieldsIf_row rfl 26 (.tmp 2) rfl _ rfl _ #[.int .u32 x0, .int .u32 x1, .int .u64 x2, .int .u64 x3, .int .u64 x4, .int .u64 x5, .int .u64 x6, .int .u64 x7, .int .u64 x8] _ _ (fun _ h => h) Try.underlying26 rfl HI.out) ?_
  try simp only [Act.put, List.setIfInBounds_toArray, List.set_cons_zero, List.set_cons_succ]
  refine lastOne 1 (by kernel_rfl) rfl (by decide) (fun K hK => ?_)
  go_simp
  refine (BY.out _).mono ?_
  rintro _ v29 ⟨v, rfl, ho, hb⟩
  obtain ⟨A27, c28, rfl⟩ := own_slice ho
  have ho2 := own_weaken ho (hEx.out.2.2).size
  have hNewE : (v29.ownsRow w.heap.size 5 1 (.slice A27 64 c28) 64 (nums .u8 B)) ∧ (v29.heap[w6.heap.size]? = some (.cells #[.int .u32 0, .int .u32 0, .int .u64 0, .int .u64 0, .int .u64 0, .int .u64 0, .int .u64 0, .int .u64 0, .int .u64 0] 26 (0, 0))) ∧ (ReadsInt v29 .u8 A n L) ∧ (Below w.heap.size w v29) := ⟨ho2, blk_below (hEx.out.1) hb, ReadsInt.below (hEx.out.2.1) hb, below_more (hEx.out.2.2) (Nat.le_refl _) hb⟩
  refine hK.out _ _ (blk_below (hHeld.out) hb) (fun hNewS => ?_)
  clear hK K
  clear hHeld hEx
  have hHeld := Lib.hid hNewS
  have hEx := Lib.hid hNewE
  clear hNewS hNewE
  clear ho ho2 hb
  try simp only [Act.put, List.setIfInBounds_toArray, List.set_cons_zero, List.set_cons_succ]
  refine Go.Proofs.YtgfmeiddicodoaaW.PrintLast.wpAnyLast_ready (rs := [2, 4]) (by kernel_rfl) (by simp) (Go.Proofs.YtgfmeiddicodoaaW.PrintLast.AllReadyL.cons rfl (by decide) (fun K hK => ?_) (Go.Proofs.YtgfmeiddicodoaaW.PrintLast.AllReadyL.cons rfl (by decide) (fun K hK => ?_) (Go.Proofs.YtgfmeiddicodoaaW.PrintLast.AllReadyL.nil)))
  · have hcv := own_string Try.underlying49 Try.underlying5 Try.underlying9 hEx.out.1
    go_simp
    have hNewE : (v29.ownsRow w.heap.size 5 1 (.slice A27 64 c28) 64 (nums .u8 B)) ∧ (v29.heap[w6.heap.size]? = some (.cells #[.int .u32 0, .int .u32 0, .int .u64 0, .int .u64 0, .int .u64 0, .int .u64 0, .int .u64 0, .int .u64 0, .int .u64 0] 26 (0, 0))) ∧ (ReadsInt v29 .u8 A n L) ∧ (Below w.heap.size w v29) := ⟨(hEx.out.1), (hEx.out.2.1), (hEx.out.2.2.1), (hEx.out.2.2.2)⟩
    refine hK.out _ _ ((hHeld.out)) (fun hNewS => ?_)
    clear hK K
    clear hHeld hEx
    have hHeld := Lib.hid hNewS
    have hEx := Lib.hid hNewE
    clear hNewS hNewE
    clear hcv
    try simp only [Act.put, List.setIfInBounds_toArray, List.set_cons_zero, List.set_cons_succ]
    refine lastOne 4 (by kernel_rfl) rfl (by decide) (fun K hK => ?_)
    go_simp
    refine (RB.out _).mono ?_
    rintro _ v32 ⟨v, rfl, ho, hb⟩
    obtain ⟨A30, c31, rfl⟩ := own_slice ho
    have ho2 := own_weaken ho (hEx.out.2.2.2).size
    have hNewE : (v32.ownsRow w.heap.size 5 1 (.slice A30 64 c31) 64 (nums .u8 B)) ∧ (v32.ownsRow w.heap.size 5 1 (.slice A27 64 c28) 64 (nums .u8 B)) ∧ (v32.heap[w6.heap.size]? = some (.cells #[.int .u32 0, .int .u32 0, .int .u64 0, .int .u64 0, .int .u64 0, .int .u64 0, .int .u64 0, .int .u64 0, .int .u64 0] 26 (0, 0))) ∧ (ReadsInt v32 .u8 A n L) ∧ (Below w.heap.size w v32) := ⟨ho2, own_move_below (hEx.out.1) hb, blk_below (hEx.out.2.1) hb, ReadsInt.below (hEx.out.2.2.1) hb, below_more (hEx.out.2.2.2) (Nat.le_refl _) hb⟩
    refine hK.out _ _ (blk_below (hHeld.out) hb) (fun hNewS => ?_)
    clear hK K
    clear hHeld hEx
    have hHeld := Lib.hid hNewS
    have hEx := Lib.hid hNewE
    clear hNewS hNewE
    clear ho ho2 hb
    try simp only [Act.put, List.setIfInBounds_toArray, List.set_cons_zero, List.set_cons_succ]
    have hcv := own_string Try.underlying49 Try.underlying5 Try.underlying9 hEx.out.1
    refine lastOne 5 (by kernel_rfl) rfl (by decide) (fun K hK => ?_)
    go_simp
    have hNewE : (v32.ownsRow w.heap.size 5 1 (.slice A30 64 c31) 64 (nums .u8 B)) ∧ (v32.ownsRow w.heap.size 5 1 (.slice A27 64 c28) 64 (nums .u8 B)) ∧ (v32.heap[w6.heap.size]? = some (.cells #[.int .u32 0, .int .u32 0, .int .u64 0, .int .u64 0, .int .u64 0, .int .u64 0, .int .u64 0, .int .u64 0, .int .u64 0] 26 (0, 0))) ∧ (ReadsInt v32 .u8 A n L) ∧ (Below w.heap.size w v32) := ⟨(hEx.out.1), (hEx.out.2.1), (hEx.out.2.2.1), (hEx.out.2.2.2.1), (hEx.out.2.2.2.2)⟩
    refine hK.out _ _ ((hHeld.out)) (fun hNewS => ?_)
    clear hK K
    clear hHeld hEx
    have hHeld := Lib.hid hNewS
    have hEx := Lib.hid hNewE
    clear hNewS hNewE
    clear hcv
    try simp only [Act.put, List.setIfInBounds_toArray, List.set_cons_zero, List.set_cons_succ]
    refine lastTake 6 rfl (by kernel_rfl) (by kernel_rfl) (by kernel_rfl) (by kernel_rfl) (by kernel_rfl) (fun _ _ _ h => h) hHeld.out (yieldsIf_of (v := .bool false) rfl (fun w h => by go_simp)) ?_
    try simp only [Act.put, List.setIfInBounds_toArray, List.set_cons_zero, List.set_cons_succ]
    refine Go.Proofs.YtgfmeiddicodoaaW.PrintLast.wpAnyLast_done (by kernel_rfl) ?_ _
    have G1 := Lib.hid hEx.out.2.2.1
    have G2 := Lib.hid hEx.out.2.2.2.1
    have G4 := Lib.hid hEx.out.2.2.2.2
    clear hHeld hEx X7 Y7 RL7 HB7
    have hE : eqDB 0 0 0 0 0 0 0 0 0 0 0 0 0 0 0 0 0 0 = true := by decide
    go_wp2_with (refine wpList_load_row rfl 26 (.tmp 5) rfl _ rfl _ _ _ _ G1.out Try.underlying26 rfl HY.out ?_)
    refine (KN.out _).mono ?_
    rintro e w9 ⟨rfl, hb⟩
    have HF := Lib.hid (below_more G4.out (Nat.le_refl _) hb)
    clear hb
    go_wp2_with fail
    go_ret
    exact ⟨rfl, HF.out⟩
  · go_simp
    refine (RB.out _).mono ?_
    rintro _ v35 ⟨v, rfl, ho, hb⟩
    obtain ⟨A33, c34, rfl⟩ := own_slice ho
    have ho2 := own_weaken ho (hEx.out.2.2.2).size
    have hNewE : (v35.ownsRow w.heap.size 5 1 (.slice A33 64 c34) 64 (nums .u8 B)) ∧ (v35.ownsRow w.heap.size 5 1 (.slice A27 64 c28) 64 (nums .u8 B)) ∧ (v35.heap[w6.heap.size]? = some (.cells #[.int .u32 0, .int .u32 0, .int .u64 0, .int .u64 0, .int .u64 0, .int .u64 0, .int .u64 0, .int .u64 0, .int .u64 0] 26 (0, 0))) ∧ (ReadsInt v35 .u8 A n L) ∧ (Below w.heap.size w v35) := ⟨ho2, own_move_below (hEx.out.1) hb, blk_below (hEx.out.2.1) hb, ReadsInt.below (hEx.out.2.2.1) hb, below_more (hEx.out.2.2.2) (Nat.le_refl _) hb⟩
    refine hK.out _ _ (blk_below (hHeld.out) hb) (fun hNewS => ?_)
    clear hK K
    clear hHeld hEx
    have hHeld := Lib.hid hNewS
    have hEx := Lib.hid hNewE
    clear hNewS hNewE
    clear ho ho2 hb
    try simp only [Act.put, List.setIfInBounds_toArray, List.set_cons_zero, List.set_cons_succ]
    refine Go.Proofs.YtgfmeiddicodoaaW.PrintLast.wpAnyLast_ready (rs := [2, 5]) (by kernel_rfl) (by simp) (Go.Proofs.YtgfmeiddicodoaaW.PrintLast.AllReadyL.cons rfl (by decide) (fun K hK => ?_) (Go.Proofs.YtgfmeiddicodoaaW.PrintLast.AllReadyL.cons rfl (by decide) (fun K hK => ?_) (Go.Proofs.YtgfmeiddicodoaaW.PrintLast.AllReadyL.nil)))
    · have hcv := own_string Try.underlying49 Try.underlying5 Try.underlying9 hEx.out.2.1
      go_simp
      have hNewE : (v35.ownsRow w.heap.size 5 1 (.slice A33 64 c34) 64 (nums .u8 B)) ∧ (v35.ownsRow w.heap.size 5 1 (.slice A27 64 c28) 64 (nums .u8 B)) ∧ (v35.heap[w6.heap.size]? = some (.cells #[.int .u32 0, .int .u32 0, .int .u64 0, .int .u64 0, .int .u64 0, .int .u64 0, .int .u64 0, .int .u64 0, .int .u64 0] 26 (0, 0))) ∧ (ReadsInt v35 .u8 A n L) ∧ (Below w.heap.size w v35) := ⟨(hEx.out.1), (hEx.out.2.1), (hEx.out.2.2.1), (hEx.out.2.2.2.1), (hEx.out.2.2.2.2)⟩
      refine hK.out _ _ ((hHeld.out)) (fun hNewS => ?_)
      clear hK K
      clear hHeld hEx
      have hHeld := Lib.hid hNewS
      have hEx := Lib.hid hNewE
      clear hNewS hNewE
      clear hcv
      try simp only [Act.put, List.setIfInBounds_toArray, List.set_cons_zero, List.set_cons_succ]
      have hcv := own_string Try.underlying49 Try.underlying5 Try.underlying9 hEx.out.1
      refine lastOne 5 (by kernel_rfl) rfl (by decide) (fun K hK => ?_)
      go_simp
      have hNewE : (v35.ownsRow w.heap.size 5 1 (.slice A33 64 c34) 64 (nums .u8 B)) ∧ (v35.ownsRow w.heap.size 5 1 (.slice A27 64 c28) 64 (nums .u8 B)) ∧ (v35.heap[w6.heap.size]? = some (.cells #[.int .u32 0, .int .u32 0, .int .u64 0, .int .u64 0, .int .u64 0, .int .u64 0, .int .u64 0, .int .u64 0, .int .u64 0] 26 (0, 0))) ∧ (ReadsInt v35 .u8 A n L) ∧ (Below w.heap.size w v35) := ⟨(hEx.out.1), (hEx.out.2.1), (hEx.out.2.2.1), (hEx.out.2.2.2.1), (hEx.out.2.2.2.2)⟩
      refine hK.out _ _ ((hHeld.out)) (fun hNewS => ?_)
      clear hK K
      clear hHeld hEx
      have hHeld := Lib.hid hNewS
      have hEx := Lib.hid hNewE
      clear hNewS hNewE
      clear hcv
      try simp only [Act.put, List.setIfInBounds_toArray, List.set_cons_zero, List.set_cons_succ]
      refine lastTake 6 rfl (by kernel_rfl) (by kernel_rfl) (by kernel_rfl) (by kernel_rfl) (by kernel_rfl) (fun _ _ _ h => h) hHeld.out (yieldsIf_of (v := .bool false) rfl (fun w h => by go_simp)) ?_
      try simp only [Act.put, List.setIfInBounds_toArray, List.set_cons_zero, List.set_cons_succ]
      refine Go.Proofs.YtgfmeiddicodoaaW.PrintLast.wpAnyLast_done (by kernel_rfl) ?_ _
      have G1 := Lib.hid hEx.out.2.2.1
      have G2 := Lib.hid hEx.out.2.2.2.1
      have G4 := Lib.hid hEx.out.2.2.2.2
      clear hHeld hEx X7 Y7 RL7 HB7
      have hE : eqDB 0 0 0 0 0 0 0 0 0 0 0 0 0 0 0 0 0 0 = true := by decide
      go_wp2_with (refine wpList_load_row rfl 26 (.tmp 5) rfl _ rfl _ _ _ _ G1.out Try.underlying26 rfl HY.out ?_)
      refine (KN.out _).mono ?_
      rintro e w9 ⟨rfl, hb⟩
      have HF := Lib.hid (below_more G4.out (Nat.le_refl _) hb)
      clear hb
      go_wp2_with fail
      go_ret
      exact ⟨rfl, HF.out⟩
    · have hcv := own_string Try.underlying49 Try.underlying5 Try.underlying9 hEx.out.1
      go_simp
      have hNewE : (v35.ownsRow w.heap.size 5 1 (.slice A33 64 c34) 64 (nums .u8 B)) ∧ (v35.ownsRow w.heap.size 5 1 (.slice A27 64 c28) 64 (nums .u8 B)) ∧ (v35.heap[w6.heap.size]? = some (.cells #[.int .u32 0, .int .u32 0, .int .u64 0, .int .u64 0, .int .u64 0, .int .u64 0, .int .u64 0, .int .u64 0, .int .u64 0] 26 (0, 0))) ∧ (ReadsInt v35 .u8 A n L) ∧ (Below w.heap.size w v35) := ⟨(hEx.out.1), (hEx.out.2.1), (hEx.out.2.2.1), (hEx.out.2.2.2.1), (hEx.out.2.2.2.2)⟩
      refine hK.out _ _ ((hHeld.out)) (fun hNewS => ?_)
      clear hK K
      clear hHeld hEx
      have hHeld := Lib.hid hNewS
      have hEx := Lib.hid hNewE
      clear hNewS hNewE
      clear hcv
      try simp only [Act.put, List.setIfInBounds_toArray, List.set_cons_zero, List.set_cons_succ]
      have hcv := own_string Try.underlying49 Try.underlying5 Try.underlying9 hEx.out.2.1
      refine lastOne 2 (by kernel_rfl) rfl (by decide) (fun K hK => ?_)
      go_simp
      have hNewE : (v35.ownsRow w.heap.size 5 1 (.slice A33 64 c34) 64 (nums .u8 B)) ∧ (v35.ownsRow w.heap.size 5 1 (.slice A27 64 c28) 64 (nums .u8 B)) ∧ (v35.heap[w6.heap.size]? = some (.cells #[.int .u32 0, .int .u32 0, .int .u64 0, .int .u64 0, .int .u64 0, .int .u64 0, .int .u64 0, .int .u64 0, .int .u64 0] 26 (0, 0))) ∧ (ReadsInt v35 .u8 A n L) ∧ (Below w.heap.size w v35) := ⟨(hEx.out.1), (hEx.out.2.1), (hEx.out.2.2.1), (hEx.out.2.2.2.1), (hEx.out.2.2.2.2)⟩
      refine hK.out _ _ ((hHeld.out)) (fun hNewS => ?_)
      clear hK K
      clear hHeld hEx
      have hHeld := Lib.hid hNewS
      have hEx := Lib.hid hNewE
      clear hNewS hNewE
      clear hcv
      try simp only [Act.put, List.setIfInBounds_toArray, List.set_cons_zero, List.set_cons_succ]
      refine lastTake 6 rfl (by kernel_rfl) (by kernel_rfl) (by kernel_rfl) (by kernel_rfl) (by kernel_rfl) (fun _ _ _ h => h) hHeld.out (yieldsIf_of (v := .bool false) rfl (fun w h => by go_simp)) ?_
      try simp only [Act.put, List.setIfInBounds_toArray, List.set_cons_zero, List.set_cons_succ]
      refine Go.Proofs.YtgfmeiddicodoaaW.PrintLast.wpAnyLast_done (by kernel_rfl) ?_ _
      have G1 := Lib.hid hEx.out.2.2.1
      have G2 := Lib.hid hEx.out.2.2.2.1
      have G4 := Lib.hid hEx.out.2.2.2.2
      clear hHeld hEx X7 Y7 RL7 HB7
      have hE : eqDB 0 0 0 0 0 0 0 0 0 0 0 0 0 0 0 0 0 0 = true := by decide
      go_wp2_with (refine wpList_load_row rfl 26 (.tmp 5) rfl _ rfl _ _ _ _ G1.out Try.underlying26 rfl HY.out ?_)
      refine (KN.out _).mono ?_
      rintro e w9 ⟨rfl, hb⟩
      have HF := Lib.hid (below_more G4.out (Nat.le_refl _) hb)
      clear hb
      go_wp2_with fail
      go_ret
      exact ⟨rfl, HF.out⟩
set_option maxHeartbeats 8000000 in
theorem DataBytes_more (x0 x1 x2 x3 x4 x5 x6 x7 x8 : Int) (A : Option Addr) (c n : Nat) (L B : List Int) (hn : L.length = n) (hs : ¬ 200 < n) (hs2 : ¬ n < 64) (hs3 : 64 < n) (FA : ∀ A c w, ReadsInt w .u8 A n L → Calls Try.prog 32 #[.slice A n c] w fun e w' => e = .returned (.tuple #[.agg #[.int .u32 0, .int .u32 0, .int .u64 0, .int .u64 0, .int .u64 0, .int .u64 0, .int .u64 0, .int .u64 0, .int .u64 0], .int .i64 3]) ∧ Below w.heap.size w w')
    (BY : (∀ w, Calls Try.prog 33 #[.agg #[.int .u32 x0, .int .u32 x1, .int .u64 x2, .int .u64 x3, .int .u64 x4, .int .u64 x5, .int .u64 x6, .int .u64 x7, .int .u64 x8]] w fun e w' => ∃ v, e = .returned v ∧ w'.ownsRow w.heap.size 5 1 v 64 (nums .u8 B) ∧ Below w.heap.size w w')) (RB : (∀ w, Calls Try.prog 34 #[.agg #[.int .u32 x0, .int .u32 x1, .int .u64 x2, .int .u64 x3, .int .u64 x4, .int .u64 x5, .int .u64 x6, .int .u64 x7, .int .u64 x8]] w fun e w' => ∃ v, e = .returned v ∧ w'.ownsRow w.heap.size 5 1 v 64 (nums .u8 B) ∧ Below w.heap.size w w')) (w : World) (hL : ReadsInt w .u8 A n L) :
    Calls Try.prog 13 #[.agg #[.int .u32 x0, .int .u32 x1, .int .u64 x2, .int .u64 x3, .int .u64 x4, .int .u64 x5, .int .u64 x6, .int .u64 x7, .int .u64 x8], .slice A n c] w fun e w' => e = .returned (.bool true) ∧ Below w.heap.size w w' := by
  have KN := Lib.hid knows_walk
  have HI := Lib.hid (info_data (.int .u32 x0) (.int .u32 x1) (.int .u64 x2) (.int .u64 x3) (.int .u64 x4) (.int .u64 x5) (.int .u64 x6) (.int .u64 x7) (.int .u64 x8))
  have HY := Lib.hid (info_data (.int .u32 0) (.int .u32 0) (.int .u64 0) (.int .u64 0) (.int .u64 0) (.int .u64 0) (.int .u64 0) (.int .u64 0) (.int .u64 0))
  have OY := Lib.hid (one_data (0) (0) (0) (0) (0) (0) (0) (0) (0))
  have Q0 := Lib.hid (heap_alloc_new w (Obj.cells #[.int .u32 x0, .int .u32 x1, .int .u64 x2, .int .u64 x3, .int .u64 x4, .int .u64 x5, .int .u64 x6, .int .u64 x7, .int .u64 x8] 26))
  have Q3 := Lib.hid ((Below.refl w.heap.size w).alloc (Nat.le_refl _) (Obj.cells #[.int .u32 x0, .int .u32 x1, .int .u64 x2, .int .u64 x3, .int .u64 x4, .int .u64 x5, .int .u64 x6, .int .u64 x7, .int .u64 x8] 26))
  replace FA := Lib.hid FA
  replace BY := Lib.hid BY
  replace RB := Lib.hid RB
  have RL := Lib.hid hL
  clear hL
  have HN := Lib.hid hn
  clear hn
  have OL := own_lit (w.alloc (Obj.cells #[.int .u32 x0, .int .u32 x1, .int .u64 x2, .int .u64 x3, .int .u64 x4, .int .u64 x5, .int .u64 x6, .int .u64 x7, .int .u64 x8] 26)) w.heap.size 5 .u8 [] Q3.out.size (by simp)
  rw [show (w.alloc (Obj.cells #[.int .u32 x0, .int .u32 x1, .int .u64 x2, .int .u64 x3, .int .u64 x4, .int .u64 x5, .int .u64 x6, .int .u64 x7, .int .u64 x8] 26)).heap.size = w.heap.size + 1 from Array.size_push _] at OL
  replace OL := Lib.hid OL
  go_enter Try.func13, Try.ntmps13
  go_wp2_with (at_builtin; go_must (refine print_append_row (w0 := w) (W := (w.alloc (Obj.cells #[.int .u32 x0, .int .u32 x1, .int .u64 x2, .int .u64 x3, .int .u64 x4, .int .u64 x5, .int .u64 x6, .int .u64 x7, .int .u64 x8] 26)).alloc (.cells #[] 5)) w.heap.size rfl (.tmp 12) (.tmp 13) 49 5 .u8 1 rfl Try.underlying49 Try.info8d (by decide) (.slice (some ⟨w.heap.size + 1, 0, none⟩) 0 0) [] L A n c rfl rfl OL.out (RL.out.below (Q3.out.alloc Q3.out.size _)) (Q3.out.alloc Q3.out.size _) (by simp <;> omega) (by simp; omega) ?_); intro v1 w5 ho hb hg hat; have HO5 := Lib.hid ho; have HB5 := Lib.hid hb; have HG5 := Lib.hid hg; clear ho hb hg hat)
  have hx5 := blk_grown (blk_alloc Q0.out (.cells #[] 5)) HG5.out (by intro h; have := blk_lt Q0.out; simp [Value.ownBlock] at h <;> omega)
  have ho5 : w5.ownsRow w.heap.size 5 1 v1 L.length (nums .u8 L) := HO5.out
  rw [HN.out] at ho5
  have X5 := Lib.hid hx5
  have O5 := Lib.hid ho5
  clear HO5 HG5 hx5 ho5 Q0
  obtain ⟨A5, c5, rfl, hr5⟩ := own_reads O5.out
  have R5 := Lib.hid hr5
  clear hr5 O5
  refine (FA.out A5 c5 w5 R5.out).mono ?_
  rintro e w6 ⟨rfl, hb⟩
  have X6 := Lib.hid (blk_below X5.out hb)
  have RL6 := Lib.hid (RL.out.below (HB5.out.trans (hb.mono HB5.out.size)))
  have HB6 := Lib.hid (HB5.out.trans (hb.mono HB5.out.size))
  clear hb
  obtain ⟨W7, hW7⟩ : ∃ W7, (w6.alloc (.cells #[.int .u32 0, .int .u32 0, .int .u64 0, .int .u64 0, .int .u64 0, .int .u64 0, .int .u64 0, .int .u64 0, .int .u64 0] 26)).setRow w6.heap.size #[.int .u32 0, .int .u32 0, .int .u64 0, .int .u64 0, .int .u64 0, .int .u64 0, .int .u64 0, .int .u64 0, .int .u64 0] = W7 := ⟨_, rfl⟩
  have r7 := heap_setRow_same (w6.alloc (.cells #[.int .u32 0, .int .u32 0, .int .u64 0, .int .u64 0, .int .u64 0, .int .u64 0, .int .u64 0, .int .u64 0, .int .u64 0] 26)) w6.heap.size #[.int .u32 0, .int .u32 0, .int .u64 0, .int .u64 0, .int .u64 0, .int .u64 0, .int .u64 0, .int .u64 0, .int .u64 0] _ _ _ (heap_alloc_new w6 (.cells #[.int .u32 0, .int .u32 0, .int .u64 0, .int .u64 0, .int .u64 0, .int .u64 0, .int .u64 0, .int .u64 0, .int .u64 0] 26))
  rw [hW7] at r7
  have b7 : Below w6.heap.size w6 W7 := by rw [← hW7]; exact ((Below.refl _ _).alloc (Nat.le_refl _) _).trans ⟨rfl, rfl, rfl, by simp, fun k hk => heap_setRow_other _ _ _ _ (by omega)⟩
  have HW7 := Lib.hid hW7
  have Y7 := Lib.hid r7
  have X7 := Lib.hid (blk_below X6.out b7)
  have RL7 := Lib.hid (RL6.out.below b7)
  have HB7 := Lib.hid (HB6.out.trans (b7.mono HB6.out.size))
  have hy := Lib.hid (HB6.out.size)
  clear hW7 r7 b7
  go_wp2_with (refine wpList_store_row rfl 26 (.tmp 5) (.tmp 16) rfl rfl w6.heap.size rfl #[.int .u32 0, .int .u32 0, .int .u64 0, .int .u64 0, .int .u64 0, .int .u64 0, .int .u64 0, .int .u64 0, .int .u64 0] rfl _ _ (heap_alloc_new _ _) rfl HY.out OY.out ?_; rw [HW7.out])
  clear HW7 X6 RL6 HB6 X5 R5 HB5 Q3 RL
  have hNewE : (W7.drew.heap[w6.heap.size]? = some (.cells #[.int .u32 0, .int .u32 0, .int .u64 0, .int .u64 0, .int .u64 0, .int .u64 0, .int .u64 0, .int .u64 0, .int .u64 0] 26 (0, 0))) ∧ (ReadsInt W7.drew .u8 A n L) ∧ (Below w.heap.size w W7.drew) := ⟨Y7.out, RL7.out, HB7.out.drew⟩
  have hEx := Lib.hid hNewE
  clear hNewE
  refine Go.Proofs.YtgfmeiddicodoaaW.PrintLast.wp_region_last_drew (S := fun w' => (w'.heap[w.heap.size]? = some (.cells #[.int .u32 x0, .int .u32 x1, .int .u64 x2, .int .u64 x3, .int .u64 x4, .int .u64 x5, .int .u64 x6, .int .u64 x7, .int .u64 x8] 26 (0, 0)))) (ds := []) (by kernel_rfl) X7.out (fun hNewS => ?_)
  have hHeld := Lib.hid hNewS
  clear hNewS
  refine lastTake 0 rfl (by kernel_rfl) (by kernel_rfl) (by kernel_rfl) (by kernel_rfl) (by kernel_rfl) (fun _ _ _ h => h) hHeld.out (yieldsIf_row rfl 26 (.tmp 2) rfl _ rfl _ #[.int .u32 x0, .int .u32 x1, .int .u64 x2, .int .u64 x3, .int .u64 x4, .int .u64 x5, .int .u64 x6, .int .u64 x7, .int .u64 x8] _ _ (fun _ h => h) Try.underlying26 rfl HI.out) ?_
  try simp only [Act.put, List.setIfInBounds_toArray, List.set_cons_zero, List.set_cons_succ]
  refine lastTake 3 rfl (by kernel_rfl) (by kernel_rfl) (by kernel_rfl) (by kernel_rfl) (by kernel_rfl) (fun _ _ _ h => h) hHeld.out (yieldsIf_row rfl 26 (.tmp 2) rfl _ rfl _ #[.int .u32 x0, .int .u32 x1, .int .u64 x2, .int .u64 x3, .int .u64 x4, .int .u64 x5, .int .u64 x6, .int .u64 x7, .int .u64 x8] _ _ (fun _ h => h) Try.underlying26 rfl HI.out) ?_
  try simp only [Act.put, List.setIfInBounds_toArray, List.set_cons_zero, List.set_cons_succ]
  refine lastOne 1 (by kernel_rfl) rfl (by decide) (fun K hK => ?_)
  go_simp
  refine (BY.out _).mono ?_
  rintro _ v38 ⟨v, rfl, ho, hb⟩
  obtain ⟨A36, c37, rfl⟩ := own_slice ho
  have ho2 := own_weaken ho (hEx.out.2.2).size
  have hNewE : (v38.ownsRow w.heap.size 5 1 (.slice A36 64 c37) 64 (nums .u8 B)) ∧ (v38.heap[w6.heap.size]? = some (.cells #[.int .u32 0, .int .u32 0, .int .u64 0, .int .u64 0, .int .u64 0, .int .u64 0, .int .u64 0, .int .u64 0, .int .u64 0] 26 (0, 0))) ∧ (ReadsInt v38 .u8 A n L) ∧ (Below w.heap.size w v38) := ⟨ho2, blk_below (hEx.out.1) hb, ReadsInt.below (hEx.out.2.1) hb, below_more (hEx.out.2.2) (Nat.le_refl _) hb⟩
  refine hK.out _ _ (blk_below (hHeld.out) hb) (fun hNewS => ?_)
  clear hK K
  clear hHeld hEx
  have hHeld := Lib.hid hNewS
  have hEx := Lib.hid hNewE
  clear hNewS hNewE
  clear ho ho2 hb
  try simp only [Act.put, List.setIfInBounds_toArray, List.set_cons_zero, List.set_cons_succ]
  refine Go.Proofs.YtgfmeiddicodoaaW.PrintLast.wpAnyLast_ready (rs := [2, 4]) (by kernel_rfl) (by simp) (Go.Proofs.YtgfmeiddicodoaaW.PrintLast.AllReadyL.cons rfl (by decide) (fun K hK => ?_) (Go.Proofs.YtgfmeiddicodoaaW.PrintLast.AllReadyL.cons rfl (by decide) (fun K hK => ?_) (Go.Proofs.YtgfmeiddicodoaaW.PrintLast.AllReadyL.nil)))
  · have hcv := own_string Try.underlying49 Try.underlying5 Try.underlying9 hEx.out.1
    go_simp
    have hNewE : (v38.ownsRow w.heap.size 5 1 (.slice A36 64 c37) 64 (nums .u8 B)) ∧ (v38.heap[w6.heap.size]? = some (.cells #[.int .u32 0, .int .u32 0, .int .u64 0, .int .u64 0, .int .u64 0, .int .u64 0, .int .u64 0, .int .u64 0, .int .u64 0] 26 (0, 0))) ∧ (ReadsInt v38 .u8 A n L) ∧ (Below w.heap.size w v38) := ⟨(hEx.out.1), (hEx.out.2.1), (hEx.out.2.2.1), (hEx.out.2.2.2)⟩
    refine hK.out _ _ ((hHeld.out)) (fun hNewS => ?_)
    clear hK K
    clear hHeld hEx
    have hHeld := Lib.hid hNewS
    have hEx := Lib.hid hNewE
    clear hNewS hNewE
    clear hcv
    try simp only [Act.put, List.setIfInBounds_toArray, List.set_cons_zero, List.set_cons_succ]
    refine lastOne 4 (by kernel_rfl) rfl (by decide) (fun K hK => ?_)
    go_simp
    refine (RB.out _).mono ?_
    rintro _ v41 ⟨v, rfl, ho, hb⟩
    obtain ⟨A39, c40, rfl⟩ := own_slice ho
    have ho2 := own_weaken ho (hEx.out.2.2.2).size
    have hNewE : (v41.ownsRow w.heap.size 5 1 (.slice A39 64 c40) 64 (nums .u8 B)) ∧ (v41.ownsRow w.heap.size 5 1 (.slice A36 64 c37) 64 (nums .u8 B)) ∧ (v41.heap[w6.heap.size]? = some (.cells #[.int .u32 0, .int .u32 0, .int .u64 0, .int .u64 0, .int .u64 0, .int .u64 0, .int .u64 0, .int .u64 0, .int .u64 0] 26 (0, 0))) ∧ (ReadsInt v41 .u8 A n L) ∧ (Below w.heap.size w v41) := ⟨ho2, own_move_below (hEx.out.1) hb, blk_below (hEx.out.2.1) hb, ReadsInt.below (hEx.out.2.2.1) hb, below_more (hEx.out.2.2.2) (Nat.le_refl _) hb⟩
    refine hK.out _ _ (blk_below (hHeld.out) hb) (fun hNewS => ?_)
    clear hK K
    clear hHeld hEx
    have hHeld := Lib.hid hNewS
    have hEx := Lib.hid hNewE
    clear hNewS hNewE
    clear ho ho2 hb
    try simp only [Act.put, List.setIfInBounds_toArray, List.set_cons_zero, List.set_cons_succ]
    have hcv := own_string Try.underlying49 Try.underlying5 Try.underlying9 hEx.out.1
    refine lastOne 5 (by kernel_rfl) rfl (by decide) (fun K hK => ?_)
    go_simp
    have hNewE : (v41.ownsRow w.heap.size 5 1 (.slice A39 64 c40) 64 (nums .u8 B)) ∧ (v41.ownsRow w.heap.size 5 1 (.slice A36 64 c37) 64 (nums .u8 B)) ∧ (v41.heap[w6.heap.size]? = some (.cells #[.int .u32 0, .int .u32 0, .int .u64 0, .int .u64 0, .int .u64 0, .int .u64 0, .int .u64 0, .int .u64 0, .int .u64 0] 26 (0, 0))) ∧ (ReadsInt v41 .u8 A n L) ∧ (Below w.heap.size w v41) := ⟨(hEx.out.1), (hEx.out.2.1), (hEx.out.2.2.1), (hEx.out.2.2.2.1), (hEx.out.2.2.2.2)⟩
    refine hK.out _ _ ((hHeld.out)) (fun hNewS => ?_)
    clear hK K
    clear hHeld hEx
    have hHeld := Lib.hid hNewS
    have hEx := Lib.hid hNewE
    clear hNewS hNewE
    clear hcv
    try simp only [Act.put, List.setIfInBounds_toArray, List.set_cons_zero, List.set_cons_succ]
    refine lastTake 6 rfl (by kernel_rfl) (by kernel_rfl) (by kernel_rfl) (by kernel_rfl) (by kernel_rfl) (fun _ _ _ h => h) hHeld.out (yieldsIf_of (v := .bool false) rfl (fun w h => by go_simp)) ?_
    try simp only [Act.put, List.setIfInBounds_toArray, List.set_cons_zero, List.set_cons_succ]
    refine Go.Proofs.YtgfmeiddicodoaaW.PrintLast.wpAnyLast_done (by kernel_rfl) ?_ _
    have G1 := Lib.hid hEx.out.2.2.1
    have G2 := Lib.hid hEx.out.2.2.2.1
    have G4 := Lib.hid hEx.out.2.2.2.2
    clear hHeld hEx X7 Y7 RL7 HB7
    have hE : eqDB 0 0 0 0 0 0 0 0 0 0 0 0 0 0 0 0 0 0 = true := by decide
    go_wp2_with (refine wpList_load_row rfl 26 (.tmp 5) rfl _ rfl _ _ _ _ G1.out Try.underlying26 rfl HY.out ?_)
    refine (KN.out _).mono ?_
    rintro e w9 ⟨rfl, hb⟩
    have HF := Lib.hid (below_more G4.out (Nat.le_refl _) hb)
    clear hb
    go_wp2_with fail
    go_ret
    exact ⟨rfl, HF.out⟩
  · go_simp
    refine (RB.out _).mono ?_
    rintro _ v44 ⟨v, rfl, ho, hb⟩
    obtain ⟨A42, c43, rfl⟩ := own_slice ho
    have ho2 := own_weaken ho (hEx.out.2.2.2).size
    have hNewE : (v44.ownsRow w.heap.size 5 1 (.slice A42 64 c43) 64 (nums .u8 B)) ∧ (v44.ownsRow w.heap.size 5 1 (.slice A36 64 c37) 64 (nums .u8 B)) ∧ (v44.heap[w6.heap.size]? = some (.cells #[.int .u32 0, .int .u32 0, .int .u64 0, .int .u64 0, .int .u64 0, .int .u64 0, .int .u64 0, .int .u64 0, .int .u64 0] 26 (0, 0))) ∧ (ReadsInt v44 .u8 A n L) ∧ (Below w.heap.size w v44) := ⟨ho2, own_move_below (hEx.out.1) hb, blk_below (hEx.out.2.1) hb, ReadsInt.below (hEx.out.2.2.1) hb, below_more (hEx.out.2.2.2) (Nat.le_refl _) hb⟩
    refine hK.out _ _ (blk_below (hHeld.out) hb) (fun hNewS => ?_)
    clear hK K
    clear hHeld hEx
    have hHeld := Lib.hid hNewS
    have hEx := Lib.hid hNewE
    clear hNewS hNewE
    clear ho ho2 hb
    try simp only [Act.put, List.setIfInBounds_toArray, List.set_cons_zero, List.set_cons_succ]
    refine Go.Proofs.YtgfmeiddicodoaaW.PrintLast.wpAnyLast_ready (rs := [2, 5]) (by kernel_rfl) (by simp) (Go.Proofs.YtgfmeiddicodoaaW.PrintLast.AllReadyL.cons rfl (by decide) (fun K hK => ?_) (Go.Proofs.YtgfmeiddicodoaaW.PrintLast.AllReadyL.cons rfl (by decide) (fun K hK => ?_) (Go.Proofs.YtgfmeiddicodoaaW.PrintLast.AllReadyL.nil)))
    · have hcv := own_string Try.underlying49 Try.underlying5 Try.underlying9 hEx.out.2.1
      go_simp
      have hNewE : (v44.ownsRow w.heap.size 5 1 (.slice A42 64 c43) 64 (nums .u8 B)) ∧ (v44.ownsRow w.heap.size 5 1 (.slice A36 64 c37) 64 (nums .u8 B)) ∧ (v44.heap[w6.heap.size]? = some (.cells #[.int .u32 0, .int .u32 0, .int .u64 0, .int .u64 0, .int .u64 0, .int .u64 0, .int .u64 0, .int .u64 0, .int .u64 0] 26 (0, 0))) ∧ (ReadsInt v44 .u8 A n L) ∧ (Below w.heap.size w v44) := ⟨(hEx.out.1), (hEx.out.2.1), (hEx.out.2.2.1), (hEx.out.2.2.2.1), (hEx.out.2.2.2.2)⟩
      refine hK.out _ _ ((hHeld.out)) (fun hNewS => ?_)
      clear hK K
      clear hHeld hEx
      have hHeld := Lib.hid hNewS
      have hEx := Lib.hid hNewE
      clear hNewS hNewE
      clear hcv
      try simp only [Act.put, List.setIfInBounds_toArray, List.set_cons_zero, List.set_cons_succ]
      have hcv := own_string Try.underlying49 Try.underlying5 Try.underlying9 hEx.out.1
      refine lastOne 5 (by kernel_rfl) rfl (by decide) (fun K hK => ?_)
      go_simp
      have hNewE : (v44.ownsRow w.heap.size 5 1 (.slice A42 64 c43) 64 (nums .u8 B)) ∧ (v44.ownsRow w.heap.size 5 1 (.slice A36 64 c37) 64 (nums .u8 B)) ∧ (v44.heap[w6.heap.size]? = some (.cells #[.int .u32 0, .int .u32 0, .int .u64 0, .int .u64 0, .int .u64 0, .int .u64 0, .int .u64 0, .int .u64 0, .int .u64 0] 26 (0, 0))) ∧ (ReadsInt v44 .u8 A n L) ∧ (Below w.heap.size w v44) := ⟨(hEx.out.1), (hEx.out.2.1), (hEx.out.2.2.1), (hEx.out.2.2.2.1), (hEx.out.2.2.2.2)⟩
      refine hK.out _ _ ((hHeld.out)) (fun hNewS => ?_)
      clear hK K
      clear hHeld hEx
      have hHeld := Lib.hid hNewS
      have hEx := Lib.hid hNewE
      clear hNewS hNewE
      clear hcv
      try simp only [Act.put, List.setIfInBounds_toArray, List.set_cons_zero, List.set_cons_succ]
      refine lastTake 6 rfl (by kernel_rfl) (by kernel_rfl) (by kernel_rfl) (by kernel_rfl) (by kernel_rfl) (fun _ _ _ h => h) hHeld.out (yieldsIf_of (v := .bool false) rfl (fun w h => by go_simp)) ?_
      try simp only [Act.put, List.setIfInBounds_toArray, List.set_cons_zero, List.set_cons_succ]
      refine Go.Proofs.YtgfmeiddicodoaaW.PrintLast.wpAnyLast_done (by kernel_rfl) ?_ _
      have G1 := Lib.hid hEx.out.2.2.1
      have G2 := Lib.hid hEx.out.2.2.2.1
      have G4 := Lib.hid hEx.out.2.2.2.2
      clear hHeld hEx X7 Y7 RL7 HB7
      have hE : eqDB 0 0 0 0 0 0 0 0 0 0 0 0 0 0 0 0 0 0 = true := by decide
      go_wp2_with (refine wpList_load_row rfl 26 (.tmp 5) rfl _ rfl _ _ _ _ G1.out Try.underlying26 rfl HY.out ?_)
      refine (KN.out _).mono ?_
      rintro e w9 ⟨rfl, hb⟩
      have HF := Lib.hid (below_more G4.out (Nat.le_refl _) hb)
      clear hb
      go_wp2_with fail
      go_ret
      exact ⟨rfl, HF.out⟩
    · have hcv := own_string Try.underlying49 Try.underlying5 Try.underlying9 hEx.out.1
      go_simp
      have hNewE : (v44.ownsRow w.heap.size 5 1 (.slice A42 64 c43) 64 (nums .u8 B)) ∧ (v44.ownsRow w.heap.size 5 1 (.slice A36 64 c37) 64 (nums .u8 B)) ∧ (v44.heap[w6.heap.size]? = some (.cells #[.int .u32 0, .int .u32 0, .int .u64 0, .int .u64 0, .int .u64 0, .int .u64 0, .int .u64 0, .int .u64 0, .int .u64 0] 26 (0, 0))) ∧ (ReadsInt v44 .u8 A n L) ∧ (Below w.heap.size w v44) := ⟨(hEx.out.1), (hEx.out.2.1), (hEx.out.2.2.1), (hEx.out.2.2.2.1), (hEx.out.2.2.2.2)⟩
      refine hK.out _ _ ((hHeld.out)) (fun hNewS => ?_)
      clear hK K
      clear hHeld hEx
      have hHeld := Lib.hid hNewS
      have hEx := Lib.hid hNewE
      clear hNewS hNewE
      clear hcv
      try simp only [Act.put, List.setIfInBounds_toArray, List.set_cons_zero, List.set_cons_succ]
      have hcv := own_string Try.underlying49 Try.underlying5 Try.underlying9 hEx.out.2.1
      refine lastOne 2 (by kernel_rfl) rfl (by decide) (fun K hK => ?_)
      go_simp
      have hNewE : (v44.ownsRow w.heap.size 5 1 (.slice A42 64 c43) 64 (nums .u8 B)) ∧ (v44.ownsRow w.heap.size 5 1 (.slice A36 64 c37) 64 (nums .u8 B)) ∧ (v44.heap[w6.heap.size]? = some (.cells #[.int .u32 0, .int .u32 0, .int .u64 0, .int .u64 0, .int .u64 0, .int .u64 0, .int .u64 0, .int .u64 0, .int .u64 0] 26 (0, 0))) ∧ (ReadsInt v44 .u8 A n L) ∧ (Below w.heap.size w v44) := ⟨(hEx.out.1), (hEx.out.2.1), (hEx.out.2.2.1), (hEx.out.2.2.2.1), (hEx.out.2.2.2.2)⟩
      refine hK.out _ _ ((hHeld.out)) (fun hNewS => ?_)
      clear hK K
      clear hHeld hEx
      have hHeld := Lib.hid hNewS
      have hEx := Lib.hid hNewE
      clear hNewS hNewE
      clear hcv
      try simp only [Act.put, List.setIfInBounds_toArray, List.set_cons_zero, List.set_cons_succ]
      refine lastTake 6 rfl (by kernel_rfl) (by kernel_rfl) (by kernel_rfl) (by kernel_rfl) (by kernel_rfl) (fun _ _ _ h => h) hHeld.out (yieldsIf_of (v := .bool false) rfl (fun w h => by go_simp)) ?_
      try simp only [Act.put, List.setIfInBounds_toArray, List.set_cons_zero, List.set_cons_succ]
      refine Go.Proofs.YtgfmeiddicodoaaW.PrintLast.wpAnyLast_done (by kernel_rfl) ?_ _
      have G1 := Lib.hid hEx.out.2.2.1
      have G2 := Lib.hid hEx.out.2.2.2.1
      have G4 := Lib.hid hEx.out.2.2.2.2
      clear hHeld hEx X7 Y7 RL7 HB7
      have hE : eqDB 0 0 0 0 0 0 0 0 0 0 0 0 0 0 0 0 0 0 = true := by decide
      go_wp2_with (refine wpList_load_row rfl 26 (.tmp 5) rfl _ rfl _ _ _ _ G1.out Try.underlying26 rfl HY.out ?_)
      refine (KN.out _).mono ?_
      rintro e w9 ⟨rfl, hb⟩
      have HF := Lib.hid (below_more G4.out (Nat.le_refl _) hb)
      clear hb
      go_wp2_with fail
      go_ret
      exact ⟨rfl, HF.out⟩
set_option maxHeartbeats 8000000 in
theorem DataBytes_same (x0 x1 x2 x3 x4 x5 x6 x7 x8 : Int) (A : Option Addr) (c n : Nat) (L B : List Int) (hn : L.length = n) (hs : ¬ 200 < n) (hs2 : ¬ n < 64) (hs3 : ¬ 64 < n) (y0 y1 y2 y3 y4 y5 y6 y7 y8 : Int) (RF : ∀ W, ReadsInt W .u8 A n L → Calls Try.prog 35 #[.slice A n c] W fun e w' => e = .returned (.agg #[.int .u32 y0, .int .u32 y1, .int .u64 y2, .int .u64 y3, .int .u64 y4, .int .u64 y5, .int .u64 y6, .int .u64 y7, .int .u64 y8]) ∧ Below W.heap.size W w') (FA : ∀ A c w, ReadsInt w .u8 A n L → Calls Try.prog 32 #[.slice A n c] w fun e w' => e = .returned (.tuple #[.agg #[.int .u32 y0, .int .u32 y1, .int .u64 y2, .int .u64 y3, .int .u64 y4, .int .u64 y5, .int .u64 y6, .int .u64 y7, .int .u64 y8], .int .i64 0]) ∧ Below w.heap.size w w')
    (BY : (∀ w, Calls Try.prog 33 #[.agg #[.int .u32 x0, .int .u32 x1, .int .u64 x2, .int .u64 x3, .int .u64 x4, .int .u64 x5, .int .u64 x6, .int .u64 x7, .int .u64 x8]] w fun e w' => ∃ v, e = .returned v ∧ w'.ownsRow w.heap.size 5 1 v 64 (nums .u8 B) ∧ Below w.heap.size w w')) (RB : (∀ w, Calls Try.prog 34 #[.agg #[.int .u32 x0, .int .u32 x1, .int .u64 x2, .int .u64 x3, .int .u64 x4, .int .u64 x5, .int .u64 x6, .int .u64 x7, .int .u64 x8]] w fun e w' => ∃ v, e = .returned v ∧ w'.ownsRow w.heap.size 5 1 v 64 (nums .u8 B) ∧ Below w.heap.size w w')) (w : World) (hL : ReadsInt w .u8 A n L) :
    Calls Try.prog 13 #[.agg #[.int .u32 x0, .int .u32 x1, .int .u64 x2, .int .u64 x3, .int .u64 x4, .int .u64 x5, .int .u64 x6, .int .u64 x7, .int .u64 x8], .slice A n c] w fun e w' => e = .returned (.bool true) ∧ Below w.heap.size w w' := by
  have KN := Lib.hid knows_walk
  have HI := Lib.hid (info_data (.int .u32 x0) (.int .u32 x1) (.int .u64 x2) (.int .u64 x3) (.int .u64 x4) (.int .u64 x5) (.int .u64 x6) (.int .u64 x7) (.int .u64 x8))
  have HY := Lib.hid (info_data (.int .u32 y0) (.int .u32 y1) (.int .u64 y2) (.int .u64 y3) (.int .u64 y4) (.int .u64 y5) (.int .u64 y6) (.int .u64 y7) (.int .u64 y8))
  have OY := Lib.hid (one_data (y0) (y1) (y2) (y3) (y4) (y5) (y6) (y7) (y8))
  have Q0 := Lib.hid (heap_alloc_new w (Obj.cells #[.int .u32 x0, .int .u32 x1, .int .u64 x2, .int .u64 x3, .int .u64 x4, .int .u64 x5, .int .u64 x6, .int .u64 x7, .int .u64 x8] 26))
  have Q3 := Lib.hid ((Below.refl w.heap.size w).alloc (Nat.le_refl _) (Obj.cells #[.int .u32 x0, .int .u32 x1, .int .u64 x2, .int .u64 x3, .int .u64 x4, .int .u64 x5, .int .u64 x6, .int .u64 x7, .int .u64 x8] 26))
  replace FA := Lib.hid FA
  replace BY := Lib.hid BY
  replace RB := Lib.hid RB
  have RL := Lib.hid hL
  clear hL
  have HN := Lib.hid hn
  clear hn
  replace RF := Lib.hid RF
  have OL := own_lit (w.alloc (Obj.cells #[.int .u32 x0, .int .u32 x1, .int .u64 x2, .int .u64 x3, .int .u64 x4, .int .u64 x5, .int .u64 x6, .int .u64 x7, .int .u64 x8] 26)) w.heap.size 5 .u8 [] Q3.out.size (by simp)
  rw [show (w.alloc (Obj.cells #[.int .u32 x0, .int .u32 x1, .int .u64 x2, .int .u64 x3, .int .u64 x4, .int .u64 x5, .int .u64 x6, .int .u64 x7, .int .u64 x8] 26)).heap.size = w.heap.size + 1 from Array.size_push _] at OL
  replace OL := Lib.hid OL
  go_enter Try.func13, Try.ntmps13
  go_wp2_with (at_builtin; go_must (refine print_append_row (w0 := w) (W := (w.alloc (Obj.cells #[.int .u32 x0, .int .u32 x1, .int .u64 x2, .int .u64 x3, .int .u64 x4, .int .u64 x5, .int .u64 x6, .int .u64 x7, .int .u64 x8] 26)).alloc (.cells #[] 5)) w.heap.size rfl (.tmp 12) (.tmp 13) 49 5 .u8 1 rfl Try.underlying49 Try.info8d (by decide) (.slice (some ⟨w.heap.size + 1, 0, none⟩) 0 0) [] L A n c rfl rfl OL.out (RL.out.below (Q3.out.alloc Q3.out.size _)) (Q3.out.alloc Q3.out.size _) (by simp <;> omega) (by simp; omega) ?_); intro v1 w5 ho hb hg hat; have HO5 := Lib.hid ho; have HB5 := Lib.hid hb; have HG5 := Lib.hid hg; clear ho hb hg hat)
  have hx5 := blk_grown (blk_alloc Q0.out (.cells #[] 5)) HG5.out (by intro h; have := blk_lt Q0.out; simp [Value.ownBlock] at h <;> omega)
  have ho5 : w5.ownsRow w.heap.size 5 1 v1 L.length (nums .u8 L) := HO5.out
  rw [HN.out] at ho5
  have X5 := Lib.hid hx5
  have O5 := Lib.hid ho5
  clear HO5 HG5 hx5 ho5 Q0
  obtain ⟨A5, c5, rfl, hr5⟩ := own_reads O5.out
  have R5 := Lib.hid hr5
  clear hr5 O5
  refine (FA.out A5 c5 w5 R5.out).mono ?_
  rintro e w6 ⟨rfl, hb⟩
  have X6 := Lib.hid (blk_below X5.out hb)
  have RL6 := Lib.hid (RL.out.below (HB5.out.trans (hb.mono HB5.out.size)))
  have HB6 := Lib.hid (HB5.out.trans (hb.mono HB5.out.size))
  clear hb
  obtain ⟨W7, hW7⟩ : ∃ W7, (w6.alloc (.cells #[.int .u32 0, .int .u32 0, .int .u64 0, .int .u64 0, .int .u64 0, .int .u64 0, .int .u64 0, .int .u64 0, .int .u64 0] 26)).setRow w6.heap.size #[.int .u32 y0, .int .u32 y1, .int .u64 y2, .int .u64 y3, .int .u64 y4, .int .u64 y5, .int .u64 y6, .int .u64 y7, .int .u64 y8] = W7 := ⟨_, rfl⟩
  have r7 := heap_setRow_same (w6.alloc (.cells #[.int .u32 0, .int .u32 0, .int .u64 0, .int .u64 0, .int .u64 0, .int .u64 0, .int .u64 0, .int .u64 0, .int .u64 0] 26)) w6.heap.size #[.int .u32 y0, .int .u32 y1, .int .u64 y2, .int .u64 y3, .int .u64 y4, .int .u64 y5, .int .u64 y6, .int .u64 y7, .int .u64 y8] _ _ _ (heap_alloc_new w6 (.cells #[.int .u32 0, .int .u32 0, .int .u64 0, .int .u64 0, .int .u64 0, .int .u64 0, .int .u64 0, .int .u64 0, .int .u64 0] 26))
  rw [hW7] at r7
  have b7 : Below w6.heap.size w6 W7 := by rw [← hW7]; exact ((Below.refl _ _).alloc (Nat.le_refl _) _).trans ⟨rfl, rfl, rfl, by simp, fun k hk => heap_setRow_other _ _ _ _ (by omega)⟩
  have HW7 := Lib.hid hW7
  have Y7 := Lib.hid r7
  have X7 := Lib.hid (blk_below X6.out b7)
  have RL7 := Lib.hid (RL6.out.below b7)
  have HB7 := Lib.hid (HB6.out.trans (b7.mono HB6.out.size))
  have hy := Lib.hid (HB6.out.size)
  clear hW7 r7 b7
  go_wp2_with (refine wpList_store_row rfl 26 (.tmp 5) (.tmp 16) rfl rfl w6.heap.size rfl #[.int .u32 y0, .int .u32 y1, .int .u64 y2, .int .u64 y3, .int .u64 y4, .int .u64 y5, .int .u64 y6, .int .u64 y7, .int .u64 y8] rfl _ _ (heap_alloc_new _ _) rfl HY.out OY.out ?_; rw [HW7.out])
  clear HW7 X6 RL6 HB6 X5 R5 HB5 Q3 RL
  have hNewE : (W7.drew.heap[w6.heap.size]? = some (.cells #[.int .u32 y0, .int .u32 y1, .int .u64 y2, .int .u64 y3, .int .u64 y4, .int .u64 y5, .int .u64 y6, .int .u64 y7, .int .u64 y8] 26 (0, 0))) ∧ (ReadsInt W7.drew .u8 A n L) ∧ (Below w.heap.size w W7.drew) := ⟨Y7.out, RL7.out, HB7.out.drew⟩
  have hEx := Lib.hid hNewE
  clear hNewE
  refine Go.Proofs.YtgfmeiddicodoaaW.PrintLast.wp_region_last_drew (S := fun w' => (w'.heap[w.heap.size]? = some (.cells #[.int .u32 x0, .int .u32 x1, .int .u64 x2, .int .u64 x3, .int .u64 x4, .int .u64 x5, .int .u64 x6, .int .u64 x7, .int .u64 x8] 26 (0, 0)))) (ds := []) (by kernel_rfl) X7.out (fun hNewS => ?_)
  have hHeld := Lib.hid hNewS
  clear hNewS
  refine lastTake 0 rfl (by kernel_rfl) (by kernel_rfl) (by kernel_rfl) (by kernel_rfl) (by kernel_rfl) (fun _ _ _ h => h) hHeld.out (yieldsIf_row rfl 26 (.tmp 2) rfl _ rfl _ #[.int .u32 x0, .int .u32 x1, .int .u64 x2, .int .u64 x3, .int .u64 x4, .int .u64 x5, .int .u64 x6, .int .u64 x7, .int .u64 x8] _ _ (fun _ h => h) Try.underlying26 rfl HI.out) ?_
  try simp only [Act.put, List.setIfInBounds_toArray, List.set_cons_zero, List.set_cons_succ]
  refine lastTake 3 rfl (by kernel_rfl) (by kernel_rfl) (by kernel_rfl) (by kernel_rfl) (by kernel_rfl) (fun _ _ _ h => h) hHeld.out (yieldsIf_row rfl 26 (.tmp 2) rfl _ rfl _ #[.int .u32 x0, .int .u32 x1, .int .u64 x2, .int .u64 x3, .int .u64 x4, .int .u64 x5, .int .u64 x6, .int .u64 x7, .int .u64 x8] _ _ (fun _ h => h) Try.underlying26 rfl HI.out) ?_
  try simp only [Act.put, List.setIfInBounds_toArray, List.set_cons_zero, List.set_cons_succ]
  refine lastOne 1 (by kernel_rfl) rfl (by decide) (fun K hK => ?_)
  go_simp
  refine (BY.out _).mono ?_
  rintro _ v47 ⟨v, rfl, ho, hb⟩
  obtain ⟨A45, c46, rfl⟩ := own_slice ho
  have ho2 := own_weaken ho (hEx.out.2.2).size
  have hNewE : (v47.ownsRow w.heap.size 5 1 (.slice A45 64 c46) 64 (nums .u8 B)) ∧ (v47.heap[w6.heap.size]? = some (.cells #[.int .u32 y0, .int .u32 y1, .int .u64 y2, .int .u64 y3, .int .u64 y4, .int .u64 y5, .int .u64 y6, .int .u64 y7, .int .u64 y8] 26 (0, 0))) ∧ (ReadsInt v47 .u8 A n L) ∧ (Below w.heap.size w v47) := ⟨ho2, blk_below (hEx.out.1) hb, ReadsInt.below (hEx.out.2.1) hb, below_more (hEx.out.2.2) (Nat.le_refl _) hb⟩
  refine hK.out _ _ (blk_below (hHeld.out) hb) (fun hNewS => ?_)
  clear hK K
  clear hHeld hEx
  have hHeld := Lib.hid hNewS
  have hEx := Lib.hid hNewE
  clear hNewS hNewE
  clear ho ho2 hb
  try simp only [Act.put, List.setIfInBounds_toArray, List.set_cons_zero, List.set_cons_succ]
  refine Go.Proofs.YtgfmeiddicodoaaW.PrintLast.wpAnyLast_ready (rs := [2, 4]) (by kernel_rfl) (by simp) (Go.Proofs.YtgfmeiddicodoaaW.PrintLast.AllReadyL.cons rfl (by decide) (fun K hK => ?_) (Go.Proofs.YtgfmeiddicodoaaW.PrintLast.AllReadyL.cons rfl (by decide) (fun K hK => ?_) (Go.Proofs.YtgfmeiddicodoaaW.PrintLast.AllReadyL.nil)))
  · have hcv := own_string Try.underlying49 Try.underlying5 Try.underlying9 hEx.out.1
    go_simp
    have hNewE : (v47.ownsRow w.heap.size 5 1 (.slice A45 64 c46) 64 (nums .u8 B)) ∧ (v47.heap[w6.heap.size]? = some (.cells #[.int .u32 y0, .int .u32 y1, .int .u64 y2, .int .u64 y3, .int .u64 y4, .int .u64 y5, .int .u64 y6, .int .u64 y7, .int .u64 y8] 26 (0, 0))) ∧ (ReadsInt v47 .u8 A n L) ∧ (Below w.heap.size w v47) := ⟨(hEx.out.1), (hEx.out.2.1), (hEx.out.2.2.1), (hEx.out.2.2.2)⟩
    refine hK.out _ _ ((hHeld.out)) (fun hNewS => ?_)
    clear hK K
    clear hHeld hEx
    have hHeld := Lib.hid hNewS
    have hEx := Lib.hid hNewE
    clear hNewS hNewE
    clear hcv
    try simp only [Act.put, List.setIfInBounds_toArray, List.set_cons_zero, List.set_cons_succ]
    refine lastOne 4 (by kernel_rfl) rfl (by decide) (fun K hK => ?_)
    go_simp
    refine (RB.out _).mono ?_
    rintro _ v50 ⟨v, rfl, ho, hb⟩
    obtain ⟨A48, c49, rfl⟩ := own_slice ho
    have ho2 := own_weaken ho (hEx.out.2.2.2).size
    have hNewE : (v50.ownsRow w.heap.size 5 1 (.slice A48 64 c49) 64 (nums .u8 B)) ∧ (v50.ownsRow w.heap.size 5 1 (.slice A45 64 c46) 64 (nums .u8 B)) ∧ (v50.heap[w6.heap.size]? = some (.cells #[.int .u32 y0, .int .u32 y1, .int .u64 y2, .int .u64 y3, .int .u64 y4, .int .u64 y5, .int .u64 y6, .int .u64 y7, .int .u64 y8] 26 (0, 0))) ∧ (ReadsInt v50 .u8 A n L) ∧ (Below w.heap.size w v50) := ⟨ho2, own_move_below (hEx.out.1) hb, blk_below (hEx.out.2.1) hb, ReadsInt.below (hEx.out.2.2.1) hb, below_more (hEx.out.2.2.2) (Nat.le_refl _) hb⟩
    refine hK.out _ _ (blk_below (hHeld.out) hb) (fun hNewS => ?_)
    clear hK K
    clear hHeld hEx
    have hHeld := Lib.hid hNewS
    have hEx := Lib.hid hNewE
    clear hNewS hNewE
    clear ho ho2 hb
    try simp only [Act.put, List.setIfInBounds_toArray, List.set_cons_zero, List.set_cons_succ]
    have hcv := own_string Try.underlying49 Try.underlying5 Try.underlying9 hEx.out.1
    refine lastOne 5 (by kernel_rfl) rfl (by decide) (fun K hK => ?_)
    go_simp
    have hNewE : (v50.ownsRow w.heap.size 5 1 (.slice A48 64 c49) 64 (nums .u8 B)) ∧ (v50.ownsRow w.heap.size 5 1 (.slice A45 64 c46) 64 (nums .u8 B)) ∧ (v50.heap[w6.heap.size]? = some (.cells #[.int .u32 y0, .int .u32 y1, .int .u64 y2, .int .u64 y3, .int .u64 y4, .int .u64 y5, .int .u64 y6, .int .u64 y7, .int .u64 y8] 26 (0, 0))) ∧ (ReadsInt v50 .u8 A n L) ∧ (Below w.heap.size w v50) := ⟨(hEx.out.1), (hEx.out.2.1), (hEx.out.2.2.1), (hEx.out.2.2.2.1), (hEx.out.2.2.2.2)⟩
    refine hK.out _ _ ((hHeld.out)) (fun hNewS => ?_)
    clear hK K
    clear hHeld hEx
    have hHeld := Lib.hid hNewS
    have hEx := Lib.hid hNewE
    clear hNewS hNewE
    clear hcv
    try simp only [Act.put, List.setIfInBounds_toArray, List.set_cons_zero, List.set_cons_succ]
    refine lastTake 6 rfl (by kernel_rfl) (by kernel_rfl) (by kernel_rfl) (by kernel_rfl) (by kernel_rfl) (fun _ _ _ h => h) hHeld.out (yieldsIf_of (v := .bool false) rfl (fun w h => by go_simp)) ?_
    try simp only [Act.put, List.setIfInBounds_toArray, List.set_cons_zero, List.set_cons_succ]
    refine Go.Proofs.YtgfmeiddicodoaaW.PrintLast.wpAnyLast_done (by kernel_rfl) ?_ _
    have G1 := Lib.hid hEx.out.2.2.1
    have G2 := Lib.hid hEx.out.2.2.2.1
    have G4 := Lib.hid hEx.out.2.2.2.2
    clear hHeld hEx X7 Y7 RL7 HB7
    have hE : eqDB y0 y1 y2 y3 y4 y5 y6 y7 y8 y0 y1 y2 y3 y4 y5 y6 y7 y8 = true := (eqDB_iff y0 y1 y2 y3 y4 y5 y6 y7 y8 y0 y1 y2 y3 y4 y5 y6 y7 y8).2 ⟨rfl, rfl, rfl, rfl, rfl, rfl, rfl, rfl, rfl⟩
    go_wp2_with fail
    refine wp_region_held_drew (S := (fun w' => (w'.heap[w6.heap.size]? = some (.cells #[.int .u32 y0, .int .u32 y1, .int .u64 y2, .int .u64 y3, .int .u64 y4, .int .u64 y5, .int .u64 y6, .int .u64 y7, .int .u64 y8] 26 (0, 0))) ∧ (ReadsInt w' .u8 A n L) ∧ (Below w.heap.size w w'))) (by kernel_rfl) ⟨G1.out, G2.out, G4.out.drew⟩ (fun hNew => ?_)
    have hHeld := Lib.hid hNew
    clear hNew
    refine wpAnyH_takeL 0 rfl (by kernel_rfl) (by kernel_rfl) (by kernel_rfl) (fun _ _ _ h => h) hHeld.out (yieldsIf_row rfl 26 (.tmp 5) rfl _ rfl _ #[.int .u32 y0, .int .u32 y1, .int .u64 y2, .int .u64 y3, .int .u64 y4, .int .u64 y5, .int .u64 y6, .int .u64 y7, .int .u64 y8] _ _ (fun _ h => h.1) Try.underlying26 rfl HY.out) ?_
    try simp only [Act.put, List.setIfInBounds_toArray, List.set_cons_zero, List.set_cons_succ]
    refine wpAnyH_takeL 1 (v := ?_) rfl (by kernel_rfl) (by kernel_rfl) (by kernel_rfl) (fun _ _ _ h => h) hHeld.out (yieldsIf_of rfl ?_) ?_
    rotate_left
    · (intro w hSw; go_simp <;> with_reducible rfl)
    try simp only [Act.put, List.setIfInBounds_toArray, List.set_cons_zero, List.set_cons_succ]
    refine wpAnyH_one 2 _ (by kernel_rfl) rfl (fun _ h => h) (fun K hK => ?_)
    go_simp
    refine (RF.out _ hHeld.out.2.1).mono ?_
    rintro _ v51 ⟨rfl, hb⟩
    refine hK.out _ _ ⟨blk_below (hHeld.out.1) hb, ReadsInt.below (hHeld.out.2.1) hb, below_more (hHeld.out.2.2) (Nat.le_refl _) hb⟩ (fun hNew => ?_)
    clear hK K hHeld hb
    have hHeld := Lib.hid hNew
    clear hNew
    try simp only [Act.put, List.setIfInBounds_toArray, List.set_cons_zero, List.set_cons_succ]
    refine wpAnyH_takeL 3 (v := ?_) rfl (by kernel_rfl) (by kernel_rfl) (by kernel_rfl) (fun _ _ _ h => h) hHeld.out (yieldsIf_of rfl ?_) ?_
    rotate_left
    · (intro w hSw; go_simp <;> with_reducible rfl)
    try simp only [Act.put, List.setIfInBounds_toArray, List.set_cons_zero, List.set_cons_succ]
    refine wpAnyH_takeL 4 (v := ?_) rfl (by kernel_rfl) (by kernel_rfl) (by kernel_rfl) (fun _ _ _ h => h) hHeld.out (yieldsIf_of rfl ?_) ?_
    rotate_left
    · (intro w hSw; go_simp <;> with_reducible rfl)
    try simp only [Act.put, List.setIfInBounds_toArray, List.set_cons_zero, List.set_cons_succ]
    refine wpAnyH_takeL 5 (v := ?_) rfl (by kernel_rfl) (by kernel_rfl) (by kernel_rfl) (fun _ _ _ h => h) hHeld.out (yieldsIf_of rfl ?_) ?_
    rotate_left
    · (intro w hSw; go_simp <;> with_reducible rfl)
    try simp only [Act.put, List.setIfInBounds_toArray, List.set_cons_zero, List.set_cons_succ]
    refine wpAnyH_takeL 6 (v := ?_) rfl (by kernel_rfl) (by kernel_rfl) (by kernel_rfl) (fun _ _ _ h => h) hHeld.out (yieldsIf_of rfl ?_) ?_
    rotate_left
    · (intro w hSw; go_simp <;> with_reducible rfl)
    try simp only [Act.put, List.setIfInBounds_toArray, List.set_cons_zero, List.set_cons_succ]
    refine wpAnyH_takeL 7 (v := ?_) rfl (by kernel_rfl) (by kernel_rfl) (by kernel_rfl) (fun _ _ _ h => h) hHeld.out (yieldsIf_of rfl ?_) ?_
    rotate_left
    · (intro w hSw; go_simp <;> with_reducible rfl)
    try simp only [Act.put, List.setIfInBounds_toArray, List.set_cons_zero, List.set_cons_succ]
    refine wpAnyH_takeL 8 (v := ?_) rfl (by kernel_rfl) (by kernel_rfl) (by kernel_rfl) (fun _ _ _ h => h) hHeld.out (yieldsIf_of rfl ?_) ?_
    rotate_left
    · (intro w hSw; go_simp <;> with_reducible rfl)
    try simp only [Act.put, List.setIfInBounds_toArray, List.set_cons_zero, List.set_cons_succ]
    refine wpAnyH_one 9 _ (by kernel_rfl) rfl (fun _ h => h) (fun K hK => ?_)
    go_simp
    refine (KN.out _).mono ?_
    rintro _ v52 ⟨rfl, hb⟩
    refine hK.out _ _ ⟨blk_below (hHeld.out.1) hb, ReadsInt.below (hHeld.out.2.1) hb, below_more (hHeld.out.2.2) (Nat.le_refl _) hb⟩ (fun hNew => ?_)
    clear hK K hHeld hb
    have hHeld := Lib.hid hNew
    clear hNew
    try simp only [Act.put, List.setIfInBounds_toArray, List.set_cons_zero, List.set_cons_succ]
    refine wpAnyH_takeL 10 (v := ?_) rfl (by kernel_rfl) (by kernel_rfl) (by kernel_rfl) (fun _ _ _ h => h) hHeld.out (yieldsIf_of rfl ?_) ?_
    rotate_left
    · (intro w hSw; go_simp <;> with_reducible rfl)
    try simp only [Act.put, List.setIfInBounds_toArray, List.set_cons_zero, List.set_cons_succ]
    refine wpAnyH_takeL 11 (v := ?_) rfl (by kernel_rfl) (by kernel_rfl) (by kernel_rfl) (fun _ _ _ h => h) hHeld.out (yieldsIf_of rfl ?_) ?_
    rotate_left
    · (intro w hSw; go_simp <;> with_reducible rfl)
    try simp only [Act.put, List.setIfInBounds_toArray, List.set_cons_zero, List.set_cons_succ]
    refine wpAnyH_done (by kernel_rfl) ?_ _
    have HFI := Lib.hid (hHeld.out.2.2)
    clear hHeld
    go_wp2_with fail
    go_ret
    exact ⟨rfl, HFI.out⟩
  · go_simp
    refine (RB.out _).mono ?_
    rintro _ v55 ⟨v, rfl, ho, hb⟩
    obtain ⟨A53, c54, rfl⟩ := own_slice ho
    have ho2 := own_weaken ho (hEx.out.2.2.2).size
    have hNewE : (v55.ownsRow w.heap.size 5 1 (.slice A53 64 c54) 64 (nums .u8 B)) ∧ (v55.ownsRow w.heap.size 5 1 (.slice A45 64 c46) 64 (nums .u8 B)) ∧ (v55.heap[w6.heap.size]? = some (.cells #[.int .u32 y0, .int .u32 y1, .int .u64 y2, .int .u64 y3, .int .u64 y4, .int .u64 y5, .int .u64 y6, .int .u64 y7, .int .u64 y8] 26 (0, 0))) ∧ (ReadsInt v55 .u8 A n L) ∧ (Below w.heap.size w v55) := ⟨ho2, own_move_below (hEx.out.1) hb, blk_below (hEx.out.2.1) hb, ReadsInt.below (hEx.out.2.2.1) hb, below_more (hEx.out.2.2.2) (Nat.le_refl _) hb⟩
    refine hK.out _ _ (blk_below (hHeld.out) hb) (fun hNewS => ?_)
    clear hK K
    clear hHeld hEx
    have hHeld := Lib.hid hNewS
    have hEx := Lib.hid hNewE
    clear hNewS hNewE
    clear ho ho2 hb
    try simp only [Act.put, List.setIfInBounds_toArray, List.set_cons_zero, List.set_cons_succ]
    refine Go.Proofs.YtgfmeiddicodoaaW.PrintLast.wpAnyLast_ready (rs := [2, 5]) (by kernel_rfl) (by simp) (Go.Proofs.YtgfmeiddicodoaaW.PrintLast.AllReadyL.cons rfl (by decide) (fun K hK => ?_) (Go.Proofs.YtgfmeiddicodoaaW.PrintLast.AllReadyL.cons rfl (by decide) (fun K hK => ?_) (Go.Proofs.YtgfmeiddicodoaaW.PrintLast.AllReadyL.nil)))
    · have hcv := own_string Try.underlying49 Try.underlying5 Try.underlying9 hEx.out.2.1
      go_simp
      have hNewE : (v55.ownsRow w.heap.size 5 1 (.slice A53 64 c54) 64 (nums .u8 B)) ∧ (v55.ownsRow w.heap.size 5 1 (.slice A45 64 c46) 64 (nums .u8 B)) ∧ (v55.heap[w6.heap.size]? = some (.cells #[.int .u32 y0, .int .u32 y1, .int .u64 y2, .int .u64 y3, .int .u64 y4, .int .u64 y5, .int .u64 y6, .int .u64 y7, .int .u64 y8] 26 (0, 0))) ∧ (ReadsInt v55 .u8 A n L) ∧ (Below w.heap.size w v55) := ⟨(hEx.out.1), (hEx.out.2.1), (hEx.out.2.2.1), (hEx.out.2.2.2.1), (hEx.out.2.2.2.2)⟩
      refine hK.out _ _ ((hHeld.out)) (fun hNewS => ?_)
      clear hK K
      clear hHeld hEx
      have hHeld := Lib.hid hNewS
      have hEx := Lib.hid hNewE
      clear hNewS hNewE
      clear hcv
      try simp only [Act.put, List.setIfInBounds_toArray, List.set_cons_zero, List.set_cons_succ]
      have hcv := own_string Try.underlying49 Try.underlying5 Try.underlying9 hEx.out.1
      refine lastOne 5 (by kernel_rfl) rfl (by decide) (fun K hK => ?_)
      go_simp
      have hNewE : (v55.ownsRow w.heap.size 5 1 (.slice A53 64 c54) 64 (nums .u8 B)) ∧ (v55.ownsRow w.heap.size 5 1 (.slice A45 64 c46) 64 (nums .u8 B)) ∧ (v55.heap[w6.heap.size]? = some (.cells #[.int .u32 y0, .int .u32 y1, .int .u64 y2, .int .u64 y3, .int .u64 y4, .int .u64 y5, .int .u64 y6, .int .u64 y7, .int .u64 y8] 26 (0, 0))) ∧ (ReadsInt v55 .u8 A n L) ∧ (Below w.heap.size w v55) := ⟨(hEx.out.1), (hEx.out.2.1), (hEx.out.2.2.1), (hEx.out.2.2.2.1), (hEx.out.2.2.2.2)⟩
      refine hK.out _ _ ((hHeld.out)) (fun hNewS => ?_)
      clear hK K
      clear hHeld hEx
      have hHeld := Lib.hid hNewS
      have hEx := Lib.hid hNewE
      clear hNewS hNewE
      clear hcv
      try simp only [Act.put, List.setIfInBounds_toArray, List.set_cons_zero, List.set_cons_succ]
      refine lastTake 6 rfl (by kernel_rfl) (by kernel_rfl) (by kernel_rfl) (by kernel_rfl) (by kernel_rfl) (fun _ _ _ h => h) hHeld.out (yieldsIf_of (v := .bool false) rfl (fun w h => by go_simp)) ?_
      try simp only [Act.put, List.setIfInBounds_toArray, List.set_cons_zero, List.set_cons_succ]
      refine Go.Proofs.YtgfmeiddicodoaaW.PrintLast.wpAnyLast_done (by kernel_rfl) ?_ _
      have G1 := Lib.hid hEx.out.2.2.1
      have G2 := Lib.hid hEx.out.2.2.2.1
      have G4 := Lib.hid hEx.out.2.2.2.2
      clear hHeld hEx X7 Y7 RL7 HB7
      have hE : eqDB y0 y1 y2 y3 y4 y5 y6 y7 y8 y0 y1 y2 y3 y4 y5 y6 y7 y8 = true := (eqDB_iff y0 y1 y2 y3 y4 y5 y6 y7 y8 y0 y1 y2 y3 y4 y5 y6 y7 y8).2 ⟨rfl, rfl, rfl, rfl, rfl, rfl, rfl, rfl, rfl⟩
      go_wp2_with fail
      refine wp_region_held_drew (S := (fun w' => (w'.heap[w6.heap.size]? = some (.cells #[.int .u32 y0, .int .u32 y1, .int .u64 y2, .int .u64 y3, .int .u64 y4, .int .u64 y5, .int .u64 y6, .int .u64 y7, .int .u64 y8] 26 (0, 0))) ∧ (ReadsInt w' .u8 A n L) ∧ (Below w.heap.size w w'))) (by kernel_rfl) ⟨G1.out, G2.out, G4.out.drew⟩ (fun hNew => ?_)
      have hHeld := Lib.hid hNew
      clear hNew
      refine wpAnyH_takeL 0 rfl (by kernel_rfl) (by kernel_rfl) (by kernel_rfl) (fun _ _ _ h => h) hHeld.out (yieldsIf_row rfl 26 (.tmp 5) rfl _ rfl _ #[.int .u32 y0, .int .u32 y1, .int .u64 y2, .int .u64 y3, .int .u64 y4, .int .u64 y5, .int .u64 y6, .int .u64 y7, .int .u64 y8] _ _ (fun _ h => h.1) Try.underlying26 rfl HY.out) ?_
      try simp only [Act.put, List.setIfInBounds_toArray, List.set_cons_zero, List.set_cons_succ]
      refine wpAnyH_takeL 1 (v := ?_) rfl (by kernel_rfl) (by kernel_rfl) (by kernel_rfl) (fun _ _ _ h => h) hHeld.out (yieldsIf_of rfl ?_) ?_
      rotate_left
      · (intro w hSw; go_simp <;> with_reducible rfl)
      try simp only [Act.put, List.setIfInBounds_toArray, List.set_cons_zero, List.set_cons_succ]
      refine wpAnyH_one 2 _ (by kernel_rfl) rfl (fun _ h => h) (fun K hK => ?_)
      go_simp
      refine (RF.out _ hHeld.out.2.1).mono ?_
      rintro _ v56 ⟨rfl, hb⟩
      refine hK.out _ _ ⟨blk_below (hHeld.out.1) hb, ReadsInt.below (hHeld.out.2.1) hb, below_more (hHeld.out.2.2) (Nat.le_refl _) hb⟩ (fun hNew => ?_)
      clear hK K hHeld hb
      have hHeld := Lib.hid hNew
      clear hNew
      try simp only [Act.put, List.setIfInBounds_toArray, List.set_cons_zero, List.set_cons_succ]
      refine wpAnyH_takeL 3 (v := ?_) rfl (by kernel_rfl) (by kernel_rfl) (by kernel_rfl) (fun _ _ _ h => h) hHeld.out (yieldsIf_of rfl ?_) ?_
      rotate_left
      · (intro w hSw; go_simp <;> with_reducible rfl)
      try simp only [Act.put, List.setIfInBounds_toArray, List.set_cons_zero, List.set_cons_succ]
      refine wpAnyH_takeL 4 (v := ?_) rfl (by kernel_rfl) (by kernel_rfl) (by kernel_rfl) (fun _ _ _ h => h) hHeld.out (yieldsIf_of rfl ?_) ?_
      rotate_left
      · (intro w hSw; go_simp <;> with_reducible rfl)
      try simp only [Act.put, List.setIfInBounds_toArray, List.set_cons_zero, List.set_cons_succ]
      refine wpAnyH_takeL 5 (v := ?_) rfl (by kernel_rfl) (by kernel_rfl) (by kernel_rfl) (fun _ _ _ h => h) hHeld.out (yieldsIf_of rfl ?_) ?_
      rotate_left
      · (intro w hSw; go_simp <;> with_reducible rfl)
      try simp only [Act.put, List.setIfInBounds_toArray, List.set_cons_zero, List.set_cons_succ]
      refine wpAnyH_takeL 6 (v := ?_) rfl (by kernel_rfl) (by kernel_rfl) (by kernel_rfl) (fun _ _ _ h => h) hHeld.out (yieldsIf_of rfl ?_) ?_
      rotate_left
      · (intro w hSw; go_simp <;> with_reducible rfl)
      try simp only [Act.put, List.setIfInBounds_toArray, List.set_cons_zero, List.set_cons_succ]
      refine wpAnyH_takeL 7 (v := ?_) rfl (by kernel_rfl) (by kernel_rfl) (by kernel_rfl) (fun _ _ _ h => h) hHeld.out (yieldsIf_of rfl ?_) ?_
      rotate_left
      · (intro w hSw; go_simp <;> with_reducible rfl)
      try simp only [Act.put, List.setIfInBounds_toArray, List.set_cons_zero, List.set_cons_succ]
      refine wpAnyH_takeL 8 (v := ?_) rfl (by kernel_rfl) (by kernel_rfl) (by kernel_rfl) (fun _ _ _ h => h) hHeld.out (yieldsIf_of rfl ?_) ?_
      rotate_left
      · (intro w hSw; go_simp <;> with_reducible rfl)
      try simp only [Act.put, List.setIfInBounds_toArray, List.set_cons_zero, List.set_cons_succ]
      refine wpAnyH_one 9 _ (by kernel_rfl) rfl (fun _ h => h) (fun K hK => ?_)
      go_simp
      refine (KN.out _).mono ?_
      rintro _ v57 ⟨rfl, hb⟩
      refine hK.out _ _ ⟨blk_below (hHeld.out.1) hb, ReadsInt.below (hHeld.out.2.1) hb, below_more (hHeld.out.2.2) (Nat.le_refl _) hb⟩ (fun hNew => ?_)
      clear hK K hHeld hb
      have hHeld := Lib.hid hNew
      clear hNew
      try simp only [Act.put, List.setIfInBounds_toArray, List.set_cons_zero, List.set_cons_succ]
      refine wpAnyH_takeL 10 (v := ?_) rfl (by kernel_rfl) (by kernel_rfl) (by kernel_rfl) (fun _ _ _ h => h) hHeld.out (yieldsIf_of rfl ?_) ?_
      rotate_left
      · (intro w hSw; go_simp <;> with_reducible rfl)
      try simp only [Act.put, List.setIfInBounds_toArray, List.set_cons_zero, List.set_cons_succ]
      refine wpAnyH_takeL 11 (v := ?_) rfl (by kernel_rfl) (by kernel_rfl) (by kernel_rfl) (fun _ _ _ h => h) hHeld.out (yieldsIf_of rfl ?_) ?_
      rotate_left
      · (intro w hSw; go_simp <;> with_reducible rfl)
      try simp only [Act.put, List.setIfInBounds_toArray, List.set_cons_zero, List.set_cons_succ]
      refine wpAnyH_done (by kernel_rfl) ?_ _
      have HFI := Lib.hid (hHeld.out.2.2)
      clear hHeld
      go_wp2_with fail
      go_ret
      exact ⟨rfl, HFI.out⟩
    · have hcv := own_string Try.underlying49 Try.underlying5 Try.underlying9 hEx.out.1
      go_simp
      have hNewE : (v55.ownsRow w.heap.size 5 1 (.slice A53 64 c54) 64 (nums .u8 B)) ∧ (v55.ownsRow w.heap.size 5 1 (.slice A45 64 c46) 64 (nums .u8 B)) ∧ (v55.heap[w6.heap.size]? = some (.cells #[.int .u32 y0, .int .u32 y1, .int .u64 y2, .int .u64 y3, .int .u64 y4, .int .u64 y5, .int .u64 y6, .int .u64 y7, .int .u64 y8] 26 (0, 0))) ∧ (ReadsInt v55 .u8 A n L) ∧ (Below w.heap.size w v55) := ⟨(hEx.out.1), (hEx.out.2.1), (hEx.out.2.2.1), (hEx.out.2.2.2.1), (hEx.out.2.2.2.2)⟩
      refine hK.out _ _ ((hHeld.out)) (fun hNewS => ?_)
      clear hK K
      clear hHeld hEx
      have hHeld := Lib.hid hNewS
      have hEx := Lib.hid hNewE
      clear hNewS hNewE
      clear hcv
      try simp only [Act.put, List.setIfInBounds_toArray, List.set_cons_zero, List.set_cons_succ]
      have hcv := own_string Try.underlying49 Try.underlying5 Try.underlying9 hEx.out.2.1
      refine lastOne 2 (by kernel_rfl) rfl (by decide) (fun K hK => ?_)
      go_simp
      have hNewE : (v55.ownsRow w.heap.size 5 1 (.slice A53 64 c54) 64 (nums .u8 B)) ∧ (v55.ownsRow w.heap.size 5 1 (.slice A45 64 c46) 64 (nums .u8 B)) ∧ (v55.heap[w6.heap.size]? = some (.cells #[.int .u32 y0, .int .u32 y1, .int .u64 y2, .int .u64 y3, .int .u64 y4, .int .u64 y5, .int .u64 y6, .int .u64 y7, .int .u64 y8] 26 (0, 0))) ∧ (ReadsInt v55 .u8 A n L) ∧ (Below w.heap.size w v55) := ⟨(hEx.out.1), (hEx.out.2.1), (hEx.out.2.2.1), (hEx.out.2.2.2.1), (hEx.out.2.2.2.2)⟩
      refine hK.out _ _ ((hHeld.out)) (fun hNewS => ?_)
      clear hK K
      clear hHeld hEx
      have hHeld := Lib.hid hNewS
      have hEx := Lib.hid hNewE
      clear hNewS hNewE
      clear hcv
      try simp only [Act.put, List.setIfInBounds_toArray, List.set_cons_zero, List.set_cons_succ]
      refine lastTake 6 rfl (by kernel_rfl) (by kernel_rfl) (by kernel_rfl) (by kernel_rfl) (by kernel_rfl) (fun _ _ _ h => h) hHeld.out (yieldsIf_of (v := .bool false) rfl (fun w h => by go_simp)) ?_
      try simp only [Act.put, List.setIfInBounds_toArray, List.set_cons_zero, List.set_cons_succ]
      refine Go.Proofs.YtgfmeiddicodoaaW.PrintLast.wpAnyLast_done (by kernel_rfl) ?_ _
      have G1 := Lib.hid hEx.out.2.2.1
      have G2 := Lib.hid hEx.out.2.2.2.1
      have G4 := Lib.hid hEx.out.2.2.2.2
      clear hHeld hEx X7 Y7 RL7 HB7
      have hE : eqDB y0 y1 y2 y3 y4 y5 y6 y7 y8 y0 y1 y2 y3 y4 y5 y6 y7 y8 = true := (eqDB_iff y0 y1 y2 y3 y4 y5 y6 y7 y8 y0 y1 y2 y3 y4 y5 y6 y7 y8).2 ⟨rfl, rfl, rfl, rfl, rfl, rfl, rfl, rfl, rfl⟩
      go_wp2_with fail
      refine wp_region_held_drew (S := (fun w' => (w'.heap[w6.heap.size]? = some (.cells #[.int .u32 y0, .int .u32 y1, .int .u64 y2, .int .u64 y3, .int .u64 y4, .int .u64 y5, .int .u64 y6, .int .u64 y7, .int .u64 y8] 26 (0, 0))) ∧ (ReadsInt w' .u8 A n L) ∧ (Below w.heap.size w w'))) (by kernel_rfl) ⟨G1.out, G2.out, G4.out.drew⟩ (fun hNew => ?_)
      have hHeld := Lib.hid hNew
      clear hNew
      refine wpAnyH_takeL 0 rfl (by kernel_rfl) (by kernel_rfl) (by kernel_rfl) (fun _ _ _ h => h) hHeld.out (yieldsIf_row rfl 26 (.tmp 5) rfl _ rfl _ #[.int .u32 y0, .int .u32 y1, .int .u64 y2, .int .u64 y3, .int .u64 y4, .int .u64 y5, .int .u64 y6, .int .u64 y7, .int .u64 y8] _ _ (fun _ h => h.1) Try.underlying26 rfl HY.out) ?_
      try simp only [Act.put, List.setIfInBounds_toArray, List.set_cons_zero, List.set_cons_succ]
      refine wpAnyH_takeL 1 (v := ?_) rfl (by kernel_rfl) (by kernel_rfl) (by kernel_rfl) (fun _ _ _ h => h) hHeld.out (yieldsIf_of rfl ?_) ?_
      rotate_left
      · (intro w hSw; go_simp <;> with_reducible rfl)
      try simp only [Act.put, List.setIfInBounds_toArray, List.set_cons_zero, List.set_cons_succ]
      refine wpAnyH_one 2 _ (by kernel_rfl) rfl (fun _ h => h) (fun K hK => ?_)
      go_simp
      refine (RF.out _ hHeld.out.2.1).mono ?_
      rintro _ v58 ⟨rfl, hb⟩
      refine hK.out _ _ ⟨blk_below (hHeld.out.1) hb, ReadsInt.below (hHeld.out.2.1) hb, below_more (hHeld.out.2.2) (Nat.le_refl _) hb⟩ (fun hNew => ?_)
      clear hK K hHeld hb
      have hHeld := Lib.hid hNew
      clear hNew
      try simp only [Act.put, List.setIfInBounds_toArray, List.set_cons_zero, List.set_cons_succ]
      refine wpAnyH_takeL 3 (v := ?_) rfl (by kernel_rfl) (by kernel_rfl) (by kernel_rfl) (fun _ _ _ h => h) hHeld.out (yieldsIf_of rfl ?_) ?_
      rotate_left
      · (intro w hSw; go_simp <;> with_reducible rfl)
      try simp only [Act.put, List.setIfInBounds_toArray, List.set_cons_zero, List.set_cons_succ]
      refine wpAnyH_takeL 4 (v := ?_) rfl (by kernel_rfl) (by kernel_rfl) (by kernel_rfl) (fun _ _ _ h => h) hHeld.out (yieldsIf_of rfl ?_) ?_
      rotate_left
      · (intro w hSw; go_simp <;> with_reducible rfl)
      try simp only [Act.put, List.setIfInBounds_toArray, List.set_cons_zero, List.set_cons_succ]
      refine wpAnyH_takeL 5 (v := ?_) rfl (by kernel_rfl) (by kernel_rfl) (by kernel_rfl) (fun _ _ _ h => h) hHeld.out (yieldsIf_of rfl ?_) ?_
      rotate_left
      · (intro w hSw; go_simp <;> with_reducible rfl)
      try simp only [Act.put, List.setIfInBounds_toArray, List.set_cons_zero, List.set_cons_succ]
      refine wpAnyH_takeL 6 (v := ?_) rfl (by kernel_rfl) (by kernel_rfl) (by kernel_rfl) (fun _ _ _ h => h) hHeld.out (yieldsIf_of rfl ?_) ?_
      rotate_left
      · (intro w hSw; go_simp <;> with_reducible rfl)
      try simp only [Act.put, List.setIfInBounds_toArray, List.set_cons_zero, List.set_cons_succ]
      refine wpAnyH_takeL 7 (v := ?_) rfl (by kernel_rfl) (by kernel_rfl) (by kernel_rfl) (fun _ _ _ h => h) hHeld.out (yieldsIf_of rfl ?_) ?_
      rotate_left
      · (intro w hSw; go_simp <;> with_reducible rfl)
      try simp only [Act.put, List.setIfInBounds_toArray, List.set_cons_zero, List.set_cons_succ]
      refine wpAnyH_takeL 8 (v := ?_) rfl (by kernel_rfl) (by kernel_rfl) (by kernel_rfl) (fun _ _ _ h => h) hHeld.out (yieldsIf_of rfl ?_) ?_
      rotate_left
      · (intro w hSw; go_simp <;> with_reducible rfl)
      try simp only [Act.put, List.setIfInBounds_toArray, List.set_cons_zero, List.set_cons_succ]
      refine wpAnyH_one 9 _ (by kernel_rfl) rfl (fun _ h => h) (fun K hK => ?_)
      go_simp
      refine (KN.out _).mono ?_
      rintro _ v59 ⟨rfl, hb⟩
      refine hK.out _ _ ⟨blk_below (hHeld.out.1) hb, ReadsInt.below (hHeld.out.2.1) hb, below_more (hHeld.out.2.2) (Nat.le_refl _) hb⟩ (fun hNew => ?_)
      clear hK K hHeld hb
      have hHeld := Lib.hid hNew
      clear hNew
      try simp only [Act.put, List.setIfInBounds_toArray, List.set_cons_zero, List.set_cons_succ]
      refine wpAnyH_takeL 10 (v := ?_) rfl (by kernel_rfl) (by kernel_rfl) (by kernel_rfl) (fun _ _ _ h => h) hHeld.out (yieldsIf_of rfl ?_) ?_
      rotate_left
      · (intro w hSw; go_simp <;> with_reducible rfl)
      try simp only [Act.put, List.setIfInBounds_toArray, List.set_cons_zero, List.set_cons_succ]
      refine wpAnyH_takeL 11 (v := ?_) rfl (by kernel_rfl) (by kernel_rfl) (by kernel_rfl) (fun _ _ _ h => h) hHeld.out (yieldsIf_of rfl ?_) ?_
      rotate_left
      · (intro w hSw; go_simp <;> with_reducible rfl)
      try simp only [Act.put, List.setIfInBounds_toArray, List.set_cons_zero, List.set_cons_succ]
      refine wpAnyH_done (by kernel_rfl) ?_ _
      have HFI := Lib.hid (hHeld.out.2.2)
      clear hHeld
      go_wp2_with fail
      go_ret
      exact ⟨rfl, HFI.out⟩
end Go.Proofs.Ytgfmeiddicodoaa.H
