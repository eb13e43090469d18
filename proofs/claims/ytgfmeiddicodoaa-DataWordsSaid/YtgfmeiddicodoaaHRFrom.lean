/-
The reference of data: From.
-/
import Derived.Test.YtgfmeiddicodoaaProg
import Derived.WalkKit
import Derived.WalkSpells
import Derived.WalkLawsBesides
import Derived.Handy
import Derived.Lib.Hide
import Derived.Deep.QuietTactic
import Derived.BigQuiet
import Derived.Test.YtgfmeiddicodoaaHRCut
import Derived.Test.YtgfmeiddicodoaaHSeq
import Derived.Test.YtgfmeiddicodoaaHApp
import Derived.Test.YtgfmeiddicodoaaWWords
set_option linter.unusedVariables false
set_option linter.unusedSimpArgs false
namespace Go.Proofs.Ytgfmeiddicodoaa.H
open Go.RowKit Go.Proofs.YtgfmeiddicodoaaW.PrintWords

theorem info_data9 (cs : Array Value) (h : cs.size = 9) : (Try.prog.info? 26).map (·.size) = some cs.size := by rw [h]; kernel_rfl
set_option maxHeartbeats 8000000 in
theorem RFrom_any (A A0 A1 A2 : Option Addr) (c c0 c1 c2 : Nat) (L : List Int) (n0 n1 n2 : Int) (ag : Nat → Int) (h0 : 0 ≤ n0 ∧ n0 < 4294967296) (h1 : 0 ≤ n1 ∧ n1 < 4294967296)
    (k0 : ∀ W : World, (Instr.slice 49 (.slice A 64 c) none (some (.int .i64 (4))) none).run Try.prog W = .ok (.slice A0 4 c0) W) (k1 : ∀ W : World, (Instr.slice 49 (.slice A 64 c) (some (.int .i64 (4))) (some (.int .i64 (8))) none).run Try.prog W = .ok (.slice A1 4 c1) W) (k2 : ∀ W : World, (Instr.slice 49 (.slice A 64 c) (some (.int .i64 (8))) (some (.int .i64 (16))) none).run Try.prog W = .ok (.slice A2 8 c2) W) (N0 : ∀ W, ReadsInt W .u8 A 64 L → Calls Try.prog 41 #[.slice A0 4 c0] W fun e w' => e = .returned (.int .u64 n0) ∧ Below W.heap.size W w') (N1 : ∀ W, ReadsInt W .u8 A 64 L → Calls Try.prog 41 #[.slice A1 4 c1] W fun e w' => e = .returned (.int .u64 n1) ∧ Below W.heap.size W w') (N2 : ∀ W, ReadsInt W .u8 A 64 L → Calls Try.prog 41 #[.slice A2 8 c2] W fun e w' => e = .returned (.int .u64 n2) ∧ Below W.heap.size W w')
    (NK : ∀ k : Nat, k < 6 → ∃ Ak ck, (∀ W : World, (Instr.slice 49 (.slice A 64 c) (some (.int .i64 (16 + 8 * (k : Int)))) (some (.int .i64 (24 + 8 * (k : Int)))) none).run Try.prog W = .ok (.slice Ak 8 ck) W) ∧ (∀ W, ReadsInt W .u8 A 64 L → Calls Try.prog 41 #[.slice Ak 8 ck] W fun e w' => e = .returned (.int .u64 (ag k)) ∧ Below W.heap.size W w'))
    (DK : Nat → Array Value) (d0 : DK 0 = #[.int .u32 n0, .int .u32 n1, .int .u64 n2, .int .u64 0, .int .u64 0, .int .u64 0, .int .u64 0, .int .u64 0, .int .u64 0]) (dS : ∀ k, (DK k).setIfInBounds (3 + k) (.int .u64 (ag k)) = DK (k + 1)) (dG : ∀ k < 6, ∃ u, (DK k)[3 + k]? = some u) (dz : ∀ k, (DK k).size = 9) (d1 : ∀ v ∈ (DK 6).toList, v.oneCell' = true)
    (w : World) (hr : ReadsInt w .u8 A 64 L) :
    Calls Try.prog 35 #[.slice A 64 c] w fun e w' => e = .returned (.agg (DK 6)) ∧ Below w.heap.size w w' := by
  replace k0 := Lib.hid k0
  replace k1 := Lib.hid k1
  replace k2 := Lib.hid k2
  replace N0 := Lib.hid N0
  replace N1 := Lib.hid N1
  replace N2 := Lib.hid N2
  replace NK := Lib.hid NK
  replace d0 := Lib.hid d0
  replace dS := Lib.hid dS
  replace dG := Lib.hid dG
  replace d1 := Lib.hid d1
  replace hr := Lib.hid hr
  have HI6 := Lib.hid (info_data9 (DK 6) (dz 6))
  have HIF := Lib.hid (info_data9 #[.int .u32 n0, .int .u32 n1, .int .u64 n2, .int .u64 0, .int .u64 0, .int .u64 0, .int .u64 0, .int .u64 0, .int .u64 0] (by rfl))
  have HZ := Lib.hid (dz 6)
  clear dz
  have HOF := Lib.hid (show ∀ v ∈ (#[.int .u32 n0, .int .u32 n1, .int .u64 n2, .int .u64 0, .int .u64 0, .int .u64 0, .int .u64 0, .int .u64 0, .int .u64 0] : Array Value).toList, v.oneCell' = true by intro v hv; simp at hv; rcases hv with rfl | rfl | rfl | rfl <;> rfl)
  have q1 := Lib.hid (heap_alloc_new w (Obj.cells #[.int .u32 0, .int .u32 0, .int .u64 0, .int .u64 0, .int .u64 0, .int .u64 0, .int .u64 0, .int .u64 0, .int .u64 0] 26))
  have q4 := Lib.hid ((Below.refl w.heap.size w).alloc (Nat.le_refl _) (Obj.cells #[.int .u32 0, .int .u32 0, .int .u64 0, .int .u64 0, .int .u64 0, .int .u64 0, .int .u64 0, .int .u64 0, .int .u64 0] 26))
  have q5 := Lib.hid (hr.out.below (Below.alloc (Below.refl _ _) (Nat.le_refl _) (Obj.cells #[.int .u32 0, .int .u32 0, .int .u64 0, .int .u64 0, .int .u64 0, .int .u64 0, .int .u64 0, .int .u64 0, .int .u64 0] 26)))
  go_enter Try.func35, Try.ntmps35
  go_wp2_with fail
  obtain ⟨W1, hW1⟩ : ∃ W1, w.alloc (Obj.cells #[.int .u32 0, .int .u32 0, .int .u64 0, .int .u64 0, .int .u64 0, .int .u64 0, .int .u64 0, .int .u64 0, .int .u64 0] 26) = W1 := ⟨_, rfl⟩
  rw [hW1] at q1 q4 q5
  try rw [hW1]
  clear hW1
  have hNewE : (W1.drew.heap[w.heap.size]? = some (.cells #[.int .u32 0, .int .u32 0, .int .u64 0, .int .u64 0, .int .u64 0, .int .u64 0, .int .u64 0, .int .u64 0, .int .u64 0] 26 (0, 0))) ∧ (Below w.heap.size w W1.drew) := ⟨q1.out, q4.out.drew⟩
  have hEx := Lib.hid hNewE
  clear hNewE
  refine Go.Proofs.YtgfmeiddicodoaaW.PrintLast.wp_region_last_drew (S := fun w' => (ReadsInt w' .u8 A 64 L)) (ds := [13]) (by kernel_rfl) q5.out (fun hNewS => ?_)
  have hHeld := Lib.hid hNewS
  clear hNewS
  refine lastTake 0 (v := ?_) rfl (by kernel_rfl) (by kernel_rfl) (by kernel_rfl) (by kernel_rfl) (by kernel_rfl) (fun _ _ _ h => h) hHeld.out (yieldsIf_of rfl ?_) ?_
  rotate_left
  · (intro w hSw; go_simp <;> with_reducible rfl)
  try simp only [Act.put, List.setIfInBounds_toArray, List.set_cons_zero, List.set_cons_succ]
  refine lastTake 1 rfl (by kernel_rfl) (by kernel_rfl) (by kernel_rfl) (by kernel_rfl) (by kernel_rfl) (fun _ _ _ h => h) hHeld.out (yieldsIf_of (v := .slice A0 4 c0) rfl (fun w h => by have hq := k0.out w; go_simp)) ?_
  try simp only [Act.put, List.setIfInBounds_toArray, List.set_cons_zero, List.set_cons_succ]
  refine lastTake 4 (v := ?_) rfl (by kernel_rfl) (by kernel_rfl) (by kernel_rfl) (by kernel_rfl) (by kernel_rfl) (fun _ _ _ h => h) hHeld.out (yieldsIf_of rfl ?_) ?_
  rotate_left
  · (intro w hSw; go_simp <;> with_reducible rfl)
  try simp only [Act.put, List.setIfInBounds_toArray, List.set_cons_zero, List.set_cons_succ]
  refine lastTake 5 rfl (by kernel_rfl) (by kernel_rfl) (by kernel_rfl) (by kernel_rfl) (by kernel_rfl) (fun _ _ _ h => h) hHeld.out (yieldsIf_of (v := .slice A1 4 c1) rfl (fun w h => by have hq := k1.out w; go_simp)) ?_
  try simp only [Act.put, List.setIfInBounds_toArray, List.set_cons_zero, List.set_cons_succ]
  refine lastTake 8 (v := ?_) rfl (by kernel_rfl) (by kernel_rfl) (by kernel_rfl) (by kernel_rfl) (by kernel_rfl) (fun _ _ _ h => h) hHeld.out (yieldsIf_of rfl ?_) ?_
  rotate_left
  · (intro w hSw; go_simp <;> with_reducible rfl)
  try simp only [Act.put, List.setIfInBounds_toArray, List.set_cons_zero, List.set_cons_succ]
  refine lastTake 9 rfl (by kernel_rfl) (by kernel_rfl) (by kernel_rfl) (by kernel_rfl) (by kernel_rfl) (fun _ _ _ h => h) hHeld.out (yieldsIf_of (v := .slice A2 8 c2) rfl (fun w h => by have hq := k2.out w; go_simp)) ?_
  try simp only [Act.put, List.setIfInBounds_toArray, List.set_cons_zero, List.set_cons_succ]
  refine Go.Proofs.YtgfmeiddicodoaaW.PrintLast.wpAnyLast_ready (rs := [2, 12]) (by kernel_rfl) (by simp) (Go.Proofs.YtgfmeiddicodoaaW.PrintLast.AllReadyL.cons rfl (by decide) (fun K hK => ?_) (Go.Proofs.YtgfmeiddicodoaaW.PrintLast.AllReadyL.cons rfl (by decide) (fun K hK => ?_) (Go.Proofs.YtgfmeiddicodoaaW.PrintLast.AllReadyL.nil)))
  · go_simp
    refine (N0.out _ hHeld.out).mono ?_
    rintro _ v10 ⟨rfl, hb⟩
    have hNewE : (v10.heap[w.heap.size]? = some (.cells #[.int .u32 0, .int .u32 0, .int .u64 0, .int .u64 0, .int .u64 0, .int .u64 0, .int .u64 0, .int .u64 0, .int .u64 0] 26 (0, 0))) ∧ (Below w.heap.size w v10) := ⟨blk_below (hEx.out.1) hb, below_more (hEx.out.2) (Nat.le_refl _) hb⟩
    refine hK.out _ _ (ReadsInt.below (hHeld.out) hb) (fun hNewS => ?_)
    clear hK K
    clear hHeld hEx
    have hHeld := Lib.hid hNewS
    have hEx := Lib.hid hNewE
    clear hNewS hNewE
    clear hb
    try simp only [Act.put, List.setIfInBounds_toArray, List.set_cons_zero, List.set_cons_succ]
    refine lastTake 3 rfl (by kernel_rfl) (by kernel_rfl) (by kernel_rfl) (by kernel_rfl) (by kernel_rfl) (fun _ _ _ h => h) hHeld.out (yieldsIf_of (v := .int .u32 n0) rfl (fun w h => by go_simp; exact IntWalk.u32_in _ (by omega))) ?_
    try simp only [Act.put, List.setIfInBounds_toArray, List.set_cons_zero, List.set_cons_succ]
    refine Go.Proofs.YtgfmeiddicodoaaW.PrintLast.wpAnyLast_ready (rs := [6, 12]) (by kernel_rfl) (by simp) (Go.Proofs.YtgfmeiddicodoaaW.PrintLast.AllReadyL.cons rfl (by decide) (fun K hK => ?_) (Go.Proofs.YtgfmeiddicodoaaW.PrintLast.AllReadyL.cons rfl (by decide) (fun K hK => ?_) (Go.Proofs.YtgfmeiddicodoaaW.PrintLast.AllReadyL.nil)))
    · go_simp
      refine (N1.out _ hHeld.out).mono ?_
      rintro _ v11 ⟨rfl, hb⟩
      have hNewE : (v11.heap[w.heap.size]? = some (.cells #[.int .u32 0, .int .u32 0, .int .u64 0, .int .u64 0, .int .u64 0, .int .u64 0, .int .u64 0, .int .u64 0, .int .u64 0] 26 (0, 0))) ∧ (Below w.heap.size w v11) := ⟨blk_below (hEx.out.1) hb, below_more (hEx.out.2) (Nat.le_refl _) hb⟩
      refine hK.out _ _ (ReadsInt.below (hHeld.out) hb) (fun hNewS => ?_)
      clear hK K
      clear hHeld hEx
      have hHeld := Lib.hid hNewS
      have hEx := Lib.hid hNewE
      clear hNewS hNewE
      clear hb
      try simp only [Act.put, List.setIfInBounds_toArray, List.set_cons_zero, List.set_cons_succ]
      refine lastTake 7 rfl (by kernel_rfl) (by kernel_rfl) (by kernel_rfl) (by kernel_rfl) (by kernel_rfl) (fun _ _ _ h => h) hHeld.out (yieldsIf_of (v := .int .u32 n1) rfl (fun w h => by go_simp; exact IntWalk.u32_in _ (by omega))) ?_
      try simp only [Act.put, List.setIfInBounds_toArray, List.set_cons_zero, List.set_cons_succ]
      refine Go.Proofs.YtgfmeiddicodoaaW.PrintLast.wpAnyLast_ready (rs := [10, 12]) (by kernel_rfl) (by simp) (Go.Proofs.YtgfmeiddicodoaaW.PrintLast.AllReadyL.cons rfl (by decide) (fun K hK => ?_) (Go.Proofs.YtgfmeiddicodoaaW.PrintLast.AllReadyL.cons rfl (by decide) (fun K hK => ?_) (Go.Proofs.YtgfmeiddicodoaaW.PrintLast.AllReadyL.nil)))
      · go_simp
        refine (N2.out _ hHeld.out).mono ?_
        rintro _ v12 ⟨rfl, hb⟩
        have hNewE : (v12.heap[w.heap.size]? = some (.cells #[.int .u32 0, .int .u32 0, .int .u64 0, .int .u64 0, .int .u64 0, .int .u64 0, .int .u64 0, .int .u64 0, .int .u64 0] 26 (0, 0))) ∧ (Below w.heap.size w v12) := ⟨blk_below (hEx.out.1) hb, below_more (hEx.out.2) (Nat.le_refl _) hb⟩
        refine hK.out _ _ (ReadsInt.below (hHeld.out) hb) (fun hNewS => ?_)
        clear hK K
        clear hHeld hEx
        have hHeld := Lib.hid hNewS
        have hEx := Lib.hid hNewE
        clear hNewS hNewE
        clear hb
        try simp only [Act.put, List.setIfInBounds_toArray, List.set_cons_zero, List.set_cons_succ]
        refine lastTake 11 (v := ?_) rfl (by kernel_rfl) (by kernel_rfl) (by kernel_rfl) (by kernel_rfl) (by kernel_rfl) (fun _ _ _ h => h) hHeld.out (yieldsIf_of rfl ?_) ?_
        rotate_left
        · (intro w hSw; go_simp <;> with_reducible rfl)
        try simp only [Act.put, List.setIfInBounds_toArray, List.set_cons_zero, List.set_cons_succ]
        refine lastOne 12 (by kernel_rfl) rfl (by decide) (fun K hK => ?_)
        go_simp
        have hNewE : ((v12.alloc (.cells #[.int .u32 0, .int .u32 0, .int .u64 0, .int .u64 0, .int .u64 0, .int .u64 0, .int .u64 0, .int .u64 0, .int .u64 0] 26)).heap[v12.heap.size]? = some (.cells #[.int .u32 0, .int .u32 0, .int .u64 0, .int .u64 0, .int .u64 0, .int .u64 0, .int .u64 0, .int .u64 0, .int .u64 0] 26 (0, 0))) ∧ (w.heap.size < v12.heap.size) ∧ ((v12.alloc (.cells #[.int .u32 0, .int .u32 0, .int .u64 0, .int .u64 0, .int .u64 0, .int .u64 0, .int .u64 0, .int .u64 0, .int .u64 0] 26)).heap[w.heap.size]? = some (.cells #[.int .u32 0, .int .u32 0, .int .u64 0, .int .u64 0, .int .u64 0, .int .u64 0, .int .u64 0, .int .u64 0, .int .u64 0] 26 (0, 0))) ∧ (Below w.heap.size w (v12.alloc (.cells #[.int .u32 0, .int .u32 0, .int .u64 0, .int .u64 0, .int .u64 0, .int .u64 0, .int .u64 0, .int .u64 0, .int .u64 0] 26))) := ⟨heap_alloc_new v12 _, (blk_lt hEx.out.1), blk_alloc (hEx.out.1) _, (hEx.out.2).alloc (hEx.out.2).size _⟩
        refine hK.out _ _ (ReadsInt.below (hHeld.out) (Below.alloc (Below.refl _ _) (Nat.le_refl _) _)) (fun hNewS => ?_)
        clear hK K
        clear hHeld hEx
        have hHeld := Lib.hid hNewS
        have hEx := Lib.hid hNewE
        clear hNewS hNewE
        try simp only [Act.put, List.setIfInBounds_toArray, List.set_cons_zero, List.set_cons_succ]
        refine lastEnd 13 (by kernel_rfl) rfl (by decide) (fun K hK => ?_)
        rw [if_pos (by rfl)]
        refine wp_store_row 26 (.tmp 3) (.tmp 16) rfl rfl v12.heap.size rfl #[.int .u32 n0, .int .u32 n1, .int .u64 n2, .int .u64 0, .int .u64 0, .int .u64 0, .int .u64 0, .int .u64 0, .int .u64 0] rfl 26 _ hEx.out.1 (by rfl) HIF.out HOF.out ?_
        have hNewE : (((v12.alloc (.cells #[.int .u32 0, .int .u32 0, .int .u64 0, .int .u64 0, .int .u64 0, .int .u64 0, .int .u64 0, .int .u64 0, .int .u64 0] 26)).setRow v12.heap.size #[.int .u32 n0, .int .u32 n1, .int .u64 n2, .int .u64 0, .int .u64 0, .int .u64 0, .int .u64 0, .int .u64 0, .int .u64 0]).heap[v12.heap.size]? = some (.cells #[.int .u32 n0, .int .u32 n1, .int .u64 n2, .int .u64 0, .int .u64 0, .int .u64 0, .int .u64 0, .int .u64 0, .int .u64 0] 26 (0, 0))) ∧ (ReadsInt ((v12.alloc (.cells #[.int .u32 0, .int .u32 0, .int .u64 0, .int .u64 0, .int .u64 0, .int .u64 0, .int .u64 0, .int .u64 0, .int .u64 0] 26)).setRow v12.heap.size #[.int .u32 n0, .int .u32 n1, .int .u64 n2, .int .u64 0, .int .u64 0, .int .u64 0, .int .u64 0, .int .u64 0, .int .u64 0]) .u8 A 64 L) ∧ (w.heap.size < v12.heap.size) ∧ (((v12.alloc (.cells #[.int .u32 0, .int .u32 0, .int .u64 0, .int .u64 0, .int .u64 0, .int .u64 0, .int .u64 0, .int .u64 0, .int .u64 0] 26)).setRow v12.heap.size #[.int .u32 n0, .int .u32 n1, .int .u64 n2, .int .u64 0, .int .u64 0, .int .u64 0, .int .u64 0, .int .u64 0, .int .u64 0]).heap[w.heap.size]? = some (.cells #[.int .u32 0, .int .u32 0, .int .u64 0, .int .u64 0, .int .u64 0, .int .u64 0, .int .u64 0, .int .u64 0, .int .u64 0] 26 (0, 0))) ∧ (Below w.heap.size w ((v12.alloc (.cells #[.int .u32 0, .int .u32 0, .int .u64 0, .int .u64 0, .int .u64 0, .int .u64 0, .int .u64 0, .int .u64 0, .int .u64 0] 26)).setRow v12.heap.size #[.int .u32 n0, .int .u32 n1, .int .u64 n2, .int .u64 0, .int .u64 0, .int .u64 0, .int .u64 0, .int .u64 0, .int .u64 0])) := ⟨heap_setRow_same _ _ _ _ _ _ hEx.out.1, (ReadsInt.below hr.out (below_setRow hEx.out.2.2.2 (Nat.le_of_lt hEx.out.2.1))), hEx.out.2.1, row_setRow hEx.out.2.2.1 (Nat.ne_of_lt hEx.out.2.1), below_setRow hEx.out.2.2.2 (Nat.le_of_lt hEx.out.2.1)⟩
        refine hK.out _ _ ?_
        clear hK K
        clear hHeld hEx
        have hEx := Lib.hid hNewE
        clear hNewE
        try simp only [Act.put, List.setIfInBounds_toArray, List.set_cons_zero, List.set_cons_succ]
        refine Go.Proofs.YtgfmeiddicodoaaW.PrintLast.wpAnyLast_done (by kernel_rfl) ?_ _
        have G1 := Lib.hid hEx.out.1
        have G2 := Lib.hid hEx.out.2.2.2.1
        have G3 := Lib.hid hEx.out.2.1
        have G4 := Lib.hid hEx.out.2.2.2.2
        have G5 := Lib.hid hEx.out.2.2.1
        clear hEx q1 q4 q5
        go_wp2_with fail
        go_loopw [4] (fun i wr => ∃ k : Nat, k ≤ 6 ∧ i = .int .i64 (k : Int) ∧ wr.heap[v12.heap.size]? = some (.cells (DK k) 26 (0, 0)) ∧ wr.heap[w.heap.size]? = some (.cells #[.int .u32 0, .int .u32 0, .int .u64 0, .int .u64 0, .int .u64 0, .int .u64 0, .int .u64 0, .int .u64 0, .int .u64 0] 26 (0, 0)) ∧ ReadsInt wr .u8 A 64 L ∧ Below w.heap.size w wr) (fun i _ => 6 - (intOf i).toNat)
        case atStart => exact ⟨0, by omega, rfl, by rw [d0.out]; exact G1.out, G2.out, G3.out, G4.out⟩
        case round =>
          obtain ⟨k, hk, rfl, ho, hg, hx, hb⟩ := hrel
          have HO := Lib.hid ho
          have HG := Lib.hid hg
          have HX := Lib.hid hx
          have HB := Lib.hid hb
          clear ho hg hx hb G1 G2 G3 G4
          by_cases hlt : k < 6
          · obtain ⟨Ak, ck, hcut, hnum⟩ := NK.out k hlt
            have HN := Lib.hid hnum
            clear hnum
            have HDS := Lib.hid (dS.out k)
            generalize ag k = nk at *
            go_wp2_with fail
            refine (HN.out _ HX.out).mono ?_
            rintro e w2 ⟨rfl, hb⟩
            have K1 := Lib.hid (blk_below HO.out hb)
            have K2 := Lib.hid (blk_below HG.out hb)
            have K3 := Lib.hid (HX.out.below hb)
            have K4 := Lib.hid (below_more HB.out (Nat.le_refl _) hb)
            clear hb HO HG HX HB hcut
            obtain ⟨u, hu⟩ := dG.out k hlt
            have cx := (blk_cell K1.out (3 + k)).trans hu
            have fx : w2.frozen? ⟨v12.heap.size, 3 + k, none⟩ = false := blk_frozen K1.out (3 + k)
            go_wp2_with fail
            refine ⟨⟨k + 1, by omega, by go_num, ?_, ?_, ?_, ?_⟩, ?_⟩
            · have hz := blk_set K1.out (3 + k) (.int .u64 nk); rw [HDS.out] at hz; exact hz
            · exact (heap_setCell_other _ _ _ _ (Nat.ne_of_lt G5.out)).trans K2.out
            · exact ReadsInt.below hr.out (K4.out.trans ⟨rfl, rfl, rfl, by simp [World.setCell], fun q hq => heap_setCell_other _ _ _ _ (by have := G5.out; simp; omega)⟩)
            · exact K4.out.trans ⟨rfl, rfl, rfl, by simp [World.setCell], fun q hq => heap_setCell_other _ _ _ _ (by have := G5.out; simp; omega)⟩
            · simp [intOf]; omega
          · obtain rfl : k = 6 := by omega
            go_wp2_with (first | (refine wpList_load_row rfl 26 (.tmp 3) rfl _ rfl _ _ _ _ HO.out Try.underlying26 rfl HI6.out ?_) | (refine wpList_store_row rfl 26 (.tmp 2) (.tmp 33) rfl rfl w.heap.size rfl (DK 6) rfl _ _ HG.out (HZ.out).symm HI6.out d1.out ?_))
            have hfin := heap_setRow_same wr w.heap.size (DK 6) _ _ _ HG.out
            refine bodyPost_ret (results_cell_row rfl _ _ w.heap.size _ _ _ _ rfl hfin Try.underlying26 rfl HI6.out) rfl ?_
            exact ⟨rfl, below_setRow HB.out (Nat.le_refl _)⟩
      · go_simp
        have hNewE : ((v11.alloc (.cells #[.int .u32 0, .int .u32 0, .int .u64 0, .int .u64 0, .int .u64 0, .int .u64 0, .int .u64 0, .int .u64 0, .int .u64 0] 26)).heap[v11.heap.size]? = some (.cells #[.int .u32 0, .int .u32 0, .int .u64 0, .int .u64 0, .int .u64 0, .int .u64 0, .int .u64 0, .int .u64 0, .int .u64 0] 26 (0, 0))) ∧ (w.heap.size < v11.heap.size) ∧ ((v11.alloc (.cells #[.int .u32 0, .int .u32 0, .int .u64 0, .int .u64 0, .int .u64 0, .int .u64 0, .int .u64 0, .int .u64 0, .int .u64 0] 26)).heap[w.heap.size]? = some (.cells #[.int .u32 0, .int .u32 0, .int .u64 0, .int .u64 0, .int .u64 0, .int .u64 0, .int .u64 0, .int .u64 0, .int .u64 0] 26 (0, 0))) ∧ (Below w.heap.size w (v11.alloc (.cells #[.int .u32 0, .int .u32 0, .int .u64 0, .int .u64 0, .int .u64 0, .int .u64 0, .int .u64 0, .int .u64 0, .int .u64 0] 26))) := ⟨heap_alloc_new v11 _, (blk_lt hEx.out.1), blk_alloc (hEx.out.1) _, (hEx.out.2).alloc (hEx.out.2).size _⟩
        refine hK.out _ _ (ReadsInt.below (hHeld.out) (Below.alloc (Below.refl _ _) (Nat.le_refl _) _)) (fun hNewS => ?_)
        clear hK K
        clear hHeld hEx
        have hHeld := Lib.hid hNewS
        have hEx := Lib.hid hNewE
        clear hNewS hNewE
        try simp only [Act.put, List.setIfInBounds_toArray, List.set_cons_zero, List.set_cons_succ]
        refine lastOne 10 (by kernel_rfl) rfl (by decide) (fun K hK => ?_)
        go_simp
        refine (N2.out _ hHeld.out).mono ?_
        rintro _ v17 ⟨rfl, hb⟩
        have hNewE : (v17.heap[v11.heap.size]? = some (.cells #[.int .u32 0, .int .u32 0, .int .u64 0, .int .u64 0, .int .u64 0, .int .u64 0, .int .u64 0, .int .u64 0, .int .u64 0] 26 (0, 0))) ∧ (w.heap.size < v11.heap.size) ∧ (v17.heap[w.heap.size]? = some (.cells #[.int .u32 0, .int .u32 0, .int .u64 0, .int .u64 0, .int .u64 0, .int .u64 0, .int .u64 0, .int .u64 0, .int .u64 0] 26 (0, 0))) ∧ (Below w.heap.size w v17) := ⟨blk_below (hEx.out.1) hb, (hEx.out.2.1), blk_below (hEx.out.2.2.1) hb, below_more (hEx.out.2.2.2) (Nat.le_refl _) hb⟩
        refine hK.out _ _ (ReadsInt.below (hHeld.out) hb) (fun hNewS => ?_)
        clear hK K
        clear hHeld hEx
        have hHeld := Lib.hid hNewS
        have hEx := Lib.hid hNewE
        clear hNewS hNewE
        clear hb
        try simp only [Act.put, List.setIfInBounds_toArray, List.set_cons_zero, List.set_cons_succ]
        refine lastTake 11 (v := ?_) rfl (by kernel_rfl) (by kernel_rfl) (by kernel_rfl) (by kernel_rfl) (by kernel_rfl) (fun _ _ _ h => h) hHeld.out (yieldsIf_of rfl ?_) ?_
        rotate_left
        · (intro w hSw; go_simp <;> with_reducible rfl)
        try simp only [Act.put, List.setIfInBounds_toArray, List.set_cons_zero, List.set_cons_succ]
        refine lastEnd 13 (by kernel_rfl) rfl (by decide) (fun K hK => ?_)
        rw [if_pos (by rfl)]
        refine wp_store_row 26 (.tmp 3) (.tmp 16) rfl rfl v11.heap.size rfl #[.int .u32 n0, .int .u32 n1, .int .u64 n2, .int .u64 0, .int .u64 0, .int .u64 0, .int .u64 0, .int .u64 0, .int .u64 0] rfl 26 _ hEx.out.1 (by rfl) HIF.out HOF.out ?_
        have hNewE : ((v17.setRow v11.heap.size #[.int .u32 n0, .int .u32 n1, .int .u64 n2, .int .u64 0, .int .u64 0, .int .u64 0, .int .u64 0, .int .u64 0, .int .u64 0]).heap[v11.heap.size]? = some (.cells #[.int .u32 n0, .int .u32 n1, .int .u64 n2, .int .u64 0, .int .u64 0, .int .u64 0, .int .u64 0, .int .u64 0, .int .u64 0] 26 (0, 0))) ∧ (ReadsInt (v17.setRow v11.heap.size #[.int .u32 n0, .int .u32 n1, .int .u64 n2, .int .u64 0, .int .u64 0, .int .u64 0, .int .u64 0, .int .u64 0, .int .u64 0]) .u8 A 64 L) ∧ (w.heap.size < v11.heap.size) ∧ ((v17.setRow v11.heap.size #[.int .u32 n0, .int .u32 n1, .int .u64 n2, .int .u64 0, .int .u64 0, .int .u64 0, .int .u64 0, .int .u64 0, .int .u64 0]).heap[w.heap.size]? = some (.cells #[.int .u32 0, .int .u32 0, .int .u64 0, .int .u64 0, .int .u64 0, .int .u64 0, .int .u64 0, .int .u64 0, .int .u64 0] 26 (0, 0))) ∧ (Below w.heap.size w (v17.setRow v11.heap.size #[.int .u32 n0, .int .u32 n1, .int .u64 n2, .int .u64 0, .int .u64 0, .int .u64 0, .int .u64 0, .int .u64 0, .int .u64 0])) := ⟨heap_setRow_same _ _ _ _ _ _ hEx.out.1, (ReadsInt.below hr.out (below_setRow hEx.out.2.2.2 (Nat.le_of_lt hEx.out.2.1))), hEx.out.2.1, row_setRow hEx.out.2.2.1 (Nat.ne_of_lt hEx.out.2.1), below_setRow hEx.out.2.2.2 (Nat.le_of_lt hEx.out.2.1)⟩
        refine hK.out _ _ ?_
        clear hK K
        clear hHeld hEx
        have hEx := Lib.hid hNewE
        clear hNewE
        try simp only [Act.put, List.setIfInBounds_toArray, List.set_cons_zero, List.set_cons_succ]
        refine Go.Proofs.YtgfmeiddicodoaaW.PrintLast.wpAnyLast_done (by kernel_rfl) ?_ _
        have G1 := Lib.hid hEx.out.1
        have G2 := Lib.hid hEx.out.2.2.2.1
        have G3 := Lib.hid hEx.out.2.1
        have G4 := Lib.hid hEx.out.2.2.2.2
        have G5 := Lib.hid hEx.out.2.2.1
        clear hEx q1 q4 q5
        go_wp2_with fail
        go_loopw [4] (fun i wr => ∃ k : Nat, k ≤ 6 ∧ i = .int .i64 (k : Int) ∧ wr.heap[v11.heap.size]? = some (.cells (DK k) 26 (0, 0)) ∧ wr.heap[w.heap.size]? = some (.cells #[.int .u32 0, .int .u32 0, .int .u64 0, .int .u64 0, .int .u64 0, .int .u64 0, .int .u64 0, .int .u64 0, .int .u64 0] 26 (0, 0)) ∧ ReadsInt wr .u8 A 64 L ∧ Below w.heap.size w wr) (fun i _ => 6 - (intOf i).toNat)
        case atStart => exact ⟨0, by omega, rfl, by rw [d0.out]; exact G1.out, G2.out, G3.out, G4.out⟩
        case round =>
          obtain ⟨k, hk, rfl, ho, hg, hx, hb⟩ := hrel
          have HO := Lib.hid ho
          have HG := Lib.hid hg
          have HX := Lib.hid hx
          have HB := Lib.hid hb
          clear ho hg hx hb G1 G2 G3 G4
          by_cases hlt : k < 6
          · obtain ⟨Ak, ck, hcut, hnum⟩ := NK.out k hlt
            have HN := Lib.hid hnum
            clear hnum
            have HDS := Lib.hid (dS.out k)
            generalize ag k = nk at *
            go_wp2_with fail
            refine (HN.out _ HX.out).mono ?_
            rintro e w2 ⟨rfl, hb⟩
            have K1 := Lib.hid (blk_below HO.out hb)
            have K2 := Lib.hid (blk_below HG.out hb)
            have K3 := Lib.hid (HX.out.below hb)
            have K4 := Lib.hid (below_more HB.out (Nat.le_refl _) hb)
            clear hb HO HG HX HB hcut
            obtain ⟨u, hu⟩ := dG.out k hlt
            have cx := (blk_cell K1.out (3 + k)).trans hu
            have fx : w2.frozen? ⟨v11.heap.size, 3 + k, none⟩ = false := blk_frozen K1.out (3 + k)
            go_wp2_with fail
            refine ⟨⟨k + 1, by omega, by go_num, ?_, ?_, ?_, ?_⟩, ?_⟩
            · have hz := blk_set K1.out (3 + k) (.int .u64 nk); rw [HDS.out] at hz; exact hz
            · exact (heap_setCell_other _ _ _ _ (Nat.ne_of_lt G5.out)).trans K2.out
            · exact ReadsInt.below hr.out (K4.out.trans ⟨rfl, rfl, rfl, by simp [World.setCell], fun q hq => heap_setCell_other _ _ _ _ (by have := G5.out; simp; omega)⟩)
            · exact K4.out.trans ⟨rfl, rfl, rfl, by simp [World.setCell], fun q hq => heap_setCell_other _ _ _ _ (by have := G5.out; simp; omega)⟩
            · simp [intOf]; omega
          · obtain rfl : k = 6 := by omega
            go_wp2_with (first | (refine wpList_load_row rfl 26 (.tmp 3) rfl _ rfl _ _ _ _ HO.out Try.underlying26 rfl HI6.out ?_) | (refine wpList_store_row rfl 26 (.tmp 2) (.tmp 33) rfl rfl w.heap.size rfl (DK 6) rfl _ _ HG.out (HZ.out).symm HI6.out d1.out ?_))
            have hfin := heap_setRow_same wr w.heap.size (DK 6) _ _ _ HG.out
            refine bodyPost_ret (results_cell_row rfl _ _ w.heap.size _ _ _ _ rfl hfin Try.underlying26 rfl HI6.out) rfl ?_
            exact ⟨rfl, below_setRow HB.out (Nat.le_refl _)⟩
    · go_simp
      have hNewE : ((v10.alloc (.cells #[.int .u32 0, .int .u32 0, .int .u64 0, .int .u64 0, .int .u64 0, .int .u64 0, .int .u64 0, .int .u64 0, .int .u64 0] 26)).heap[v10.heap.size]? = some (.cells #[.int .u32 0, .int .u32 0, .int .u64 0, .int .u64 0, .int .u64 0, .int .u64 0, .int .u64 0, .int .u64 0, .int .u64 0] 26 (0, 0))) ∧ (w.heap.size < v10.heap.size) ∧ ((v10.alloc (.cells #[.int .u32 0, .int .u32 0, .int .u64 0, .int .u64 0, .int .u64 0, .int .u64 0, .int .u64 0, .int .u64 0, .int .u64 0] 26)).heap[w.heap.size]? = some (.cells #[.int .u32 0, .int .u32 0, .int .u64 0, .int .u64 0, .int .u64 0, .int .u64 0, .int .u64 0, .int .u64 0, .int .u64 0] 26 (0, 0))) ∧ (Below w.heap.size w (v10.alloc (.cells #[.int .u32 0, .int .u32 0, .int .u64 0, .int .u64 0, .int .u64 0, .int .u64 0, .int .u64 0, .int .u64 0, .int .u64 0] 26))) := ⟨heap_alloc_new v10 _, (blk_lt hEx.out.1), blk_alloc (hEx.out.1) _, (hEx.out.2).alloc (hEx.out.2).size _⟩
      refine hK.out _ _ (ReadsInt.below (hHeld.out) (Below.alloc (Below.refl _ _) (Nat.le_refl _) _)) (fun hNewS => ?_)
      clear hK K
      clear hHeld hEx
      have hHeld := Lib.hid hNewS
      have hEx := Lib.hid hNewE
      clear hNewS hNewE
      try simp only [Act.put, List.setIfInBounds_toArray, List.set_cons_zero, List.set_cons_succ]
      refine lastOne 6 (by kernel_rfl) rfl (by decide) (fun K hK => ?_)
      go_simp
      refine (N1.out _ hHeld.out).mono ?_
      rintro _ v20 ⟨rfl, hb⟩
      have hNewE : (v20.heap[v10.heap.size]? = some (.cells #[.int .u32 0, .int .u32 0, .int .u64 0, .int .u64 0, .int .u64 0, .int .u64 0, .int .u64 0, .int .u64 0, .int .u64 0] 26 (0, 0))) ∧ (w.heap.size < v10.heap.size) ∧ (v20.heap[w.heap.size]? = some (.cells #[.int .u32 0, .int .u32 0, .int .u64 0, .int .u64 0, .int .u64 0, .int .u64 0, .int .u64 0, .int .u64 0, .int .u64 0] 26 (0, 0))) ∧ (Below w.heap.size w v20) := ⟨blk_below (hEx.out.1) hb, (hEx.out.2.1), blk_below (hEx.out.2.2.1) hb, below_more (hEx.out.2.2.2) (Nat.le_refl _) hb⟩
      refine hK.out _ _ (ReadsInt.below (hHeld.out) hb) (fun hNewS => ?_)
      clear hK K
      clear hHeld hEx
      have hHeld := Lib.hid hNewS
      have hEx := Lib.hid hNewE
      clear hNewS hNewE
      clear hb
      try simp only [Act.put, List.setIfInBounds_toArray, List.set_cons_zero, List.set_cons_succ]
      refine lastTake 7 rfl (by kernel_rfl) (by kernel_rfl) (by kernel_rfl) (by kernel_rfl) (by kernel_rfl) (fun _ _ _ h => h) hHeld.out (yieldsIf_of (v := .int .u32 n1) rfl (fun w h => by go_simp; exact IntWalk.u32_in _ (by omega))) ?_
      try simp only [Act.put, List.setIfInBounds_toArray, List.set_cons_zero, List.set_cons_succ]
      refine lastOne 10 (by kernel_rfl) rfl (by decide) (fun K hK => ?_)
      go_simp
      refine (N2.out _ hHeld.out).mono ?_
      rintro _ v21 ⟨rfl, hb⟩
      have hNewE : (v21.heap[v10.heap.size]? = some (.cells #[.int .u32 0, .int .u32 0, .int .u64 0, .int .u64 0, .int .u64 0, .int .u64 0, .int .u64 0, .int .u64 0, .int .u64 0] 26 (0, 0))) ∧ (w.heap.size < v10.heap.size) ∧ (v21.heap[w.heap.size]? = some (.cells #[.int .u32 0, .int .u32 0, .int .u64 0, .int .u64 0, .int .u64 0, .int .u64 0, .int .u64 0, .int .u64 0, .int .u64 0] 26 (0, 0))) ∧ (Below w.heap.size w v21) := ⟨blk_below (hEx.out.1) hb, (hEx.out.2.1), blk_below (hEx.out.2.2.1) hb, below_more (hEx.out.2.2.2) (Nat.le_refl _) hb⟩
      refine hK.out _ _ (ReadsInt.below (hHeld.out) hb) (fun hNewS => ?_)
      clear hK K
      clear hHeld hEx
      have hHeld := Lib.hid hNewS
      have hEx := Lib.hid hNewE
      clear hNewS hNewE
      clear hb
      try simp only [Act.put, List.setIfInBounds_toArray, List.set_cons_zero, List.set_cons_succ]
      refine lastTake 11 (v := ?_) rfl (by kernel_rfl) (by kernel_rfl) (by kernel_rfl) (by kernel_rfl) (by kernel_rfl) (fun _ _ _ h => h) hHeld.out (yieldsIf_of rfl ?_) ?_
      rotate_left
      · (intro w hSw; go_simp <;> with_reducible rfl)
      try simp only [Act.put, List.setIfInBounds_toArray, List.set_cons_zero, List.set_cons_succ]
      refine lastEnd 13 (by kernel_rfl) rfl (by decide) (fun K hK => ?_)
      rw [if_pos (by rfl)]
      refine wp_store_row 26 (.tmp 3) (.tmp 16) rfl rfl v10.heap.size rfl #[.int .u32 n0, .int .u32 n1, .int .u64 n2, .int .u64 0, .int .u64 0, .int .u64 0, .int .u64 0, .int .u64 0, .int .u64 0] rfl 26 _ hEx.out.1 (by rfl) HIF.out HOF.out ?_
      have hNewE : ((v21.setRow v10.heap.size #[.int .u32 n0, .int .u32 n1, .int .u64 n2, .int .u64 0, .int .u64 0, .int .u64 0, .int .u64 0, .int .u64 0, .int .u64 0]).heap[v10.heap.size]? = some (.cells #[.int .u32 n0, .int .u32 n1, .int .u64 n2, .int .u64 0, .int .u64 0, .int .u64 0, .int .u64 0, .int .u64 0, .int .u64 0] 26 (0, 0))) ∧ (ReadsInt (v21.setRow v10.heap.size #[.int .u32 n0, .int .u32 n1, .int .u64 n2, .int .u64 0, .int .u64 0, .int .u64 0, .int .u64 0, .int .u64 0, .int .u64 0]) .u8 A 64 L) ∧ (w.heap.size < v10.heap.size) ∧ ((v21.setRow v10.heap.size #[.int .u32 n0, .int .u32 n1, .int .u64 n2, .int .u64 0, .int .u64 0, .int .u64 0, .int .u64 0, .int .u64 0, .int .u64 0]).heap[w.heap.size]? = some (.cells #[.int .u32 0, .int .u32 0, .int .u64 0, .int .u64 0, .int .u64 0, .int .u64 0, .int .u64 0, .int .u64 0, .int .u64 0] 26 (0, 0))) ∧ (Below w.heap.size w (v21.setRow v10.heap.size #[.int .u32 n0, .int .u32 n1, .int .u64 n2, .int .u64 0, .int .u64 0, .int .u64 0, .int .u64 0, .int .u64 0, .int .u64 0])) := ⟨heap_setRow_same _ _ _ _ _ _ hEx.out.1, (ReadsInt.below hr.out (below_setRow hEx.out.2.2.2 (Nat.le_of_lt hEx.out.2.1))), hEx.out.2.1, row_setRow hEx.out.2.2.1 (Nat.ne_of_lt hEx.out.2.1), below_setRow hEx.out.2.2.2 (Nat.le_of_lt hEx.out.2.1)⟩
      refine hK.out _ _ ?_
      clear hK K
      clear hHeld hEx
      have hEx := Lib.hid hNewE
      clear hNewE
      try simp only [Act.put, List.setIfInBounds_toArray, List.set_cons_zero, List.set_cons_succ]
      refine Go.Proofs.YtgfmeiddicodoaaW.PrintLast.wpAnyLast_done (by kernel_rfl) ?_ _
      have G1 := Lib.hid hEx.out.1
      have G2 := Lib.hid hEx.out.2.2.2.1
      have G3 := Lib.hid hEx.out.2.1
      have G4 := Lib.hid hEx.out.2.2.2.2
      have G5 := Lib.hid hEx.out.2.2.1
      clear hEx q1 q4 q5
      go_wp2_with fail
      go_loopw [4] (fun i wr => ∃ k : Nat, k ≤ 6 ∧ i = .int .i64 (k : Int) ∧ wr.heap[v10.heap.size]? = some (.cells (DK k) 26 (0, 0)) ∧ wr.heap[w.heap.size]? = some (.cells #[.int .u32 0, .int .u32 0, .int .u64 0, .int .u64 0, .int .u64 0, .int .u64 0, .int .u64 0, .int .u64 0, .int .u64 0] 26 (0, 0)) ∧ ReadsInt wr .u8 A 64 L ∧ Below w.heap.size w wr) (fun i _ => 6 - (intOf i).toNat)
      case atStart => exact ⟨0, by omega, rfl, by rw [d0.out]; exact G1.out, G2.out, G3.out, G4.out⟩
      case round =>
        obtain ⟨k, hk, rfl, ho, hg, hx, hb⟩ := hrel
        have HO := Lib.hid ho
        have HG := Lib.hid hg
        have HX := Lib.hid hx
        have HB := Lib.hid hb
        clear ho hg hx hb G1 G2 G3 G4
        by_cases hlt : k < 6
        · obtain ⟨Ak, ck, hcut, hnum⟩ := NK.out k hlt
          have HN := Lib.hid hnum
          clear hnum
          have HDS := Lib.hid (dS.out k)
          generalize ag k = nk at *
          go_wp2_with fail
          refine (HN.out _ HX.out).mono ?_
          rintro e w2 ⟨rfl, hb⟩
          have K1 := Lib.hid (blk_below HO.out hb)
          have K2 := Lib.hid (blk_below HG.out hb)
          have K3 := Lib.hid (HX.out.below hb)
          have K4 := Lib.hid (below_more HB.out (Nat.le_refl _) hb)
          clear hb HO HG HX HB hcut
          obtain ⟨u, hu⟩ := dG.out k hlt
          have cx := (blk_cell K1.out (3 + k)).trans hu
          have fx : w2.frozen? ⟨v10.heap.size, 3 + k, none⟩ = false := blk_frozen K1.out (3 + k)
          go_wp2_with fail
          refine ⟨⟨k + 1, by omega, by go_num, ?_, ?_, ?_, ?_⟩, ?_⟩
          · have hz := blk_set K1.out (3 + k) (.int .u64 nk); rw [HDS.out] at hz; exact hz
          · exact (heap_setCell_other _ _ _ _ (Nat.ne_of_lt G5.out)).trans K2.out
          · exact ReadsInt.below hr.out (K4.out.trans ⟨rfl, rfl, rfl, by simp [World.setCell], fun q hq => heap_setCell_other _ _ _ _ (by have := G5.out; simp; omega)⟩)
          · exact K4.out.trans ⟨rfl, rfl, rfl, by simp [World.setCell], fun q hq => heap_setCell_other _ _ _ _ (by have := G5.out; simp; omega)⟩
          · simp [intOf]; omega
        · obtain rfl : k = 6 := by omega
          go_wp2_with (first | (refine wpList_load_row rfl 26 (.tmp 3) rfl _ rfl _ _ _ _ HO.out Try.underlying26 rfl HI6.out ?_) | (refine wpList_store_row rfl 26 (.tmp 2) (.tmp 33) rfl rfl w.heap.size rfl (DK 6) rfl _ _ HG.out (HZ.out).symm HI6.out d1.out ?_))
          have hfin := heap_setRow_same wr w.heap.size (DK 6) _ _ _ HG.out
          refine bodyPost_ret (results_cell_row rfl _ _ w.heap.size _ _ _ _ rfl hfin Try.underlying26 rfl HI6.out) rfl ?_
          exact ⟨rfl, below_setRow HB.out (Nat.le_refl _)⟩
  · go_simp
    have hNewE : ((W1.drew.alloc (.cells #[.int .u32 0, .int .u32 0, .int .u64 0, .int .u64 0, .int .u64 0, .int .u64 0, .int .u64 0, .int .u64 0, .int .u64 0] 26)).heap[W1.heap.size]? = some (.cells #[.int .u32 0, .int .u32 0, .int .u64 0, .int .u64 0, .int .u64 0, .int .u64 0, .int .u64 0, .int .u64 0, .int .u64 0] 26 (0, 0))) ∧ (w.heap.size < W1.heap.size) ∧ ((W1.drew.alloc (.cells #[.int .u32 0, .int .u32 0, .int .u64 0, .int .u64 0, .int .u64 0, .int .u64 0, .int .u64 0, .int .u64 0, .int .u64 0] 26)).heap[w.heap.size]? = some (.cells #[.int .u32 0, .int .u32 0, .int .u64 0, .int .u64 0, .int .u64 0, .int .u64 0, .int .u64 0, .int .u64 0, .int .u64 0] 26 (0, 0))) ∧ (Below w.heap.size w (W1.drew.alloc (.cells #[.int .u32 0, .int .u32 0, .int .u64 0, .int .u64 0, .int .u64 0, .int .u64 0, .int .u64 0, .int .u64 0, .int .u64 0] 26))) := ⟨heap_alloc_new W1.drew _, (blk_lt hEx.out.1), blk_alloc (hEx.out.1) _, (hEx.out.2).alloc (hEx.out.2).size _⟩
    refine hK.out _ _ (ReadsInt.below (hHeld.out) (Below.alloc (Below.refl _ _) (Nat.le_refl _) _)) (fun hNewS => ?_)
    clear hK K
    clear hHeld hEx
    have hHeld := Lib.hid hNewS
    have hEx := Lib.hid hNewE
    clear hNewS hNewE
    try simp only [Act.put, List.setIfInBounds_toArray, List.set_cons_zero, List.set_cons_succ]
    refine lastOne 2 (by kernel_rfl) rfl (by decide) (fun K hK => ?_)
    go_simp
    refine (N0.out _ hHeld.out).mono ?_
    rintro _ v24 ⟨rfl, hb⟩
    have hNewE : (v24.heap[W1.heap.size]? = some (.cells #[.int .u32 0, .int .u32 0, .int .u64 0, .int .u64 0, .int .u64 0, .int .u64 0, .int .u64 0, .int .u64 0, .int .u64 0] 26 (0, 0))) ∧ (w.heap.size < W1.heap.size) ∧ (v24.heap[w.heap.size]? = some (.cells #[.int .u32 0, .int .u32 0, .int .u64 0, .int .u64 0, .int .u64 0, .int .u64 0, .int .u64 0, .int .u64 0, .int .u64 0] 26 (0, 0))) ∧ (Below w.heap.size w v24) := ⟨blk_below (hEx.out.1) hb, (hEx.out.2.1), blk_below (hEx.out.2.2.1) hb, below_more (hEx.out.2.2.2) (Nat.le_refl _) hb⟩
    refine hK.out _ _ (ReadsInt.below (hHeld.out) hb) (fun hNewS => ?_)
    clear hK K
    clear hHeld hEx
    have hHeld := Lib.hid hNewS
    have hEx := Lib.hid hNewE
    clear hNewS hNewE
    clear hb
    try simp only [Act.put, List.setIfInBounds_toArray, List.set_cons_zero, List.set_cons_succ]
    refine lastTake 3 rfl (by kernel_rfl) (by kernel_rfl) (by kernel_rfl) (by kernel_rfl) (by kernel_rfl) (fun _ _ _ h => h) hHeld.out (yieldsIf_of (v := .int .u32 n0) rfl (fun w h => by go_simp; exact IntWalk.u32_in _ (by omega))) ?_
    try simp only [Act.put, List.setIfInBounds_toArray, List.set_cons_zero, List.set_cons_succ]
    refine lastOne 6 (by kernel_rfl) rfl (by decide) (fun K hK => ?_)
    go_simp
    refine (N1.out _ hHeld.out).mono ?_
    rintro _ v25 ⟨rfl, hb⟩
    have hNewE : (v25.heap[W1.heap.size]? = some (.cells #[.int .u32 0, .int .u32 0, .int .u64 0, .int .u64 0, .int .u64 0, .int .u64 0, .int .u64 0, .int .u64 0, .int .u64 0] 26 (0, 0))) ∧ (w.heap.size < W1.heap.size) ∧ (v25.heap[w.heap.size]? = some (.cells #[.int .u32 0, .int .u32 0, .int .u64 0, .int .u64 0, .int .u64 0, .int .u64 0, .int .u64 0, .int .u64 0, .int .u64 0] 26 (0, 0))) ∧ (Below w.heap.size w v25) := ⟨blk_below (hEx.out.1) hb, (hEx.out.2.1), blk_below (hEx.out.2.2.1) hb, below_more (hEx.out.2.2.2) (Nat.le_refl _) hb⟩
    refine hK.out _ _ (ReadsInt.below (hHeld.out) hb) (fun hNewS => ?_)
    clear hK K
    clear hHeld hEx
    have hHeld := Lib.hid hNewS
    have hEx := Lib.hid hNewE
    clear hNewS hNewE
    clear hb
    try simp only [Act.put, List.setIfInBounds_toArray, List.set_cons_zero, List.set_cons_succ]
    refine lastTake 7 rfl (by kernel_rfl) (by kernel_rfl) (by kernel_rfl) (by kernel_rfl) (by kernel_rfl) (fun _ _ _ h => h) hHeld.out (yieldsIf_of (v := .int .u32 n1) rfl (fun w h => by go_simp; exact IntWalk.u32_in _ (by omega))) ?_
    try simp only [Act.put, List.setIfInBounds_toArray, List.set_cons_zero, List.set_cons_succ]
    refine lastOne 10 (by kernel_rfl) rfl (by decide) (fun K hK => ?_)
    go_simp
    refine (N2.out _ hHeld.out).mono ?_
    rintro _ v26 ⟨rfl, hb⟩
    have hNewE : (v26.heap[W1.heap.size]? = some (.cells #[.int .u32 0, .int .u32 0, .int .u64 0, .int .u64 0, .int .u64 0, .int .u64 0, .int .u64 0, .int .u64 0, .int .u64 0] 26 (0, 0))) ∧ (w.heap.size < W1.heap.size) ∧ (v26.heap[w.heap.size]? = some (.cells #[.int .u32 0, .int .u32 0, .int .u64 0, .int .u64 0, .int .u64 0, .int .u64 0, .int .u64 0, .int .u64 0, .int .u64 0] 26 (0, 0))) ∧ (Below w.heap.size w v26) := ⟨blk_below (hEx.out.1) hb, (hEx.out.2.1), blk_below (hEx.out.2.2.1) hb, below_more (hEx.out.2.2.2) (Nat.le_refl _) hb⟩
    refine hK.out _ _ (ReadsInt.below (hHeld.out) hb) (fun hNewS => ?_)
    clear hK K
    clear hHeld hEx
    have hHeld := Lib.hid hNewS
    have hEx := Lib.hid hNewE
    clear hNewS hNewE
    clear hb
    try simp only [Act.put, List.setIfInBounds_toArray, List.set_cons_zero, List.set_cons_succ]
    refine lastTake 11 (v := ?_) rfl (by kernel_rfl) (by kernel_rfl) (by kernel_rfl) (by kernel_rfl) (by kernel_rfl) (fun _ _ _ h => h) hHeld.out (yieldsIf_of rfl ?_) ?_
    rotate_left
    · (intro w hSw; go_simp <;> with_reducible rfl)
    try simp only [Act.put, List.setIfInBounds_toArray, List.set_cons_zero, List.set_cons_succ]
    refine lastEnd 13 (by kernel_rfl) rfl (by decide) (fun K hK => ?_)
    rw [if_pos (by rfl)]
    refine wp_store_row 26 (.tmp 3) (.tmp 16) rfl rfl W1.heap.size rfl #[.int .u32 n0, .int .u32 n1, .int .u64 n2, .int .u64 0, .int .u64 0, .int .u64 0, .int .u64 0, .int .u64 0, .int .u64 0] rfl 26 _ hEx.out.1 (by rfl) HIF.out HOF.out ?_
    have hNewE : ((v26.setRow W1.heap.size #[.int .u32 n0, .int .u32 n1, .int .u64 n2, .int .u64 0, .int .u64 0, .int .u64 0, .int .u64 0, .int .u64 0, .int .u64 0]).heap[W1.heap.size]? = some (.cells #[.int .u32 n0, .int .u32 n1, .int .u64 n2, .int .u64 0, .int .u64 0, .int .u64 0, .int .u64 0, .int .u64 0, .int .u64 0] 26 (0, 0))) ∧ (ReadsInt (v26.setRow W1.heap.size #[.int .u32 n0, .int .u32 n1, .int .u64 n2, .int .u64 0, .int .u64 0, .int .u64 0, .int .u64 0, .int .u64 0, .int .u64 0]) .u8 A 64 L) ∧ (w.heap.size < W1.heap.size) ∧ ((v26.setRow W1.heap.size #[.int .u32 n0, .int .u32 n1, .int .u64 n2, .int .u64 0, .int .u64 0, .int .u64 0, .int .u64 0, .int .u64 0, .int .u64 0]).heap[w.heap.size]? = some (.cells #[.int .u32 0, .int .u32 0, .int .u64 0, .int .u64 0, .int .u64 0, .int .u64 0, .int .u64 0, .int .u64 0, .int .u64 0] 26 (0, 0))) ∧ (Below w.heap.size w (v26.setRow W1.heap.size #[.int .u32 n0, .int .u32 n1, .int .u64 n2, .int .u64 0, .int .u64 0, .int .u64 0, .int .u64 0, .int .u64 0, .int .u64 0])) := ⟨heap_setRow_same _ _ _ _ _ _ hEx.out.1, (ReadsInt.below hr.out (below_setRow hEx.out.2.2.2 (Nat.le_of_lt hEx.out.2.1))), hEx.out.2.1, row_setRow hEx.out.2.2.1 (Nat.ne_of_lt hEx.out.2.1), below_setRow hEx.out.2.2.2 (Nat.le_of_lt hEx.out.2.1)⟩
    refine hK.out _ _ ?_
    clear hK K
    clear hHeld hEx
    have hEx := Lib.hid hNewE
    clear hNewE
    try simp only [Act.put, List.setIfInBounds_toArray, List.set_cons_zero, List.set_cons_succ]
    refine Go.Proofs.YtgfmeiddicodoaaW.PrintLast.wpAnyLast_done (by kernel_rfl) ?_ _
    have G1 := Lib.hid hEx.out.1
    have G2 := Lib.hid hEx.out.2.2.2.1
    have G3 := Lib.hid hEx.out.2.1
    have G4 := Lib.hid hEx.out.2.2.2.2
    have G5 := Lib.hid hEx.out.2.2.1
    clear hEx q1 q4 q5
    go_wp2_with fail
    go_loopw [4] (fun i wr => ∃ k : Nat, k ≤ 6 ∧ i = .int .i64 (k : Int) ∧ wr.heap[W1.heap.size]? = some (.cells (DK k) 26 (0, 0)) ∧ wr.heap[w.heap.size]? = some (.cells #[.int .u32 0, .int .u32 0, .int .u64 0, .int .u64 0, .int .u64 0, .int .u64 0, .int .u64 0, .int .u64 0, .int .u64 0] 26 (0, 0)) ∧ ReadsInt wr .u8 A 64 L ∧ Below w.heap.size w wr) (fun i _ => 6 - (intOf i).toNat)
    case atStart => exact ⟨0, by omega, rfl, by rw [d0.out]; exact G1.out, G2.out, G3.out, G4.out⟩
    case round =>
      obtain ⟨k, hk, rfl, ho, hg, hx, hb⟩ := hrel
      have HO := Lib.hid ho
      have HG := Lib.hid hg
      have HX := Lib.hid hx
      have HB := Lib.hid hb
      clear ho hg hx hb G1 G2 G3 G4
      by_cases hlt : k < 6
      · obtain ⟨Ak, ck, hcut, hnum⟩ := NK.out k hlt
        have HN := Lib.hid hnum
        clear hnum
        have HDS := Lib.hid (dS.out k)
        generalize ag k = nk at *
        go_wp2_with fail
        refine (HN.out _ HX.out).mono ?_
        rintro e w2 ⟨rfl, hb⟩
        have K1 := Lib.hid (blk_below HO.out hb)
        have K2 := Lib.hid (blk_below HG.out hb)
        have K3 := Lib.hid (HX.out.below hb)
        have K4 := Lib.hid (below_more HB.out (Nat.le_refl _) hb)
        clear hb HO HG HX HB hcut
        obtain ⟨u, hu⟩ := dG.out k hlt
        have cx := (blk_cell K1.out (3 + k)).trans hu
        have fx : w2.frozen? ⟨W1.heap.size, 3 + k, none⟩ = false := blk_frozen K1.out (3 + k)
        go_wp2_with fail
        refine ⟨⟨k + 1, by omega, by go_num, ?_, ?_, ?_, ?_⟩, ?_⟩
        · have hz := blk_set K1.out (3 + k) (.int .u64 nk); rw [HDS.out] at hz; exact hz
        · exact (heap_setCell_other _ _ _ _ (Nat.ne_of_lt G5.out)).trans K2.out
        · exact ReadsInt.below hr.out (K4.out.trans ⟨rfl, rfl, rfl, by simp [World.setCell], fun q hq => heap_setCell_other _ _ _ _ (by have := G5.out; simp; omega)⟩)
        · exact K4.out.trans ⟨rfl, rfl, rfl, by simp [World.setCell], fun q hq => heap_setCell_other _ _ _ _ (by have := G5.out; simp; omega)⟩
        · simp [intOf]; omega
      · obtain rfl : k = 6 := by omega
        go_wp2_with (first | (refine wpList_load_row rfl 26 (.tmp 3) rfl _ rfl _ _ _ _ HO.out Try.underlying26 rfl HI6.out ?_) | (refine wpList_store_row rfl 26 (.tmp 2) (.tmp 33) rfl rfl w.heap.size rfl (DK 6) rfl _ _ HG.out (HZ.out).symm HI6.out d1.out ?_))
        have hfin := heap_setRow_same wr w.heap.size (DK 6) _ _ _ HG.out
        refine bodyPost_ret (results_cell_row rfl _ _ w.heap.size _ _ _ _ rfl hfin Try.underlying26 rfl HI6.out) rfl ?_
        exact ⟨rfl, below_setRow HB.out (Nat.le_refl _)⟩
end Go.Proofs.Ytgfmeiddicodoaa.H
