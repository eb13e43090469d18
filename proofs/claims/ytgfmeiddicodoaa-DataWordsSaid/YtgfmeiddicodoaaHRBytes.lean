/-
The reference of data: Bytes.
-/
import Derived.Test.YtgfmeiddicodoaaProg
import Derived.WalkKit
import Derived.WalkSpells
import Derived.WalkLawsBesides
import Derived.Handy
import Derived.Lib.Hide
import Derived.Deep.QuietTactic
import Derived.BigQuiet
import Derived.Test.YtgfmeiddicodoaaHRData
import Derived.Test.YtgfmeiddicodoaaHSeq
import Derived.Test.YtgfmeiddicodoaaHApp
import Derived.Test.YtgfmeiddicodoaaWWords
set_option linter.unusedVariables false
set_option linter.unusedSimpArgs false
namespace Go.Proofs.Ytgfmeiddicodoaa.H
open Go.RowKit Go.Proofs.YtgfmeiddicodoaaW.PrintWords

def LowGives (v n : Int) (P : List Int) : Prop := ∀ w, Calls Try.prog 43 #[.int .u64 v, .int .i64 n] w fun e w' => ∃ x, e = .returned x ∧ w'.ownsRow w.heap.size 5 1 x P.length (nums .u8 P) ∧ Below w.heap.size w w'
theorem low_gives (v : Int) (h0 : 0 ≤ v ∧ v < 18446744073709551616) (n : Nat) (hn : n ≤ 100) : LowGives v (n : Int) (lowL v n) := by
  intro w
  rw [lowL_length]
  exact RLow_walk v h0 n hn w
set_option maxHeartbeats 4000000 in
theorem RBytes_any (x0 x1 x2 : Int) (ags : List Int) (DR : Array Value) (h0 : 0 ≤ x0 ∧ x0 < 4294967296) (h1 : 0 ≤ x1 ∧ x1 < 4294967296) (d0 : DR[0]? = some (.int .u32 x0)) (d1 : DR[1]? = some (.int .u32 x1)) (d2 : DR[2]? = some (.int .u64 x2)) (d3 : ∀ k < 6, DR[3 + k]? = some (.int .u64 (ags.getD k 0)))
    (P0 P1 P2 H H2 : List Int) (Q acc : Nat → List Int) (e1 : P0 ++ P1 = H) (e2 : H ++ P2 = acc 0) (e3 : ∀ k, acc k ++ Q k = acc (k + 1)) (hl0 : P0.length + P1.length ≤ 100) (hl1 : H.length + P2.length ≤ 100) (hl : ∀ k < 6, (acc k).length + (Q k).length ≤ 100)
    (L0 : LowGives x0 4 P0) (L1 : LowGives x1 4 P1) (L2 : LowGives x2 8 P2) (LQ : ∀ k < 6, LowGives (ags.getD k 0) 8 (Q k)) (w : World) :
    Calls Try.prog 34 #[.agg DR] w fun e w' => ∃ v, e = .returned v ∧ w'.ownsRow w.heap.size 5 1 v (acc 6).length (nums .u8 (acc 6)) ∧ Below w.heap.size w w' := by
  replace d0 := Lib.hid d0
  replace d1 := Lib.hid d1
  replace d2 := Lib.hid d2
  replace d3 := Lib.hid d3
  replace e1 := Lib.hid e1
  replace e2 := Lib.hid e2
  replace e3 := Lib.hid e3
  replace hl0 := Lib.hid hl0
  replace hl1 := Lib.hid hl1
  replace hl := Lib.hid hl
  replace L0 := Lib.hid L0
  replace L1 := Lib.hid L1
  replace L2 := Lib.hid L2
  replace LQ := Lib.hid LQ
  have q1 := Lib.hid (heap_alloc_new w (Obj.cells DR 26))
  have q4 := Lib.hid ((Below.refl w.heap.size w).alloc (Nat.le_refl _) (Obj.cells DR 26))
  go_enter Try.func34, Try.ntmps34
  go_wp2_with fail
  obtain ⟨W1, hW1⟩ : ∃ W1, w.alloc (Obj.cells DR 26) = W1 := ⟨_, rfl⟩
  rw [hW1] at q1 q4
  try rw [hW1]
  clear hW1
  have hNewE : (Below w.heap.size w W1.drew) := q4.out.drew
  have hEx := Lib.hid hNewE
  clear hNewE
  refine Go.Proofs.YtgfmeiddicodoaaW.PrintLast.wp_region_last_drew (S := fun w' => (w'.heap[w.heap.size]? = some (.cells DR 26 (0, 0)))) (ds := []) (by kernel_rfl) q1.out (fun hNewS => ?_)
  have hHeld := Lib.hid hNewS
  clear hNewS
  refine lastTake 0 (v := ?_) rfl (by kernel_rfl) (by kernel_rfl) (by kernel_rfl) (by kernel_rfl) (by kernel_rfl) (fun _ _ _ h => h) hHeld.out (yieldsIf_of rfl ?_) ?_
  rotate_left
  · (intro w hSw; go_simp <;> with_reducible rfl)
  try simp only [Act.put, List.setIfInBounds_toArray, List.set_cons_zero, List.set_cons_succ]
  refine lastTake 1 rfl (by kernel_rfl) (by kernel_rfl) (by kernel_rfl) (by kernel_rfl) (by kernel_rfl) (fun _ _ _ h => h) hHeld.out (yieldsIf_cell rfl 22 (.tmp 5) rfl _ rfl (.int .u32 x0) _ (fun _ h => (blk_cell h 0).trans d0.out) Try.underlying22 rfl) ?_
  try simp only [Act.put, List.setIfInBounds_toArray, List.set_cons_zero, List.set_cons_succ]
  refine lastTake 2 rfl (by kernel_rfl) (by kernel_rfl) (by kernel_rfl) (by kernel_rfl) (by kernel_rfl) (fun _ _ _ h => h) hHeld.out (yieldsIf_of (v := .int .u64 x0) rfl (fun w h => by go_simp; exact IntWalk.u64_in _ (by omega))) ?_
  try simp only [Act.put, List.setIfInBounds_toArray, List.set_cons_zero, List.set_cons_succ]
  refine lastTake 4 (v := ?_) rfl (by kernel_rfl) (by kernel_rfl) (by kernel_rfl) (by kernel_rfl) (by kernel_rfl) (fun _ _ _ h => h) hHeld.out (yieldsIf_of rfl ?_) ?_
  rotate_left
  · (intro w hSw; go_simp <;> with_reducible rfl)
  try simp only [Act.put, List.setIfInBounds_toArray, List.set_cons_zero, List.set_cons_succ]
  refine lastTake 5 rfl (by kernel_rfl) (by kernel_rfl) (by kernel_rfl) (by kernel_rfl) (by kernel_rfl) (fun _ _ _ h => h) hHeld.out (yieldsIf_cell rfl 22 (.tmp 9) rfl _ rfl (.int .u32 x1) _ (fun _ h => (blk_cell h 1).trans d1.out) Try.underlying22 rfl) ?_
  try simp only [Act.put, List.setIfInBounds_toArray, List.set_cons_zero, List.set_cons_succ]
  refine lastTake 6 rfl (by kernel_rfl) (by kernel_rfl) (by kernel_rfl) (by kernel_rfl) (by kernel_rfl) (fun _ _ _ h => h) hHeld.out (yieldsIf_of (v := .int .u64 x1) rfl (fun w h => by go_simp; exact IntWalk.u64_in _ (by omega))) ?_
  try simp only [Act.put, List.setIfInBounds_toArray, List.set_cons_zero, List.set_cons_succ]
  refine lastOne 3 (by kernel_rfl) rfl (by decide) (fun K hK => ?_)
  go_simp
  refine (L0.out _).mono ?_
  rintro _ v3 ⟨v, rfl, ho, hb⟩
  obtain ⟨A1, c2, rfl⟩ := own_slice ho
  have ho2 := own_weaken ho (hEx.out).size
  have hNewE : (v3.ownsRow w.heap.size 5 1 (.slice A1 P0.length c2) P0.length (nums .u8 P0)) ∧ (Below w.heap.size w v3) := ⟨ho2, below_more (hEx.out) (Nat.le_refl _) hb⟩
  refine hK.out _ _ (blk_below (hHeld.out) hb) (fun hNewS => ?_)
  clear hK K
  clear hHeld hEx
  have hHeld := Lib.hid hNewS
  have hEx := Lib.hid hNewE
  clear hNewS hNewE
  clear ho ho2 hb
  try simp only [Act.put, List.setIfInBounds_toArray, List.set_cons_zero, List.set_cons_succ]
  refine lastOne 7 (by kernel_rfl) rfl (by decide) (fun K hK => ?_)
  go_simp
  refine (L1.out _).mono ?_
  rintro _ v6 ⟨v, rfl, ho, hb⟩
  obtain ⟨A4, c5, rfl⟩ := own_slice ho
  have ho2 := own_reads' ho
  have hNewE : (ReadsInt v6 .u8 A4 P1.length P1) ∧ (v6.ownsRow w.heap.size 5 1 (.slice A1 P0.length c2) P0.length (nums .u8 P0)) ∧ (Below w.heap.size w v6) := ⟨ho2, own_move_below (hEx.out.1) hb, below_more (hEx.out.2) (Nat.le_refl _) hb⟩
  refine hK.out _ _ (blk_below (hHeld.out) hb) (fun hNewS => ?_)
  clear hK K
  clear hHeld hEx
  have hHeld := Lib.hid hNewS
  have hEx := Lib.hid hNewE
  clear hNewS hNewE
  clear ho ho2 hb
  try simp only [Act.put, List.setIfInBounds_toArray, List.set_cons_zero, List.set_cons_succ]
  refine lastOne 8 (by kernel_rfl) rfl (by decide) (fun K hK => ?_)
  rw [if_pos (by rfl)]
  refine wp_append_row (W := v6) w.heap.size (.tmp 8) (.tmp 12) 49 5 .u8 1 rfl Try.underlying49 Try.info8d (by decide) _ P0 P1 _ _ _ rfl rfl hEx.out.2.1 hEx.out.1 (hEx.out.2.2).size (by have := hl0.out; omega) ?_
  intro v1 v7 hown hg hat
  rw [e1.out] at hown
  obtain ⟨A8, c9, rfl⟩ := own_slice hown
  have hNewE : (v7.ownsRow w.heap.size 5 1 (.slice A8 H.length c9) H.length (nums .u8 H)) ∧ (Below w.heap.size w v7) := ⟨hown, (hEx.out.2.2).grown hg (hEx.out.2.2).size (own_base hEx.out.2.1)⟩
  refine hK.out _ _ (blk_grown (hHeld.out) hg (own_ne hEx.out.2.1 (hHeld.out) (by decide))) (fun hNewS => ?_)
  clear hK K
  clear hHeld hEx
  have hHeld := Lib.hid hNewS
  have hEx := Lib.hid hNewE
  clear hNewS hNewE
  clear hown hg hat
  try simp only [Act.put, List.setIfInBounds_toArray, List.set_cons_zero, List.set_cons_succ]
  refine lastTake 9 (v := ?_) rfl (by kernel_rfl) (by kernel_rfl) (by kernel_rfl) (by kernel_rfl) (by kernel_rfl) (fun _ _ _ h => h) hHeld.out (yieldsIf_of rfl ?_) ?_
  rotate_left
  · (intro w hSw; go_simp <;> with_reducible rfl)
  try simp only [Act.put, List.setIfInBounds_toArray, List.set_cons_zero, List.set_cons_succ]
  refine Go.Proofs.YtgfmeiddicodoaaW.PrintLast.wpAnyLast_done (by kernel_rfl) ?_ _
  have G1 := Lib.hid (show _ from hHeld.out)
  have G2 := Lib.hid hEx.out.1
  have G4 := Lib.hid hEx.out.2
  clear hHeld hEx q1 q4
  have c2 := (blk_cell G1.out 2).trans d2.out
  go_wp2_with fail
  refine (L2.out _).mono ?_
  rintro e w2 ⟨v, rfl, ho, hb⟩
  obtain ⟨A2, c2_, rfl⟩ := own_slice ho
  have G5 := Lib.hid (own_reads' ho)
  have G1b := Lib.hid (blk_below G1.out hb)
  have G2b := Lib.hid (own_move_below G2.out hb)
  have G4b := Lib.hid (below_more G4.out (Nat.le_refl _) hb)
  clear ho hb G1 G2 G4 c2
  go_wp2_with (at_builtin; go_must (refine print_append_row (w0 := w) w.heap.size rfl (.tmp 14) (.tmp 17) 49 5 .u8 1 rfl Try.underlying49 Try.info8d (by decide) _ H P2 _ _ _ rfl rfl G2b.out G5.out G4b.out G4b.out.size (by have := hl1.out; omega) ?_); intro v' w9 ho hb1 hg1 _; rw [e2.out] at ho; have K1 := Lib.hid (blk_grown G1b.out hg1 (own_ne G2b.out G1b.out (by decide))); have K4 := Lib.hid hb1; have K2 := Lib.hid ho; clear ho hb1 hg1)
  clear G1b G2b G4b G5
  go_loopw [3, 4] (fun v i wr => ∃ k : Nat, k ≤ 6 ∧ i = .int .i64 (k : Int) ∧ wr.ownsRow w.heap.size 5 1 v (acc k).length (nums .u8 (acc k)) ∧ wr.heap[w.heap.size]? = some (.cells DR 26 (0, 0)) ∧ Below w.heap.size w wr) (fun _ i _ => 6 - (intOf i).toNat)
  case atStart => exact ⟨0, by omega, rfl, K2.out, K1.out, K4.out⟩
  case round =>
    obtain ⟨k, hk, rfl, ho, hg, hb⟩ := hrel
    have HO := Lib.hid ho
    have HG := Lib.hid hg
    have HB := Lib.hid hb
    clear ho hg hb K1 K2 K4
    by_cases hlt : k < 6
    · have LK := Lib.hid (LQ.out k hlt)
      have cx := (blk_cell HG.out (3 + k)).trans (d3.out k hlt)
      generalize ags.getD k 0 = xk at *
      go_wp2_with fail
      refine (LK.out _).mono ?_
      rintro e w2 ⟨v, rfl, ho, hb⟩
      obtain ⟨A2, c2_, rfl⟩ := own_slice ho
      have G5 := Lib.hid (own_reads' ho)
      have G1b := Lib.hid (blk_below HG.out hb)
      have G2b := Lib.hid (own_move_below HO.out hb)
      have G4b := Lib.hid (below_more HB.out (Nat.le_refl _) hb)
      clear ho hb HO HG HB cx
      have HLK := Lib.hid (hl.out k hlt)
      go_wp2_with (at_builtin; go_must (refine print_append_row (w0 := w) w.heap.size rfl (.tmp 23) (.tmp 28) 49 5 .u8 1 rfl Try.underlying49 Try.info8d (by decide) _ (acc k) (Q k) _ _ _ rfl rfl G2b.out G5.out G4b.out G4b.out.size (by have := HLK.out; omega) ?_); intro v' w9 ho hb1 hg1 _; rw [e3.out] at ho; have K1 := Lib.hid (blk_grown G1b.out hg1 (own_ne G2b.out G1b.out (by decide))); have K4 := Lib.hid hb1; have K2 := Lib.hid ho; clear ho hb1 hg1)
      refine ⟨⟨k + 1, by omega, by go_num, K2.out, K1.out, K4.out⟩, ?_⟩
      simp [intOf]; omega
    · obtain rfl : k = 6 := by omega
      go_wp2_with fail
      go_ret
      exact ⟨_, rfl, HO.out, HB.out⟩
end Go.Proofs.Ytgfmeiddicodoaa.H
