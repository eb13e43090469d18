/-
The reference of data: With.
-/
import Derived.Test.YtgfmeiddicodoaaProg
import Derived.WalkKit
import Derived.WalkSpells
import Derived.WalkLawsBesides
import Derived.Handy
import Derived.Lib.Hide
import Derived.Deep.QuietTactic
import Derived.BigQuiet
import Derived.Test.YtgfmeiddicodoaaHRWord
import Derived.Test.YtgfmeiddicodoaaHRBytes
import Derived.Test.YtgfmeiddicodoaaWWords
set_option linter.unusedVariables false
set_option linter.unusedSimpArgs false
namespace Go.Proofs.Ytgfmeiddicodoaa.H
open Go.RowKit Go.Proofs.YtgfmeiddicodoaaW.PrintWords

set_option maxHeartbeats 2000000 in
theorem RWith_no (x0 x1 x2 x3 x4 x5 x6 x7 x8 p v y : Int) (WR : (∀ w, Calls Try.prog 28 #[.agg #[.int .u32 x0, .int .u32 x1, .int .u64 x2, .int .u64 x3, .int .u64 x4, .int .u64 x5, .int .u64 x6, .int .u64 x7, .int .u64 x8], .int .u32 p] w fun e w' => e = .returned (.tuple #[.int .u32 y, .bool false]) ∧ Below w.heap.size w w')) (w : World) :
    Calls Try.prog 31 #[.agg #[.int .u32 x0, .int .u32 x1, .int .u64 x2, .int .u64 x3, .int .u64 x4, .int .u64 x5, .int .u64 x6, .int .u64 x7, .int .u64 x8], .int .u32 p, .int .u32 v] w fun e w' => e = .returned (.agg #[.int .u32 x0, .int .u32 x1, .int .u64 x2, .int .u64 x3, .int .u64 x4, .int .u64 x5, .int .u64 x6, .int .u64 x7, .int .u64 x8]) ∧ Below w.heap.size w w' := by
  replace WR := Lib.hid WR
  have HI := Lib.hid (info_data (.int .u32 x0) (.int .u32 x1) (.int .u64 x2) (.int .u64 x3) (.int .u64 x4) (.int .u64 x5) (.int .u64 x6) (.int .u64 x7) (.int .u64 x8))
  have HO := Lib.hid (one_data x0 x1 x2 x3 x4 x5 x6 x7 x8)
  have q1 := Lib.hid (alloc2d w (Obj.cells #[.int .u32 x0, .int .u32 x1, .int .u64 x2, .int .u64 x3, .int .u64 x4, .int .u64 x5, .int .u64 x6, .int .u64 x7, .int .u64 x8] 26) (Obj.cells #[.int .u32 0, .int .u32 0, .int .u64 0, .int .u64 0, .int .u64 0, .int .u64 0, .int .u64 0, .int .u64 0, .int .u64 0] 26)).1
  have q2 := Lib.hid (alloc2d w (Obj.cells #[.int .u32 x0, .int .u32 x1, .int .u64 x2, .int .u64 x3, .int .u64 x4, .int .u64 x5, .int .u64 x6, .int .u64 x7, .int .u64 x8] 26) (Obj.cells #[.int .u32 0, .int .u32 0, .int .u64 0, .int .u64 0, .int .u64 0, .int .u64 0, .int .u64 0, .int .u64 0, .int .u64 0] 26)).2.1
  have q4 := Lib.hid (alloc2d w (Obj.cells #[.int .u32 x0, .int .u32 x1, .int .u64 x2, .int .u64 x3, .int .u64 x4, .int .u64 x5, .int .u64 x6, .int .u64 x7, .int .u64 x8] 26) (Obj.cells #[.int .u32 0, .int .u32 0, .int .u64 0, .int .u64 0, .int .u64 0, .int .u64 0, .int .u64 0, .int .u64 0, .int .u64 0] 26)).2.2.2
  go_enter Try.func31, Try.ntmps31
  go_wp2_with (refine wpList_load_row rfl 26 (.tmp 3) rfl _ rfl _ _ _ _ q1.out Try.underlying26 rfl HI.out ?_)
  refine (WR.out _).mono ?_
  rintro e w1 ⟨rfl, hb⟩
  have r1 := Lib.hid (blk_below q1.out hb)
  have r2 := Lib.hid (blk_below q2.out hb)
  have r4 := Lib.hid (below_more q4.out (Nat.le_refl _) hb)
  clear hb q1 q2 q4
  go_wp2_with (first | (refine wpList_load_row rfl 26 (.tmp 3) rfl _ rfl _ _ _ _ r1.out Try.underlying26 rfl HI.out ?_) | (refine wpList_store_row rfl 26 (.tmp 6) (.tmp 19) rfl rfl (w.heap.size + 1) rfl #[.int .u32 x0, .int .u32 x1, .int .u64 x2, .int .u64 x3, .int .u64 x4, .int .u64 x5, .int .u64 x6, .int .u64 x7, .int .u64 x8] rfl _ _ r2.out rfl HI.out HO.out ?_))
  have hfin := heap_setRow_same w1 (w.heap.size + 1) #[.int .u32 x0, .int .u32 x1, .int .u64 x2, .int .u64 x3, .int .u64 x4, .int .u64 x5, .int .u64 x6, .int .u64 x7, .int .u64 x8] _ _ _ r2.out
  refine bodyPost_ret (results_cell_row rfl _ _ (w.heap.size + 1) _ _ _ _ rfl hfin Try.underlying26 rfl HI.out) rfl ?_
  exact ⟨rfl, below_setRow r4.out (by omega)⟩
set_option maxHeartbeats 8000000 in
theorem RWith_yes (x0 x1 x2 x3 x4 x5 x6 x7 x8 p v y y0 y1 y2 y3 y4 y5 y6 y7 y8 : Int) (hp : 0 ≤ p ∧ p < 64) (hv : 0 ≤ v ∧ v < 4294967296) (B Pre Lw Post R2 R3 : List Int) (npre npost : Nat) (e1 : [] ++ Pre = Pre) (e2 : Pre ++ Lw = R2) (e3 : R2 ++ Post = R3) (b1 : Pre.length = npre) (b2 : Lw.length = 4) (b3 : Post.length = npost) (b4 : npre + npost ≤ 100) (b5 : R3.length = 64)
    (WR : (∀ w, Calls Try.prog 28 #[.agg #[.int .u32 x0, .int .u32 x1, .int .u64 x2, .int .u64 x3, .int .u64 x4, .int .u64 x5, .int .u64 x6, .int .u64 x7, .int .u64 x8], .int .u32 p] w fun e w' => e = .returned (.tuple #[.int .u32 y, .bool true]) ∧ Below w.heap.size w w')) (BY : ∀ w, Calls Try.prog 34 #[.agg #[.int .u32 x0, .int .u32 x1, .int .u64 x2, .int .u64 x3, .int .u64 x4, .int .u64 x5, .int .u64 x6, .int .u64 x7, .int .u64 x8]] w fun e w' => ∃ v, e = .returned v ∧ w'.ownsRow w.heap.size 5 1 v 64 (nums .u8 B) ∧ Below w.heap.size w w')
    (CU : ∀ (A : Option Addr) (c : Nat), 64 ≤ c → ∃ A1 A2 c1 c2, (∀ W : World, (Instr.slice 49 (.slice A 64 c) none (some (.int .i64 p)) none).run Try.prog W = .ok (.slice A1 npre c1) W) ∧ (∀ W : World, (Instr.slice 49 (.slice A 64 c) (some (.int .i64 (p + 4))) none none).run Try.prog W = .ok (.slice A2 npost c2) W) ∧ (∀ W, ReadsInt W .u8 A 64 B → ReadsInt W .u8 A1 npre Pre) ∧ (∀ W, ReadsInt W .u8 A 64 B → ReadsInt W .u8 A2 npost Post))
    (LO : LowGives v 4 Lw) (FR : ∀ A c W, 64 ≤ c → ReadsInt W .u8 A R3.length R3 → Calls Try.prog 35 #[.slice A R3.length c] W fun e w' => e = .returned (.agg #[.int .u32 y0, .int .u32 y1, .int .u64 y2, .int .u64 y3, .int .u64 y4, .int .u64 y5, .int .u64 y6, .int .u64 y7, .int .u64 y8]) ∧ Below W.heap.size W w') (w : World) :
    Calls Try.prog 31 #[.agg #[.int .u32 x0, .int .u32 x1, .int .u64 x2, .int .u64 x3, .int .u64 x4, .int .u64 x5, .int .u64 x6, .int .u64 x7, .int .u64 x8], .int .u32 p, .int .u32 v] w fun e w' => e = .returned (.agg #[.int .u32 y0, .int .u32 y1, .int .u64 y2, .int .u64 y3, .int .u64 y4, .int .u64 y5, .int .u64 y6, .int .u64 y7, .int .u64 y8]) ∧ Below w.heap.size w w' := by
  replace WR := Lib.hid WR
  replace BY := Lib.hid BY
  replace CU := Lib.hid CU
  replace LO := Lib.hid LO
  replace FR := Lib.hid FR
  replace e1 := Lib.hid e1
  replace e2 := Lib.hid e2
  replace e3 := Lib.hid e3
  replace b1 := Lib.hid b1
  replace b2 := Lib.hid b2
  replace b3 := Lib.hid b3
  replace b4 := Lib.hid b4
  replace b5 := Lib.hid b5
  have HY := Lib.hid (info_data (.int .u32 y0) (.int .u32 y1) (.int .u64 y2) (.int .u64 y3) (.int .u64 y4) (.int .u64 y5) (.int .u64 y6) (.int .u64 y7) (.int .u64 y8))
  have OY := Lib.hid (one_data y0 y1 y2 y3 y4 y5 y6 y7 y8)
  have HI := Lib.hid (info_data (.int .u32 x0) (.int .u32 x1) (.int .u64 x2) (.int .u64 x3) (.int .u64 x4) (.int .u64 x5) (.int .u64 x6) (.int .u64 x7) (.int .u64 x8))
  have HO := Lib.hid (one_data x0 x1 x2 x3 x4 x5 x6 x7 x8)
  have q1 := Lib.hid (alloc2d w (Obj.cells #[.int .u32 x0, .int .u32 x1, .int .u64 x2, .int .u64 x3, .int .u64 x4, .int .u64 x5, .int .u64 x6, .int .u64 x7, .int .u64 x8] 26) (Obj.cells #[.int .u32 0, .int .u32 0, .int .u64 0, .int .u64 0, .int .u64 0, .int .u64 0, .int .u64 0, .int .u64 0, .int .u64 0] 26)).1
  have q2 := Lib.hid (alloc2d w (Obj.cells #[.int .u32 x0, .int .u32 x1, .int .u64 x2, .int .u64 x3, .int .u64 x4, .int .u64 x5, .int .u64 x6, .int .u64 x7, .int .u64 x8] 26) (Obj.cells #[.int .u32 0, .int .u32 0, .int .u64 0, .int .u64 0, .int .u64 0, .int .u64 0, .int .u64 0, .int .u64 0, .int .u64 0] 26)).2.1
  have q4 := Lib.hid (alloc2d w (Obj.cells #[.int .u32 x0, .int .u32 x1, .int .u64 x2, .int .u64 x3, .int .u64 x4, .int .u64 x5, .int .u64 x6, .int .u64 x7, .int .u64 x8] 26) (Obj.cells #[.int .u32 0, .int .u32 0, .int .u64 0, .int .u64 0, .int .u64 0, .int .u64 0, .int .u64 0, .int .u64 0, .int .u64 0] 26)).2.2.2
  go_enter Try.func31, Try.ntmps31
  go_wp2_with (refine wpList_load_row rfl 26 (.tmp 3) rfl _ rfl _ _ _ _ q1.out Try.underlying26 rfl HI.out ?_)
  refine (WR.out _).mono ?_
  rintro e w1 ⟨rfl, hb⟩
  have r1 := Lib.hid (blk_below q1.out hb)
  have r2 := Lib.hid (blk_below q2.out hb)
  have r4 := Lib.hid (below_more q4.out (Nat.le_refl _) hb)
  clear hb q1 q2 q4
  go_wp2_with (refine wpList_load_row rfl 26 (.tmp 3) rfl _ rfl _ _ _ _ r1.out Try.underlying26 rfl HI.out ?_)
  refine (BY.out _).mono ?_
  rintro e w2 ⟨vb, rfl, ho, hb⟩
  obtain ⟨Ab, cb, rfl⟩ := own_slice ho
  obtain ⟨A1, A2, c1, c2, hk1, hk2, hr1, hr2⟩ := CU.out Ab cb (own_cap ho)
  have P1 := Lib.hid (hr1 w2 (own_reads' ho))
  have P2 := Lib.hid (hr2 w2 (own_reads' ho))
  have K1 := Lib.hid hk1
  have K2 := Lib.hid hk2
  have s2 := Lib.hid (blk_below r2.out hb)
  have s4 := Lib.hid (below_more r4.out (Nat.le_refl _) hb)
  clear ho hb hr1 hr2 hk1 hk2 r1 r2 r4
  go_wp2_with fail
  have hNewE : (Below w2.heap.size w2 w2.drew) := (Below.refl _ _).drew
  have hEx := Lib.hid hNewE
  clear hNewE
  refine Go.Proofs.YtgfmeiddicodoaaW.PrintLast.wp_region_last_drew (S := fun w' => (True)) (ds := [15]) (by kernel_rfl) trivial (fun hNewS => ?_)
  have hHeld := Lib.hid hNewS
  clear hNewS
  refine lastTake 1 (v := ?_) rfl (by kernel_rfl) (by kernel_rfl) (by kernel_rfl) (by kernel_rfl) (by kernel_rfl) (fun _ _ _ h => h) hHeld.out (yieldsIf_of rfl ?_) ?_
  rotate_left
  · (intro w hSw; go_simp <;> with_reducible rfl)
  try simp only [Act.put, List.setIfInBounds_toArray, List.set_cons_zero, List.set_cons_succ]
  refine lastTake 2 (v := ?_) rfl (by kernel_rfl) (by kernel_rfl) (by kernel_rfl) (by kernel_rfl) (by kernel_rfl) (fun _ _ _ h => h) hHeld.out (yieldsIf_of rfl ?_) ?_
  rotate_left
  · (intro w hSw; go_simp <;> with_reducible rfl)
  try simp only [Act.put, List.setIfInBounds_toArray, List.set_cons_zero, List.set_cons_succ]
  refine lastTake 3 rfl (by kernel_rfl) (by kernel_rfl) (by kernel_rfl) (by kernel_rfl) (by kernel_rfl) (fun _ _ _ h => h) hHeld.out (yieldsIf_of (v := .slice A1 npre c1) rfl (fun w h => by have hq := K1.out w; go_simp)) ?_
  try simp only [Act.put, List.setIfInBounds_toArray, List.set_cons_zero, List.set_cons_succ]
  refine lastTake 5 (v := ?_) rfl (by kernel_rfl) (by kernel_rfl) (by kernel_rfl) (by kernel_rfl) (by kernel_rfl) (fun _ _ _ h => h) hHeld.out (yieldsIf_of rfl ?_) ?_
  rotate_left
  · (intro w hSw; go_simp <;> with_reducible rfl)
  try simp only [Act.put, List.setIfInBounds_toArray, List.set_cons_zero, List.set_cons_succ]
  refine lastTake 6 rfl (by kernel_rfl) (by kernel_rfl) (by kernel_rfl) (by kernel_rfl) (by kernel_rfl) (fun _ _ _ h => h) hHeld.out (yieldsIf_of (v := .int .u64 v) rfl (fun w h => by go_simp; exact IntWalk.u64_in _ (by omega))) ?_
  try simp only [Act.put, List.setIfInBounds_toArray, List.set_cons_zero, List.set_cons_succ]
  refine lastTake 9 (v := ?_) rfl (by kernel_rfl) (by kernel_rfl) (by kernel_rfl) (by kernel_rfl) (by kernel_rfl) (fun _ _ _ h => h) hHeld.out (yieldsIf_of rfl ?_) ?_
  rotate_left
  · (intro w hSw; go_simp <;> with_reducible rfl)
  try simp only [Act.put, List.setIfInBounds_toArray, List.set_cons_zero, List.set_cons_succ]
  refine lastTake 10 (v := ?_) rfl (by kernel_rfl) (by kernel_rfl) (by kernel_rfl) (by kernel_rfl) (by kernel_rfl) (fun _ _ _ h => h) hHeld.out (yieldsIf_of rfl ?_) ?_
  rotate_left
  · (intro w hSw; go_simp <;> with_reducible rfl)
  try simp only [Act.put, List.setIfInBounds_toArray, List.set_cons_zero, List.set_cons_succ]
  refine lastTake 11 rfl (by kernel_rfl) (by kernel_rfl) (by kernel_rfl) (by kernel_rfl) (by kernel_rfl) (fun _ _ _ h => h) hHeld.out (yieldsIf_of (v := .int .i64 (p + 4)) rfl (fun w h => by go_simp; exact IntWalk.i64_in _ (by omega))) ?_
  try simp only [Act.put, List.setIfInBounds_toArray, List.set_cons_zero, List.set_cons_succ]
  refine lastTake 12 rfl (by kernel_rfl) (by kernel_rfl) (by kernel_rfl) (by kernel_rfl) (by kernel_rfl) (fun _ _ _ h => h) hHeld.out (yieldsIf_of (v := .slice A2 npost c2) rfl (fun w h => by have hq := K2.out w; go_simp)) ?_
  try simp only [Act.put, List.setIfInBounds_toArray, List.set_cons_zero, List.set_cons_succ]
  refine lastOne 0 (by kernel_rfl) rfl (by decide) (fun K hK => ?_)
  go_simp
  have hNewE : ((w2.drew.alloc (.cells #[] 5)).ownsRow w2.heap.size 5 1 (.slice (some ⟨w2.heap.size, 0, none⟩) 0 0) (([] : List Int).length) (nums .u8 [])) ∧ (Below w2.heap.size w2 (w2.drew.alloc (.cells #[] 5))) := ⟨own_lit w2.drew w2.heap.size 5 .u8 [] (hEx.out).size (by simp), (hEx.out).alloc (hEx.out).size _⟩
  refine hK.out _ _ ((hHeld.out)) (fun hNewS => ?_)
  clear hK K
  clear hHeld hEx
  have hHeld := Lib.hid hNewS
  have hEx := Lib.hid hNewE
  clear hNewS hNewE
  try simp only [Act.put, List.setIfInBounds_toArray, List.set_cons_zero, List.set_cons_succ]
  refine lastOne 4 (by kernel_rfl) rfl (by decide) (fun K hK => ?_)
  rw [if_pos (by rfl)]
  refine wp_append_row (W := (w2.drew.alloc (.cells #[] 5))) w2.heap.size (.tmp 24) (.tmp 27) 49 5 .u8 1 rfl Try.underlying49 Try.info8d (by decide) _ [] Pre _ npre _ rfl rfl hEx.out.1 (P1.out.below hEx.out.2) (hEx.out.2).size (by have := b1.out; have := b2.out; have := b3.out; have := b4.out; have h2 := congrArg List.length e2.out; simp at h2 ⊢; omega) ?_
  intro v1 v60 hown hg hat
  rw [e1.out] at hown
  obtain ⟨A61, c62, rfl⟩ := own_slice hown
  have hNewE : (v60.ownsRow w2.heap.size 5 1 (.slice A61 Pre.length c62) Pre.length (nums .u8 Pre)) ∧ (Below w2.heap.size w2 v60) := ⟨hown, (hEx.out.2).grown hg (hEx.out.2).size (own_base hEx.out.1)⟩
  refine hK.out _ _ ((hHeld.out)) (fun hNewS => ?_)
  clear hK K
  clear hHeld hEx
  have hHeld := Lib.hid hNewS
  have hEx := Lib.hid hNewE
  clear hNewS hNewE
  clear hown hg hat
  try simp only [Act.put, List.setIfInBounds_toArray, List.set_cons_zero, List.set_cons_succ]
  refine lastOne 7 (by kernel_rfl) rfl (by decide) (fun K hK => ?_)
  go_simp
  refine (LO.out _).mono ?_
  rintro _ v65 ⟨v, rfl, ho, hb⟩
  obtain ⟨A63, c64, rfl⟩ := own_slice ho
  have ho2 := own_reads' ho
  have hNewE : (ReadsInt v65 .u8 A63 Lw.length Lw) ∧ (v65.ownsRow w2.heap.size 5 1 (.slice A61 Pre.length c62) Pre.length (nums .u8 Pre)) ∧ (Below w2.heap.size w2 v65) := ⟨ho2, own_move_below (hEx.out.1) hb, below_more (hEx.out.2) (Nat.le_refl _) hb⟩
  refine hK.out _ _ ((hHeld.out)) (fun hNewS => ?_)
  clear hK K
  clear hHeld hEx
  have hHeld := Lib.hid hNewS
  have hEx := Lib.hid hNewE
  clear hNewS hNewE
  clear ho ho2 hb
  try simp only [Act.put, List.setIfInBounds_toArray, List.set_cons_zero, List.set_cons_succ]
  refine lastOne 8 (by kernel_rfl) rfl (by decide) (fun K hK => ?_)
  rw [if_pos (by rfl)]
  refine wp_append_row (W := v65) w2.heap.size (.tmp 28) (.tmp 31) 49 5 .u8 1 rfl Try.underlying49 Try.info8d (by decide) _ Pre Lw _ _ _ rfl rfl hEx.out.2.1 hEx.out.1 (hEx.out.2.2).size (by have := b1.out; have := b2.out; have := b3.out; have := b4.out; have h2 := congrArg List.length e2.out; simp at h2 ⊢; omega) ?_
  intro v1 v66 hown hg hat
  rw [e2.out] at hown
  obtain ⟨A67, c68, rfl⟩ := own_slice hown
  have hNewE : (v66.ownsRow w2.heap.size 5 1 (.slice A67 R2.length c68) R2.length (nums .u8 R2)) ∧ (Below w2.heap.size w2 v66) := ⟨hown, (hEx.out.2.2).grown hg (hEx.out.2.2).size (own_base hEx.out.2.1)⟩
  refine hK.out _ _ ((hHeld.out)) (fun hNewS => ?_)
  clear hK K
  clear hHeld hEx
  have hHeld := Lib.hid hNewS
  have hEx := Lib.hid hNewE
  clear hNewS hNewE
  clear hown hg hat
  try simp only [Act.put, List.setIfInBounds_toArray, List.set_cons_zero, List.set_cons_succ]
  refine lastOne 13 (by kernel_rfl) rfl (by decide) (fun K hK => ?_)
  rw [if_pos (by rfl)]
  refine wp_append_row (W := v66) w2.heap.size (.tmp 32) (.tmp 36) 49 5 .u8 1 rfl Try.underlying49 Try.info8d (by decide) _ R2 Post _ npost _ rfl rfl hEx.out.1 (P2.out.below hEx.out.2) (hEx.out.2).size (by have := b1.out; have := b2.out; have := b3.out; have := b4.out; have h2 := congrArg List.length e2.out; simp at h2 ⊢; omega) ?_
  intro v1 v69 hown hg hat
  rw [e3.out] at hown
  obtain ⟨A70, c71, rfl⟩ := own_slice hown
  have hNewE : (v69.ownsRow w2.heap.size 5 1 (.slice A70 R3.length c71) R3.length (nums .u8 R3)) ∧ (Below w2.heap.size w2 v69) := ⟨hown, (hEx.out.2).grown hg (hEx.out.2).size (own_base hEx.out.1)⟩
  refine hK.out _ _ ((hHeld.out)) (fun hNewS => ?_)
  clear hK K
  clear hHeld hEx
  have hHeld := Lib.hid hNewS
  have hEx := Lib.hid hNewE
  clear hNewS hNewE
  clear hown hg hat
  try simp only [Act.put, List.setIfInBounds_toArray, List.set_cons_zero, List.set_cons_succ]
  refine lastOne 14 (by kernel_rfl) rfl (by decide) (fun K hK => ?_)
  go_simp
  refine (FR.out _ _ _ (by have := own_cap hEx.out.1; have := b5.out; omega) (own_reads' hEx.out.1)).mono ?_
  rintro _ v72 ⟨rfl, hb⟩
  have hNewE : (Below w2.heap.size w2 v72) := below_more (hEx.out.2) (Nat.le_refl _) hb
  refine hK.out _ _ ((hHeld.out)) (fun hNewS => ?_)
  clear hK K
  clear hHeld hEx
  have hHeld := Lib.hid hNewS
  have hEx := Lib.hid hNewE
  clear hNewS hNewE
  clear hb
  try simp only [Act.put, List.setIfInBounds_toArray, List.set_cons_zero, List.set_cons_succ]
  have hz := blk_below s2.out hEx.out
  refine lastEnd 15 (by kernel_rfl) rfl (by decide) (fun K hK => ?_)
  rw [if_pos (by rfl)]
  refine wp_store_row 26 (.tmp 6) (.tmp 38) rfl rfl (w.heap.size + 1) rfl #[.int .u32 y0, .int .u32 y1, .int .u64 y2, .int .u64 y3, .int .u64 y4, .int .u64 y5, .int .u64 y6, .int .u64 y7, .int .u64 y8] rfl 26 _ hz (by rfl) HY.out OY.out ?_
  have hNewE : ((v72.setRow (w.heap.size + 1) #[.int .u32 y0, .int .u32 y1, .int .u64 y2, .int .u64 y3, .int .u64 y4, .int .u64 y5, .int .u64 y6, .int .u64 y7, .int .u64 y8]).heap[(w.heap.size + 1)]? = some (.cells #[.int .u32 y0, .int .u32 y1, .int .u64 y2, .int .u64 y3, .int .u64 y4, .int .u64 y5, .int .u64 y6, .int .u64 y7, .int .u64 y8] 26 (0, 0))) ∧ (Below w.heap.size w (v72.setRow (w.heap.size + 1) #[.int .u32 y0, .int .u32 y1, .int .u64 y2, .int .u64 y3, .int .u64 y4, .int .u64 y5, .int .u64 y6, .int .u64 y7, .int .u64 y8])) := ⟨heap_setRow_same _ _ _ _ _ _ hz, below_setRow (below_more s4.out (Nat.le_refl _) hEx.out) (by omega)⟩
  refine hK.out _ _ ?_
  clear hK K
  clear hHeld hEx
  have hEx := Lib.hid hNewE
  clear hNewE
  clear hz
  try simp only [Act.put, List.setIfInBounds_toArray, List.set_cons_zero, List.set_cons_succ]
  refine Go.Proofs.YtgfmeiddicodoaaW.PrintLast.wpAnyLast_done (by kernel_rfl) ?_ _
  have G1 := Lib.hid hEx.out.1
  have G2 := Lib.hid hEx.out.2
  clear hEx
  go_wp2_with fail
  refine bodyPost_ret (results_cell_row rfl _ _ (w.heap.size + 1) _ _ _ _ rfl G1.out Try.underlying26 rfl HY.out) rfl ?_
  exact ⟨rfl, G2.out⟩
theorem b4s_set (v : Int) : ∀ (ws : List Int) (k : Nat), k < ws.length → b4s (ws.set k v) = ((b4s ws).take (4 * k) ++ b4 v) ++ (b4s ws).drop (4 * k + 4) := by
  intro ws
  induction ws with
  | nil => intro k h; simp at h
  | cons x xs ih =>
    intro k h
    cases k with
    | zero => simp [b4s, b4]
    | succ k =>
      have := ih k (by simpa using h)
      rw [List.set_cons_succ]
      simp only [b4s]
      rw [this, show 4 * (k + 1) = 4 * k + 1 + 1 + 1 + 1 by omega]
      simp [b4]
theorem RWith_walk (x0 x1 x2 x3 x4 x5 x6 x7 x8 : Int) (hd : IsD x0 x1 x2 [x3, x4, x5, x6, x7, x8]) (p v : Int) (hp : 0 ≤ p ∧ p < 4294967296) (hv : 0 ≤ v ∧ v < 4294967296) (w : World) :
    Calls Try.prog 31 #[.agg #[.int .u32 x0, .int .u32 x1, .int .u64 x2, .int .u64 x3, .int .u64 x4, .int .u64 x5, .int .u64 x6, .int .u64 x7, .int .u64 x8], .int .u32 p, .int .u32 v] w fun e w' => e = .returned (ofL (withL x0 x1 x2 x3 x4 x5 x6 x7 x8 p v)) ∧ Below w.heap.size w w' := by
  have WR := fun w => RWord_walk x0 x1 x2 x3 x4 x5 x6 x7 x8 hd p hp w
  unfold withL
  cases ht : thereB p with
  | false =>
    rw [if_neg (by decide), ofL_words]
    rw [ht] at WR
    exact RWith_no x0 x1 x2 x3 x4 x5 x6 x7 x8 p v _ WR w
  | true =>
    rw [if_pos rfl]
    rw [ht] at WR
    have h4 : p % 4 = 0 := by simp [thereB] at ht; exact ht.1
    have h64 : p < 64 := by simp [thereB] at ht; exact ht.2
    have hu := hd.words
    have hl : (wordsL x0 x1 x2 [x3, x4, x5, x6, x7, x8]).length = 16 := rfl
    have BY := RBytes_walk x0 x1 x2 x3 x4 x5 x6 x7 x8 hd
    generalize wordsL x0 x1 x2 [x3, x4, x5, x6, x7, x8] = ws at *
    obtain ⟨k, rfl⟩ : ∃ k : Nat, p = ((4 * k : Nat) : Int) := ⟨(p / 4).toNat, by omega⟩
    have ek : (((4 * k : Nat) : Int) / 4).toNat = k := by omega
    rw [ek]
    have hB : (b4s ws).length = 64 := by rw [b4s_length, hl]
    have hset := b4s_set v ws k (by omega)
    have hlen : (b4s (ws.set k v)).length = 64 := by rw [b4s_length, List.length_set, hl]
    refine RWith_yes x0 x1 x2 x3 x4 x5 x6 x7 x8 ((4 * k : Nat) : Int) v _ _ _ _ _ _ _ _ _ _ ⟨by omega, h64⟩ hv (b4s ws) ((b4s ws).take (4 * k)) (b4 v) ((b4s ws).drop (4 * k + 4)) ((b4s ws).take (4 * k) ++ b4 v) (b4s (ws.set k v)) (4 * k) (64 - (4 * k + 4)) rfl rfl hset.symm (by rw [List.length_take, hB]; omega) rfl (by rw [List.length_drop, hB]) (by omega) hlen WR BY ?_ (by rw [← lowL_4 v hv]; exact low_gives v (by omega) 4 (by omega)) ?_ w
    · intro A c hc
      obtain ⟨A1, h1, r1⟩ := cut_h A 64 c (4 * k) (by omega) hc
      obtain ⟨A2, h2, r2⟩ := cut_l A 64 c (4 * k + 4) (by omega) hc
      refine ⟨A1, A2, c, c - (4 * k + 4), h1, fun W => ?_, fun W hW => r1 W .u8 _ hW, fun W hW => r2 W .u8 _ hW⟩
      have := h2 W
      rw [show ((4 * k + 4 : Nat) : Int) = ((4 * k : Nat) : Int) + 4 by omega] at this
      exact this
    · intro A c W hc hW
      rw [hlen] at hW ⊢
      exact RFrom_words A c (ws.set k v) (by rw [List.length_set, hl]) (U32s_set hu hv (by omega)) hc W hW
end Go.Proofs.Ytgfmeiddicodoaa.H
