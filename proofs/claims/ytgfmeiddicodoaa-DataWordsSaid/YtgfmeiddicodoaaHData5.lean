/-
Package data: knows.
-/
import Derived.Test.YtgfmeiddicodoaaProg
import Derived.WalkKit
import Derived.WalkSpells
import Derived.WalkLawsBesides
import Derived.Handy
import Derived.Lib.Hide
import Derived.Deep.QuietTactic
import Derived.BigQuiet
import Derived.Test.YtgfmeiddicodoaaHData4
set_option linter.unusedVariables false
set_option linter.unusedSimpArgs false
namespace Go.Proofs.Ytgfmeiddicodoaa.H
open Go.RowKit Go.Proofs.YtgfmeiddicodoaaW.PrintWords

theorem isD_known : IsD 7 9 0 [4294967301, 0, 0, 0, 0, 0] := by
  refine ⟨rfl, by omega, by omega, by omega, fun k hk => ?_⟩
  rcases (by omega : k = 0 ∨ k = 1 ∨ k = 2 ∨ k = 3 ∨ k = 4 ∨ k = 5) with rfl | rfl | rfl | rfl | rfl | rfl <;> decide

set_option maxHeartbeats 2000000 in
theorem knows_walk (w : World) : Calls Try.prog 18 #[] w fun e w' => e = .returned (.bool true) ∧ Below w.heap.size w w' := by
  have W4 := Lib.hid (fun w => Word_walk 7 9 0 4294967301 0 0 0 0 0 isD_known 4 (by omega) w)
  have W16 := Lib.hid (fun w => Word_walk 7 9 0 4294967301 0 0 0 0 0 isD_known 16 (by omega) w)
  have W20 := Lib.hid (fun w => Word_walk 7 9 0 4294967301 0 0 0 0 0 isD_known 20 (by omega) w)
  rw [show wordI 7 9 0 4294967301 0 0 0 0 0 4 = 9 by rfl, show thereB 4 = true by rfl] at W4
  rw [show wordI 7 9 0 4294967301 0 0 0 0 0 16 = 5 by rfl, show thereB 16 = true by rfl] at W16
  rw [show wordI 7 9 0 4294967301 0 0 0 0 0 20 = 1 by rfl, show thereB 20 = true by rfl] at W20
  have L5 := Lib.hid (Low_walk 5 (by omega))
  have H5 := Lib.hid (High_walk 5 (by omega))
  have L6 := Lib.hid (Low_walk 6 (by omega))
  rw [show lowI 5 = 56 by rfl] at L5
  rw [show highI 5 = 60 by rfl] at H5
  rw [show lowI 6 = 64 by rfl] at L6
  have BB := Lib.hid (fun w => Bytes_walk 7 9 0 4294967301 0 0 0 0 0 isD_known w)
  go_enter Try.func18, Try.ntmps18
  go_wp2_with fail
  have hg0 := heap_alloc_new w (.cells #[.int .u32 7, .int .u32 9, .int .u64 0, .int .u64 4294967301, .int .u64 0, .int .u64 0, .int .u64 0, .int .u64 0, .int .u64 0] 26)
  have G := Lib.hid hg0
  have HB := Lib.hid ((Below.refl w.heap.size w).alloc (Nat.le_refl _) (.cells #[.int .u32 7, .int .u32 9, .int .u64 0, .int .u64 4294967301, .int .u64 0, .int .u64 0, .int .u64 0, .int .u64 0, .int .u64 0] 26))
  clear hg0
  refine (W4.out _).mono ?_
  rintro e w1 ⟨rfl, hb⟩
  have g1 := Lib.hid (blk_below G.out hb)
  have b1 := Lib.hid (HB.out.trans (hb.mono HB.out.size))
  clear hb G HB
  have G := Lib.hid g1.out
  have HB := Lib.hid b1.out
  obtain ⟨c0, c1, c2, c3, c4, c5, c6, c7, c8⟩ := cells9 G.out
  clear g1 b1
  go_wp2_with fail
  clear c0 c1 c2 c3 c4 c5 c6 c7 c8
  refine (W16.out _).mono ?_
  rintro e w2 ⟨rfl, hb⟩
  have g2 := Lib.hid (blk_below G.out hb)
  have b2 := Lib.hid (HB.out.trans (hb.mono HB.out.size))
  clear hb G HB
  have G := Lib.hid g2.out
  have HB := Lib.hid b2.out
  obtain ⟨c0, c1, c2, c3, c4, c5, c6, c7, c8⟩ := cells9 G.out
  clear g2 b2
  go_wp2_with fail
  clear c0 c1 c2 c3 c4 c5 c6 c7 c8
  refine (W20.out _).mono ?_
  rintro e w3 ⟨rfl, hb⟩
  have g3 := Lib.hid (blk_below G.out hb)
  have b3 := Lib.hid (HB.out.trans (hb.mono HB.out.size))
  clear hb G HB
  have G := Lib.hid g3.out
  have HB := Lib.hid b3.out
  obtain ⟨c0, c1, c2, c3, c4, c5, c6, c7, c8⟩ := cells9 G.out
  clear g3 b3
  go_wp2_with fail
  clear c0 c1 c2 c3 c4 c5 c6 c7 c8
  refine (L5.out _).mono ?_
  rintro e w4 ⟨rfl, hb⟩
  have g4 := Lib.hid (blk_below G.out hb)
  have b4 := Lib.hid (HB.out.trans (hb.mono HB.out.size))
  clear hb G HB
  have G := Lib.hid g4.out
  have HB := Lib.hid b4.out
  obtain ⟨c0, c1, c2, c3, c4, c5, c6, c7, c8⟩ := cells9 G.out
  clear g4 b4
  go_wp2_with fail
  clear c0 c1 c2 c3 c4 c5 c6 c7 c8
  refine (H5.out _).mono ?_
  rintro e w5 ⟨rfl, hb⟩
  have g5 := Lib.hid (blk_below G.out hb)
  have b5 := Lib.hid (HB.out.trans (hb.mono HB.out.size))
  clear hb G HB
  have G := Lib.hid g5.out
  have HB := Lib.hid b5.out
  obtain ⟨c0, c1, c2, c3, c4, c5, c6, c7, c8⟩ := cells9 G.out
  clear g5 b5
  go_wp2_with fail
  clear c0 c1 c2 c3 c4 c5 c6 c7 c8
  refine (L6.out _).mono ?_
  rintro e w6 ⟨rfl, hb⟩
  have g6 := Lib.hid (blk_below G.out hb)
  have b6 := Lib.hid (HB.out.trans (hb.mono HB.out.size))
  clear hb G HB
  have G := Lib.hid g6.out
  have HB := Lib.hid b6.out
  obtain ⟨c0, c1, c2, c3, c4, c5, c6, c7, c8⟩ := cells9 G.out
  clear g6 b6
  go_wp2_with fail
  clear c0 c1 c2 c3 c4 c5 c6 c7 c8
  refine (BB.out _).mono ?_
  rintro e w7 ⟨v, rfl, ho, hb⟩
  obtain ⟨A, c, rfl⟩ := own_slice ho
  have b7 := Lib.hid (HB.out.trans (hb.mono HB.out.size))
  clear ho hb
  go_wp2_with fail
  go_ret
  exact ⟨rfl, b7.out⟩
end Go.Proofs.Ytgfmeiddicodoaa.H
