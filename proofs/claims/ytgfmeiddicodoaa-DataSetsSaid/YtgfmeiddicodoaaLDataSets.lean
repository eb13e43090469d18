/-
DataSets: the walk.
-/
import Derived.Test.YtgfmeiddicodoaaProg
import Derived.WalkKit
import Derived.WalkSpells
import Derived.WalkLawsBesides
import Derived.Handy
import Derived.Lib.Hide
import Derived.Deep.QuietTactic
import Derived.BigQuiet
import Derived.Test.YtgfmeiddicodoaaHData5
import Derived.Test.YtgfmeiddicodoaaHData6
import Derived.Test.YtgfmeiddicodoaaHEqD
import Derived.Test.YtgfmeiddicodoaaHOpenD
set_option linter.unusedVariables false
set_option linter.unusedSimpArgs false
namespace Go.Proofs.Ytgfmeiddicodoaa.H
open Go.RowKit Go.Proofs.YtgfmeiddicodoaaW.PrintWords

attribute [local go_sem high] eqDn

set_option maxHeartbeats 4000000 in
theorem DataSets_walk (x0 x1 x2 x3 x4 x5 x6 x7 x8 p v q : Int) (hd : IsD x0 x1 x2 [x3, x4, x5, x6, x7, x8]) (hp : 0 ≤ p ∧ p < 4294967296) (hv : 0 ≤ v ∧ v < 4294967296) (hq : 0 ≤ q ∧ q < 4294967296) (w : World) :
    Calls Try.prog 12 #[.agg #[.int .u32 x0, .int .u32 x1, .int .u64 x2, .int .u64 x3, .int .u64 x4, .int .u64 x5, .int .u64 x6, .int .u64 x7, .int .u64 x8], .int .u32 p, .int .u32 v, .int .u32 q] w fun e w' => e = .returned (.bool true) ∧ Below w.heap.size w w' := by
  have KN := Lib.hid knows_walk
  have HI := Lib.hid (info_data (.int .u32 x0) (.int .u32 x1) (.int .u64 x2) (.int .u64 x3) (.int .u64 x4) (.int .u64 x5) (.int .u64 x6) (.int .u64 x7) (.int .u64 x8))
  have HO := Lib.hid (one_data x0 x1 x2 x3 x4 x5 x6 x7 x8)
  have Q0 := Lib.hid (heap_alloc_new w (.cells #[.int .u32 x0, .int .u32 x1, .int .u64 x2, .int .u64 x3, .int .u64 x4, .int .u64 x5, .int .u64 x6, .int .u64 x7, .int .u64 x8] 26))
  have Q3 := Lib.hid ((Below.refl w.heap.size w).alloc (Nat.le_refl _) (.cells #[.int .u32 x0, .int .u32 x1, .int .u64 x2, .int .u64 x3, .int .u64 x4, .int .u64 x5, .int .u64 x6, .int .u64 x7, .int .u64 x8] 26))
  have WITH := Lib.hid (With_walk x0 x1 x2 x3 x4 x5 x6 x7 x8 p v hd hp hv)
  have WDQ := Lib.hid (Word_walk x0 x1 x2 x3 x4 x5 x6 x7 x8 hd q hq)
  cases ht : thereB p with
  | false =>
    have hwl : withL x0 x1 x2 x3 x4 x5 x6 x7 x8 p v = wordsL x0 x1 x2 [x3, x4, x5, x6, x7, x8] := by unfold withL; rw [if_neg (by rw [ht]; decide)]
    rw [hwl, ofL_words] at WITH
    have WXP := Lib.hid (Word_walk x0 x1 x2 x3 x4 x5 x6 x7 x8 hd p hp)
    rw [show wordI x0 x1 x2 x3 x4 x5 x6 x7 x8 p = 0 by unfold wordI; rw [if_neg (by rw [ht]; decide)], ht] at WXP
    have hE : eqDB x0 x1 x2 x3 x4 x5 x6 x7 x8 x0 x1 x2 x3 x4 x5 x6 x7 x8 = true := (eqDB_iff x0 x1 x2 x3 x4 x5 x6 x7 x8 x0 x1 x2 x3 x4 x5 x6 x7 x8).2 ⟨rfl, rfl, rfl, rfl, rfl, rfl, rfl, rfl, rfl⟩
    generalize wordI x0 x1 x2 x3 x4 x5 x6 x7 x8 q = b at *
    generalize thereB q = t at *
    clear ht hwl hd 
    go_enter Try.func12, Try.ntmps12
    go_wp2_with (refine wpList_load_row rfl 26 (.tmp 4) rfl (w.heap.size) rfl _ _ _ _ Q0.out Try.underlying26 rfl HI.out ?_)
    refine (WITH.out _).mono ?_
    rintro e w1 ⟨rfl, hb⟩
    have G0 := Lib.hid (blk_below Q0.out hb)
    have HB := Lib.hid (Q3.out.trans (hb.mono Q3.out.size))
    clear hb
    obtain ⟨W3, hW3⟩ : ∃ W3, (w1.alloc (Obj.cells #[.int .u32 0, .int .u32 0, .int .u64 0, .int .u64 0, .int .u64 0, .int .u64 0, .int .u64 0, .int .u64 0, .int .u64 0] 26)).setRow w1.heap.size #[.int .u32 x0, .int .u32 x1, .int .u64 x2, .int .u64 x3, .int .u64 x4, .int .u64 x5, .int .u64 x6, .int .u64 x7, .int .u64 x8] = W3 := ⟨_, rfl⟩
    have r3 := heap_setRow_same (w1.alloc (Obj.cells #[.int .u32 0, .int .u32 0, .int .u64 0, .int .u64 0, .int .u64 0, .int .u64 0, .int .u64 0, .int .u64 0, .int .u64 0] 26)) w1.heap.size #[.int .u32 x0, .int .u32 x1, .int .u64 x2, .int .u64 x3, .int .u64 x4, .int .u64 x5, .int .u64 x6, .int .u64 x7, .int .u64 x8] _ _ _ (heap_alloc_new w1 (Obj.cells #[.int .u32 0, .int .u32 0, .int .u64 0, .int .u64 0, .int .u64 0, .int .u64 0, .int .u64 0, .int .u64 0, .int .u64 0] 26))
    rw [hW3] at r3
    have b3 : Below w1.heap.size w1 W3 := by rw [← hW3]; exact ((Below.refl _ _).alloc (Nat.le_refl _) _).trans ⟨rfl, rfl, rfl, by simp, fun k hk => heap_setRow_other _ _ _ _ (by omega)⟩
    have s3 : W3.heap.size = w1.heap.size + 1 := by rw [← hW3]; simp
    have HW3 := Lib.hid hW3
    have R3 := Lib.hid r3
    have D3 := Lib.hid (blk_below G0.out b3)
    have HB3 := Lib.hid (HB.out.trans (b3.mono HB.out.size))
    clear hW3 r3 b3 s3
    go_wp2_with (first | (refine wpList_store_row rfl 26 (.tmp 9) (.tmp 19) rfl rfl w1.heap.size rfl #[.int .u32 x0, .int .u32 x1, .int .u64 x2, .int .u64 x3, .int .u64 x4, .int .u64 x5, .int .u64 x6, .int .u64 x7, .int .u64 x8] rfl _ _ (heap_alloc_new _ _) rfl HI.out HO.out ?_; rw [HW3.out]) | (refine wpList_load_row rfl 26 (.tmp 9) rfl (w1.heap.size) rfl _ _ _ _ R3.out Try.underlying26 rfl HI.out ?_))
    refine (WXP.out _).mono ?_
    rintro e w4 ⟨rfl, hb⟩
    have D4 := Lib.hid (blk_below D3.out hb)
    have R4 := Lib.hid (blk_below R3.out hb)
    have HB4 := Lib.hid (HB3.out.trans (hb.mono HB3.out.size))
    clear hb
    go_wp2_with (refine wpList_load_row rfl 26 (.tmp 4) rfl (w.heap.size) rfl _ _ _ _ D4.out Try.underlying26 rfl HI.out ?_)
    refine (WDQ.out _).mono ?_
    rintro e w5 ⟨rfl, hb⟩
    have D5 := Lib.hid (blk_below D4.out hb)
    have R5 := Lib.hid (blk_below R4.out hb)
    have HB5 := Lib.hid (HB4.out.trans (hb.mono HB4.out.size))
    clear hb
    go_wp2_with (refine wpList_load_row rfl 26 (.tmp 9) rfl (w1.heap.size) rfl _ _ _ _ R5.out Try.underlying26 rfl HI.out ?_)
    refine (WDQ.out _).mono ?_
    rintro e w6 ⟨rfl, hb⟩
    have D6 := Lib.hid (blk_below D5.out hb)
    have R6 := Lib.hid (blk_below R5.out hb)
    have HB6 := Lib.hid (HB5.out.trans (hb.mono HB5.out.size))
    clear hb
    go_wp2_with (first | (refine wpList_load_row rfl 26 (.tmp 9) rfl (w1.heap.size) rfl _ _ _ _ R6.out Try.underlying26 rfl HI.out ?_) | (refine wpList_load_row rfl 26 (.tmp 4) rfl (w.heap.size) rfl _ _ _ _ D6.out Try.underlying26 rfl HI.out ?_))
    refine (KN.out _).mono ?_
    rintro e w7 ⟨rfl, hb⟩
    have HB7 := Lib.hid (HB6.out.trans (hb.mono HB6.out.size))
    clear hb
    go_wp2_with fail
    go_ret
    exact ⟨rfl, HB7.out⟩
  | true =>
    have hwl : withL x0 x1 x2 x3 x4 x5 x6 x7 x8 p v = (wordsL x0 x1 x2 [x3, x4, x5, x6, x7, x8]).set (p / 4).toNat v := by unfold withL; rw [if_pos ht]
    have hlen := withL_length x0 x1 x2 x3 x4 x5 x6 x7 x8 p v
    have hu := withL_u32 x0 x1 x2 x3 x4 x5 x6 x7 x8 p v hd hp.1 hv
    generalize hqs : withL x0 x1 x2 x3 x4 x5 x6 x7 x8 p v = qs at *
    have h64 : p < 64 ∧ p % 4 = 0 := by simp [thereB] at ht; omega
    have WXP := Lib.hid (Word_of qs hlen hu p hp)
    have WXQ := Lib.hid (Word_of qs hlen hu q hq)
    rw [show wordOf qs p = v by unfold wordOf; rw [if_pos ht, hwl, getD_set (by simp [wordsL]; omega), if_pos rfl], ht] at WXP
    have hbc : p ≠ q → wordOf qs q = wordI x0 x1 x2 x3 x4 x5 x6 x7 x8 q := by
      intro hne
      unfold wordOf wordI
      by_cases h : thereB q = true
      · rw [if_pos h, if_pos h, hwl, getD_set (by simp [wordsL]; omega), if_neg (by simp [thereB] at h; omega)]
      · rw [if_neg h, if_neg h]
    have HOI := Lib.hid (show (Try.prog.info? 26).map (·.size) = some (ofRow qs).size from info_data _ _ _ _ _ _ _ _ _)
    have HOO := Lib.hid (show ∀ v ∈ (ofRow qs).toList, v.oneCell' = true from one_data _ _ _ _ _ _ _ _ _)
    generalize wordI x0 x1 x2 x3 x4 x5 x6 x7 x8 q = b at *
    generalize wordOf qs q = c at *
    generalize thereB q = t at *
    unfold ofL at WITH WXP WXQ
    by_cases hpq : p = q
    · have hpq' : (p == q) = true := by simpa using hpq
      clear ht hwl hd hlen hu hqs h64 hbc hpq 
      go_enter Try.func12, Try.ntmps12
      go_wp2_with (refine wpList_load_row rfl 26 (.tmp 4) rfl (w.heap.size) rfl _ _ _ _ Q0.out Try.underlying26 rfl HI.out ?_)
      refine (WITH.out _).mono ?_
      rintro e w1 ⟨rfl, hb⟩
      have G0 := Lib.hid (blk_below Q0.out hb)
      have HB := Lib.hid (Q3.out.trans (hb.mono Q3.out.size))
      clear hb
      obtain ⟨W3, hW3⟩ : ∃ W3, (w1.alloc (Obj.cells #[.int .u32 0, .int .u32 0, .int .u64 0, .int .u64 0, .int .u64 0, .int .u64 0, .int .u64 0, .int .u64 0, .int .u64 0] 26)).setRow w1.heap.size (ofRow qs) = W3 := ⟨_, rfl⟩
      have r3 := heap_setRow_same (w1.alloc (Obj.cells #[.int .u32 0, .int .u32 0, .int .u64 0, .int .u64 0, .int .u64 0, .int .u64 0, .int .u64 0, .int .u64 0, .int .u64 0] 26)) w1.heap.size (ofRow qs) _ _ _ (heap_alloc_new w1 (Obj.cells #[.int .u32 0, .int .u32 0, .int .u64 0, .int .u64 0, .int .u64 0, .int .u64 0, .int .u64 0, .int .u64 0, .int .u64 0] 26))
      rw [hW3] at r3
      have b3 : Below w1.heap.size w1 W3 := by rw [← hW3]; exact ((Below.refl _ _).alloc (Nat.le_refl _) _).trans ⟨rfl, rfl, rfl, by simp, fun k hk => heap_setRow_other _ _ _ _ (by omega)⟩
      have s3 : W3.heap.size = w1.heap.size + 1 := by rw [← hW3]; simp
      have HW3 := Lib.hid hW3
      have R3 := Lib.hid r3
      have D3 := Lib.hid (blk_below G0.out b3)
      have HB3 := Lib.hid (HB.out.trans (b3.mono HB.out.size))
      clear hW3 r3 b3 s3
      go_wp2_with (first | (refine wpList_store_row rfl 26 (.tmp 9) (.tmp 19) rfl rfl w1.heap.size rfl (ofRow qs) rfl _ _ (heap_alloc_new _ _) rfl HOI.out HOO.out ?_; rw [HW3.out]) | (refine wpList_load_row rfl 26 (.tmp 9) rfl (w1.heap.size) rfl _ _ _ _ R3.out Try.underlying26 rfl HOI.out ?_))
      refine (WXP.out _).mono ?_
      rintro e w4 ⟨rfl, hb⟩
      have D4 := Lib.hid (blk_below D3.out hb)
      have R4 := Lib.hid (blk_below R3.out hb)
      have HB4 := Lib.hid (HB3.out.trans (hb.mono HB3.out.size))
      clear hb
      go_wp2_with (refine wpList_load_row rfl 26 (.tmp 4) rfl (w.heap.size) rfl _ _ _ _ D4.out Try.underlying26 rfl HI.out ?_)
      refine (WDQ.out _).mono ?_
      rintro e w5 ⟨rfl, hb⟩
      have D5 := Lib.hid (blk_below D4.out hb)
      have R5 := Lib.hid (blk_below R4.out hb)
      have HB5 := Lib.hid (HB4.out.trans (hb.mono HB4.out.size))
      clear hb
      go_wp2_with (refine wpList_load_row rfl 26 (.tmp 9) rfl (w1.heap.size) rfl _ _ _ _ R5.out Try.underlying26 rfl HOI.out ?_)
      refine (WXQ.out _).mono ?_
      rintro e w6 ⟨rfl, hb⟩
      have D6 := Lib.hid (blk_below D5.out hb)
      have R6 := Lib.hid (blk_below R5.out hb)
      have HB6 := Lib.hid (HB5.out.trans (hb.mono HB5.out.size))
      clear hb
      go_wp2_with (first | (refine wpList_load_row rfl 26 (.tmp 9) rfl (w1.heap.size) rfl _ _ _ _ R6.out Try.underlying26 rfl HOI.out ?_) | (refine wpList_load_row rfl 26 (.tmp 4) rfl (w.heap.size) rfl _ _ _ _ D6.out Try.underlying26 rfl HI.out ?_))
      refine (KN.out _).mono ?_
      rintro e w7 ⟨rfl, hb⟩
      have HB7 := Lib.hid (HB6.out.trans (hb.mono HB6.out.size))
      clear hb
      go_wp2_with fail
      go_ret
      exact ⟨rfl, HB7.out⟩
    · have hpq' : (p == q) = false := by simpa using hpq
      obtain rfl := hbc hpq
      clear ht hwl hd hlen hu hqs h64 hbc hpq 
      go_enter Try.func12, Try.ntmps12
      go_wp2_with (refine wpList_load_row rfl 26 (.tmp 4) rfl (w.heap.size) rfl _ _ _ _ Q0.out Try.underlying26 rfl HI.out ?_)
      refine (WITH.out _).mono ?_
      rintro e w1 ⟨rfl, hb⟩
      have G0 := Lib.hid (blk_below Q0.out hb)
      have HB := Lib.hid (Q3.out.trans (hb.mono Q3.out.size))
      clear hb
      obtain ⟨W3, hW3⟩ : ∃ W3, (w1.alloc (Obj.cells #[.int .u32 0, .int .u32 0, .int .u64 0, .int .u64 0, .int .u64 0, .int .u64 0, .int .u64 0, .int .u64 0, .int .u64 0] 26)).setRow w1.heap.size (ofRow qs) = W3 := ⟨_, rfl⟩
      have r3 := heap_setRow_same (w1.alloc (Obj.cells #[.int .u32 0, .int .u32 0, .int .u64 0, .int .u64 0, .int .u64 0, .int .u64 0, .int .u64 0, .int .u64 0, .int .u64 0] 26)) w1.heap.size (ofRow qs) _ _ _ (heap_alloc_new w1 (Obj.cells #[.int .u32 0, .int .u32 0, .int .u64 0, .int .u64 0, .int .u64 0, .int .u64 0, .int .u64 0, .int .u64 0, .int .u64 0] 26))
      rw [hW3] at r3
      have b3 : Below w1.heap.size w1 W3 := by rw [← hW3]; exact ((Below.refl _ _).alloc (Nat.le_refl _) _).trans ⟨rfl, rfl, rfl, by simp, fun k hk => heap_setRow_other _ _ _ _ (by omega)⟩
      have s3 : W3.heap.size = w1.heap.size + 1 := by rw [← hW3]; simp
      have HW3 := Lib.hid hW3
      have R3 := Lib.hid r3
      have D3 := Lib.hid (blk_below G0.out b3)
      have HB3 := Lib.hid (HB.out.trans (b3.mono HB.out.size))
      clear hW3 r3 b3 s3
      go_wp2_with (first | (refine wpList_store_row rfl 26 (.tmp 9) (.tmp 19) rfl rfl w1.heap.size rfl (ofRow qs) rfl _ _ (heap_alloc_new _ _) rfl HOI.out HOO.out ?_; rw [HW3.out]) | (refine wpList_load_row rfl 26 (.tmp 9) rfl (w1.heap.size) rfl _ _ _ _ R3.out Try.underlying26 rfl HOI.out ?_))
      refine (WXP.out _).mono ?_
      rintro e w4 ⟨rfl, hb⟩
      have D4 := Lib.hid (blk_below D3.out hb)
      have R4 := Lib.hid (blk_below R3.out hb)
      have HB4 := Lib.hid (HB3.out.trans (hb.mono HB3.out.size))
      clear hb
      go_wp2_with (refine wpList_load_row rfl 26 (.tmp 4) rfl (w.heap.size) rfl _ _ _ _ D4.out Try.underlying26 rfl HI.out ?_)
      refine (WDQ.out _).mono ?_
      rintro e w5 ⟨rfl, hb⟩
      have D5 := Lib.hid (blk_below D4.out hb)
      have R5 := Lib.hid (blk_below R4.out hb)
      have HB5 := Lib.hid (HB4.out.trans (hb.mono HB4.out.size))
      clear hb
      go_wp2_with (refine wpList_load_row rfl 26 (.tmp 9) rfl (w1.heap.size) rfl _ _ _ _ R5.out Try.underlying26 rfl HOI.out ?_)
      refine (WXQ.out _).mono ?_
      rintro e w6 ⟨rfl, hb⟩
      have D6 := Lib.hid (blk_below D5.out hb)
      have R6 := Lib.hid (blk_below R5.out hb)
      have HB6 := Lib.hid (HB5.out.trans (hb.mono HB5.out.size))
      clear hb
      go_wp2_with (first | (refine wpList_load_row rfl 26 (.tmp 9) rfl (w1.heap.size) rfl _ _ _ _ R6.out Try.underlying26 rfl HOI.out ?_) | (refine wpList_load_row rfl 26 (.tmp 4) rfl (w.heap.size) rfl _ _ _ _ D6.out Try.underlying26 rfl HI.out ?_))
      refine (KN.out _).mono ?_
      rintro e w7 ⟨rfl, hb⟩
      have HB7 := Lib.hid (HB6.out.trans (hb.mono HB6.out.size))
      clear hb
      go_wp2_with fail
      go_ret
      exact ⟨rfl, HB7.out⟩
end Go.Proofs.Ytgfmeiddicodoaa.H
