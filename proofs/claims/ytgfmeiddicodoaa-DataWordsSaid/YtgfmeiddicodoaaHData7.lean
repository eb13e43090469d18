/-
From: the walk.
-/
import Derived.Test.YtgfmeiddicodoaaProg
import Derived.WalkKit
import Derived.WalkSpells
import Derived.WalkLawsBesides
import Derived.Handy
import Derived.Lib.Hide
import Derived.Deep.QuietTactic
import Derived.BigQuiet
import Derived.Test.YtgfmeiddicodoaaHData6
set_option linter.unusedVariables false
set_option linter.unusedSimpArgs false
namespace Go.Proofs.Ytgfmeiddicodoaa.H
open Go.RowKit Go.Proofs.YtgfmeiddicodoaaW.PrintWords

def wk (L : List Int) (k i : Nat) : Int :=
  (if 4 * i < k then L.getD (4 * i) 0 else 0) + (if 4 * i + 1 < k then L.getD (4 * i + 1) 0 * 256 else 0) + (if 4 * i + 2 < k then L.getD (4 * i + 2) 0 * 65536 else 0) + (if 4 * i + 3 < k then L.getD (4 * i + 3) 0 * 16777216 else 0)
theorem wk_other (L : List Int) (k i : Nat) (h : i ≠ k / 4) : wk L (k + 1) i = wk L k i := by
  unfold wk
  have h0 : (4 * i < k + 1) = (4 * i < k) := propext ⟨fun _ => by omega, fun _ => by omega⟩
  have h1 : (4 * i + 1 < k + 1) = (4 * i + 1 < k) := propext ⟨fun _ => by omega, fun _ => by omega⟩
  have h2 : (4 * i + 2 < k + 1) = (4 * i + 2 < k) := propext ⟨fun _ => by omega, fun _ => by omega⟩
  have h3 : (4 * i + 3 < k + 1) = (4 * i + 3 < k) := propext ⟨fun _ => by omega, fun _ => by omega⟩
  simp only [h0, h1, h2, h3]
/-- The sixteen words of 64 bytes. -/
def fw (L : List Int) (i : Nat) : Int := L.getD (4 * i) 0 + L.getD (4 * i + 1) 0 * 256 + L.getD (4 * i + 2) 0 * 65536 + L.getD (4 * i + 3) 0 * 16777216
def fromL (L : List Int) : List Int := (List.range 16).map (fw L)
theorem wk_full (L : List Int) (i : Nat) (h : i < 16) : wk L 64 i = fw L i := by
  unfold wk fw
  rw [if_pos (by omega), if_pos (by omega), if_pos (by omega), if_pos (by omega)]
def Bytes8 (L : List Int) : Prop := ∀ i, 0 ≤ L.getD i 0 ∧ L.getD i 0 < 256
theorem fromL_get (L : List Int) (i : Nat) (h : i < 16) : (fromL L).getD i 0 = fw L i := by
  simp [fromL, List.getD_eq_getElem?_getD, h]
theorem fromL_u32 (L : List Int) (hb : Bytes8 L) : U32s (fromL L) := by
  intro i
  by_cases h : i < 16
  · rw [fromL_get L i h]
    have h0 := hb (4 * i)
    have h1 := hb (4 * i + 1)
    have h2 := hb (4 * i + 2)
    have h3 := hb (4 * i + 3)
    unfold fw
    omega
  · rw [List.getD_eq_getElem?_getD, List.getElem?_eq_none (by simp [fromL]; omega)]
    simp
theorem or_8 (a x : Int) (ha : 0 ≤ a ∧ a < 256) (hx : 0 ≤ x ∧ x < 256) : bits .or .u32 a (x * 256) = a + x * 256 := by
  obtain ⟨a, rfl⟩ := Int.eq_ofNat_of_zero_le ha.1
  obtain ⟨x, rfl⟩ := Int.eq_ofNat_of_zero_le hx.1
  rw [show (x : Int) * 256 = ((x * 256 : Nat) : Int) by omega, u32_or_nat _ _ (by omega) (by omega), Nat.or_comm, nat_join 8 _ _ (by omega) (by omega)]
  omega
theorem or_16 (a x : Int) (ha : 0 ≤ a ∧ a < 65536) (hx : 0 ≤ x ∧ x < 256) : bits .or .u32 a (x * 65536) = a + x * 65536 := by
  obtain ⟨a, rfl⟩ := Int.eq_ofNat_of_zero_le ha.1
  obtain ⟨x, rfl⟩ := Int.eq_ofNat_of_zero_le hx.1
  rw [show (x : Int) * 65536 = ((x * 65536 : Nat) : Int) by omega, u32_or_nat _ _ (by omega) (by omega), Nat.or_comm, nat_join 16 _ _ (by omega) (by omega)]
  omega
theorem or_24 (a x : Int) (ha : 0 ≤ a ∧ a < 16777216) (hx : 0 ≤ x ∧ x < 256) : bits .or .u32 a (x * 16777216) = a + x * 16777216 := by
  obtain ⟨a, rfl⟩ := Int.eq_ofNat_of_zero_le ha.1
  obtain ⟨x, rfl⟩ := Int.eq_ofNat_of_zero_le hx.1
  rw [show (x : Int) * 16777216 = ((x * 16777216 : Nat) : Int) by omega, u32_or_nat _ _ (by omega) (by omega), Nat.or_comm, nat_join 24 _ _ (by omega) (by omega)]
  omega
theorem or_0 (x : Int) (hx : 0 ≤ x ∧ x < 256) : bits .or .u32 0 x = x := by
  obtain ⟨x, rfl⟩ := Int.eq_ofNat_of_zero_le hx.1
  rw [show (0 : Int) = ((0 : Nat) : Int) from rfl, u32_or_nat _ _ (by omega) (by omega)]
  simp

theorem From_less (A : Option Addr) (n c : Nat) (hn : n < 64) (w : World) :
    Calls Try.prog 32 #[.slice A n c] w fun e w' => e = .returned (.tuple #[.agg #[.int .u32 0, .int .u32 0, .int .u64 0, .int .u64 0, .int .u64 0, .int .u64 0, .int .u64 0, .int .u64 0, .int .u64 0], .int .i64 9]) ∧ Below w.heap.size w w' := by
  go_enter Try.func32, Try.ntmps32
  have HI := Lib.hid (info_data (.int .u32 0) (.int .u32 0) (.int .u64 0) (.int .u64 0) (.int .u64 0) (.int .u64 0) (.int .u64 0) (.int .u64 0) (.int .u64 0))
  have HO := Lib.hid (one_data 0 0 0 0 0 0 0 0 0)
  go_wp2_with (refine wpList_store_row rfl 26 (.tmp 2) (.tmp 11) rfl rfl w.heap.size rfl #[.int .u32 0, .int .u32 0, .int .u64 0, .int .u64 0, .int .u64 0, .int .u64 0, .int .u64 0, .int .u64 0, .int .u64 0] rfl _ _ (heap_alloc_new _ _) rfl HI.out HO.out ?_)
  have hfin := heap_setRow_same (w.alloc (.cells #[.int .u32 0, .int .u32 0, .int .u64 0, .int .u64 0, .int .u64 0, .int .u64 0, .int .u64 0, .int .u64 0, .int .u64 0] 26)) w.heap.size #[.int .u32 0, .int .u32 0, .int .u64 0, .int .u64 0, .int .u64 0, .int .u64 0, .int .u64 0, .int .u64 0, .int .u64 0] _ 26 _ (heap_alloc_new _ _)
  refine bodyPost_ret (results_ct rfl _ _ w.heap.size _ _ _ _ rfl hfin Try.underlying26 rfl HI.out) rfl ?_
  exact ⟨rfl, ((Below.refl _ _).alloc (Nat.le_refl _) _).trans ⟨rfl, rfl, rfl, by simp [World.setRow], fun k hk => heap_setRow_other _ _ _ _ (by omega)⟩⟩
theorem From_more (A : Option Addr) (n c : Nat) (hn : 64 < n) (w : World) :
    Calls Try.prog 32 #[.slice A n c] w fun e w' => e = .returned (.tuple #[.agg #[.int .u32 0, .int .u32 0, .int .u64 0, .int .u64 0, .int .u64 0, .int .u64 0, .int .u64 0, .int .u64 0, .int .u64 0], .int .i64 3]) ∧ Below w.heap.size w w' := by
  go_enter Try.func32, Try.ntmps32
  have HI := Lib.hid (info_data (.int .u32 0) (.int .u32 0) (.int .u64 0) (.int .u64 0) (.int .u64 0) (.int .u64 0) (.int .u64 0) (.int .u64 0) (.int .u64 0))
  have HO := Lib.hid (one_data 0 0 0 0 0 0 0 0 0)
  go_wp2_with (refine wpList_store_row rfl 26 (.tmp 2) (.tmp 16) rfl rfl w.heap.size rfl #[.int .u32 0, .int .u32 0, .int .u64 0, .int .u64 0, .int .u64 0, .int .u64 0, .int .u64 0, .int .u64 0, .int .u64 0] rfl _ _ (heap_alloc_new _ _) rfl HI.out HO.out ?_)
  have hfin := heap_setRow_same (w.alloc (.cells #[.int .u32 0, .int .u32 0, .int .u64 0, .int .u64 0, .int .u64 0, .int .u64 0, .int .u64 0, .int .u64 0, .int .u64 0] 26)) w.heap.size #[.int .u32 0, .int .u32 0, .int .u64 0, .int .u64 0, .int .u64 0, .int .u64 0, .int .u64 0, .int .u64 0, .int .u64 0] _ 26 _ (heap_alloc_new _ _)
  refine bodyPost_ret (results_ct rfl _ _ w.heap.size _ _ _ _ rfl hfin Try.underlying26 rfl HI.out) rfl ?_
  exact ⟨rfl, ((Below.refl _ _).alloc (Nat.le_refl _) _).trans ⟨rfl, rfl, rfl, by simp [World.setRow], fun k hk => heap_setRow_other _ _ _ _ (by omega)⟩⟩
theorem From_walk (A : Option Addr) (c : Nat) (L : List Int) (w : World) (hr : ReadsInt w .u8 A 64 L) (hb : Bytes8 L) :
    Calls Try.prog 32 #[.slice A 64 c] w fun e w' => e = .returned (.tuple #[ofL (fromL L), .int .i64 0]) ∧ Below w.heap.size w w' := by
  obtain ⟨hl, -, hcell⟩ := hr
  obtain ⟨ad, rfl, hcell2⟩ := hcell (by omega)
  have HC := Lib.hid hcell2
  have HLB := Lib.hid hb
  have HL := Lib.hid hl
  clear hcell hcell2 hb hl
  go_enter Try.func32, Try.ntmps32
  go_wp2_with fail
  obtain ⟨q0, q1, q2, q3⟩ := alloc2d w (.cells #[.int .u32 0, .int .u32 0, .int .u64 0, .int .u64 0, .int .u64 0, .int .u64 0, .int .u64 0, .int .u64 0, .int .u64 0] 26) (.cells #[.int .u32 0, .int .u32 0, .int .u32 0, .int .u32 0, .int .u32 0, .int .u32 0, .int .u32 0, .int .u32 0, .int .u32 0, .int .u32 0, .int .u32 0, .int .u32 0, .int .u32 0, .int .u32 0, .int .u32 0, .int .u32 0] 55)
  generalize hW : (w.alloc (.cells #[.int .u32 0, .int .u32 0, .int .u64 0, .int .u64 0, .int .u64 0, .int .u64 0, .int .u64 0, .int .u64 0, .int .u64 0] 26)).alloc (.cells #[.int .u32 0, .int .u32 0, .int .u32 0, .int .u32 0, .int .u32 0, .int .u32 0, .int .u32 0, .int .u32 0, .int .u32 0, .int .u32 0, .int .u32 0, .int .u32 0, .int .u32 0, .int .u32 0, .int .u32 0, .int .u32 0] 55) = W0 at *
  have Q0 := Lib.hid q0
  have Q1 := Lib.hid q1
  have Q2 := Lib.hid q2
  have Q3 := Lib.hid q3
  clear q0 q1 q2 q3 hW
  go_loopw [19] (fun i wr => ∃ (k : Nat) (W : List Int), k ≤ 64 ∧ i = .int .i64 (k : Int) ∧ W.length = 16 ∧ (∀ j, j < 16 → W.getD j 0 = wk L k j) ∧ wr.heap[w.heap.size + 1]? = some (.cells (nums .u32 W).toArray 55 (0, 0)) ∧
      (∀ b, b ≠ w.heap.size + 1 → wr.heap[b]? = W0.heap[b]?) ∧ Below w.heap.size w wr) (fun i _ => 64 - (intOf i).toNat)
  case atStart => exact ⟨0, List.replicate 16 0, by omega, rfl, by simp, fun j hj => by rw [show (List.replicate 16 (0 : Int)).getD j 0 = 0 from by rw [List.getD_eq_getElem?_getD, List.getElem?_replicate]; split <;> rfl]; simp [wk], Q1.out, fun _ _ => rfl, Q3.out⟩
  case round =>
    obtain ⟨k, W, hk, rfl, hWl, hWk, hg, ho, hbe⟩ := hrel
    have HWL := Lib.hid hWl
    have HWK := Lib.hid hWk
    have HG := Lib.hid hg
    have HO := Lib.hid ho
    have HB := Lib.hid hbe
    clear hWl hWk hg ho hbe
    by_cases hlt : k < 64
    · obtain ⟨j, r, hj, hr, hkj⟩ : ∃ j r, j < 16 ∧ r < 4 ∧ k = 4 * j + r := ⟨k / 4, k % 4, by omega, by omega, by omega⟩
      have cb : wr.cell? (ad.add k) = some (.int .u8 (L.getD k 0)) := by
        have h1 := HC.out k hlt
        exact pw_cell_below HB.out h1
      have cw : wr.cell? ⟨w.heap.size + 1, j, none⟩ = some (.int .u32 (wk L k j)) := by
        rw [← HWK.out j hj]; exact cell_row HG.out j _ (nums_get _ _ _ (by have := HWL.out; omega))
      have fw' : wr.frozen? ⟨w.heap.size + 1, j, none⟩ = false := frozen_of_row _ _ _ _ _ HG.out
      have hx := HLB.out k
      have hwl : (W.set j (wk L (k + 1) j)).length = 16 := by simp [HWL.out]
      have hset := fun i (hi : i < 16) => getD_set (j := i) (v := wk L (k + 1) j) (show j < W.length by have := HWL.out; omega)
      have hnew : ∀ i, i < 16 → (W.set j (wk L (k + 1) j)).getD i 0 = wk L (k + 1) i := by
        intro i hi
        rw [hset i hi]
        split
        · rename_i h; rw [h]
        · rename_i h; rw [wk_other L k i (by omega)]; exact HWK.out i hi
      have hrow := heap_set_row HG.out j (.int .u32 (wk L (k + 1) j))
      rw [show (nums .u32 W).set j (.int .u32 (wk L (k + 1) j)) = nums .u32 (W.set j (wk L (k + 1) j)) by simp [nums, List.map_set]] at hrow
      have HN := Lib.hid hnew
      have HNL := Lib.hid hwl
      have HR := Lib.hid hrow
      clear hnew hwl hset hrow
      have h0 := HLB.out (4 * j)
      have h1 := HLB.out (4 * j + 1)
      have h2 := HLB.out (4 * j + 2)
      have hk4 : (k : Int) / 4 = (j : Int) := by omega
      rcases (by omega : r = 0 ∨ r = 1 ∨ r = 2 ∨ r = 3) with rfl | rfl | rfl | rfl
      · have hw0 : wk L k j = 0 := by unfold wk; rw [if_neg (by omega), if_neg (by omega), if_neg (by omega), if_neg (by omega)]; omega
        have hw1 : wk L (k + 1) j = L.getD k 0 := by unfold wk; rw [if_pos (by omega), if_neg (by omega), if_neg (by omega), if_neg (by omega), show 4 * j = k by omega]; first | done | omega
        have hor := or_0 _ hx
        rw [hw0] at cw
        rw [hw1] at HN HNL HR
        have hm4 : (k : Int) % 4 = 0 := by omega
        generalize L.getD k 0 = x at *
        clear h0 h1 h2 hw0 hw1 hkj
        go_wp2_with fail
        go_region
        go_wp2_with fail
        refine ⟨⟨k + 1, _, by omega, by go_num, HNL.out, HN.out, HR.out, fun b hb => (heap_setCell_other wr ⟨w.heap.size + 1, j, none⟩ b _ hb).trans (HO.out b hb), HB.out.trans ⟨rfl, rfl, rfl, by simp [World.setCell, World.drew], fun q hq => heap_setCell_other wr ⟨w.heap.size + 1, j, none⟩ q _ (by simp; omega)⟩⟩, ?_⟩
        simp [intOf]; omega
      · have hw0 : wk L k j = L.getD (4 * j) 0 := by unfold wk; rw [if_pos (by omega), if_neg (by omega), if_neg (by omega), if_neg (by omega)]; omega
        have hw1 : wk L (k + 1) j = L.getD (4 * j) 0 + L.getD k 0 * 256 := by unfold wk; rw [if_pos (by omega), if_pos (by omega), if_neg (by omega), if_neg (by omega), show 4 * j + 1 = k by omega]; first | done | omega
        have hor := or_8 (L.getD (4 * j) 0) (L.getD k 0) (by omega) hx
        rw [hw0] at cw
        rw [hw1] at HN HNL HR
        have hm4 : (k : Int) % 4 = 1 := by omega
        generalize L.getD k 0 = x at *
        generalize L.getD (4 * j) 0 = y at *
        clear h0 h1 h2 hw0 hw1 hkj
        go_wp2_with fail
        go_region
        go_wp2_with fail
        refine ⟨⟨k + 1, _, by omega, by go_num, HNL.out, HN.out, HR.out, fun b hb => (heap_setCell_other wr ⟨w.heap.size + 1, j, none⟩ b _ hb).trans (HO.out b hb), HB.out.trans ⟨rfl, rfl, rfl, by simp [World.setCell, World.drew], fun q hq => heap_setCell_other wr ⟨w.heap.size + 1, j, none⟩ q _ (by simp; omega)⟩⟩, ?_⟩
        simp [intOf]; omega
      · have hw0 : wk L k j = L.getD (4 * j) 0 + L.getD (4 * j + 1) 0 * 256 := by unfold wk; rw [if_pos (by omega), if_pos (by omega), if_neg (by omega), if_neg (by omega)]; omega
        have hw1 : wk L (k + 1) j = L.getD (4 * j) 0 + L.getD (4 * j + 1) 0 * 256 + L.getD k 0 * 65536 := by unfold wk; rw [if_pos (by omega), if_pos (by omega), if_pos (by omega), if_neg (by omega), show 4 * j + 2 = k by omega]; first | done | omega
        have hor := or_16 (L.getD (4 * j) 0 + L.getD (4 * j + 1) 0 * 256) (L.getD k 0) (by omega) hx
        rw [hw0] at cw
        rw [hw1] at HN HNL HR
        have hm4 : (k : Int) % 4 = 2 := by omega
        generalize L.getD k 0 = x at *
        generalize L.getD (4 * j) 0 + L.getD (4 * j + 1) 0 * 256 = y at *
        clear h0 h1 h2 hw0 hw1 hkj
        go_wp2_with fail
        go_region
        go_wp2_with fail
        refine ⟨⟨k + 1, _, by omega, by go_num, HNL.out, HN.out, HR.out, fun b hb => (heap_setCell_other wr ⟨w.heap.size + 1, j, none⟩ b _ hb).trans (HO.out b hb), HB.out.trans ⟨rfl, rfl, rfl, by simp [World.setCell, World.drew], fun q hq => heap_setCell_other wr ⟨w.heap.size + 1, j, none⟩ q _ (by simp; omega)⟩⟩, ?_⟩
        simp [intOf]; omega
      · have hw0 : wk L k j = L.getD (4 * j) 0 + L.getD (4 * j + 1) 0 * 256 + L.getD (4 * j + 2) 0 * 65536 := by unfold wk; rw [if_pos (by omega), if_pos (by omega), if_pos (by omega), if_neg (by omega)]; omega
        have hw1 : wk L (k + 1) j = L.getD (4 * j) 0 + L.getD (4 * j + 1) 0 * 256 + L.getD (4 * j + 2) 0 * 65536 + L.getD k 0 * 16777216 := by unfold wk; rw [if_pos (by omega), if_pos (by omega), if_pos (by omega), if_pos (by omega), show 4 * j + 3 = k by omega]; first | done | omega
        have hor := or_24 (L.getD (4 * j) 0 + L.getD (4 * j + 1) 0 * 256 + L.getD (4 * j + 2) 0 * 65536) (L.getD k 0) (by omega) hx
        rw [hw0] at cw
        rw [hw1] at HN HNL HR
        have hm4 : (k : Int) % 4 = 3 := by omega
        generalize L.getD k 0 = x at *
        generalize L.getD (4 * j) 0 + L.getD (4 * j + 1) 0 * 256 + L.getD (4 * j + 2) 0 * 65536 = y at *
        clear h0 h1 h2 hw0 hw1 hkj
        go_wp2_with fail
        go_region
        go_wp2_with fail
        refine ⟨⟨k + 1, _, by omega, by go_num, HNL.out, HN.out, HR.out, fun b hb => (heap_setCell_other wr ⟨w.heap.size + 1, j, none⟩ b _ hb).trans (HO.out b hb), HB.out.trans ⟨rfl, rfl, rfl, by simp [World.setCell, World.drew], fun q hq => heap_setCell_other wr ⟨w.heap.size + 1, j, none⟩ q _ (by simp; omega)⟩⟩, ?_⟩
        simp [intOf]; omega
    · obtain rfl : k = 64 := by omega
      have hW : W = fromL L := by
        apply List.ext_getElem (by simp [HWL.out, fromL])
        intro i h1 h2
        have h3 := HWK.out i (by have := HWL.out; omega)
        rw [wk_full L i (by have := HWL.out; omega), ← fromL_get L i (by have := HWL.out; omega)] at h3
        simpa [List.getD_eq_getElem?_getD, List.getElem?_eq_getElem h1, List.getElem?_eq_getElem h2] using h3
      subst hW
      have HOF := Lib.hid (of_calls (fromL L) HWL.out (fromL_u32 L HLB.out))
      have HWI := Lib.hid (info_words (fromL L) HWL.out)
      have G0 := Lib.hid ((HO.out _ (show w.heap.size ≠ w.heap.size + 1 by omega)).trans Q0.out)
      have HOI := Lib.hid (show (Try.prog.info? 26).map (·.size) = some (ofRow (fromL L)).size from info_data _ _ _ _ _ _ _ _ _)
      have HOO := Lib.hid (show ∀ v ∈ (ofRow (fromL L)).toList, v.oneCell' = true from one_data _ _ _ _ _ _ _ _ _)
      have HSR := Lib.hid (show (9 : Nat) = (ofRow (fromL L)).size from rfl)
      unfold ofL at HOF
      generalize hRR : ofRow (fromL L) = R at *
      have HRR := Lib.hid hRR
      clear hRR
      generalize hN : (nums .u32 (fromL L)).toArray = N at *
      go_wp2_with (refine wpList_load_row rfl 55 (.tmp 4) rfl (w.heap.size + 1) rfl _ _ _ _ HG.out Try.underlying55 rfl HWI.out ?_)
      refine (HOF.out _).mono ?_
      rintro e w4 ⟨rfl, hb⟩
      have G4 := Lib.hid (blk_below G0.out hb)
      have HB4 := Lib.hid (HB.out.trans (hb.mono HB.out.size))
      clear hb
      go_wp2_with (refine wpList_store_row rfl 26 (.tmp 2) (.tmp 38) rfl rfl w.heap.size rfl R rfl _ _ G4.out HSR.out HOI.out HOO.out ?_)
      have hfin := heap_setRow_same w4 w.heap.size R _ 26 _ G4.out
      refine bodyPost_ret (results_ct rfl _ _ w.heap.size _ _ _ _ rfl hfin Try.underlying26 rfl HOI.out) rfl ?_
      exact ⟨by unfold ofL; rw [HRR.out]; rfl, HB4.out.trans ⟨rfl, rfl, rfl, by simp [World.setRow], fun k hk => heap_setRow_other _ _ _ _ (by omega)⟩⟩
end Go.Proofs.Ytgfmeiddicodoaa.H
