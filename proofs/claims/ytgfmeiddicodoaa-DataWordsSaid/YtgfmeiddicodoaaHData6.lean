/-
With: the walk.
-/
import Derived.Test.YtgfmeiddicodoaaProg
import Derived.WalkKit
import Derived.WalkSpells
import Derived.WalkLawsBesides
import Derived.Handy
import Derived.Lib.Hide
import Derived.Deep.QuietTactic
import Derived.BigQuiet
import Derived.Test.YtgfmeiddicodoaaHData4
set_option linter.unusedVariables false
set_option linter.unusedSimpArgs false
namespace Go.Proofs.Ytgfmeiddicodoaa.H
open Go.RowKit Go.Proofs.YtgfmeiddicodoaaW.PrintWords

/-- The record of sixteen words. -/
def ofRow (ws : List Int) : Array Value := #[.int .u32 (ws.getD 0 0), .int .u32 (ws.getD 1 0), .int .u64 (arg2 ws 2), .int .u64 (arg2 ws 4), .int .u64 (arg2 ws 6), .int .u64 (arg2 ws 8), .int .u64 (arg2 ws 10), .int .u64 (arg2 ws 12), .int .u64 (arg2 ws 14)]
def ofL (ws : List Int) : Value := .agg (ofRow ws)
theorem of_calls (ws : List Int) (hl : ws.length = 16) (hu : U32s ws) (w : World) :
    Calls Try.prog 42 #[.agg (nums .u32 ws).toArray] w fun e w' => e = .returned (ofL ws) ∧ Below w.heap.size w w' := of_walk ws hl hu w

/-- The record's words, one of them set. -/
def withL (x0 x1 x2 x3 x4 x5 x6 x7 x8 p v : Int) : List Int := if thereB p = true then (wordsL x0 x1 x2 [x3, x4, x5, x6, x7, x8]).set (p / 4).toNat v else wordsL x0 x1 x2 [x3, x4, x5, x6, x7, x8]

theorem ofL_words (x0 x1 x2 x3 x4 x5 x6 x7 x8 : Int) : ofL (wordsL x0 x1 x2 [x3, x4, x5, x6, x7, x8]) = .agg #[.int .u32 x0, .int .u32 x1, .int .u64 x2, .int .u64 x3, .int .u64 x4, .int .u64 x5, .int .u64 x6, .int .u64 x7, .int .u64 x8] := by
  simp only [ofL, ofRow, arg2, wordsL, List.getD_cons_zero, List.getD_cons_succ]
  rw [show x2 % 4294967296 + x2 / 4294967296 * 4294967296 = x2 by omega, show x3 % 4294967296 + x3 / 4294967296 * 4294967296 = x3 by omega, show x4 % 4294967296 + x4 / 4294967296 * 4294967296 = x4 by omega, show x5 % 4294967296 + x5 / 4294967296 * 4294967296 = x5 by omega,
    show x6 % 4294967296 + x6 / 4294967296 * 4294967296 = x6 by omega, show x7 % 4294967296 + x7 / 4294967296 * 4294967296 = x7 by omega, show x8 % 4294967296 + x8 / 4294967296 * 4294967296 = x8 by omega]

theorem getD_set {ws : List Int} {i j : Nat} {v : Int} (hi : i < ws.length) : (ws.set i v).getD j 0 = if i = j then v else ws.getD j 0 := by
  simp only [List.getD_eq_getElem?_getD, List.getElem?_set]
  split
  · subst_vars; simp [hi]
  · rfl

theorem U32s_set {ws : List Int} {i : Nat} {v : Int} (h : U32s ws) (hv : 0 ≤ v ∧ v < 4294967296) (hi : i < ws.length) : U32s (ws.set i v) := by
  intro j
  rw [getD_set hi]
  split
  · exact hv
  · exact h j

theorem alloc2d (w : World) (A B : Obj) : ((w.alloc A).alloc B).heap[w.heap.size]? = some A ∧ ((w.alloc A).alloc B).heap[w.heap.size + 1]? = some B ∧ ((w.alloc A).alloc B).heap.size = w.heap.size + 2 ∧ Below w.heap.size w ((w.alloc A).alloc B) :=
  ⟨heap_alloc2_old w A B, heap_alloc2_new w A B, by simp, ((Below.refl _ _).alloc (Nat.le_refl _) _).alloc (by simp) _⟩
theorem info_data (v0 v1 v2 v3 v4 v5 v6 v7 v8 : Value) : (Try.prog.info? 26).map (·.size) = some (#[v0, v1, v2, v3, v4, v5, v6, v7, v8] : Array Value).size := by
  rw [show (#[v0, v1, v2, v3, v4, v5, v6, v7, v8] : Array Value).size = 9 from rfl]; kernel_rfl
theorem one_data (x0 x1 x2 x3 x4 x5 x6 x7 x8 : Int) : ∀ v ∈ (#[.int .u32 x0, .int .u32 x1, .int .u64 x2, .int .u64 x3, .int .u64 x4, .int .u64 x5, .int .u64 x6, .int .u64 x7, .int .u64 x8] : Array Value).toList, v.oneCell' = true := by
  intro v hv
  simp at hv
  rcases hv with rfl | rfl | rfl | rfl | rfl | rfl | rfl | rfl | rfl <;> rfl
theorem info_words (ws : List Int) (h : ws.length = 16) : (Try.prog.info? 55).map (·.size) = some (nums .u32 ws).toArray.size := by
  rw [show (nums .u32 ws).toArray.size = 16 from by simp [nums, h]]; kernel_rfl

set_option maxHeartbeats 2000000 in
theorem With_walk (x0 x1 x2 x3 x4 x5 x6 x7 x8 p v : Int) (hd : IsD x0 x1 x2 [x3, x4, x5, x6, x7, x8]) (hp : 0 ≤ p ∧ p < 4294967296) (hv : 0 ≤ v ∧ v < 4294967296) (w : World) :
    Calls Try.prog 30 #[.agg #[.int .u32 x0, .int .u32 x1, .int .u64 x2, .int .u64 x3, .int .u64 x4, .int .u64 x5, .int .u64 x6, .int .u64 x7, .int .u64 x8], .int .u32 p, .int .u32 v] w fun e w' => e = .returned (ofL (withL x0 x1 x2 x3 x4 x5 x6 x7 x8 p v)) ∧ Below w.heap.size w w' := by
  unfold withL
  have HD := Lib.hid hd
  have HT := Lib.hid (there_walk p hp)
  have HI := Lib.hid (info_data (.int .u32 x0) (.int .u32 x1) (.int .u64 x2) (.int .u64 x3) (.int .u64 x4) (.int .u64 x5) (.int .u64 x6) (.int .u64 x7) (.int .u64 x8))
  have HO := Lib.hid (one_data x0 x1 x2 x3 x4 x5 x6 x7 x8)
  obtain ⟨q0, q1, q2, q3⟩ := alloc2d w (.cells #[.int .u32 x0, .int .u32 x1, .int .u64 x2, .int .u64 x3, .int .u64 x4, .int .u64 x5, .int .u64 x6, .int .u64 x7, .int .u64 x8] 26) (.cells #[.int .u32 0, .int .u32 0, .int .u64 0, .int .u64 0, .int .u64 0, .int .u64 0, .int .u64 0, .int .u64 0, .int .u64 0] 26)
  have Q0 := Lib.hid q0
  have Q1 := Lib.hid q1
  have Q2 := Lib.hid q2
  have Q3 := Lib.hid q3
  clear q0 q1 q2 q3
  cases ht : thereB p with
  | false =>
    rw [ht] at HT
    clear ht hd
    rw [if_neg (by decide), ofL_words]
    go_enter Try.func30, Try.ntmps30
    go_wp2_with fail
    refine (HT.out _).mono ?_
    rintro e w1 ⟨rfl, hb⟩
    have G0 := Lib.hid (blk_below Q0.out hb)
    have G1 := Lib.hid (blk_below Q1.out hb)
    have HB := Lib.hid (Q3.out.trans (hb.mono Q3.out.size))
    clear hb
    go_wp2_with (first | (refine wpList_load_row rfl 26 (.tmp 3) rfl (w.heap.size) rfl _ _ _ _ G0.out Try.underlying26 rfl HI.out ?_) | (refine wpList_store_row rfl 26 (.tmp 6) (.tmp 11) rfl rfl (w.heap.size + 1) rfl #[.int .u32 x0, .int .u32 x1, .int .u64 x2, .int .u64 x3, .int .u64 x4, .int .u64 x5, .int .u64 x6, .int .u64 x7, .int .u64 x8] rfl _ _ G1.out rfl HI.out HO.out ?_))
    have hfin := heap_setRow_same w1 (w.heap.size + 1) #[.int .u32 x0, .int .u32 x1, .int .u64 x2, .int .u64 x3, .int .u64 x4, .int .u64 x5, .int .u64 x6, .int .u64 x7, .int .u64 x8] _ 26 _ G1.out
    refine bodyPost_ret (results_cell_row rfl _ _ (w.heap.size + 1) _ _ _ _ rfl hfin Try.underlying26 rfl HI.out) rfl ?_
    exact ⟨rfl, HB.out.trans ⟨rfl, rfl, rfl, by simp [World.setRow], fun k hk => heap_setRow_other _ _ _ _ (by omega)⟩⟩
  | true =>
    rw [ht] at HT
    have h64 : p < 64 := by simp [thereB] at ht; omega
    clear ht
    rw [if_pos rfl]
    have hwl : (wordsL x0 x1 x2 [x3, x4, x5, x6, x7, x8]).length = 16 := rfl
    have HWA := Lib.hid (fun w => words_walk x0 x1 x2 [x3, x4, x5, x6, x7, x8] rfl w hd.nr hd.ar hd.ip hd.ags)
    have HU := Lib.hid hd.words
    clear hd
    generalize hws : wordsL x0 x1 x2 [x3, x4, x5, x6, x7, x8] = ws at *
    have HL := Lib.hid hwl
    have HWI := Lib.hid (info_words ws hwl)
    have HWI2 := Lib.hid (info_words (ws.set (p / 4).toNat v) (by simp [hwl]))
    have HWO := Lib.hid (oneCell_nums .u32 ws)
    have HOF := Lib.hid (of_calls (ws.set (p / 4).toNat v) (by simp [hwl]) (U32s_set HU.out hv (by omega)))
    have e4 : 0 ≤ p / 4 ∧ p / 4 < 16 := by omega
    have HSZ := Lib.hid (show 16 = (nums .u32 ws).toArray.size by simp [nums, hwl])
    have HLL := Lib.hid hwl
    clear hwl hws HL HU
    go_enter Try.func30, Try.ntmps30
    go_wp2_with fail
    refine (HT.out _).mono ?_
    rintro e w1 ⟨rfl, hb⟩
    have G0 := Lib.hid (blk_below Q0.out hb)
    have G1 := Lib.hid (blk_below Q1.out hb)
    have HB := Lib.hid (Q3.out.trans (hb.mono Q3.out.size))
    clear hb
    go_wp2_with (refine wpList_load_row rfl 26 (.tmp 3) rfl (w.heap.size) rfl _ _ _ _ G0.out Try.underlying26 rfl HI.out ?_)
    refine (HWA.out _).mono ?_
    rintro e w2 ⟨rfl, hb⟩
    have G2 := Lib.hid (blk_below G1.out hb)
    have HB2 := Lib.hid (HB.out.trans (hb.mono HB.out.size))
    clear hb
    obtain ⟨W3, hW3⟩ : ∃ W3, (w2.alloc (Obj.cells #[Value.int .u32 0, Value.int .u32 0, Value.int .u32 0, Value.int .u32 0, Value.int .u32 0, Value.int .u32 0, Value.int .u32 0, Value.int .u32 0, Value.int .u32 0, Value.int .u32 0, Value.int .u32 0, Value.int .u32 0, Value.int .u32 0, Value.int .u32 0, Value.int .u32 0, Value.int .u32 0] 55)).setRow w2.heap.size (nums .u32 ws).toArray = W3 := ⟨_, rfl⟩
    have r3 := heap_setRow_same (w2.alloc (Obj.cells #[Value.int .u32 0, Value.int .u32 0, Value.int .u32 0, Value.int .u32 0, Value.int .u32 0, Value.int .u32 0, Value.int .u32 0, Value.int .u32 0, Value.int .u32 0, Value.int .u32 0, Value.int .u32 0, Value.int .u32 0, Value.int .u32 0, Value.int .u32 0, Value.int .u32 0, Value.int .u32 0] 55)) w2.heap.size (nums .u32 ws).toArray _ _ _ (heap_alloc_new w2 (Obj.cells #[Value.int .u32 0, Value.int .u32 0, Value.int .u32 0, Value.int .u32 0, Value.int .u32 0, Value.int .u32 0, Value.int .u32 0, Value.int .u32 0, Value.int .u32 0, Value.int .u32 0, Value.int .u32 0, Value.int .u32 0, Value.int .u32 0, Value.int .u32 0, Value.int .u32 0, Value.int .u32 0] 55))
    rw [hW3] at r3
    have b3 : Below w2.heap.size w2 W3 := by rw [← hW3]; exact ((Below.refl _ _).alloc (Nat.le_refl _) _).trans ⟨rfl, rfl, rfl, by simp, fun k hk => heap_setRow_other _ _ _ _ (by omega)⟩
    have s3 : W3.heap.size = w2.heap.size + 1 := by rw [← hW3]; simp
    have c3 : W3.cell? ⟨w2.heap.size, (p / 4).toNat, none⟩ = some (.int .u32 (ws.getD (p / 4).toNat 0)) := cell_row r3 _ _ (nums_get _ _ _ (by have := HLL.out; omega))
    have f3 : W3.frozen? ⟨w2.heap.size, (p / 4).toNat, none⟩ = false := frozen_of_row _ _ _ _ _ r3
    generalize ws.getD (p / 4).toNat 0 = old at *
    have HW3 := Lib.hid hW3
    have R3 := Lib.hid r3
    have B3 := Lib.hid b3
    have S3 := Lib.hid s3
    have G3 := Lib.hid (blk_below G2.out b3)
    clear hW3 r3 b3 s3
    have r4 := heap_set_row R3.out (p / 4).toNat (.int .u32 v)
    rw [show (nums .u32 ws).set (p / 4).toNat (.int .u32 v) = nums .u32 (ws.set (p / 4).toNat v) by simp [nums, List.map_set]] at r4
    have R4 := Lib.hid r4
    clear r4
    go_wp2_with (first | (refine wpList_store_row rfl 55 (.tmp 7) (.tmp 13) rfl rfl w2.heap.size rfl (nums .u32 ws).toArray rfl _ _ (heap_alloc_new _ _) HSZ.out HWI.out HWO.out ?_; rw [HW3.out]) | (refine wpList_load_row rfl 55 (.tmp 7) rfl (w2.heap.size) rfl _ _ _ _ R4.out Try.underlying55 rfl HWI2.out ?_))
    refine (HOF.out _).mono ?_
    rintro e w4 ⟨rfl, hb⟩
    have hne : w.heap.size + 1 ≠ w2.heap.size := by have := (blk_lt G2.out); omega
    have G4 := Lib.hid (blk_below ((heap_setCell_other W3 ⟨w2.heap.size, (p / 4).toNat, none⟩ (w.heap.size + 1) (.int .u32 v) hne).trans G3.out) hb)
    have hle := HB2.out.size
    have HB4 := Lib.hid ((HB2.out.trans (B3.out.mono hle)).trans ((show Below w.heap.size W3 (W3.setCell ⟨w2.heap.size, (p / 4).toNat, none⟩ (.int .u32 v)) from ⟨rfl, rfl, rfl, by simp [World.setCell], fun k hk => heap_setCell_other _ _ _ _ (by simp; omega)⟩).trans (hb.mono (by have := S3.out; simp [World.setCell]; omega))))
    clear hb hle hne
    generalize hQ : ws.set (p / 4).toNat v = qs at *
    have HQ := Lib.hid hQ
    clear hQ
    have HOI := Lib.hid (show (Try.prog.info? 26).map (·.size) = some (ofRow qs).size from info_data _ _ _ _ _ _ _ _ _)
    have HOO := Lib.hid (show ∀ v ∈ (ofRow qs).toList, v.oneCell' = true from one_data _ _ _ _ _ _ _ _ _)
    go_wp2_with (refine wpList_store_row rfl 26 (.tmp 6) (.tmp 19) rfl rfl (w.heap.size + 1) rfl (ofRow qs) rfl _ _ G4.out rfl HOI.out HOO.out ?_)
    have hfin := heap_setRow_same w4 (w.heap.size + 1) (ofRow qs) _ 26 _ G4.out
    refine bodyPost_ret (results_cell_row rfl _ _ (w.heap.size + 1) _ _ _ _ rfl hfin Try.underlying26 rfl HOI.out) rfl ?_
    exact ⟨by rw [HQ.out]; rfl, HB4.out.trans ⟨rfl, rfl, rfl, by simp [World.setRow], fun k hk => heap_setRow_other _ _ _ _ (by omega)⟩⟩

theorem words_of (qs : List Int) (hl : qs.length = 16) (hu : U32s qs) : wordsL (qs.getD 0 0) (qs.getD 1 0) (arg2 qs 2) [arg2 qs 4, arg2 qs 6, arg2 qs 8, arg2 qs 10, arg2 qs 12, arg2 qs 14] = qs := by
  have key : ∀ i, arg2 qs i % 4294967296 = qs.getD i 0 ∧ arg2 qs i / 4294967296 = qs.getD (i + 1) 0 := by
    intro i
    have h1 := hu i
    have h2 := hu (i + 1)
    unfold arg2
    omega
  unfold wordsL
  simp only [List.getD_cons_zero, List.getD_cons_succ, (key 2).1, (key 2).2, (key 4).1, (key 4).2, (key 6).1, (key 6).2, (key 8).1, (key 8).2, (key 10).1, (key 10).2, (key 12).1, (key 12).2, (key 14).1, (key 14).2]
  match qs, hl with
  | [q0, q1, q2, q3, q4, q5, q6, q7, q8, q9, q10, q11, q12, q13, q14, q15], _ => rfl
theorem isD_of (qs : List Int) (hu : U32s qs) : IsD (qs.getD 0 0) (qs.getD 1 0) (arg2 qs 2) [arg2 qs 4, arg2 qs 6, arg2 qs 8, arg2 qs 10, arg2 qs 12, arg2 qs 14] := by
  have key : ∀ i, 0 ≤ arg2 qs i ∧ arg2 qs i < 18446744073709551616 := by
    intro i
    have h1 := hu i
    have h2 := hu (i + 1)
    unfold arg2
    omega
  refine ⟨rfl, hu 0, hu 1, key 2, fun k hk => ?_⟩
  rcases (by omega : k = 0 ∨ k = 1 ∨ k = 2 ∨ k = 3 ∨ k = 4 ∨ k = 5) with rfl | rfl | rfl | rfl | rfl | rfl
  · exact key 4
  · exact key 6
  · exact key 8
  · exact key 10
  · exact key 12
  · exact key 14
def wordOf (qs : List Int) (p : Int) : Int := if thereB p = true then qs.getD (p / 4).toNat 0 else 0
theorem Word_of (qs : List Int) (hl : qs.length = 16) (hu : U32s qs) (p : Int) (hp : 0 ≤ p ∧ p < 4294967296) (w : World) :
    Calls Try.prog 15 #[ofL qs, .int .u32 p] w fun e w' => e = .returned (.tuple #[.int .u32 (wordOf qs p), .bool (thereB p)]) ∧ Below w.heap.size w w' := by
  have h := Word_walk _ _ _ _ _ _ _ _ _ (isD_of qs hu) p hp w
  unfold wordI at h
  rw [words_of qs hl hu] at h
  exact h
theorem withL_length (x0 x1 x2 x3 x4 x5 x6 x7 x8 p v : Int) : (withL x0 x1 x2 x3 x4 x5 x6 x7 x8 p v).length = 16 := by
  unfold withL; split <;> simp [wordsL]
theorem withL_u32 (x0 x1 x2 x3 x4 x5 x6 x7 x8 p v : Int) (hd : IsD x0 x1 x2 [x3, x4, x5, x6, x7, x8]) (hp : 0 ≤ p) (hv : 0 ≤ v ∧ v < 4294967296) : U32s (withL x0 x1 x2 x3 x4 x5 x6 x7 x8 p v) := by
  unfold withL
  split
  · rename_i h
    exact U32s_set hd.words hv (by simp [thereB] at h; simp [wordsL]; omega)
  · exact hd.words
end Go.Proofs.Ytgfmeiddicodoaa.H
