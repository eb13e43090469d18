/-
Package affine: the other functions.
-/
import Derived.Test.YtocofkkkblelgaaProg
import Derived.WalkKit
import Derived.WalkSpells
import Derived.WalkLawsBesides
import Derived.Handy
import Derived.Lib.Hide
import Derived.Deep.QuietTactic
import Derived.BigQuiet
import Derived.StillTailTactics
import Derived.Test.YtocofkkkblelgaaHArr
import Derived.Test.YtocofkkkblelgaaHAff3
import Derived.Test.YtocofkkkblelgaaWWords
set_option linter.unusedVariables false
set_option linter.unusedSimpArgs false
namespace Go.Proofs.Ytocofkkkblelgaa.H
open Go.RowKit Go.Proofs.YtocofkkkblelgaaW.PrintWords



def z34 : List Int := List.replicate 34 0
theorem z34_len : z34.length = 34 := by simp [z34]
theorem nums_set (k : IntKind) (l : List Int) (i : Nat) (v : Int) : (nums k l).set i (.int k v) = nums k (l.set i v) := by simp [nums, List.map_set]

set_option maxHeartbeats 1000000 in
theorem Const_walk (c : Int) (w : World) :
    Calls Try.prog 17 #[.int .u32 c] w fun e w' => e = .returned (FV c z34) ∧ Below w.heap.size w w' := by
  have HI := Lib.hid (info_form c z34 z34_len)
  have HS := Lib.hid (size_form c z34 z34_len)
  have ONE := Lib.hid (oneCell_nums .u32 (c :: z34))
  go_enter Try.func17, Try.ntmps17
  go_wp2_with (refine wpList_store_row rfl 25 (.tmp 2) (.tmp 4) rfl rfl w.heap.size rfl (Value.int .u32 c :: nums .u32 z34).toArray rfl _ _ (heap_alloc_new _ _) HS.out.symm HI.out ONE.out ?_)
  have hfin := heap_setRow_same (w.alloc (Obj.cells #[Value.int .u32 0, Value.int .u32 0, Value.int .u32 0, Value.int .u32 0, Value.int .u32 0, Value.int .u32 0, Value.int .u32 0, Value.int .u32 0, Value.int .u32 0, Value.int .u32 0, Value.int .u32 0, Value.int .u32 0, Value.int .u32 0, Value.int .u32 0, Value.int .u32 0, Value.int .u32 0, Value.int .u32 0, Value.int .u32 0, Value.int .u32 0, Value.int .u32 0, Value.int .u32 0, Value.int .u32 0, Value.int .u32 0, Value.int .u32 0, Value.int .u32 0, Value.int .u32 0, Value.int .u32 0, Value.int .u32 0, Value.int .u32 0, Value.int .u32 0, Value.int .u32 0, Value.int .u32 0, Value.int .u32 0, Value.int .u32 0, Value.int .u32 0] 25)) w.heap.size (Value.int .u32 c :: nums .u32 z34).toArray _ 25 _ (heap_alloc_new _ _)
  refine bodyPost_ret (results_cell_row rfl _ _ w.heap.size _ _ _ _ rfl hfin Try.underlying25 rfl HI.out) rfl ?_
  exact ⟨rfl, ((Below.refl _ _).alloc (Nat.le_refl _) _).trans ⟨rfl, rfl, rfl, by simp [World.setRow], fun k hk => heap_setRow_other _ _ _ _ (by omega)⟩⟩

theorem Var_bad (i : Int) (hi : i < 0 ∨ 34 ≤ i) (w : World) :
    Calls Try.prog 9 #[.int .i64 i] w fun e w' => e = .returned (.tuple #[FV 0 z34, .int .i64 1]) ∧ Below w.heap.size w w' := by
  have HI := Lib.hid (info_form 0 z34 z34_len)
  have HS := Lib.hid (size_form 0 z34 z34_len)
  have ONE := Lib.hid (oneCell_nums .u32 (0 :: z34))
  by_cases h0 : i < 0
  · clear hi
    go_enter Try.func9, Try.ntmps9
    go_wp2_with (refine wpList_store_row rfl 25 (.tmp 2) (.tmp 11) rfl rfl w.heap.size rfl (Value.int .u32 0 :: nums .u32 z34).toArray rfl _ _ (heap_alloc_new _ _) HS.out.symm HI.out ONE.out ?_)
    have hfin := heap_setRow_same (w.alloc (Obj.cells #[Value.int .u32 0, Value.int .u32 0, Value.int .u32 0, Value.int .u32 0, Value.int .u32 0, Value.int .u32 0, Value.int .u32 0, Value.int .u32 0, Value.int .u32 0, Value.int .u32 0, Value.int .u32 0, Value.int .u32 0, Value.int .u32 0, Value.int .u32 0, Value.int .u32 0, Value.int .u32 0, Value.int .u32 0, Value.int .u32 0, Value.int .u32 0, Value.int .u32 0, Value.int .u32 0, Value.int .u32 0, Value.int .u32 0, Value.int .u32 0, Value.int .u32 0, Value.int .u32 0, Value.int .u32 0, Value.int .u32 0, Value.int .u32 0, Value.int .u32 0, Value.int .u32 0, Value.int .u32 0, Value.int .u32 0, Value.int .u32 0, Value.int .u32 0] 25)) w.heap.size (Value.int .u32 0 :: nums .u32 z34).toArray _ 25 _ (heap_alloc_new _ _)
    refine bodyPost_ret (results_ct rfl _ _ w.heap.size _ _ _ _ rfl hfin Try.underlying25 rfl HI.out) rfl ?_
    exact ⟨rfl, ((Below.refl _ _).alloc (Nat.le_refl _) _).trans ⟨rfl, rfl, rfl, by simp [World.setRow], fun k hk => heap_setRow_other _ _ _ _ (by omega)⟩⟩
  · have h1 : 34 ≤ i := by omega
    clear hi
    go_enter Try.func9, Try.ntmps9
    go_wp2_with (refine wpList_store_row rfl 25 (.tmp 2) (.tmp 11) rfl rfl w.heap.size rfl (Value.int .u32 0 :: nums .u32 z34).toArray rfl _ _ (heap_alloc_new _ _) HS.out.symm HI.out ONE.out ?_)
    have hfin := heap_setRow_same (w.alloc (Obj.cells #[Value.int .u32 0, Value.int .u32 0, Value.int .u32 0, Value.int .u32 0, Value.int .u32 0, Value.int .u32 0, Value.int .u32 0, Value.int .u32 0, Value.int .u32 0, Value.int .u32 0, Value.int .u32 0, Value.int .u32 0, Value.int .u32 0, Value.int .u32 0, Value.int .u32 0, Value.int .u32 0, Value.int .u32 0, Value.int .u32 0, Value.int .u32 0, Value.int .u32 0, Value.int .u32 0, Value.int .u32 0, Value.int .u32 0, Value.int .u32 0, Value.int .u32 0, Value.int .u32 0, Value.int .u32 0, Value.int .u32 0, Value.int .u32 0, Value.int .u32 0, Value.int .u32 0, Value.int .u32 0, Value.int .u32 0, Value.int .u32 0, Value.int .u32 0] 25)) w.heap.size (Value.int .u32 0 :: nums .u32 z34).toArray _ 25 _ (heap_alloc_new _ _)
    refine bodyPost_ret (results_ct rfl _ _ w.heap.size _ _ _ _ rfl hfin Try.underlying25 rfl HI.out) rfl ?_
    exact ⟨rfl, ((Below.refl _ _).alloc (Nat.le_refl _) _).trans ⟨rfl, rfl, rfl, by simp [World.setRow], fun k hk => heap_setRow_other _ _ _ _ (by omega)⟩⟩

theorem alloc2d (w : World) (A B : Obj) : ((w.alloc A).alloc B).heap[w.heap.size]? = some A ∧ ((w.alloc A).alloc B).heap[w.heap.size + 1]? = some B ∧ ((w.alloc A).alloc B).heap.size = w.heap.size + 2 ∧ Below w.heap.size w ((w.alloc A).alloc B) :=
  ⟨heap_alloc2_old w A B, heap_alloc2_new w A B, by simp, ((Below.refl _ _).alloc (Nat.le_refl _) _).alloc (by simp) _⟩

set_option maxHeartbeats 1000000 in
theorem Var_walk (i : Nat) (hi : i < 34) (w : World) :
    Calls Try.prog 9 #[.int .i64 (i : Int)] w fun e w' => e = .returned (.tuple #[FV 0 (z34.set i 1), .int .i64 0]) ∧ Below w.heap.size w w' := by
  have hl : (z34.set i 1).length = 34 := by simp [z34_len]
  have HI := Lib.hid (info_form 0 (z34.set i 1) hl)
  have HS := Lib.hid (size_form 0 (z34.set i 1) hl)
  have ONE := Lib.hid (oneCell_nums .u32 (0 :: z34.set i 1))
  obtain ⟨q0, q1, q2, q3⟩ := alloc2d w (Obj.cells #[Value.int .u32 0, Value.int .u32 0, Value.int .u32 0, Value.int .u32 0, Value.int .u32 0, Value.int .u32 0, Value.int .u32 0, Value.int .u32 0, Value.int .u32 0, Value.int .u32 0, Value.int .u32 0, Value.int .u32 0, Value.int .u32 0, Value.int .u32 0, Value.int .u32 0, Value.int .u32 0, Value.int .u32 0, Value.int .u32 0, Value.int .u32 0, Value.int .u32 0, Value.int .u32 0, Value.int .u32 0, Value.int .u32 0, Value.int .u32 0, Value.int .u32 0, Value.int .u32 0, Value.int .u32 0, Value.int .u32 0, Value.int .u32 0, Value.int .u32 0, Value.int .u32 0, Value.int .u32 0, Value.int .u32 0, Value.int .u32 0, Value.int .u32 0] 25) (Obj.cells #[Value.int .u32 0, Value.int .u32 0, Value.int .u32 0, Value.int .u32 0, Value.int .u32 0, Value.int .u32 0, Value.int .u32 0, Value.int .u32 0, Value.int .u32 0, Value.int .u32 0, Value.int .u32 0, Value.int .u32 0, Value.int .u32 0, Value.int .u32 0, Value.int .u32 0, Value.int .u32 0, Value.int .u32 0, Value.int .u32 0, Value.int .u32 0, Value.int .u32 0, Value.int .u32 0, Value.int .u32 0, Value.int .u32 0, Value.int .u32 0, Value.int .u32 0, Value.int .u32 0, Value.int .u32 0, Value.int .u32 0, Value.int .u32 0, Value.int .u32 0, Value.int .u32 0, Value.int .u32 0, Value.int .u32 0, Value.int .u32 0, Value.int .u32 0] 25)
  have q1' : ((w.alloc (Obj.cells #[Value.int .u32 0, Value.int .u32 0, Value.int .u32 0, Value.int .u32 0, Value.int .u32 0, Value.int .u32 0, Value.int .u32 0, Value.int .u32 0, Value.int .u32 0, Value.int .u32 0, Value.int .u32 0, Value.int .u32 0, Value.int .u32 0, Value.int .u32 0, Value.int .u32 0, Value.int .u32 0, Value.int .u32 0, Value.int .u32 0, Value.int .u32 0, Value.int .u32 0, Value.int .u32 0, Value.int .u32 0, Value.int .u32 0, Value.int .u32 0, Value.int .u32 0, Value.int .u32 0, Value.int .u32 0, Value.int .u32 0, Value.int .u32 0, Value.int .u32 0, Value.int .u32 0, Value.int .u32 0, Value.int .u32 0, Value.int .u32 0, Value.int .u32 0] 25)).alloc (Obj.cells #[Value.int .u32 0, Value.int .u32 0, Value.int .u32 0, Value.int .u32 0, Value.int .u32 0, Value.int .u32 0, Value.int .u32 0, Value.int .u32 0, Value.int .u32 0, Value.int .u32 0, Value.int .u32 0, Value.int .u32 0, Value.int .u32 0, Value.int .u32 0, Value.int .u32 0, Value.int .u32 0, Value.int .u32 0, Value.int .u32 0, Value.int .u32 0, Value.int .u32 0, Value.int .u32 0, Value.int .u32 0, Value.int .u32 0, Value.int .u32 0, Value.int .u32 0, Value.int .u32 0, Value.int .u32 0, Value.int .u32 0, Value.int .u32 0, Value.int .u32 0, Value.int .u32 0, Value.int .u32 0, Value.int .u32 0, Value.int .u32 0, Value.int .u32 0] 25)).heap[w.heap.size + 1]? = some (.cells (Value.int .u32 0 :: nums .u32 z34).toArray 25 (0, 0)) := q1
  have c1 : ((w.alloc (Obj.cells #[Value.int .u32 0, Value.int .u32 0, Value.int .u32 0, Value.int .u32 0, Value.int .u32 0, Value.int .u32 0, Value.int .u32 0, Value.int .u32 0, Value.int .u32 0, Value.int .u32 0, Value.int .u32 0, Value.int .u32 0, Value.int .u32 0, Value.int .u32 0, Value.int .u32 0, Value.int .u32 0, Value.int .u32 0, Value.int .u32 0, Value.int .u32 0, Value.int .u32 0, Value.int .u32 0, Value.int .u32 0, Value.int .u32 0, Value.int .u32 0, Value.int .u32 0, Value.int .u32 0, Value.int .u32 0, Value.int .u32 0, Value.int .u32 0, Value.int .u32 0, Value.int .u32 0, Value.int .u32 0, Value.int .u32 0, Value.int .u32 0, Value.int .u32 0] 25)).alloc (Obj.cells #[Value.int .u32 0, Value.int .u32 0, Value.int .u32 0, Value.int .u32 0, Value.int .u32 0, Value.int .u32 0, Value.int .u32 0, Value.int .u32 0, Value.int .u32 0, Value.int .u32 0, Value.int .u32 0, Value.int .u32 0, Value.int .u32 0, Value.int .u32 0, Value.int .u32 0, Value.int .u32 0, Value.int .u32 0, Value.int .u32 0, Value.int .u32 0, Value.int .u32 0, Value.int .u32 0, Value.int .u32 0, Value.int .u32 0, Value.int .u32 0, Value.int .u32 0, Value.int .u32 0, Value.int .u32 0, Value.int .u32 0, Value.int .u32 0, Value.int .u32 0, Value.int .u32 0, Value.int .u32 0, Value.int .u32 0, Value.int .u32 0, Value.int .u32 0] 25)).cell? ⟨w.heap.size + 1, 1 + i, none⟩ = some (.int .u32 (z34.getD i 0)) := cell_row q1' (1 + i) _ (by rw [Nat.add_comm, List.getElem?_cons_succ]; exact nums_get .u32 z34 i (by rw [z34_len]; omega))
  have f1 : ((w.alloc (Obj.cells #[Value.int .u32 0, Value.int .u32 0, Value.int .u32 0, Value.int .u32 0, Value.int .u32 0, Value.int .u32 0, Value.int .u32 0, Value.int .u32 0, Value.int .u32 0, Value.int .u32 0, Value.int .u32 0, Value.int .u32 0, Value.int .u32 0, Value.int .u32 0, Value.int .u32 0, Value.int .u32 0, Value.int .u32 0, Value.int .u32 0, Value.int .u32 0, Value.int .u32 0, Value.int .u32 0, Value.int .u32 0, Value.int .u32 0, Value.int .u32 0, Value.int .u32 0, Value.int .u32 0, Value.int .u32 0, Value.int .u32 0, Value.int .u32 0, Value.int .u32 0, Value.int .u32 0, Value.int .u32 0, Value.int .u32 0, Value.int .u32 0, Value.int .u32 0] 25)).alloc (Obj.cells #[Value.int .u32 0, Value.int .u32 0, Value.int .u32 0, Value.int .u32 0, Value.int .u32 0, Value.int .u32 0, Value.int .u32 0, Value.int .u32 0, Value.int .u32 0, Value.int .u32 0, Value.int .u32 0, Value.int .u32 0, Value.int .u32 0, Value.int .u32 0, Value.int .u32 0, Value.int .u32 0, Value.int .u32 0, Value.int .u32 0, Value.int .u32 0, Value.int .u32 0, Value.int .u32 0, Value.int .u32 0, Value.int .u32 0, Value.int .u32 0, Value.int .u32 0, Value.int .u32 0, Value.int .u32 0, Value.int .u32 0, Value.int .u32 0, Value.int .u32 0, Value.int .u32 0, Value.int .u32 0, Value.int .u32 0, Value.int .u32 0, Value.int .u32 0] 25)).frozen? ⟨w.heap.size + 1, 1 + i, none⟩ = false := frozen_of_row _ _ _ _ _ q1'
  have heq : ([Value.int .u32 0, Value.int .u32 0, Value.int .u32 0, Value.int .u32 0, Value.int .u32 0, Value.int .u32 0, Value.int .u32 0, Value.int .u32 0, Value.int .u32 0, Value.int .u32 0, Value.int .u32 0, Value.int .u32 0, Value.int .u32 0, Value.int .u32 0, Value.int .u32 0, Value.int .u32 0, Value.int .u32 0, Value.int .u32 0, Value.int .u32 0, Value.int .u32 0, Value.int .u32 0, Value.int .u32 0, Value.int .u32 0, Value.int .u32 0, Value.int .u32 0, Value.int .u32 0, Value.int .u32 0, Value.int .u32 0, Value.int .u32 0, Value.int .u32 0, Value.int .u32 0, Value.int .u32 0, Value.int .u32 0, Value.int .u32 0, Value.int .u32 0].set (1 + i) (Value.int .u32 1)) = (Value.int .u32 0 :: nums .u32 (z34.set i 1)) := by
    rw [Nat.add_comm, List.set_cons_succ, ← nums_set]; rfl
  obtain ⟨p0, p1, p2, p3⟩ := alloc2d w (Obj.cells #[Value.int .u32 0, Value.int .u32 0, Value.int .u32 0, Value.int .u32 0, Value.int .u32 0, Value.int .u32 0, Value.int .u32 0, Value.int .u32 0, Value.int .u32 0, Value.int .u32 0, Value.int .u32 0, Value.int .u32 0, Value.int .u32 0, Value.int .u32 0, Value.int .u32 0, Value.int .u32 0, Value.int .u32 0, Value.int .u32 0, Value.int .u32 0, Value.int .u32 0, Value.int .u32 0, Value.int .u32 0, Value.int .u32 0, Value.int .u32 0, Value.int .u32 0, Value.int .u32 0, Value.int .u32 0, Value.int .u32 0, Value.int .u32 0, Value.int .u32 0, Value.int .u32 0, Value.int .u32 0, Value.int .u32 0, Value.int .u32 0, Value.int .u32 0] 25) (Obj.cells ([Value.int .u32 0, Value.int .u32 0, Value.int .u32 0, Value.int .u32 0, Value.int .u32 0, Value.int .u32 0, Value.int .u32 0, Value.int .u32 0, Value.int .u32 0, Value.int .u32 0, Value.int .u32 0, Value.int .u32 0, Value.int .u32 0, Value.int .u32 0, Value.int .u32 0, Value.int .u32 0, Value.int .u32 0, Value.int .u32 0, Value.int .u32 0, Value.int .u32 0, Value.int .u32 0, Value.int .u32 0, Value.int .u32 0, Value.int .u32 0, Value.int .u32 0, Value.int .u32 0, Value.int .u32 0, Value.int .u32 0, Value.int .u32 0, Value.int .u32 0, Value.int .u32 0, Value.int .u32 0, Value.int .u32 0, Value.int .u32 0, Value.int .u32 0].set (1 + i) (Value.int .u32 1)).toArray 25)
  have p1' := p1.trans (congrArg (fun l : List Value => some (Obj.cells l.toArray 25 (0, 0))) heq)
  generalize z34.getD i 0 = old at *
  have R1 := Lib.hid p1'
  have R0 := Lib.hid p0
  have Q3 := Lib.hid p3
  clear q0 q1 q1' q2 q3 p0 p1 p1' p2 p3 hl heq
  go_enter Try.func9, Try.ntmps9
  go_wp2_with (first | (refine wpList_load_row rfl 25 (.tmp 4) rfl (w.heap.size + 1) rfl _ _ _ _ R1.out Try.underlying25 rfl HI.out ?_) | (refine wpList_store_row rfl 25 (.tmp 2) (.tmp 15) rfl rfl w.heap.size rfl (Value.int .u32 0 :: nums .u32 (z34.set i 1)).toArray rfl _ _ R0.out HS.out.symm HI.out ONE.out ?_))
  have hfin := heap_setRow_same _ w.heap.size (Value.int .u32 0 :: nums .u32 (z34.set i 1)).toArray _ 25 _ R0.out
  refine bodyPost_ret (results_ct rfl _ _ w.heap.size _ _ _ _ rfl hfin Try.underlying25 rfl HI.out) rfl ?_
  exact ⟨rfl, Q3.out.trans ⟨rfl, rfl, rfl, by simp [World.setRow], fun k hk => heap_setRow_other _ _ _ _ (by omega)⟩⟩

def evalN (f0 : Int) (fs vs : List Int) : Nat → Int
  | 0 => f0
  | k + 1 => (evalN f0 fs vs k + fs.getD k 0 * vs.getD k 0 % 4294967296) % 4294967296
theorem evalN_range (f0 : Int) (fs vs : List Int) (h0 : 0 ≤ f0 ∧ f0 < 4294967296) (k : Nat) : 0 ≤ evalN f0 fs vs k ∧ evalN f0 fs vs k < 4294967296 := by
  cases k with
  | zero => exact h0
  | succ k => unfold evalN; omega
theorem idx34 (vs : List Int) (hl : vs.length = 34) (k : Nat) (hk : k < 34) (w : World) :
    (Instr.index 23 (.agg (nums .u32 vs).toArray) (.int .i64 (k : Int))).run Try.prog w = .ok (.int .u32 (vs.getD k 0)) w :=
  run_index_arr Try.underlying23 Try.underlying22 (by kernel_rfl) _ k hk _ (by simp [nums, List.getElem?_eq_getElem (show k < vs.length by omega), List.getD_eq_getElem?_getD]) w

set_option maxHeartbeats 1000000 in
theorem Eval_walk (f0 : Int) (fs vs : List Int) (hf : fs.length = 34) (hv : vs.length = 34) (h0 : 0 ≤ f0 ∧ f0 < 4294967296) (hfu : U32s fs) (hvu : U32s vs) (w : World) :
    Calls Try.prog 23 #[FV f0 fs, .agg (nums .u32 vs).toArray] w fun e w' => e = .returned (.int .u32 (evalN f0 fs vs 34)) ∧ Below w.heap.size w w' := by
  unfold FV
  have HFL := Lib.hid hf
  have HVL := Lib.hid hv
  have HFU := Lib.hid hfu
  have HVU := Lib.hid hvu
  have HER := Lib.hid (evalN_range f0 fs vs h0)
  have HIX := Lib.hid (idx34 fs hf)
  obtain ⟨q0, q1, q2, q3⟩ := alloc2d w (Obj.cells (Value.int .u32 f0 :: nums .u32 fs).toArray 25) (Obj.cells (nums .u32 vs).toArray 23)
  have hsz : (Value.int .u32 f0 :: nums .u32 fs).toArray.size = 35 := size_form f0 fs hf
  have hex : (Value.int .u32 f0 :: nums .u32 fs).toArray.extract 1 (1 + 34) = (nums .u32 fs).toArray := by
    apply Array.ext'
    simp only [Array.toList_extract, List.extract_eq_take_drop, List.drop_succ_cons, List.drop_zero]
    exact List.take_of_length_le (by simp [nums, hf])
  have Q0 := Lib.hid q0
  have Q1 := Lib.hid q1
  have Q3 := Lib.hid q3
  have HSZ := Lib.hid hsz
  have HEX := Lib.hid hex
  clear q0 q1 q2 q3 hsz hex hf hv hfu hvu
  go_enter Try.func23, Try.ntmps23
  go_wp2_with (refine wpList_load_sub rfl 23 (.tmp 10) rfl w.heap.size 1 34 rfl _ _ _ _ Q0.out Try.underlying23 rfl (by kernel_rfl) (by simp [HSZ.out]) ?_; rw [HEX.out])
  generalize hW : (w.alloc (Obj.cells (Value.int .u32 f0 :: nums .u32 fs).toArray 25)).alloc (Obj.cells (nums .u32 vs).toArray 23) = W0 at *
  go_loopw [5, 12] (fun o i wr => ∃ k : Nat, k ≤ 34 ∧ i = .int .i64 (k : Int) ∧ o = .int .u32 (evalN f0 fs vs k) ∧ wr = W0) (fun _ i _ => 34 - (intOf i).toNat)
  case atStart => exact ⟨0, by omega, rfl, rfl, rfl⟩
  case round =>
    obtain ⟨k, hk, rfl, rfl, rfl⟩ := hrel
    by_cases hlt : k < 34
    · have hix := HIX.out k hlt
      have c1 := cell_row Q1.out k _ (nums_get .u32 vs k (by have := HVL.out; omega))
      have hx := HFU.out k
      have hy := HVU.out k
      have hz := HER.out k
      have hs : evalN f0 fs vs (k + 1) = (evalN f0 fs vs k + fs.getD k 0 * vs.getD k 0 % 4294967296) % 4294967296 := rfl
      have HSS := Lib.hid hs
      clear hs
      generalize fs.getD k 0 = x at *
      generalize vs.getD k 0 = y at *
      generalize hzz : evalN f0 fs vs k = z at *
      clear hzz
      go_wp2_with fail
      refine ⟨⟨k + 1, by omega, by go_num, by rw [HSS.out], trivial⟩, ?_⟩
      simp [intOf]; omega
    · obtain rfl : k = 34 := by omega
      go_wp2
      go_ret
      exact ⟨rfl, Q3.out⟩
end Go.Proofs.Ytocofkkkblelgaa.H
