/-
Package affine: the other functions.
-/
import Derived.Test.YtocofkkkblelgaaProg
import Derived.WalkKit
import Derived.WalkSpells
import Derived.WalkLawsBesides
import Derived.Handy
import Derived.Lib.Hide
import Derived.Deep.QuietTactic
import Derived.BigQuiet
import Derived.StillTailTactics
import Derived.Test.YtocofkkkblelgaaHArr
import Derived.Test.YtocofkkkblelgaaHAff4
import Derived.Test.YtocofkkkblelgaaWEqStruct
import Derived.Test.YtocofkkkblelgaaWWords
set_option linter.unusedVariables false
set_option linter.unusedSimpArgs false
namespace Go.Proofs.Ytocofkkkblelgaa.H
open Go.RowKit Go.Proofs.YtocofkkkblelgaaW.PrintWords



theorem cells_u32 : Try.prog.cellsOf 22 = 1 := by kernel_rfl
theorem eqArr (w : World) (d : Nat) (xs ys : List Int) (hx : xs.length = 34) (hy : ys.length = 34) :
    (Op.equalIn (d + 2) 23 (.agg (nums .u32 xs).toArray) (.agg (nums .u32 ys).toArray)).run Try.prog w = .ok (xs == ys) w := by
  have h1 : (Try.prog.info? 22).map (·.size) = some 1 := by kernel_rfl
  obtain ⟨i, hi, hs⟩ := Option.map_eq_some_iff.1 h1
  refine (run_equalIn_array w (d + 1) (t := 23) _ _ Try.underlying23 hi).trans ?_
  rw [cells_u32, run_eqItems_ints Try.underlying22 d xs ys w (List.range 34) (by intro i hi; simp at hi; omega)]
  have := all_range_eq xs ys (by omega)
  rw [hx] at this
  rw [this]
/-- Forms are alike where both parts are. -/
theorem eqForm (w : World) (x0 y0 : Int) (xs ys : List Int) (hx : xs.length = 34) (hy : ys.length = 34) :
    (Op.equalIn 10000 25 (.agg (Value.int .u32 x0 :: nums .u32 xs).toArray) (.agg (Value.int .u32 y0 :: nums .u32 ys).toArray)).run Try.prog w = .ok (x0 == y0 && xs == ys) w := by
  have hex : ∀ (c : Int) (l : List Int), l.length = 34 → (Value.int .u32 c :: nums .u32 l).toArray.extract 1 (1 + 34) = (nums .u32 l).toArray := by
    intro c l hl
    apply Array.ext'
    simp only [Array.toList_extract, List.extract_eq_take_drop, List.drop_succ_cons, List.drop_zero]
    exact List.take_of_length_le (by simp [nums, hl])
  refine eqA_of (d := 9999) Try.underlying25 (by kernel_rfl) ?_
  refine eqf_cons (by rfl) (by go_simp; rfl) (by go_simp; rfl) (by go_simp) ?_
  have h34 : Try.prog.cellsOf 23 = 34 := by kernel_rfl
  have hag : (isAgg 23).run Try.prog w = .ok true w := by
    unfold isAgg
    rw [Sem.run_bind, run_underlying Try.underlying23 w]
    rfl
  refine eqf_last (a := .agg (nums .u32 xs).toArray) (b := .agg (nums .u32 ys).toArray) (by rfl) ?_ ?_ (eqArr w 9997 xs ys hx hy)
  · show (part 23 _ 1).run Try.prog w = _
    rw [← hex x0 xs hx]
    go_simp
    exact List.take_of_length_le (by simp [nums, hx])
  · show (part 23 _ 1).run Try.prog w = _
    rw [← hex y0 ys hy]
    go_simp
    exact List.take_of_length_le (by simp [nums, hy])

/-- The equality of forms, as a name. -/
def formEq (x0 y0 : Int) (xs ys : List Int) : Bool := x0 == y0 && xs == ys
theorem eqFormN (w : World) (x0 y0 : Int) (xs ys : List Int) (hx : xs.length = 34) (hy : ys.length = 34) :
    (Op.equalIn 10000 25 (.agg (Value.int .u32 x0 :: nums .u32 xs).toArray) (.agg (Value.int .u32 y0 :: nums .u32 ys).toArray)).run Try.prog w = .ok (formEq x0 y0 xs ys) w := eqForm w x0 y0 xs ys hx hy

theorem z34_row : (nums .u32 z34).toArray = (Value.int .u32 0 :: Value.int .u32 0 :: Value.int .u32 0 :: Value.int .u32 0 :: Value.int .u32 0 :: Value.int .u32 0 :: Value.int .u32 0 :: Value.int .u32 0 :: Value.int .u32 0 :: Value.int .u32 0 :: Value.int .u32 0 :: Value.int .u32 0 :: Value.int .u32 0 :: Value.int .u32 0 :: Value.int .u32 0 :: Value.int .u32 0 :: Value.int .u32 0 :: Value.int .u32 0 :: Value.int .u32 0 :: Value.int .u32 0 :: Value.int .u32 0 :: Value.int .u32 0 :: Value.int .u32 0 :: Value.int .u32 0 :: Value.int .u32 0 :: Value.int .u32 0 :: Value.int .u32 0 :: Value.int .u32 0 :: Value.int .u32 0 :: Value.int .u32 0 :: Value.int .u32 0 :: Value.int .u32 0 :: Value.int .u32 0 :: Value.int .u32 0 :: []).toArray := rfl
theorem eqArrZ (w : World) (xs : List Int) (hx : xs.length = 34) :
    (Op.equalIn 10000 23 (.agg (nums .u32 xs).toArray) (.agg (Value.int .u32 0 :: Value.int .u32 0 :: Value.int .u32 0 :: Value.int .u32 0 :: Value.int .u32 0 :: Value.int .u32 0 :: Value.int .u32 0 :: Value.int .u32 0 :: Value.int .u32 0 :: Value.int .u32 0 :: Value.int .u32 0 :: Value.int .u32 0 :: Value.int .u32 0 :: Value.int .u32 0 :: Value.int .u32 0 :: Value.int .u32 0 :: Value.int .u32 0 :: Value.int .u32 0 :: Value.int .u32 0 :: Value.int .u32 0 :: Value.int .u32 0 :: Value.int .u32 0 :: Value.int .u32 0 :: Value.int .u32 0 :: Value.int .u32 0 :: Value.int .u32 0 :: Value.int .u32 0 :: Value.int .u32 0 :: Value.int .u32 0 :: Value.int .u32 0 :: Value.int .u32 0 :: Value.int .u32 0 :: Value.int .u32 0 :: Value.int .u32 0 :: []).toArray)).run Try.prog w = .ok (xs == z34) w := eqArr w 9998 xs z34 hx z34_len
theorem ext34 (f0 : Int) (fs : List Int) (hf : fs.length = 34) : (Value.int .u32 f0 :: nums .u32 fs).toArray.extract 1 (1 + 34) = (nums .u32 fs).toArray := by
  apply Array.ext'
  simp only [Array.toList_extract, List.extract_eq_take_drop, List.drop_succ_cons, List.drop_zero]
  exact List.take_of_length_le (by simp [nums, hf])

set_option maxHeartbeats 1000000 in
theorem Constant_walk (f0 : Int) (fs : List Int) (hf : fs.length = 34) (w : World) :
    Calls Try.prog 20 #[FV f0 fs] w fun e w' => e = .returned (.tuple (if (fs == z34) = true then #[.int .u32 f0, .bool true] else #[.int .u32 0, .bool false])) ∧ Below w.heap.size w w' := by
  unfold FV
  have HSZ := Lib.hid (size_form f0 fs hf)
  have HEX := Lib.hid (ext34 f0 fs hf)
  have HEQ := Lib.hid (fun w => eqArrZ w fs hf)
  have Q0 := Lib.hid (heap_alloc_new w (Obj.cells (Value.int .u32 f0 :: nums .u32 fs).toArray 25))
  have Q3 := Lib.hid ((Below.refl w.heap.size w).alloc (Nat.le_refl _) (Obj.cells (Value.int .u32 f0 :: nums .u32 fs).toArray 25))
  clear hf
  cases hb : (fs == z34) with
  | true =>
    rw [hb] at HEQ
    rw [if_pos rfl]
    clear hb
    have heq := HEQ.out (w.alloc (Obj.cells (Value.int .u32 f0 :: nums .u32 fs).toArray 25))
    go_enter Try.func20, Try.ntmps20
    go_wp2_with (refine wpList_load_sub rfl 23 (.tmp 4) rfl w.heap.size 1 34 rfl _ _ _ _ Q0.out Try.underlying23 rfl (by kernel_rfl) (by simp [HSZ.out]) ?_; rw [HEX.out])
    go_ret2
    exact ⟨rfl, Q3.out⟩
  | false =>
    rw [hb] at HEQ
    rw [if_neg (by decide)]
    clear hb
    have heq := HEQ.out (w.alloc (Obj.cells (Value.int .u32 f0 :: nums .u32 fs).toArray 25))
    go_enter Try.func20, Try.ntmps20
    go_wp2_with (refine wpList_load_sub rfl 23 (.tmp 4) rfl w.heap.size 1 34 rfl _ _ _ _ Q0.out Try.underlying23 rfl (by kernel_rfl) (by simp [HSZ.out]) ?_; rw [HEX.out])
    go_ret2
    exact ⟨rfl, Q3.out⟩
end Go.Proofs.Ytocofkkkblelgaa.H
