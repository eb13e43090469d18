/-
Equality of two records.
-/
import Derived.Test.YtgfmeiddicodoaaProg
import Derived.WalkKit
import Derived.WalkSpells
import Derived.WalkLawsBesides
import Derived.Handy
import Derived.Lib.Hide
import Derived.Deep.QuietTactic
import Derived.BigQuiet
import Derived.Test.YtgfmeiddicodoaaHArr
import Derived.Test.YtgfmeiddicodoaaWEqStruct
import Derived.Test.YtgfmeiddicodoaaWWords
set_option linter.unusedVariables false
set_option linter.unusedSimpArgs false
namespace Go.Proofs.Ytgfmeiddicodoaa.H
open Go.RowKit Go.Proofs.YtgfmeiddicodoaaW.PrintWords

theorem eqD (w : World) (x0 x1 x2 x3 x4 x5 x6 x7 x8 y0 y1 y2 y3 y4 y5 y6 y7 y8 : Int) :
    (Op.equalIn 10000 26 (.agg #[.int .u32 x0, .int .u32 x1, .int .u64 x2, .int .u64 x3, .int .u64 x4, .int .u64 x5, .int .u64 x6, .int .u64 x7, .int .u64 x8]) (.agg #[.int .u32 y0, .int .u32 y1, .int .u64 y2, .int .u64 y3, .int .u64 y4, .int .u64 y5, .int .u64 y6, .int .u64 y7, .int .u64 y8])).run Try.prog w =
      .ok (x0 == y0 && (x1 == y1 && (x2 == y2 && ([x3, x4, x5, x6, x7, x8] == [y3, y4, y5, y6, y7, y8])))) w := by
  refine eqA_of (d := 9999) Try.underlying26 (by kernel_rfl) ?_
  refine eqf_cons (by rfl) (by go_simp; rfl) (by go_simp; rfl) (by go_simp) ?_
  refine eqf_cons (by rfl) (by go_simp; rfl) (by go_simp; rfl) (by go_simp) ?_
  refine eqf_cons (by rfl) (by go_simp; rfl) (by go_simp; rfl) (by go_simp) ?_
  have h1 : (Try.prog.info? 23).map (·.size) = some 1 := by kernel_rfl
  obtain ⟨i, hi, hs⟩ := Option.map_eq_some_iff.1 h1
  have hc : Try.prog.cellsOf 23 = 1 := by simp [Program.cellsOf, hi, hs]
  refine eqf_last (a := .agg (nums .u64 [x3, x4, x5, x6, x7, x8]).toArray) (b := .agg (nums .u64 [y3, y4, y5, y6, y7, y8]).toArray) (by rfl) (by go_simp; rfl) (by go_simp; rfl) ?_
  refine (run_equalIn_array w 9998 (t := 24) _ _ Try.underlying24 hi).trans ?_
  rw [hc, run_eqItems_ints Try.underlying23 9997 [x3, x4, x5, x6, x7, x8] [y3, y4, y5, y6, y7, y8] w (List.range 6) (by intro i hi; simp at hi; simp; omega)]
  rw [← all_range_eq [x3, x4, x5, x6, x7, x8] [y3, y4, y5, y6, y7, y8] rfl]
  rfl

/-- The equality, as a name. -/
def eqDB (x0 x1 x2 x3 x4 x5 x6 x7 x8 y0 y1 y2 y3 y4 y5 y6 y7 y8 : Int) : Bool := x0 == y0 && (x1 == y1 && (x2 == y2 && ([x3, x4, x5, x6, x7, x8] == [y3, y4, y5, y6, y7, y8])))
theorem eqDn (w : World) (x0 x1 x2 x3 x4 x5 x6 x7 x8 y0 y1 y2 y3 y4 y5 y6 y7 y8 : Int) :
    (Op.equalIn 10000 26 (.agg #[.int .u32 x0, .int .u32 x1, .int .u64 x2, .int .u64 x3, .int .u64 x4, .int .u64 x5, .int .u64 x6, .int .u64 x7, .int .u64 x8]) (.agg #[.int .u32 y0, .int .u32 y1, .int .u64 y2, .int .u64 y3, .int .u64 y4, .int .u64 y5, .int .u64 y6, .int .u64 y7, .int .u64 y8])).run Try.prog w =
      .ok (eqDB x0 x1 x2 x3 x4 x5 x6 x7 x8 y0 y1 y2 y3 y4 y5 y6 y7 y8) w := eqD w x0 x1 x2 x3 x4 x5 x6 x7 x8 y0 y1 y2 y3 y4 y5 y6 y7 y8
theorem eqDB_iff (x0 x1 x2 x3 x4 x5 x6 x7 x8 y0 y1 y2 y3 y4 y5 y6 y7 y8 : Int) : eqDB x0 x1 x2 x3 x4 x5 x6 x7 x8 y0 y1 y2 y3 y4 y5 y6 y7 y8 = true ↔
    x0 = y0 ∧ x1 = y1 ∧ x2 = y2 ∧ x3 = y3 ∧ x4 = y4 ∧ x5 = y5 ∧ x6 = y6 ∧ x7 = y7 ∧ x8 = y8 := by
  simp [eqDB]
end Go.Proofs.Ytgfmeiddicodoaa.H
