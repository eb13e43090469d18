/-
Package affine: the other functions.
-/
import Derived.Test.YtocofkkkblelgaaProg
import Derived.WalkKit
import Derived.WalkSpells
import Derived.WalkLawsBesides
import Derived.Handy
import Derived.Lib.Hide
import Derived.Deep.QuietTactic
import Derived.BigQuiet
import Derived.StillTailTactics
import Derived.Test.YtocofkkkblelgaaHArr
import Derived.Test.YtocofkkkblelgaaHAff2
import Derived.Test.YtocofkkkblelgaaWWords
set_option linter.unusedVariables false
set_option linter.unusedSimpArgs false
namespace Go.Proofs.Ytocofkkkblelgaa.H
open Go.RowKit Go.Proofs.YtocofkkkblelgaaW.PrintWords


set_option maxHeartbeats 1000000 in
theorem Mul_walk (f0 k : Int) (fs : List Int) (hf : fs.length = 34) (h0 : 0 ≤ f0 ∧ f0 < 4294967296) (hfu : U32s fs) (w : World) :
    Calls Try.prog 16 #[FV f0 fs, .int .u32 k] w fun e w' => e = .returned (FV (mulI k f0 f0) (List.zipWith (mulI k) fs fs)) ∧ Below w.heap.size w w' := by
  have HIF := Lib.hid (info_form f0 fs hf)
  have HIR := Lib.hid (info_form (mulI k f0 f0) (List.zipWith (mulI k) fs fs) (by simp [hf]))
  have HSR := Lib.hid (size_form (mulI k f0 f0) (List.zipWith (mulI k) fs fs) (by simp [hf]))
  have ONE := Lib.hid (oneCell_nums .u32 (mulI k f0 f0 :: List.zipWith (mulI k) fs fs))
  have HB := Lib.hid (fun g w hd => both_walk 31 #[.pointer (some ⟨g, 0, none⟩)] (mulI k) f0 f0 fs fs hf hf h0 h0 hfu hfu w hd (enter_of Try.func31 (by decide) rfl))
  unfold FV
  generalize hR : (Value.int .u32 (mulI k f0 f0) :: nums .u32 (List.zipWith (mulI k) fs fs)).toArray = R at *
  replace ONE : RowKit.Hid (∀ v ∈ R.toList, v.oneCell' = true) := by have := ONE.out; rw [← hR]; exact Lib.hid this
  generalize hF : (Value.int .u32 f0 :: nums .u32 fs).toArray = F at *
  obtain ⟨q1, q2, q3, q4, q5⟩ := alloc3 w (Obj.cells F 25) (Obj.cells #[.int .u32 k] 22) (Obj.cells #[Value.int .u32 0, Value.int .u32 0, Value.int .u32 0, Value.int .u32 0, Value.int .u32 0, Value.int .u32 0, Value.int .u32 0, Value.int .u32 0, Value.int .u32 0, Value.int .u32 0, Value.int .u32 0, Value.int .u32 0, Value.int .u32 0, Value.int .u32 0, Value.int .u32 0, Value.int .u32 0, Value.int .u32 0, Value.int .u32 0, Value.int .u32 0, Value.int .u32 0, Value.int .u32 0, Value.int .u32 0, Value.int .u32 0, Value.int .u32 0, Value.int .u32 0, Value.int .u32 0, Value.int .u32 0, Value.int .u32 0, Value.int .u32 0, Value.int .u32 0, Value.int .u32 0, Value.int .u32 0, Value.int .u32 0, Value.int .u32 0, Value.int .u32 0] 25)
  have Q1 := Lib.hid q1
  have Q2 := Lib.hid q2
  have Q3 := Lib.hid q3
  have Q4 := Lib.hid q4
  have Q5 := Lib.hid q5
  clear hf h0 hfu hR hF q1 q2 q3 q4 q5
  go_enter Try.func16, Try.ntmps16
  go_wp2_with (refine wpList_load_row rfl 25 (.tmp 2) rfl (w.heap.size) rfl _ _ _ _ Q1.out Try.underlying25 rfl HIF.out ?_)
  refine (HB.out (w.heap.size + 1) _ (fun a b ha hb w' hbw => Mul1_walk a b k ha (w.heap.size + 1) w' (blk_cell (blk_below Q2.out hbw) 0))).mono ?_
  rintro e w1 ⟨rfl, hb⟩
  have RES := Lib.hid (blk_below Q3.out hb)
  have HT := Lib.hid (Q5.out.trans (hb.mono Q5.out.size))
  clear hb
  go_wp2_with (refine wpList_store_row rfl 25 (.tmp 4) (.tmp 8) rfl rfl (w.heap.size + 1 + 1) rfl R rfl _ _ RES.out (by simp [HSR.out]) HIR.out ONE.out ?_)
  have hfin := heap_setRow_same w1 (w.heap.size + 1 + 1) R _ 25 _ RES.out
  refine bodyPost_ret (results_cell_row rfl _ _ (w.heap.size + 1 + 1) _ _ _ _ rfl hfin Try.underlying25 rfl HIR.out) rfl ?_
  exact ⟨rfl, HT.out.trans ⟨rfl, rfl, rfl, by simp [World.setRow], fun k hk => heap_setRow_other _ _ _ _ (by omega)⟩⟩

end Go.Proofs.Ytocofkkkblelgaa.H
