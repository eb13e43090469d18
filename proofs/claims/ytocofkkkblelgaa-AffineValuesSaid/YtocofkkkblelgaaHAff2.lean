/-
Package affine: the other functions.
-/
import Derived.Test.YtocofkkkblelgaaProg
import Derived.WalkKit
import Derived.WalkSpells
import Derived.WalkLawsBesides
import Derived.Handy
import Derived.Lib.Hide
import Derived.Deep.QuietTactic
import Derived.BigQuiet
import Derived.StillTailTactics
import Derived.Test.YtocofkkkblelgaaHArr
import Derived.Test.YtocofkkkblelgaaHAff
import Derived.Test.YtocofkkkblelgaaWWords
set_option linter.unusedVariables false
set_option linter.unusedSimpArgs false
namespace Go.Proofs.Ytocofkkkblelgaa.H
open Go.RowKit Go.Proofs.YtocofkkkblelgaaW.PrintWords

theorem enter_of {n : Nat} {fn : Func} {c : Code} (hf : Try.prog.funcs[n]? = some fn) (hname : (fn.name == "runtime.NumGoroutine") = false) (hb : fn.body = some c) (args : Array Value) (W : World) :
    (callFunc n args).run Try.prog W = .ok (.enter n args) W := by
  unfold callFunc
  have hn : ¬ fn.name = "runtime.NumGoroutine" := by simpa using hname
  simp [Sem.run_bind, run_program, hf, hn, hb]

def FV (c : Int) (cs : List Int) : Value := .agg (.int .u32 c :: nums .u32 cs).toArray
def addI (a b : Int) : Int := (a + b) % 4294967296
def subI (a b : Int) : Int := (a - b) % 4294967296
def mulI (k a : Int) (_ : Int) : Int := (a * k) % 4294967296

theorem size_form (c : Int) (cs : List Int) (h : cs.length = 34) : (Value.int .u32 c :: nums .u32 cs).toArray.size = 35 := by simp [nums, h]
theorem info_form (c : Int) (cs : List Int) (h : cs.length = 34) : (Try.prog.info? 25).map (·.size) = some (Value.int .u32 c :: nums .u32 cs).toArray.size := by
  rw [size_form c cs h]; kernel_rfl

set_option maxHeartbeats 1000000 in
theorem Add_walk (f0 g0 : Int) (fs gs : List Int) (hf : fs.length = 34) (hg : gs.length = 34) (h0 : 0 ≤ f0 ∧ f0 < 4294967296) (h1 : 0 ≤ g0 ∧ g0 < 4294967296) (hfu : U32s fs) (hgu : U32s gs) (w : World) :
    Calls Try.prog 13 #[FV f0 fs, FV g0 gs] w fun e w' => e = .returned (FV (addI f0 g0) (List.zipWith addI fs gs)) ∧ Below w.heap.size w w' := by
  have HB := Lib.hid (fun w => both_walk 29 #[] addI f0 g0 fs gs hf hg h0 h1 hfu hgu w (fun a b ha hb w' _ => Add1_walk a b ha hb w') (enter_of Try.func29 (by decide) rfl))
  have HIF := Lib.hid (info_form f0 fs hf)
  have HIG := Lib.hid (info_form g0 gs hg)
  have HIR := Lib.hid (info_form (addI f0 g0) (List.zipWith addI fs gs) (by simp [hf, hg]))
  have HSR := Lib.hid (size_form (addI f0 g0) (List.zipWith addI fs gs) (by simp [hf, hg]))
  have ONE := Lib.hid (oneCell_nums .u32 (addI f0 g0 :: List.zipWith addI fs gs))
  unfold FV
  generalize hR : (Value.int .u32 (addI f0 g0) :: nums .u32 (List.zipWith addI fs gs)).toArray = R at *
  replace ONE : RowKit.Hid (∀ v ∈ R.toList, v.oneCell' = true) := by have := ONE.out; rw [← hR]; exact Lib.hid this
  generalize hF : (Value.int .u32 f0 :: nums .u32 fs).toArray = F at *
  generalize hG : (Value.int .u32 g0 :: nums .u32 gs).toArray = G at *
  obtain ⟨q1, q2, q3, q4, q5⟩ := alloc3 w (Obj.cells F 25) (Obj.cells G 25) (Obj.cells #[Value.int .u32 0, Value.int .u32 0, Value.int .u32 0, Value.int .u32 0, Value.int .u32 0, Value.int .u32 0, Value.int .u32 0, Value.int .u32 0, Value.int .u32 0, Value.int .u32 0, Value.int .u32 0, Value.int .u32 0, Value.int .u32 0, Value.int .u32 0, Value.int .u32 0, Value.int .u32 0, Value.int .u32 0, Value.int .u32 0, Value.int .u32 0, Value.int .u32 0, Value.int .u32 0, Value.int .u32 0, Value.int .u32 0, Value.int .u32 0, Value.int .u32 0, Value.int .u32 0, Value.int .u32 0, Value.int .u32 0, Value.int .u32 0, Value.int .u32 0, Value.int .u32 0, Value.int .u32 0, Value.int .u32 0, Value.int .u32 0, Value.int .u32 0] 25)
  have Q1 := Lib.hid q1
  have Q2 := Lib.hid q2
  have Q3 := Lib.hid q3
  have Q4 := Lib.hid q4
  have Q5 := Lib.hid q5
  clear hf hg h0 h1 hfu hgu hR hF hG q1 q2 q3 q4 q5
  go_enter Try.func13, Try.ntmps13
  go_wp2_with (first | (refine wpList_load_row rfl 25 (.tmp 2) rfl (w.heap.size) rfl _ _ _ _ Q1.out Try.underlying25 rfl HIF.out ?_) | (refine wpList_load_row rfl 25 (.tmp 3) rfl (w.heap.size + 1) rfl _ _ _ _ Q2.out Try.underlying25 rfl HIG.out ?_))
  refine (HB.out _).mono ?_
  rintro e w1 ⟨rfl, hb⟩
  have RES := Lib.hid (blk_below Q3.out hb)
  have HT := Lib.hid (Q5.out.trans (hb.mono Q5.out.size))
  clear hb
  go_wp2_with (refine wpList_store_row rfl 25 (.tmp 4) (.tmp 7) rfl rfl (w.heap.size + 1 + 1) rfl R rfl _ _ RES.out (by simp [HSR.out]) HIR.out ONE.out ?_)
  have hfin := heap_setRow_same w1 (w.heap.size + 1 + 1) R _ 25 _ RES.out
  refine bodyPost_ret (results_cell_row rfl _ _ (w.heap.size + 1 + 1) _ _ _ _ rfl hfin Try.underlying25 rfl HIR.out) rfl ?_
  exact ⟨rfl, HT.out.trans ⟨rfl, rfl, rfl, by simp [World.setRow], fun k hk => heap_setRow_other _ _ _ _ (by omega)⟩⟩
set_option maxHeartbeats 1000000 in
theorem Sub_walk (f0 g0 : Int) (fs gs : List Int) (hf : fs.length = 34) (hg : gs.length = 34) (h0 : 0 ≤ f0 ∧ f0 < 4294967296) (h1 : 0 ≤ g0 ∧ g0 < 4294967296) (hfu : U32s fs) (hgu : U32s gs) (w : World) :
    Calls Try.prog 15 #[FV f0 fs, FV g0 gs] w fun e w' => e = .returned (FV (subI f0 g0) (List.zipWith subI fs gs)) ∧ Below w.heap.size w w' := by
  have HB := Lib.hid (fun w => both_walk 30 #[] subI f0 g0 fs gs hf hg h0 h1 hfu hgu w (fun a b ha hb w' _ => Sub1_walk a b ha hb w') (enter_of Try.func30 (by decide) rfl))
  have HIF := Lib.hid (info_form f0 fs hf)
  have HIG := Lib.hid (info_form g0 gs hg)
  have HIR := Lib.hid (info_form (subI f0 g0) (List.zipWith subI fs gs) (by simp [hf, hg]))
  have HSR := Lib.hid (size_form (subI f0 g0) (List.zipWith subI fs gs) (by simp [hf, hg]))
  have ONE := Lib.hid (oneCell_nums .u32 (subI f0 g0 :: List.zipWith subI fs gs))
  unfold FV
  generalize hR : (Value.int .u32 (subI f0 g0) :: nums .u32 (List.zipWith subI fs gs)).toArray = R at *
  replace ONE : RowKit.Hid (∀ v ∈ R.toList, v.oneCell' = true) := by have := ONE.out; rw [← hR]; exact Lib.hid this
  generalize hF : (Value.int .u32 f0 :: nums .u32 fs).toArray = F at *
  generalize hG : (Value.int .u32 g0 :: nums .u32 gs).toArray = G at *
  obtain ⟨q1, q2, q3, q4, q5⟩ := alloc3 w (Obj.cells F 25) (Obj.cells G 25) (Obj.cells #[Value.int .u32 0, Value.int .u32 0, Value.int .u32 0, Value.int .u32 0, Value.int .u32 0, Value.int .u32 0, Value.int .u32 0, Value.int .u32 0, Value.int .u32 0, Value.int .u32 0, Value.int .u32 0, Value.int .u32 0, Value.int .u32 0, Value.int .u32 0, Value.int .u32 0, Value.int .u32 0, Value.int .u32 0, Value.int .u32 0, Value.int .u32 0, Value.int .u32 0, Value.int .u32 0, Value.int .u32 0, Value.int .u32 0, Value.int .u32 0, Value.int .u32 0, Value.int .u32 0, Value.int .u32 0, Value.int .u32 0, Value.int .u32 0, Value.int .u32 0, Value.int .u32 0, Value.int .u32 0, Value.int .u32 0, Value.int .u32 0, Value.int .u32 0] 25)
  have Q1 := Lib.hid q1
  have Q2 := Lib.hid q2
  have Q3 := Lib.hid q3
  have Q4 := Lib.hid q4
  have Q5 := Lib.hid q5
  clear hf hg h0 h1 hfu hgu hR hF hG q1 q2 q3 q4 q5
  go_enter Try.func15, Try.ntmps15
  go_wp2_with (first | (refine wpList_load_row rfl 25 (.tmp 2) rfl (w.heap.size) rfl _ _ _ _ Q1.out Try.underlying25 rfl HIF.out ?_) | (refine wpList_load_row rfl 25 (.tmp 3) rfl (w.heap.size + 1) rfl _ _ _ _ Q2.out Try.underlying25 rfl HIG.out ?_))
  refine (HB.out _).mono ?_
  rintro e w1 ⟨rfl, hb⟩
  have RES := Lib.hid (blk_below Q3.out hb)
  have HT := Lib.hid (Q5.out.trans (hb.mono Q5.out.size))
  clear hb
  go_wp2_with (refine wpList_store_row rfl 25 (.tmp 4) (.tmp 7) rfl rfl (w.heap.size + 1 + 1) rfl R rfl _ _ RES.out (by simp [HSR.out]) HIR.out ONE.out ?_)
  have hfin := heap_setRow_same w1 (w.heap.size + 1 + 1) R _ 25 _ RES.out
  refine bodyPost_ret (results_cell_row rfl _ _ (w.heap.size + 1 + 1) _ _ _ _ rfl hfin Try.underlying25 rfl HIR.out) rfl ?_
  exact ⟨rfl, HT.out.trans ⟨rfl, rfl, rfl, by simp [World.setRow], fun k hk => heap_setRow_other _ _ _ _ (by omega)⟩⟩
end Go.Proofs.Ytocofkkkblelgaa.H
