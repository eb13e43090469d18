/-
Forms and assignments as arguments: taken apart.
-/
import Derived.Test.YtocofkkkblelgaaHOpen
import Derived.Test.YtocofkkkblelgaaHAff9
set_option linter.unusedVariables false
set_option linter.unusedSimpArgs false
namespace Go.Proofs.Ytocofkkkblelgaa.H
open Go.RowKit Go.Proofs.YtocofkkkblelgaaW.PrintWords Go.ChangeShapes Go.WideShapes

section
variable {H : Type} {enc : TypeId × Value → H} {w : World} {base : Nat} {spare : Nat → Bool} {held : Bool}
theorem wf_bounds32 {n : Int} (h : (Lit.int .u32 n).wf = true) : 0 ≤ n ∧ n < 4294967296 := by have := bounds_u32 h; omega
theorem u32s_wf {xs : List Int} (hl : xs.length = 34) (h : ∀ i, i < 34 → (Lit.int .u32 (xs.getD i 0)).wf = true) : U32s xs := by
  intro i
  by_cases hi : i < 34
  · exact wf_bounds32 (h i hi)
  · rw [List.getD_eq_getElem?_getD, List.getElem?_eq_none (by omega)]; simp

def IsForm (c : Int) (cs : List Int) : Prop := cs.length = 34 ∧ (0 ≤ c ∧ c < 4294967296) ∧ U32s cs
def IsVal (vs : List Int) : Prop := vs.length = 34 ∧ U32s vs
theorem open_form {r : Reach} {b0 : Nat} {v : Value} {d : DataW H} {ps : List MemPlace} (hval : Value.okWide Try.prog w r b0 25 v) (hd : DataW.Trod enc Try.prog w base spare held 25 v d ps) :
    ∃ (x0 : Int) (xs : List Int), v = FV x0 xs ∧ ps = [] ∧ IsForm x0 xs := by
  obtain ⟨cs, rfl, hsz⟩ := okWide_struct Try.underlying25 hval
  obtain ⟨fuel, hf⟩ := hd
  obtain ⟨ys, n, _, hx, hl, hlx, hfi⟩ := DataW.trod_struct Try.underlying25 hf
  simp only [Prod.mk.injEq] at hx
  have h35 : Try.prog.cellsOf 25 = 35 := by kernel_rfl
  have h1 : Try.prog.cellsOf 22 = 1 := by kernel_rfl
  have h34 : Try.prog.cellsOf 23 = 34 := by kernel_rfl
  have hc : cs.toList.length = 35 := by simpa [h35] using hsz
  obtain ⟨L, hL⟩ : ∃ L, cs.toList = L := ⟨_, rfl⟩
  have hcs : cs = L.toArray := by rw [← hL]
  rw [hL] at hc
  subst hcs
  match L, hc with
  | c0 :: T, hT =>
    match ys, hlx with
    | [y0, y1], _ =>
      have f0 : DataW.trod enc Try.prog w base spare held n 22 ((List.drop 0 (c0 :: T)).take (Try.prog.cellsOf 22)) = some y0 := hfi 0 _ rfl
      have f1 : DataW.trod enc Try.prog w base spare held n 23 ((List.drop 1 (c0 :: T)).take (Try.prog.cellsOf 23)) = some y1 := hfi 1 _ rfl
      have hTl : T.length = 34 := by simpa using hT
      rw [h34] at f1
      simp only [h1, List.drop_zero, List.drop_succ_cons, List.take_succ_cons, List.take_zero] at f0 f1
      rw [List.take_of_length_le (by omega)] at f1
      obtain ⟨x0, e0, g0, w0⟩ := DataW.trod_int Try.underlying22 f0
      obtain ⟨xs, hz, e1, g1, w1⟩ := trod_arr_ints Try.underlying23 Try.underlying22 h1 h34 f1
      simp only [List.cons.injEq, and_true] at e0
      subst e0 e1
      refine ⟨x0, xs, rfl, ?_, hz, wf_bounds32 w0, u32s_wf hz w1⟩
      rw [hx.2]
      simp [g0, g1]
theorem open_arr {r : Reach} {b0 : Nat} {v : Value} {d : DataW H} {ps : List MemPlace} (hval : Value.okWide Try.prog w r b0 23 v) (hd : DataW.Trod enc Try.prog w base spare held 23 v d ps) :
    ∃ (xs : List Int), v = .agg (nums .u32 xs).toArray ∧ ps = [] ∧ IsVal xs := by
  have hv2 : ∃ cs, v = .agg cs := by
    simp only [Value.okWide, Try.underlying23] at hval
    obtain ⟨cs, h, _⟩ := hval
    exact ⟨cs, h⟩
  obtain ⟨cs, rfl⟩ := hv2
  obtain ⟨fuel, hf⟩ := hd
  have h1 : Try.prog.cellsOf 22 = 1 := by kernel_rfl
  have h34 : Try.prog.cellsOf 23 = 34 := by kernel_rfl
  obtain ⟨xs, hz, e1, g1, w1⟩ := trod_arr_ints Try.underlying23 Try.underlying22 h1 h34 hf
  obtain ⟨L, hL⟩ : ∃ L, cs.toList = L := ⟨_, rfl⟩
  have hcs : cs = L.toArray := by rw [← hL]
  subst hcs
  have e2 : L = nums .u32 xs := by simpa [Value.cells] using e1
  subst e2
  exact ⟨xs, rfl, g1, hz, u32s_wf hz w1⟩
end
end Go.Proofs.Ytocofkkkblelgaa.H
