/-
Structs with rows of whole numbers, as arguments: taken apart.
-/
import Derived.Test.YtgfmeiddicodoaaProg
import Derived.WalkKit
import Derived.ProofKit
import Derived.OpenShut
import Derived.ChangeOld
import Derived.Below
import Derived.Test.YtgfmeiddicodoaaWWords
set_option linter.unusedVariables false
set_option linter.unusedSimpArgs false
namespace Go.Proofs.Ytgfmeiddicodoaa.H
open Go.RowKit Go.Proofs.YtgfmeiddicodoaaW.PrintWords Go.ChangeShapes Go.WideShapes

section
variable {H : Type} {enc : TypeId × Value → H} {P : Program} {w : World} {base : Nat} {spare : Nat → Bool} {held : Bool} {fuel : Nat} {t : TypeId} {cs : List Value} {x : DataW H × List MemPlace}

theorem trod_arr_ints {n : Nat} {e : TypeId} {k : IntKind} (ht : P.underlying t = some (.array n e)) (he : P.underlying e = some (.int k)) (hc : P.cellsOf e = 1) (hct : P.cellsOf t = n)
    (h : DataW.trod enc P w base spare held fuel t cs = some x) :
    ∃ xs : List Int, xs.length = n ∧ cs = nums k xs ∧ x.2 = [] ∧ ∀ i, i < n → (Lit.int k (xs.getD i 0)).wf = true := by
  obtain ⟨ys, m, _, rfl, hl, hly, hf⟩ := DataW.trod_array ht h
  rw [hct] at hl
  have key : ∀ i, i < n → ∃ z y, cs[i]? = some (.int k z) ∧ ys[i]? = some y ∧ y.2 = [] ∧ (Lit.int k z).wf = true := by
    intro i hi
    have h1 := hf i hi
    rw [hc, Nat.mul_one, List.getElem?_eq_getElem (show i < ys.length by omega)] at h1
    obtain ⟨z, h2, h3, h4⟩ := DataW.trod_int he h1
    refine ⟨z, ys[i]'(by omega), ?_, List.getElem?_eq_getElem (by omega), by rw [h3], h4⟩
    have h5 : (cs.drop i).take 1 = [cs[i]'(by omega)] := by
      rw [List.take_one, List.head?_drop, List.getElem?_eq_getElem (show i < cs.length by omega)]
      rfl
    rw [h5] at h2
    rw [List.getElem?_eq_getElem (show i < cs.length by omega)]
    simpa using h2
  refine ⟨cs.map intOf, by simpa using hl, ?_, ?_, ?_⟩
  · apply List.ext_getElem?
    intro i
    by_cases hi : i < n
    · obtain ⟨z, y, h1, _⟩ := key i hi
      simp [nums, h1, intOf]
    · rw [List.getElem?_eq_none (by omega), List.getElem?_eq_none (by simp [nums]; omega)]
  · show ys.flatMap (·.2) = []
    rw [List.flatMap_eq_nil_iff]
    intro y hy
    obtain ⟨i, hi, rfl⟩ := List.mem_iff_getElem.1 hy
    obtain ⟨z, y, _, h2, h3, _⟩ := key i (by omega)
    rw [List.getElem?_eq_getElem hi] at h2
    cases h2
    exact h3
  · intro i hi
    obtain ⟨z, y, h1, _, _, h4⟩ := key i hi
    rw [show (cs.map intOf).getD i 0 = z by simp [List.getD_eq_getElem?_getD, h1, intOf]]
    exact h4
end
end Go.Proofs.Ytgfmeiddicodoaa.H
