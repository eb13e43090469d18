/-
Package hurdlelaw14: knows; what the affine functions give.
-/
import Derived.Test.YtocofkkkblelgaaProg
import Derived.WalkKit
import Derived.WalkSpells
import Derived.WalkLawsBesides
import Derived.Handy
import Derived.Lib.Hide
import Derived.Test.YtocofkkkblelgaaHAff8
import Derived.Test.YtocofkkkblelgaaWWords
set_option linter.unusedVariables false
set_option linter.unusedSimpArgs false
namespace Go.Proofs.Ytocofkkkblelgaa.H
open Go.RowKit Go.Proofs.YtocofkkkblelgaaW.PrintWords

theorem frow (c : Int) (cs : List Int) (h : cs.length = 34) : FRow (Value.int .u32 c :: nums .u32 cs).toArray := ⟨size_form c cs h, info_form c cs h, oneCell_nums .u32 (c :: cs)⟩
theorem vrow (vs : List Int) (h : vs.length = 34) : VRow (nums .u32 vs).toArray := ⟨by simp [nums, h], info_arr vs h, oneCell_nums .u32 vs⟩
theorem u32s_z : U32s z34 := by
  intro i
  rw [show z34.getD i 0 = 0 from by unfold z34; rw [List.getD_eq_getElem?_getD, List.getElem?_replicate]; split <;> rfl]
  omega
theorem u32s_set {ws : List Int} {i : Nat} {v : Int} (h : U32s ws) (hv : 0 ≤ v ∧ v < 4294967296) (hi : i < ws.length) : U32s (ws.set i v) := by
  intro j
  rw [getD_set hi]
  split
  · exact hv
  · exact h j
def var (i : Nat) : List Int := z34.set i 1
theorem var_len (i : Nat) : (var i).length = 34 := by simp [var, z34_len]
theorem var_u32 (i : Nat) (h : i < 34) : U32s (var i) := u32s_set u32s_z (by omega) (by rw [z34_len]; exact h)
theorem u32s_of_all {l : List Int} (h : ∀ x ∈ l, 0 ≤ x ∧ x < 4294967296) : U32s l := by
  intro i
  rw [List.getD_eq_getElem?_getD]
  cases hx : l[i]? with
  | none => simp
  | some x => simpa using h x (List.mem_of_getElem? hx)
theorem u32s_zip (op : Int → Int → Int) (hop : ∀ a b, 0 ≤ op a b ∧ op a b < 4294967296) (xs ys : List Int) : U32s (List.zipWith op xs ys) := by
  refine u32s_of_all fun x hx => ?_
  obtain ⟨a, b, _, _, rfl⟩ : ∃ a b, a ∈ xs ∧ b ∈ ys ∧ op a b = x := by
    rw [List.mem_iff_getElem] at hx
    obtain ⟨i, hi, rfl⟩ := hx
    simp at hi
    exact ⟨xs[i], ys[i], List.getElem_mem _, List.getElem_mem _, by simp⟩
  exact hop a b
theorem addI_range (a b : Int) : 0 ≤ addI a b ∧ addI a b < 4294967296 := by unfold addI; omega
theorem subI_range (a b : Int) : 0 ≤ subI a b ∧ subI a b < 4294967296 := by unfold subI; omega
theorem mulI_range (k a b : Int) : 0 ≤ mulI k a b ∧ mulI k a b < 4294967296 := by unfold mulI; omega
theorem zip_len (op : Int → Int → Int) {xs ys : List Int} (hx : xs.length = 34) (hy : ys.length = 34) : (List.zipWith op xs ys).length = 34 := by simp [hx, hy]

theorem knows_walk : Gives Try.prog 19 #[] (.bool true) := by
  intro w
  refine knows_abs (Value.int .u32 0 :: nums .u32 (var 0)).toArray (Value.int .u32 0 :: nums .u32 (var 1)).toArray (Value.int .u32 (mulI 3 0 0) :: nums .u32 (List.zipWith (mulI 3) (var 0) (var 0))).toArray (nums .u32 (var 0)).toArray
    (Value.int .u32 (addI 0 0) :: nums .u32 (List.zipWith addI (var 0) (var 1))).toArray (Value.int .u32 (subI (addI 0 0) 0) :: nums .u32 (List.zipWith subI (List.zipWith addI (var 0) (var 1)) (var 0))).toArray (Value.int .u32 5 :: nums .u32 z34).toArray
    (frow _ _ (var_len 0)) (frow _ _ (var_len 1)) (vrow _ (var_len 0)) (by rfl) ?_ ?_ ?_ ?_ ?_ ?_ ?_ ?_ ?_ ?_ w
  · exact fun w => Var_walk 0 (by omega) w
  · exact fun w => Var_walk 1 (by omega) w
  · exact fun w => Mul_walk 0 3 (var 0) (var_len 0) (by omega) (var_u32 0 (by omega)) w
  · intro w
    have h := Apart_walk (mulI 3 0 0) 0 (List.zipWith (mulI 3) (var 0) (var 0)) (var 0) (zip_len _ (var_len 0) (var_len 0)) (var_len 0) (u32s_zip _ (mulI_range 3) _ _) (var_u32 0 (by omega)) w
    rw [show apart (mulI 3 0 0) 0 (List.zipWith (mulI 3) (var 0) (var 0)) (var 0) = (var 0, true) from by decide +kernel] at h
    exact h
  · exact fun w => Add_walk 0 0 (var 0) (var 1) (var_len 0) (var_len 1) (by omega) (by omega) (var_u32 0 (by omega)) (var_u32 1 (by omega)) w
  · exact fun w => Sub_walk (addI 0 0) 0 (List.zipWith addI (var 0) (var 1)) (var 0) (zip_len _ (var_len 0) (var_len 1)) (var_len 0) (addI_range 0 0) (by omega) (u32s_zip _ addI_range _ _) (var_u32 0 (by omega)) w
  · intro w
    have h := Single_walk (subI (addI 0 0) 0) (List.zipWith subI (List.zipWith addI (var 0) (var 1)) (var 0)) (zip_len _ (zip_len _ (var_len 0) (var_len 1)) (var_len 0)) (u32s_zip _ subI_range _ _) w
    rw [show single (subI (addI 0 0) 0) (List.zipWith subI (List.zipWith addI (var 0) (var 1)) (var 0)) = (1, true) from by decide +kernel] at h
    exact h
  · exact fun w => Const_walk 5 w
  · intro w
    have h := Constant_walk 5 z34 z34_len w
    rw [if_pos (by decide +kernel)] at h
    exact h
  · intro w
    have h := Eval_walk 0 (var 0) (var 0) (var_len 0) (var_len 0) (by omega) (var_u32 0 (by omega)) (var_u32 0 (by omega)) w
    rw [show evalN 0 (var 0) (var 0) 34 = 1 from by decide +kernel] at h
    exact h
end Go.Proofs.Ytocofkkkblelgaa.H
