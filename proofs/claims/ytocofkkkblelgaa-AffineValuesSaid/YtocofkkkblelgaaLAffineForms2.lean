/-
AffineForms: with the numbers.
-/
import Derived.Test.YtocofkkkblelgaaLAffineForms
set_option linter.unusedVariables false
set_option linter.unusedSimpArgs false
namespace Go.Proofs.Ytocofkkkblelgaa.H
open Go.RowKit Go.Proofs.YtocofkkkblelgaaW.PrintWords

theorem sumOp_add (x y : Int) : sumOp 1 1 x y = addI x y := by unfold sumOp addI; omega
theorem sumOp_sub (x y : Int) : sumOp 1 4294967295 x y = subI x y := by unfold sumOp subI; omega
theorem sumOp_mul (k x y : Int) : sumOp k 0 x y = mulI k x x := by unfold sumOp mulI; rw [Int.mul_zero, Int.add_zero]
theorem sumL_add (fs gs : List Int) : sumL 1 1 fs gs = List.zipWith addI fs gs := by unfold sumL; congr 1; funext x y; exact sumOp_add x y
theorem sumL_sub (fs gs : List Int) : sumL 1 4294967295 fs gs = List.zipWith subI fs gs := by unfold sumL; congr 1; funext x y; exact sumOp_sub x y
theorem sumL_mul (k : Int) {fs gs : List Int} (hf : fs.length = 34) (hg : gs.length = 34) : sumL k 0 fs gs = List.zipWith (mulI k) fs fs := by
  unfold sumL
  apply List.ext_getElem (by simp [hf, hg])
  intro i h1 h2
  simp only [List.getElem_zipWith]
  exact sumOp_mul k _ _
theorem eqSelfZ (w : World) : (Op.equalIn 10000 25 (.agg (Value.int .u32 0 :: nums .u32 z34).toArray) (.agg (Value.int .u32 0 :: nums .u32 z34).toArray)).run Try.prog w = .ok true w := by
  have := eqForm w 0 0 z34 z34 z34_len z34_len
  simpa using this
theorem z_form : IsForm 0 z34 := ⟨z34_len, by omega, u32s_z⟩
theorem as_of (c : Int) (l : List Int) (h1 : l.length = 34) (h2 : 0 ≤ c ∧ c < 4294967296) (h3 : U32s l) : GRF 11 #[.agg (Value.int .u32 c :: nums .u32 l).toArray] c l := As_gives c l ⟨h1, h2, h3⟩

theorem AffineForms_walk (f0 : Int) (fs : List Int) (g0 : Int) (gs : List Int) (k i : Int) (hf : IsForm f0 fs) (hg : IsForm g0 gs) (hk : 0 ≤ k ∧ k < 4294967296) (hi : -9223372036854775808 ≤ i ∧ i < 9223372036854775808) (w : World) :
    Calls Try.prog 3 #[FV f0 fs, FV g0 gs, .int .u32 k, .int .i64 i] w fun e w' => e = .returned (.bool true) ∧ Below w.heap.size w w' := by
  obtain ⟨hf1, hf2, hf3⟩ := hf
  obtain ⟨hg1, hg2, hg3⟩ := hg
  have ls := zip_len addI hf1 hg1
  have ld := zip_len subI hf1 hg1
  have lm := zip_len (mulI k) hf1 hf1
  have us := u32s_zip addI addI_range fs gs
  have ud := u32s_zip subI subI_range fs gs
  have um := u32s_zip (mulI k) (mulI_range k) fs fs
  have S1 : GRF2 14 f0 1 g0 1 fs gs (addI f0 g0) (List.zipWith addI fs gs) := by
    have := Sum_gives f0 1 g0 1 fs gs hf1 hg1
    rwa [sumOp_add, sumL_add] at this
  have S2 : GRF2 14 f0 1 g0 4294967295 fs gs (subI f0 g0) (List.zipWith subI fs gs) := by
    have := Sum_gives f0 1 g0 4294967295 fs gs hf1 hg1
    rwa [sumOp_sub, sumL_sub] at this
  have S3 : GRF2 14 f0 k g0 0 fs gs (mulI k f0 f0) (List.zipWith (mulI k) fs fs) := by
    have := Sum_gives f0 k g0 0 fs gs hf1 hg1
    rwa [sumOp_mul, sumL_mul k hf1 hg1] at this
  by_cases h : i < 0 ∨ 33 < i
  · refine AffineForms_bad _ _ (Value.int .u32 0 :: nums .u32 z34).toArray _ _ _ _ f0 g0 (addI f0 g0) (subI f0 g0) (mulI k f0 f0) k fs gs _ _ _ (frow f0 fs hf1) (frow g0 gs hg1) (frow 0 z34 z34_len)
      (as_of f0 fs hf1 hf2 hf3) (as_of g0 gs hg1 hg2 hg3) (as_of _ _ ls (addI_range _ _) us) (as_of _ _ ld (subI_range _ _) ud) (as_of _ _ lm (mulI_range k _ _) um) (as_of k z34 z34_len hk u32s_z)
      (fun w => Add_walk f0 g0 fs gs hf1 hg1 hf2 hg2 hf3 hg3 w) (fun w => Sub_walk f0 g0 fs gs hf1 hg1 hf2 hg2 hf3 hg3 w) (fun w => Mul_walk f0 k fs hf1 hf2 hf3 w) (fun w => Const_walk k w)
      S1 S2 S3 (New_gives k) (Same_yes _ _ ls) (Same_yes _ _ ld) (Same_yes _ _ lm) (Same_yes _ _ z34_len) knows_walk i h (fun w => Var_bad i (by omega) w) (fun w => ?_) w
    exact eqSelfZ w
  · obtain ⟨j, rfl⟩ := Int.eq_ofNat_of_zero_le (show 0 ≤ i by omega)
    have hj : j < 34 := by omega
    exact AffineForms_ok _ _ (Value.int .u32 0 :: nums .u32 (var j)).toArray _ _ _ _ f0 g0 (addI f0 g0) (subI f0 g0) (mulI k f0 f0) k fs gs _ _ _ (frow f0 fs hf1) (frow g0 gs hg1) (frow 0 (var j) (var_len j))
      (as_of f0 fs hf1 hf2 hf3) (as_of g0 gs hg1 hg2 hg3) (as_of _ _ ls (addI_range _ _) us) (as_of _ _ ld (subI_range _ _) ud) (as_of _ _ lm (mulI_range k _ _) um) (as_of k z34 z34_len hk u32s_z)
      (fun w => Add_walk f0 g0 fs gs hf1 hg1 hf2 hg2 hf3 hg3 w) (fun w => Sub_walk f0 g0 fs gs hf1 hg1 hf2 hg2 hf3 hg3 w) (fun w => Mul_walk f0 k fs hf1 hf2 hf3 w) (fun w => Const_walk k w)
      S1 S2 S3 (New_gives k) (Same_yes _ _ ls) (Same_yes _ _ ld) (Same_yes _ _ lm) (Same_yes _ _ z34_len) knows_walk (var j) (j : Int) ⟨by omega, by omega⟩ (fun w => Var_walk j hj w) (as_of 0 (var j) (var_len j) (by omega) (var_u32 j hj)) (RVar_gives j hj) (Same_yes 0 (var j) (var_len j)) w
end Go.Proofs.Ytocofkkkblelgaa.H
