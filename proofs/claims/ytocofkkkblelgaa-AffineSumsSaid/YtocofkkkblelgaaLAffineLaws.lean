/-
The laws of chapter 14 that need no reference: what the walks show, with the numbers.
-/
import Derived.Test.YtocofkkkblelgaaHOpenA
import Derived.Test.YtocofkkkblelgaaLAffineSums
import Derived.Test.YtocofkkkblelgaaLAffineExact
import Derived.Test.YtocofkkkblelgaaLAffineOrders
set_option linter.unusedVariables false
set_option linter.unusedSimpArgs false
namespace Go.Proofs.Ytocofkkkblelgaa.H
open Go.RowKit Go.Proofs.YtocofkkkblelgaaW.PrintWords

theorem emod_mul_left (p v M : Int) : (p % M) * v % M = p * v % M := by rw [Int.mul_emod, Int.emod_emod_of_dvd _ (Int.dvd_refl M), ← Int.mul_emod]
theorem zip_getD (op : Int → Int → Int) {xs ys : List Int} (hx : xs.length = 34) (hy : ys.length = 34) {k : Nat} (hk : k < 34) : (List.zipWith op xs ys).getD k 0 = op (xs.getD k 0) (ys.getD k 0) := by
  simp [List.getD_eq_getElem?_getD, List.getElem?_eq_getElem (show k < xs.length by omega), List.getElem?_eq_getElem (show k < ys.length by omega), List.getElem?_zipWith]
theorem zip_ext {xs ys : List Int} (hx : xs.length = 34) (hy : ys.length = 34) (h : ∀ k, k < 34 → xs.getD k 0 = ys.getD k 0) : xs = ys := by
  apply List.ext_getElem (by omega)
  intro i h1 h2
  have := h i (by omega)
  simpa [List.getD_eq_getElem?_getD, List.getElem?_eq_getElem h1, List.getElem?_eq_getElem h2] using this

theorem eval_add (f0 g0 : Int) (fs gs vs : List Int) (hf : fs.length = 34) (hg : gs.length = 34) (n : Nat) (hn : n ≤ 34) :
    evalN (addI f0 g0) (List.zipWith addI fs gs) vs n = (evalN f0 fs vs n + evalN g0 gs vs n) % 4294967296 := by
  induction n with
  | zero => simp [evalN, addI]
  | succ n ih =>
    have ih := ih (by omega)
    simp only [evalN]
    rw [ih, zip_getD addI hf hg (by omega)]
    unfold addI
    rw [emod_mul_left, Int.add_mul]
    generalize fs.getD n 0 * vs.getD n 0 = p
    generalize gs.getD n 0 * vs.getD n 0 = q
    generalize evalN f0 fs vs n = x
    generalize evalN g0 gs vs n = y
    omega
theorem eval_sub (f0 g0 : Int) (fs gs vs : List Int) (hf : fs.length = 34) (hg : gs.length = 34) (n : Nat) (hn : n ≤ 34) :
    evalN (subI f0 g0) (List.zipWith subI fs gs) vs n = (evalN f0 fs vs n - evalN g0 gs vs n) % 4294967296 := by
  induction n with
  | zero => simp [evalN, subI]
  | succ n ih =>
    have ih := ih (by omega)
    simp only [evalN]
    rw [ih, zip_getD subI hf hg (by omega)]
    unfold subI
    rw [emod_mul_left, Int.sub_mul]
    generalize fs.getD n 0 * vs.getD n 0 = p
    generalize gs.getD n 0 * vs.getD n 0 = q
    generalize evalN f0 fs vs n = x
    generalize evalN g0 gs vs n = y
    omega
theorem eval_mul (f0 k : Int) (fs vs : List Int) (hf : fs.length = 34) (n : Nat) (hn : n ≤ 34) :
    evalN (mulI k f0 f0) (List.zipWith (mulI k) fs fs) vs n = (evalN f0 fs vs n * k) % 4294967296 := by
  induction n with
  | zero => simp [evalN, mulI]
  | succ n ih =>
    have ih := ih (by omega)
    simp only [evalN]
    rw [ih, zip_getD (mulI k) hf hf (by omega)]
    unfold mulI
    rw [emod_mul_left, emod_mul_left, Int.add_mul]
    have h1 : (fs.getD n 0 * vs.getD n 0 % 4294967296) * k % 4294967296 = fs.getD n 0 * k * vs.getD n 0 % 4294967296 := by
      rw [emod_mul_left, Int.mul_right_comm]
    generalize (fs.getD n 0 * vs.getD n 0 % 4294967296) * k = r at *
    generalize fs.getD n 0 * k * vs.getD n 0 = s at *
    generalize evalN f0 fs vs n * k = x
    omega

theorem AffineSums_walk (f0 : Int) (fs : List Int) (g0 : Int) (gs : List Int) (k : Int) (vs : List Int) (hf : IsForm f0 fs) (hg : IsForm g0 gs) (hk : 0 ≤ k ∧ k < 4294967296) (hv : IsVal vs) (w : World) :
    Calls Try.prog 6 #[FV f0 fs, FV g0 gs, .int .u32 k, .agg (nums .u32 vs).toArray] w fun e w' => e = .returned (.bool true) ∧ Below w.heap.size w w' := by
  obtain ⟨hf1, hf2, hf3⟩ := hf
  obtain ⟨hg1, hg2, hg3⟩ := hg
  obtain ⟨hv1, hv2⟩ := hv
  refine AffineSums_abs _ _ _ (Value.int .u32 (addI f0 g0) :: nums .u32 (List.zipWith addI fs gs)).toArray (Value.int .u32 (subI f0 g0) :: nums .u32 (List.zipWith subI fs gs)).toArray (Value.int .u32 (mulI k f0 f0) :: nums .u32 (List.zipWith (mulI k) fs fs)).toArray
    k (evalN f0 fs vs 34) (evalN g0 gs vs 34) hk (evalN_range _ _ _ hf2 _) (evalN_range _ _ _ hg2 _) (frow f0 fs hf1) (frow g0 gs hg1) (vrow vs hv1) ?_ ?_ ?_ ?_ ?_ ?_ ?_ ?_ knows_walk w
  · exact fun w => Eval_walk f0 fs vs hf1 hv1 hf2 hf3 hv2 w
  · exact fun w => Eval_walk g0 gs vs hg1 hv1 hg2 hg3 hv2 w
  · exact fun w => Add_walk f0 g0 fs gs hf1 hg1 hf2 hg2 hf3 hg3 w
  · exact fun w => Sub_walk f0 g0 fs gs hf1 hg1 hf2 hg2 hf3 hg3 w
  · exact fun w => Mul_walk f0 k fs hf1 hf2 hf3 w
  · intro w
    have h := Eval_walk (addI f0 g0) (List.zipWith addI fs gs) vs (zip_len _ hf1 hg1) hv1 (addI_range _ _) (u32s_zip _ addI_range _ _) hv2 w
    rw [eval_add f0 g0 fs gs vs hf1 hg1 34 (by omega)] at h
    exact h
  · intro w
    have h := Eval_walk (subI f0 g0) (List.zipWith subI fs gs) vs (zip_len _ hf1 hg1) hv1 (subI_range _ _) (u32s_zip _ subI_range _ _) hv2 w
    rw [eval_sub f0 g0 fs gs vs hf1 hg1 34 (by omega)] at h
    exact h
  · intro w
    have h := Eval_walk (mulI k f0 f0) (List.zipWith (mulI k) fs fs) vs (zip_len _ hf1 hf1) hv1 (mulI_range k _ _) (u32s_zip _ (mulI_range k) _ _) hv2 w
    rw [eval_mul f0 k fs vs hf1 34 (by omega)] at h
    exact h

theorem eval_zero (f0 : Int) (fs : List Int) (h0 : 0 ≤ f0 ∧ f0 < 4294967296) (n : Nat) : evalN f0 fs z34 n = f0 := by
  induction n with
  | zero => rfl
  | succ n ih =>
    simp only [evalN]
    rw [ih, show z34.getD n 0 = 0 from by unfold z34; rw [List.getD_eq_getElem?_getD, List.getElem?_replicate]; split <;> rfl]
    omega
theorem eval_one (f0 : Int) (fs : List Int) (h0 : 0 ≤ f0 ∧ f0 < 4294967296) (hf : U32s fs) (i : Nat) (hi : i < 34) (n : Nat) : evalN f0 fs (var i) n = if i < n then (f0 + fs.getD i 0) % 4294967296 else f0 := by
  induction n with
  | zero => rfl
  | succ n ih =>
    simp only [evalN]
    rw [ih, show (var i).getD n 0 = if i = n then 1 else 0 from by
      unfold var; rw [getD_set (by rw [z34_len]; exact hi)]
      split
      · rfl
      · unfold z34; rw [List.getD_eq_getElem?_getD, List.getElem?_replicate]; split <;> rfl]
    have := hf i
    by_cases h : i = n
    · subst h
      rw [if_neg (by omega), if_pos rfl, if_pos (by omega), Int.mul_one]
      omega
    · rw [if_neg h, Int.mul_zero]
      by_cases h2 : i < n
      · rw [if_pos h2, if_pos (by omega)]; omega
      · rw [if_neg h2, if_neg (by omega)]; omega

theorem AffineExact_walk (f0 : Int) (fs : List Int) (g0 : Int) (gs : List Int) (vs : List Int) (hf : IsForm f0 fs) (hg : IsForm g0 gs) (hv : IsVal vs) (w : World) :
    Calls Try.prog 7 #[FV f0 fs, FV g0 gs, .agg (nums .u32 vs).toArray] w fun e w' => e = .returned (.bool true) ∧ Below w.heap.size w w' := by
  obtain ⟨hf1, hf2, hf3⟩ := hf
  obtain ⟨hg1, hg2, hg3⟩ := hg
  obtain ⟨hv1, hv2⟩ := hv
  have EQ := fun w => eqForm w f0 g0 fs gs hf1 hg1
  have AP := fun w => Apart_walk f0 g0 fs gs hf1 hg1 hf3 hg3 w
  by_cases h0 : f0 = g0
  · by_cases h1 : fs = gs
    · subst h0 h1
      have hap : apart f0 f0 fs fs = (z34, false) := by
        unfold apart
        rw [if_neg (by simp)]
        rw [show (List.range 34).find? (fun i => fs.getD i 0 != fs.getD i 0) = none from by simp]
      rw [hap] at AP
      refine AffineExact_true _ _ _ (nums .u32 z34).toArray (evalN f0 fs vs 34) 0 (frow f0 fs hf1) (frow f0 fs hf1) (vrow vs hv1) (vrow z34 z34_len) (fun w => by have := EQ w; simpa using this) AP ?_ ?_ knows_walk w
      · exact fun w => Eval_walk f0 fs vs hf1 hv1 hf2 hf3 hv2 w
      · exact fun w => Eval_walk f0 fs vs hf1 hv1 hf2 hf3 hv2 w
    · obtain ⟨i, hi⟩ : ∃ i, (List.range 34).find? (fun i => fs.getD i 0 != gs.getD i 0) = some i := by
        cases h : (List.range 34).find? (fun i => fs.getD i 0 != gs.getD i 0) with
        | some i => exact ⟨i, rfl⟩
        | none =>
          exfalso
          apply h1
          refine zip_ext hf1 hg1 fun k hk => ?_
          have := List.find?_eq_none.1 h k (by simpa using hk)
          simpa using this
      have hlt : i < 34 := by simpa using List.mem_of_find?_eq_some hi
      have hne : fs.getD i 0 ≠ gs.getD i 0 := by simpa using List.find?_some hi
      have hap : apart f0 g0 fs gs = (var i, true) := by
        unfold apart
        rw [if_neg (by simp [h0]), hi]
        rfl
      rw [hap] at AP
      have e1 := eval_one f0 fs hf2 hf3 i hlt 34
      have e2 := eval_one g0 gs hg2 hg3 i hlt 34
      rw [if_pos (by omega)] at e1 e2
      have u1 := hf3 i
      have u2 := hg3 i
      have hab : ¬ (evalN f0 fs (var i) 34 = evalN g0 gs (var i) 34) := by rw [e1, e2]; omega
      refine AffineExact_false _ _ _ (nums .u32 (var i)).toArray _ _ (frow f0 fs hf1) (frow g0 gs hg1) (vrow vs hv1) (vrow _ (var_len i)) (fun w => (EQ w).trans (by rw [show (f0 == g0 && fs == gs) = false by simp [h1]])) AP (fun w => Eval_walk f0 fs (var i) hf1 (var_len i) hf2 hf3 (var_u32 i hlt) w) (fun w => Eval_walk g0 gs (var i) hg1 (var_len i) hg2 hg3 (var_u32 i hlt) w) hab (by simpa using hab) knows_walk w
  · have hap : apart f0 g0 fs gs = (z34, true) := by
      unfold apart
      rw [if_pos (by simpa using h0)]
    rw [hap] at AP
    have hab : ¬ (evalN f0 fs z34 34 = evalN g0 gs z34 34) := by rw [eval_zero f0 fs hf2, eval_zero g0 gs hg2]; exact h0
    refine AffineExact_false _ _ _ (nums .u32 z34).toArray _ _ (frow f0 fs hf1) (frow g0 gs hg1) (vrow vs hv1) (vrow _ z34_len) (fun w => (EQ w).trans (by rw [show (f0 == g0 && fs == gs) = false by simp [h0]])) AP (fun w => Eval_walk f0 fs z34 hf1 z34_len hf2 hf3 u32s_z w) (fun w => Eval_walk g0 gs z34 hg1 z34_len hg2 hg3 u32s_z w) hab (by simpa using hab) knows_walk w

theorem add_comm_l {fs gs : List Int} (hf : fs.length = 34) (hg : gs.length = 34) : List.zipWith addI gs fs = List.zipWith addI fs gs := by
  refine zip_ext (zip_len _ hg hf) (zip_len _ hf hg) fun k hk => ?_
  rw [zip_getD _ hg hf hk, zip_getD _ hf hg hk]; unfold addI; omega
theorem add_assoc_l {fs gs hs : List Int} (hf : fs.length = 34) (hg : gs.length = 34) (hh : hs.length = 34) : List.zipWith addI fs (List.zipWith addI gs hs) = List.zipWith addI (List.zipWith addI fs gs) hs := by
  refine zip_ext (zip_len _ hf (zip_len _ hg hh)) (zip_len _ (zip_len _ hf hg) hh) fun k hk => ?_
  rw [zip_getD _ hf (zip_len _ hg hh) hk, zip_getD _ hg hh hk, zip_getD _ (zip_len _ hf hg) hh hk, zip_getD _ hf hg hk]; unfold addI; omega
theorem sub_back_l {fs gs : List Int} (hf : fs.length = 34) (hg : gs.length = 34) (hu : U32s fs) : List.zipWith subI (List.zipWith addI fs gs) gs = fs := by
  refine zip_ext (zip_len _ (zip_len _ hf hg) hg) hf fun k hk => ?_
  have := hu k
  rw [zip_getD _ (zip_len _ hf hg) hg hk, zip_getD _ hf hg hk]; unfold addI subI; omega
theorem mul_zero_l {fs : List Int} (hf : fs.length = 34) : List.zipWith (mulI 0) fs fs = z34 := by
  refine zip_ext (zip_len _ hf hf) z34_len fun k hk => ?_
  rw [zip_getD _ hf hf hk, show z34.getD k 0 = 0 from by unfold z34; rw [List.getD_eq_getElem?_getD, List.getElem?_replicate]; split <;> rfl]; simp [mulI]
theorem mul_one_l {fs : List Int} (hf : fs.length = 34) (hu : U32s fs) : List.zipWith (mulI 1) fs fs = fs := by
  refine zip_ext (zip_len _ hf hf) hf fun k hk => ?_
  have := hu k
  rw [zip_getD _ hf hf hk]; unfold mulI; omega
theorem mul_add_l {fs gs : List Int} (hf : fs.length = 34) (hg : gs.length = 34) : List.zipWith addI (List.zipWith (mulI 3) fs fs) (List.zipWith (mulI 3) gs gs) = List.zipWith (mulI 3) (List.zipWith addI fs gs) (List.zipWith addI fs gs) := by
  have h3 := zip_len addI hf hg
  refine zip_ext (zip_len _ (zip_len _ hf hf) (zip_len _ hg hg)) (zip_len _ h3 h3) fun k hk => ?_
  rw [zip_getD _ (zip_len _ hf hf) (zip_len _ hg hg) hk, zip_getD _ hf hf hk, zip_getD _ hg hg hk, zip_getD _ h3 h3 hk, zip_getD _ hf hg hk]; unfold addI mulI; omega

theorem eqSelf (c : Int) (cs : List Int) (h : cs.length = 34) (w : World) : (Op.equalIn 10000 25 (.agg (Value.int .u32 c :: nums .u32 cs).toArray) (.agg (Value.int .u32 c :: nums .u32 cs).toArray)).run Try.prog w = .ok true w := by
  have := eqForm w c c cs cs h h
  simpa using this

theorem AffineOrders_walk (f0 : Int) (fs : List Int) (g0 : Int) (gs : List Int) (h0 : Int) (hs : List Int) (hf : IsForm f0 fs) (hg : IsForm g0 gs) (hh : IsForm h0 hs) (w : World) :
    Calls Try.prog 8 #[FV f0 fs, FV g0 gs, FV h0 hs] w fun e w' => e = .returned (.bool true) ∧ Below w.heap.size w w' := by
  obtain ⟨hf1, hf2, hf3⟩ := hf
  obtain ⟨hg1, hg2, hg3⟩ := hg
  obtain ⟨hh1, hh2, hh3⟩ := hh
  have ls := zip_len addI hf1 hg1
  have us := u32s_zip addI addI_range fs gs
  have lu := zip_len addI hg1 hh1
  have uu := u32s_zip addI addI_range gs hs
  have ly := zip_len (mulI 3) hf1 hf1
  have uy := u32s_zip _ (mulI_range 3) fs fs
  have lv := zip_len (mulI 3) hg1 hg1
  have uv := u32s_zip _ (mulI_range 3) gs gs
  refine AffineOrders_abs (Value.int .u32 f0 :: nums .u32 fs).toArray (Value.int .u32 g0 :: nums .u32 gs).toArray (Value.int .u32 h0 :: nums .u32 hs).toArray (Value.int .u32 (addI f0 g0) :: nums .u32 (List.zipWith addI fs gs)).toArray (Value.int .u32 (addI (addI f0 g0) h0) :: nums .u32 (List.zipWith addI (List.zipWith addI fs gs) hs)).toArray
    (Value.int .u32 (addI g0 h0) :: nums .u32 (List.zipWith addI gs hs)).toArray (Value.int .u32 0 :: nums .u32 z34).toArray (Value.int .u32 (mulI 3 (addI f0 g0) (addI f0 g0)) :: nums .u32 (List.zipWith (mulI 3) (List.zipWith addI fs gs) (List.zipWith addI fs gs))).toArray
    (Value.int .u32 (mulI 3 f0 f0) :: nums .u32 (List.zipWith (mulI 3) fs fs)).toArray (Value.int .u32 (mulI 3 g0 g0) :: nums .u32 (List.zipWith (mulI 3) gs gs)).toArray
    (frow _ _ hf1) (frow _ _ hg1) (frow _ _ hh1) ?_ ?_ ?_ ?_ ?_ ?_ ?_ ?_ ?_ ?_ ?_ ?_ ?_ (eqSelf _ _ ls) (eqSelf _ _ (zip_len _ ls hh1)) (eqSelf _ _ hf1) (eqSelf _ _ z34_len) (eqSelf _ _ (zip_len _ ls ls)) knows_walk w
  · exact fun w => Add_walk f0 g0 fs gs hf1 hg1 hf2 hg2 hf3 hg3 w
  · intro w
    have h := Add_walk g0 f0 gs fs hg1 hf1 hg2 hf2 hg3 hf3 w
    rw [add_comm_l hf1 hg1, show addI g0 f0 = addI f0 g0 by unfold addI; omega] at h
    exact h
  · exact fun w => Add_walk _ h0 _ hs ls hh1 (addI_range _ _) hh2 us hh3 w
  · exact fun w => Add_walk g0 h0 gs hs hg1 hh1 hg2 hh2 hg3 hh3 w
  · intro w
    have h := Add_walk f0 _ fs _ hf1 lu hf2 (addI_range g0 h0) hf3 uu w
    rw [add_assoc_l hf1 hg1 hh1, show addI f0 (addI g0 h0) = addI (addI f0 g0) h0 by unfold addI; omega] at h
    exact h
  · intro w
    have h := Sub_walk (addI f0 g0) g0 _ gs ls hg1 (addI_range f0 g0) hg2 us hg3 w
    rw [sub_back_l hf1 hg1 hf3, show subI (addI f0 g0) g0 = f0 by unfold addI subI; omega] at h
    exact h
  · intro w
    have h := Mul_walk f0 0 fs hf1 hf2 hf3 w
    rw [mul_zero_l hf1, show mulI 0 f0 f0 = 0 by simp [mulI]] at h
    exact h
  · exact fun w => Const_walk 0 w
  · intro w
    have h := Mul_walk f0 1 fs hf1 hf2 hf3 w
    rw [mul_one_l hf1 hf3, show mulI 1 f0 f0 = f0 by unfold mulI; omega] at h
    exact h
  · exact fun w => Mul_walk _ 3 _ ls (addI_range f0 g0) us w
  · exact fun w => Mul_walk f0 3 fs hf1 hf2 hf3 w
  · exact fun w => Mul_walk g0 3 gs hg1 hg2 hg3 w
  · intro w
    have h := Add_walk _ _ _ _ ly lv (mulI_range 3 f0 f0) (mulI_range 3 g0 g0) uy uv w
    rw [mul_add_l hf1 hg1, show addI (mulI 3 f0 f0) (mulI 3 g0 g0) = mulI 3 (addI f0 g0) (addI f0 g0) by unfold addI mulI; omega] at h
    exact h
end Go.Proofs.Ytocofkkkblelgaa.H
