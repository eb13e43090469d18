/-
AffineValues: with the numbers.
-/
import Derived.Test.YtocofkkkblelgaaLAffineValues
import Derived.Test.YtocofkkkblelgaaLAffineForms2
set_option linter.unusedVariables false
set_option linter.unusedSimpArgs false
namespace Go.Proofs.Ytocofkkkblelgaa.H
open Go.RowKit Go.Proofs.YtocofkkkblelgaaW.PrintWords

theorem row_gives (vs : List Int) (hv : IsVal vs) : ∀ w, Calls Try.prog 25 #[.agg (nums .u32 vs).toArray] w fun e w' => ∃ ad cap, e = .returned (.slice (some ad) 34 cap) ∧ 34 ≤ cap ∧ ReadsInt w' .u32 (some ad) 34 vs ∧ Below w.heap.size w w' := by
  intro w
  refine (row_walk vs hv w).mono ?_
  rintro e w' ⟨v, rfl, ho, hb⟩
  obtain ⟨ad, c, rfl, h1, h2⟩ := own_form ho
  exact ⟨ad, c, rfl, h1, h2, hb⟩

/-- How many count, from i on. -/
def cntFrom (fs : List Int) (i : Nat) : Nat → Int
  | 0 => 0
  | d + 1 => (if fs.getD i 0 > 0 then 1 else 0) + cntFrom fs (i + 1) d
theorem cnt_range (fs : List Int) (d : Nat) : ∀ i, 0 ≤ cntFrom fs i d ∧ cntFrom fs i d ≤ d := by
  induction d with
  | zero => intro i; simp [cntFrom]
  | succ d ih => intro i; have := ih (i + 1); simp only [cntFrom]; split <;> omega
theorem counts_l0 (fs : List Int) (c : Int) (hl : fs.length = 34) (d : Nat) : ∀ (k i : Nat) (n : Int), i + d = 34 → d < k → 0 ≤ n → n + d ≤ 34 → Q.hurdleref14_Counts.l0 k n (i : Int) c fs = some (n + cntFrom fs i d) := by
  induction d with
  | zero =>
    intro k i n hi hk h0 hn
    obtain ⟨k, rfl⟩ : ∃ m, k = m + 1 := ⟨k - 1, by omega⟩
    simp only [Q.hurdleref14_Counts.l0]
    rw [if_neg (by omega)]
    simp [cntFrom]
  | succ d ih =>
    intro k i n hi hk h0 hn
    obtain ⟨k, rfl⟩ : ∃ m, k = m + 1 := ⟨k - 1, by omega⟩
    simp only [Q.hurdleref14_Counts.l0]
    rw [if_pos (by omega), if_pos (by omega), if_pos (by omega), rd_getD]
    simp only [cntFrom]
    by_cases h : fs.getD i 0 > 0
    · rw [if_pos h, if_pos h, wrap_small (i := (i : Int)) (by omega) (by omega)]
      try rw [wrap_small h0 (by omega)]
      have := ih k (i + 1) (n + 1) (by omega) (by omega) (by omega) (by omega)
      rw [show ((i + 1 : Nat) : Int) = (i : Int) + 1 from rfl] at this
      rw [this]
      congr 1; omega
    · rw [if_neg h, if_neg h, wrap_small (by omega) (by omega)]
      have := ih k (i + 1) n (by omega) (by omega) (by omega) (by omega)
      rw [show ((i + 1 : Nat) : Int) = (i : Int) + 1 from rfl] at this
      rw [this]
      congr 1; omega
theorem cnt_zero (fs : List Int) (hu : U32s fs) (d : Nat) : ∀ i, cntFrom fs i d = 0 ↔ ∀ j, i ≤ j → j < i + d → fs.getD j 0 = 0 := by
  induction d with
  | zero => intro i; simp [cntFrom]; omega
  | succ d ih =>
    intro i
    have h1 := cnt_range fs d (i + 1)
    have h2 := hu i
    simp only [cntFrom]
    constructor
    · intro h j hj hlt
      by_cases e : j = i
      · subst e
        split at h <;> omega
      · exact (ih (i + 1)).1 (by split at h <;> omega) j (by omega) (by omega)
    · intro h
      rw [if_neg (by rw [h i (by omega) (by omega)]; omega), (ih (i + 1)).2 (fun j hj hlt => h j (by omega) (by omega))]
      rfl
theorem z34_getD (j : Nat) : z34.getD j 0 = 0 := by unfold z34; rw [List.getD_eq_getElem?_getD, List.getElem?_replicate]; split <;> rfl
theorem counts_gives (c : Int) (fs : List Int) (hl : fs.length = 34) : ∀ ad n w, 34 ≤ n → ReadsInt w .u32 (some ad) 34 fs → Calls Try.prog 22 #[.agg #[.int .u32 c, .slice (some ad) 34 n]] w fun e w' => e = .returned (.int .i64 (cntFrom fs 0 34)) ∧ Below w.heap.size w w' := by
  intro ad n w hn hr
  have h : Q.hurdleref14_Counts.f 36 c fs = some (cntFrom fs 0 34) := by
    unfold Q.hurdleref14_Counts.f
    have := counts_l0 fs c hl 34 36 0 0 (by omega) (by omega) (by omega) (by omega)
    simpa using this
  have := Q.hurdleref14_Counts.calls 36 c (some ad) n fs _ w (by rw [hl]; exact c_of_reads hr) (by omega) h
  rw [hl] at this
  exact this
theorem tmod_pos {a : Int} (h : 0 ≤ a) : Int.tmod a 4294967296 = a % 4294967296 := Int.tmod_eq_emod_of_nonneg h
theorem mul_lt {x y : Int} (hx : 0 ≤ x ∧ x < 4294967296) (hy : 0 ≤ y ∧ y < 4294967296) : 0 ≤ x * y ∧ x * y < 18446744073709551616 := by
  refine ⟨Int.mul_nonneg hx.1 hy.1, ?_⟩
  have h1 : x * y ≤ 4294967295 * y := Int.mul_le_mul_of_nonneg_right (by omega) hy.1
  have h2 : 4294967295 * y ≤ 4294967295 * 4294967295 := Int.mul_le_mul_of_nonneg_left (by omega) (by omega)
  omega
theorem u64w {x : Int} (h : 0 ≤ x ∧ x < 18446744073709551616) : IntKind.u64.wrap x = x := by show x % 18446744073709551616 = x; omega
theorem reval_l0 (fs vs : List Int) (c : Int) (hl : fs.length = 34) (hv : vs.length = 34) (hfu : U32s fs) (hvu : U32s vs) (hc : 0 ≤ c ∧ c < 4294967296) (d : Nat) : ∀ (k i : Nat), i + d = 34 → d < k →
    Q.hurdleref14_Eval.l0 k vs (evalN c fs vs i) (i : Int) c fs = some (evalN c fs vs 34) := by
  induction d with
  | zero =>
    intro k i hi hk
    obtain ⟨k, rfl⟩ : ∃ m, k = m + 1 := ⟨k - 1, by omega⟩
    obtain rfl : i = 34 := by omega
    have := evalN_range c fs vs hc 34
    simp only [Q.hurdleref14_Eval.l0]
    rw [if_neg (by omega)]
    congr 1; omega
  | succ d ih =>
    intro k i hi hk
    obtain ⟨k, rfl⟩ : ∃ m, k = m + 1 := ⟨k - 1, by omega⟩
    have he := evalN_range c fs vs hc i
    have h1 := hfu i
    have h2 := hvu i
    have hm := mul_lt h1 h2
    simp only [Q.hurdleref14_Eval.l0]
    rw [if_pos (by omega), if_pos (by omega), if_pos (by omega), if_pos (by omega), rd_getD, rd_getD, wrap_small (by omega) (by omega), u64w (x := fs.getD i 0) (by omega), u64w (x := vs.getD i 0) (by omega), u64w hm, tmod_pos hm.1]
    rw [u64w (by omega), tmod_pos (by omega)]
    exact ih k (i + 1) (by omega) (by omega)
theorem reval_gives (c : Int) (fs vs : List Int) (hl : fs.length = 34) (hv : vs.length = 34) (hfu : U32s fs) (hvu : U32s vs) (hc : 0 ≤ c ∧ c < 4294967296) : ∀ (ad1 ad2 : Addr) (n1 n2 : Nat) (w : World), 34 ≤ n1 → 34 ≤ n2 → ReadsInt w .u32 (some ad1) 34 fs → ReadsInt w .u32 (some ad2) 34 vs →
    Calls Try.prog 24 #[.agg #[.int .u32 c, .slice (some ad1) 34 n1], .slice (some ad2) 34 n2] w fun e w' => e = .returned (.int .u32 (evalN c fs vs 34)) ∧ Below w.heap.size w w' := by
  intro ad1 ad2 n1 n2 w h1 h2 r1 r2
  have h : Q.hurdleref14_Eval.f 36 c fs vs = some (evalN c fs vs 34) := by
    unfold Q.hurdleref14_Eval.f
    rw [u64w (by omega)]
    exact reval_l0 fs vs c hl hv hfu hvu hc 34 36 0 (by omega) (by omega)
  have := Q.hurdleref14_Eval.calls 36 c (some ad1) n1 fs (some ad2) n2 vs _ w (by rw [hl]; exact c_of_reads r1) (by omega) (by rw [hv]; exact c_of_reads r2) (by omega) h
  rw [hl, hv] at this
  exact this

theorem hit_eq (f0 : Int) (fs : List Int) (hl : fs.length = 34) (m : Nat) (hm : m < 34) : (f0 == 0 && fs == var m) = isVar f0 fs m := by
  unfold isVar formEq
  show (f0 == 0 && fs == var m) = ((fs.getD m 0 == 1) && (0 == f0 && var m == fs))
  by_cases h1 : f0 = 0
  · by_cases h2 : fs = var m
    · subst h1
      rw [h2]
      have : (var m).getD m 0 = 1 := by unfold var; rw [getD_set (by rw [z34_len]; exact hm), if_pos rfl]
      rw [this]
      simp
    · have h3 : ¬ var m = fs := fun h => h2 h.symm
      rw [show (fs == var m) = false by simpa using h2, show (var m == fs) = false by simpa using h3]
      simp
  · have h3 : ¬ 0 = f0 := fun h => h1 h.symm
    rw [show (f0 == 0) = false by simpa using h1, show (0 == f0) = false by simpa using h3]
    simp

theorem AffineValues_walk (f0 : Int) (fs vs : List Int) (hf : IsForm f0 fs) (hv : IsVal vs) (w : World) :
    Calls Try.prog 4 #[FV f0 fs, .agg (nums .u32 vs).toArray] w fun e w' => e = .returned (.bool true) ∧ Below w.heap.size w w' := by
  have A1 := As_gives f0 fs hf
  have RO := row_gives vs hv
  obtain ⟨hf1, hf2, hf3⟩ := hf
  obtain ⟨hv1, hv2⟩ := hv
  have CT := fun w => Constant_walk f0 fs hf1 w
  have SG := fun w => Single_walk f0 fs hf1 hf3 w
  have EV := fun w => Eval_walk f0 fs vs hf1 hv1 hf2 hf3 hv2 w
  have SAM : ∀ m, m < 34 → GSame f0 0 fs (var m) (isVar f0 fs m) := fun m hm => by
    rw [← hit_eq f0 fs hf1 m hm]; exact Same_gives f0 0 fs (var m) hf1 (var_len m)
  have SPY : ∀ m, m < 34 → (∀ j, j < m → isVar f0 fs j = false) → isVar f0 fs m = true → (single f0 fs).2 = true ∧ (single f0 fs).1 = (m : Int) := fun m hm hall h => by
    have := find_first (isVar f0 fs) 34 m hm hall h
    unfold single
    rw [this]
    exact ⟨rfl, rfl⟩
  have SPN : (∀ j, j < 34 → isVar f0 fs j = false) → (single f0 fs).2 = false ∧ (single f0 fs).1 = 0 := fun hall => by
    have := find_none (isVar f0 fs) 34 hall
    unfold single
    rw [this]
    exact ⟨rfl, rfl⟩
  have hz : fs = z34 ↔ cntFrom fs 0 34 = 0 := by
    rw [cnt_zero fs hf3]
    constructor
    · intro h j _ _; rw [h]; exact z34_getD j
    · intro h; exact zip_extA hf1 z34_len (fun k hk => by rw [h k (by omega) (by omega), z34_getD])
  by_cases h : fs = z34
  · have hb : (fs == z34) = true := by simpa using h
    rw [hb, if_pos rfl] at CT
    exact AffineValues_true _ _ f0 (evalN f0 fs vs 34) _ _ _ fs vs (isVar f0 fs) (frow f0 fs hf1) (vrow vs hv1) (by simp) (hz.1 h) CT SG A1 (counts_gives f0 fs hf1) EV RO (reval_gives f0 fs vs hf1 hv1 hf3 hv2 hf2) (fun m hm => RVar_gives m hm) SAM SPY SPN knows_walk w
  · have hb : (fs == z34) = false := by simpa using h
    rw [hb, if_neg (by decide)] at CT
    exact AffineValues_false _ _ f0 (evalN f0 fs vs 34) _ _ _ fs vs (isVar f0 fs) (frow f0 fs hf1) (vrow vs hv1) (by simp) (fun hn => h (hz.2 hn)) CT SG A1 (counts_gives f0 fs hf1) EV RO (reval_gives f0 fs vs hf1 hv1 hf3 hv2 hf2) (fun m hm => RVar_gives m hm) SAM SPY SPN knows_walk w
end Go.Proofs.Ytocofkkkblelgaa.H
