/-
The reference of data: Bytes, From, in plain lists.
-/
import Derived.Test.YtgfmeiddicodoaaHRFrom
set_option linter.unusedVariables false
set_option linter.unusedSimpArgs false
namespace Go.Proofs.Ytgfmeiddicodoaa.H
open Go.RowKit Go.Proofs.YtgfmeiddicodoaaW.PrintWords

theorem lowL_4 (v : Int) (h : 0 ≤ v ∧ v < 4294967296) : lowL v 4 = b4 v := by
  have e1 : v / 256 / 256 = v / 65536 := by omega
  have e2 : v / 65536 / 256 = v / 16777216 := by omega
  have e3 : v / 16777216 % 256 = v / 16777216 := by omega
  simp [lowL, b4, e1, e2, e3]
theorem lowL_8 (v : Int) (h : 0 ≤ v ∧ v < 18446744073709551616) : lowL v 8 = b4 (v % 4294967296) ++ b4 (v / 4294967296) := by
  rw [← lowL_4 (v % 4294967296) (by omega), ← lowL_4 (v / 4294967296) (by omega)]
  simp only [lowL, List.cons_append, List.nil_append, List.cons.injEq, and_true]
  omega
def accB (x0 x1 x2 : Int) (ags : List Int) : Nat → List Int
  | 0 => (lowL x0 4 ++ lowL x1 4) ++ lowL x2 8
  | k + 1 => accB x0 x1 x2 ags k ++ lowL (ags.getD k 0) 8
theorem accB_length (x0 x1 x2 : Int) (ags : List Int) (k : Nat) : (accB x0 x1 x2 ags k).length = 16 + 8 * k := by
  induction k with
  | zero => simp [accB, lowL_length]
  | succ k ih => simp [accB, lowL_length, ih]; omega
theorem accB_six (x0 x1 x2 x3 x4 x5 x6 x7 x8 : Int) (hd : IsD x0 x1 x2 [x3, x4, x5, x6, x7, x8]) : accB x0 x1 x2 [x3, x4, x5, x6, x7, x8] 6 = b4s (wordsL x0 x1 x2 [x3, x4, x5, x6, x7, x8]) := by
  have a := fun k hk => hd.ags k hk
  have a0 := a 0 (by omega)
  have a1 := a 1 (by omega)
  have a2 := a 2 (by omega)
  have a3 := a 3 (by omega)
  have a4 := a 4 (by omega)
  have a5 := a 5 (by omega)
  simp only [List.getD_cons_zero, List.getD_cons_succ] at a0 a1 a2 a3 a4 a5
  simp only [accB, List.getD_cons_zero, List.getD_cons_succ, wordsL, b4s]
  rw [lowL_4 x0 hd.nr, lowL_4 x1 hd.ar, lowL_8 x2 hd.ip, lowL_8 x3 a0, lowL_8 x4 a1, lowL_8 x5 a2, lowL_8 x6 a3, lowL_8 x7 a4, lowL_8 x8 a5]
  simp only [List.append_assoc, List.append_nil]
theorem RBytes_walk (x0 x1 x2 x3 x4 x5 x6 x7 x8 : Int) (hd : IsD x0 x1 x2 [x3, x4, x5, x6, x7, x8]) (w : World) :
    Calls Try.prog 34 #[.agg #[.int .u32 x0, .int .u32 x1, .int .u64 x2, .int .u64 x3, .int .u64 x4, .int .u64 x5, .int .u64 x6, .int .u64 x7, .int .u64 x8]] w fun e w' => ∃ v, e = .returned v ∧
      w'.ownsRow w.heap.size 5 1 v 64 (nums .u8 (b4s (wordsL x0 x1 x2 [x3, x4, x5, x6, x7, x8]))) ∧ Below w.heap.size w w' := by
  have h0 := hd.nr
  have h1 := hd.ar
  have h := RBytes_any x0 x1 x2 [x3, x4, x5, x6, x7, x8] #[.int .u32 x0, .int .u32 x1, .int .u64 x2, .int .u64 x3, .int .u64 x4, .int .u64 x5, .int .u64 x6, .int .u64 x7, .int .u64 x8] h0 h1 rfl rfl rfl
    (by intro k hk; rcases (by omega : k = 0 ∨ k = 1 ∨ k = 2 ∨ k = 3 ∨ k = 4 ∨ k = 5) with rfl | rfl | rfl | rfl | rfl | rfl <;> rfl)
    (lowL x0 4) (lowL x1 4) (lowL x2 8) (lowL x0 4 ++ lowL x1 4) [] (fun k => lowL ([x3, x4, x5, x6, x7, x8].getD k 0) 8) (accB x0 x1 x2 [x3, x4, x5, x6, x7, x8]) rfl rfl (fun k => rfl)
    (by simp [lowL_length]) (by simp [lowL_length]) (by intro k hk; rw [accB_length, lowL_length]; omega)
    (low_gives x0 (by omega) 4 (by omega)) (low_gives x1 (by omega) 4 (by omega)) (low_gives x2 hd.ip 8 (by omega)) (fun k hk => low_gives _ (hd.ags k hk) 8 (by omega)) w
  rw [accB_length, accB_six _ _ _ _ _ _ _ _ _ hd] at h
  exact h
theorem b4s_drop (k : Nat) : ∀ ws : List Int, (b4s ws).drop (4 * k) = b4s (ws.drop k) := by
  induction k with
  | zero => intro ws; simp
  | succ k ih =>
    intro ws
    cases ws with
    | nil => simp [b4s]
    | cons x xs =>
      rw [List.drop_succ_cons, ← ih xs, show 4 * (k + 1) = 4 + 4 * k by omega, ← List.drop_drop]
      rfl
theorem numL_b4 (x : Int) : numL (b4 x) = x := by simp only [numL, b4]; omega
theorem numL_b8 (x y : Int) : numL (b4 x ++ b4 y) = x + y * 4294967296 := by simp only [numL, b4, List.cons_append, List.nil_append]; omega
theorem piece4 (ws : List Int) (k : Nat) (h : k < ws.length) : ((b4s ws).drop (4 * k)).take 4 = b4 (ws.getD k 0) := by
  rw [b4s_drop, List.drop_eq_getElem_cons h]
  simp [b4s, b4, List.getD_eq_getElem?_getD, List.getElem?_eq_getElem h]
theorem piece8 (ws : List Int) (k : Nat) (h : k + 1 < ws.length) : ((b4s ws).drop (4 * k)).take 8 = b4 (ws.getD k 0) ++ b4 (ws.getD (k + 1) 0) := by
  rw [b4s_drop, List.drop_eq_getElem_cons (show k < ws.length by omega), List.drop_eq_getElem_cons h]
  simp [b4s, b4, List.getD_eq_getElem?_getD, List.getElem?_eq_getElem h, List.getElem?_eq_getElem (show k < ws.length by omega)]
theorem ocs_one (ws : List Int) (k : Nat) : ∀ v ∈ ocs ws k, v.oneCell' = true := by
  induction k with
  | zero => intro v hv; simp [ocs] at hv; rcases hv with rfl | rfl | rfl | rfl <;> rfl
  | succ k ih =>
    intro v hv
    rcases List.mem_or_eq_of_mem_set hv with h | h
    · exact ih v h
    · rw [h]; rfl
/-- From, of the bytes of sixteen words. -/
theorem RFrom_words (A : Option Addr) (c : Nat) (ws : List Int) (hl : ws.length = 16) (hu : U32s ws) (hc : 64 ≤ c) (w : World) (hr : ReadsInt w .u8 A 64 (b4s ws)) :
    Calls Try.prog 35 #[.slice A 64 c] w fun e w' => e = .returned (ofL ws) ∧ Below w.heap.size w w' := by
  have hlen : (b4s ws).length = 64 := by rw [b4s_length, hl]
  have hB := b4s_bytes ws hu
  have hbm : ∀ P : List Int, (∀ x ∈ P, x ∈ b4s ws) → ∀ x ∈ P, 0 ≤ x ∧ x < 256 := by
    intro P hP x hx
    obtain ⟨i, hi, he⟩ := List.mem_iff_getElem.1 (hP x hx)
    have := hB i
    rw [List.getD_eq_getElem?_getD, List.getElem?_eq_getElem hi, he] at this
    exact this
  obtain ⟨A0, k0, r0⟩ := cut_h A 64 c 4 (by omega) hc
  obtain ⟨A1, k1, r1⟩ := cut_lh A 64 c 4 8 (by omega) (by omega) hc
  obtain ⟨A2, k2, r2⟩ := cut_lh A 64 c 8 16 (by omega) (by omega) hc
  have p0 := piece4 ws 0 (by omega)
  have p1 := piece4 ws 1 (by omega)
  have p2 := piece8 ws 2 (by omega)
  have m0 : (b4s ws).take 4 = b4 (ws.getD 0 0) := p0
  have h0 := hu 0
  have h1 := hu 1
  refine RFrom_any A A0 A1 A2 c c (c - 4) (c - 8) (b4s ws) (ws.getD 0 0) (ws.getD 1 0) (arg2 ws 2) (fun k => arg2 ws (4 + 2 * k)) h0 h1 k0 k1 k2 ?_ ?_ ?_ ?_ (fun k => (ocs ws k).toArray) rfl ?_ ?_ ?_ ?_ w hr
  · intro W hW
    have := number_gives A0 4 c (b4 (ws.getD 0 0)) rfl (by omega) (by omega) (hbm _ (by intro x hx; rw [← m0] at hx; exact List.mem_of_mem_take hx)) W (by have := r0 W .u8 _ hW; rw [m0] at this; exact this)
    rw [numL_b4] at this
    exact this
  · intro W hW
    have := number_gives A1 4 (c - 4) (b4 (ws.getD 1 0)) rfl (by omega) (by omega) (hbm _ (by intro x hx; rw [← p1] at hx; exact List.mem_of_mem_drop (List.mem_of_mem_take hx))) W (by have := r1 W .u8 _ hW; rw [← p1]; exact this)
    rw [numL_b4] at this
    exact this
  · intro W hW
    have := number_gives A2 8 (c - 8) (b4 (ws.getD 2 0) ++ b4 (ws.getD 3 0)) rfl (by omega) (by omega) (hbm _ (by intro x hx; rw [← p2] at hx; exact List.mem_of_mem_drop (List.mem_of_mem_take hx))) W (by have := r2 W .u8 _ hW; rw [← p2]; exact this)
    rw [numL_b8] at this
    exact this
  · intro k hk
    obtain ⟨Ak, kk, rk⟩ := cut_lh A 64 c (16 + 8 * k) (24 + 8 * k) (by omega) (by omega) hc
    have e8 : 24 + 8 * k - (16 + 8 * k) = 8 := by omega
    rw [e8] at kk rk
    refine ⟨Ak, c - (16 + 8 * k), fun W => ?_, fun W hW => ?_⟩
    · have := kk W
      rw [show ((16 + 8 * k : Nat) : Int) = 16 + 8 * (k : Int) by omega, show ((24 + 8 * k : Nat) : Int) = 24 + 8 * (k : Int) by omega] at this
      exact this
    · have pk := piece8 ws (4 + 2 * k) (by omega)
      rw [show 4 * (4 + 2 * k) = 16 + 8 * k by omega] at pk
      have := number_gives Ak 8 (c - (16 + 8 * k)) (b4 (ws.getD (4 + 2 * k) 0) ++ b4 (ws.getD (4 + 2 * k + 1) 0)) rfl (by omega) (by omega) (hbm _ (by intro x hx; rw [← pk] at hx; exact List.mem_of_mem_drop (List.mem_of_mem_take hx))) W (by have := rk W .u8 _ hW; rw [← pk]; exact this)
      rw [numL_b8] at this
      exact this
  · intro k
    show (ocs ws k).toArray.setIfInBounds (3 + k) _ = _
    rw [List.setIfInBounds_toArray]
    rfl
  · intro k hk
    have : 3 + k < (ocs ws k).length := by rw [ocs_length]; omega
    exact ⟨_, by rw [List.getElem?_toArray]; exact List.getElem?_eq_getElem this⟩
  · intro k
    rw [List.size_toArray, ocs_length]
  · intro v hv
    exact ocs_one ws 6 v (by simpa using hv)
end Go.Proofs.Ytgfmeiddicodoaa.H
