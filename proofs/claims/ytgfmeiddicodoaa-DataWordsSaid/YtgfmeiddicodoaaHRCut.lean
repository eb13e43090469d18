/-
Pieces of a slice of bytes, and their numbers.
-/
import Derived.Test.YtgfmeiddicodoaaHRBytes
set_option linter.unusedVariables false
set_option linter.unusedSimpArgs false
namespace Go.Proofs.Ytgfmeiddicodoaa.H
open Go.RowKit Go.Proofs.YtgfmeiddicodoaaW.PrintWords

theorem cut_lh (A : Option Addr) (n c l h : Nat) (hl : l ≤ h) (hn : h ≤ n) (hc : n ≤ c) : ∃ A' : Option Addr, (∀ W : World, (Instr.slice 49 (.slice A n c) (some (.int .i64 (l : Int))) (some (.int .i64 (h : Int))) none).run Try.prog W = .ok (.slice A' (h - l) (c - l)) W) ∧
    ∀ (W : World) (k : IntKind) (xs : List Int), ReadsInt W k A n xs → ReadsInt W k A' (h - l) ((xs.drop l).take (h - l)) := by
  refine ⟨if c = l then A else A.map (·.add l), fun W => ?_, fun W k xs hr => (hr.drop_ l (by omega) hc).take_ (h - l) (by omega)⟩
  obtain ⟨i0, hi, hzz⟩ := Option.map_eq_some_iff.1 Try.info8d
  simp only [Prod.mk.injEq] at hzz
  have hel : Try.prog.elem 49 = 5 := by simp [Program.elem, Try.underlying49]
  rw [run_slice_lh W 49 A n c (by rw [hel]; exact Try.underlying49) .i64 .i64 (l : Int) (h : Int) (by omega) (by omega) (by omega), hel]
  simp [sizeOf, typeInfo, hi, hzz.2.1, sliced, Result.andThen]
theorem cut_h (A : Option Addr) (n c h : Nat) (hn : h ≤ n) (hc : n ≤ c) : ∃ A' : Option Addr, (∀ W : World, (Instr.slice 49 (.slice A n c) none (some (.int .i64 (h : Int))) none).run Try.prog W = .ok (.slice A' h c) W) ∧
    ∀ (W : World) (k : IntKind) (xs : List Int), ReadsInt W k A n xs → ReadsInt W k A' h (xs.take h) := by
  refine ⟨if c = 0 then A else A.map (·.add 0), fun W => ?_, fun W k xs hr => ?_⟩
  · obtain ⟨i0, hi, hzz⟩ := Option.map_eq_some_iff.1 Try.info8d
    simp only [Prod.mk.injEq] at hzz
    have hel : Try.prog.elem 49 = 5 := by simp [Program.elem, Try.underlying49]
    rw [run_slice_h W 49 A n c (by rw [hel]; exact Try.underlying49) .i64 (h : Int) (by omega) (by omega), hel]
    simp [sizeOf, typeInfo, hi, hzz.2.1, sliced, Result.andThen]
  · have := (hr.drop_ 0 (by omega) hc).take_ h (by omega)
    simpa using this
theorem cut_l (A : Option Addr) (n c l : Nat) (hn : l ≤ n) (hc : n ≤ c) : ∃ A' : Option Addr, (∀ W : World, (Instr.slice 49 (.slice A n c) (some (.int .i64 (l : Int))) none none).run Try.prog W = .ok (.slice A' (n - l) (c - l)) W) ∧
    ∀ (W : World) (k : IntKind) (xs : List Int), ReadsInt W k A n xs → ReadsInt W k A' (n - l) (xs.drop l) := by
  obtain ⟨i0, hi, hzz⟩ := Option.map_eq_some_iff.1 Try.info8d
  simp only [Prod.mk.injEq] at hzz
  obtain ⟨A', h1, h2⟩ := print_cut (P := Try.prog) 49 5 .i64 Try.underlying49 hi hzz.2.1 A n c l hn
  exact ⟨A', h1, fun W k xs hr => h2 W k xs hc hr⟩
/-- number, of a piece. -/
theorem number_gives (A : Option Addr) (n c : Nat) (P : List Int) (hn : P.length = n) (hc : n ≤ c) (h8 : n ≤ 8) (hb : ∀ x ∈ P, 0 ≤ x ∧ x < 256) (W : World) (hr : ReadsInt W .u8 A n P) :
    Calls Try.prog 41 #[.slice A n c] W fun e w' => e = .returned (.int .u64 (numL P)) ∧ Below W.heap.size W w' := by
  subst hn
  exact RNumber_walk A c P W hr hc h8 hb
end Go.Proofs.Ytgfmeiddicodoaa.H
