/-
DataBack: in the row's order.
-/
import Derived.Test.YtgfmeiddicodoaaLDataBack
set_option linter.unusedVariables false
namespace Go.Proofs.Ytgfmeiddicodoaa.H
open Go.RowKit Go.Proofs.YtgfmeiddicodoaaW.PrintWords
theorem bytes8_of {L : List Int} (hw : ∀ x ∈ L, (Lit.int .u8 x).wf = true) : Bytes8 L := by
  intro i
  rw [List.getD_eq_getElem?_getD]
  cases h : L[i]? with
  | none => simp
  | some x =>
    have := bounds_u8 (hw x (List.mem_of_getElem? h))
    simp only [Option.getD_some]
    omega
theorem DataBack_row (x0 x1 x2 x3 x4 x5 x6 x7 x8 : Int) (A : Option Addr) (c : Nat) (L : List Int) (w : World) (hd : IsD x0 x1 x2 [x3, x4, x5, x6, x7, x8]) (hL : ReadsInt w .u8 A L.length L) (hw : ∀ x ∈ L, (Lit.int .u8 x).wf = true) :
    Calls Try.prog 14 #[.agg #[.int .u32 x0, .int .u32 x1, .int .u64 x2, .int .u64 x3, .int .u64 x4, .int .u64 x5, .int .u64 x6, .int .u64 x7, .int .u64 x8], .slice A L.length c] w fun e w' => e = .returned (.bool true) ∧ Below w.heap.size w w' :=
  DataBack_walk x0 x1 x2 x3 x4 x5 x6 x7 x8 A c L hd w hL (bytes8_of hw)
end Go.Proofs.Ytgfmeiddicodoaa.H
