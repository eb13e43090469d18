/-
CondTexts and CondBack, for their rows.
-/
import Derived.Test.YthdkgpmpopjnaaaHCondL
import Derived.Test.YthdkgpmpopjnaaaHOpenC
set_option linter.unusedVariables false
namespace Go.Proofs.Ythdkgpmpopjnaaa.H
open Go.RowKit Go.Proofs.YthdkgpmpopjnaaaW.PrintWords

theorem CondTexts_row (a c m v : Int) (s : ByteArray) (h : IsCond a c m v) (hs : s.size ≤ 140737488351232) (W : World) :
    Calls Try.prog 4 #[.agg #[.int .i64 a, .int .i64 c, .int .u64 m, .int .u64 v], .string s] W fun e W' => e = .returned (.bool true) ∧ Below W.heap.size W W' :=
  C.hurdlelaw08_CondTexts.calls 1100 a c m v s true W (CondTexts_true a c m v s h.1 h.2)
theorem CondBack_row (a c m v : Int) (s : ByteArray) (h : IsCond a c m v) (hs : s.size ≤ 140737488351232) (W : World) :
    Calls Try.prog 6 #[.agg #[.int .i64 a, .int .i64 c, .int .u64 m, .int .u64 v], .string s] W fun e W' => e = .returned (.bool true) ∧ Below W.heap.size W W' :=
  C.hurdlelaw08_CondBack.calls 1100 a c m v s true W (CondBack_true a c m v s h.1 h.2)
end Go.Proofs.Ythdkgpmpopjnaaa.H
