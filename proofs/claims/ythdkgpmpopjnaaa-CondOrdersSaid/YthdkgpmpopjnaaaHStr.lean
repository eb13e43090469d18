/-
Texts put together, at one operation of a region that draws its order.
-/
import Derived.Test.YthdkgpmpopjnaaaProg
import Derived.Test.YthdkgpmpopjnaaaHSeq
set_option linter.unusedVariables false
namespace Go.Proofs.Ythdkgpmpopjnaaa.H
open Go.RowKit

theorem run_cat (p q : ByteArray) (hsz : p.size + q.size ≤ 9223372036854775807) (w : World) : (binOp .add 9 (.string p) (.string q)).run Try.prog w = .ok (.string (p ++ q)) w := by
  have h : ¬ (9223372036854775807 < p.size + q.size) := by omega
  go_simp
theorem yieldsIf_cat {ops : Array Oper} {S : World → Prop} {o : Oper} {a : Act} (hw : Region.wanted o (yielded ops a.tmps) = true) (x y : Operand) (yt : TypeId) (ho : o.op = .binOp .add 9 x y yt) (p q : ByteArray) (hx : a.eval x = .string p) (hy : a.eval y = .string q)
    (hsz : p.size + q.size ≤ 9223372036854775807) : YieldsIf Try.prog ops S o (.string (p ++ q)) a :=
  .inl ⟨hw, fun w hw' => by
    unfold execOp
    have he : (eqGuard .add 9 x y (.string p) (.string q)).run Try.prog w = .ok () w := rfl
    simp only [ho, hx, hy, Sem.run_bind, he, run_cat p q hsz w, Result.andThen_ok, Sem.run_pure]⟩
/-- The same, what comes of it under a name, with its size. -/
structure Cat (p q r : ByteArray) : Prop where
  eq : p ++ q = r
  le : p.size + q.size ≤ 9223372036854775807
theorem yieldsIf_catR {ops : Array Oper} {S : World → Prop} {o : Oper} {a : Act} {p q r : ByteArray} (hc : Cat p q r) (hw : Region.wanted o (yielded ops a.tmps) = true) (x y : Operand) (yt : TypeId) (ho : o.op = .binOp .add 9 x y yt) (hx : a.eval x = .string p) (hy : a.eval y = .string q) :
    YieldsIf Try.prog ops S o (.string r) a := by
  have := yieldsIf_cat (S := S) (ops := ops) hw x y yt ho p q hx hy hc.le
  rwa [hc.eq] at this
end Go.Proofs.Ythdkgpmpopjnaaa.H
