-- Written by hprint.py, a program of this seat's own, over hand-proved callees.
import Derived.Test.YtocofkkkblelgaaProg
import Derived.Below
import Derived.Deep.Draws
import Derived.Deep.AppendLies
import Derived.Maps.AppendAt
import Derived.OwnWalk
import Derived.Laws.BytesArg
import Derived.Laws.MakeOwn
import Derived.Laws.OwnMore
import Derived.Deep.OwnRows
import Derived.Tactics
import Derived.Lib.ConvBytes
import Derived.Laws.Slices
import Derived.WalkKit
import Derived.KernelRfl
import Derived.RowKit3
import Derived.Deep.LoopGhost
import Derived.Deep.QuietTactic
import Derived.BigQuiet
import Derived.WideLaws
import Derived.Deep.DeepCutAuto
import Derived.Deep.CutBlock
import Derived.Deep.RegionHeld3
import Derived.Laws.Rows
import Derived.Lib.AppendStr
import Derived.ArgAppend
import Derived.Laws.IdiomCopy
import Derived.OrdersHeld
import Derived.Laws.BitsLemmas
import Derived.RowKit
import Derived.Test.YtocofkkkblelgaaWWords
import Derived.Test.YtocofkkkblelgaaWLast
import Derived.Test.YtocofkkkblelgaaWTab
import Derived.Test.YtocofkkkblelgaaWFour
import Derived.Test.YtocofkkkblelgaaWQPut
import Derived.Test.YtocofkkkblelgaaWApart
import Derived.Test.YtocofkkkblelgaaWArr
import Derived.Test.YtocofkkkblelgaaWZeros
import Derived.Test.YtocofkkkblelgaaWFoot
import Derived.Test.YtocofkkkblelgaaWKept
import Derived.Test.YtocofkkkblelgaaWShare
import Derived.Test.YtocofkkkblelgaaWN
import Derived.Test.YtocofkkkblelgaaWFootNe
import Derived.Test.YtocofkkkblelgaaWAt
import Derived.Test.YtocofkkkblelgaaWEqStruct
import Derived.Test.YtocofkkkblelgaaWRepsOne
import Derived.Test.YtocofkkkblelgaaWInv
import Derived.Test.YtocofkkkblelgaaWInvWords
import Derived.Test.YtocofkkkblelgaaWGuard
import Derived.Test.YtocofkkkblelgaaWNEv
import Derived.Test.YtocofkkkblelgaaWMore
namespace Go.Proofs.Ytocofkkkblelgaa.Q
open Go.RowKit Go.Proofs.YtocofkkkblelgaaW.PrintWords Go.Proofs.YtocofkkkblelgaaW.PrintLast Go.Proofs.YtocofkkkblelgaaW.PrintMore
attribute [local go_sem] max2_int min2_int max_two min_two max_three min_three max_four min_four   -- for this text's walks alone
set_option linter.unusedVariables false
set_option linter.unusedSimpArgs false



def errW : Option Int → Value
  | none => .nilIface
  | some c => .iface 0 (.int .i64 c)
theorem errW_none : errW none = .nilIface := rfl
theorem errW_some (c : Int) : errW (some c) = .iface 0 (.int .i64 c) := rfl

theorem info22 : (Try.prog.info? 22).map (fun i => (i.zero, i.size, i.bytes)) = some (some (.int .u32 0), 1, 4) := by kernel_rfl
-- the values' own types

end Go.Proofs.Ytocofkkkblelgaa.Q
