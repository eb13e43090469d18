/-
  No cell of these rows narrows 'for every input' (looked for: loops, veiled, ifaces, maps, wideKeys, modest, calm, conditions, laid).
  DERIVED. THE GIVEN ROWS OF THIS SEAT. 11 by the template 'for every input the law returns true; each argument reads behind the call as it read before'; 0 by the template 'total and deterministic' (their statements: YthdkgpmpopjnaaaTotals.lean).
  GIVEN WITH THE SEED: the statements are not yours to turn. If you find one false, say at which input.
  Laid BY PROGRAM, IN A SANDBOX (cutbox-rows.mjs): the forced cells as the released guide's own fill.sh prints them over the translation b21369f5371403d4… (all of the seat's roots in one cut). By AI agents, Wed Nov 11 2026. No macro, syntax, notation, axiom, sorry.
-/
import Derived.Test.YthdkgpmpopjnaaaChecked
import GoSem.Claim
import GoSem.ClaimJoined
import GoSem.ClaimMapViews
import Derived.JoinedTies
import Derived.KernelRfl
namespace Go.Proofs.Ythdkgpmpopjnaaa
/- THE CELL 'sum', in the pinned program and in every row, IS THE sha256 OF THE DUMP (.gsa) THAT YthdkgpmpopjnaaaProg.lean LOADS. Nothing in Lean hashes anything: it is a label: what it is worth is what the hold of that sum in a sandbox is worth. -/
noncomputable def Try.pinned : Pinned := { name := "ythdkgpmpopjnaaa", sum := "b21369f5371403d48e9b1f2bc9ff05d0634a1f934cdfdec61e28d34aa6c615ca", checked := Try.checked }
namespace Rows
def none {H : Type} : Left H := { results := [], args := [] }

/-- 'hurdlelaw08.CondHolds': WHATEVER THE INPUT: true; the input reads as it did. -/
def condHoldsSpec : ChangeSpec := { name := "condHolds", fn := fun _ => fun
  | [d1, d2] => { results := [.lit (.bool true)], args := [d1, d2] }
  | _ => none }
def condHoldsRow : OpenClaim := { program := "ythdkgpmpopjnaaa", sum := "b21369f5371403d48e9b1f2bc9ff05d0634a1f934cdfdec61e28d34aa6c615ca", func := "hurdle/hurdlelaw08.CondHolds", spec := "condHolds", unfollowed := true, recurses := true, apart := false }
def CondHoldsSaid : Prop := condHoldsRow.holds Try.pinned (OpenSpec.ofChange condHoldsSpec)

/-- ITS FALSE NEIGHBOUR: 'it returns false'. Refute it at one input. -/
def condHoldsWrong : ChangeSpec := { name := "condHolds", fn := fun _ => fun
  | [d1, d2] => { results := [.lit (.bool false)], args := [d1, d2] }
  | _ => none }
def CondHoldsWrongFalsely : Prop := condHoldsRow.holds Try.pinned (OpenSpec.ofChange condHoldsWrong)

/-- 'hurdlelaw08.CondTexts': WHATEVER THE INPUT: true; the input reads as it did. -/
def condTextsSpec : ChangeSpec := { name := "condTexts", fn := fun _ => fun
  | [d1, d2] => { results := [.lit (.bool true)], args := [d1, d2] }
  | _ => none }
def condTextsRow : OpenClaim := { program := "ythdkgpmpopjnaaa", sum := "b21369f5371403d48e9b1f2bc9ff05d0634a1f934cdfdec61e28d34aa6c615ca", func := "hurdle/hurdlelaw08.CondTexts", spec := "condTexts", unfollowed := true, recurses := true, apart := false }
def CondTextsSaid : Prop := condTextsRow.holds Try.pinned (OpenSpec.ofChange condTextsSpec)

/-- ITS FALSE NEIGHBOUR: 'it returns false'. Refute it at one input. -/
def condTextsWrong : ChangeSpec := { name := "condTexts", fn := fun _ => fun
  | [d1, d2] => { results := [.lit (.bool false)], args := [d1, d2] }
  | _ => none }
def CondTextsWrongFalsely : Prop := condTextsRow.holds Try.pinned (OpenSpec.ofChange condTextsWrong)

/-- 'hurdlelaw08.CondNot': WHATEVER THE INPUT: true; the input reads as it did. -/
def condNotSpec : ChangeSpec := { name := "condNot", fn := fun _ => fun
  | [d1, d2] => { results := [.lit (.bool true)], args := [d1, d2] }
  | _ => none }
def condNotRow : OpenClaim := { program := "ythdkgpmpopjnaaa", sum := "b21369f5371403d48e9b1f2bc9ff05d0634a1f934cdfdec61e28d34aa6c615ca", func := "hurdle/hurdlelaw08.CondNot", spec := "condNot", unfollowed := true, recurses := true, apart := false }
def CondNotSaid : Prop := condNotRow.holds Try.pinned (OpenSpec.ofChange condNotSpec)

/-- ITS FALSE NEIGHBOUR: 'it returns false'. Refute it at one input. -/
def condNotWrong : ChangeSpec := { name := "condNot", fn := fun _ => fun
  | [d1, d2] => { results := [.lit (.bool false)], args := [d1, d2] }
  | _ => none }
def CondNotWrongFalsely : Prop := condNotRow.holds Try.pinned (OpenSpec.ofChange condNotWrong)

/-- 'hurdlelaw08.CondBack': WHATEVER THE INPUT: true; the input reads as it did. -/
def condBackSpec : ChangeSpec := { name := "condBack", fn := fun _ => fun
  | [d1, d2] => { results := [.lit (.bool true)], args := [d1, d2] }
  | _ => none }
def condBackRow : OpenClaim := { program := "ythdkgpmpopjnaaa", sum := "b21369f5371403d48e9b1f2bc9ff05d0634a1f934cdfdec61e28d34aa6c615ca", func := "hurdle/hurdlelaw08.CondBack", spec := "condBack", unfollowed := true, recurses := true, apart := false }
def CondBackSaid : Prop := condBackRow.holds Try.pinned (OpenSpec.ofChange condBackSpec)

/-- ITS FALSE NEIGHBOUR: 'it returns false'. Refute it at one input. -/
def condBackWrong : ChangeSpec := { name := "condBack", fn := fun _ => fun
  | [d1, d2] => { results := [.lit (.bool false)], args := [d1, d2] }
  | _ => none }
def CondBackWrongFalsely : Prop := condBackRow.holds Try.pinned (OpenSpec.ofChange condBackWrong)

/-- 'hurdlelaw08.CondOrders': WHATEVER THE INPUT: true; the input reads as it did. -/
def condOrdersSpec : ChangeSpec := { name := "condOrders", fn := fun _ => fun
  | [d1, d2] => { results := [.lit (.bool true)], args := [d1, d2] }
  | _ => none }
def condOrdersRow : OpenClaim := { program := "ythdkgpmpopjnaaa", sum := "b21369f5371403d48e9b1f2bc9ff05d0634a1f934cdfdec61e28d34aa6c615ca", func := "hurdle/hurdlelaw08.CondOrders", spec := "condOrders", unfollowed := true, recurses := true, apart := false }
def CondOrdersSaid : Prop := condOrdersRow.holds Try.pinned (OpenSpec.ofChange condOrdersSpec)

/-- ITS FALSE NEIGHBOUR: 'it returns false'. Refute it at one input. -/
def condOrdersWrong : ChangeSpec := { name := "condOrders", fn := fun _ => fun
  | [d1, d2] => { results := [.lit (.bool false)], args := [d1, d2] }
  | _ => none }
def CondOrdersWrongFalsely : Prop := condOrdersRow.holds Try.pinned (OpenSpec.ofChange condOrdersWrong)

/-- 'hurdlelaw08.CondMasks': WHATEVER THE INPUT: true; the input reads as it did. -/
def condMasksSpec : ChangeSpec := { name := "condMasks", fn := fun _ => fun
  | [d1, d2, d3] => { results := [.lit (.bool true)], args := [d1, d2, d3] }
  | _ => none }
def condMasksRow : OpenClaim := { program := "ythdkgpmpopjnaaa", sum := "b21369f5371403d48e9b1f2bc9ff05d0634a1f934cdfdec61e28d34aa6c615ca", func := "hurdle/hurdlelaw08.CondMasks", spec := "condMasks", unfollowed := true, recurses := true, apart := false }
def CondMasksSaid : Prop := condMasksRow.holds Try.pinned (OpenSpec.ofChange condMasksSpec)

/-- ITS FALSE NEIGHBOUR: 'it returns false'. Refute it at one input. -/
def condMasksWrong : ChangeSpec := { name := "condMasks", fn := fun _ => fun
  | [d1, d2, d3] => { results := [.lit (.bool false)], args := [d1, d2, d3] }
  | _ => none }
def CondMasksWrongFalsely : Prop := condMasksRow.holds Try.pinned (OpenSpec.ofChange condMasksWrong)

/-- 'hurdlelaw09.NamesTexts': WHATEVER THE INPUT: true; the input reads as it did. -/
def namesTextsSpec : ChangeSpec := { name := "namesTexts", fn := fun _ => fun
  | [d1, d2, d3] => { results := [.lit (.bool true)], args := [d1, d2, d3] }
  | _ => none }
def namesTextsRow : OpenClaim := { program := "ythdkgpmpopjnaaa", sum := "b21369f5371403d48e9b1f2bc9ff05d0634a1f934cdfdec61e28d34aa6c615ca", func := "hurdle/hurdlelaw09.NamesTexts", spec := "namesTexts", recurses := true, apart := false }
def NamesTextsSaid : Prop := namesTextsRow.holds Try.pinned (OpenSpec.ofChange namesTextsSpec)

/-- ITS FALSE NEIGHBOUR: 'it returns false'. Refute it at one input. -/
def namesTextsWrong : ChangeSpec := { name := "namesTexts", fn := fun _ => fun
  | [d1, d2, d3] => { results := [.lit (.bool false)], args := [d1, d2, d3] }
  | _ => none }
def NamesTextsWrongFalsely : Prop := namesTextsRow.holds Try.pinned (OpenSpec.ofChange namesTextsWrong)

/-- 'hurdlelaw09.NamesApart': WHATEVER THE INPUT: true; the input reads as it did. -/
def namesApartSpec : ChangeSpec := { name := "namesApart", fn := fun _ => fun
  | [d1, d2, d3, d4] => { results := [.lit (.bool true)], args := [d1, d2, d3, d4] }
  | _ => none }
def namesApartRow : OpenClaim := { program := "ythdkgpmpopjnaaa", sum := "b21369f5371403d48e9b1f2bc9ff05d0634a1f934cdfdec61e28d34aa6c615ca", func := "hurdle/hurdlelaw09.NamesApart", spec := "namesApart", apart := false }
def NamesApartSaid : Prop := namesApartRow.holds Try.pinned (OpenSpec.ofChange namesApartSpec)

/-- ITS FALSE NEIGHBOUR: 'it returns false'. Refute it at one input. -/
def namesApartWrong : ChangeSpec := { name := "namesApart", fn := fun _ => fun
  | [d1, d2, d3, d4] => { results := [.lit (.bool false)], args := [d1, d2, d3, d4] }
  | _ => none }
def NamesApartWrongFalsely : Prop := namesApartRow.holds Try.pinned (OpenSpec.ofChange namesApartWrong)

/-- 'hurdlelaw09.NamesReads': WHATEVER THE INPUT: true; the input reads as it did. -/
def namesReadsSpec : ChangeSpec := { name := "namesReads", fn := fun _ => fun
  | [d1, d2] => { results := [.lit (.bool true)], args := [d1, d2] }
  | _ => none }
def namesReadsRow : OpenClaim := { program := "ythdkgpmpopjnaaa", sum := "b21369f5371403d48e9b1f2bc9ff05d0634a1f934cdfdec61e28d34aa6c615ca", func := "hurdle/hurdlelaw09.NamesReads", spec := "namesReads", recurses := true, apart := false }
def NamesReadsSaid : Prop := namesReadsRow.holds Try.pinned (OpenSpec.ofChange namesReadsSpec)

/-- ITS FALSE NEIGHBOUR: 'it returns false'. Refute it at one input. -/
def namesReadsWrong : ChangeSpec := { name := "namesReads", fn := fun _ => fun
  | [d1, d2] => { results := [.lit (.bool false)], args := [d1, d2] }
  | _ => none }
def NamesReadsWrongFalsely : Prop := namesReadsRow.holds Try.pinned (OpenSpec.ofChange namesReadsWrong)

/-- 'hurdlelaw09.NamesBack': WHATEVER THE INPUT: true; the input reads as it did. -/
def namesBackSpec : ChangeSpec := { name := "namesBack", fn := fun _ => fun
  | [d1, d2, d3] => { results := [.lit (.bool true)], args := [d1, d2, d3] }
  | _ => none }
def namesBackRow : OpenClaim := { program := "ythdkgpmpopjnaaa", sum := "b21369f5371403d48e9b1f2bc9ff05d0634a1f934cdfdec61e28d34aa6c615ca", func := "hurdle/hurdlelaw09.NamesBack", spec := "namesBack", apart := false }
def NamesBackSaid : Prop := namesBackRow.holds Try.pinned (OpenSpec.ofChange namesBackSpec)

/-- ITS FALSE NEIGHBOUR: 'it returns false'. Refute it at one input. -/
def namesBackWrong : ChangeSpec := { name := "namesBack", fn := fun _ => fun
  | [d1, d2, d3] => { results := [.lit (.bool false)], args := [d1, d2, d3] }
  | _ => none }
def NamesBackWrongFalsely : Prop := namesBackRow.holds Try.pinned (OpenSpec.ofChange namesBackWrong)

/-- 'hurdlelaw09.NamesOnly': WHATEVER THE INPUT: true; the input reads as it did. -/
def namesOnlySpec : ChangeSpec := { name := "namesOnly", fn := fun _ => fun
  | [d1, d2] => { results := [.lit (.bool true)], args := [d1, d2] }
  | _ => none }
def namesOnlyRow : OpenClaim := { program := "ythdkgpmpopjnaaa", sum := "b21369f5371403d48e9b1f2bc9ff05d0634a1f934cdfdec61e28d34aa6c615ca", func := "hurdle/hurdlelaw09.NamesOnly", spec := "namesOnly", apart := false }
def NamesOnlySaid : Prop := namesOnlyRow.holds Try.pinned (OpenSpec.ofChange namesOnlySpec)

/-- ITS FALSE NEIGHBOUR: 'it returns false'. Refute it at one input. -/
def namesOnlyWrong : ChangeSpec := { name := "namesOnly", fn := fun _ => fun
  | [d1, d2] => { results := [.lit (.bool false)], args := [d1, d2] }
  | _ => none }
def NamesOnlyWrongFalsely : Prop := namesOnlyRow.holds Try.pinned (OpenSpec.ofChange namesOnlyWrong)

/- THE SECOND FORM. 'bulk': how many values and letters a reading holds, each counted each time it is reached (what is shared counts as often as it is met; a slice's spare places count too). A statement '..UptoSaid' is the law's where the arguments, and the package variables that the reading takes, are together of bulk at most 1048576: NARROWER than '..Said'. Prove '..Said' where nothing that the law and all that it calls make is longer than what came in: it says more and counts as full. Else prove '..UptoSaid'. A law counts once. -/
mutual
def uptoBulk {H : Type} : DataW H → Nat
  | .lit (.string bytes) => bytes.length + 1
  | .lit _ => 1
  | .nil => 1
  | .ptr d => uptoBulk d + 1
  | .slice elems spare => uptoBulkAll elems + uptoBulkAll spare + 1
  | .agg parts => uptoBulkAll parts + 1
  | .iface _ d => uptoBulk d + 1
  | .map entries => uptoBulkEntries entries + 1
  | .held _ => 1
def uptoBulkAll {H : Type} : List (DataW H) → Nat
  | [] => 0
  | d :: r => uptoBulk d + uptoBulkAll r
def uptoBulkEntries {H : Type} : List (Lit × DataW H) → Nat
  | [] => 0
  | x :: r => uptoBulkEntry x + uptoBulkEntries r
def uptoBulkEntry {H : Type} : Lit × DataW H → Nat
  | (.string bytes, d) => bytes.length + uptoBulk d + 1
  | (_, d) => uptoBulk d + 1
 end
def uptoSmall : (H : Type) → List (DataW H) → Bool := fun _ ds => decide (uptoBulkAll ds ≤ 1048576)
def OpenSpec.upto (s : _root_.Go.ChangeSpec) : _root_.Go.OpenSpec := { _root_.Go.OpenSpec.ofChange s with cond := some uptoSmall }

/-- 'hurdlelaw08.CondHolds', WHERE WHAT IT READS IS OF BULK AT MOST 1048576: true; the input reads as it did. -/
def condHoldsUptoRow : OpenClaim := { program := "ythdkgpmpopjnaaa", sum := "b21369f5371403d48e9b1f2bc9ff05d0634a1f934cdfdec61e28d34aa6c615ca", func := "hurdle/hurdlelaw08.CondHolds", spec := "condHolds", unfollowed := true, recurses := true, apart := false, narrowed := true }
def CondHoldsUptoSaid : Prop := condHoldsUptoRow.holds Try.pinned (OpenSpec.upto condHoldsSpec)

/-- 'hurdlelaw08.CondTexts', WHERE WHAT IT READS IS OF BULK AT MOST 1048576: true; the input reads as it did. -/
def condTextsUptoRow : OpenClaim := { program := "ythdkgpmpopjnaaa", sum := "b21369f5371403d48e9b1f2bc9ff05d0634a1f934cdfdec61e28d34aa6c615ca", func := "hurdle/hurdlelaw08.CondTexts", spec := "condTexts", unfollowed := true, recurses := true, apart := false, narrowed := true }
def CondTextsUptoSaid : Prop := condTextsUptoRow.holds Try.pinned (OpenSpec.upto condTextsSpec)

/-- 'hurdlelaw08.CondNot', WHERE WHAT IT READS IS OF BULK AT MOST 1048576: true; the input reads as it did. -/
def condNotUptoRow : OpenClaim := { program := "ythdkgpmpopjnaaa", sum := "b21369f5371403d48e9b1f2bc9ff05d0634a1f934cdfdec61e28d34aa6c615ca", func := "hurdle/hurdlelaw08.CondNot", spec := "condNot", unfollowed := true, recurses := true, apart := false, narrowed := true }
def CondNotUptoSaid : Prop := condNotUptoRow.holds Try.pinned (OpenSpec.upto condNotSpec)

/-- 'hurdlelaw08.CondBack', WHERE WHAT IT READS IS OF BULK AT MOST 1048576: true; the input reads as it did. -/
def condBackUptoRow : OpenClaim := { program := "ythdkgpmpopjnaaa", sum := "b21369f5371403d48e9b1f2bc9ff05d0634a1f934cdfdec61e28d34aa6c615ca", func := "hurdle/hurdlelaw08.CondBack", spec := "condBack", unfollowed := true, recurses := true, apart := false, narrowed := true }
def CondBackUptoSaid : Prop := condBackUptoRow.holds Try.pinned (OpenSpec.upto condBackSpec)

/-- 'hurdlelaw08.CondOrders', WHERE WHAT IT READS IS OF BULK AT MOST 1048576: true; the input reads as it did. -/
def condOrdersUptoRow : OpenClaim := { program := "ythdkgpmpopjnaaa", sum := "b21369f5371403d48e9b1f2bc9ff05d0634a1f934cdfdec61e28d34aa6c615ca", func := "hurdle/hurdlelaw08.CondOrders", spec := "condOrders", unfollowed := true, recurses := true, apart := false, narrowed := true }
def CondOrdersUptoSaid : Prop := condOrdersUptoRow.holds Try.pinned (OpenSpec.upto condOrdersSpec)

/-- 'hurdlelaw08.CondMasks', WHERE WHAT IT READS IS OF BULK AT MOST 1048576: true; the input reads as it did. -/
def condMasksUptoRow : OpenClaim := { program := "ythdkgpmpopjnaaa", sum := "b21369f5371403d48e9b1f2bc9ff05d0634a1f934cdfdec61e28d34aa6c615ca", func := "hurdle/hurdlelaw08.CondMasks", spec := "condMasks", unfollowed := true, recurses := true, apart := false, narrowed := true }
def CondMasksUptoSaid : Prop := condMasksUptoRow.holds Try.pinned (OpenSpec.upto condMasksSpec)

/-- 'hurdlelaw09.NamesTexts', WHERE WHAT IT READS IS OF BULK AT MOST 1048576: true; the input reads as it did. -/
def namesTextsUptoRow : OpenClaim := { program := "ythdkgpmpopjnaaa", sum := "b21369f5371403d48e9b1f2bc9ff05d0634a1f934cdfdec61e28d34aa6c615ca", func := "hurdle/hurdlelaw09.NamesTexts", spec := "namesTexts", recurses := true, apart := false, narrowed := true }
def NamesTextsUptoSaid : Prop := namesTextsUptoRow.holds Try.pinned (OpenSpec.upto namesTextsSpec)

/-- 'hurdlelaw09.NamesApart', WHERE WHAT IT READS IS OF BULK AT MOST 1048576: true; the input reads as it did. -/
def namesApartUptoRow : OpenClaim := { program := "ythdkgpmpopjnaaa", sum := "b21369f5371403d48e9b1f2bc9ff05d0634a1f934cdfdec61e28d34aa6c615ca", func := "hurdle/hurdlelaw09.NamesApart", spec := "namesApart", apart := false, narrowed := true }
def NamesApartUptoSaid : Prop := namesApartUptoRow.holds Try.pinned (OpenSpec.upto namesApartSpec)

/-- 'hurdlelaw09.NamesReads', WHERE WHAT IT READS IS OF BULK AT MOST 1048576: true; the input reads as it did. -/
def namesReadsUptoRow : OpenClaim := { program := "ythdkgpmpopjnaaa", sum := "b21369f5371403d48e9b1f2bc9ff05d0634a1f934cdfdec61e28d34aa6c615ca", func := "hurdle/hurdlelaw09.NamesReads", spec := "namesReads", recurses := true, apart := false, narrowed := true }
def NamesReadsUptoSaid : Prop := namesReadsUptoRow.holds Try.pinned (OpenSpec.upto namesReadsSpec)

/-- 'hurdlelaw09.NamesBack', WHERE WHAT IT READS IS OF BULK AT MOST 1048576: true; the input reads as it did. -/
def namesBackUptoRow : OpenClaim := { program := "ythdkgpmpopjnaaa", sum := "b21369f5371403d48e9b1f2bc9ff05d0634a1f934cdfdec61e28d34aa6c615ca", func := "hurdle/hurdlelaw09.NamesBack", spec := "namesBack", apart := false, narrowed := true }
def NamesBackUptoSaid : Prop := namesBackUptoRow.holds Try.pinned (OpenSpec.upto namesBackSpec)

/-- 'hurdlelaw09.NamesOnly', WHERE WHAT IT READS IS OF BULK AT MOST 1048576: true; the input reads as it did. -/
def namesOnlyUptoRow : OpenClaim := { program := "ythdkgpmpopjnaaa", sum := "b21369f5371403d48e9b1f2bc9ff05d0634a1f934cdfdec61e28d34aa6c615ca", func := "hurdle/hurdlelaw09.NamesOnly", spec := "namesOnly", apart := false, narrowed := true }
def NamesOnlyUptoSaid : Prop := namesOnlyUptoRow.holds Try.pinned (OpenSpec.upto namesOnlySpec)

end Rows
end Go.Proofs.Ythdkgpmpopjnaaa
