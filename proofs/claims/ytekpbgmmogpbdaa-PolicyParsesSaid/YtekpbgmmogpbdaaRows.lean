/-
  No cell of these rows narrows 'for every input' (looked for: loops, veiled, ifaces, maps, wideKeys, modest, calm, conditions, laid).
  DERIVED. THE GIVEN ROWS OF THIS SEAT. 11 by the template 'for every input the law returns true; each argument reads behind the call as it read before'; 0 by the template 'total and deterministic' (their statements: YtekpbgmmogpbdaaTotals.lean).
  GIVEN WITH THE SEED: the statements are not yours to turn. If you find one false, say at which input.
  Laid BY PROGRAM, IN A SANDBOX (cutbox-rows.mjs): the forced cells as the released guide's own fill.sh prints them over the translation fefa049e23f70556… (all of the seat's roots in one cut). By AI agents, Wed Nov 11 2026. No macro, syntax, notation, axiom, sorry.
-/
import Derived.Test.YtekpbgmmogpbdaaChecked
import GoSem.Claim
import GoSem.ClaimJoined
import GoSem.ClaimMapViews
import Derived.JoinedTies
import Derived.KernelRfl
namespace Go.Proofs.Ytekpbgmmogpbdaa
/- THE CELL 'sum', in the pinned program and in every row, IS THE sha256 OF THE DUMP (.gsa) THAT YtekpbgmmogpbdaaProg.lean LOADS. Nothing in Lean hashes anything: it is a label: what it is worth is what the hold of that sum in a sandbox is worth. -/
noncomputable def Try.pinned : Pinned := { name := "ytekpbgmmogpbdaa", sum := "fefa049e23f70556d309b52a47cdd169054f06bcaf1db3a998c32eb08a2e16e0", checked := Try.checked }
namespace Rows
def none {H : Type} : Left H := { results := [], args := [] }

/-- 'hurdlelaw10.PolicyPrints': WHATEVER THE INPUT: true; the input reads as it did. -/
def policyPrintsSpec : ChangeSpec := { name := "policyPrints", fn := fun _ => fun
  | [d] => { results := [.lit (.bool true)], args := [d] }
  | _ => none }
def policyPrintsRow : OpenClaim := { program := "ytekpbgmmogpbdaa", sum := "fefa049e23f70556d309b52a47cdd169054f06bcaf1db3a998c32eb08a2e16e0", func := "hurdle/hurdlelaw10.PolicyPrints", spec := "policyPrints", recurses := true, apart := false }
def PolicyPrintsSaid : Prop := policyPrintsRow.holds Try.pinned (OpenSpec.ofChange policyPrintsSpec)

/-- ITS FALSE NEIGHBOUR: 'it returns false'. Refute it at one input. -/
def policyPrintsWrong : ChangeSpec := { name := "policyPrints", fn := fun _ => fun
  | [d] => { results := [.lit (.bool false)], args := [d] }
  | _ => none }
def PolicyPrintsWrongFalsely : Prop := policyPrintsRow.holds Try.pinned (OpenSpec.ofChange policyPrintsWrong)

/-- 'hurdlelaw10.PolicyParses': WHATEVER THE INPUT: true; the input reads as it did. -/
def policyParsesSpec : ChangeSpec := { name := "policyParses", fn := fun _ => fun
  | [d] => { results := [.lit (.bool true)], args := [d] }
  | _ => none }
def policyParsesRow : OpenClaim := { program := "ytekpbgmmogpbdaa", sum := "fefa049e23f70556d309b52a47cdd169054f06bcaf1db3a998c32eb08a2e16e0", func := "hurdle/hurdlelaw10.PolicyParses", spec := "policyParses", recurses := true, apart := false }
def PolicyParsesSaid : Prop := policyParsesRow.holds Try.pinned (OpenSpec.ofChange policyParsesSpec)

/-- ITS FALSE NEIGHBOUR: 'it returns false'. Refute it at one input. -/
def policyParsesWrong : ChangeSpec := { name := "policyParses", fn := fun _ => fun
  | [d] => { results := [.lit (.bool false)], args := [d] }
  | _ => none }
def PolicyParsesWrongFalsely : Prop := policyParsesRow.holds Try.pinned (OpenSpec.ofChange policyParsesWrong)

/-- 'hurdlelaw10.PolicyBack': WHATEVER THE INPUT: true; the input reads as it did. -/
def policyBackSpec : ChangeSpec := { name := "policyBack", fn := fun _ => fun
  | [d] => { results := [.lit (.bool true)], args := [d] }
  | _ => none }
def policyBackRow : OpenClaim := { program := "ytekpbgmmogpbdaa", sum := "fefa049e23f70556d309b52a47cdd169054f06bcaf1db3a998c32eb08a2e16e0", func := "hurdle/hurdlelaw10.PolicyBack", spec := "policyBack", apart := false }
def PolicyBackSaid : Prop := policyBackRow.holds Try.pinned (OpenSpec.ofChange policyBackSpec)

/-- ITS FALSE NEIGHBOUR: 'it returns false'. Refute it at one input. -/
def policyBackWrong : ChangeSpec := { name := "policyBack", fn := fun _ => fun
  | [d] => { results := [.lit (.bool false)], args := [d] }
  | _ => none }
def PolicyBackWrongFalsely : Prop := policyBackRow.holds Try.pinned (OpenSpec.ofChange policyBackWrong)

/-- 'hurdlelaw10.PolicyOnly': WHATEVER THE INPUT: true; the input reads as it did. -/
def policyOnlySpec : ChangeSpec := { name := "policyOnly", fn := fun _ => fun
  | [d] => { results := [.lit (.bool true)], args := [d] }
  | _ => none }
def policyOnlyRow : OpenClaim := { program := "ytekpbgmmogpbdaa", sum := "fefa049e23f70556d309b52a47cdd169054f06bcaf1db3a998c32eb08a2e16e0", func := "hurdle/hurdlelaw10.PolicyOnly", spec := "policyOnly", apart := false }
def PolicyOnlySaid : Prop := policyOnlyRow.holds Try.pinned (OpenSpec.ofChange policyOnlySpec)

/-- ITS FALSE NEIGHBOUR: 'it returns false'. Refute it at one input. -/
def policyOnlyWrong : ChangeSpec := { name := "policyOnly", fn := fun _ => fun
  | [d] => { results := [.lit (.bool false)], args := [d] }
  | _ => none }
def PolicyOnlyWrongFalsely : Prop := policyOnlyRow.holds Try.pinned (OpenSpec.ofChange policyOnlyWrong)

/-- 'hurdlelaw10.PolicyPlaces': WHATEVER THE INPUT: true; the input reads as it did. -/
def policyPlacesSpec : ChangeSpec := { name := "policyPlaces", fn := fun _ => fun
  | [d] => { results := [.lit (.bool true)], args := [d] }
  | _ => none }
def policyPlacesRow : OpenClaim := { program := "ytekpbgmmogpbdaa", sum := "fefa049e23f70556d309b52a47cdd169054f06bcaf1db3a998c32eb08a2e16e0", func := "hurdle/hurdlelaw10.PolicyPlaces", spec := "policyPlaces", apart := false }
def PolicyPlacesSaid : Prop := policyPlacesRow.holds Try.pinned (OpenSpec.ofChange policyPlacesSpec)

/-- ITS FALSE NEIGHBOUR: 'it returns false'. Refute it at one input. -/
def policyPlacesWrong : ChangeSpec := { name := "policyPlaces", fn := fun _ => fun
  | [d] => { results := [.lit (.bool false)], args := [d] }
  | _ => none }
def PolicyPlacesWrongFalsely : Prop := policyPlacesRow.holds Try.pinned (OpenSpec.ofChange policyPlacesWrong)

/-- 'hurdlelaw10.PolicyCuts': WHATEVER THE INPUT: true; the input reads as it did. -/
def policyCutsSpec : ChangeSpec := { name := "policyCuts", fn := fun _ => fun
  | [d] => { results := [.lit (.bool true)], args := [d] }
  | _ => none }
def policyCutsRow : OpenClaim := { program := "ytekpbgmmogpbdaa", sum := "fefa049e23f70556d309b52a47cdd169054f06bcaf1db3a998c32eb08a2e16e0", func := "hurdle/hurdlelaw10.PolicyCuts", spec := "policyCuts", apart := false }
def PolicyCutsSaid : Prop := policyCutsRow.holds Try.pinned (OpenSpec.ofChange policyCutsSpec)

/-- ITS FALSE NEIGHBOUR: 'it returns false'. Refute it at one input. -/
def policyCutsWrong : ChangeSpec := { name := "policyCuts", fn := fun _ => fun
  | [d] => { results := [.lit (.bool false)], args := [d] }
  | _ => none }
def PolicyCutsWrongFalsely : Prop := policyCutsRow.holds Try.pinned (OpenSpec.ofChange policyCutsWrong)

/-- 'hurdlelaw11.DenoteJudges': WHATEVER THE INPUT: true; the input reads as it did. -/
def denoteJudgesSpec : ChangeSpec := { name := "denoteJudges", fn := fun _ => fun
  | [d1, d2, d3] => { results := [.lit (.bool true)], args := [d1, d2, d3] }
  | _ => none }
def denoteJudgesRow : OpenClaim := { program := "ytekpbgmmogpbdaa", sum := "fefa049e23f70556d309b52a47cdd169054f06bcaf1db3a998c32eb08a2e16e0", func := "hurdle/hurdlelaw11.DenoteJudges", spec := "denoteJudges", unfollowed := true, recurses := true, apart := false }
def DenoteJudgesSaid : Prop := denoteJudgesRow.holds Try.pinned (OpenSpec.ofChange denoteJudgesSpec)

/-- ITS FALSE NEIGHBOUR: 'it returns false'. Refute it at one input. -/
def denoteJudgesWrong : ChangeSpec := { name := "denoteJudges", fn := fun _ => fun
  | [d1, d2, d3] => { results := [.lit (.bool false)], args := [d1, d2, d3] }
  | _ => none }
def DenoteJudgesWrongFalsely : Prop := denoteJudgesRow.holds Try.pinned (OpenSpec.ofChange denoteJudgesWrong)

/-- 'hurdlelaw11.DenoteShades': WHATEVER THE INPUT: true; the input reads as it did. -/
def denoteShadesSpec : ChangeSpec := { name := "denoteShades", fn := fun _ => fun
  | [d1, d2, d3, d4, d5] => { results := [.lit (.bool true)], args := [d1, d2, d3, d4, d5] }
  | _ => none }
def denoteShadesRow : OpenClaim := { program := "ytekpbgmmogpbdaa", sum := "fefa049e23f70556d309b52a47cdd169054f06bcaf1db3a998c32eb08a2e16e0", func := "hurdle/hurdlelaw11.DenoteShades", spec := "denoteShades", unfollowed := true, recurses := true, apart := false }
def DenoteShadesSaid : Prop := denoteShadesRow.holds Try.pinned (OpenSpec.ofChange denoteShadesSpec)

/-- ITS FALSE NEIGHBOUR: 'it returns false'. Refute it at one input. -/
def denoteShadesWrong : ChangeSpec := { name := "denoteShades", fn := fun _ => fun
  | [d1, d2, d3, d4, d5] => { results := [.lit (.bool false)], args := [d1, d2, d3, d4, d5] }
  | _ => none }
def DenoteShadesWrongFalsely : Prop := denoteShadesRow.holds Try.pinned (OpenSpec.ofChange denoteShadesWrong)

/-- 'hurdlelaw11.DenoteAhead': WHATEVER THE INPUT: true; the input reads as it did. -/
def denoteAheadSpec : ChangeSpec := { name := "denoteAhead", fn := fun _ => fun
  | [d1, d2, d3] => { results := [.lit (.bool true)], args := [d1, d2, d3] }
  | _ => none }
def denoteAheadRow : OpenClaim := { program := "ytekpbgmmogpbdaa", sum := "fefa049e23f70556d309b52a47cdd169054f06bcaf1db3a998c32eb08a2e16e0", func := "hurdle/hurdlelaw11.DenoteAhead", spec := "denoteAhead", unfollowed := true, recurses := true, apart := false }
def DenoteAheadSaid : Prop := denoteAheadRow.holds Try.pinned (OpenSpec.ofChange denoteAheadSpec)

/-- ITS FALSE NEIGHBOUR: 'it returns false'. Refute it at one input. -/
def denoteAheadWrong : ChangeSpec := { name := "denoteAhead", fn := fun _ => fun
  | [d1, d2, d3] => { results := [.lit (.bool false)], args := [d1, d2, d3] }
  | _ => none }
def DenoteAheadWrongFalsely : Prop := denoteAheadRow.holds Try.pinned (OpenSpec.ofChange denoteAheadWrong)

/-- 'hurdlelaw11.DenoteSwaps': WHATEVER THE INPUT: true; the input reads as it did. -/
def denoteSwapsSpec : ChangeSpec := { name := "denoteSwaps", fn := fun _ => fun
  | [d1, d2, d3] => { results := [.lit (.bool true)], args := [d1, d2, d3] }
  | _ => none }
def denoteSwapsRow : OpenClaim := { program := "ytekpbgmmogpbdaa", sum := "fefa049e23f70556d309b52a47cdd169054f06bcaf1db3a998c32eb08a2e16e0", func := "hurdle/hurdlelaw11.DenoteSwaps", spec := "denoteSwaps", unfollowed := true, recurses := true, apart := false }
def DenoteSwapsSaid : Prop := denoteSwapsRow.holds Try.pinned (OpenSpec.ofChange denoteSwapsSpec)

/-- ITS FALSE NEIGHBOUR: 'it returns false'. Refute it at one input. -/
def denoteSwapsWrong : ChangeSpec := { name := "denoteSwaps", fn := fun _ => fun
  | [d1, d2, d3] => { results := [.lit (.bool false)], args := [d1, d2, d3] }
  | _ => none }
def DenoteSwapsWrongFalsely : Prop := denoteSwapsRow.holds Try.pinned (OpenSpec.ofChange denoteSwapsWrong)

/-- 'hurdlelaw11.DenoteLast': WHATEVER THE INPUT: true; the input reads as it did. -/
def denoteLastSpec : ChangeSpec := { name := "denoteLast", fn := fun _ => fun
  | [d1, d2, d3] => { results := [.lit (.bool true)], args := [d1, d2, d3] }
  | _ => none }
def denoteLastRow : OpenClaim := { program := "ytekpbgmmogpbdaa", sum := "fefa049e23f70556d309b52a47cdd169054f06bcaf1db3a998c32eb08a2e16e0", func := "hurdle/hurdlelaw11.DenoteLast", spec := "denoteLast", unfollowed := true, recurses := true, apart := false }
def DenoteLastSaid : Prop := denoteLastRow.holds Try.pinned (OpenSpec.ofChange denoteLastSpec)

/-- ITS FALSE NEIGHBOUR: 'it returns false'. Refute it at one input. -/
def denoteLastWrong : ChangeSpec := { name := "denoteLast", fn := fun _ => fun
  | [d1, d2, d3] => { results := [.lit (.bool false)], args := [d1, d2, d3] }
  | _ => none }
def DenoteLastWrongFalsely : Prop := denoteLastRow.holds Try.pinned (OpenSpec.ofChange denoteLastWrong)

/- THE SECOND FORM. 'bulk': how many values and letters a reading holds, each counted each time it is reached (what is shared counts as often as it is met; a slice's spare places count too). A statement '..UptoSaid' is the law's where the arguments, and the package variables that the reading takes, are together of bulk at most 1048576: NARROWER than '..Said'. Prove '..Said' where nothing that the law and all that it calls make is longer than what came in: it says more and counts as full. Else prove '..UptoSaid'. A law counts once. -/
mutual
def uptoBulk {H : Type} : DataW H → Nat
  | .lit (.string bytes) => bytes.length + 1
  | .lit _ => 1
  | .nil => 1
  | .ptr d => uptoBulk d + 1
  | .slice elems spare => uptoBulkAll elems + uptoBulkAll spare + 1
  | .agg parts => uptoBulkAll parts + 1
  | .iface _ d => uptoBulk d + 1
  | .map entries => uptoBulkEntries entries + 1
  | .held _ => 1
def uptoBulkAll {H : Type} : List (DataW H) → Nat
  | [] => 0
  | d :: r => uptoBulk d + uptoBulkAll r
def uptoBulkEntries {H : Type} : List (Lit × DataW H) → Nat
  | [] => 0
  | x :: r => uptoBulkEntry x + uptoBulkEntries r
def uptoBulkEntry {H : Type} : Lit × DataW H → Nat
  | (.string bytes, d) => bytes.length + uptoBulk d + 1
  | (_, d) => uptoBulk d + 1
 end
def uptoSmall : (H : Type) → List (DataW H) → Bool := fun _ ds => decide (uptoBulkAll ds ≤ 1048576)
def OpenSpec.upto (s : _root_.Go.ChangeSpec) : _root_.Go.OpenSpec := { _root_.Go.OpenSpec.ofChange s with cond := some uptoSmall }

/-- 'hurdlelaw10.PolicyPrints', WHERE WHAT IT READS IS OF BULK AT MOST 1048576: true; the input reads as it did. -/
def policyPrintsUptoRow : OpenClaim := { program := "ytekpbgmmogpbdaa", sum := "fefa049e23f70556d309b52a47cdd169054f06bcaf1db3a998c32eb08a2e16e0", func := "hurdle/hurdlelaw10.PolicyPrints", spec := "policyPrints", recurses := true, apart := false, narrowed := true }
def PolicyPrintsUptoSaid : Prop := policyPrintsUptoRow.holds Try.pinned (OpenSpec.upto policyPrintsSpec)

/-- 'hurdlelaw10.PolicyParses', WHERE WHAT IT READS IS OF BULK AT MOST 1048576: true; the input reads as it did. -/
def policyParsesUptoRow : OpenClaim := { program := "ytekpbgmmogpbdaa", sum := "fefa049e23f70556d309b52a47cdd169054f06bcaf1db3a998c32eb08a2e16e0", func := "hurdle/hurdlelaw10.PolicyParses", spec := "policyParses", recurses := true, apart := false, narrowed := true }
def PolicyParsesUptoSaid : Prop := policyParsesUptoRow.holds Try.pinned (OpenSpec.upto policyParsesSpec)

/-- 'hurdlelaw10.PolicyBack', WHERE WHAT IT READS IS OF BULK AT MOST 1048576: true; the input reads as it did. -/
def policyBackUptoRow : OpenClaim := { program := "ytekpbgmmogpbdaa", sum := "fefa049e23f70556d309b52a47cdd169054f06bcaf1db3a998c32eb08a2e16e0", func := "hurdle/hurdlelaw10.PolicyBack", spec := "policyBack", apart := false, narrowed := true }
def PolicyBackUptoSaid : Prop := policyBackUptoRow.holds Try.pinned (OpenSpec.upto policyBackSpec)

/-- 'hurdlelaw10.PolicyOnly', WHERE WHAT IT READS IS OF BULK AT MOST 1048576: true; the input reads as it did. -/
def policyOnlyUptoRow : OpenClaim := { program := "ytekpbgmmogpbdaa", sum := "fefa049e23f70556d309b52a47cdd169054f06bcaf1db3a998c32eb08a2e16e0", func := "hurdle/hurdlelaw10.PolicyOnly", spec := "policyOnly", apart := false, narrowed := true }
def PolicyOnlyUptoSaid : Prop := policyOnlyUptoRow.holds Try.pinned (OpenSpec.upto policyOnlySpec)

/-- 'hurdlelaw10.PolicyPlaces', WHERE WHAT IT READS IS OF BULK AT MOST 1048576: true; the input reads as it did. -/
def policyPlacesUptoRow : OpenClaim := { program := "ytekpbgmmogpbdaa", sum := "fefa049e23f70556d309b52a47cdd169054f06bcaf1db3a998c32eb08a2e16e0", func := "hurdle/hurdlelaw10.PolicyPlaces", spec := "policyPlaces", apart := false, narrowed := true }
def PolicyPlacesUptoSaid : Prop := policyPlacesUptoRow.holds Try.pinned (OpenSpec.upto policyPlacesSpec)

/-- 'hurdlelaw10.PolicyCuts', WHERE WHAT IT READS IS OF BULK AT MOST 1048576: true; the input reads as it did. -/
def policyCutsUptoRow : OpenClaim := { program := "ytekpbgmmogpbdaa", sum := "fefa049e23f70556d309b52a47cdd169054f06bcaf1db3a998c32eb08a2e16e0", func := "hurdle/hurdlelaw10.PolicyCuts", spec := "policyCuts", apart := false, narrowed := true }
def PolicyCutsUptoSaid : Prop := policyCutsUptoRow.holds Try.pinned (OpenSpec.upto policyCutsSpec)

/-- 'hurdlelaw11.DenoteJudges', WHERE WHAT IT READS IS OF BULK AT MOST 1048576: true; the input reads as it did. -/
def denoteJudgesUptoRow : OpenClaim := { program := "ytekpbgmmogpbdaa", sum := "fefa049e23f70556d309b52a47cdd169054f06bcaf1db3a998c32eb08a2e16e0", func := "hurdle/hurdlelaw11.DenoteJudges", spec := "denoteJudges", unfollowed := true, recurses := true, apart := false, narrowed := true }
def DenoteJudgesUptoSaid : Prop := denoteJudgesUptoRow.holds Try.pinned (OpenSpec.upto denoteJudgesSpec)

/-- 'hurdlelaw11.DenoteShades', WHERE WHAT IT READS IS OF BULK AT MOST 1048576: true; the input reads as it did. -/
def denoteShadesUptoRow : OpenClaim := { program := "ytekpbgmmogpbdaa", sum := "fefa049e23f70556d309b52a47cdd169054f06bcaf1db3a998c32eb08a2e16e0", func := "hurdle/hurdlelaw11.DenoteShades", spec := "denoteShades", unfollowed := true, recurses := true, apart := false, narrowed := true }
def DenoteShadesUptoSaid : Prop := denoteShadesUptoRow.holds Try.pinned (OpenSpec.upto denoteShadesSpec)

/-- 'hurdlelaw11.DenoteAhead', WHERE WHAT IT READS IS OF BULK AT MOST 1048576: true; the input reads as it did. -/
def denoteAheadUptoRow : OpenClaim := { program := "ytekpbgmmogpbdaa", sum := "fefa049e23f70556d309b52a47cdd169054f06bcaf1db3a998c32eb08a2e16e0", func := "hurdle/hurdlelaw11.DenoteAhead", spec := "denoteAhead", unfollowed := true, recurses := true, apart := false, narrowed := true }
def DenoteAheadUptoSaid : Prop := denoteAheadUptoRow.holds Try.pinned (OpenSpec.upto denoteAheadSpec)

/-- 'hurdlelaw11.DenoteSwaps', WHERE WHAT IT READS IS OF BULK AT MOST 1048576: true; the input reads as it did. -/
def denoteSwapsUptoRow : OpenClaim := { program := "ytekpbgmmogpbdaa", sum := "fefa049e23f70556d309b52a47cdd169054f06bcaf1db3a998c32eb08a2e16e0", func := "hurdle/hurdlelaw11.DenoteSwaps", spec := "denoteSwaps", unfollowed := true, recurses := true, apart := false, narrowed := true }
def DenoteSwapsUptoSaid : Prop := denoteSwapsUptoRow.holds Try.pinned (OpenSpec.upto denoteSwapsSpec)

/-- 'hurdlelaw11.DenoteLast', WHERE WHAT IT READS IS OF BULK AT MOST 1048576: true; the input reads as it did. -/
def denoteLastUptoRow : OpenClaim := { program := "ytekpbgmmogpbdaa", sum := "fefa049e23f70556d309b52a47cdd169054f06bcaf1db3a998c32eb08a2e16e0", func := "hurdle/hurdlelaw11.DenoteLast", spec := "denoteLast", unfollowed := true, recurses := true, apart := false, narrowed := true }
def DenoteLastUptoSaid : Prop := denoteLastUptoRow.holds Try.pinned (OpenSpec.upto denoteLastSpec)

end Rows
end Go.Proofs.Ytekpbgmmogpbdaa
