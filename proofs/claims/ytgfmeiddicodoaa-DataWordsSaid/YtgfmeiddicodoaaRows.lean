/-
  No cell of these rows narrows 'for every input' (looked for: loops, veiled, ifaces, maps, wideKeys, modest, calm, conditions, laid).
  DERIVED. THE GIVEN ROWS OF THIS SEAT. 12 by the template 'for every input the law returns true; each argument reads behind the call as it read before'; 0 by the template 'total and deterministic' (their statements: YtgfmeiddicodoaaTotals.lean).
  GIVEN WITH THE SEED: the statements are not yours to turn. If you find one false, say at which input.
  Laid BY PROGRAM, IN A SANDBOX (cutbox-rows.mjs): the forced cells as the released guide's own fill.sh prints them over the translation bdd6d93ee6cf853e… (all of the seat's roots in one cut). By AI agents, Wed Nov 11 2026. No macro, syntax, notation, axiom, sorry.
-/
import Derived.Test.YtgfmeiddicodoaaChecked
import GoSem.Claim
import GoSem.ClaimJoined
import GoSem.ClaimMapViews
import Derived.JoinedTies
import Derived.KernelRfl
namespace Go.Proofs.Ytgfmeiddicodoaa
/- THE CELL 'sum', in the pinned program and in every row, IS THE sha256 OF THE DUMP (.gsa) THAT YtgfmeiddicodoaaProg.lean LOADS. Nothing in Lean hashes anything: it is a label: what it is worth is what the hold of that sum in a sandbox is worth. -/
noncomputable def Try.pinned : Pinned := { name := "ytgfmeiddicodoaa", sum := "bdd6d93ee6cf853e7b663ad129ef4870c92488dea3d7ae4c44fe235b010e40d1", checked := Try.checked }
namespace Rows
def none {H : Type} : Left H := { results := [], args := [] }

/-- 'hurdlelaw04.DataKnown': WHATEVER THE INPUT: true; the input reads as it did. -/
def dataKnownSpec : ChangeSpec := { name := "dataKnown", fn := fun _ => fun
  | [d1, d2, d3] => { results := [.lit (.bool true)], args := [d1, d2, d3] }
  | _ => none }
def dataKnownRow : OpenClaim := { program := "ytgfmeiddicodoaa", sum := "bdd6d93ee6cf853e7b663ad129ef4870c92488dea3d7ae4c44fe235b010e40d1", func := "hurdle/hurdlelaw04.DataKnown", spec := "dataKnown", unfollowed := true, recurses := true, apart := false }
def DataKnownSaid : Prop := dataKnownRow.holds Try.pinned (OpenSpec.ofChange dataKnownSpec)

/-- ITS FALSE NEIGHBOUR: 'it returns false'. Refute it at one input. -/
def dataKnownWrong : ChangeSpec := { name := "dataKnown", fn := fun _ => fun
  | [d1, d2, d3] => { results := [.lit (.bool false)], args := [d1, d2, d3] }
  | _ => none }
def DataKnownWrongFalsely : Prop := dataKnownRow.holds Try.pinned (OpenSpec.ofChange dataKnownWrong)

/-- 'hurdlelaw01.WordDoes': WHATEVER THE INPUT: true; the input reads as it did. -/
def wordDoesSpec : ChangeSpec := { name := "wordDoes", fn := fun _ => fun
  | [d1, d2, d3] => { results := [.lit (.bool true)], args := [d1, d2, d3] }
  | _ => none }
def wordDoesRow : OpenClaim := { program := "ytgfmeiddicodoaa", sum := "bdd6d93ee6cf853e7b663ad129ef4870c92488dea3d7ae4c44fe235b010e40d1", func := "hurdle/hurdlelaw01.WordDoes", spec := "wordDoes", apart := false }
def WordDoesSaid : Prop := wordDoesRow.holds Try.pinned (OpenSpec.ofChange wordDoesSpec)

/-- ITS FALSE NEIGHBOUR: 'it returns false'. Refute it at one input. -/
def wordDoesWrong : ChangeSpec := { name := "wordDoes", fn := fun _ => fun
  | [d1, d2, d3] => { results := [.lit (.bool false)], args := [d1, d2, d3] }
  | _ => none }
def WordDoesWrongFalsely : Prop := wordDoesRow.holds Try.pinned (OpenSpec.ofChange wordDoesWrong)

/-- 'hurdlelaw01.WordTexts': WHATEVER THE INPUT: true; the input reads as it did. -/
def wordTextsSpec : ChangeSpec := { name := "wordTexts", fn := fun _ => fun
  | [d1, d2] => { results := [.lit (.bool true)], args := [d1, d2] }
  | _ => none }
def wordTextsRow : OpenClaim := { program := "ytgfmeiddicodoaa", sum := "bdd6d93ee6cf853e7b663ad129ef4870c92488dea3d7ae4c44fe235b010e40d1", func := "hurdle/hurdlelaw01.WordTexts", spec := "wordTexts", recurses := true, apart := false }
def WordTextsSaid : Prop := wordTextsRow.holds Try.pinned (OpenSpec.ofChange wordTextsSpec)

/-- ITS FALSE NEIGHBOUR: 'it returns false'. Refute it at one input. -/
def wordTextsWrong : ChangeSpec := { name := "wordTexts", fn := fun _ => fun
  | [d1, d2] => { results := [.lit (.bool false)], args := [d1, d2] }
  | _ => none }
def WordTextsWrongFalsely : Prop := wordTextsRow.holds Try.pinned (OpenSpec.ofChange wordTextsWrong)

/-- 'hurdlelaw01.WordBack': WHATEVER THE INPUT: true; the input reads as it did. -/
def wordBackSpec : ChangeSpec := { name := "wordBack", fn := fun _ => fun
  | [d1, d2] => { results := [.lit (.bool true)], args := [d1, d2] }
  | _ => none }
def wordBackRow : OpenClaim := { program := "ytgfmeiddicodoaa", sum := "bdd6d93ee6cf853e7b663ad129ef4870c92488dea3d7ae4c44fe235b010e40d1", func := "hurdle/hurdlelaw01.WordBack", spec := "wordBack", apart := false }
def WordBackSaid : Prop := wordBackRow.holds Try.pinned (OpenSpec.ofChange wordBackSpec)

/-- ITS FALSE NEIGHBOUR: 'it returns false'. Refute it at one input. -/
def wordBackWrong : ChangeSpec := { name := "wordBack", fn := fun _ => fun
  | [d1, d2] => { results := [.lit (.bool false)], args := [d1, d2] }
  | _ => none }
def WordBackWrongFalsely : Prop := wordBackRow.holds Try.pinned (OpenSpec.ofChange wordBackWrong)

/-- 'hurdlelaw01.WordOrders': WHATEVER THE INPUT: true; the input reads as it did. -/
def wordOrdersSpec : ChangeSpec := { name := "wordOrders", fn := fun _ => fun
  | [d1, d2] => { results := [.lit (.bool true)], args := [d1, d2] }
  | _ => none }
def wordOrdersRow : OpenClaim := { program := "ytgfmeiddicodoaa", sum := "bdd6d93ee6cf853e7b663ad129ef4870c92488dea3d7ae4c44fe235b010e40d1", func := "hurdle/hurdlelaw01.WordOrders", spec := "wordOrders", apart := false }
def WordOrdersSaid : Prop := wordOrdersRow.holds Try.pinned (OpenSpec.ofChange wordOrdersSpec)

/-- ITS FALSE NEIGHBOUR: 'it returns false'. Refute it at one input. -/
def wordOrdersWrong : ChangeSpec := { name := "wordOrders", fn := fun _ => fun
  | [d1, d2] => { results := [.lit (.bool false)], args := [d1, d2] }
  | _ => none }
def WordOrdersWrongFalsely : Prop := wordOrdersRow.holds Try.pinned (OpenSpec.ofChange wordOrdersWrong)

/-- 'hurdlelaw01.WordNegs': WHATEVER THE INPUT: true; the input reads as it did. -/
def wordNegsSpec : ChangeSpec := { name := "wordNegs", fn := fun _ => fun
  | [d] => { results := [.lit (.bool true)], args := [d] }
  | _ => none }
def wordNegsRow : OpenClaim := { program := "ytgfmeiddicodoaa", sum := "bdd6d93ee6cf853e7b663ad129ef4870c92488dea3d7ae4c44fe235b010e40d1", func := "hurdle/hurdlelaw01.WordNegs", spec := "wordNegs", apart := false }
def WordNegsSaid : Prop := wordNegsRow.holds Try.pinned (OpenSpec.ofChange wordNegsSpec)

/-- ITS FALSE NEIGHBOUR: 'it returns false'. Refute it at one input. -/
def wordNegsWrong : ChangeSpec := { name := "wordNegs", fn := fun _ => fun
  | [d] => { results := [.lit (.bool false)], args := [d] }
  | _ => none }
def WordNegsWrongFalsely : Prop := wordNegsRow.holds Try.pinned (OpenSpec.ofChange wordNegsWrong)

/-- 'hurdlelaw01.WordShifts': WHATEVER THE INPUT: true; the input reads as it did. -/
def wordShiftsSpec : ChangeSpec := { name := "wordShifts", fn := fun _ => fun
  | [d1, d2] => { results := [.lit (.bool true)], args := [d1, d2] }
  | _ => none }
def wordShiftsRow : OpenClaim := { program := "ytgfmeiddicodoaa", sum := "bdd6d93ee6cf853e7b663ad129ef4870c92488dea3d7ae4c44fe235b010e40d1", func := "hurdle/hurdlelaw01.WordShifts", spec := "wordShifts", apart := false }
def WordShiftsSaid : Prop := wordShiftsRow.holds Try.pinned (OpenSpec.ofChange wordShiftsSpec)

/-- ITS FALSE NEIGHBOUR: 'it returns false'. Refute it at one input. -/
def wordShiftsWrong : ChangeSpec := { name := "wordShifts", fn := fun _ => fun
  | [d1, d2] => { results := [.lit (.bool false)], args := [d1, d2] }
  | _ => none }
def WordShiftsWrongFalsely : Prop := wordShiftsRow.holds Try.pinned (OpenSpec.ofChange wordShiftsWrong)

/-- 'hurdlelaw01.WordDivides': WHATEVER THE INPUT: true; the input reads as it did. -/
def wordDividesSpec : ChangeSpec := { name := "wordDivides", fn := fun _ => fun
  | [d1, d2] => { results := [.lit (.bool true)], args := [d1, d2] }
  | _ => none }
def wordDividesRow : OpenClaim := { program := "ytgfmeiddicodoaa", sum := "bdd6d93ee6cf853e7b663ad129ef4870c92488dea3d7ae4c44fe235b010e40d1", func := "hurdle/hurdlelaw01.WordDivides", spec := "wordDivides", apart := false }
def WordDividesSaid : Prop := wordDividesRow.holds Try.pinned (OpenSpec.ofChange wordDividesSpec)

/-- ITS FALSE NEIGHBOUR: 'it returns false'. Refute it at one input. -/
def wordDividesWrong : ChangeSpec := { name := "wordDivides", fn := fun _ => fun
  | [d1, d2] => { results := [.lit (.bool false)], args := [d1, d2] }
  | _ => none }
def WordDividesWrongFalsely : Prop := wordDividesRow.holds Try.pinned (OpenSpec.ofChange wordDividesWrong)

/-- 'hurdlelaw04.DataWords': WHATEVER THE INPUT: true; the input reads as it did. -/
def dataWordsSpec : ChangeSpec := { name := "dataWords", fn := fun _ => fun
  | [d1, d2, d3, d4] => { results := [.lit (.bool true)], args := [d1, d2, d3, d4] }
  | _ => none }
def dataWordsRow : OpenClaim := { program := "ytgfmeiddicodoaa", sum := "bdd6d93ee6cf853e7b663ad129ef4870c92488dea3d7ae4c44fe235b010e40d1", func := "hurdle/hurdlelaw04.DataWords", spec := "dataWords", unfollowed := true, recurses := true, apart := false }
def DataWordsSaid : Prop := dataWordsRow.holds Try.pinned (OpenSpec.ofChange dataWordsSpec)

/-- ITS FALSE NEIGHBOUR: 'it returns false'. Refute it at one input. -/
def dataWordsWrong : ChangeSpec := { name := "dataWords", fn := fun _ => fun
  | [d1, d2, d3, d4] => { results := [.lit (.bool false)], args := [d1, d2, d3, d4] }
  | _ => none }
def DataWordsWrongFalsely : Prop := dataWordsRow.holds Try.pinned (OpenSpec.ofChange dataWordsWrong)

/-- 'hurdlelaw04.DataSets': WHATEVER THE INPUT: true; the input reads as it did. -/
def dataSetsSpec : ChangeSpec := { name := "dataSets", fn := fun _ => fun
  | [d1, d2, d3, d4] => { results := [.lit (.bool true)], args := [d1, d2, d3, d4] }
  | _ => none }
def dataSetsRow : OpenClaim := { program := "ytgfmeiddicodoaa", sum := "bdd6d93ee6cf853e7b663ad129ef4870c92488dea3d7ae4c44fe235b010e40d1", func := "hurdle/hurdlelaw04.DataSets", spec := "dataSets", unfollowed := true, recurses := true, apart := false }
def DataSetsSaid : Prop := dataSetsRow.holds Try.pinned (OpenSpec.ofChange dataSetsSpec)

/-- ITS FALSE NEIGHBOUR: 'it returns false'. Refute it at one input. -/
def dataSetsWrong : ChangeSpec := { name := "dataSets", fn := fun _ => fun
  | [d1, d2, d3, d4] => { results := [.lit (.bool false)], args := [d1, d2, d3, d4] }
  | _ => none }
def DataSetsWrongFalsely : Prop := dataSetsRow.holds Try.pinned (OpenSpec.ofChange dataSetsWrong)

/-- 'hurdlelaw04.DataBytes': WHATEVER THE INPUT: true; the input reads as it did. -/
def dataBytesSpec : ChangeSpec := { name := "dataBytes", fn := fun _ => fun
  | [d1, d2] => { results := [.lit (.bool true)], args := [d1, d2] }
  | _ => none }
def dataBytesRow : OpenClaim := { program := "ytgfmeiddicodoaa", sum := "bdd6d93ee6cf853e7b663ad129ef4870c92488dea3d7ae4c44fe235b010e40d1", func := "hurdle/hurdlelaw04.DataBytes", spec := "dataBytes", unfollowed := true, recurses := true, apart := false }
def DataBytesSaid : Prop := dataBytesRow.holds Try.pinned (OpenSpec.ofChange dataBytesSpec)

/-- ITS FALSE NEIGHBOUR: 'it returns false'. Refute it at one input. -/
def dataBytesWrong : ChangeSpec := { name := "dataBytes", fn := fun _ => fun
  | [d1, d2] => { results := [.lit (.bool false)], args := [d1, d2] }
  | _ => none }
def DataBytesWrongFalsely : Prop := dataBytesRow.holds Try.pinned (OpenSpec.ofChange dataBytesWrong)

/-- 'hurdlelaw04.DataBack': WHATEVER THE INPUT: true; the input reads as it did. -/
def dataBackSpec : ChangeSpec := { name := "dataBack", fn := fun _ => fun
  | [d1, d2] => { results := [.lit (.bool true)], args := [d1, d2] }
  | _ => none }
def dataBackRow : OpenClaim := { program := "ytgfmeiddicodoaa", sum := "bdd6d93ee6cf853e7b663ad129ef4870c92488dea3d7ae4c44fe235b010e40d1", func := "hurdle/hurdlelaw04.DataBack", spec := "dataBack", unfollowed := true, recurses := true, apart := false }
def DataBackSaid : Prop := dataBackRow.holds Try.pinned (OpenSpec.ofChange dataBackSpec)

/-- ITS FALSE NEIGHBOUR: 'it returns false'. Refute it at one input. -/
def dataBackWrong : ChangeSpec := { name := "dataBack", fn := fun _ => fun
  | [d1, d2] => { results := [.lit (.bool false)], args := [d1, d2] }
  | _ => none }
def DataBackWrongFalsely : Prop := dataBackRow.holds Try.pinned (OpenSpec.ofChange dataBackWrong)

/- THE SECOND FORM. 'bulk': how many values and letters a reading holds, each counted each time it is reached (what is shared counts as often as it is met; a slice's spare places count too). A statement '..UptoSaid' is the law's where the arguments, and the package variables that the reading takes, are together of bulk at most 1048576: NARROWER than '..Said'. Prove '..Said' where nothing that the law and all that it calls make is longer than what came in: it says more and counts as full. Else prove '..UptoSaid'. A law counts once. -/
mutual
def uptoBulk {H : Type} : DataW H → Nat
  | .lit (.string bytes) => bytes.length + 1
  | .lit _ => 1
  | .nil => 1
  | .ptr d => uptoBulk d + 1
  | .slice elems spare => uptoBulkAll elems + uptoBulkAll spare + 1
  | .agg parts => uptoBulkAll parts + 1
  | .iface _ d => uptoBulk d + 1
  | .map entries => uptoBulkEntries entries + 1
  | .held _ => 1
def uptoBulkAll {H : Type} : List (DataW H) → Nat
  | [] => 0
  | d :: r => uptoBulk d + uptoBulkAll r
def uptoBulkEntries {H : Type} : List (Lit × DataW H) → Nat
  | [] => 0
  | x :: r => uptoBulkEntry x + uptoBulkEntries r
def uptoBulkEntry {H : Type} : Lit × DataW H → Nat
  | (.string bytes, d) => bytes.length + uptoBulk d + 1
  | (_, d) => uptoBulk d + 1
 end
def uptoSmall : (H : Type) → List (DataW H) → Bool := fun _ ds => decide (uptoBulkAll ds ≤ 1048576)
def OpenSpec.upto (s : _root_.Go.ChangeSpec) : _root_.Go.OpenSpec := { _root_.Go.OpenSpec.ofChange s with cond := some uptoSmall }

/-- 'hurdlelaw04.DataKnown', WHERE WHAT IT READS IS OF BULK AT MOST 1048576: true; the input reads as it did. -/
def dataKnownUptoRow : OpenClaim := { program := "ytgfmeiddicodoaa", sum := "bdd6d93ee6cf853e7b663ad129ef4870c92488dea3d7ae4c44fe235b010e40d1", func := "hurdle/hurdlelaw04.DataKnown", spec := "dataKnown", unfollowed := true, recurses := true, apart := false, narrowed := true }
def DataKnownUptoSaid : Prop := dataKnownUptoRow.holds Try.pinned (OpenSpec.upto dataKnownSpec)

/-- 'hurdlelaw01.WordDoes', WHERE WHAT IT READS IS OF BULK AT MOST 1048576: true; the input reads as it did. -/
def wordDoesUptoRow : OpenClaim := { program := "ytgfmeiddicodoaa", sum := "bdd6d93ee6cf853e7b663ad129ef4870c92488dea3d7ae4c44fe235b010e40d1", func := "hurdle/hurdlelaw01.WordDoes", spec := "wordDoes", apart := false, narrowed := true }
def WordDoesUptoSaid : Prop := wordDoesUptoRow.holds Try.pinned (OpenSpec.upto wordDoesSpec)

/-- 'hurdlelaw01.WordTexts', WHERE WHAT IT READS IS OF BULK AT MOST 1048576: true; the input reads as it did. -/
def wordTextsUptoRow : OpenClaim := { program := "ytgfmeiddicodoaa", sum := "bdd6d93ee6cf853e7b663ad129ef4870c92488dea3d7ae4c44fe235b010e40d1", func := "hurdle/hurdlelaw01.WordTexts", spec := "wordTexts", recurses := true, apart := false, narrowed := true }
def WordTextsUptoSaid : Prop := wordTextsUptoRow.holds Try.pinned (OpenSpec.upto wordTextsSpec)

/-- 'hurdlelaw01.WordBack', WHERE WHAT IT READS IS OF BULK AT MOST 1048576: true; the input reads as it did. -/
def wordBackUptoRow : OpenClaim := { program := "ytgfmeiddicodoaa", sum := "bdd6d93ee6cf853e7b663ad129ef4870c92488dea3d7ae4c44fe235b010e40d1", func := "hurdle/hurdlelaw01.WordBack", spec := "wordBack", apart := false, narrowed := true }
def WordBackUptoSaid : Prop := wordBackUptoRow.holds Try.pinned (OpenSpec.upto wordBackSpec)

/-- 'hurdlelaw01.WordOrders', WHERE WHAT IT READS IS OF BULK AT MOST 1048576: true; the input reads as it did. -/
def wordOrdersUptoRow : OpenClaim := { program := "ytgfmeiddicodoaa", sum := "bdd6d93ee6cf853e7b663ad129ef4870c92488dea3d7ae4c44fe235b010e40d1", func := "hurdle/hurdlelaw01.WordOrders", spec := "wordOrders", apart := false, narrowed := true }
def WordOrdersUptoSaid : Prop := wordOrdersUptoRow.holds Try.pinned (OpenSpec.upto wordOrdersSpec)

/-- 'hurdlelaw01.WordNegs', WHERE WHAT IT READS IS OF BULK AT MOST 1048576: true; the input reads as it did. -/
def wordNegsUptoRow : OpenClaim := { program := "ytgfmeiddicodoaa", sum := "bdd6d93ee6cf853e7b663ad129ef4870c92488dea3d7ae4c44fe235b010e40d1", func := "hurdle/hurdlelaw01.WordNegs", spec := "wordNegs", apart := false, narrowed := true }
def WordNegsUptoSaid : Prop := wordNegsUptoRow.holds Try.pinned (OpenSpec.upto wordNegsSpec)

/-- 'hurdlelaw01.WordShifts', WHERE WHAT IT READS IS OF BULK AT MOST 1048576: true; the input reads as it did. -/
def wordShiftsUptoRow : OpenClaim := { program := "ytgfmeiddicodoaa", sum := "bdd6d93ee6cf853e7b663ad129ef4870c92488dea3d7ae4c44fe235b010e40d1", func := "hurdle/hurdlelaw01.WordShifts", spec := "wordShifts", apart := false, narrowed := true }
def WordShiftsUptoSaid : Prop := wordShiftsUptoRow.holds Try.pinned (OpenSpec.upto wordShiftsSpec)

/-- 'hurdlelaw01.WordDivides', WHERE WHAT IT READS IS OF BULK AT MOST 1048576: true; the input reads as it did. -/
def wordDividesUptoRow : OpenClaim := { program := "ytgfmeiddicodoaa", sum := "bdd6d93ee6cf853e7b663ad129ef4870c92488dea3d7ae4c44fe235b010e40d1", func := "hurdle/hurdlelaw01.WordDivides", spec := "wordDivides", apart := false, narrowed := true }
def WordDividesUptoSaid : Prop := wordDividesUptoRow.holds Try.pinned (OpenSpec.upto wordDividesSpec)

/-- 'hurdlelaw04.DataWords', WHERE WHAT IT READS IS OF BULK AT MOST 1048576: true; the input reads as it did. -/
def dataWordsUptoRow : OpenClaim := { program := "ytgfmeiddicodoaa", sum := "bdd6d93ee6cf853e7b663ad129ef4870c92488dea3d7ae4c44fe235b010e40d1", func := "hurdle/hurdlelaw04.DataWords", spec := "dataWords", unfollowed := true, recurses := true, apart := false, narrowed := true }
def DataWordsUptoSaid : Prop := dataWordsUptoRow.holds Try.pinned (OpenSpec.upto dataWordsSpec)

/-- 'hurdlelaw04.DataSets', WHERE WHAT IT READS IS OF BULK AT MOST 1048576: true; the input reads as it did. -/
def dataSetsUptoRow : OpenClaim := { program := "ytgfmeiddicodoaa", sum := "bdd6d93ee6cf853e7b663ad129ef4870c92488dea3d7ae4c44fe235b010e40d1", func := "hurdle/hurdlelaw04.DataSets", spec := "dataSets", unfollowed := true, recurses := true, apart := false, narrowed := true }
def DataSetsUptoSaid : Prop := dataSetsUptoRow.holds Try.pinned (OpenSpec.upto dataSetsSpec)

/-- 'hurdlelaw04.DataBytes', WHERE WHAT IT READS IS OF BULK AT MOST 1048576: true; the input reads as it did. -/
def dataBytesUptoRow : OpenClaim := { program := "ytgfmeiddicodoaa", sum := "bdd6d93ee6cf853e7b663ad129ef4870c92488dea3d7ae4c44fe235b010e40d1", func := "hurdle/hurdlelaw04.DataBytes", spec := "dataBytes", unfollowed := true, recurses := true, apart := false, narrowed := true }
def DataBytesUptoSaid : Prop := dataBytesUptoRow.holds Try.pinned (OpenSpec.upto dataBytesSpec)

/-- 'hurdlelaw04.DataBack', WHERE WHAT IT READS IS OF BULK AT MOST 1048576: true; the input reads as it did. -/
def dataBackUptoRow : OpenClaim := { program := "ytgfmeiddicodoaa", sum := "bdd6d93ee6cf853e7b663ad129ef4870c92488dea3d7ae4c44fe235b010e40d1", func := "hurdle/hurdlelaw04.DataBack", spec := "dataBack", unfollowed := true, recurses := true, apart := false, narrowed := true }
def DataBackUptoSaid : Prop := dataBackUptoRow.holds Try.pinned (OpenSpec.upto dataBackSpec)

end Rows
end Go.Proofs.Ytgfmeiddicodoaa
