/- The plain statement behind WordTexts: word.Text and word.Parse answer what the reference answers, of any number and any text. No condition. -/
import Derived.Test.YtgfmeiddicodoaaRx2
import Derived.Test.YtgfmeiddicodoaaHWord
import Derived.Test.YtgfmeiddicodoaaHRefText
set_option linter.unusedVariables false
set_option linter.unusedSimpArgs false
namespace Go.Proofs.Ytgfmeiddicodoaa.Pure
open Go.RowKit Go.Proofs.Ytgfmeiddicodoaa.H Go.Proofs.Ytgfmeiddicodoaa.R Go.Proofs.YtgfmeiddicodoaaW.PrintWords Go.Proofs.YtgfmeiddicodoaaW.PrintLast

theorem WordTexts : hurdlelaw01_WordTexts.Pure := by
  intro a0 s h1 _
  obtain ⟨p1, p2⟩ := bounds_u64 h1
  obtain ⟨n, rfl⟩ := Int.eq_ofNat_of_zero_le p1
  refine ⟨60, ?_⟩
  unfold hurdlelaw01_WordTexts.f
  by_cases hs : (s.size : Int) > 1000
  · rw [if_pos hs, knows_true]; rfl
  · rw [if_neg hs, ref_parse s 60 (by omega), word_text n (by omega), ref_text n 60 (by omega) (by omega)]
    unfold word_Parse.f
    cases hp : parseL s.data.toList with
    | none => simp [knows_true]
    | some v => simp [knows_true]
end Go.Proofs.Ytgfmeiddicodoaa.Pure
