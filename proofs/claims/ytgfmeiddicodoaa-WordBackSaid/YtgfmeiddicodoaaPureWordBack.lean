/- The plain statement behind WordBack: digits are read as the number, and what was read has just these digits. No condition. -/
import Derived.Test.YtgfmeiddicodoaaRx2
import Derived.Test.YtgfmeiddicodoaaHWord
import Derived.Test.YtgfmeiddicodoaaHRefText
set_option linter.unusedVariables false
set_option linter.unusedSimpArgs false
namespace Go.Proofs.Ytgfmeiddicodoaa.Pure
open Go.RowKit Go.Proofs.Ytgfmeiddicodoaa.H Go.Proofs.Ytgfmeiddicodoaa.R Go.Proofs.YtgfmeiddicodoaaW.PrintWords Go.Proofs.YtgfmeiddicodoaaW.PrintLast

theorem WordBack : hurdlelaw01_WordBack.Pure := by
  intro a0 s h1 _
  obtain ⟨p1, p2⟩ := bounds_u64 h1
  obtain ⟨n, rfl⟩ := Int.eq_ofNat_of_zero_le p1
  have h0 : hurdlelaw01_WordBack.f (n : Int) s = some true := by
    unfold hurdlelaw01_WordBack.f
    by_cases hs : (s.size : Int) > 1000
    · rw [if_pos hs, knows_true]; rfl
    · rw [if_neg hs, word_text n (by omega)]
      simp only [Option.bind_some]
      have e1 : word_Parse.f (strOfNums (textL n)) = some ((n : Int), 0) := by
        unfold word_Parse.f
        rw [str_data, parse_text n (by omega)]
      rw [e1]
      unfold word_Parse.f
      cases hp : parseL s.data.toList with
      | none => simp [knows_true]
      | some v =>
        have hv := parseL_lt hp
        have ht := text_parse _ _ hp
        have hz : (strOfNums (textL v)).toList = s.toList := by rw [str_toList, ht, ByteArray.toList_eq]
        simp [word_text v hv, hz, knows_true]
  exact h0
end Go.Proofs.Ytgfmeiddicodoaa.Pure
