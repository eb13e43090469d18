/- The plain statement behind NamesOnly: each text that is read is the text of what was read. No condition. -/
import Derived.Test.YthdkgpmpopjnaaaRx4
import Derived.Test.YthdkgpmpopjnaaaHNamesMath
import Derived.OpenShut
namespace Go.Proofs.Ythdkgpmpopjnaaa.Pure
open Go.RowKit Go.Proofs.Ythdkgpmpopjnaaa.H Go.Proofs.Ythdkgpmpopjnaaa.R Go.Proofs.YthdkgpmpopjnaaaW.PrintWords Go.Proofs.YthdkgpmpopjnaaaW.PrintLast

theorem knows_true' : hurdlelaw09_knows.f = some true := by kernel_rfl

theorem only_j0 (s : ByteArray) : hurdlelaw09_NamesOnly.j0 1 s (readAct s).1 (readAct s).2 false = some true := by
  simp only [hurdlelaw09_NamesOnly.j0]
  rw [if_neg (by decide)]
  rcases act_readAct s with ⟨h1, v, hv, h2, h3⟩ | h
  · rw [if_pos h1, h2]
    unfold names_Action.f
    rw [if_pos ⟨by omega, by omega⟩]
    simp only [Option.bind_some, Int.toNat_natCast, h3]
    simp [knows_true']
  · rw [h]
    simp [knows_true']

theorem NamesOnly : hurdlelaw09_NamesOnly.Pure := by
  intro a0 s h0 _
  refine ⟨1, ?_⟩
  unfold hurdlelaw09_NamesOnly.f
  by_cases hs : (s.size : Int) > 200
  · rw [if_pos hs, knows_true']; rfl
  · rw [if_neg hs]
    unfold names_ReadMachine.f names_ReadCall.f names_ReadAction.f
    simp only [Option.bind_some]
    have hj := only_j0 s
    rcases text_read good_ML s with ⟨h1, n, hn, h2, h3⟩ | h1
    · rw [if_pos h1, h2]
      unfold names_Machine.f
      rw [if_pos ⟨by omega, by omega⟩]
      simp only [Option.bind_some, Int.toNat_natCast, h3, if_true]
      rcases text_read (good_calls a0) s with ⟨g1, m, hm, g2, g3⟩ | g1
      · rw [if_pos g1, g2]
        unfold names_Call.f
        rw [if_pos ⟨by omega, by omega⟩]
        simp only [Option.bind_some, Int.toNat_natCast, g3]
        rw [show (s.toList != s.toList) = false by simp]
        exact hj
      · rw [g1]
        simp only []
        rw [if_neg (by decide)]
        exact hj
    · rw [h1]
      simp only []
      rw [if_neg (by decide)]
      rcases text_read (good_calls a0) s with ⟨g1, m, hm, g2, g3⟩ | g1
      · rw [if_pos g1, g2]
        unfold names_Call.f
        rw [if_pos ⟨by omega, by omega⟩]
        simp only [Option.bind_some, Int.toNat_natCast, g3]
        rw [show (s.toList != s.toList) = false by simp]
        exact hj
      · rw [g1]
        simp only []
        rw [if_neg (by decide)]
        exact hj
end Go.Proofs.Ythdkgpmpopjnaaa.Pure
