/- The plain statement behind NamesReads: texts are read as the document says, or the error is told. No condition. -/
import Derived.Test.YthdkgpmpopjnaaaRx3
import Derived.Test.YthdkgpmpopjnaaaHNamesRef2
import Derived.OpenShut
namespace Go.Proofs.Ythdkgpmpopjnaaa.Pure
open Go.RowKit Go.Proofs.Ythdkgpmpopjnaaa.H Go.Proofs.Ythdkgpmpopjnaaa.R Go.Proofs.YthdkgpmpopjnaaaW.PrintWords Go.Proofs.YthdkgpmpopjnaaaW.PrintLast

theorem knows_true : hurdlelaw09_knows.f = some true := by kernel_rfl

theorem snd_cases {l : NL} (g : NGood l) (s : ByteArray) : (readOf l s).2 = 0 ∨ (readOf l s).2 = 2 := by
  rcases text_read g s with ⟨h, _⟩ | h
  · exact .inl h
  · rw [h]; exact .inr rfl
theorem snd_act (s : ByteArray) : (readAct s).2 = 0 ∨ (readAct s).2 = 2 := by
  rcases act_readAct s with ⟨h, _⟩ | h
  · exact .inl h
  · rw [h]; exact .inr rfl

theorem NamesReads : hurdlelaw09_NamesReads.Pure := by
  intro a0 s _ _
  refine ⟨4200 + 1 + 1 + 1 + 1 + 1, ?_⟩
  unfold hurdlelaw09_NamesReads.f
  by_cases hs : (s.size : Int) > 200
  · rw [if_pos hs, knows_true]; rfl
  · rw [if_neg hs, ref_readMachine s _ (by omega), ref_readCall a0 s _ (by omega), ref_readAction]
    unfold names_ReadMachine.f names_ReadCall.f names_ReadAction.f RA
    simp only [Option.bind_some]
    have c1 := snd_cases good_ML s
    have c2 := snd_cases (good_calls a0) s
    have c3 := snd_act s
    generalize readOf ML s = r1 at *
    generalize readOf (callsOf a0) s = r2 at *
    generalize readAct s = r3 at *
    obtain ⟨x1, y1⟩ := r1
    obtain ⟨x2, y2⟩ := r2
    obtain ⟨x3, y3⟩ := r3
    simp only [] at c1 c2 c3
    rcases c1 with rfl | rfl <;> rcases c2 with rfl | rfl <;> rcases c3 with rfl | rfl <;> simp [knows_true]
end Go.Proofs.Ythdkgpmpopjnaaa.Pure
