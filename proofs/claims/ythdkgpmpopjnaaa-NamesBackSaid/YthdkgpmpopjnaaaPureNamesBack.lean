/- The plain statement behind NamesBack: what is read of a text is what it is the text of. No condition. -/
import Derived.Test.YthdkgpmpopjnaaaRx4
import Derived.Test.YthdkgpmpopjnaaaHNamesMath
import Derived.OpenShut
namespace Go.Proofs.Ythdkgpmpopjnaaa.Pure
open Go.RowKit Go.Proofs.Ythdkgpmpopjnaaa.H Go.Proofs.Ythdkgpmpopjnaaa.R Go.Proofs.YthdkgpmpopjnaaaW.PrintWords Go.Proofs.YthdkgpmpopjnaaaW.PrintLast

theorem knows_true : hurdlelaw09_knows.f = some true := by kernel_rfl

theorem NamesBack : hurdlelaw09_NamesBack.Pure := by
  intro a0 a1 a2 h0 h1 h2
  obtain ⟨p0, q0⟩ := bounds_u32 h0
  obtain ⟨p1, q1⟩ := bounds_u32 h1
  obtain ⟨p2, q2⟩ := bounds_u32 h2
  obtain ⟨a, rfl⟩ := Int.eq_ofNat_of_zero_le p0
  obtain ⟨n, rfl⟩ := Int.eq_ofNat_of_zero_le p1
  obtain ⟨v, rfl⟩ := Int.eq_ofNat_of_zero_le p2
  refine ⟨1, ?_⟩
  unfold hurdlelaw09_NamesBack.f names_Machine.f names_ReadMachine.f names_Call.f names_ReadCall.f names_Action.f
  rw [if_pos ⟨by omega, by omega⟩, if_pos ⟨by omega, by omega⟩, if_pos ⟨by omega, by omega⟩]
  simp only [Option.bind_some, Int.toNat_natCast]
  rw [read_text good_ML a (by omega), read_text (good_calls _) n (by omega)]
  simp only [if_true]
  show hurdlelaw09_NamesBack.j0 1 (v : Int) (actOf v).1 (actOf v).2 false = some true
  simp only [hurdlelaw09_NamesBack.j0]
  rw [if_neg (by decide)]
  by_cases he : (actOf v).2 = 0
  · rw [if_pos he]
    unfold names_ReadAction.f
    rw [readAct_act v (by omega) he]
    simp [knows_true]
  · rw [if_neg he, act_empty v (by omega) he]
    simp only []
    rw [if_pos (by rw [ByteArray.toList_eq]), knows_true]
    rfl
end Go.Proofs.Ythdkgpmpopjnaaa.Pure
