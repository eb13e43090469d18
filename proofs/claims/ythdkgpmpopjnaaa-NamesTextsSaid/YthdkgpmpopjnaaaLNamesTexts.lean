/-
The walk through NamesTexts: machines, calls and actions have the texts that the document says. No condition.
-/
import Derived.Test.YthdkgpmpopjnaaaRx2
import Derived.Test.YthdkgpmpopjnaaaHNamesRef
import Derived.OpenShut
set_option linter.unusedVariables false
set_option linter.unusedSimpArgs false
namespace Go.Proofs.Ythdkgpmpopjnaaa.H
open Go.RowKit Go.Proofs.Ythdkgpmpopjnaaa.R Go.Proofs.YthdkgpmpopjnaaaW.PrintWords

theorem ntknows (w : World) : Calls Try.prog 30 #[] w fun e w' => e = .returned (.bool true) ∧ Below w.heap.size w w' :=
  hurdlelaw09_knows.calls true w (by kernel_rfl)

theorem act_two (v : Nat) (hv : v < 4294967296) : (∃ S : ByteArray, actOf v = (S, 0) ∧ S.toList.isEmpty = false) ∨ actOf v = (⟨#[]⟩, 1) := by
  rcases act_cases v hv with ⟨p, hp, _, h3, h4⟩ | ⟨d, hd, hvd, h3⟩ | ⟨_, _, h3⟩
  · exact .inl ⟨p.1, h3, nonempty_of h4⟩
  · exact .inl ⟨_, h3, nonempty_of (by simp [errPre, ByteArray.data_append])⟩
  · exact .inr h3

set_option maxHeartbeats 2000000 in
theorem namesTexts_walk (a n v : Nat) (ha : a < 4294967296) (hn : n < 4294967296) (hv : v < 4294967296) (w : World) :
    Calls Try.prog 9 #[.int .u32 a, .int .u32 n, .int .u32 v] w fun e w' => e = .returned (.bool true) ∧ Below w.heap.size w w' := by
  have HA := Lib.hid (action_walk v hv)
  have HA' := Lib.hid (fun w => hurdleref09_Action.calls 30 v _ w (ref_action v hv 30 (by omega)))
  have HM := Lib.hid (machine_walk a ha)
  have HM' := Lib.hid (fun w => hurdleref09_Machine.calls 200 a _ w (ref_machine a ha))
  have HC := Lib.hid (call_walk a n hn)
  have HC' := Lib.hid (fun w => hurdleref09_Call.calls 200 a n _ w (ref_call a n hn))
  have HK := Lib.hid ntknows
  generalize textOf ML a = M at *
  generalize textOf (callsOf ↑a) n = C at *
  rcases act_two v hv with ⟨S, hS, hne⟩ | hS
  all_goals
    rw [hS] at HA HA'
    clear hS
  · have hs2 : ¬ S.toList = [] := by simpa using hne
    go_enter Try.func9, Try.ntmps9
    go_wp2_with fail
    refine (HA.out w).mono ?_
    rintro e w1 ⟨he, hb⟩
    have he2 : e = .returned (.tuple #[.string S, .int .i64 0]) := he
    subst he2
    have HB1 := Lib.hid hb
    clear hb he
    go_wp2_with fail
    refine (HA'.out w1).mono ?_
    rintro e w2 ⟨he, hb⟩
    have he2 : e = .returned (.string S) := he
    subst he2
    have HB2 := Lib.hid (HB1.out.trans (hb.mono HB1.out.size))
    clear hb he
    go_wp2_with fail
    refine (HM.out w2).mono ?_
    rintro e w3 ⟨rfl, hb⟩
    have HB3 := Lib.hid (HB2.out.trans (hb.mono HB2.out.size))
    clear hb
    go_wp2_with fail
    refine (HM'.out w3).mono ?_
    rintro e w4 ⟨rfl, hb⟩
    have HB4 := Lib.hid (HB3.out.trans (hb.mono HB3.out.size))
    clear hb
    go_wp2_with fail
    refine (HC.out w4).mono ?_
    rintro e w5 ⟨rfl, hb⟩
    have HB5 := Lib.hid (HB4.out.trans (hb.mono HB4.out.size))
    clear hb
    go_wp2_with fail
    refine (HC'.out w5).mono ?_
    rintro e w6 ⟨rfl, hb⟩
    have HB6 := Lib.hid (HB5.out.trans (hb.mono HB5.out.size))
    clear hb
    go_wp2_with fail
    refine (HK.out w6).mono ?_
    rintro e w7 ⟨rfl, hb⟩
    have HB7 := Lib.hid (HB6.out.trans (hb.mono HB6.out.size))
    clear hb
    go_wp2
    go_ret
    exact ⟨rfl, HB7.out⟩
  · go_enter Try.func9, Try.ntmps9
    go_wp2_with fail
    refine (HA.out w).mono ?_
    rintro e w1 ⟨he, hb⟩
    have he2 : e = .returned (.tuple #[.string ⟨#[]⟩, .int .i64 1]) := he
    subst he2
    have HB1 := Lib.hid hb
    clear hb he
    go_wp2_with fail
    refine (HA'.out w1).mono ?_
    rintro e w2 ⟨he, hb⟩
    have he2 : e = .returned (.string ⟨#[]⟩) := he
    subst he2
    have HB2 := Lib.hid (HB1.out.trans (hb.mono HB1.out.size))
    clear hb he
    go_wp2_with fail
    refine (HM.out w2).mono ?_
    rintro e w3 ⟨rfl, hb⟩
    have HB3 := Lib.hid (HB2.out.trans (hb.mono HB2.out.size))
    clear hb
    go_wp2_with fail
    refine (HM'.out w3).mono ?_
    rintro e w4 ⟨rfl, hb⟩
    have HB4 := Lib.hid (HB3.out.trans (hb.mono HB3.out.size))
    clear hb
    go_wp2_with fail
    refine (HC.out w4).mono ?_
    rintro e w5 ⟨rfl, hb⟩
    have HB5 := Lib.hid (HB4.out.trans (hb.mono HB4.out.size))
    clear hb
    go_wp2_with fail
    refine (HC'.out w5).mono ?_
    rintro e w6 ⟨rfl, hb⟩
    have HB6 := Lib.hid (HB5.out.trans (hb.mono HB5.out.size))
    clear hb
    go_wp2_with fail
    refine (HK.out w6).mono ?_
    rintro e w7 ⟨rfl, hb⟩
    have HB7 := Lib.hid (HB6.out.trans (hb.mono HB6.out.size))
    clear hb
    go_wp2
    go_ret
    exact ⟨rfl, HB7.out⟩

theorem hurdlelaw09_NamesTexts.walk (a0 : Int) (a1 : Int) (a2 : Int) (w : World) (w0 : (Lit.int .u32 a0).wf = true) (w1 : (Lit.int .u32 a1).wf = true) (w2 : (Lit.int .u32 a2).wf = true) :
    Calls Try.prog 9 #[.int .u32 a0, .int .u32 a1, .int .u32 a2] w fun e w' => e = .returned (.bool true) ∧ Below w.heap.size w w' := by
  obtain ⟨p0, q0⟩ := bounds_u32 w0
  obtain ⟨p1, q1⟩ := bounds_u32 w1
  obtain ⟨p2, q2⟩ := bounds_u32 w2
  obtain ⟨a, rfl⟩ := Int.eq_ofNat_of_zero_le p0
  obtain ⟨n, rfl⟩ := Int.eq_ofNat_of_zero_le p1
  obtain ⟨v, rfl⟩ := Int.eq_ofNat_of_zero_le p2
  exact namesTexts_walk a n v (by omega) (by omega) (by omega) w
end Go.Proofs.Ythdkgpmpopjnaaa.H
