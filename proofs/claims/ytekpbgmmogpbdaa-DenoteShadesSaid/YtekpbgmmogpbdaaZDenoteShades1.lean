/- A rule behind one with the same machine and call, and no conditions, makes no difference (any policy, any record, any rule, any two places). -/
import Derived.OpenShut
import Derived.LoopTactic
import Derived.StillTailTactics
import Derived.ProofKit
import Derived.ChangeOld
import Derived.DataReads
import Derived.Test.YtekpbgmmogpbdaaRows
import Derived.ShutString
import Derived.SizedLaws
import Derived.Test.YtekpbgmmogpbdaaZDenoteShades0
namespace Go.Proofs.Ytekpbgmmogpbdaa.M
open Go.RowKit Go.Proofs.Ytekpbgmmogpbdaa.H Go.Proofs.YtekpbgmmogpbdaaW.PrintWords Go.Proofs.YtekpbgmmogpbdaaW.PrintLast Go.Proofs.YtekpbgmmogpbdaaW.PrintMore
attribute [local go_sem] max2_int min2_int max_two min_two max_three min_three max_four min_four
set_option linter.unusedVariables false
set_option linter.unusedSimpArgs false
theorem k61_mk (w : World) (x : S61)  : k61.K w x [.int .i64 x.f0, .int .i64 x.f1, .int .u64 x.f2, .int .u64 x.f3] := ⟨[.int .i64 x.f0], [.int .i64 x.f1, .int .u64 x.f2, .int .u64 x.f3], rfl, rfl, ⟨[.int .i64 x.f1], [.int .u64 x.f2, .int .u64 x.f3], rfl, rfl, ⟨[.int .u64 x.f2], [.int .u64 x.f3], rfl, rfl, rfl⟩⟩⟩
end Go.Proofs.Ytekpbgmmogpbdaa.M
namespace Go.Proofs.Ytekpbgmmogpbdaa.P
open Go.RowKit Go.Proofs.Ytekpbgmmogpbdaa.H Go.Proofs.YtekpbgmmogpbdaaW.PrintWords Go.Proofs.YtekpbgmmogpbdaaW.PrintLast Go.Proofs.YtekpbgmmogpbdaaW.PrintMore
attribute [local go_sem] max2_int min2_int max_two min_two max_three min_three max_four min_four
set_option linter.unusedVariables false
set_option linter.unusedSimpArgs false
theorem k61_mk (w : World) (x : S61)  : k61.K w x [.int .i64 x.f0, .int .i64 x.f1, .int .u64 x.f2, .int .u64 x.f3] := ⟨[.int .i64 x.f0], [.int .i64 x.f1, .int .u64 x.f2, .int .u64 x.f3], rfl, rfl, ⟨[.int .i64 x.f1], [.int .u64 x.f2, .int .u64 x.f3], rfl, rfl, ⟨[.int .u64 x.f2], [.int .u64 x.f3], rfl, rfl, rfl⟩⟩⟩
theorem k40_openF {W : World} {ok : Nat → Prop} {x : S40} {cs : List Value} (h : Kd.FK k40 W ok x cs) : ∃ A2 c2, cs = [.int .u32 x.f0, .int .u32 x.f1, .slice A2 x.f2.length c2, .int .u32 x.f3] ∧ x.f2.length ≤ c2 ∧ Kd.F k61 W ok A2 x.f2.length x.f2 := by
  obtain ⟨A2, c2, rfl, l2, _⟩ := k40_open (Kd.FK_now h)
  exact ⟨A2, c2, rfl, l2, (fun W' hW => by obtain ⟨A2_, c2_, he, l2_, g2_⟩ := k40_open (h W' hW); injection (Option.some.inj (show some (Value.slice A2 x.f2.length c2) = some (Value.slice A2_ x.f2.length c2_) from congrArg (fun l => l[2]?) he)) with ha_ _ _; rw [ha_]; exact g2_)⟩
end Go.Proofs.Ytekpbgmmogpbdaa.P
namespace Go.Proofs.Ytekpbgmmogpbdaa.D
open Go.RowKit Go.Proofs.Ytekpbgmmogpbdaa.H Go.Proofs.YtekpbgmmogpbdaaW.PrintWords Go.Proofs.YtekpbgmmogpbdaaW.PrintLast Go.Proofs.YtekpbgmmogpbdaaW.PrintMore
open Go.Proofs.Ytekpbgmmogpbdaa.P (errW errW_none errW_some info40 info61 S61 z61 k61 k61_open k61_mk k61_mkM rd_T61 at_T61 S40 z40 k40 k40_open k40_mk k40_mkM k40_openF k40_mkF rd_T40 at_T40)
attribute [local go_sem] max2_int min2_int max_two min_two max_three min_three max_four min_four
set_option linter.unusedVariables false
set_option linter.unusedSimpArgs false
noncomputable def hurdlelaw11_DenoteShades.j0 : Nat → Int → Int → Bool → List (S40) → Int → Int → Int → List (S61) → Int → Int → Int → Int → Int → Int → Int → Int → Int → Int → Option (Bool)
  | 0, _, _, _, _, _, _, _, _, _, _, _, _, _, _, _, _, _, _ => none
  | k + 1, x3, x4, x33, x164000, x164001, x165000, x165001, x165002, x165003, x166000, x166001, x166002, x166003, x166004, x166005, x166006, x166007, x166008 => if x33 = true then ((hurdlelaw11_knows.f).bind fun t167 => (some t167)) else (if (x164000.length : Int) = 0 then (none) else (if ([] : List (S40)).length + x164000.length < 3518437208883 then ((some (([] : List (S40)) ++ x164000 : List (S40))).bind fun y169 => (if 0 ≤ (Int.tmod (wrap64 (x4)) (x164000.length : Int)) then (if (Int.tmod (wrap64 (x4)) (x164000.length : Int)) < (x164000.length : Int) then (if (Int.tmod (wrap64 (x4)) (x164000.length : Int)) < (y169.length : Int) then ((some (y169.set ((Int.tmod (wrap64 (x4)) (x164000.length : Int)) : Int).toNat (⟨x165000, x165001, ([] : List (S61)), (rd_T40 x164000 (Int.tmod (wrap64 (x4)) (x164000.length : Int))).f3⟩ : S40) : List (S40))).bind fun y173 => (if (wrap64 ((x164000.length : Int) - (Int.tmod (wrap64 (x4)) (x164000.length : Int)))) = 0 then (none) else ((hurdlelaw11_put.f y173 x164001 (wrap64 ((wrap64 ((Int.tmod (wrap64 (x4)) (x164000.length : Int)) + 1)) + (Int.tmod (wrap64 (x3)) (wrap64 ((x164000.length : Int) - (Int.tmod (wrap64 (x4)) (x164000.length : Int))))))) x165000 x165001 x165002 x165003).bind fun bt174 => ((hurdleref10_Right.f bt174.1 bt174.2).bind fun t179 => (if t179 = true then ((denote_Judge.f y173 x164001 x166000 x166001 x166002 x166003 x166004 x166005 x166006 x166007 x166008).bind fun bt180 => ((denote_Judge.f bt174.1 bt174.2 x166000 x166001 x166002 x166003 x166004 x166005 x166006 x166007 x166008).bind fun bt182 => (if bt180.1 = bt182.1 then (if bt180.2 = 0 then (if bt182.2 = 0 then ((hurdlelaw11_knows.f).bind fun t184 => (some t184)) else (some false)) else (some false)) else (some false)))) else ((hurdlelaw11_knows.f).bind fun t185 => (some t185))))))) else (none)) else (none)) else (none))) else (none)))
noncomputable def hurdlelaw11_DenoteShades.f (k : Nat) (l0_0 : List (S40)) (a0_1 : Int) (a1_0 : Int) (a1_1 : Int) (l1_2 : List (S61)) (a1_3 : Int) (a2_0 : Int) (a2_1 : Int) (a2_2 : Int) (a2_3 : Int) (a2_4 : Int) (a2_5 : Int) (a2_6 : Int) (a2_7 : Int) (a2_8 : Int) (a3 : Int) (a4 : Int) : Option (Bool) := (hurdleref10_Right.f l0_0 a0_1).bind fun t166 => (if t166 = true then (if (l0_0.length : Int) = 0 then (hurdlelaw11_DenoteShades.j0 k a3 a4 true l0_0 a0_1 a1_0 a1_1 l1_2 a1_3 a2_0 a2_1 a2_2 a2_3 a2_4 a2_5 a2_6 a2_7 a2_8) else (hurdlelaw11_DenoteShades.j0 k a3 a4 (decide ((l0_0.length : Int) > 60)) l0_0 a0_1 a1_0 a1_1 l1_2 a1_3 a2_0 a2_1 a2_2 a2_3 a2_4 a2_5 a2_6 a2_7 a2_8)) else (hurdlelaw11_DenoteShades.j0 k a3 a4 true l0_0 a0_1 a1_0 a1_1 l1_2 a1_3 a2_0 a2_1 a2_2 a2_3 a2_4 a2_5 a2_6 a2_7 a2_8))
def hurdlelaw11_DenoteShades.T6 : Bool × List (List Nat × List Nat) := (true, [([], []), ([0], [0]), ([], []), ([], []), ([3], [3]), ([], []), ([5], [5]), ([], []), ([7], [7]), ([], []), ([8, 9], [8, 9]), ([10], [10]), ([11], [11]), ([4, 6, 12], [4, 6, 12]), ([1, 2, 0, 1, 2, 3, 4, 5, 6, 7, 8, 9, 10, 11, 12, 13], [1, 2]), ([14, 13, 0, 1, 2, 3, 4, 5, 6, 7, 8, 9, 10, 11, 12, 13], [13, 14])])
def hurdlelaw11_DenoteShades.B6 : List Nat := [0, 1, 0, 0, 8, 0, 32, 0, 128, 0, 896, 1920, 3968, 8184, 16383, 32767]
theorem hurdlelaw11_DenoteShades.tab6 : rtab .any (opsOf Try.f10 6) = hurdlelaw11_DenoteShades.T6 := by kernel_rfl
theorem hurdlelaw11_DenoteShades.bits6 : waitsOk hurdlelaw11_DenoteShades.T6.2 hurdlelaw11_DenoteShades.B6 = true := by kernel_rfl
set_option maxHeartbeats 8000000 in
set_option maxRecDepth 100000 in
theorem hurdlelaw11_DenoteShades.calls (k : Nat) (P0_0_ : Nat → Prop) (A0_0 : Option Addr) (c0_0 : Nat) (l0_0 : List (S40)) (a0_1 : Int) (a1_0 : Int) (a1_1 : Int) (P1_2_ : Nat → Prop) (A1_2 : Option Addr) (c1_2 : Nat) (l1_2 : List (S61)) (a1_3 : Int) (a2_0 : Int) (a2_1 : Int) (a2_2 : Int) (a2_3 : Int) (a2_4 : Int) (a2_5 : Int) (a2_6 : Int) (a2_7 : Int) (a2_8 : Int) (a3 : Int) (a4 : Int) (r : Bool) (w : World) (hs0_0 : Kd.V k40 40 w w.heap.size (fun k_ => P0_0_ k_) (.slice A0_0 l0_0.length c0_0) l0_0) (hs1_2 : Kd.V k61 61 w w.heap.size (fun k_ => P1_2_ k_) (.slice A1_2 l1_2.length c1_2) l1_2) (h : hurdlelaw11_DenoteShades.f k l0_0 a0_1 a1_0 a1_1 l1_2 a1_3 a2_0 a2_1 a2_2 a2_3 a2_4 a2_5 a2_6 a2_7 a2_8 a3 a4 = some r) (ht : r = true) :
    Calls Try.prog 10 #[.agg #[.slice A0_0 l0_0.length c0_0, .int .u32 a0_1], .agg #[.int .u32 a1_0, .int .u32 a1_1, .slice A1_2 l1_2.length c1_2, .int .u32 a1_3], .agg #[.int .u32 a2_0, .int .u32 a2_1, .int .u64 a2_2, .int .u64 a2_3, .int .u64 a2_4, .int .u64 a2_5, .int .u64 a2_6, .int .u64 a2_7, .int .u64 a2_8], .int .u8 a3, .int .u8 a4] w fun e w' => e = .returned (.bool r) ∧ Below w.heap.size w w' := by
  have hu25 := Try.underlying25
  have hu40 := Try.underlying40
  have hu44 := Try.underlying44
  have HO0_0 := Aside0.mk (show Kd.V k40 40 w w.heap.size (fun k_ => ((P0_0_ k_ ∨ P1_2_ k_) ∨ w.heap.size ≤ k_)) (.slice A0_0 l0_0.length c0_0) l0_0 from Kd.V_mono hs0_0 (fun k_ hk => .inl (.inl hk)))
  have HO1_2 := Aside0.mk (show Kd.V k61 61 w w.heap.size (fun k_ => ((P0_0_ k_ ∨ P1_2_ k_) ∨ w.heap.size ≤ k_)) (.slice A1_2 l1_2.length c1_2) l1_2 from Kd.V_mono hs1_2 (fun k_ hk => .inl (.inr hk)))
  have HB := Aside0.mk (Below.refl w.heap.size w)
  have H : ((hurdleref10_Right.f l0_0 a0_1).bind fun t166 => (if t166 = true then (if (l0_0.length : Int) = 0 then (hurdlelaw11_DenoteShades.j0 k a3 a4 true l0_0 a0_1 a1_0 a1_1 l1_2 a1_3 a2_0 a2_1 a2_2 a2_3 a2_4 a2_5 a2_6 a2_7 a2_8) else (hurdlelaw11_DenoteShades.j0 k a3 a4 (decide ((l0_0.length : Int) > 60)) l0_0 a0_1 a1_0 a1_1 l1_2 a1_3 a2_0 a2_1 a2_2 a2_3 a2_4 a2_5 a2_6 a2_7 a2_8)) else (hurdlelaw11_DenoteShades.j0 k a3 a4 true l0_0 a0_1 a1_0 a1_1 l1_2 a1_3 a2_0 a2_1 a2_2 a2_3 a2_4 a2_5 a2_6 a2_7 a2_8))) = some r := h
  clear h
  have HC6 := Aside0.mk H
  clear H
  go_enter Try.func10, Try.ntmps10
  go_upto_region 1 with (first | ((with_reducible refine gate_dst (N := 5) rfl ?_); (try (refine gate_guard (by rfl) ?_; dsimp only)); refine box_event ?hg (N := 5) ?hd (cs := #[.slice A0_0 l0_0.length c0_0, .int .u32 a0_1]) (t := 25) ?hr ?_; (case hd => rfl); (case hg => rfl); (case hr => first | (go_simp; done) | (go_simp; rfl)); intro gb163 hg w7 hbox hb; have n0_ := Aside0.mk (Kd.V_below (Kd.V_elderB (by (with_reducible repeat (first | apply Kd.V_alloc | apply Kd.V_drewN | apply Kd.V_drew)); exact HO0_0.out) gb163 (Nat.le_of_eq hg.symm)) hb); have n1_ := Aside0.mk (Kd.V_below (Kd.V_elderB (by (with_reducible repeat (first | apply Kd.V_alloc | apply Kd.V_drewN | apply Kd.V_drew)); exact HO1_2.out) gb163 (Nat.le_of_eq hg.symm)) hb); have n2_ := Aside0.mk (below_step (by repeat (first | (with_reducible first | exact HB.out | apply below_alloc | apply pw_below_drewN | apply below_drew1) | exact HB.out)) hb); have n3_ := Aside0.mk (hbox); have n4_ := Aside0.mk ((by rw [hg]; exact (below_size (by repeat (first | (with_reducible first | exact HB.out | apply below_alloc | apply pw_below_drewN | apply below_drew1) | exact HB.out))) : w.heap.size ≤ gb163)); have n5_ := Aside0.mk ((by rw [hg]; exact (below_size (by repeat (first | (with_reducible first | exact HB.out | apply below_alloc | apply pw_below_drewN | apply below_drew1) | exact HB.out))) : w.heap.size ≤ gb163)); clear HO0_0; clear HO1_2; clear HB; have HO0_0 := n0_; have HO1_2 := n1_; have HB := n2_; have BK163 := n3_; have GW163 := n4_; have GE163 := n5_; clear n0_ n1_ n2_ n3_ n4_ n5_; clear hb hbox hg) | ((with_reducible refine gate_dst (N := 6) rfl ?_); (try (refine gate_guard (by rfl) ?_; dsimp only)); refine box_event ?hg (N := 6) ?hd (cs := #[.int .u32 a1_0, .int .u32 a1_1, .slice A1_2 l1_2.length c1_2, .int .u32 a1_3]) (t := 40) ?hr ?_; (case hd => rfl); (case hg => rfl); (case hr => first | (go_simp; done) | (go_simp; rfl)); intro gb164 hg w8 hbox hb; have n0_ := Aside0.mk (Kd.V_below (Kd.V_elderB (by (with_reducible repeat (first | apply Kd.V_alloc | apply Kd.V_drewN | apply Kd.V_drew)); exact HO0_0.out) gb164 (Nat.le_of_eq hg.symm)) hb); have n1_ := Aside0.mk (Kd.V_below (Kd.V_elderB (by (with_reducible repeat (first | apply Kd.V_alloc | apply Kd.V_drewN | apply Kd.V_drew)); exact HO1_2.out) gb164 (Nat.le_of_eq hg.symm)) hb); have n2_ := Aside0.mk (blk_below (g := gb163) (o := .cells #[.slice A0_0 l0_0.length c0_0, .int .u32 a0_1] 25 (0, 0)) (by (with_reducible repeat (first | refine blk_drewN ?_ _ | refine blk_drew ?_ | refine blk_alloc ?_ _)); exact BK163.out) hb); have n3_ := Aside0.mk (below_step (by repeat (first | (with_reducible first | exact HB.out | apply below_alloc | apply pw_below_drewN | apply below_drew1 | refine below_set ?_ GE163.out) | exact HB.out)) hb); have n4_ := Aside0.mk (hbox); have n5_ := Aside0.mk ((by rw [hg]; exact (below_size (by repeat (first | (with_reducible first | exact HB.out | apply below_alloc | apply pw_below_drewN | apply below_drew1 | refine below_set ?_ GE163.out) | exact HB.out))) : w.heap.size ≤ gb164)); have n6_ := Aside0.mk ((by rw [hg]; exact (below_size (by repeat (first | (with_reducible first | exact HB.out | apply below_alloc | apply pw_below_drewN | apply below_drew1 | refine below_set ?_ GE163.out) | exact HB.out))) : w.heap.size ≤ gb164)); have n7_ := Aside0.mk ((by rw [hg]; exact Nat.ne_of_lt (blk_lt (g := gb163) (o := .cells #[.slice A0_0 l0_0.length c0_0, .int .u32 a0_1] 25 (0, 0)) (by (with_reducible repeat (first | refine blk_drewN ?_ _ | refine blk_drew ?_ | refine blk_alloc ?_ _)); exact BK163.out)) : gb163 ≠ gb164)); have n8_ := Aside0.mk ((by rw [hg]; exact Nat.ne_of_gt (blk_lt (g := gb163) (o := .cells #[.slice A0_0 l0_0.length c0_0, .int .u32 a0_1] 25 (0, 0)) (by (with_reducible repeat (first | refine blk_drewN ?_ _ | refine blk_drew ?_ | refine blk_alloc ?_ _)); exact BK163.out)) : gb164 ≠ gb163)); clear HO0_0; clear HO1_2; clear BK163; clear HB; have HO0_0 := n0_; have HO1_2 := n1_; have BK163 := n2_; have HB := n3_; have BK164 := n4_; have GW164 := n5_; have GE164 := n6_; have NB163_164 := n7_; have NB164_163 := n8_; clear n0_ n1_ n2_ n3_ n4_ n5_ n6_ n7_ n8_; clear hb hbox hg) | ((with_reducible refine gate_dst (N := 7) rfl ?_); (try (refine gate_guard (by rfl) ?_; dsimp only)); refine box_event ?hg (N := 7) ?hd (cs := #[.int .u32 a2_0, .int .u32 a2_1, .int .u64 a2_2, .int .u64 a2_3, .int .u64 a2_4, .int .u64 a2_5, .int .u64 a2_6, .int .u64 a2_7, .int .u64 a2_8]) (t := 44) ?hr ?_; (case hd => rfl); (case hg => rfl); (case hr => first | (go_simp; done) | (go_simp; rfl)); intro gb165 hg w9 hbox hb; have n0_ := Aside0.mk (Kd.V_below (Kd.V_elderB (by (with_reducible repeat (first | apply Kd.V_alloc | apply Kd.V_drewN | apply Kd.V_drew)); exact HO0_0.out) gb165 (Nat.le_of_eq hg.symm)) hb); have n1_ := Aside0.mk (Kd.V_below (Kd.V_elderB (by (with_reducible repeat (first | apply Kd.V_alloc | apply Kd.V_drewN | apply Kd.V_drew)); exact HO1_2.out) gb165 (Nat.le_of_eq hg.symm)) hb); have n2_ := Aside0.mk (blk_below (g := gb163) (o := .cells #[.slice A0_0 l0_0.length c0_0, .int .u32 a0_1] 25 (0, 0)) (by (with_reducible repeat (first | refine blk_drewN ?_ _ | refine blk_drew ?_ | refine blk_alloc ?_ _)); exact BK163.out) hb); have n3_ := Aside0.mk (blk_below (g := gb164) (o := .cells #[.int .u32 a1_0, .int .u32 a1_1, .slice A1_2 l1_2.length c1_2, .int .u32 a1_3] 40 (0, 0)) (by (with_reducible repeat (first | refine blk_drewN ?_ _ | refine blk_drew ?_ | refine blk_alloc ?_ _)); exact BK164.out) hb); have n4_ := Aside0.mk (below_step (by repeat (first | (with_reducible first | exact HB.out | apply below_alloc | apply pw_below_drewN | apply below_drew1 | refine below_set ?_ GE163.out | refine below_set ?_ GE164.out) | exact HB.out)) hb); have n5_ := Aside0.mk (hbox); have n6_ := Aside0.mk ((by rw [hg]; exact (below_size (by repeat (first | (with_reducible first | exact HB.out | apply below_alloc | apply pw_below_drewN | apply below_drew1 | refine below_set ?_ GE163.out | refine below_set ?_ GE164.out) | exact HB.out))) : w.heap.size ≤ gb165)); have n7_ := Aside0.mk ((by rw [hg]; exact (below_size (by repeat (first | (with_reducible first | exact HB.out | apply below_alloc | apply pw_below_drewN | apply below_drew1 | refine below_set ?_ GE163.out | refine below_set ?_ GE164.out) | exact HB.out))) : w.heap.size ≤ gb165)); have n8_ := Aside0.mk ((by rw [hg]; exact Nat.ne_of_lt (blk_lt (g := gb163) (o := .cells #[.slice A0_0 l0_0.length c0_0, .int .u32 a0_1] 25 (0, 0)) (by (with_reducible repeat (first | refine blk_drewN ?_ _ | refine blk_drew ?_ | refine blk_alloc ?_ _)); exact BK163.out)) : gb163 ≠ gb165)); have n9_ := Aside0.mk ((by rw [hg]; exact Nat.ne_of_gt (blk_lt (g := gb163) (o := .cells #[.slice A0_0 l0_0.length c0_0, .int .u32 a0_1] 25 (0, 0)) (by (with_reducible repeat (first | refine blk_drewN ?_ _ | refine blk_drew ?_ | refine blk_alloc ?_ _)); exact BK163.out)) : gb165 ≠ gb163)); have n10_ := Aside0.mk ((by rw [hg]; exact Nat.ne_of_lt (blk_lt (g := gb164) (o := .cells #[.int .u32 a1_0, .int .u32 a1_1, .slice A1_2 l1_2.length c1_2, .int .u32 a1_3] 40 (0, 0)) (by (with_reducible repeat (first | refine blk_drewN ?_ _ | refine blk_drew ?_ | refine blk_alloc ?_ _)); exact BK164.out)) : gb164 ≠ gb165)); have n11_ := Aside0.mk ((by rw [hg]; exact Nat.ne_of_gt (blk_lt (g := gb164) (o := .cells #[.int .u32 a1_0, .int .u32 a1_1, .slice A1_2 l1_2.length c1_2, .int .u32 a1_3] 40 (0, 0)) (by (with_reducible repeat (first | refine blk_drewN ?_ _ | refine blk_drew ?_ | refine blk_alloc ?_ _)); exact BK164.out)) : gb165 ≠ gb164)); clear HO0_0; clear HO1_2; clear BK163; clear BK164; clear HB; have HO0_0 := n0_; have HO1_2 := n1_; have BK163 := n2_; have BK164 := n3_; have HB := n4_; have BK165 := n5_; have GW165 := n6_; have GE165 := n7_; have NB163_165 := n8_; have NB165_163 := n9_; have NB164_165 := n10_; have NB165_164 := n11_; clear n0_ n1_ n2_ n3_ n4_ n5_ n6_ n7_ n8_ n9_ n10_ n11_; clear hb hbox hg))
  (try simp only [Act.put, List.setIfInBounds_toArray, List.set_cons_zero, List.set_cons_succ])
  go_cut [33] (fun v33 wc => ∃ (kq : Nat) (x33_5 : Bool), v33 = .bool x33_5 ∧ Aside0 (hurdlelaw11_DenoteShades.j0 kq a3 a4 x33_5 l0_0 a0_1 a1_0 a1_1 l1_2 a1_3 a2_0 a2_1 a2_2 a2_3 a2_4 a2_5 a2_6 a2_7 a2_8 = some r) ∧ Aside0 (kq ≤ k) ∧ Aside0 (Kd.V k40 40 wc w.heap.size (fun k_ => ((P0_0_ k_ ∨ P1_2_ k_) ∨ w.heap.size ≤ k_) ∧ k_ ≠ gb163 ∧ k_ ≠ gb164 ∧ k_ ≠ gb165) (.slice A0_0 l0_0.length c0_0) l0_0) ∧ Aside0 (Kd.V k61 61 wc w.heap.size (fun k_ => ((P0_0_ k_ ∨ P1_2_ k_) ∨ w.heap.size ≤ k_) ∧ k_ ≠ gb163 ∧ k_ ≠ gb164 ∧ k_ ≠ gb165) (.slice A1_2 l1_2.length c1_2) l1_2) ∧ Aside0 (wc.heap[gb163]? = some (.cells #[(.slice A0_0 l0_0.length c0_0), .int .u32 a0_1] 25 (0, 0))) ∧ Aside0 (wc.heap[gb164]? = some (.cells #[.int .u32 a1_0, .int .u32 a1_1, (.slice A1_2 l1_2.length c1_2), .int .u32 a1_3] 40 (0, 0))) ∧ Aside0 (wc.heap[gb165]? = some (.cells #[.int .u32 a2_0, .int .u32 a2_1, .int .u64 a2_2, .int .u64 a2_3, .int .u64 a2_4, .int .u64 a2_5, .int .u64 a2_6, .int .u64 a2_7, .int .u64 a2_8] 44 (0, 0))) ∧ Aside0 (Below w.heap.size w wc))
  case first =>
    have H := HC6.out
    clear HC6
    replace H := Option.bind_eq_some_iff.mp H
    obtain ⟨t166, A100, H⟩ := H
    replace H : (if t166 = true then (if (l0_0.length : Int) = 0 then (hurdlelaw11_DenoteShades.j0 k a3 a4 true l0_0 a0_1 a1_0 a1_1 l1_2 a1_3 a2_0 a2_1 a2_2 a2_3 a2_4 a2_5 a2_6 a2_7 a2_8) else (hurdlelaw11_DenoteShades.j0 k a3 a4 (decide ((l0_0.length : Int) > 60)) l0_0 a0_1 a1_0 a1_1 l1_2 a1_3 a2_0 a2_1 a2_2 a2_3 a2_4 a2_5 a2_6 a2_7 a2_8)) else (hurdlelaw11_DenoteShades.j0 k a3 a4 true l0_0 a0_1 a1_0 a1_1 l1_2 a1_3 a2_0 a2_1 a2_2 a2_3 a2_4 a2_5 a2_6 a2_7 a2_8)) = some r := H
    have A10 := Aside0.mk A100
    clear A100
    by_cases c11 : t166 = true
    · subst c11
      have H1 : (if (l0_0.length : Int) = 0 then (hurdlelaw11_DenoteShades.j0 k a3 a4 true l0_0 a0_1 a1_0 a1_1 l1_2 a1_3 a2_0 a2_1 a2_2 a2_3 a2_4 a2_5 a2_6 a2_7 a2_8) else (hurdlelaw11_DenoteShades.j0 k a3 a4 (decide ((l0_0.length : Int) > 60)) l0_0 a0_1 a1_0 a1_1 l1_2 a1_3 a2_0 a2_1 a2_2 a2_3 a2_4 a2_5 a2_6 a2_7 a2_8)) = some r := by rw [if_pos rfl] at H; exact H
      clear H
      have H := H1
      clear H1
      by_cases c12 : (l0_0.length : Int) = 0
      · rw [if_pos c12] at H
        have c12b0 : ((l0_0.length : Int) == 0) = true := beq_iff_eq.mpr c12
        have c12b1 : ((l0_0.length : Int) != 0) = false := bne_eq_false_iff_eq.mpr c12
        clear c12
        (first | rw [c12b0] | (simp only [i64_w, i32_w]; rw [c12b0]) | skip)
        have H' := Aside0.mk H
        clear H
        have hnb13 := NB163_164.out
        have hnc13 := NB164_163.out
        have hnb14 := NB163_165.out
        have hnc14 := NB165_163.out
        have hcz15_0 : w9.cell? ⟨gb163, 0, none⟩ = some (.slice A0_0 l0_0.length c0_0) := (blk_cell BK163.out 0).trans rfl
        have hcz15_1 : w9.cell? ⟨gb163, 1, none⟩ = some (.int .u32 a0_1) := (blk_cell BK163.out 1).trans rfl
        have hfz15_0 := blk_frozen BK163.out 0
        have hfz15_1 := blk_frozen BK163.out 1
        go_wp2_with (first | ((with_reducible refine gate_callee (f := 17) rfl ?_); refine goesL_ (some 20) rfl rfl Try.func17 (by kernel_rfl) rfl #[.agg #[.slice A0_0 l0_0.length c0_0, .int .u32 a0_1]] rfl (by (try simp only [List.map_toArray, List.map_cons, List.map_nil]); first | done | rfl | (simp only [List.length_drop, List.length_take]; rfl)) ?_; (with_reducible refine (hurdleref10_Right.calls _ _ l0_0 a0_1 true _ ?side1 ?side2 A10.out).mono ?_); (case side1 => repeat (first | exact (Kd.V_reads' HO0_0.out).2.2 | (with_reducible refine Kd.C_alloc ?_ _) | (with_reducible refine Kd.C_drewN ?_ _) | (with_reducible refine Kd.C_drew ?_))); (case side2 => exact (Kd.V_reads' HO0_0.out).2.1); rintro e w16 ⟨rfl, hb⟩; refine ⟨_, rfl, ?_⟩; have n0_ := Aside0.mk (Kd.V_below (by (with_reducible repeat (first | apply Kd.V_alloc | apply Kd.V_drewN | apply Kd.V_drew)); exact HO0_0.out) hb); have n1_ := Aside0.mk (Kd.V_below (by (with_reducible repeat (first | apply Kd.V_alloc | apply Kd.V_drewN | apply Kd.V_drew)); exact HO1_2.out) hb); have n2_ := Aside0.mk (blk_below (g := gb163) (o := .cells #[.slice A0_0 l0_0.length c0_0, .int .u32 a0_1] 25 (0, 0)) (by (with_reducible repeat (first | refine blk_drewN ?_ _ | refine blk_drew ?_ | refine blk_alloc ?_ _)); exact BK163.out) hb); have n3_ := Aside0.mk (blk_below (g := gb164) (o := .cells #[.int .u32 a1_0, .int .u32 a1_1, .slice A1_2 l1_2.length c1_2, .int .u32 a1_3] 40 (0, 0)) (by (with_reducible repeat (first | refine blk_drewN ?_ _ | refine blk_drew ?_ | refine blk_alloc ?_ _)); exact BK164.out) hb); have n4_ := Aside0.mk (blk_below (g := gb165) (o := .cells #[.int .u32 a2_0, .int .u32 a2_1, .int .u64 a2_2, .int .u64 a2_3, .int .u64 a2_4, .int .u64 a2_5, .int .u64 a2_6, .int .u64 a2_7, .int .u64 a2_8] 44 (0, 0)) (by (with_reducible repeat (first | refine blk_drewN ?_ _ | refine blk_drew ?_ | refine blk_alloc ?_ _)); exact BK165.out) hb); have n5_ := Aside0.mk (below_step (by repeat (first | (with_reducible first | exact HB.out | apply below_alloc | apply pw_below_drewN | apply below_drew1 | refine below_set ?_ GE163.out | refine below_set ?_ GE164.out | refine below_set ?_ GE165.out) | exact HB.out)) hb); clear HO0_0; clear HO1_2; clear BK163; clear BK164; clear BK165; clear HB; have HO0_0 := n0_; have HO1_2 := n1_; have BK163 := n2_; have BK164 := n3_; have BK165 := n4_; have HB := n5_; clear n0_ n1_ n2_ n3_ n4_ n5_; (try clear hb); (try clear hb2); (try clear hk); (try clear hi); have hcz17_0 : w16.cell? ⟨gb163, 0, none⟩ = some (.slice A0_0 l0_0.length c0_0) := (blk_cell BK163.out 0).trans rfl; have hcz17_1 : w16.cell? ⟨gb163, 1, none⟩ = some (.int .u32 a0_1) := (blk_cell BK163.out 1).trans rfl; have hfz17_0 := blk_frozen BK163.out 0; have hfz17_1 := blk_frozen BK163.out 1))
        go_meet
        case rel => exact ⟨_, (true), (by first | rfl | (simp; done) | (simp [*]; done)), H', ⟨by first | omega | exact Nat.le_refl _⟩, ⟨by (with_reducible repeat (first | apply Kd.V_alloc | apply Kd.V_drewN | apply Kd.V_drew)); exact Kd.V_mono HO0_0.out (fun _ hk => ⟨hk.1.1.1, ⟨hk.1.1.2, ⟨hk.1.2, hk.2⟩⟩⟩)⟩, ⟨by (with_reducible repeat (first | apply Kd.V_alloc | apply Kd.V_drewN | apply Kd.V_drew)); exact Kd.V_mono HO1_2.out (fun _ hk => ⟨hk.1.1.1, ⟨hk.1.1.2, ⟨hk.1.2, hk.2⟩⟩⟩)⟩, ⟨by (with_reducible repeat (first | refine blk_drewN ?_ _ | refine blk_drew ?_ | refine blk_alloc ?_ _)); exact BK163.out⟩, ⟨by (with_reducible repeat (first | refine blk_drewN ?_ _ | refine blk_drew ?_ | refine blk_alloc ?_ _)); exact BK164.out⟩, ⟨by (with_reducible repeat (first | refine blk_drewN ?_ _ | refine blk_drew ?_ | refine blk_alloc ?_ _)); exact BK165.out⟩, ⟨by repeat (first | (with_reducible first | exact HB.out | apply below_alloc | apply pw_below_drewN | apply below_drew1 | refine below_set ?_ GE163.out | refine below_set ?_ GE164.out | refine below_set ?_ GE165.out) | exact HB.out)⟩⟩
      · rw [if_neg c12] at H
        have c12b0 : ((l0_0.length : Int) == 0) = false := beq_eq_false_iff_ne.mpr c12
        have c12b1 : ((l0_0.length : Int) != 0) = true := bne_iff_ne.mpr c12
        have c12b2 : ¬ (l0_0 = []) := fun h_ => c12 (by rw [h_]; rfl)
        (first | rw [c12b0] | (simp only [i64_w, i32_w]; rw [c12b0]) | skip)
        have H' := Aside0.mk H
        clear H
        have hnb18 := NB163_164.out
        have hnc18 := NB164_163.out
        have hnb19 := NB163_165.out
        have hnc19 := NB165_163.out
        have hcz20_0 : w9.cell? ⟨gb163, 0, none⟩ = some (.slice A0_0 l0_0.length c0_0) := (blk_cell BK163.out 0).trans rfl
        have hcz20_1 : w9.cell? ⟨gb163, 1, none⟩ = some (.int .u32 a0_1) := (blk_cell BK163.out 1).trans rfl
        have hfz20_0 := blk_frozen BK163.out 0
        have hfz20_1 := blk_frozen BK163.out 1
        go_wp2_with (first | ((with_reducible refine gate_callee (f := 17) rfl ?_); refine goesL_ (some 20) rfl rfl Try.func17 (by kernel_rfl) rfl #[.agg #[.slice A0_0 l0_0.length c0_0, .int .u32 a0_1]] rfl (by (try simp only [List.map_toArray, List.map_cons, List.map_nil]); first | done | rfl | (simp only [List.length_drop, List.length_take]; rfl)) ?_; (with_reducible refine (hurdleref10_Right.calls _ _ l0_0 a0_1 true _ ?side1 ?side2 A10.out).mono ?_); (case side1 => repeat (first | exact (Kd.V_reads' HO0_0.out).2.2 | (with_reducible refine Kd.C_alloc ?_ _) | (with_reducible refine Kd.C_drewN ?_ _) | (with_reducible refine Kd.C_drew ?_))); (case side2 => exact (Kd.V_reads' HO0_0.out).2.1); rintro e w21 ⟨rfl, hb⟩; refine ⟨_, rfl, ?_⟩; have n0_ := Aside0.mk (Kd.V_below (by (with_reducible repeat (first | apply Kd.V_alloc | apply Kd.V_drewN | apply Kd.V_drew)); exact HO0_0.out) hb); have n1_ := Aside0.mk (Kd.V_below (by (with_reducible repeat (first | apply Kd.V_alloc | apply Kd.V_drewN | apply Kd.V_drew)); exact HO1_2.out) hb); have n2_ := Aside0.mk (blk_below (g := gb163) (o := .cells #[.slice A0_0 l0_0.length c0_0, .int .u32 a0_1] 25 (0, 0)) (by (with_reducible repeat (first | refine blk_drewN ?_ _ | refine blk_drew ?_ | refine blk_alloc ?_ _)); exact BK163.out) hb); have n3_ := Aside0.mk (blk_below (g := gb164) (o := .cells #[.int .u32 a1_0, .int .u32 a1_1, .slice A1_2 l1_2.length c1_2, .int .u32 a1_3] 40 (0, 0)) (by (with_reducible repeat (first | refine blk_drewN ?_ _ | refine blk_drew ?_ | refine blk_alloc ?_ _)); exact BK164.out) hb); have n4_ := Aside0.mk (blk_below (g := gb165) (o := .cells #[.int .u32 a2_0, .int .u32 a2_1, .int .u64 a2_2, .int .u64 a2_3, .int .u64 a2_4, .int .u64 a2_5, .int .u64 a2_6, .int .u64 a2_7, .int .u64 a2_8] 44 (0, 0)) (by (with_reducible repeat (first | refine blk_drewN ?_ _ | refine blk_drew ?_ | refine blk_alloc ?_ _)); exact BK165.out) hb); have n5_ := Aside0.mk (below_step (by repeat (first | (with_reducible first | exact HB.out | apply below_alloc | apply pw_below_drewN | apply below_drew1 | refine below_set ?_ GE163.out | refine below_set ?_ GE164.out | refine below_set ?_ GE165.out) | exact HB.out)) hb); clear HO0_0; clear HO1_2; clear BK163; clear BK164; clear BK165; clear HB; have HO0_0 := n0_; have HO1_2 := n1_; have BK163 := n2_; have BK164 := n3_; have BK165 := n4_; have HB := n5_; clear n0_ n1_ n2_ n3_ n4_ n5_; (try clear hb); (try clear hb2); (try clear hk); (try clear hi); have hcz22_0 : w21.cell? ⟨gb163, 0, none⟩ = some (.slice A0_0 l0_0.length c0_0) := (blk_cell BK163.out 0).trans rfl; have hcz22_1 : w21.cell? ⟨gb163, 1, none⟩ = some (.int .u32 a0_1) := (blk_cell BK163.out 1).trans rfl; have hfz22_0 := blk_frozen BK163.out 0; have hfz22_1 := blk_frozen BK163.out 1))
        go_meet
        case rel => exact ⟨_, (decide ((l0_0.length : Int) > 60)), (by first | rfl | (simp; done) | (simp [*]; done)), H', ⟨by first | omega | exact Nat.le_refl _⟩, ⟨by (with_reducible repeat (first | apply Kd.V_alloc | apply Kd.V_drewN | apply Kd.V_drew)); exact Kd.V_mono HO0_0.out (fun _ hk => ⟨hk.1.1.1, ⟨hk.1.1.2, ⟨hk.1.2, hk.2⟩⟩⟩)⟩, ⟨by (with_reducible repeat (first | apply Kd.V_alloc | apply Kd.V_drewN | apply Kd.V_drew)); exact Kd.V_mono HO1_2.out (fun _ hk => ⟨hk.1.1.1, ⟨hk.1.1.2, ⟨hk.1.2, hk.2⟩⟩⟩)⟩, ⟨by (with_reducible repeat (first | refine blk_drewN ?_ _ | refine blk_drew ?_ | refine blk_alloc ?_ _)); exact BK163.out⟩, ⟨by (with_reducible repeat (first | refine blk_drewN ?_ _ | refine blk_drew ?_ | refine blk_alloc ?_ _)); exact BK164.out⟩, ⟨by (with_reducible repeat (first | refine blk_drewN ?_ _ | refine blk_drew ?_ | refine blk_alloc ?_ _)); exact BK165.out⟩, ⟨by repeat (first | (with_reducible first | exact HB.out | apply below_alloc | apply pw_below_drewN | apply below_drew1 | refine below_set ?_ GE163.out | refine below_set ?_ GE164.out | refine below_set ?_ GE165.out) | exact HB.out)⟩⟩
    · replace c11 := Bool.eq_false_iff.mpr c11
      subst c11
      have H1 : (hurdlelaw11_DenoteShades.j0 k a3 a4 true l0_0 a0_1 a1_0 a1_1 l1_2 a1_3 a2_0 a2_1 a2_2 a2_3 a2_4 a2_5 a2_6 a2_7 a2_8) = some r := by rw [if_neg (show ¬ (false = true) by decide)] at H; exact H
      clear H
      have H := H1
      clear H1
      have H' := Aside0.mk H
      clear H
      have hnb23 := NB163_164.out
      have hnc23 := NB164_163.out
      have hnb24 := NB163_165.out
      have hnc24 := NB165_163.out
      have hcz25_0 : w9.cell? ⟨gb163, 0, none⟩ = some (.slice A0_0 l0_0.length c0_0) := (blk_cell BK163.out 0).trans rfl
      have hcz25_1 : w9.cell? ⟨gb163, 1, none⟩ = some (.int .u32 a0_1) := (blk_cell BK163.out 1).trans rfl
      have hfz25_0 := blk_frozen BK163.out 0
      have hfz25_1 := blk_frozen BK163.out 1
      go_wp2_with (first | ((with_reducible refine gate_callee (f := 17) rfl ?_); refine goesL_ (some 20) rfl rfl Try.func17 (by kernel_rfl) rfl #[.agg #[.slice A0_0 l0_0.length c0_0, .int .u32 a0_1]] rfl (by (try simp only [List.map_toArray, List.map_cons, List.map_nil]); first | done | rfl | (simp only [List.length_drop, List.length_take]; rfl)) ?_; (with_reducible refine (hurdleref10_Right.calls _ _ l0_0 a0_1 false _ ?side1 ?side2 A10.out).mono ?_); (case side1 => repeat (first | exact (Kd.V_reads' HO0_0.out).2.2 | (with_reducible refine Kd.C_alloc ?_ _) | (with_reducible refine Kd.C_drewN ?_ _) | (with_reducible refine Kd.C_drew ?_))); (case side2 => exact (Kd.V_reads' HO0_0.out).2.1); rintro e w26 ⟨rfl, hb⟩; refine ⟨_, rfl, ?_⟩; have n0_ := Aside0.mk (Kd.V_below (by (with_reducible repeat (first | apply Kd.V_alloc | apply Kd.V_drewN | apply Kd.V_drew)); exact HO0_0.out) hb); have n1_ := Aside0.mk (Kd.V_below (by (with_reducible repeat (first | apply Kd.V_alloc | apply Kd.V_drewN | apply Kd.V_drew)); exact HO1_2.out) hb); have n2_ := Aside0.mk (blk_below (g := gb163) (o := .cells #[.slice A0_0 l0_0.length c0_0, .int .u32 a0_1] 25 (0, 0)) (by (with_reducible repeat (first | refine blk_drewN ?_ _ | refine blk_drew ?_ | refine blk_alloc ?_ _)); exact BK163.out) hb); have n3_ := Aside0.mk (blk_below (g := gb164) (o := .cells #[.int .u32 a1_0, .int .u32 a1_1, .slice A1_2 l1_2.length c1_2, .int .u32 a1_3] 40 (0, 0)) (by (with_reducible repeat (first | refine blk_drewN ?_ _ | refine blk_drew ?_ | refine blk_alloc ?_ _)); exact BK164.out) hb); have n4_ := Aside0.mk (blk_below (g := gb165) (o := .cells #[.int .u32 a2_0, .int .u32 a2_1, .int .u64 a2_2, .int .u64 a2_3, .int .u64 a2_4, .int .u64 a2_5, .int .u64 a2_6, .int .u64 a2_7, .int .u64 a2_8] 44 (0, 0)) (by (with_reducible repeat (first | refine blk_drewN ?_ _ | refine blk_drew ?_ | refine blk_alloc ?_ _)); exact BK165.out) hb); have n5_ := Aside0.mk (below_step (by repeat (first | (with_reducible first | exact HB.out | apply below_alloc | apply pw_below_drewN | apply below_drew1 | refine below_set ?_ GE163.out | refine below_set ?_ GE164.out | refine below_set ?_ GE165.out) | exact HB.out)) hb); clear HO0_0; clear HO1_2; clear BK163; clear BK164; clear BK165; clear HB; have HO0_0 := n0_; have HO1_2 := n1_; have BK163 := n2_; have BK164 := n3_; have BK165 := n4_; have HB := n5_; clear n0_ n1_ n2_ n3_ n4_ n5_; (try clear hb); (try clear hb2); (try clear hk); (try clear hi)))
      go_meet
      case rel => exact ⟨_, (true), (by first | rfl | (simp; done) | (simp [*]; done)), H', ⟨by first | omega | exact Nat.le_refl _⟩, ⟨by (with_reducible repeat (first | apply Kd.V_alloc | apply Kd.V_drewN | apply Kd.V_drew)); exact Kd.V_mono HO0_0.out (fun _ hk => ⟨hk.1.1.1, ⟨hk.1.1.2, ⟨hk.1.2, hk.2⟩⟩⟩)⟩, ⟨by (with_reducible repeat (first | apply Kd.V_alloc | apply Kd.V_drewN | apply Kd.V_drew)); exact Kd.V_mono HO1_2.out (fun _ hk => ⟨hk.1.1.1, ⟨hk.1.1.2, ⟨hk.1.2, hk.2⟩⟩⟩)⟩, ⟨by (with_reducible repeat (first | refine blk_drewN ?_ _ | refine blk_drew ?_ | refine blk_alloc ?_ _)); exact BK163.out⟩, ⟨by (with_reducible repeat (first | refine blk_drewN ?_ _ | refine blk_drew ?_ | refine blk_alloc ?_ _)); exact BK164.out⟩, ⟨by (with_reducible repeat (first | refine blk_drewN ?_ _ | refine blk_drew ?_ | refine blk_alloc ?_ _)); exact BK165.out⟩, ⟨by repeat (first | (with_reducible first | exact HB.out | apply below_alloc | apply pw_below_drewN | apply below_drew1 | refine below_set ?_ GE163.out | refine below_set ?_ GE164.out | refine below_set ?_ GE165.out) | exact HB.out)⟩⟩
  case rest =>
    clear HC6
    try clear c1
    try clear c2
    try clear p2
    try clear c10
    try clear c11
    try clear c12
    try clear c12b0
    try clear c12b1
    try clear c12b2
    try clear c13
    try clear c14
    try clear c17
    try clear c18
    try clear c19
    try clear c23
    try clear c24
    try clear hcz15_0
    try clear hcz15_1
    try clear hcz17_0
    try clear hcz17_1
    try clear hcz20_0
    try clear hcz20_1
    try clear hcz22_0
    try clear hcz22_1
    try clear hcz25_0
    try clear hcz25_1
    try clear hfz15_0
    try clear hfz15_1
    try clear hfz17_0
    try clear hfz17_1
    try clear hfz20_0
    try clear hfz20_1
    try clear hfz22_0
    try clear hfz22_1
    try clear hfz25_0
    try clear hfz25_1
    obtain ⟨kq, x33_5, rfl, HA, HJ5, HO_164000, HO_165002, BK163, BK164, BK165, HB⟩ := hcut
    cases kq with
    | zero => exact absurd HA.out (by simp [hurdlelaw11_DenoteShades.j0])
    | succ kj5 =>
      have H := HA.out
      clear HA
      simp only [hurdlelaw11_DenoteShades.j0] at H
      by_cases c27 : x33_5 = true
      · subst c27
        have H1 : ((hurdlelaw11_knows.f).bind fun t167 => (some t167)) = some r := by rw [if_pos rfl] at H; exact H
        clear H
        have H := H1
        clear H1
        replace H := Option.bind_eq_some_iff.mp H
        obtain ⟨t167, A280, H⟩ := H
        replace H : (some t167) = some r := H
        have A28 := Aside0.mk A280
        clear A280
        obtain rfl := Option.some.inj H
        go_wp2_with (first | ((with_reducible refine gate_callee (f := 23) rfl ?_); refine goesL_ (some 34) rfl rfl Try.func23 (by kernel_rfl) rfl #[] rfl (by (try simp only [List.map_toArray, List.map_cons, List.map_nil]); first | done | rfl | (simp only [List.length_drop, List.length_take]; rfl)) ?_; (with_reducible refine (hurdlelaw11_knows.calls  t167 _ A28.out).mono ?_); rintro e w29 ⟨rfl, hb⟩; refine ⟨_, rfl, ?_⟩; have n0_ := Aside0.mk (Kd.V_below (by (with_reducible repeat (first | apply Kd.V_alloc | apply Kd.V_drewN | apply Kd.V_drew)); exact HO_164000.out) hb); have n1_ := Aside0.mk (Kd.V_below (by (with_reducible repeat (first | apply Kd.V_alloc | apply Kd.V_drewN | apply Kd.V_drew)); exact HO_165002.out) hb); have n2_ := Aside0.mk (blk_below (g := gb163) (o := .cells #[.slice A0_0 l0_0.length c0_0, .int .u32 a0_1] 25 (0, 0)) (by (with_reducible repeat (first | refine blk_drewN ?_ _ | refine blk_drew ?_ | refine blk_alloc ?_ _)); exact BK163.out) hb); have n3_ := Aside0.mk (blk_below (g := gb164) (o := .cells #[.int .u32 a1_0, .int .u32 a1_1, .slice A1_2 l1_2.length c1_2, .int .u32 a1_3] 40 (0, 0)) (by (with_reducible repeat (first | refine blk_drewN ?_ _ | refine blk_drew ?_ | refine blk_alloc ?_ _)); exact BK164.out) hb); have n4_ := Aside0.mk (blk_below (g := gb165) (o := .cells #[.int .u32 a2_0, .int .u32 a2_1, .int .u64 a2_2, .int .u64 a2_3, .int .u64 a2_4, .int .u64 a2_5, .int .u64 a2_6, .int .u64 a2_7, .int .u64 a2_8] 44 (0, 0)) (by (with_reducible repeat (first | refine blk_drewN ?_ _ | refine blk_drew ?_ | refine blk_alloc ?_ _)); exact BK165.out) hb); have n5_ := Aside0.mk (below_step (by repeat (first | (with_reducible first | exact HB.out | apply below_alloc | apply pw_below_drewN | apply below_drew1 | refine below_set ?_ GE163.out | refine below_set ?_ GE164.out | refine below_set ?_ GE165.out) | exact HB.out)) hb); clear HO_164000; clear HO_165002; clear BK163; clear BK164; clear BK165; clear HB; have HO_164000 := n0_; have HO_165002 := n1_; have BK163 := n2_; have BK164 := n3_; have BK165 := n4_; have HB := n5_; clear n0_ n1_ n2_ n3_ n4_ n5_; (try clear hb); (try clear hb2); (try clear hk); (try clear hi)))
        go_ret
        exact ⟨by first | rfl | (simp [errW_none, errW_some] <;> rfl) | (simp [*, errW_none, errW_some] <;> rfl), by repeat (first | (with_reducible first | exact HB.out | apply below_alloc | apply pw_below_drewN | apply below_drew1 | refine below_set ?_ GE163.out | refine below_set ?_ GE164.out | refine below_set ?_ GE165.out) | exact HB.out)⟩
      · replace c27 := Bool.eq_false_iff.mpr c27
        subst c27
        have H1 : (if (l0_0.length : Int) = 0 then (none) else (if ([] : List (S40)).length + l0_0.length < 3518437208883 then ((some (([] : List (S40)) ++ l0_0 : List (S40))).bind fun y169 => (if 0 ≤ (Int.tmod (wrap64 (a4)) (l0_0.length : Int)) then (if (Int.tmod (wrap64 (a4)) (l0_0.length : Int)) < (l0_0.length : Int) then (if (Int.tmod (wrap64 (a4)) (l0_0.length : Int)) < (y169.length : Int) then ((some (y169.set ((Int.tmod (wrap64 (a4)) (l0_0.length : Int)) : Int).toNat (⟨a1_0, a1_1, ([] : List (S61)), (rd_T40 l0_0 (Int.tmod (wrap64 (a4)) (l0_0.length : Int))).f3⟩ : S40) : List (S40))).bind fun y173 => (if (wrap64 ((l0_0.length : Int) - (Int.tmod (wrap64 (a4)) (l0_0.length : Int)))) = 0 then (none) else ((hurdlelaw11_put.f y173 a0_1 (wrap64 ((wrap64 ((Int.tmod (wrap64 (a4)) (l0_0.length : Int)) + 1)) + (Int.tmod (wrap64 (a3)) (wrap64 ((l0_0.length : Int) - (Int.tmod (wrap64 (a4)) (l0_0.length : Int))))))) a1_0 a1_1 l1_2 a1_3).bind fun bt174 => ((hurdleref10_Right.f bt174.1 bt174.2).bind fun t179 => (if t179 = true then ((denote_Judge.f y173 a0_1 a2_0 a2_1 a2_2 a2_3 a2_4 a2_5 a2_6 a2_7 a2_8).bind fun bt180 => ((denote_Judge.f bt174.1 bt174.2 a2_0 a2_1 a2_2 a2_3 a2_4 a2_5 a2_6 a2_7 a2_8).bind fun bt182 => (if bt180.1 = bt182.1 then (if bt180.2 = 0 then (if bt182.2 = 0 then ((hurdlelaw11_knows.f).bind fun t184 => (some t184)) else (some false)) else (some false)) else (some false)))) else ((hurdlelaw11_knows.f).bind fun t185 => (some t185))))))) else (none)) else (none)) else (none))) else (none))) = some r := by rw [if_neg (show ¬ (false = true) by decide)] at H; exact H
        clear H
        have H := H1
        clear H1
        by_cases c30 : (l0_0.length : Int) = 0
        · rw [if_pos c30] at H
          exact absurd H (by simp)
        · rw [if_neg c30] at H
          have c30b0 : ((l0_0.length : Int) == 0) = false := beq_eq_false_iff_ne.mpr c30
          have c30b1 : ((l0_0.length : Int) != 0) = true := bne_iff_ne.mpr c30
          have c30b2 : ¬ (l0_0 = []) := fun h_ => c30 (by rw [h_]; rfl)
          by_cases c31 : ([] : List (S40)).length + l0_0.length < 3518437208883
          · rw [if_pos c31] at H
            have LMc31 := Aside0.mk c31
            clear c31
            obtain ⟨y169, hy169⟩ : ∃ y_ : List (S40), y_ = (([] : List (S40)) ++ l0_0) := ⟨_, rfl⟩
            replace H : (if 0 ≤ (Int.tmod (wrap64 (a4)) (l0_0.length : Int)) then (if (Int.tmod (wrap64 (a4)) (l0_0.length : Int)) < (l0_0.length : Int) then (if (Int.tmod (wrap64 (a4)) (l0_0.length : Int)) < (y169.length : Int) then ((some (y169.set ((Int.tmod (wrap64 (a4)) (l0_0.length : Int)) : Int).toNat (⟨a1_0, a1_1, ([] : List (S61)), (rd_T40 l0_0 (Int.tmod (wrap64 (a4)) (l0_0.length : Int))).f3⟩ : S40) : List (S40))).bind fun y173 => (if (wrap64 ((l0_0.length : Int) - (Int.tmod (wrap64 (a4)) (l0_0.length : Int)))) = 0 then (none) else ((hurdlelaw11_put.f y173 a0_1 (wrap64 ((wrap64 ((Int.tmod (wrap64 (a4)) (l0_0.length : Int)) + 1)) + (Int.tmod (wrap64 (a3)) (wrap64 ((l0_0.length : Int) - (Int.tmod (wrap64 (a4)) (l0_0.length : Int))))))) a1_0 a1_1 l1_2 a1_3).bind fun bt174 => ((hurdleref10_Right.f bt174.1 bt174.2).bind fun t179 => (if t179 = true then ((denote_Judge.f y173 a0_1 a2_0 a2_1 a2_2 a2_3 a2_4 a2_5 a2_6 a2_7 a2_8).bind fun bt180 => ((denote_Judge.f bt174.1 bt174.2 a2_0 a2_1 a2_2 a2_3 a2_4 a2_5 a2_6 a2_7 a2_8).bind fun bt182 => (if bt180.1 = bt182.1 then (if bt180.2 = 0 then (if bt182.2 = 0 then ((hurdlelaw11_knows.f).bind fun t184 => (some t184)) else (some false)) else (some false)) else (some false)))) else ((hurdlelaw11_knows.f).bind fun t185 => (some t185))))))) else (none)) else (none)) else (none)) = some r := by first | (rw [hy169]; with_reducible exact H) | (have H2_ := (Option.bind_some _ _).symm.trans H; rw [hy169]; with_reducible exact H2_) | (have H2_ := (Option.bind_some _ _).symm.trans H; with_reducible exact H2_) | with_reducible exact H | (rw [hy169]; exact H) | exact H
            have Ny169 := Aside0.mk hy169
            clear hy169
            obtain ⟨ji32, hji32⟩ : ∃ j_ : Int, (Int.tmod (wrap64 (a4)) (l0_0.length : Int)) = j_ := ⟨_, rfl⟩
            replace H : (if 0 ≤ (ji32) then (if (ji32) < (l0_0.length : Int) then (if (ji32) < (y169.length : Int) then ((some (y169.set ((ji32) : Int).toNat (⟨a1_0, a1_1, ([] : List (S61)), (rd_T40 l0_0 (ji32)).f3⟩ : S40) : List (S40))).bind fun y173 => (if (wrap64 ((l0_0.length : Int) - (ji32))) = 0 then (none) else ((hurdlelaw11_put.f y173 a0_1 (wrap64 ((wrap64 ((ji32) + 1)) + (Int.tmod (wrap64 (a3)) (wrap64 ((l0_0.length : Int) - (ji32)))))) a1_0 a1_1 l1_2 a1_3).bind fun bt174 => ((hurdleref10_Right.f bt174.1 bt174.2).bind fun t179 => (if t179 = true then ((denote_Judge.f y173 a0_1 a2_0 a2_1 a2_2 a2_3 a2_4 a2_5 a2_6 a2_7 a2_8).bind fun bt180 => ((denote_Judge.f bt174.1 bt174.2 a2_0 a2_1 a2_2 a2_3 a2_4 a2_5 a2_6 a2_7 a2_8).bind fun bt182 => (if bt180.1 = bt182.1 then (if bt180.2 = 0 then (if bt182.2 = 0 then ((hurdlelaw11_knows.f).bind fun t184 => (some t184)) else (some false)) else (some false)) else (some false)))) else ((hurdlelaw11_knows.f).bind fun t185 => (some t185))))))) else (none)) else (none)) else (none)) = some r := by first | (rw [hji32] at H; exact H) | (simp only [hji32] at H ⊢; exact H)
            by_cases c33 : 0 ≤ (ji32)
            · rw [if_pos c33] at H
              have c33b0 : decide (0 ≤ (ji32)) = true := decide_eq_true c33
              clear c33
              by_cases c34 : (ji32) < (l0_0.length : Int)
              · rw [if_pos c34] at H
                have c34b0 : decide ((ji32) < (l0_0.length : Int)) = true := decide_eq_true c34
                clear c34
                by_cases c35 : (ji32) < (y169.length : Int)
                · rw [if_pos c35] at H
                  have c35b0 : decide ((ji32) < (y169.length : Int)) = true := decide_eq_true c35
                  clear c35
                  obtain ⟨y173, hy173⟩ : ∃ y_ : List (S40), y_ = (y169.set ((ji32) : Int).toNat (⟨a1_0, a1_1, ([] : List (S61)), (rd_T40 l0_0 (ji32)).f3⟩ : S40)) := ⟨_, rfl⟩
                  replace H : (if (wrap64 ((l0_0.length : Int) - (ji32))) = 0 then (none) else ((hurdlelaw11_put.f y173 a0_1 (wrap64 ((wrap64 ((ji32) + 1)) + (Int.tmod (wrap64 (a3)) (wrap64 ((l0_0.length : Int) - (ji32)))))) a1_0 a1_1 l1_2 a1_3).bind fun bt174 => ((hurdleref10_Right.f bt174.1 bt174.2).bind fun t179 => (if t179 = true then ((denote_Judge.f y173 a0_1 a2_0 a2_1 a2_2 a2_3 a2_4 a2_5 a2_6 a2_7 a2_8).bind fun bt180 => ((denote_Judge.f bt174.1 bt174.2 a2_0 a2_1 a2_2 a2_3 a2_4 a2_5 a2_6 a2_7 a2_8).bind fun bt182 => (if bt180.1 = bt182.1 then (if bt180.2 = 0 then (if bt182.2 = 0 then ((hurdlelaw11_knows.f).bind fun t184 => (some t184)) else (some false)) else (some false)) else (some false)))) else ((hurdlelaw11_knows.f).bind fun t185 => (some t185)))))) = some r := by first | (rw [hy173]; with_reducible exact H) | (have H2_ := (Option.bind_some _ _).symm.trans H; rw [hy173]; with_reducible exact H2_) | (have H2_ := (Option.bind_some _ _).symm.trans H; with_reducible exact H2_) | with_reducible exact H | (rw [hy173]; exact H) | exact H
                  have Ny173 := Aside0.mk hy173
                  clear hy173
                  by_cases c37 : (wrap64 ((l0_0.length : Int) - (ji32))) = 0
                  · rw [if_pos c37] at H
                    exact absurd H (by simp)
                  · rw [if_neg c37] at H
                    have c37b0 : ((wrap64 ((l0_0.length : Int) - (ji32))) == 0) = false := beq_eq_false_iff_ne.mpr c37
                    have c37b1 : ((wrap64 ((l0_0.length : Int) - (ji32))) != 0) = true := bne_iff_ne.mpr c37
                    replace H := Option.bind_eq_some_iff.mp H
                    obtain ⟨⟨t174, t177⟩, A380, H⟩ := H
                    replace H : ((hurdleref10_Right.f t174 t177).bind fun t179 => (if t179 = true then ((denote_Judge.f y173 a0_1 a2_0 a2_1 a2_2 a2_3 a2_4 a2_5 a2_6 a2_7 a2_8).bind fun bt180 => ((denote_Judge.f t174 t177 a2_0 a2_1 a2_2 a2_3 a2_4 a2_5 a2_6 a2_7 a2_8).bind fun bt182 => (if bt180.1 = bt182.1 then (if bt180.2 = 0 then (if bt182.2 = 0 then ((hurdlelaw11_knows.f).bind fun t184 => (some t184)) else (some false)) else (some false)) else (some false)))) else ((hurdlelaw11_knows.f).bind fun t185 => (some t185)))) = some r := H
                    have A38 := Aside0.mk A380
                    clear A380
                    replace H := Option.bind_eq_some_iff.mp H
                    obtain ⟨t179, A390, H⟩ := H
                    replace H : (if t179 = true then ((denote_Judge.f y173 a0_1 a2_0 a2_1 a2_2 a2_3 a2_4 a2_5 a2_6 a2_7 a2_8).bind fun bt180 => ((denote_Judge.f t174 t177 a2_0 a2_1 a2_2 a2_3 a2_4 a2_5 a2_6 a2_7 a2_8).bind fun bt182 => (if bt180.1 = bt182.1 then (if bt180.2 = 0 then (if bt182.2 = 0 then ((hurdlelaw11_knows.f).bind fun t184 => (some t184)) else (some false)) else (some false)) else (some false)))) else ((hurdlelaw11_knows.f).bind fun t185 => (some t185))) = some r := H
                    have A39 := Aside0.mk A390
                    clear A390
                    by_cases c40 : t179 = true
                    · subst c40
                      have H1 : ((denote_Judge.f y173 a0_1 a2_0 a2_1 a2_2 a2_3 a2_4 a2_5 a2_6 a2_7 a2_8).bind fun bt180 => ((denote_Judge.f t174 t177 a2_0 a2_1 a2_2 a2_3 a2_4 a2_5 a2_6 a2_7 a2_8).bind fun bt182 => (if bt180.1 = bt182.1 then (if bt180.2 = 0 then (if bt182.2 = 0 then ((hurdlelaw11_knows.f).bind fun t184 => (some t184)) else (some false)) else (some false)) else (some false)))) = some r := by rw [if_pos rfl] at H; exact H
                      clear H
                      have H := H1
                      clear H1
                      replace H := Option.bind_eq_some_iff.mp H
                      obtain ⟨⟨t180, t181⟩, A410, H⟩ := H
                      replace H : ((denote_Judge.f t174 t177 a2_0 a2_1 a2_2 a2_3 a2_4 a2_5 a2_6 a2_7 a2_8).bind fun bt182 => (if t180 = bt182.1 then (if t181 = 0 then (if bt182.2 = 0 then ((hurdlelaw11_knows.f).bind fun t184 => (some t184)) else (some false)) else (some false)) else (some false))) = some r := H
                      have A41 := Aside0.mk A410
                      clear A410
                      replace H := Option.bind_eq_some_iff.mp H
                      obtain ⟨⟨t182, t183⟩, A420, H⟩ := H
                      replace H : (if t180 = t182 then (if t181 = 0 then (if t183 = 0 then ((hurdlelaw11_knows.f).bind fun t184 => (some t184)) else (some false)) else (some false)) else (some false)) = some r := H
                      have A42 := Aside0.mk A420
                      clear A420
                      by_cases c43 : t180 = t182
                      · rw [if_pos c43] at H
                        have c43b0 : (t180 == t182) = true := beq_iff_eq.mpr c43
                        have c43b1 : (t180 != t182) = false := bne_eq_false_iff_eq.mpr c43
                        clear c43
                        by_cases c44 : t181 = 0
                        · rw [if_pos c44] at H
                          have c44b0 : (t181 == 0) = true := beq_iff_eq.mpr c44
                          have c44b1 : (t181 != 0) = false := bne_eq_false_iff_eq.mpr c44
                          clear c44
                          by_cases c45 : t183 = 0
                          · rw [if_pos c45] at H
                            have c45b0 : (t183 == 0) = true := beq_iff_eq.mpr c45
                            have c45b1 : (t183 != 0) = false := bne_eq_false_iff_eq.mpr c45
                            clear c45
                            replace H := Option.bind_eq_some_iff.mp H
                            obtain ⟨t184, A460, H⟩ := H
                            replace H : (some t184) = some r := H
                            have A46 := Aside0.mk A460
                            clear A460
                            obtain rfl := Option.some.inj H
                            have hnb47 := NB163_164.out
                            have hnc47 := NB164_163.out
                            have hnb48 := NB163_165.out
                            have hnc48 := NB165_163.out
                            have hcz49_0 : wc.cell? ⟨gb163, 0, none⟩ = some (.slice A0_0 l0_0.length c0_0) := (blk_cell BK163.out 0).trans rfl
                            have hcz49_1 : wc.cell? ⟨gb163, 1, none⟩ = some (.int .u32 a0_1) := (blk_cell BK163.out 1).trans rfl
                            have hfz49_0 := blk_frozen BK163.out 0
                            have hfz49_1 := blk_frozen BK163.out 1
                            try go_wp2_with (first | ((with_reducible refine gate_dst (N := 12) rfl ?_); (try (refine gate_guard (by rfl) ?_; dsimp only)); refine box_event ?hg (N := 12) ?hd (cs := #[.slice none 0 0, .int .u32 0]) (t := 25) ?hr ?_; (case hd => rfl); (case hg => rfl); (case hr => first | (go_simp; done) | (go_simp; rfl)); intro gb168 hg w50 hbox hb; have n0_ := Aside0.mk (Kd.V_below (Kd.V_elderB (by (with_reducible repeat (first | apply Kd.V_alloc | apply Kd.V_drewN | apply Kd.V_drew)); exact HO_164000.out) gb168 (Nat.le_of_eq hg.symm)) hb); have n1_ := Aside0.mk (Kd.V_below (Kd.V_elderB (by (with_reducible repeat (first | apply Kd.V_alloc | apply Kd.V_drewN | apply Kd.V_drew)); exact HO_165002.out) gb168 (Nat.le_of_eq hg.symm)) hb); have n2_ := Aside0.mk (blk_below (g := gb163) (o := .cells #[.slice A0_0 l0_0.length c0_0, .int .u32 a0_1] 25 (0, 0)) (by (with_reducible repeat (first | refine blk_drewN ?_ _ | refine blk_drew ?_ | refine blk_alloc ?_ _)); exact BK163.out) hb); have n3_ := Aside0.mk (blk_below (g := gb164) (o := .cells #[.int .u32 a1_0, .int .u32 a1_1, .slice A1_2 l1_2.length c1_2, .int .u32 a1_3] 40 (0, 0)) (by (with_reducible repeat (first | refine blk_drewN ?_ _ | refine blk_drew ?_ | refine blk_alloc ?_ _)); exact BK164.out) hb); have n4_ := Aside0.mk (blk_below (g := gb165) (o := .cells #[.int .u32 a2_0, .int .u32 a2_1, .int .u64 a2_2, .int .u64 a2_3, .int .u64 a2_4, .int .u64 a2_5, .int .u64 a2_6, .int .u64 a2_7, .int .u64 a2_8] 44 (0, 0)) (by (with_reducible repeat (first | refine blk_drewN ?_ _ | refine blk_drew ?_ | refine blk_alloc ?_ _)); exact BK165.out) hb); have n5_ := Aside0.mk (below_step (by repeat (first | (with_reducible first | exact HB.out | apply below_alloc | apply pw_below_drewN | apply below_drew1 | refine below_set ?_ GE163.out | refine below_set ?_ GE164.out | refine below_set ?_ GE165.out) | exact HB.out)) hb); have n6_ := Aside0.mk (hbox); have n7_ := Aside0.mk ((by rw [hg]; exact (below_size (by repeat (first | (with_reducible first | exact HB.out | apply below_alloc | apply pw_below_drewN | apply below_drew1 | refine below_set ?_ GE163.out | refine below_set ?_ GE164.out | refine below_set ?_ GE165.out) | exact HB.out))) : w.heap.size ≤ gb168)); have n8_ := Aside0.mk ((by rw [hg]; exact (below_size (by repeat (first | (with_reducible first | exact HB.out | apply below_alloc | apply pw_below_drewN | apply below_drew1 | refine below_set ?_ GE163.out | refine below_set ?_ GE164.out | refine below_set ?_ GE165.out) | exact HB.out))) : w.heap.size ≤ gb168)); have n9_ := Aside0.mk ((by rw [hg]; exact Nat.ne_of_lt (blk_lt (g := gb163) (o := .cells #[.slice A0_0 l0_0.length c0_0, .int .u32 a0_1] 25 (0, 0)) (by (with_reducible repeat (first | refine blk_drewN ?_ _ | refine blk_drew ?_ | refine blk_alloc ?_ _)); exact BK163.out)) : gb163 ≠ gb168)); have n10_ := Aside0.mk ((by rw [hg]; exact Nat.ne_of_gt (blk_lt (g := gb163) (o := .cells #[.slice A0_0 l0_0.length c0_0, .int .u32 a0_1] 25 (0, 0)) (by (with_reducible repeat (first | refine blk_drewN ?_ _ | refine blk_drew ?_ | refine blk_alloc ?_ _)); exact BK163.out)) : gb168 ≠ gb163)); have n11_ := Aside0.mk ((by rw [hg]; exact Nat.ne_of_lt (blk_lt (g := gb164) (o := .cells #[.int .u32 a1_0, .int .u32 a1_1, .slice A1_2 l1_2.length c1_2, .int .u32 a1_3] 40 (0, 0)) (by (with_reducible repeat (first | refine blk_drewN ?_ _ | refine blk_drew ?_ | refine blk_alloc ?_ _)); exact BK164.out)) : gb164 ≠ gb168)); have n12_ := Aside0.mk ((by rw [hg]; exact Nat.ne_of_gt (blk_lt (g := gb164) (o := .cells #[.int .u32 a1_0, .int .u32 a1_1, .slice A1_2 l1_2.length c1_2, .int .u32 a1_3] 40 (0, 0)) (by (with_reducible repeat (first | refine blk_drewN ?_ _ | refine blk_drew ?_ | refine blk_alloc ?_ _)); exact BK164.out)) : gb168 ≠ gb164)); have n13_ := Aside0.mk ((by rw [hg]; exact Nat.ne_of_lt (blk_lt (g := gb165) (o := .cells #[.int .u32 a2_0, .int .u32 a2_1, .int .u64 a2_2, .int .u64 a2_3, .int .u64 a2_4, .int .u64 a2_5, .int .u64 a2_6, .int .u64 a2_7, .int .u64 a2_8] 44 (0, 0)) (by (with_reducible repeat (first | refine blk_drewN ?_ _ | refine blk_drew ?_ | refine blk_alloc ?_ _)); exact BK165.out)) : gb165 ≠ gb168)); have n14_ := Aside0.mk ((by rw [hg]; exact Nat.ne_of_gt (blk_lt (g := gb165) (o := .cells #[.int .u32 a2_0, .int .u32 a2_1, .int .u64 a2_2, .int .u64 a2_3, .int .u64 a2_4, .int .u64 a2_5, .int .u64 a2_6, .int .u64 a2_7, .int .u64 a2_8] 44 (0, 0)) (by (with_reducible repeat (first | refine blk_drewN ?_ _ | refine blk_drew ?_ | refine blk_alloc ?_ _)); exact BK165.out)) : gb168 ≠ gb165)); clear HO_164000; clear HO_165002; clear BK163; clear BK164; clear BK165; clear HB; have HO_164000 := n0_; have HO_165002 := n1_; have BK163 := n2_; have BK164 := n3_; have BK165 := n4_; have HB := n5_; have BK168 := n6_; have GW168 := n7_; have GE168 := n8_; have NB163_168 := n9_; have NB168_163 := n10_; have NB164_168 := n11_; have NB168_164 := n12_; have NB165_168 := n13_; have NB168_165 := n14_; clear n0_ n1_ n2_ n3_ n4_ n5_ n6_ n7_ n8_ n9_ n10_ n11_ n12_ n13_ n14_; clear hb hbox hg; have hnb51 := NB168_163.out; have hnc51 := NB163_168.out; have hnb52 := NB168_164.out; have hnc52 := NB164_168.out; have hnb53 := NB168_165.out; have hnc53 := NB165_168.out; have hcz54_0 : w50.cell? ⟨gb168, 0, none⟩ = some (.slice none 0 0) := (blk_cell BK168.out 0).trans rfl; have hcz54_1 : w50.cell? ⟨gb168, 1, none⟩ = some (.int .u32 0) := (blk_cell BK168.out 1).trans rfl; have hfz54_0 := blk_frozen BK168.out 0; have hfz54_1 := blk_frozen BK168.out 1; have hcz55_0 : w50.cell? ⟨gb163, 0, none⟩ = some (.slice A0_0 l0_0.length c0_0) := (blk_cell BK163.out 0).trans rfl; have hcz55_1 : w50.cell? ⟨gb163, 1, none⟩ = some (.int .u32 a0_1) := (blk_cell BK163.out 1).trans rfl; have hfz55_0 := blk_frozen BK163.out 0; have hfz55_1 := blk_frozen BK163.out 1) | ((with_reducible refine gate_builtin (b := .append) (xs := #[.tmp 45, .tmp 47]) rfl ?_); (try (refine gate_guard (by rfl) ?_; dsimp only)); at_builtin; refine Kd.N_append_rows k40 (w0 := w) w.heap.size rfl (.tmp 45) (.tmp 47) 22 40 (.agg #[(.int .u32 0), (.int .u32 0), (.slice none 0 0), (.int .u32 0)]) 40 rfl Try.underlying22 info40 rfl (by decide) (by omega) (.slice none 0 0) ([] : List (S40)) l0_0 _ _ _ (fun k_ => ((P0_0_ k_ ∨ P1_2_ k_) ∨ w.heap.size ≤ k_) ∧ k_ ≠ gb163 ∧ k_ ≠ gb164 ∧ k_ ≠ gb165 ∧ k_ ≠ gb168) (fun k_ => ((fun k_ => ((P0_0_ k_ ∨ P1_2_ k_) ∨ w.heap.size ≤ k_) ∧ k_ ≠ gb163 ∧ k_ ≠ gb164 ∧ k_ ≠ gb165 ∧ k_ ≠ gb168)) k_ ∧ some k_ ≠ (.slice none 0 0 : Value).ownBlock) rfl rfl ?aO ?aR (fun _ hk => hk) ?aF ?aB ?aS ?aL ?_; (case aR => exact (by skip; exact Kd.V_F (Kd.V_mono (ok' := (fun k_ => ((fun k_ => ((P0_0_ k_ ∨ P1_2_ k_) ∨ w.heap.size ≤ k_) ∧ k_ ≠ gb163 ∧ k_ ≠ gb164 ∧ k_ ≠ gb165 ∧ k_ ≠ gb168)) k_ ∧ some k_ ≠ (.slice none 0 0 : Value).ownBlock)) ((Kd.V_far (p := ⟨gb168, 1, none⟩) (Kd.V_far (p := ⟨gb168, 0, none⟩) (Kd.V_mono HO_164000.out (fun k_ hk => (⟨hk, hk.2⟩ : _ ∧ k_ ≠ gb168))) (fun _ hk => hk.2) (.slice none 0 0)) (fun _ hk => hk.2) (.int .u32 a0_1))) (fun k_ hk => ⟨⟨hk.1.1.1, ⟨hk.1.1.2.1, ⟨hk.1.1.2.2.1, ⟨hk.1.1.2.2.2, hk.1.2⟩⟩⟩⟩, (by simp [Value.ownBlock])⟩)))); (case aB => exact (by repeat (first | (with_reducible first | exact HB.out | apply below_alloc | apply pw_below_drewN | apply below_drew1 | refine below_set ?_ GE163.out | refine below_set ?_ GE164.out | refine below_set ?_ GE165.out | refine below_set ?_ GE168.out) | exact HB.out))); (case aF => exact (fun k_ hk => ⟨(.inr (Nat.le_trans (below_size (by repeat (first | (with_reducible first | exact HB.out | apply below_alloc | apply pw_below_drewN | apply below_drew1 | refine below_set ?_ GE163.out | refine below_set ?_ GE164.out | refine below_set ?_ GE165.out | refine below_set ?_ GE168.out) | exact HB.out))) hk)), Kd.freshB (g := gb163) (o := .cells #[.slice A0_0 l0_0.length c0_0, .int .u32 a0_1] 25 (0, 0)) (by (with_reducible repeat (first | refine blk_drewN ?_ _ | refine blk_drew ?_ | refine blk_alloc ?_ _)); refine blk_far ?_ NB163_168.out _; (with_reducible repeat (first | refine blk_drewN ?_ _ | refine blk_drew ?_ | refine blk_alloc ?_ _)); refine blk_far ?_ NB163_168.out _; (with_reducible repeat (first | refine blk_drewN ?_ _ | refine blk_drew ?_ | refine blk_alloc ?_ _)); exact BK163.out) k_ hk, Kd.freshB (g := gb164) (o := .cells #[.int .u32 a1_0, .int .u32 a1_1, .slice A1_2 l1_2.length c1_2, .int .u32 a1_3] 40 (0, 0)) (by (with_reducible repeat (first | refine blk_drewN ?_ _ | refine blk_drew ?_ | refine blk_alloc ?_ _)); refine blk_far ?_ NB164_168.out _; (with_reducible repeat (first | refine blk_drewN ?_ _ | refine blk_drew ?_ | refine blk_alloc ?_ _)); refine blk_far ?_ NB164_168.out _; (with_reducible repeat (first | refine blk_drewN ?_ _ | refine blk_drew ?_ | refine blk_alloc ?_ _)); exact BK164.out) k_ hk, Kd.freshB (g := gb165) (o := .cells #[.int .u32 a2_0, .int .u32 a2_1, .int .u64 a2_2, .int .u64 a2_3, .int .u64 a2_4, .int .u64 a2_5, .int .u64 a2_6, .int .u64 a2_7, .int .u64 a2_8] 44 (0, 0)) (by (with_reducible repeat (first | refine blk_drewN ?_ _ | refine blk_drew ?_ | refine blk_alloc ?_ _)); refine blk_far ?_ NB165_168.out _; (with_reducible repeat (first | refine blk_drewN ?_ _ | refine blk_drew ?_ | refine blk_alloc ?_ _)); refine blk_far ?_ NB165_168.out _; (with_reducible repeat (first | refine blk_drewN ?_ _ | refine blk_drew ?_ | refine blk_alloc ?_ _)); exact BK165.out) k_ hk, Kd.freshB (g := gb168) (o := .cells #[.slice none 0 0, .int .u32 a0_1] 25 (0, 0)) (by (with_reducible repeat (first | refine blk_drewN ?_ _ | refine blk_drew ?_ | refine blk_alloc ?_ _)); refine blk_put (cs := #[.slice none 0 0, .int .u32 0]) ?_ 1 _ rfl; (with_reducible repeat (first | refine blk_drewN ?_ _ | refine blk_drew ?_ | refine blk_alloc ?_ _)); refine blk_put (cs := #[.slice none 0 0, .int .u32 0]) ?_ 0 _ rfl; (with_reducible repeat (first | refine blk_drewN ?_ _ | refine blk_drew ?_ | refine blk_alloc ?_ _)); exact BK168.out) k_ hk⟩)); (case aO => exact ((Kd.N_nil _ _ _ _ (fun k_ => ((P0_0_ k_ ∨ P1_2_ k_) ∨ w.heap.size ≤ k_) ∧ k_ ≠ gb163 ∧ k_ ≠ gb164 ∧ k_ ≠ gb165 ∧ k_ ≠ gb168)))); (case aS => exact (below_size (by repeat (first | (with_reducible first | exact HB.out | apply below_alloc | apply pw_below_drewN | apply below_drew1 | refine below_set ?_ GE163.out | refine below_set ?_ GE164.out | refine below_set ?_ GE165.out | refine below_set ?_ GE168.out) | exact HB.out)))); (case aL => have := LMc31.out; omega); intro v170 w56 ho hb hg hat; rw [← Ny169.out] at ho; have n0_ := Aside0.mk (Kd.V_afterv (Kd.V_apart_nil (by (with_reducible repeat (first | apply Kd.V_alloc | apply Kd.V_drewN | apply Kd.V_drew)); exact (Kd.V_mono (Kd.V_far (p := ⟨gb168, 1, none⟩) (Kd.V_far (p := ⟨gb168, 0, none⟩) (Kd.V_mono HO_164000.out (fun k_ hk => (⟨hk, hk.2⟩ : _ ∧ k_ ≠ gb168))) (fun _ hk => hk.2) (.slice none 0 0)) (fun _ hk => hk.2) (.int .u32 a0_1)) (fun _ h_ => h_.1)))) hg hat); have n1_ := Aside0.mk (Kd.V_afterv (Kd.V_apart_nil (by (with_reducible repeat (first | apply Kd.V_alloc | apply Kd.V_drewN | apply Kd.V_drew)); exact (Kd.V_mono (Kd.V_far (p := ⟨gb168, 1, none⟩) (Kd.V_far (p := ⟨gb168, 0, none⟩) (Kd.V_mono HO_165002.out (fun k_ hk => (⟨hk, hk.2⟩ : _ ∧ k_ ≠ gb168))) (fun _ hk => hk.2) (.slice none 0 0)) (fun _ hk => hk.2) (.int .u32 a0_1)) (fun _ h_ => h_.1)))) hg hat); have n2_ := Aside0.mk (blk_grown (g := gb163) (o := .cells #[.slice A0_0 l0_0.length c0_0, .int .u32 a0_1] 25 (0, 0)) (by (with_reducible repeat (first | refine blk_drewN ?_ _ | refine blk_drew ?_ | refine blk_alloc ?_ _)); refine blk_far ?_ NB163_168.out _; (with_reducible repeat (first | refine blk_drewN ?_ _ | refine blk_drew ?_ | refine blk_alloc ?_ _)); refine blk_far ?_ NB163_168.out _; (with_reducible repeat (first | refine blk_drewN ?_ _ | refine blk_drew ?_ | refine blk_alloc ?_ _)); exact BK163.out) hg (by simp [Value.ownBlock])); have n3_ := Aside0.mk (blk_grown (g := gb164) (o := .cells #[.int .u32 a1_0, .int .u32 a1_1, .slice A1_2 l1_2.length c1_2, .int .u32 a1_3] 40 (0, 0)) (by (with_reducible repeat (first | refine blk_drewN ?_ _ | refine blk_drew ?_ | refine blk_alloc ?_ _)); refine blk_far ?_ NB164_168.out _; (with_reducible repeat (first | refine blk_drewN ?_ _ | refine blk_drew ?_ | refine blk_alloc ?_ _)); refine blk_far ?_ NB164_168.out _; (with_reducible repeat (first | refine blk_drewN ?_ _ | refine blk_drew ?_ | refine blk_alloc ?_ _)); exact BK164.out) hg (by simp [Value.ownBlock])); have n4_ := Aside0.mk (blk_grown (g := gb165) (o := .cells #[.int .u32 a2_0, .int .u32 a2_1, .int .u64 a2_2, .int .u64 a2_3, .int .u64 a2_4, .int .u64 a2_5, .int .u64 a2_6, .int .u64 a2_7, .int .u64 a2_8] 44 (0, 0)) (by (with_reducible repeat (first | refine blk_drewN ?_ _ | refine blk_drew ?_ | refine blk_alloc ?_ _)); refine blk_far ?_ NB165_168.out _; (with_reducible repeat (first | refine blk_drewN ?_ _ | refine blk_drew ?_ | refine blk_alloc ?_ _)); refine blk_far ?_ NB165_168.out _; (with_reducible repeat (first | refine blk_drewN ?_ _ | refine blk_drew ?_ | refine blk_alloc ?_ _)); exact BK165.out) hg (by simp [Value.ownBlock])); have n5_ := Aside0.mk (blk_grown (g := gb168) (o := .cells #[.slice none 0 0, .int .u32 a0_1] 25 (0, 0)) (by (with_reducible repeat (first | refine blk_drewN ?_ _ | refine blk_drew ?_ | refine blk_alloc ?_ _)); refine blk_put (cs := #[.slice none 0 0, .int .u32 0]) ?_ 1 _ rfl; (with_reducible repeat (first | refine blk_drewN ?_ _ | refine blk_drew ?_ | refine blk_alloc ?_ _)); refine blk_put (cs := #[.slice none 0 0, .int .u32 0]) ?_ 0 _ rfl; (with_reducible repeat (first | refine blk_drewN ?_ _ | refine blk_drew ?_ | refine blk_alloc ?_ _)); exact BK168.out) hg (by simp [Value.ownBlock])); have n6_ := Aside0.mk (hb); have n7_ := Aside0.mk (ho); clear HO_164000; clear HO_165002; clear BK163; clear BK164; clear BK165; clear BK168; clear HB; have HO_164000 := n0_; have HO_165002 := n1_; have BK163 := n2_; have BK164 := n3_; have BK165 := n4_; have BK168 := n5_; have HB := n6_; have HO171 := n7_; clear n0_ n1_ n2_ n3_ n4_ n5_ n6_ n7_; clear ho hb hg hat; obtain ⟨Ao57, co57, eo57⟩ := Kd.N_slice HO171.out; subst eo57; have hcz58_0 : w56.cell? ⟨gb168, 0, none⟩ = some (.slice none 0 0) := (blk_cell BK168.out 0).trans rfl; have hcz58_1 : w56.cell? ⟨gb168, 1, none⟩ = some (.int .u32 a0_1) := (blk_cell BK168.out 1).trans rfl; have hfz58_0 := blk_frozen BK168.out 0; have hfz58_1 := blk_frozen BK168.out 1))
                            have n0_ : Aside0 (Kd.V k40 40 (w56.setCell ⟨gb168, 0, none⟩ (.slice Ao57 y169.length co57)) w.heap.size (fun k_ => ((P0_0_ k_ ∨ P1_2_ k_) ∨ w.heap.size ≤ k_) ∧ some k_ ≠ (.slice Ao57 y169.length co57 : Value).ownBlock ∧ k_ ≠ gb163 ∧ k_ ≠ gb164 ∧ k_ ≠ gb165 ∧ k_ ≠ gb168) (.slice A0_0 l0_0.length c0_0) l0_0) := ⟨by (with_reducible repeat (first | apply Kd.V_alloc | apply Kd.V_drewN | apply Kd.V_drew)); exact Kd.V_mono (Kd.V_far (p := ⟨gb168, 0, none⟩) (Kd.V_mono HO_164000.out (fun k_ hk => (⟨hk, hk.1.2⟩ : _ ∧ k_ ≠ gb168))) (fun _ hk => hk.2) (.slice Ao57 y169.length co57)) (fun _ hk => ⟨hk.1.1.1.1, ⟨hk.1.2, ⟨hk.1.1.1.2.1, ⟨hk.1.1.1.2.2.1, ⟨hk.1.1.1.2.2.2, hk.1.1.2⟩⟩⟩⟩⟩)⟩
                            have n1_ : Aside0 (Kd.V k61 61 (w56.setCell ⟨gb168, 0, none⟩ (.slice Ao57 y169.length co57)) w.heap.size (fun k_ => ((P0_0_ k_ ∨ P1_2_ k_) ∨ w.heap.size ≤ k_) ∧ some k_ ≠ (.slice Ao57 y169.length co57 : Value).ownBlock ∧ k_ ≠ gb163 ∧ k_ ≠ gb164 ∧ k_ ≠ gb165 ∧ k_ ≠ gb168) (.slice A1_2 l1_2.length c1_2) l1_2) := ⟨by (with_reducible repeat (first | apply Kd.V_alloc | apply Kd.V_drewN | apply Kd.V_drew)); exact Kd.V_mono (Kd.V_far (p := ⟨gb168, 0, none⟩) (Kd.V_mono HO_165002.out (fun k_ hk => (⟨hk, hk.1.2⟩ : _ ∧ k_ ≠ gb168))) (fun _ hk => hk.2) (.slice Ao57 y169.length co57)) (fun _ hk => ⟨hk.1.1.1.1, ⟨hk.1.2, ⟨hk.1.1.1.2.1, ⟨hk.1.1.1.2.2.1, ⟨hk.1.1.1.2.2.2, hk.1.1.2⟩⟩⟩⟩⟩)⟩
                            have n2_ : Aside0 (Kd.N k40 40 (w56.setCell ⟨gb168, 0, none⟩ (.slice Ao57 y169.length co57)) w.heap.size (fun k_ => ((P0_0_ k_ ∨ P1_2_ k_) ∨ w.heap.size ≤ k_) ∧ k_ ≠ gb163 ∧ k_ ≠ gb164 ∧ k_ ≠ gb165 ∧ k_ ≠ gb168) (.slice Ao57 y169.length co57) y169) := ⟨by (with_reducible repeat (first | apply Kd.N_alloc | apply Kd.N_drewN | apply Kd.N_drew)); exact Kd.N_mono (Kd.N_far (p := ⟨gb168, 0, none⟩) (Kd.N_mono HO171.out (fun k_ hk => (⟨hk, hk.2.2.2.2⟩ : _ ∧ k_ ≠ gb168))) (fun _ hk => hk.2) (.slice Ao57 y169.length co57)) (fun _ hk => ⟨hk.1.1, ⟨hk.1.2.1, ⟨hk.1.2.2.1, ⟨hk.1.2.2.2.1, hk.1.2.2.2.2⟩⟩⟩⟩)⟩
                            have n3_ : Aside0 ((w56.setCell ⟨gb168, 0, none⟩ (.slice Ao57 y169.length co57)).heap[gb163]? = some (.cells #[.slice A0_0 l0_0.length c0_0, .int .u32 a0_1] 25 (0, 0))) := ⟨by (with_reducible repeat (first | refine blk_drewN ?_ _ | refine blk_drew ?_ | refine blk_alloc ?_ _)); refine blk_far ?_ NB163_168.out _; (with_reducible repeat (first | refine blk_drewN ?_ _ | refine blk_drew ?_ | refine blk_alloc ?_ _)); exact BK163.out⟩
                            have n4_ : Aside0 ((w56.setCell ⟨gb168, 0, none⟩ (.slice Ao57 y169.length co57)).heap[gb164]? = some (.cells #[.int .u32 a1_0, .int .u32 a1_1, .slice A1_2 l1_2.length c1_2, .int .u32 a1_3] 40 (0, 0))) := ⟨by (with_reducible repeat (first | refine blk_drewN ?_ _ | refine blk_drew ?_ | refine blk_alloc ?_ _)); refine blk_far ?_ NB164_168.out _; (with_reducible repeat (first | refine blk_drewN ?_ _ | refine blk_drew ?_ | refine blk_alloc ?_ _)); exact BK164.out⟩
                            have n5_ : Aside0 ((w56.setCell ⟨gb168, 0, none⟩ (.slice Ao57 y169.length co57)).heap[gb165]? = some (.cells #[.int .u32 a2_0, .int .u32 a2_1, .int .u64 a2_2, .int .u64 a2_3, .int .u64 a2_4, .int .u64 a2_5, .int .u64 a2_6, .int .u64 a2_7, .int .u64 a2_8] 44 (0, 0))) := ⟨by (with_reducible repeat (first | refine blk_drewN ?_ _ | refine blk_drew ?_ | refine blk_alloc ?_ _)); refine blk_far ?_ NB165_168.out _; (with_reducible repeat (first | refine blk_drewN ?_ _ | refine blk_drew ?_ | refine blk_alloc ?_ _)); exact BK165.out⟩
                            have n6_ : Aside0 ((w56.setCell ⟨gb168, 0, none⟩ (.slice Ao57 y169.length co57)).heap[gb168]? = some (.cells #[.slice Ao57 y169.length co57, .int .u32 a0_1] 25 (0, 0))) := ⟨by (with_reducible repeat (first | refine blk_drewN ?_ _ | refine blk_drew ?_ | refine blk_alloc ?_ _)); refine blk_put (cs := #[.slice none 0 0, .int .u32 a0_1]) ?_ 0 _ rfl; (with_reducible repeat (first | refine blk_drewN ?_ _ | refine blk_drew ?_ | refine blk_alloc ?_ _)); exact BK168.out⟩
                            have n7_ : Aside0 (Below w.heap.size w (w56.setCell ⟨gb168, 0, none⟩ (.slice Ao57 y169.length co57))) := ⟨by repeat (first | (with_reducible first | exact HB.out | apply below_alloc | apply pw_below_drewN | apply below_drew1 | refine below_set ?_ GE163.out | refine below_set ?_ GE164.out | refine below_set ?_ GE165.out | refine below_set ?_ GE168.out) | exact HB.out)⟩
                            (try clear HO_164000)
                            (try clear HO_165002)
                            (try clear HO171)
                            (try clear BK163)
                            (try clear BK164)
                            (try clear BK165)
                            (try clear BK168)
                            (try clear HB)
                            generalize (w56.setCell ⟨gb168, 0, none⟩ (.slice Ao57 y169.length co57)) = w59 at n0_ n1_ n2_ n3_ n4_ n5_ n6_ n7_ ⊢
                            have HO_164000 := n0_
                            have HO_165002 := n1_
                            have HO171 := n2_
                            have BK163 := n3_
                            have BK164 := n4_
                            have BK165 := n5_
                            have BK168 := n6_
                            have HB := n7_
                            clear n0_ n1_ n2_ n3_ n4_ n5_ n6_ n7_
                            have n0_ := Aside0.mk (Kd.V_drew HO_164000.out)
                            have n1_ := Aside0.mk (Kd.V_drew HO_165002.out)
                            have n2_ := Aside0.mk (Kd.N_drew HO171.out)
                            have n3_ := Aside0.mk (blk_drew BK163.out)
                            have n4_ := Aside0.mk (blk_drew BK164.out)
                            have n5_ := Aside0.mk (blk_drew BK165.out)
                            have n6_ := Aside0.mk (blk_drew BK168.out)
                            have n7_ := Aside0.mk (below_drew1 HB.out)
                            clear HO_164000
                            clear HO_165002
                            clear HO171
                            clear BK163
                            clear BK164
                            clear BK165
                            clear BK168
                            clear HB
                            have HO_164000 := n0_
                            have HO_165002 := n1_
                            have HO171 := n2_
                            have BK163 := n3_
                            have BK164 := n4_
                            have BK165 := n5_
                            have BK168 := n6_
                            have HB := n7_
                            clear n0_ n1_ n2_ n3_ n4_ n5_ n6_ n7_
                            have p172 : 0 ≤ ((ji32) : Int) := of_decide_eq_true (by first | (with_reducible assumption) | assumption)
                            have q172 : (ji32) < (l0_0.length : Int) := of_decide_eq_true (by first | (with_reducible assumption) | assumption)
                            obtain ⟨ad172, A172_2, c172_2, e172, hx172_0, hx172_1, hx172_2, hx172_3, hl172_2, hi172_2⟩ := at_T40 (Kd.V_reads' HO_164000.out).2.2 (ji32) p172 q172
                            cases e172
                            obtain ⟨ce172, hce172, hMe172, hcc172⟩ := Kd.V_get HO_164000.out z40 (ji32) p172 (by first | exact q172 | exact of_decide_eq_true (by first | (with_reducible assumption) | assumption) | (have e_ := (Kd.V_reads' HO_164000.out).1; omega))
                            obtain ⟨ua172_2, uc172_2, rfl, ul172_2, ge172_2⟩ := k40_openF hMe172
                            have hv172_2 := hcc172 2 _ rfl
                            rw [add_field _ _ 2 (by omega)] at hv172_2
                            replace hv172_2 := Option.some.inj (hv172_2.symm.trans hx172_2)
                            injection hv172_2 with hva_ hvn_ hvc_
                            rw [hva_] at ge172_2
                            rw [hvc_] at ul172_2
                            have HL172_2 := Aside0.mk (show Kd.V k61 61 _ w.heap.size _ _ ((rd_T40 l0_0 (ji32)).f2) from Kd.V_mk ul172_2 ge172_2)
                            clear hva_ hvn_ hvc_ ge172_2 ul172_2
                            clear hcc172 hce172
                            have HR172_2 := Aside0.mk hi172_2
                            have HC172_2 := Aside0.mk hl172_2
                            clear hi172_2 hl172_2
                            replace p172 := eq_true p172
                            replace q172 := eq_true q172
                            have p36 : 0 ≤ ((ji32) : Int) := of_decide_eq_true (by first | (with_reducible assumption) | assumption)
                            have q36 : ((ji32) : Int) < ((y169.length : Int) : Int) := of_decide_eq_true (by first | (with_reducible assumption) | assumption)
                            obtain ⟨go36, co36, eo36, gb36, gl36, cl36, HG36⟩ := Kd.N_form HO171.out (by omega)
                            (first | cases eo36 | (injection eo36 with ea_ en_ ec_; (first | subst ea_ | (injection ea_ with ea_; subst ea_)); subst ec_; clear en_))
                            have GB36 := Aside0.mk gb36
                            have GG36 := Aside0.mk HG36
                            clear gb36 gl36 HG36
                            obtain ⟨ce36, hcl36, hM36, hcc36, hfr36⟩ := Kd.N_elem HO171.out z40 ((ji32) : Int) p36 q36
                            obtain ⟨ua36_2, uc36_2, rfl, ul36_2, ge36_2⟩ := k40_openF hM36
                            have hx36_0 : World.cell? _ ⟨go36, ((ji32) : Int).toNat * 4, none⟩ = some (.int .u32 ((rd_T40 y169 (ji32)).f0)) := hcc36 0 _ rfl
                            have hx36_1 : World.cell? _ ⟨go36, ((ji32) : Int).toNat * 4 + 1, none⟩ = some (.int .u32 ((rd_T40 y169 (ji32)).f1)) := hcc36 1 _ rfl
                            have hx36_2 : World.cell? _ ⟨go36, ((ji32) : Int).toNat * 4 + 2, none⟩ = some (.slice ua36_2 ((rd_T40 y169 (ji32)).f2).length uc36_2) := hcc36 2 _ rfl
                            have hx36_3 : World.cell? _ ⟨go36, ((ji32) : Int).toNat * 4 + 3, none⟩ = some (.int .u32 ((rd_T40 y169 (ji32)).f3)) := hcc36 3 _ rfl
                            have hf36_0 : World.frozen? _ ⟨go36, ((ji32) : Int).toNat * 4, none⟩ = false := hfr36 0
                            have hf36_1 : World.frozen? _ ⟨go36, ((ji32) : Int).toNat * 4 + 1, none⟩ = false := hfr36 1
                            have hf36_2 : World.frozen? _ ⟨go36, ((ji32) : Int).toNat * 4 + 2, none⟩ = false := hfr36 2
                            have hf36_3 : World.frozen? _ ⟨go36, ((ji32) : Int).toNat * 4 + 3, none⟩ = false := hfr36 3
                            clear hcl36 hcc36 hfr36 hM36
                            replace p36 := eq_true p36
                            replace q36 := eq_true q36
                            have HX61 := Aside0.mk (show Kd.N k40 40 _ w.heap.size (fun k_ => ((P0_0_ k_ ∨ P1_2_ k_) ∨ w.heap.size ≤ k_) ∧ k_ ≠ gb163 ∧ k_ ≠ gb164 ∧ k_ ≠ gb165 ∧ k_ ≠ gb168) (.slice (some ⟨go36, 0, none⟩) y169.length co57) y169 from (Kd.N_mono (HO171.out) (fun k_ hk => ⟨hk.1, ⟨hk.2.1, ⟨hk.2.2.1, ⟨hk.2.2.2.1, hk.2.2.2.2⟩⟩⟩⟩)))
                            obtain ⟨ce61, hcl61, hM61, hcc61, hfr61⟩ := Kd.N_elem HX61.out z40 ((ji32) : Int) (of_decide_eq_true (by first | (with_reducible assumption) | assumption)) (by have h_ : ((ji32) : Int) < ((y169.length : Int) : Int) := of_decide_eq_true (by first | (with_reducible assumption) | assumption); first | exact h_ | (have e_ := (Kd.N_reads' HO171.out).1; omega) | simpa using h_)
                            obtain ⟨ua61_2, uc61_2, rfl, ul61_2, ge61_2⟩ := k40_openF hM61
                            have HP61 := (Kd.N_seg HX61.out ((ji32) : Int) (of_decide_eq_true (by first | (with_reducible assumption) | assumption)) (by have h_ : ((ji32) : Int) < ((y169.length : Int) : Int) := of_decide_eq_true (by first | (with_reducible assumption) | assumption); first | exact h_ | (have e_ := (Kd.N_reads' HO171.out).1; omega) | simpa using h_) (seg := [.int .u32 a1_0, .int .u32 a1_1, .slice none 0 0, .int .u32 ((rd_T40 l0_0 (ji32)).f3)]) (j := 0) hcl61 hcc61 (show 4 ≤ 4 from by decide) (x' := (⟨a1_0, a1_1, ([] : List (S61)), (rd_T40 l0_0 (ji32)).f3⟩ : S40)) (k40_mkF _ _ (⟨a1_0, a1_1, ([] : List (S61)), (rd_T40 l0_0 (ji32)).f3⟩ : S40) (Nat.le_refl _) (Kd.F_nil _ _ _)) (fun _ hk => hk)).1
                            rw [← Ny173.out] at HP61
                            have HQ61 := Aside0.mk HP61
                            clear hcl61 hcc61 hfr61 hM61 HP61
                            refine start_ (n := 16) (S := fun w' => w'.cell? ⟨gb168, 0, none⟩ = some (.slice (some ⟨go36, 0, none⟩) y169.length co57) ∧ w'.cell? ⟨gb168, 1, none⟩ = some (.int .u32 a0_1) ∧ w'.cell? ⟨gb164, 0, none⟩ = some (.int .u32 a1_0) ∧ w'.cell? ⟨gb164, 1, none⟩ = some (.int .u32 a1_1) ∧ w'.cell? ⟨gb164, 2, none⟩ = some (.slice A1_2 l1_2.length c1_2) ∧ w'.cell? ⟨gb164, 3, none⟩ = some (.int .u32 a1_3) ∧ w'.cell? ⟨gb163, 0, none⟩ = some (.slice (some ad172) l0_0.length c0_0) ∧ w'.cell? ⟨gb163, 1, none⟩ = some (.int .u32 a0_1) ∧ w'.cell? (ad172.add (((ji32)).toNat * 4)) = some (.int .u32 ((rd_T40 l0_0 (ji32)).f0)) ∧ w'.cell? ⟨(ad172.add (((ji32)).toNat * 4)).block, (ad172.add (((ji32)).toNat * 4)).off + 1, none⟩ = some (.int .u32 ((rd_T40 l0_0 (ji32)).f1)) ∧ w'.cell? ⟨(ad172.add (((ji32)).toNat * 4)).block, (ad172.add (((ji32)).toNat * 4)).off + 2, none⟩ = some (.slice A172_2 ((rd_T40 l0_0 (ji32)).f2).length c172_2) ∧ w'.cell? ⟨(ad172.add (((ji32)).toNat * 4)).block, (ad172.add (((ji32)).toNat * 4)).off + 3, none⟩ = some (.int .u32 ((rd_T40 l0_0 (ji32)).f3))) (ds := [15]) #[false, false, false, false, false, false, false, false, false, false, false, false, false, false, false, false] (by kernel_rfl) rfl rfl ⟨(blk_cell BK168.out 0).trans rfl, (blk_cell BK168.out 1).trans rfl, (blk_cell BK164.out 0).trans rfl, (blk_cell BK164.out 1).trans rfl, (blk_cell BK164.out 2).trans rfl, (blk_cell BK164.out 3).trans rfl, (blk_cell BK163.out 0).trans rfl, (blk_cell BK163.out 1).trans rfl, hx172_0, hx172_1, hx172_2, hx172_3⟩ (fun hHeld => ?_); refine with_tabW hurdlelaw11_DenoteShades.tab6 hurdlelaw11_DenoteShades.bits6 (fun HT_ HW_ => ?_)
                            generalize w59.drew = w60 at HO_164000 HO_165002 HO171 BK163 BK164 BK165 BK168 HB GG36 HL172_2 HQ61 HR172_2 hf36_0 hf36_1 hf36_2 hf36_3 hx172_0 hx172_1 hx172_2 hx172_3 hx36_0 hx36_1 hx36_2 hx36_3 hHeld ⊢
                            refine pure_ (i := 0) (N := some 50) (v := ?_) (a' := ?_) #[true, false, false, false, false, false, false, false, false, false, false, false, false, false, false, false] rfl rfl (any_of HT_.out (by kernel_rfl)) (fun _ _ _ h => h) (Or.inl ⟨by rfl, ?_⟩) ?_ ?_
                            rotate_left
                            · intro w'
                              go_simp
                              with_reducible rfl
                            rotate_left
                            · simp only [Act.put, List.setIfInBounds_toArray, List.set_cons_zero, List.set_cons_succ, i64_w, i32_w]
                              rfl
                            refine pure_ (i := 2) (N := some 52) (v := ?_) (a' := ?_) #[true, false, true, false, false, false, false, false, false, false, false, false, false, false, false, false] rfl rfl (any_of HT_.out (by kernel_rfl)) (fun _ _ _ h => h) (Or.inl ⟨by rfl, ?_⟩) ?_ ?_
                            rotate_left
                            · intro w'
                              go_simp
                              with_reducible rfl
                            rotate_left
                            · simp only [Act.put, List.setIfInBounds_toArray, List.set_cons_zero, List.set_cons_succ, i64_w, i32_w]
                              rfl
                            refine pure_ (i := 3) (N := some 53) (v := ?_) (a' := ?_) #[true, false, true, true, false, false, false, false, false, false, false, false, false, false, false, false] rfl rfl (any_of HT_.out (by kernel_rfl)) (fun _ _ _ h => h) (Or.inl ⟨by rfl, ?_⟩) ?_ ?_
                            rotate_left
                            · intro w'
                              go_simp
                              with_reducible rfl
                            rotate_left
                            · simp only [Act.put, List.setIfInBounds_toArray, List.set_cons_zero, List.set_cons_succ, i64_w, i32_w]
                              rfl
                            refine pure_ (i := 5) (N := some 55) (v := ?_) (a' := ?_) #[true, false, true, true, false, true, false, false, false, false, false, false, false, false, false, false] rfl rfl (any_of HT_.out (by kernel_rfl)) (fun _ _ _ h => h) (Or.inl ⟨by rfl, ?_⟩) ?_ ?_
                            rotate_left
                            · intro w'
                              go_simp
                              with_reducible rfl
                            rotate_left
                            · simp only [Act.put, List.setIfInBounds_toArray, List.set_cons_zero, List.set_cons_succ, i64_w, i32_w]
                              rfl
                            refine pure_ (i := 7) (N := some 57) (v := ?_) (a' := ?_) #[true, false, true, true, false, true, false, true, false, false, false, false, false, false, false, false] rfl rfl (any_of HT_.out (by kernel_rfl)) (fun _ _ _ h => h) (Or.inl ⟨by rfl, ?_⟩) ?_ ?_
                            rotate_left
                            · intro w'
                              go_simp
                              with_reducible rfl
                            rotate_left
                            · simp only [Act.put, List.setIfInBounds_toArray, List.set_cons_zero, List.set_cons_succ, i64_w, i32_w]
                              rfl
                            refine pure_ (i := 9) (N := some 59) (v := ?_) (a' := ?_) #[true, false, true, true, false, true, false, true, false, true, false, false, false, false, false, false] rfl rfl (any_of HT_.out (by kernel_rfl)) (fun _ _ _ h => h) (Or.inl ⟨by rfl, ?_⟩) ?_ ?_
                            rotate_left
                            · intro w'
                              go_simp
                              with_reducible rfl
                            rotate_left
                            · simp only [Act.put, List.setIfInBounds_toArray, List.set_cons_zero, List.set_cons_succ, i64_w, i32_w]
                              rfl
                            refine take_ (i := 1) (N := some 51) (v := ?_) (a' := ?_) #[true, true, true, true, false, true, false, true, false, true, false, false, false, false, false, false] rfl rfl (take_ofW HT_.out HW_.out (by kernel_rfl)) (fun _ _ _ h => h) (Or.inl ⟨by rfl, ?_⟩) hHeld ?_ ?_
                            rotate_left
                            · rintro w' ⟨s0, s1, s2, s3, s4, s5, s6, s7, s8, s9, s10, s11⟩
                              go_simp
                              with_reducible rfl
                            rotate_left
                            · simp only [Act.put, List.setIfInBounds_toArray, List.set_cons_zero, List.set_cons_succ, i64_w, i32_w]
                              rfl
                            refine take_ (i := 4) (N := some 54) (v := ?_) (a' := ?_) #[true, true, true, true, true, true, false, true, false, true, false, false, false, false, false, false] rfl rfl (take_ofW HT_.out HW_.out (by kernel_rfl)) (fun _ _ _ h => h) (Or.inl ⟨by rfl, ?_⟩) hHeld ?_ ?_
                            rotate_left
                            · rintro w' ⟨s0, s1, s2, s3, s4, s5, s6, s7, s8, s9, s10, s11⟩
                              go_simp
                              with_reducible rfl
                            rotate_left
                            · simp only [Act.put, List.setIfInBounds_toArray, List.set_cons_zero, List.set_cons_succ, i64_w, i32_w]
                              rfl
                            refine take_ (i := 6) (N := some 56) (v := ?_) (a' := ?_) #[true, true, true, true, true, true, true, true, false, true, false, false, false, false, false, false] rfl rfl (take_ofW HT_.out HW_.out (by kernel_rfl)) (fun _ _ _ h => h) (Or.inl ⟨by rfl, ?_⟩) hHeld ?_ ?_
                            rotate_left
                            · rintro w' ⟨s0, s1, s2, s3, s4, s5, s6, s7, s8, s9, s10, s11⟩
                              go_simp
                              with_reducible rfl
                            rotate_left
                            · simp only [Act.put, List.setIfInBounds_toArray, List.set_cons_zero, List.set_cons_succ, i64_w, i32_w]
                              rfl
                            refine take_ (i := 8) (N := some 58) (v := ?_) (a' := ?_) #[true, true, true, true, true, true, true, true, true, true, false, false, false, false, false, false] rfl rfl (take_ofW HT_.out HW_.out (by kernel_rfl)) (fun _ _ _ h => h) (Or.inl ⟨by rfl, ?_⟩) hHeld ?_ ?_
                            rotate_left
                            · rintro w' ⟨s0, s1, s2, s3, s4, s5, s6, s7, s8, s9, s10, s11⟩
                              go_simp
                              with_reducible rfl
                            rotate_left
                            · simp only [Act.put, List.setIfInBounds_toArray, List.set_cons_zero, List.set_cons_succ, i64_w, i32_w]
                              rfl
                            refine pure_ (i := 10) (N := some 60) (v := ?_) (a' := ?_) #[true, true, true, true, true, true, true, true, true, true, true, false, false, false, false, false] rfl rfl (any_of HT_.out (by kernel_rfl)) (fun _ _ _ h => h) (Or.inl ⟨by rfl, ?_⟩) ?_ ?_
                            rotate_left
                            · intro w'
                              go_simp
                              with_reducible rfl
                            rotate_left
                            · simp only [Act.put, List.setIfInBounds_toArray, List.set_cons_zero, List.set_cons_succ, i64_w, i32_w]
                              rfl
                            refine pure_ (i := 11) (N := some 61) (v := ?_) (a' := ?_) #[true, true, true, true, true, true, true, true, true, true, true, true, false, false, false, false] rfl rfl (any_of HT_.out (by kernel_rfl)) (fun _ _ _ h => h) (Or.inl ⟨by rfl, ?_⟩) ?_ ?_
                            rotate_left
                            · intro w'
                              go_simp
                              with_reducible rfl
                            rotate_left
                            · simp only [Act.put, List.setIfInBounds_toArray, List.set_cons_zero, List.set_cons_succ, i64_w, i32_w]
                              rfl
                            refine take_ (i := 12) (N := some 62) (v := ?_) (a' := ?_) #[true, true, true, true, true, true, true, true, true, true, true, true, true, false, false, false] rfl rfl (take_ofW HT_.out HW_.out (by kernel_rfl)) (fun _ _ _ h => h) (Or.inl ⟨by rfl, ?_⟩) hHeld ?_ ?_
                            rotate_left
                            · rintro w' ⟨s0, s1, s2, s3, s4, s5, s6, s7, s8, s9, s10, s11⟩
                              go_simp
                              with_reducible rfl
                            rotate_left
                            · simp only [Act.put, List.setIfInBounds_toArray, List.set_cons_zero, List.set_cons_succ, i64_w, i32_w]
                              rfl
                            refine pure_ (i := 13) (N := some 63) (v := ?_) (a' := ?_) #[true, true, true, true, true, true, true, true, true, true, true, true, true, true, false, false] rfl rfl (any_of HT_.out (by kernel_rfl)) (fun _ _ _ h => h) (Or.inl ⟨by rfl, ?_⟩) ?_ ?_
                            rotate_left
                            · intro w'
                              go_simp
                              with_reducible rfl
                            rotate_left
                            · simp only [Act.put, List.setIfInBounds_toArray, List.set_cons_zero, List.set_cons_succ, i64_w, i32_w]
                              rfl
                            refine pure_ (i := 14) (N := some 64) (v := ?_) (a' := ?_) #[true, true, true, true, true, true, true, true, true, true, true, true, true, true, true, false] rfl rfl (any_of HT_.out (by kernel_rfl)) (fun _ _ _ h => h) (Or.inl ⟨by rfl, ?_⟩) ?_ ?_
                            rotate_left
                            · intro w'
                              go_simp
                              with_reducible rfl
                            rotate_left
                            · simp only [Act.put, List.setIfInBounds_toArray, List.set_cons_zero, List.set_cons_succ, i64_w, i32_w]
                              rfl
                            refine last_ (i := 15) (N := none) #[true, true, true, true, true, true, true, true, true, true, true, true, true, true, true, true] rfl rfl (one_of HT_.out (by kernel_rfl)) (by decide) (fun K hK => ?_)
                            refine skip_ (w1 := ?_) (by rfl) rfl ?_ ?_
                            rotate_left
                            · go_simp
                              rfl
                            refine hK.out _ _ ?_
                            clear hK K
                            refine done_ (done_of HT_.out (by kernel_rfl)) ?_
                            have n0_ : Aside0 (Kd.V k40 40 ((((w60.setCell ⟨go36, ((ji32) : Int).toNat * 4, none⟩ (.int .u32 a1_0)).setCell ⟨go36, ((ji32) : Int).toNat * 4 + 1, none⟩ (.int .u32 a1_1)).setCell ⟨go36, ((ji32) : Int).toNat * 4 + 2, none⟩ (.slice none 0 0)).setCell ⟨go36, ((ji32) : Int).toNat * 4 + 3, none⟩ (.int .u32 ((rd_T40 l0_0 (ji32)).f3))) w.heap.size (fun k_ => ((P0_0_ k_ ∨ P1_2_ k_) ∨ w.heap.size ≤ k_) ∧ some k_ ≠ (.slice (some ⟨go36, 0, none⟩) y169.length co57 : Value).ownBlock ∧ k_ ≠ gb163 ∧ k_ ≠ gb164 ∧ k_ ≠ gb165 ∧ k_ ≠ gb168) (.slice (some ad172) l0_0.length c0_0) l0_0) := ⟨by (with_reducible repeat (first | apply Kd.V_alloc | apply Kd.V_drewN | apply Kd.V_drew)); exact Kd.V_mono (Kd.V_far (p := ⟨go36, ((ji32) : Int).toNat * 4 + 3, none⟩) (Kd.V_far (p := ⟨go36, ((ji32) : Int).toNat * 4 + 2, none⟩) (Kd.V_far (p := ⟨go36, ((ji32) : Int).toNat * 4 + 1, none⟩) (Kd.V_far (p := ⟨go36, ((ji32) : Int).toNat * 4, none⟩) (Kd.V_mono HO_164000.out (fun k_ hk => (⟨hk, fun e_ => hk.2.1 (by rw [e_]; rfl)⟩ : _ ∧ k_ ≠ go36))) (fun _ hk => hk.2) (.int .u32 a1_0)) (fun _ hk => hk.2) (.int .u32 a1_1)) (fun _ hk => hk.2) (.slice none 0 0)) (fun _ hk => hk.2) (.int .u32 ((rd_T40 l0_0 (ji32)).f3))) (fun _ hk => ⟨hk.1.1, ⟨hk.1.2.1, ⟨hk.1.2.2.1, ⟨hk.1.2.2.2.1, ⟨hk.1.2.2.2.2.1, hk.1.2.2.2.2.2⟩⟩⟩⟩⟩)⟩
                            have n1_ : Aside0 (Kd.V k61 61 ((((w60.setCell ⟨go36, ((ji32) : Int).toNat * 4, none⟩ (.int .u32 a1_0)).setCell ⟨go36, ((ji32) : Int).toNat * 4 + 1, none⟩ (.int .u32 a1_1)).setCell ⟨go36, ((ji32) : Int).toNat * 4 + 2, none⟩ (.slice none 0 0)).setCell ⟨go36, ((ji32) : Int).toNat * 4 + 3, none⟩ (.int .u32 ((rd_T40 l0_0 (ji32)).f3))) w.heap.size (fun k_ => ((P0_0_ k_ ∨ P1_2_ k_) ∨ w.heap.size ≤ k_) ∧ some k_ ≠ (.slice (some ⟨go36, 0, none⟩) y169.length co57 : Value).ownBlock ∧ k_ ≠ gb163 ∧ k_ ≠ gb164 ∧ k_ ≠ gb165 ∧ k_ ≠ gb168) (.slice A1_2 l1_2.length c1_2) l1_2) := ⟨by (with_reducible repeat (first | apply Kd.V_alloc | apply Kd.V_drewN | apply Kd.V_drew)); exact Kd.V_mono (Kd.V_far (p := ⟨go36, ((ji32) : Int).toNat * 4 + 3, none⟩) (Kd.V_far (p := ⟨go36, ((ji32) : Int).toNat * 4 + 2, none⟩) (Kd.V_far (p := ⟨go36, ((ji32) : Int).toNat * 4 + 1, none⟩) (Kd.V_far (p := ⟨go36, ((ji32) : Int).toNat * 4, none⟩) (Kd.V_mono HO_165002.out (fun k_ hk => (⟨hk, fun e_ => hk.2.1 (by rw [e_]; rfl)⟩ : _ ∧ k_ ≠ go36))) (fun _ hk => hk.2) (.int .u32 a1_0)) (fun _ hk => hk.2) (.int .u32 a1_1)) (fun _ hk => hk.2) (.slice none 0 0)) (fun _ hk => hk.2) (.int .u32 ((rd_T40 l0_0 (ji32)).f3))) (fun _ hk => ⟨hk.1.1, ⟨hk.1.2.1, ⟨hk.1.2.2.1, ⟨hk.1.2.2.2.1, ⟨hk.1.2.2.2.2.1, hk.1.2.2.2.2.2⟩⟩⟩⟩⟩)⟩
                            have n2_ : Aside0 (Kd.N k40 40 ((((w60.setCell ⟨go36, ((ji32) : Int).toNat * 4, none⟩ (.int .u32 a1_0)).setCell ⟨go36, ((ji32) : Int).toNat * 4 + 1, none⟩ (.int .u32 a1_1)).setCell ⟨go36, ((ji32) : Int).toNat * 4 + 2, none⟩ (.slice none 0 0)).setCell ⟨go36, ((ji32) : Int).toNat * 4 + 3, none⟩ (.int .u32 ((rd_T40 l0_0 (ji32)).f3))) w.heap.size (fun k_ => ((P0_0_ k_ ∨ P1_2_ k_) ∨ w.heap.size ≤ k_) ∧ k_ ≠ gb163 ∧ k_ ≠ gb164 ∧ k_ ≠ gb165 ∧ k_ ≠ gb168) (.slice (some ⟨go36, 0, none⟩) y169.length co57) y173) := ⟨by (with_reducible repeat (first | apply Kd.N_alloc | apply Kd.N_drewN | apply Kd.N_drew)); exact HQ61.out⟩
                            have n3_ : Aside0 (Kd.V k61 61 ((((w60.setCell ⟨go36, ((ji32) : Int).toNat * 4, none⟩ (.int .u32 a1_0)).setCell ⟨go36, ((ji32) : Int).toNat * 4 + 1, none⟩ (.int .u32 a1_1)).setCell ⟨go36, ((ji32) : Int).toNat * 4 + 2, none⟩ (.slice none 0 0)).setCell ⟨go36, ((ji32) : Int).toNat * 4 + 3, none⟩ (.int .u32 ((rd_T40 l0_0 (ji32)).f3))) w.heap.size (fun k_ => ((P0_0_ k_ ∨ P1_2_ k_) ∨ w.heap.size ≤ k_) ∧ some k_ ≠ (.slice (some ⟨go36, 0, none⟩) y169.length co57 : Value).ownBlock ∧ k_ ≠ gb163 ∧ k_ ≠ gb164 ∧ k_ ≠ gb165 ∧ k_ ≠ gb168) (.slice A172_2 ((rd_T40 l0_0 (ji32)).f2).length c172_2) ((rd_T40 l0_0 (ji32)).f2)) := ⟨by (with_reducible repeat (first | apply Kd.V_alloc | apply Kd.V_drewN | apply Kd.V_drew)); exact Kd.V_mono (Kd.V_far (p := ⟨go36, ((ji32) : Int).toNat * 4 + 3, none⟩) (Kd.V_far (p := ⟨go36, ((ji32) : Int).toNat * 4 + 2, none⟩) (Kd.V_far (p := ⟨go36, ((ji32) : Int).toNat * 4 + 1, none⟩) (Kd.V_far (p := ⟨go36, ((ji32) : Int).toNat * 4, none⟩) (Kd.V_mono HL172_2.out (fun k_ hk => (⟨hk, fun e_ => hk.2.1 (by rw [e_]; rfl)⟩ : _ ∧ k_ ≠ go36))) (fun _ hk => hk.2) (.int .u32 a1_0)) (fun _ hk => hk.2) (.int .u32 a1_1)) (fun _ hk => hk.2) (.slice none 0 0)) (fun _ hk => hk.2) (.int .u32 ((rd_T40 l0_0 (ji32)).f3))) (fun _ hk => ⟨hk.1.1, ⟨hk.1.2.1, ⟨hk.1.2.2.1, ⟨hk.1.2.2.2.1, ⟨hk.1.2.2.2.2.1, hk.1.2.2.2.2.2⟩⟩⟩⟩⟩)⟩
                            have n4_ : Aside0 (((((w60.setCell ⟨go36, ((ji32) : Int).toNat * 4, none⟩ (.int .u32 a1_0)).setCell ⟨go36, ((ji32) : Int).toNat * 4 + 1, none⟩ (.int .u32 a1_1)).setCell ⟨go36, ((ji32) : Int).toNat * 4 + 2, none⟩ (.slice none 0 0)).setCell ⟨go36, ((ji32) : Int).toNat * 4 + 3, none⟩ (.int .u32 ((rd_T40 l0_0 (ji32)).f3))).heap[gb163]? = some (.cells #[.slice (some ad172) l0_0.length c0_0, .int .u32 a0_1] 25 (0, 0))) := ⟨by (with_reducible repeat (first | refine blk_drewN ?_ _ | refine blk_drew ?_ | refine blk_alloc ?_ _)); refine blk_far ?_ (by have h_ := Kd.N_away HO171.out (fun _ hk => hk.2.1); intro e_; exact h_ (by rw [e_]; rfl)) _; (with_reducible repeat (first | refine blk_drewN ?_ _ | refine blk_drew ?_ | refine blk_alloc ?_ _)); refine blk_far ?_ (by have h_ := Kd.N_away HO171.out (fun _ hk => hk.2.1); intro e_; exact h_ (by rw [e_]; rfl)) _; (with_reducible repeat (first | refine blk_drewN ?_ _ | refine blk_drew ?_ | refine blk_alloc ?_ _)); refine blk_far ?_ (by have h_ := Kd.N_away HO171.out (fun _ hk => hk.2.1); intro e_; exact h_ (by rw [e_]; rfl)) _; (with_reducible repeat (first | refine blk_drewN ?_ _ | refine blk_drew ?_ | refine blk_alloc ?_ _)); refine blk_far ?_ (by have h_ := Kd.N_away HO171.out (fun _ hk => hk.2.1); intro e_; exact h_ (by rw [e_]; rfl)) _; (with_reducible repeat (first | refine blk_drewN ?_ _ | refine blk_drew ?_ | refine blk_alloc ?_ _)); exact BK163.out⟩
                            have n5_ : Aside0 (((((w60.setCell ⟨go36, ((ji32) : Int).toNat * 4, none⟩ (.int .u32 a1_0)).setCell ⟨go36, ((ji32) : Int).toNat * 4 + 1, none⟩ (.int .u32 a1_1)).setCell ⟨go36, ((ji32) : Int).toNat * 4 + 2, none⟩ (.slice none 0 0)).setCell ⟨go36, ((ji32) : Int).toNat * 4 + 3, none⟩ (.int .u32 ((rd_T40 l0_0 (ji32)).f3))).heap[gb164]? = some (.cells #[.int .u32 a1_0, .int .u32 a1_1, .slice A1_2 l1_2.length c1_2, .int .u32 a1_3] 40 (0, 0))) := ⟨by (with_reducible repeat (first | refine blk_drewN ?_ _ | refine blk_drew ?_ | refine blk_alloc ?_ _)); refine blk_far ?_ (by have h_ := Kd.N_away HO171.out (fun _ hk => hk.2.2.1); intro e_; exact h_ (by rw [e_]; rfl)) _; (with_reducible repeat (first | refine blk_drewN ?_ _ | refine blk_drew ?_ | refine blk_alloc ?_ _)); refine blk_far ?_ (by have h_ := Kd.N_away HO171.out (fun _ hk => hk.2.2.1); intro e_; exact h_ (by rw [e_]; rfl)) _; (with_reducible repeat (first | refine blk_drewN ?_ _ | refine blk_drew ?_ | refine blk_alloc ?_ _)); refine blk_far ?_ (by have h_ := Kd.N_away HO171.out (fun _ hk => hk.2.2.1); intro e_; exact h_ (by rw [e_]; rfl)) _; (with_reducible repeat (first | refine blk_drewN ?_ _ | refine blk_drew ?_ | refine blk_alloc ?_ _)); refine blk_far ?_ (by have h_ := Kd.N_away HO171.out (fun _ hk => hk.2.2.1); intro e_; exact h_ (by rw [e_]; rfl)) _; (with_reducible repeat (first | refine blk_drewN ?_ _ | refine blk_drew ?_ | refine blk_alloc ?_ _)); exact BK164.out⟩
                            have n6_ : Aside0 (((((w60.setCell ⟨go36, ((ji32) : Int).toNat * 4, none⟩ (.int .u32 a1_0)).setCell ⟨go36, ((ji32) : Int).toNat * 4 + 1, none⟩ (.int .u32 a1_1)).setCell ⟨go36, ((ji32) : Int).toNat * 4 + 2, none⟩ (.slice none 0 0)).setCell ⟨go36, ((ji32) : Int).toNat * 4 + 3, none⟩ (.int .u32 ((rd_T40 l0_0 (ji32)).f3))).heap[gb165]? = some (.cells #[.int .u32 a2_0, .int .u32 a2_1, .int .u64 a2_2, .int .u64 a2_3, .int .u64 a2_4, .int .u64 a2_5, .int .u64 a2_6, .int .u64 a2_7, .int .u64 a2_8] 44 (0, 0))) := ⟨by (with_reducible repeat (first | refine blk_drewN ?_ _ | refine blk_drew ?_ | refine blk_alloc ?_ _)); refine blk_far ?_ (by have h_ := Kd.N_away HO171.out (fun _ hk => hk.2.2.2.1); intro e_; exact h_ (by rw [e_]; rfl)) _; (with_reducible repeat (first | refine blk_drewN ?_ _ | refine blk_drew ?_ | refine blk_alloc ?_ _)); refine blk_far ?_ (by have h_ := Kd.N_away HO171.out (fun _ hk => hk.2.2.2.1); intro e_; exact h_ (by rw [e_]; rfl)) _; (with_reducible repeat (first | refine blk_drewN ?_ _ | refine blk_drew ?_ | refine blk_alloc ?_ _)); refine blk_far ?_ (by have h_ := Kd.N_away HO171.out (fun _ hk => hk.2.2.2.1); intro e_; exact h_ (by rw [e_]; rfl)) _; (with_reducible repeat (first | refine blk_drewN ?_ _ | refine blk_drew ?_ | refine blk_alloc ?_ _)); refine blk_far ?_ (by have h_ := Kd.N_away HO171.out (fun _ hk => hk.2.2.2.1); intro e_; exact h_ (by rw [e_]; rfl)) _; (with_reducible repeat (first | refine blk_drewN ?_ _ | refine blk_drew ?_ | refine blk_alloc ?_ _)); exact BK165.out⟩
                            have n7_ : Aside0 (((((w60.setCell ⟨go36, ((ji32) : Int).toNat * 4, none⟩ (.int .u32 a1_0)).setCell ⟨go36, ((ji32) : Int).toNat * 4 + 1, none⟩ (.int .u32 a1_1)).setCell ⟨go36, ((ji32) : Int).toNat * 4 + 2, none⟩ (.slice none 0 0)).setCell ⟨go36, ((ji32) : Int).toNat * 4 + 3, none⟩ (.int .u32 ((rd_T40 l0_0 (ji32)).f3))).heap[gb168]? = some (.cells #[.slice (some ⟨go36, 0, none⟩) y169.length co57, .int .u32 a0_1] 25 (0, 0))) := ⟨by (with_reducible repeat (first | refine blk_drewN ?_ _ | refine blk_drew ?_ | refine blk_alloc ?_ _)); refine blk_far ?_ (by have h_ := Kd.N_away HO171.out (fun _ hk => hk.2.2.2.2); intro e_; exact h_ (by rw [e_]; rfl)) _; (with_reducible repeat (first | refine blk_drewN ?_ _ | refine blk_drew ?_ | refine blk_alloc ?_ _)); refine blk_far ?_ (by have h_ := Kd.N_away HO171.out (fun _ hk => hk.2.2.2.2); intro e_; exact h_ (by rw [e_]; rfl)) _; (with_reducible repeat (first | refine blk_drewN ?_ _ | refine blk_drew ?_ | refine blk_alloc ?_ _)); refine blk_far ?_ (by have h_ := Kd.N_away HO171.out (fun _ hk => hk.2.2.2.2); intro e_; exact h_ (by rw [e_]; rfl)) _; (with_reducible repeat (first | refine blk_drewN ?_ _ | refine blk_drew ?_ | refine blk_alloc ?_ _)); refine blk_far ?_ (by have h_ := Kd.N_away HO171.out (fun _ hk => hk.2.2.2.2); intro e_; exact h_ (by rw [e_]; rfl)) _; (with_reducible repeat (first | refine blk_drewN ?_ _ | refine blk_drew ?_ | refine blk_alloc ?_ _)); exact BK168.out⟩
                            have n8_ : Aside0 (Below w.heap.size w ((((w60.setCell ⟨go36, ((ji32) : Int).toNat * 4, none⟩ (.int .u32 a1_0)).setCell ⟨go36, ((ji32) : Int).toNat * 4 + 1, none⟩ (.int .u32 a1_1)).setCell ⟨go36, ((ji32) : Int).toNat * 4 + 2, none⟩ (.slice none 0 0)).setCell ⟨go36, ((ji32) : Int).toNat * 4 + 3, none⟩ (.int .u32 ((rd_T40 l0_0 (ji32)).f3)))) := ⟨by repeat (first | (with_reducible first | exact HB.out | apply below_alloc | apply pw_below_drewN | apply below_drew1 | refine below_set ?_ GB36.out | refine below_set ?_ GB36.out | refine below_set ?_ GB36.out | refine below_set ?_ GB36.out | refine below_set ?_ GE163.out | refine below_set ?_ GE164.out | refine below_set ?_ GE165.out | refine below_set ?_ GE168.out) | exact HB.out)⟩
                            (try clear HO_164000)
                            (try clear HO_165002)
                            (try clear HO171)
                            (try clear HL172_2)
                            (try clear BK163)
                            (try clear BK164)
                            (try clear BK165)
                            (try clear BK168)
                            (try clear HB)
                            generalize ((((w60.setCell ⟨go36, ((ji32) : Int).toNat * 4, none⟩ (.int .u32 a1_0)).setCell ⟨go36, ((ji32) : Int).toNat * 4 + 1, none⟩ (.int .u32 a1_1)).setCell ⟨go36, ((ji32) : Int).toNat * 4 + 2, none⟩ (.slice none 0 0)).setCell ⟨go36, ((ji32) : Int).toNat * 4 + 3, none⟩ (.int .u32 ((rd_T40 l0_0 (ji32)).f3))) = w62 at n0_ n1_ n2_ n3_ n4_ n5_ n6_ n7_ n8_ ⊢
                            have HO_164000 := n0_
                            have HO_165002 := n1_
                            have HO171 := n2_
                            have HL172_2 := n3_
                            have BK163 := n4_
                            have BK164 := n5_
                            have BK165 := n6_
                            have BK168 := n7_
                            have HB := n8_
                            clear n0_ n1_ n2_ n3_ n4_ n5_ n6_ n7_ n8_
                            have hcz63_0 : w62.cell? ⟨gb163, 0, none⟩ = some (.slice (some ad172) l0_0.length c0_0) := (blk_cell BK163.out 0).trans rfl
                            have hcz63_1 : w62.cell? ⟨gb163, 1, none⟩ = some (.int .u32 a0_1) := (blk_cell BK163.out 1).trans rfl
                            have hfz63_0 := blk_frozen BK163.out 0
                            have hfz63_1 := blk_frozen BK163.out 1
                            have hcz64_0 : w62.cell? ⟨gb168, 0, none⟩ = some (.slice (some ⟨go36, 0, none⟩) y169.length co57) := (blk_cell BK168.out 0).trans rfl
                            have hcz64_1 : w62.cell? ⟨gb168, 1, none⟩ = some (.int .u32 a0_1) := (blk_cell BK168.out 1).trans rfl
                            have hfz64_0 := blk_frozen BK168.out 0
                            have hfz64_1 := blk_frozen BK168.out 1
                            have hnb65 := NB164_165.out
                            have hnc65 := NB165_164.out
                            have hcz66_0 : w62.cell? ⟨gb164, 0, none⟩ = some (.int .u32 a1_0) := (blk_cell BK164.out 0).trans rfl
                            have hcz66_1 : w62.cell? ⟨gb164, 1, none⟩ = some (.int .u32 a1_1) := (blk_cell BK164.out 1).trans rfl
                            have hcz66_2 : w62.cell? ⟨gb164, 2, none⟩ = some (.slice A1_2 l1_2.length c1_2) := (blk_cell BK164.out 2).trans rfl
                            have hcz66_3 : w62.cell? ⟨gb164, 3, none⟩ = some (.int .u32 a1_3) := (blk_cell BK164.out 3).trans rfl
                            have hfz66_0 := blk_frozen BK164.out 0
                            have hfz66_1 := blk_frozen BK164.out 1
                            have hfz66_2 := blk_frozen BK164.out 2
                            have hfz66_3 := blk_frozen BK164.out 3
                            try go_wp2_with (first | ((with_reducible refine gate_callee (f := 30) rfl ?_); refine goesL_ (some 79) rfl rfl Try.func30 (by kernel_rfl) rfl #[.agg #[.slice (some ⟨go36, 0, none⟩) y173.length co57, .int .u32 a0_1], .int .i64 (wrap64 ((wrap64 ((ji32) + 1)) + (Int.tmod (wrap64 (a3)) (wrap64 ((l0_0.length : Int) - (ji32)))))), .agg #[.int .u32 a1_0, .int .u32 a1_1, .slice A1_2 l1_2.length c1_2, .int .u32 a1_3]] rfl (by (try simp only [List.map_toArray, List.map_cons, List.map_nil]); first | done | (rw [show y173.length = y169.length from (Kd.N_reads' HO171.out).1.symm] <;> rfl) | (simp only [hji32]; rfl) | rfl | (simp only [List.length_drop, List.length_take]; rfl)) ?_; (with_reducible refine (hurdlelaw11_put.calls (fun k_ => (((P0_0_ k_ ∨ P1_2_ k_) ∨ w.heap.size ≤ k_) ∧ (k_ ≠ gb163 ∧ (k_ ≠ gb164 ∧ (k_ ≠ gb165 ∧ k_ ≠ gb168))))) _ _ y173 a0_1 (wrap64 ((wrap64 ((ji32) + 1)) + (Int.tmod (wrap64 (a3)) (wrap64 ((l0_0.length : Int) - (ji32)))))) a1_0 a1_1 (fun k_ => (((P0_0_ k_ ∨ P1_2_ k_) ∨ w.heap.size ≤ k_) ∧ (some k_ ≠ (.slice (some ⟨go36, 0, none⟩) y169.length co57 : Value).ownBlock ∧ (k_ ≠ gb163 ∧ (k_ ≠ gb164 ∧ (k_ ≠ gb165 ∧ k_ ≠ gb168)))))) _ _ l1_2 a1_3 t174 t177 _ ?side1 ?side2 A38.out).mono ?_); (case side1 => rw [show y173.length = y169.length from (Kd.N_reads' HO171.out).1.symm]; exact Kd.N_V (HO171.out)); (case side2 => exact HO_165002.out); rintro e w67 ⟨v175, rfl, ho0, hb⟩; refine ⟨_, rfl, ?_⟩; have n0_ := Aside0.mk (Kd.V_elder' (by (with_reducible repeat (first | apply Kd.V_alloc | apply Kd.V_drewN | apply Kd.V_drew)); exact HO_164000.out) (Kd.N_base ho0) hb); have n1_ := Aside0.mk (Kd.V_elder' (by (with_reducible repeat (first | apply Kd.V_alloc | apply Kd.V_drewN | apply Kd.V_drew)); exact HO_165002.out) (Kd.N_base ho0) hb); have n2_ := Aside0.mk (Kd.N_elder' (by (with_reducible repeat (first | apply Kd.N_alloc | apply Kd.N_drewN | apply Kd.N_drew)); exact HO171.out) (Kd.N_base ho0) hb); have n3_ := Aside0.mk (Kd.V_elder' (by (with_reducible repeat (first | apply Kd.V_alloc | apply Kd.V_drewN | apply Kd.V_drew)); exact HL172_2.out) (Kd.N_base ho0) hb); have n4_ := Aside0.mk (Kd.N_lower (Kd.N_mono (ok' := fun k_ => ((P0_0_ k_ ∨ P1_2_ k_) ∨ w.heap.size ≤ k_) ∧ k_ ≠ gb163 ∧ k_ ≠ gb164 ∧ k_ ≠ gb165 ∧ k_ ≠ gb168) ho0 (fun k_ hk_ => ⟨Or.elim hk_ (fun hs_ => Or.elim hs_ (fun hs_ => hs_.1) (fun hs_ => hs_.1)) (fun hn_ => (.inr (Nat.le_trans (below_size (by repeat (first | (with_reducible first | exact HB.out | apply below_alloc | apply pw_below_drewN | apply below_drew1 | refine below_set ?_ GE163.out | refine below_set ?_ GE164.out | refine below_set ?_ GE165.out | refine below_set ?_ GE168.out) | exact HB.out))) hn_))), Or.elim hk_ (fun hs_ => Or.elim hs_ (fun hs_ => hs_.2.1) (fun hs_ => hs_.2.2.1)) (fun hn_ => (Kd.freshB (g := gb163) (o := .cells #[.slice (some ad172) l0_0.length c0_0, .int .u32 a0_1] 25 (0, 0)) (by (with_reducible repeat (first | refine blk_drewN ?_ _ | refine blk_drew ?_ | refine blk_alloc ?_ _)); exact BK163.out) k_ hn_)), Or.elim hk_ (fun hs_ => Or.elim hs_ (fun hs_ => hs_.2.2.1) (fun hs_ => hs_.2.2.2.1)) (fun hn_ => (Kd.freshB (g := gb164) (o := .cells #[.int .u32 a1_0, .int .u32 a1_1, .slice A1_2 l1_2.length c1_2, .int .u32 a1_3] 40 (0, 0)) (by (with_reducible repeat (first | refine blk_drewN ?_ _ | refine blk_drew ?_ | refine blk_alloc ?_ _)); exact BK164.out) k_ hn_)), Or.elim hk_ (fun hs_ => Or.elim hs_ (fun hs_ => hs_.2.2.2.1) (fun hs_ => hs_.2.2.2.2.1)) (fun hn_ => (Kd.freshB (g := gb165) (o := .cells #[.int .u32 a2_0, .int .u32 a2_1, .int .u64 a2_2, .int .u64 a2_3, .int .u64 a2_4, .int .u64 a2_5, .int .u64 a2_6, .int .u64 a2_7, .int .u64 a2_8] 44 (0, 0)) (by (with_reducible repeat (first | refine blk_drewN ?_ _ | refine blk_drew ?_ | refine blk_alloc ?_ _)); exact BK165.out) k_ hn_)), Or.elim hk_ (fun hs_ => Or.elim hs_ (fun hs_ => hs_.2.2.2.2) (fun hs_ => hs_.2.2.2.2.2)) (fun hn_ => (Kd.freshB (g := gb168) (o := .cells #[.slice (some ⟨go36, 0, none⟩) y169.length co57, .int .u32 a0_1] 25 (0, 0)) (by (with_reducible repeat (first | refine blk_drewN ?_ _ | refine blk_drew ?_ | refine blk_alloc ?_ _)); exact BK168.out) k_ hn_))⟩)) (below_size (by repeat (first | (with_reducible first | exact HB.out | apply below_alloc | apply pw_below_drewN | apply below_drew1 | refine below_set ?_ GE163.out | refine below_set ?_ GE164.out | refine below_set ?_ GE165.out | refine below_set ?_ GE168.out) | exact HB.out)))); have n5_ := Aside0.mk (blk_below (g := gb163) (o := .cells #[.slice (some ad172) l0_0.length c0_0, .int .u32 a0_1] 25 (0, 0)) (by (with_reducible repeat (first | refine blk_drewN ?_ _ | refine blk_drew ?_ | refine blk_alloc ?_ _)); exact BK163.out) hb); have n6_ := Aside0.mk (blk_below (g := gb164) (o := .cells #[.int .u32 a1_0, .int .u32 a1_1, .slice A1_2 l1_2.length c1_2, .int .u32 a1_3] 40 (0, 0)) (by (with_reducible repeat (first | refine blk_drewN ?_ _ | refine blk_drew ?_ | refine blk_alloc ?_ _)); exact BK164.out) hb); have n7_ := Aside0.mk (blk_below (g := gb165) (o := .cells #[.int .u32 a2_0, .int .u32 a2_1, .int .u64 a2_2, .int .u64 a2_3, .int .u64 a2_4, .int .u64 a2_5, .int .u64 a2_6, .int .u64 a2_7, .int .u64 a2_8] 44 (0, 0)) (by (with_reducible repeat (first | refine blk_drewN ?_ _ | refine blk_drew ?_ | refine blk_alloc ?_ _)); exact BK165.out) hb); have n8_ := Aside0.mk (blk_below (g := gb168) (o := .cells #[.slice (some ⟨go36, 0, none⟩) y169.length co57, .int .u32 a0_1] 25 (0, 0)) (by (with_reducible repeat (first | refine blk_drewN ?_ _ | refine blk_drew ?_ | refine blk_alloc ?_ _)); exact BK168.out) hb); have n9_ := Aside0.mk (below_step (by repeat (first | (with_reducible first | exact HB.out | apply below_alloc | apply pw_below_drewN | apply below_drew1 | refine below_set ?_ GE163.out | refine below_set ?_ GE164.out | refine below_set ?_ GE165.out | refine below_set ?_ GE168.out) | exact HB.out)) hb); clear HO_164000; clear HO_165002; clear HO171; clear HL172_2; clear BK163; clear BK164; clear BK165; clear BK168; clear HB; have HO_164000 := n0_; have HO_165002 := n1_; have HO171 := n2_; have HL172_2 := n3_; have HO176 := n4_; have BK163 := n5_; have BK164 := n6_; have BK165 := n7_; have BK168 := n8_; have HB := n9_; clear n0_ n1_ n2_ n3_ n4_ n5_ n6_ n7_ n8_ n9_; (try clear hb); (try clear hb2); (try clear hk); (try clear hi); (try clear ho0)) | ((with_reducible refine gate_dst (N := 14) rfl ?_); (try (refine gate_guard (by rfl) ?_; dsimp only)); refine box_event ?hg (N := 14) ?hd (cs := #[.slice none 0 0, .int .u32 0]) (t := 25) ?hr ?_; (case hd => rfl); (case hg => rfl); (case hr => first | (go_simp; done) | (go_simp; rfl)); intro gb178 hg w68 hbox hb; have n0_ := Aside0.mk (Kd.V_below (Kd.V_elderB (by (with_reducible repeat (first | apply Kd.V_alloc | apply Kd.V_drewN | apply Kd.V_drew)); exact HO_164000.out) gb178 (Nat.le_of_eq hg.symm)) hb); have n1_ := Aside0.mk (Kd.V_below (Kd.V_elderB (by (with_reducible repeat (first | apply Kd.V_alloc | apply Kd.V_drewN | apply Kd.V_drew)); exact HO_165002.out) gb178 (Nat.le_of_eq hg.symm)) hb); have n2_ := Aside0.mk (Kd.N_below (Kd.N_elderB (by (with_reducible repeat (first | apply Kd.N_alloc | apply Kd.N_drewN | apply Kd.N_drew)); exact HO171.out) gb178 (Nat.le_of_eq hg.symm)) hb); have n3_ := Aside0.mk (Kd.V_below (Kd.V_elderB (by (with_reducible repeat (first | apply Kd.V_alloc | apply Kd.V_drewN | apply Kd.V_drew)); exact HL172_2.out) gb178 (Nat.le_of_eq hg.symm)) hb); have n4_ := Aside0.mk (Kd.N_below (Kd.N_elderB (by (with_reducible repeat (first | apply Kd.N_alloc | apply Kd.N_drewN | apply Kd.N_drew)); exact HO176.out) gb178 (Nat.le_of_eq hg.symm)) hb); have n5_ := Aside0.mk (blk_below (g := gb163) (o := .cells #[.slice (some ad172) l0_0.length c0_0, .int .u32 a0_1] 25 (0, 0)) (by (with_reducible repeat (first | refine blk_drewN ?_ _ | refine blk_drew ?_ | refine blk_alloc ?_ _)); exact BK163.out) hb); have n6_ := Aside0.mk (blk_below (g := gb164) (o := .cells #[.int .u32 a1_0, .int .u32 a1_1, .slice A1_2 l1_2.length c1_2, .int .u32 a1_3] 40 (0, 0)) (by (with_reducible repeat (first | refine blk_drewN ?_ _ | refine blk_drew ?_ | refine blk_alloc ?_ _)); exact BK164.out) hb); have n7_ := Aside0.mk (blk_below (g := gb165) (o := .cells #[.int .u32 a2_0, .int .u32 a2_1, .int .u64 a2_2, .int .u64 a2_3, .int .u64 a2_4, .int .u64 a2_5, .int .u64 a2_6, .int .u64 a2_7, .int .u64 a2_8] 44 (0, 0)) (by (with_reducible repeat (first | refine blk_drewN ?_ _ | refine blk_drew ?_ | refine blk_alloc ?_ _)); exact BK165.out) hb); have n8_ := Aside0.mk (blk_below (g := gb168) (o := .cells #[.slice (some ⟨go36, 0, none⟩) y169.length co57, .int .u32 a0_1] 25 (0, 0)) (by (with_reducible repeat (first | refine blk_drewN ?_ _ | refine blk_drew ?_ | refine blk_alloc ?_ _)); exact BK168.out) hb); have n9_ := Aside0.mk (below_step (by repeat (first | (with_reducible first | exact HB.out | apply below_alloc | apply pw_below_drewN | apply below_drew1 | refine below_set ?_ GE163.out | refine below_set ?_ GE164.out | refine below_set ?_ GE165.out | refine below_set ?_ GE168.out) | exact HB.out)) hb); have n10_ := Aside0.mk (hbox); have n11_ := Aside0.mk ((by rw [hg]; exact (below_size (by repeat (first | (with_reducible first | exact HB.out | apply below_alloc | apply pw_below_drewN | apply below_drew1 | refine below_set ?_ GE163.out | refine below_set ?_ GE164.out | refine below_set ?_ GE165.out | refine below_set ?_ GE168.out) | exact HB.out))) : w.heap.size ≤ gb178)); have n12_ := Aside0.mk ((by rw [hg]; exact (below_size (by repeat (first | (with_reducible first | exact HB.out | apply below_alloc | apply pw_below_drewN | apply below_drew1 | refine below_set ?_ GE163.out | refine below_set ?_ GE164.out | refine below_set ?_ GE165.out | refine below_set ?_ GE168.out) | exact HB.out))) : w.heap.size ≤ gb178)); have n13_ := Aside0.mk ((by rw [hg]; exact Nat.ne_of_lt (blk_lt (g := gb163) (o := .cells #[.slice (some ad172) l0_0.length c0_0, .int .u32 a0_1] 25 (0, 0)) (by (with_reducible repeat (first | refine blk_drewN ?_ _ | refine blk_drew ?_ | refine blk_alloc ?_ _)); exact BK163.out)) : gb163 ≠ gb178)); have n14_ := Aside0.mk ((by rw [hg]; exact Nat.ne_of_gt (blk_lt (g := gb163) (o := .cells #[.slice (some ad172) l0_0.length c0_0, .int .u32 a0_1] 25 (0, 0)) (by (with_reducible repeat (first | refine blk_drewN ?_ _ | refine blk_drew ?_ | refine blk_alloc ?_ _)); exact BK163.out)) : gb178 ≠ gb163)); have n15_ := Aside0.mk ((by rw [hg]; exact Nat.ne_of_lt (blk_lt (g := gb164) (o := .cells #[.int .u32 a1_0, .int .u32 a1_1, .slice A1_2 l1_2.length c1_2, .int .u32 a1_3] 40 (0, 0)) (by (with_reducible repeat (first | refine blk_drewN ?_ _ | refine blk_drew ?_ | refine blk_alloc ?_ _)); exact BK164.out)) : gb164 ≠ gb178)); have n16_ := Aside0.mk ((by rw [hg]; exact Nat.ne_of_gt (blk_lt (g := gb164) (o := .cells #[.int .u32 a1_0, .int .u32 a1_1, .slice A1_2 l1_2.length c1_2, .int .u32 a1_3] 40 (0, 0)) (by (with_reducible repeat (first | refine blk_drewN ?_ _ | refine blk_drew ?_ | refine blk_alloc ?_ _)); exact BK164.out)) : gb178 ≠ gb164)); have n17_ := Aside0.mk ((by rw [hg]; exact Nat.ne_of_lt (blk_lt (g := gb165) (o := .cells #[.int .u32 a2_0, .int .u32 a2_1, .int .u64 a2_2, .int .u64 a2_3, .int .u64 a2_4, .int .u64 a2_5, .int .u64 a2_6, .int .u64 a2_7, .int .u64 a2_8] 44 (0, 0)) (by (with_reducible repeat (first | refine blk_drewN ?_ _ | refine blk_drew ?_ | refine blk_alloc ?_ _)); exact BK165.out)) : gb165 ≠ gb178)); have n18_ := Aside0.mk ((by rw [hg]; exact Nat.ne_of_gt (blk_lt (g := gb165) (o := .cells #[.int .u32 a2_0, .int .u32 a2_1, .int .u64 a2_2, .int .u64 a2_3, .int .u64 a2_4, .int .u64 a2_5, .int .u64 a2_6, .int .u64 a2_7, .int .u64 a2_8] 44 (0, 0)) (by (with_reducible repeat (first | refine blk_drewN ?_ _ | refine blk_drew ?_ | refine blk_alloc ?_ _)); exact BK165.out)) : gb178 ≠ gb165)); have n19_ := Aside0.mk ((by rw [hg]; exact Nat.ne_of_lt (blk_lt (g := gb168) (o := .cells #[.slice (some ⟨go36, 0, none⟩) y169.length co57, .int .u32 a0_1] 25 (0, 0)) (by (with_reducible repeat (first | refine blk_drewN ?_ _ | refine blk_drew ?_ | refine blk_alloc ?_ _)); exact BK168.out)) : gb168 ≠ gb178)); have n20_ := Aside0.mk ((by rw [hg]; exact Nat.ne_of_gt (blk_lt (g := gb168) (o := .cells #[.slice (some ⟨go36, 0, none⟩) y169.length co57, .int .u32 a0_1] 25 (0, 0)) (by (with_reducible repeat (first | refine blk_drewN ?_ _ | refine blk_drew ?_ | refine blk_alloc ?_ _)); exact BK168.out)) : gb178 ≠ gb168)); clear HO_164000; clear HO_165002; clear HO171; clear HL172_2; clear HO176; clear BK163; clear BK164; clear BK165; clear BK168; clear HB; have HO_164000 := n0_; have HO_165002 := n1_; have HO171 := n2_; have HL172_2 := n3_; have HO176 := n4_; have BK163 := n5_; have BK164 := n6_; have BK165 := n7_; have BK168 := n8_; have HB := n9_; have BK178 := n10_; have GW178 := n11_; have GE178 := n12_; have NB163_178 := n13_; have NB178_163 := n14_; have NB164_178 := n15_; have NB178_164 := n16_; have NB165_178 := n17_; have NB178_165 := n18_; have NB168_178 := n19_; have NB178_168 := n20_; clear n0_ n1_ n2_ n3_ n4_ n5_ n6_ n7_ n8_ n9_ n10_ n11_ n12_ n13_ n14_ n15_ n16_ n17_ n18_ n19_ n20_; clear hb hbox hg; obtain ⟨Ao69, co69, eo69⟩ := Kd.N_slice HO176.out; subst eo69; have hnb70 := NB178_163.out; have hnc70 := NB163_178.out; have hnb71 := NB178_164.out; have hnc71 := NB164_178.out; have hnb72 := NB178_165.out; have hnc72 := NB165_178.out; have hnb73 := NB178_168.out; have hnc73 := NB168_178.out; have hcz74_0 : w68.cell? ⟨gb178, 0, none⟩ = some (.slice none 0 0) := (blk_cell BK178.out 0).trans rfl; have hcz74_1 : w68.cell? ⟨gb178, 1, none⟩ = some (.int .u32 0) := (blk_cell BK178.out 1).trans rfl; have hfz74_0 := blk_frozen BK178.out 0; have hfz74_1 := blk_frozen BK178.out 1) | ((with_reducible refine gate_callee (f := 17) rfl ?_); refine goesL_ (some 81) rfl rfl Try.func17 (by kernel_rfl) rfl #[.agg #[.slice Ao69 t174.length co69, .int .u32 t177]] rfl (by (try simp only [List.map_toArray, List.map_cons, List.map_nil]); first | done | rfl | (simp only [List.length_drop, List.length_take]; rfl)) ?_; (with_reducible refine (hurdleref10_Right.calls _ _ t174 t177 true _ ?side1 ?side2 A39.out).mono ?_); (case side1 => refine (Kd.N_reads' (e := 40) (base := w.heap.size) (ok := fun k_ => ((((P0_0_ k_ ∨ P1_2_ k_) ∨ w.heap.size ≤ k_) ∧ (k_ ≠ gb163 ∧ (k_ ≠ gb164 ∧ (k_ ≠ gb165 ∧ k_ ≠ gb168)))) ∧ k_ ≠ gb178)) (n := t174.length) (c := co69) ?_).2.2; exact (by (with_reducible repeat (first | apply Kd.N_alloc | apply Kd.N_drewN | apply Kd.N_drew)); exact (Kd.N_mono (Kd.N_far (p := ⟨gb178, 1, none⟩) (Kd.N_far (p := ⟨gb178, 0, none⟩) (Kd.N_mono HO176.out (fun k_ hk => (⟨hk, hk.2⟩ : _ ∧ k_ ≠ gb178))) (fun _ hk => hk.2) (.slice Ao69 t174.length co69)) (fun _ hk => hk.2) (.int .u32 t177)) (fun _ h_ => h_.1)))); (case side2 => exact (Kd.N_reads' HO176.out).2.1); rintro e w75 ⟨rfl, hb⟩; refine ⟨_, rfl, ?_⟩; have n0_ := Aside0.mk (Kd.V_below (by (with_reducible repeat (first | apply Kd.V_alloc | apply Kd.V_drewN | apply Kd.V_drew)); exact (Kd.V_mono (Kd.V_far (p := ⟨gb178, 1, none⟩) (Kd.V_far (p := ⟨gb178, 0, none⟩) (Kd.V_mono HO_164000.out (fun k_ hk => (⟨hk, hk.2⟩ : _ ∧ k_ ≠ gb178))) (fun _ hk => hk.2) (.slice Ao69 t174.length co69)) (fun _ hk => hk.2) (.int .u32 t177)) (fun _ h_ => h_.1))) hb); have n1_ := Aside0.mk (Kd.V_below (by (with_reducible repeat (first | apply Kd.V_alloc | apply Kd.V_drewN | apply Kd.V_drew)); exact (Kd.V_mono (Kd.V_far (p := ⟨gb178, 1, none⟩) (Kd.V_far (p := ⟨gb178, 0, none⟩) (Kd.V_mono HO_165002.out (fun k_ hk => (⟨hk, hk.2⟩ : _ ∧ k_ ≠ gb178))) (fun _ hk => hk.2) (.slice Ao69 t174.length co69)) (fun _ hk => hk.2) (.int .u32 t177)) (fun _ h_ => h_.1))) hb); have n2_ := Aside0.mk (Kd.N_below (by (with_reducible repeat (first | apply Kd.N_alloc | apply Kd.N_drewN | apply Kd.N_drew)); exact (Kd.N_mono (Kd.N_far (p := ⟨gb178, 1, none⟩) (Kd.N_far (p := ⟨gb178, 0, none⟩) (Kd.N_mono HO171.out (fun k_ hk => (⟨hk, hk.2⟩ : _ ∧ k_ ≠ gb178))) (fun _ hk => hk.2) (.slice Ao69 t174.length co69)) (fun _ hk => hk.2) (.int .u32 t177)) (fun _ h_ => h_.1))) hb); have n3_ := Aside0.mk (Kd.V_below (by (with_reducible repeat (first | apply Kd.V_alloc | apply Kd.V_drewN | apply Kd.V_drew)); exact (Kd.V_mono (Kd.V_far (p := ⟨gb178, 1, none⟩) (Kd.V_far (p := ⟨gb178, 0, none⟩) (Kd.V_mono HL172_2.out (fun k_ hk => (⟨hk, hk.2⟩ : _ ∧ k_ ≠ gb178))) (fun _ hk => hk.2) (.slice Ao69 t174.length co69)) (fun _ hk => hk.2) (.int .u32 t177)) (fun _ h_ => h_.1))) hb); have n4_ := Aside0.mk (Kd.N_below (by (with_reducible repeat (first | apply Kd.N_alloc | apply Kd.N_drewN | apply Kd.N_drew)); exact (Kd.N_mono (Kd.N_far (p := ⟨gb178, 1, none⟩) (Kd.N_far (p := ⟨gb178, 0, none⟩) (Kd.N_mono HO176.out (fun k_ hk => (⟨hk, hk.2⟩ : _ ∧ k_ ≠ gb178))) (fun _ hk => hk.2) (.slice Ao69 t174.length co69)) (fun _ hk => hk.2) (.int .u32 t177)) (fun _ h_ => h_.1))) hb); have n5_ := Aside0.mk (blk_below (g := gb163) (o := .cells #[.slice (some ad172) l0_0.length c0_0, .int .u32 a0_1] 25 (0, 0)) (by (with_reducible repeat (first | refine blk_drewN ?_ _ | refine blk_drew ?_ | refine blk_alloc ?_ _)); refine blk_far ?_ NB163_178.out _; (with_reducible repeat (first | refine blk_drewN ?_ _ | refine blk_drew ?_ | refine blk_alloc ?_ _)); refine blk_far ?_ NB163_178.out _; (with_reducible repeat (first | refine blk_drewN ?_ _ | refine blk_drew ?_ | refine blk_alloc ?_ _)); exact BK163.out) hb); have n6_ := Aside0.mk (blk_below (g := gb164) (o := .cells #[.int .u32 a1_0, .int .u32 a1_1, .slice A1_2 l1_2.length c1_2, .int .u32 a1_3] 40 (0, 0)) (by (with_reducible repeat (first | refine blk_drewN ?_ _ | refine blk_drew ?_ | refine blk_alloc ?_ _)); refine blk_far ?_ NB164_178.out _; (with_reducible repeat (first | refine blk_drewN ?_ _ | refine blk_drew ?_ | refine blk_alloc ?_ _)); refine blk_far ?_ NB164_178.out _; (with_reducible repeat (first | refine blk_drewN ?_ _ | refine blk_drew ?_ | refine blk_alloc ?_ _)); exact BK164.out) hb); have n7_ := Aside0.mk (blk_below (g := gb165) (o := .cells #[.int .u32 a2_0, .int .u32 a2_1, .int .u64 a2_2, .int .u64 a2_3, .int .u64 a2_4, .int .u64 a2_5, .int .u64 a2_6, .int .u64 a2_7, .int .u64 a2_8] 44 (0, 0)) (by (with_reducible repeat (first | refine blk_drewN ?_ _ | refine blk_drew ?_ | refine blk_alloc ?_ _)); refine blk_far ?_ NB165_178.out _; (with_reducible repeat (first | refine blk_drewN ?_ _ | refine blk_drew ?_ | refine blk_alloc ?_ _)); refine blk_far ?_ NB165_178.out _; (with_reducible repeat (first | refine blk_drewN ?_ _ | refine blk_drew ?_ | refine blk_alloc ?_ _)); exact BK165.out) hb); have n8_ := Aside0.mk (blk_below (g := gb168) (o := .cells #[.slice (some ⟨go36, 0, none⟩) y169.length co57, .int .u32 a0_1] 25 (0, 0)) (by (with_reducible repeat (first | refine blk_drewN ?_ _ | refine blk_drew ?_ | refine blk_alloc ?_ _)); refine blk_far ?_ NB168_178.out _; (with_reducible repeat (first | refine blk_drewN ?_ _ | refine blk_drew ?_ | refine blk_alloc ?_ _)); refine blk_far ?_ NB168_178.out _; (with_reducible repeat (first | refine blk_drewN ?_ _ | refine blk_drew ?_ | refine blk_alloc ?_ _)); exact BK168.out) hb); have n9_ := Aside0.mk (blk_below (g := gb178) (o := .cells #[.slice Ao69 t174.length co69, .int .u32 t177] 25 (0, 0)) (by (with_reducible repeat (first | refine blk_drewN ?_ _ | refine blk_drew ?_ | refine blk_alloc ?_ _)); refine blk_put (cs := #[.slice Ao69 t174.length co69, .int .u32 0]) ?_ 1 _ rfl; (with_reducible repeat (first | refine blk_drewN ?_ _ | refine blk_drew ?_ | refine blk_alloc ?_ _)); refine blk_put (cs := #[.slice none 0 0, .int .u32 0]) ?_ 0 _ rfl; (with_reducible repeat (first | refine blk_drewN ?_ _ | refine blk_drew ?_ | refine blk_alloc ?_ _)); exact BK178.out) hb); have n10_ := Aside0.mk (below_step (by repeat (first | (with_reducible first | exact HB.out | apply below_alloc | apply pw_below_drewN | apply below_drew1 | refine below_set ?_ GE163.out | refine below_set ?_ GE164.out | refine below_set ?_ GE165.out | refine below_set ?_ GE168.out | refine below_set ?_ GE178.out) | exact HB.out)) hb); clear HO_164000; clear HO_165002; clear HO171; clear HL172_2; clear HO176; clear BK163; clear BK164; clear BK165; clear BK168; clear BK178; clear HB; have HO_164000 := n0_; have HO_165002 := n1_; have HO171 := n2_; have HL172_2 := n3_; have HO176 := n4_; have BK163 := n5_; have BK164 := n6_; have BK165 := n7_; have BK168 := n8_; have BK178 := n9_; have HB := n10_; clear n0_ n1_ n2_ n3_ n4_ n5_ n6_ n7_ n8_ n9_ n10_; (try clear hb); (try clear hb2); (try clear hk); (try clear hi); have hcz76_0 : w75.cell? ⟨gb168, 0, none⟩ = some (.slice (some ⟨go36, 0, none⟩) y169.length co57) := (blk_cell BK168.out 0).trans rfl; have hcz76_1 : w75.cell? ⟨gb168, 1, none⟩ = some (.int .u32 a0_1) := (blk_cell BK168.out 1).trans rfl; have hfz76_0 := blk_frozen BK168.out 0; have hfz76_1 := blk_frozen BK168.out 1; have hcz77_0 : w75.cell? ⟨gb165, 0, none⟩ = some (.int .u32 a2_0) := (blk_cell BK165.out 0).trans rfl; have hcz77_1 : w75.cell? ⟨gb165, 1, none⟩ = some (.int .u32 a2_1) := (blk_cell BK165.out 1).trans rfl; have hcz77_2 : w75.cell? ⟨gb165, 2, none⟩ = some (.int .u64 a2_2) := (blk_cell BK165.out 2).trans rfl; have hcz77_3 : w75.cell? ⟨gb165, 3, none⟩ = some (.int .u64 a2_3) := (blk_cell BK165.out 3).trans rfl; have hcz77_4 : w75.cell? ⟨gb165, 4, none⟩ = some (.int .u64 a2_4) := (blk_cell BK165.out 4).trans rfl; have hcz77_5 : w75.cell? ⟨gb165, 5, none⟩ = some (.int .u64 a2_5) := (blk_cell BK165.out 5).trans rfl; have hcz77_6 : w75.cell? ⟨gb165, 6, none⟩ = some (.int .u64 a2_6) := (blk_cell BK165.out 6).trans rfl; have hcz77_7 : w75.cell? ⟨gb165, 7, none⟩ = some (.int .u64 a2_7) := (blk_cell BK165.out 7).trans rfl; have hcz77_8 : w75.cell? ⟨gb165, 8, none⟩ = some (.int .u64 a2_8) := (blk_cell BK165.out 8).trans rfl; have hfz77_0 := blk_frozen BK165.out 0; have hfz77_1 := blk_frozen BK165.out 1; have hfz77_2 := blk_frozen BK165.out 2; have hfz77_3 := blk_frozen BK165.out 3; have hfz77_4 := blk_frozen BK165.out 4; have hfz77_5 := blk_frozen BK165.out 5; have hfz77_6 := blk_frozen BK165.out 6; have hfz77_7 := blk_frozen BK165.out 7; have hfz77_8 := blk_frozen BK165.out 8) | ((with_reducible refine gate_callee (f := 25) rfl ?_); refine goesL_ (some 87) rfl rfl Try.func25 (by kernel_rfl) rfl #[.agg #[.slice (some ⟨go36, 0, none⟩) y173.length co57, .int .u32 a0_1], .agg #[.int .u32 a2_0, .int .u32 a2_1, .int .u64 a2_2, .int .u64 a2_3, .int .u64 a2_4, .int .u64 a2_5, .int .u64 a2_6, .int .u64 a2_7, .int .u64 a2_8]] rfl (by (try simp only [List.map_toArray, List.map_cons, List.map_nil]); first | done | (rw [show y173.length = y169.length from (Kd.N_reads' HO171.out).1.symm] <;> rfl) | rfl | (simp only [List.length_drop, List.length_take]; rfl)) ?_; (with_reducible refine (denote_Judge.calls _ _ y173 a0_1 a2_0 a2_1 a2_2 a2_3 a2_4 a2_5 a2_6 a2_7 a2_8 t180 t181 _ ?side1 ?side2 A41.out).mono ?_); (case side1 => repeat (first | exact (Kd.N_reads' HO171.out).2.2 | (with_reducible refine Kd.C_alloc ?_ _) | (with_reducible refine Kd.C_drewN ?_ _) | (with_reducible refine Kd.C_drew ?_))); (case side2 => rw [show y173.length = y169.length from (Kd.N_reads' HO171.out).1.symm]; exact (Kd.N_reads' HO171.out).2.1); rintro e w78 ⟨rfl, hb⟩; refine ⟨_, rfl, ?_⟩; have n0_ := Aside0.mk (Kd.V_below (by (with_reducible repeat (first | apply Kd.V_alloc | apply Kd.V_drewN | apply Kd.V_drew)); exact HO_164000.out) hb); have n1_ := Aside0.mk (Kd.V_below (by (with_reducible repeat (first | apply Kd.V_alloc | apply Kd.V_drewN | apply Kd.V_drew)); exact HO_165002.out) hb); have n2_ := Aside0.mk (Kd.N_below (by (with_reducible repeat (first | apply Kd.N_alloc | apply Kd.N_drewN | apply Kd.N_drew)); exact HO171.out) hb); have n3_ := Aside0.mk (Kd.V_below (by (with_reducible repeat (first | apply Kd.V_alloc | apply Kd.V_drewN | apply Kd.V_drew)); exact HL172_2.out) hb); have n4_ := Aside0.mk (Kd.N_below (by (with_reducible repeat (first | apply Kd.N_alloc | apply Kd.N_drewN | apply Kd.N_drew)); exact HO176.out) hb); have n5_ := Aside0.mk (blk_below (g := gb163) (o := .cells #[.slice (some ad172) l0_0.length c0_0, .int .u32 a0_1] 25 (0, 0)) (by (with_reducible repeat (first | refine blk_drewN ?_ _ | refine blk_drew ?_ | refine blk_alloc ?_ _)); exact BK163.out) hb); have n6_ := Aside0.mk (blk_below (g := gb164) (o := .cells #[.int .u32 a1_0, .int .u32 a1_1, .slice A1_2 l1_2.length c1_2, .int .u32 a1_3] 40 (0, 0)) (by (with_reducible repeat (first | refine blk_drewN ?_ _ | refine blk_drew ?_ | refine blk_alloc ?_ _)); exact BK164.out) hb); have n7_ := Aside0.mk (blk_below (g := gb165) (o := .cells #[.int .u32 a2_0, .int .u32 a2_1, .int .u64 a2_2, .int .u64 a2_3, .int .u64 a2_4, .int .u64 a2_5, .int .u64 a2_6, .int .u64 a2_7, .int .u64 a2_8] 44 (0, 0)) (by (with_reducible repeat (first | refine blk_drewN ?_ _ | refine blk_drew ?_ | refine blk_alloc ?_ _)); exact BK165.out) hb); have n8_ := Aside0.mk (blk_below (g := gb168) (o := .cells #[.slice (some ⟨go36, 0, none⟩) y169.length co57, .int .u32 a0_1] 25 (0, 0)) (by (with_reducible repeat (first | refine blk_drewN ?_ _ | refine blk_drew ?_ | refine blk_alloc ?_ _)); exact BK168.out) hb); have n9_ := Aside0.mk (blk_below (g := gb178) (o := .cells #[.slice Ao69 t174.length co69, .int .u32 t177] 25 (0, 0)) (by (with_reducible repeat (first | refine blk_drewN ?_ _ | refine blk_drew ?_ | refine blk_alloc ?_ _)); exact BK178.out) hb); have n10_ := Aside0.mk (below_step (by repeat (first | (with_reducible first | exact HB.out | apply below_alloc | apply pw_below_drewN | apply below_drew1 | refine below_set ?_ GE163.out | refine below_set ?_ GE164.out | refine below_set ?_ GE165.out | refine below_set ?_ GE168.out | refine below_set ?_ GE178.out) | exact HB.out)) hb); clear HO_164000; clear HO_165002; clear HO171; clear HL172_2; clear HO176; clear BK163; clear BK164; clear BK165; clear BK168; clear BK178; clear HB; have HO_164000 := n0_; have HO_165002 := n1_; have HO171 := n2_; have HL172_2 := n3_; have HO176 := n4_; have BK163 := n5_; have BK164 := n6_; have BK165 := n7_; have BK168 := n8_; have BK178 := n9_; have HB := n10_; clear n0_ n1_ n2_ n3_ n4_ n5_ n6_ n7_ n8_ n9_ n10_; (try clear hb); (try clear hb2); (try clear hk); (try clear hi); have hcz79_0 : w78.cell? ⟨gb178, 0, none⟩ = some (.slice Ao69 t174.length co69) := (blk_cell BK178.out 0).trans rfl; have hcz79_1 : w78.cell? ⟨gb178, 1, none⟩ = some (.int .u32 t177) := (blk_cell BK178.out 1).trans rfl; have hfz79_0 := blk_frozen BK178.out 0; have hfz79_1 := blk_frozen BK178.out 1; have hcz80_0 : w78.cell? ⟨gb165, 0, none⟩ = some (.int .u32 a2_0) := (blk_cell BK165.out 0).trans rfl; have hcz80_1 : w78.cell? ⟨gb165, 1, none⟩ = some (.int .u32 a2_1) := (blk_cell BK165.out 1).trans rfl; have hcz80_2 : w78.cell? ⟨gb165, 2, none⟩ = some (.int .u64 a2_2) := (blk_cell BK165.out 2).trans rfl; have hcz80_3 : w78.cell? ⟨gb165, 3, none⟩ = some (.int .u64 a2_3) := (blk_cell BK165.out 3).trans rfl; have hcz80_4 : w78.cell? ⟨gb165, 4, none⟩ = some (.int .u64 a2_4) := (blk_cell BK165.out 4).trans rfl; have hcz80_5 : w78.cell? ⟨gb165, 5, none⟩ = some (.int .u64 a2_5) := (blk_cell BK165.out 5).trans rfl; have hcz80_6 : w78.cell? ⟨gb165, 6, none⟩ = some (.int .u64 a2_6) := (blk_cell BK165.out 6).trans rfl; have hcz80_7 : w78.cell? ⟨gb165, 7, none⟩ = some (.int .u64 a2_7) := (blk_cell BK165.out 7).trans rfl; have hcz80_8 : w78.cell? ⟨gb165, 8, none⟩ = some (.int .u64 a2_8) := (blk_cell BK165.out 8).trans rfl; have hfz80_0 := blk_frozen BK165.out 0; have hfz80_1 := blk_frozen BK165.out 1; have hfz80_2 := blk_frozen BK165.out 2; have hfz80_3 := blk_frozen BK165.out 3; have hfz80_4 := blk_frozen BK165.out 4; have hfz80_5 := blk_frozen BK165.out 5; have hfz80_6 := blk_frozen BK165.out 6; have hfz80_7 := blk_frozen BK165.out 7; have hfz80_8 := blk_frozen BK165.out 8) | ((with_reducible refine gate_callee (f := 25) rfl ?_); refine goesL_ (some 93) rfl rfl Try.func25 (by kernel_rfl) rfl #[.agg #[.slice Ao69 t174.length co69, .int .u32 t177], .agg #[.int .u32 a2_0, .int .u32 a2_1, .int .u64 a2_2, .int .u64 a2_3, .int .u64 a2_4, .int .u64 a2_5, .int .u64 a2_6, .int .u64 a2_7, .int .u64 a2_8]] rfl (by (try simp only [List.map_toArray, List.map_cons, List.map_nil]); first | done | rfl | (simp only [List.length_drop, List.length_take]; rfl)) ?_; (with_reducible refine (denote_Judge.calls _ _ t174 t177 a2_0 a2_1 a2_2 a2_3 a2_4 a2_5 a2_6 a2_7 a2_8 t182 t183 _ ?side1 ?side2 A42.out).mono ?_); (case side1 => repeat (first | exact (Kd.N_reads' HO176.out).2.2 | (with_reducible refine Kd.C_alloc ?_ _) | (with_reducible refine Kd.C_drewN ?_ _) | (with_reducible refine Kd.C_drew ?_))); (case side2 => exact (Kd.N_reads' HO176.out).2.1); rintro e w81 ⟨rfl, hb⟩; refine ⟨_, rfl, ?_⟩; have n0_ := Aside0.mk (Kd.V_below (by (with_reducible repeat (first | apply Kd.V_alloc | apply Kd.V_drewN | apply Kd.V_drew)); exact HO_164000.out) hb); have n1_ := Aside0.mk (Kd.V_below (by (with_reducible repeat (first | apply Kd.V_alloc | apply Kd.V_drewN | apply Kd.V_drew)); exact HO_165002.out) hb); have n2_ := Aside0.mk (Kd.N_below (by (with_reducible repeat (first | apply Kd.N_alloc | apply Kd.N_drewN | apply Kd.N_drew)); exact HO171.out) hb); have n3_ := Aside0.mk (Kd.V_below (by (with_reducible repeat (first | apply Kd.V_alloc | apply Kd.V_drewN | apply Kd.V_drew)); exact HL172_2.out) hb); have n4_ := Aside0.mk (Kd.N_below (by (with_reducible repeat (first | apply Kd.N_alloc | apply Kd.N_drewN | apply Kd.N_drew)); exact HO176.out) hb); have n5_ := Aside0.mk (blk_below (g := gb163) (o := .cells #[.slice (some ad172) l0_0.length c0_0, .int .u32 a0_1] 25 (0, 0)) (by (with_reducible repeat (first | refine blk_drewN ?_ _ | refine blk_drew ?_ | refine blk_alloc ?_ _)); exact BK163.out) hb); have n6_ := Aside0.mk (blk_below (g := gb164) (o := .cells #[.int .u32 a1_0, .int .u32 a1_1, .slice A1_2 l1_2.length c1_2, .int .u32 a1_3] 40 (0, 0)) (by (with_reducible repeat (first | refine blk_drewN ?_ _ | refine blk_drew ?_ | refine blk_alloc ?_ _)); exact BK164.out) hb); have n7_ := Aside0.mk (blk_below (g := gb165) (o := .cells #[.int .u32 a2_0, .int .u32 a2_1, .int .u64 a2_2, .int .u64 a2_3, .int .u64 a2_4, .int .u64 a2_5, .int .u64 a2_6, .int .u64 a2_7, .int .u64 a2_8] 44 (0, 0)) (by (with_reducible repeat (first | refine blk_drewN ?_ _ | refine blk_drew ?_ | refine blk_alloc ?_ _)); exact BK165.out) hb); have n8_ := Aside0.mk (blk_below (g := gb168) (o := .cells #[.slice (some ⟨go36, 0, none⟩) y169.length co57, .int .u32 a0_1] 25 (0, 0)) (by (with_reducible repeat (first | refine blk_drewN ?_ _ | refine blk_drew ?_ | refine blk_alloc ?_ _)); exact BK168.out) hb); have n9_ := Aside0.mk (blk_below (g := gb178) (o := .cells #[.slice Ao69 t174.length co69, .int .u32 t177] 25 (0, 0)) (by (with_reducible repeat (first | refine blk_drewN ?_ _ | refine blk_drew ?_ | refine blk_alloc ?_ _)); exact BK178.out) hb); have n10_ := Aside0.mk (below_step (by repeat (first | (with_reducible first | exact HB.out | apply below_alloc | apply pw_below_drewN | apply below_drew1 | refine below_set ?_ GE163.out | refine below_set ?_ GE164.out | refine below_set ?_ GE165.out | refine below_set ?_ GE168.out | refine below_set ?_ GE178.out) | exact HB.out)) hb); clear HO_164000; clear HO_165002; clear HO171; clear HL172_2; clear HO176; clear BK163; clear BK164; clear BK165; clear BK168; clear BK178; clear HB; have HO_164000 := n0_; have HO_165002 := n1_; have HO171 := n2_; have HL172_2 := n3_; have HO176 := n4_; have BK163 := n5_; have BK164 := n6_; have BK165 := n7_; have BK168 := n8_; have BK178 := n9_; have HB := n10_; clear n0_ n1_ n2_ n3_ n4_ n5_ n6_ n7_ n8_ n9_ n10_; (try clear hb); (try clear hb2); (try clear hk); (try clear hi)) | (go_at_call 23; (with_reducible refine (hurdlelaw11_knows.calls  t184 _ A46.out).mono ?_); rintro e w82 ⟨rfl, hb⟩; have n0_ := Aside0.mk (Kd.V_below (by (with_reducible repeat (first | apply Kd.V_alloc | apply Kd.V_drewN | apply Kd.V_drew)); exact HO_164000.out) hb); have n1_ := Aside0.mk (Kd.V_below (by (with_reducible repeat (first | apply Kd.V_alloc | apply Kd.V_drewN | apply Kd.V_drew)); exact HO_165002.out) hb); have n2_ := Aside0.mk (Kd.N_below (by (with_reducible repeat (first | apply Kd.N_alloc | apply Kd.N_drewN | apply Kd.N_drew)); exact HO171.out) hb); have n3_ := Aside0.mk (Kd.V_below (by (with_reducible repeat (first | apply Kd.V_alloc | apply Kd.V_drewN | apply Kd.V_drew)); exact HL172_2.out) hb); have n4_ := Aside0.mk (Kd.N_below (by (with_reducible repeat (first | apply Kd.N_alloc | apply Kd.N_drewN | apply Kd.N_drew)); exact HO176.out) hb); have n5_ := Aside0.mk (blk_below (g := gb163) (o := .cells #[.slice (some ad172) l0_0.length c0_0, .int .u32 a0_1] 25 (0, 0)) (by (with_reducible repeat (first | refine blk_drewN ?_ _ | refine blk_drew ?_ | refine blk_alloc ?_ _)); exact BK163.out) hb); have n6_ := Aside0.mk (blk_below (g := gb164) (o := .cells #[.int .u32 a1_0, .int .u32 a1_1, .slice A1_2 l1_2.length c1_2, .int .u32 a1_3] 40 (0, 0)) (by (with_reducible repeat (first | refine blk_drewN ?_ _ | refine blk_drew ?_ | refine blk_alloc ?_ _)); exact BK164.out) hb); have n7_ := Aside0.mk (blk_below (g := gb165) (o := .cells #[.int .u32 a2_0, .int .u32 a2_1, .int .u64 a2_2, .int .u64 a2_3, .int .u64 a2_4, .int .u64 a2_5, .int .u64 a2_6, .int .u64 a2_7, .int .u64 a2_8] 44 (0, 0)) (by (with_reducible repeat (first | refine blk_drewN ?_ _ | refine blk_drew ?_ | refine blk_alloc ?_ _)); exact BK165.out) hb); have n8_ := Aside0.mk (blk_below (g := gb168) (o := .cells #[.slice (some ⟨go36, 0, none⟩) y169.length co57, .int .u32 a0_1] 25 (0, 0)) (by (with_reducible repeat (first | refine blk_drewN ?_ _ | refine blk_drew ?_ | refine blk_alloc ?_ _)); exact BK168.out) hb); have n9_ := Aside0.mk (blk_below (g := gb178) (o := .cells #[.slice Ao69 t174.length co69, .int .u32 t177] 25 (0, 0)) (by (with_reducible repeat (first | refine blk_drewN ?_ _ | refine blk_drew ?_ | refine blk_alloc ?_ _)); exact BK178.out) hb); have n10_ := Aside0.mk (below_step (by repeat (first | (with_reducible first | exact HB.out | apply below_alloc | apply pw_below_drewN | apply below_drew1 | refine below_set ?_ GE163.out | refine below_set ?_ GE164.out | refine below_set ?_ GE165.out | refine below_set ?_ GE168.out | refine below_set ?_ GE178.out) | exact HB.out)) hb); clear HO_164000; clear HO_165002; clear HO171; clear HL172_2; clear HO176; clear BK163; clear BK164; clear BK165; clear BK168; clear BK178; clear HB; have HO_164000 := n0_; have HO_165002 := n1_; have HO171 := n2_; have HL172_2 := n3_; have HO176 := n4_; have BK163 := n5_; have BK164 := n6_; have BK165 := n7_; have BK168 := n8_; have BK178 := n9_; have HB := n10_; clear n0_ n1_ n2_ n3_ n4_ n5_ n6_ n7_ n8_ n9_ n10_; (try clear hb); (try clear hb2); (try clear hk); (try clear hi)))
                            go_ret
                            exact ⟨by first | rfl | (simp [errW_none, errW_some] <;> rfl) | (simp only [← hji32]; first | rfl | (simp [errW_none, errW_some] <;> rfl)) | (simp [*, errW_none, errW_some] <;> rfl), by repeat (first | (with_reducible first | exact HB.out | apply below_alloc | apply pw_below_drewN | apply below_drew1 | refine below_set ?_ GE163.out | refine below_set ?_ GE164.out | refine below_set ?_ GE165.out | refine below_set ?_ GE168.out | refine below_set ?_ GE178.out) | exact HB.out)⟩
                          · rw [if_neg c45] at H
                            exact absurd ((Option.some.inj H).trans ht) Bool.false_ne_true
                        · rw [if_neg c44] at H
                          exact absurd ((Option.some.inj H).trans ht) Bool.false_ne_true
                      · rw [if_neg c43] at H
                        exact absurd ((Option.some.inj H).trans ht) Bool.false_ne_true
                    · replace c40 := Bool.eq_false_iff.mpr c40
                      subst c40
                      have H1 : ((hurdlelaw11_knows.f).bind fun t185 => (some t185)) = some r := by rw [if_neg (show ¬ (false = true) by decide)] at H; exact H
                      clear H
                      have H := H1
                      clear H1
                      replace H := Option.bind_eq_some_iff.mp H
                      obtain ⟨t185, A1880, H⟩ := H
                      replace H : (some t185) = some r := H
                      have A188 := Aside0.mk A1880
                      clear A1880
                      obtain rfl := Option.some.inj H
                      have hnb189 := NB163_164.out
                      have hnc189 := NB164_163.out
                      have hnb190 := NB163_165.out
                      have hnc190 := NB165_163.out
                      have hcz191_0 : wc.cell? ⟨gb163, 0, none⟩ = some (.slice A0_0 l0_0.length c0_0) := (blk_cell BK163.out 0).trans rfl
                      have hcz191_1 : wc.cell? ⟨gb163, 1, none⟩ = some (.int .u32 a0_1) := (blk_cell BK163.out 1).trans rfl
                      have hfz191_0 := blk_frozen BK163.out 0
                      have hfz191_1 := blk_frozen BK163.out 1
                      try go_wp2_with (first | ((with_reducible refine gate_dst (N := 12) rfl ?_); (try (refine gate_guard (by rfl) ?_; dsimp only)); refine box_event ?hg (N := 12) ?hd (cs := #[.slice none 0 0, .int .u32 0]) (t := 25) ?hr ?_; (case hd => rfl); (case hg => rfl); (case hr => first | (go_simp; done) | (go_simp; rfl)); intro gb168 hg w192 hbox hb; have n0_ := Aside0.mk (Kd.V_below (Kd.V_elderB (by (with_reducible repeat (first | apply Kd.V_alloc | apply Kd.V_drewN | apply Kd.V_drew)); exact HO_164000.out) gb168 (Nat.le_of_eq hg.symm)) hb); have n1_ := Aside0.mk (Kd.V_below (Kd.V_elderB (by (with_reducible repeat (first | apply Kd.V_alloc | apply Kd.V_drewN | apply Kd.V_drew)); exact HO_165002.out) gb168 (Nat.le_of_eq hg.symm)) hb); have n2_ := Aside0.mk (blk_below (g := gb163) (o := .cells #[.slice A0_0 l0_0.length c0_0, .int .u32 a0_1] 25 (0, 0)) (by (with_reducible repeat (first | refine blk_drewN ?_ _ | refine blk_drew ?_ | refine blk_alloc ?_ _)); exact BK163.out) hb); have n3_ := Aside0.mk (blk_below (g := gb164) (o := .cells #[.int .u32 a1_0, .int .u32 a1_1, .slice A1_2 l1_2.length c1_2, .int .u32 a1_3] 40 (0, 0)) (by (with_reducible repeat (first | refine blk_drewN ?_ _ | refine blk_drew ?_ | refine blk_alloc ?_ _)); exact BK164.out) hb); have n4_ := Aside0.mk (blk_below (g := gb165) (o := .cells #[.int .u32 a2_0, .int .u32 a2_1, .int .u64 a2_2, .int .u64 a2_3, .int .u64 a2_4, .int .u64 a2_5, .int .u64 a2_6, .int .u64 a2_7, .int .u64 a2_8] 44 (0, 0)) (by (with_reducible repeat (first | refine blk_drewN ?_ _ | refine blk_drew ?_ | refine blk_alloc ?_ _)); exact BK165.out) hb); have n5_ := Aside0.mk (below_step (by repeat (first | (with_reducible first | exact HB.out | apply below_alloc | apply pw_below_drewN | apply below_drew1 | refine below_set ?_ GE163.out | refine below_set ?_ GE164.out | refine below_set ?_ GE165.out) | exact HB.out)) hb); have n6_ := Aside0.mk (hbox); have n7_ := Aside0.mk ((by rw [hg]; exact (below_size (by repeat (first | (with_reducible first | exact HB.out | apply below_alloc | apply pw_below_drewN | apply below_drew1 | refine below_set ?_ GE163.out | refine below_set ?_ GE164.out | refine below_set ?_ GE165.out) | exact HB.out))) : w.heap.size ≤ gb168)); have n8_ := Aside0.mk ((by rw [hg]; exact (below_size (by repeat (first | (with_reducible first | exact HB.out | apply below_alloc | apply pw_below_drewN | apply below_drew1 | refine below_set ?_ GE163.out | refine below_set ?_ GE164.out | refine below_set ?_ GE165.out) | exact HB.out))) : w.heap.size ≤ gb168)); have n9_ := Aside0.mk ((by rw [hg]; exact Nat.ne_of_lt (blk_lt (g := gb163) (o := .cells #[.slice A0_0 l0_0.length c0_0, .int .u32 a0_1] 25 (0, 0)) (by (with_reducible repeat (first | refine blk_drewN ?_ _ | refine blk_drew ?_ | refine blk_alloc ?_ _)); exact BK163.out)) : gb163 ≠ gb168)); have n10_ := Aside0.mk ((by rw [hg]; exact Nat.ne_of_gt (blk_lt (g := gb163) (o := .cells #[.slice A0_0 l0_0.length c0_0, .int .u32 a0_1] 25 (0, 0)) (by (with_reducible repeat (first | refine blk_drewN ?_ _ | refine blk_drew ?_ | refine blk_alloc ?_ _)); exact BK163.out)) : gb168 ≠ gb163)); have n11_ := Aside0.mk ((by rw [hg]; exact Nat.ne_of_lt (blk_lt (g := gb164) (o := .cells #[.int .u32 a1_0, .int .u32 a1_1, .slice A1_2 l1_2.length c1_2, .int .u32 a1_3] 40 (0, 0)) (by (with_reducible repeat (first | refine blk_drewN ?_ _ | refine blk_drew ?_ | refine blk_alloc ?_ _)); exact BK164.out)) : gb164 ≠ gb168)); have n12_ := Aside0.mk ((by rw [hg]; exact Nat.ne_of_gt (blk_lt (g := gb164) (o := .cells #[.int .u32 a1_0, .int .u32 a1_1, .slice A1_2 l1_2.length c1_2, .int .u32 a1_3] 40 (0, 0)) (by (with_reducible repeat (first | refine blk_drewN ?_ _ | refine blk_drew ?_ | refine blk_alloc ?_ _)); exact BK164.out)) : gb168 ≠ gb164)); have n13_ := Aside0.mk ((by rw [hg]; exact Nat.ne_of_lt (blk_lt (g := gb165) (o := .cells #[.int .u32 a2_0, .int .u32 a2_1, .int .u64 a2_2, .int .u64 a2_3, .int .u64 a2_4, .int .u64 a2_5, .int .u64 a2_6, .int .u64 a2_7, .int .u64 a2_8] 44 (0, 0)) (by (with_reducible repeat (first | refine blk_drewN ?_ _ | refine blk_drew ?_ | refine blk_alloc ?_ _)); exact BK165.out)) : gb165 ≠ gb168)); have n14_ := Aside0.mk ((by rw [hg]; exact Nat.ne_of_gt (blk_lt (g := gb165) (o := .cells #[.int .u32 a2_0, .int .u32 a2_1, .int .u64 a2_2, .int .u64 a2_3, .int .u64 a2_4, .int .u64 a2_5, .int .u64 a2_6, .int .u64 a2_7, .int .u64 a2_8] 44 (0, 0)) (by (with_reducible repeat (first | refine blk_drewN ?_ _ | refine blk_drew ?_ | refine blk_alloc ?_ _)); exact BK165.out)) : gb168 ≠ gb165)); clear HO_164000; clear HO_165002; clear BK163; clear BK164; clear BK165; clear HB; have HO_164000 := n0_; have HO_165002 := n1_; have BK163 := n2_; have BK164 := n3_; have BK165 := n4_; have HB := n5_; have BK168 := n6_; have GW168 := n7_; have GE168 := n8_; have NB163_168 := n9_; have NB168_163 := n10_; have NB164_168 := n11_; have NB168_164 := n12_; have NB165_168 := n13_; have NB168_165 := n14_; clear n0_ n1_ n2_ n3_ n4_ n5_ n6_ n7_ n8_ n9_ n10_ n11_ n12_ n13_ n14_; clear hb hbox hg; have hnb193 := NB168_163.out; have hnc193 := NB163_168.out; have hnb194 := NB168_164.out; have hnc194 := NB164_168.out; have hnb195 := NB168_165.out; have hnc195 := NB165_168.out; have hcz196_0 : w192.cell? ⟨gb168, 0, none⟩ = some (.slice none 0 0) := (blk_cell BK168.out 0).trans rfl; have hcz196_1 : w192.cell? ⟨gb168, 1, none⟩ = some (.int .u32 0) := (blk_cell BK168.out 1).trans rfl; have hfz196_0 := blk_frozen BK168.out 0; have hfz196_1 := blk_frozen BK168.out 1; have hcz197_0 : w192.cell? ⟨gb163, 0, none⟩ = some (.slice A0_0 l0_0.length c0_0) := (blk_cell BK163.out 0).trans rfl; have hcz197_1 : w192.cell? ⟨gb163, 1, none⟩ = some (.int .u32 a0_1) := (blk_cell BK163.out 1).trans rfl; have hfz197_0 := blk_frozen BK163.out 0; have hfz197_1 := blk_frozen BK163.out 1) | ((with_reducible refine gate_builtin (b := .append) (xs := #[.tmp 45, .tmp 47]) rfl ?_); (try (refine gate_guard (by rfl) ?_; dsimp only)); at_builtin; refine Kd.N_append_rows k40 (w0 := w) w.heap.size rfl (.tmp 45) (.tmp 47) 22 40 (.agg #[(.int .u32 0), (.int .u32 0), (.slice none 0 0), (.int .u32 0)]) 40 rfl Try.underlying22 info40 rfl (by decide) (by omega) (.slice none 0 0) ([] : List (S40)) l0_0 _ _ _ (fun k_ => ((P0_0_ k_ ∨ P1_2_ k_) ∨ w.heap.size ≤ k_) ∧ k_ ≠ gb163 ∧ k_ ≠ gb164 ∧ k_ ≠ gb165 ∧ k_ ≠ gb168) (fun k_ => ((fun k_ => ((P0_0_ k_ ∨ P1_2_ k_) ∨ w.heap.size ≤ k_) ∧ k_ ≠ gb163 ∧ k_ ≠ gb164 ∧ k_ ≠ gb165 ∧ k_ ≠ gb168)) k_ ∧ some k_ ≠ (.slice none 0 0 : Value).ownBlock) rfl rfl ?aO ?aR (fun _ hk => hk) ?aF ?aB ?aS ?aL ?_; (case aR => exact (by skip; exact Kd.V_F (Kd.V_mono (ok' := (fun k_ => ((fun k_ => ((P0_0_ k_ ∨ P1_2_ k_) ∨ w.heap.size ≤ k_) ∧ k_ ≠ gb163 ∧ k_ ≠ gb164 ∧ k_ ≠ gb165 ∧ k_ ≠ gb168)) k_ ∧ some k_ ≠ (.slice none 0 0 : Value).ownBlock)) ((Kd.V_far (p := ⟨gb168, 1, none⟩) (Kd.V_far (p := ⟨gb168, 0, none⟩) (Kd.V_mono HO_164000.out (fun k_ hk => (⟨hk, hk.2⟩ : _ ∧ k_ ≠ gb168))) (fun _ hk => hk.2) (.slice none 0 0)) (fun _ hk => hk.2) (.int .u32 a0_1))) (fun k_ hk => ⟨⟨hk.1.1.1, ⟨hk.1.1.2.1, ⟨hk.1.1.2.2.1, ⟨hk.1.1.2.2.2, hk.1.2⟩⟩⟩⟩, (by simp [Value.ownBlock])⟩)))); (case aB => exact (by repeat (first | (with_reducible first | exact HB.out | apply below_alloc | apply pw_below_drewN | apply below_drew1 | refine below_set ?_ GE163.out | refine below_set ?_ GE164.out | refine below_set ?_ GE165.out | refine below_set ?_ GE168.out) | exact HB.out))); (case aF => exact (fun k_ hk => ⟨(.inr (Nat.le_trans (below_size (by repeat (first | (with_reducible first | exact HB.out | apply below_alloc | apply pw_below_drewN | apply below_drew1 | refine below_set ?_ GE163.out | refine below_set ?_ GE164.out | refine below_set ?_ GE165.out | refine below_set ?_ GE168.out) | exact HB.out))) hk)), Kd.freshB (g := gb163) (o := .cells #[.slice A0_0 l0_0.length c0_0, .int .u32 a0_1] 25 (0, 0)) (by (with_reducible repeat (first | refine blk_drewN ?_ _ | refine blk_drew ?_ | refine blk_alloc ?_ _)); refine blk_far ?_ NB163_168.out _; (with_reducible repeat (first | refine blk_drewN ?_ _ | refine blk_drew ?_ | refine blk_alloc ?_ _)); refine blk_far ?_ NB163_168.out _; (with_reducible repeat (first | refine blk_drewN ?_ _ | refine blk_drew ?_ | refine blk_alloc ?_ _)); exact BK163.out) k_ hk, Kd.freshB (g := gb164) (o := .cells #[.int .u32 a1_0, .int .u32 a1_1, .slice A1_2 l1_2.length c1_2, .int .u32 a1_3] 40 (0, 0)) (by (with_reducible repeat (first | refine blk_drewN ?_ _ | refine blk_drew ?_ | refine blk_alloc ?_ _)); refine blk_far ?_ NB164_168.out _; (with_reducible repeat (first | refine blk_drewN ?_ _ | refine blk_drew ?_ | refine blk_alloc ?_ _)); refine blk_far ?_ NB164_168.out _; (with_reducible repeat (first | refine blk_drewN ?_ _ | refine blk_drew ?_ | refine blk_alloc ?_ _)); exact BK164.out) k_ hk, Kd.freshB (g := gb165) (o := .cells #[.int .u32 a2_0, .int .u32 a2_1, .int .u64 a2_2, .int .u64 a2_3, .int .u64 a2_4, .int .u64 a2_5, .int .u64 a2_6, .int .u64 a2_7, .int .u64 a2_8] 44 (0, 0)) (by (with_reducible repeat (first | refine blk_drewN ?_ _ | refine blk_drew ?_ | refine blk_alloc ?_ _)); refine blk_far ?_ NB165_168.out _; (with_reducible repeat (first | refine blk_drewN ?_ _ | refine blk_drew ?_ | refine blk_alloc ?_ _)); refine blk_far ?_ NB165_168.out _; (with_reducible repeat (first | refine blk_drewN ?_ _ | refine blk_drew ?_ | refine blk_alloc ?_ _)); exact BK165.out) k_ hk, Kd.freshB (g := gb168) (o := .cells #[.slice none 0 0, .int .u32 a0_1] 25 (0, 0)) (by (with_reducible repeat (first | refine blk_drewN ?_ _ | refine blk_drew ?_ | refine blk_alloc ?_ _)); refine blk_put (cs := #[.slice none 0 0, .int .u32 0]) ?_ 1 _ rfl; (with_reducible repeat (first | refine blk_drewN ?_ _ | refine blk_drew ?_ | refine blk_alloc ?_ _)); refine blk_put (cs := #[.slice none 0 0, .int .u32 0]) ?_ 0 _ rfl; (with_reducible repeat (first | refine blk_drewN ?_ _ | refine blk_drew ?_ | refine blk_alloc ?_ _)); exact BK168.out) k_ hk⟩)); (case aO => exact ((Kd.N_nil _ _ _ _ (fun k_ => ((P0_0_ k_ ∨ P1_2_ k_) ∨ w.heap.size ≤ k_) ∧ k_ ≠ gb163 ∧ k_ ≠ gb164 ∧ k_ ≠ gb165 ∧ k_ ≠ gb168)))); (case aS => exact (below_size (by repeat (first | (with_reducible first | exact HB.out | apply below_alloc | apply pw_below_drewN | apply below_drew1 | refine below_set ?_ GE163.out | refine below_set ?_ GE164.out | refine below_set ?_ GE165.out | refine below_set ?_ GE168.out) | exact HB.out)))); (case aL => have := LMc31.out; omega); intro v170 w198 ho hb hg hat; rw [← Ny169.out] at ho; have n0_ := Aside0.mk (Kd.V_afterv (Kd.V_apart_nil (by (with_reducible repeat (first | apply Kd.V_alloc | apply Kd.V_drewN | apply Kd.V_drew)); exact (Kd.V_mono (Kd.V_far (p := ⟨gb168, 1, none⟩) (Kd.V_far (p := ⟨gb168, 0, none⟩) (Kd.V_mono HO_164000.out (fun k_ hk => (⟨hk, hk.2⟩ : _ ∧ k_ ≠ gb168))) (fun _ hk => hk.2) (.slice none 0 0)) (fun _ hk => hk.2) (.int .u32 a0_1)) (fun _ h_ => h_.1)))) hg hat); have n1_ := Aside0.mk (Kd.V_afterv (Kd.V_apart_nil (by (with_reducible repeat (first | apply Kd.V_alloc | apply Kd.V_drewN | apply Kd.V_drew)); exact (Kd.V_mono (Kd.V_far (p := ⟨gb168, 1, none⟩) (Kd.V_far (p := ⟨gb168, 0, none⟩) (Kd.V_mono HO_165002.out (fun k_ hk => (⟨hk, hk.2⟩ : _ ∧ k_ ≠ gb168))) (fun _ hk => hk.2) (.slice none 0 0)) (fun _ hk => hk.2) (.int .u32 a0_1)) (fun _ h_ => h_.1)))) hg hat); have n2_ := Aside0.mk (blk_grown (g := gb163) (o := .cells #[.slice A0_0 l0_0.length c0_0, .int .u32 a0_1] 25 (0, 0)) (by (with_reducible repeat (first | refine blk_drewN ?_ _ | refine blk_drew ?_ | refine blk_alloc ?_ _)); refine blk_far ?_ NB163_168.out _; (with_reducible repeat (first | refine blk_drewN ?_ _ | refine blk_drew ?_ | refine blk_alloc ?_ _)); refine blk_far ?_ NB163_168.out _; (with_reducible repeat (first | refine blk_drewN ?_ _ | refine blk_drew ?_ | refine blk_alloc ?_ _)); exact BK163.out) hg (by simp [Value.ownBlock])); have n3_ := Aside0.mk (blk_grown (g := gb164) (o := .cells #[.int .u32 a1_0, .int .u32 a1_1, .slice A1_2 l1_2.length c1_2, .int .u32 a1_3] 40 (0, 0)) (by (with_reducible repeat (first | refine blk_drewN ?_ _ | refine blk_drew ?_ | refine blk_alloc ?_ _)); refine blk_far ?_ NB164_168.out _; (with_reducible repeat (first | refine blk_drewN ?_ _ | refine blk_drew ?_ | refine blk_alloc ?_ _)); refine blk_far ?_ NB164_168.out _; (with_reducible repeat (first | refine blk_drewN ?_ _ | refine blk_drew ?_ | refine blk_alloc ?_ _)); exact BK164.out) hg (by simp [Value.ownBlock])); have n4_ := Aside0.mk (blk_grown (g := gb165) (o := .cells #[.int .u32 a2_0, .int .u32 a2_1, .int .u64 a2_2, .int .u64 a2_3, .int .u64 a2_4, .int .u64 a2_5, .int .u64 a2_6, .int .u64 a2_7, .int .u64 a2_8] 44 (0, 0)) (by (with_reducible repeat (first | refine blk_drewN ?_ _ | refine blk_drew ?_ | refine blk_alloc ?_ _)); refine blk_far ?_ NB165_168.out _; (with_reducible repeat (first | refine blk_drewN ?_ _ | refine blk_drew ?_ | refine blk_alloc ?_ _)); refine blk_far ?_ NB165_168.out _; (with_reducible repeat (first | refine blk_drewN ?_ _ | refine blk_drew ?_ | refine blk_alloc ?_ _)); exact BK165.out) hg (by simp [Value.ownBlock])); have n5_ := Aside0.mk (blk_grown (g := gb168) (o := .cells #[.slice none 0 0, .int .u32 a0_1] 25 (0, 0)) (by (with_reducible repeat (first | refine blk_drewN ?_ _ | refine blk_drew ?_ | refine blk_alloc ?_ _)); refine blk_put (cs := #[.slice none 0 0, .int .u32 0]) ?_ 1 _ rfl; (with_reducible repeat (first | refine blk_drewN ?_ _ | refine blk_drew ?_ | refine blk_alloc ?_ _)); refine blk_put (cs := #[.slice none 0 0, .int .u32 0]) ?_ 0 _ rfl; (with_reducible repeat (first | refine blk_drewN ?_ _ | refine blk_drew ?_ | refine blk_alloc ?_ _)); exact BK168.out) hg (by simp [Value.ownBlock])); have n6_ := Aside0.mk (hb); have n7_ := Aside0.mk (ho); clear HO_164000; clear HO_165002; clear BK163; clear BK164; clear BK165; clear BK168; clear HB; have HO_164000 := n0_; have HO_165002 := n1_; have BK163 := n2_; have BK164 := n3_; have BK165 := n4_; have BK168 := n5_; have HB := n6_; have HO171 := n7_; clear n0_ n1_ n2_ n3_ n4_ n5_ n6_ n7_; clear ho hb hg hat; obtain ⟨Ao199, co199, eo199⟩ := Kd.N_slice HO171.out; subst eo199; have hcz200_0 : w198.cell? ⟨gb168, 0, none⟩ = some (.slice none 0 0) := (blk_cell BK168.out 0).trans rfl; have hcz200_1 : w198.cell? ⟨gb168, 1, none⟩ = some (.int .u32 a0_1) := (blk_cell BK168.out 1).trans rfl; have hfz200_0 := blk_frozen BK168.out 0; have hfz200_1 := blk_frozen BK168.out 1))
                      have n0_ : Aside0 (Kd.V k40 40 (w198.setCell ⟨gb168, 0, none⟩ (.slice Ao199 y169.length co199)) w.heap.size (fun k_ => ((P0_0_ k_ ∨ P1_2_ k_) ∨ w.heap.size ≤ k_) ∧ some k_ ≠ (.slice Ao199 y169.length co199 : Value).ownBlock ∧ k_ ≠ gb163 ∧ k_ ≠ gb164 ∧ k_ ≠ gb165 ∧ k_ ≠ gb168) (.slice A0_0 l0_0.length c0_0) l0_0) := ⟨by (with_reducible repeat (first | apply Kd.V_alloc | apply Kd.V_drewN | apply Kd.V_drew)); exact Kd.V_mono (Kd.V_far (p := ⟨gb168, 0, none⟩) (Kd.V_mono HO_164000.out (fun k_ hk => (⟨hk, hk.1.2⟩ : _ ∧ k_ ≠ gb168))) (fun _ hk => hk.2) (.slice Ao199 y169.length co199)) (fun _ hk => ⟨hk.1.1.1.1, ⟨hk.1.2, ⟨hk.1.1.1.2.1, ⟨hk.1.1.1.2.2.1, ⟨hk.1.1.1.2.2.2, hk.1.1.2⟩⟩⟩⟩⟩)⟩
                      have n1_ : Aside0 (Kd.V k61 61 (w198.setCell ⟨gb168, 0, none⟩ (.slice Ao199 y169.length co199)) w.heap.size (fun k_ => ((P0_0_ k_ ∨ P1_2_ k_) ∨ w.heap.size ≤ k_) ∧ some k_ ≠ (.slice Ao199 y169.length co199 : Value).ownBlock ∧ k_ ≠ gb163 ∧ k_ ≠ gb164 ∧ k_ ≠ gb165 ∧ k_ ≠ gb168) (.slice A1_2 l1_2.length c1_2) l1_2) := ⟨by (with_reducible repeat (first | apply Kd.V_alloc | apply Kd.V_drewN | apply Kd.V_drew)); exact Kd.V_mono (Kd.V_far (p := ⟨gb168, 0, none⟩) (Kd.V_mono HO_165002.out (fun k_ hk => (⟨hk, hk.1.2⟩ : _ ∧ k_ ≠ gb168))) (fun _ hk => hk.2) (.slice Ao199 y169.length co199)) (fun _ hk => ⟨hk.1.1.1.1, ⟨hk.1.2, ⟨hk.1.1.1.2.1, ⟨hk.1.1.1.2.2.1, ⟨hk.1.1.1.2.2.2, hk.1.1.2⟩⟩⟩⟩⟩)⟩
                      have n2_ : Aside0 (Kd.N k40 40 (w198.setCell ⟨gb168, 0, none⟩ (.slice Ao199 y169.length co199)) w.heap.size (fun k_ => ((P0_0_ k_ ∨ P1_2_ k_) ∨ w.heap.size ≤ k_) ∧ k_ ≠ gb163 ∧ k_ ≠ gb164 ∧ k_ ≠ gb165 ∧ k_ ≠ gb168) (.slice Ao199 y169.length co199) y169) := ⟨by (with_reducible repeat (first | apply Kd.N_alloc | apply Kd.N_drewN | apply Kd.N_drew)); exact Kd.N_mono (Kd.N_far (p := ⟨gb168, 0, none⟩) (Kd.N_mono HO171.out (fun k_ hk => (⟨hk, hk.2.2.2.2⟩ : _ ∧ k_ ≠ gb168))) (fun _ hk => hk.2) (.slice Ao199 y169.length co199)) (fun _ hk => ⟨hk.1.1, ⟨hk.1.2.1, ⟨hk.1.2.2.1, ⟨hk.1.2.2.2.1, hk.1.2.2.2.2⟩⟩⟩⟩)⟩
                      have n3_ : Aside0 ((w198.setCell ⟨gb168, 0, none⟩ (.slice Ao199 y169.length co199)).heap[gb163]? = some (.cells #[.slice A0_0 l0_0.length c0_0, .int .u32 a0_1] 25 (0, 0))) := ⟨by (with_reducible repeat (first | refine blk_drewN ?_ _ | refine blk_drew ?_ | refine blk_alloc ?_ _)); refine blk_far ?_ NB163_168.out _; (with_reducible repeat (first | refine blk_drewN ?_ _ | refine blk_drew ?_ | refine blk_alloc ?_ _)); exact BK163.out⟩
                      have n4_ : Aside0 ((w198.setCell ⟨gb168, 0, none⟩ (.slice Ao199 y169.length co199)).heap[gb164]? = some (.cells #[.int .u32 a1_0, .int .u32 a1_1, .slice A1_2 l1_2.length c1_2, .int .u32 a1_3] 40 (0, 0))) := ⟨by (with_reducible repeat (first | refine blk_drewN ?_ _ | refine blk_drew ?_ | refine blk_alloc ?_ _)); refine blk_far ?_ NB164_168.out _; (with_reducible repeat (first | refine blk_drewN ?_ _ | refine blk_drew ?_ | refine blk_alloc ?_ _)); exact BK164.out⟩
                      have n5_ : Aside0 ((w198.setCell ⟨gb168, 0, none⟩ (.slice Ao199 y169.length co199)).heap[gb165]? = some (.cells #[.int .u32 a2_0, .int .u32 a2_1, .int .u64 a2_2, .int .u64 a2_3, .int .u64 a2_4, .int .u64 a2_5, .int .u64 a2_6, .int .u64 a2_7, .int .u64 a2_8] 44 (0, 0))) := ⟨by (with_reducible repeat (first | refine blk_drewN ?_ _ | refine blk_drew ?_ | refine blk_alloc ?_ _)); refine blk_far ?_ NB165_168.out _; (with_reducible repeat (first | refine blk_drewN ?_ _ | refine blk_drew ?_ | refine blk_alloc ?_ _)); exact BK165.out⟩
                      have n6_ : Aside0 ((w198.setCell ⟨gb168, 0, none⟩ (.slice Ao199 y169.length co199)).heap[gb168]? = some (.cells #[.slice Ao199 y169.length co199, .int .u32 a0_1] 25 (0, 0))) := ⟨by (with_reducible repeat (first | refine blk_drewN ?_ _ | refine blk_drew ?_ | refine blk_alloc ?_ _)); refine blk_put (cs := #[.slice none 0 0, .int .u32 a0_1]) ?_ 0 _ rfl; (with_reducible repeat (first | refine blk_drewN ?_ _ | refine blk_drew ?_ | refine blk_alloc ?_ _)); exact BK168.out⟩
                      have n7_ : Aside0 (Below w.heap.size w (w198.setCell ⟨gb168, 0, none⟩ (.slice Ao199 y169.length co199))) := ⟨by repeat (first | (with_reducible first | exact HB.out | apply below_alloc | apply pw_below_drewN | apply below_drew1 | refine below_set ?_ GE163.out | refine below_set ?_ GE164.out | refine below_set ?_ GE165.out | refine below_set ?_ GE168.out) | exact HB.out)⟩
                      (try clear HO_164000)
                      (try clear HO_165002)
                      (try clear HO171)
                      (try clear BK163)
                      (try clear BK164)
                      (try clear BK165)
                      (try clear BK168)
                      (try clear HB)
                      generalize (w198.setCell ⟨gb168, 0, none⟩ (.slice Ao199 y169.length co199)) = w201 at n0_ n1_ n2_ n3_ n4_ n5_ n6_ n7_ ⊢
                      have HO_164000 := n0_
                      have HO_165002 := n1_
                      have HO171 := n2_
                      have BK163 := n3_
                      have BK164 := n4_
                      have BK165 := n5_
                      have BK168 := n6_
                      have HB := n7_
                      clear n0_ n1_ n2_ n3_ n4_ n5_ n6_ n7_
                      have n0_ := Aside0.mk (Kd.V_drew HO_164000.out)
                      have n1_ := Aside0.mk (Kd.V_drew HO_165002.out)
                      have n2_ := Aside0.mk (Kd.N_drew HO171.out)
                      have n3_ := Aside0.mk (blk_drew BK163.out)
                      have n4_ := Aside0.mk (blk_drew BK164.out)
                      have n5_ := Aside0.mk (blk_drew BK165.out)
                      have n6_ := Aside0.mk (blk_drew BK168.out)
                      have n7_ := Aside0.mk (below_drew1 HB.out)
                      clear HO_164000
                      clear HO_165002
                      clear HO171
                      clear BK163
                      clear BK164
                      clear BK165
                      clear BK168
                      clear HB
                      have HO_164000 := n0_
                      have HO_165002 := n1_
                      have HO171 := n2_
                      have BK163 := n3_
                      have BK164 := n4_
                      have BK165 := n5_
                      have BK168 := n6_
                      have HB := n7_
                      clear n0_ n1_ n2_ n3_ n4_ n5_ n6_ n7_
                      have p172 : 0 ≤ ((ji32) : Int) := of_decide_eq_true (by first | (with_reducible assumption) | assumption)
                      have q172 : (ji32) < (l0_0.length : Int) := of_decide_eq_true (by first | (with_reducible assumption) | assumption)
                      obtain ⟨ad172, A172_2, c172_2, e172, hx172_0, hx172_1, hx172_2, hx172_3, hl172_2, hi172_2⟩ := at_T40 (Kd.V_reads' HO_164000.out).2.2 (ji32) p172 q172
                      cases e172
                      obtain ⟨ce172, hce172, hMe172, hcc172⟩ := Kd.V_get HO_164000.out z40 (ji32) p172 (by first | exact q172 | exact of_decide_eq_true (by first | (with_reducible assumption) | assumption) | (have e_ := (Kd.V_reads' HO_164000.out).1; omega))
                      obtain ⟨ua172_2, uc172_2, rfl, ul172_2, ge172_2⟩ := k40_openF hMe172
                      have hv172_2 := hcc172 2 _ rfl
                      rw [add_field _ _ 2 (by omega)] at hv172_2
                      replace hv172_2 := Option.some.inj (hv172_2.symm.trans hx172_2)
                      injection hv172_2 with hva_ hvn_ hvc_
                      rw [hva_] at ge172_2
                      rw [hvc_] at ul172_2
                      have HL172_2 := Aside0.mk (show Kd.V k61 61 _ w.heap.size _ _ ((rd_T40 l0_0 (ji32)).f2) from Kd.V_mk ul172_2 ge172_2)
                      clear hva_ hvn_ hvc_ ge172_2 ul172_2
                      clear hcc172 hce172
                      have HR172_2 := Aside0.mk hi172_2
                      have HC172_2 := Aside0.mk hl172_2
                      clear hi172_2 hl172_2
                      replace p172 := eq_true p172
                      replace q172 := eq_true q172
                      have p36 : 0 ≤ ((ji32) : Int) := of_decide_eq_true (by first | (with_reducible assumption) | assumption)
                      have q36 : ((ji32) : Int) < ((y169.length : Int) : Int) := of_decide_eq_true (by first | (with_reducible assumption) | assumption)
                      obtain ⟨go36, co36, eo36, gb36, gl36, cl36, HG36⟩ := Kd.N_form HO171.out (by omega)
                      (first | cases eo36 | (injection eo36 with ea_ en_ ec_; (first | subst ea_ | (injection ea_ with ea_; subst ea_)); subst ec_; clear en_))
                      have GB36 := Aside0.mk gb36
                      have GG36 := Aside0.mk HG36
                      clear gb36 gl36 HG36
                      obtain ⟨ce36, hcl36, hM36, hcc36, hfr36⟩ := Kd.N_elem HO171.out z40 ((ji32) : Int) p36 q36
                      obtain ⟨ua36_2, uc36_2, rfl, ul36_2, ge36_2⟩ := k40_openF hM36
                      have hx36_0 : World.cell? _ ⟨go36, ((ji32) : Int).toNat * 4, none⟩ = some (.int .u32 ((rd_T40 y169 (ji32)).f0)) := hcc36 0 _ rfl
                      have hx36_1 : World.cell? _ ⟨go36, ((ji32) : Int).toNat * 4 + 1, none⟩ = some (.int .u32 ((rd_T40 y169 (ji32)).f1)) := hcc36 1 _ rfl
                      have hx36_2 : World.cell? _ ⟨go36, ((ji32) : Int).toNat * 4 + 2, none⟩ = some (.slice ua36_2 ((rd_T40 y169 (ji32)).f2).length uc36_2) := hcc36 2 _ rfl
                      have hx36_3 : World.cell? _ ⟨go36, ((ji32) : Int).toNat * 4 + 3, none⟩ = some (.int .u32 ((rd_T40 y169 (ji32)).f3)) := hcc36 3 _ rfl
                      have hf36_0 : World.frozen? _ ⟨go36, ((ji32) : Int).toNat * 4, none⟩ = false := hfr36 0
                      have hf36_1 : World.frozen? _ ⟨go36, ((ji32) : Int).toNat * 4 + 1, none⟩ = false := hfr36 1
                      have hf36_2 : World.frozen? _ ⟨go36, ((ji32) : Int).toNat * 4 + 2, none⟩ = false := hfr36 2
                      have hf36_3 : World.frozen? _ ⟨go36, ((ji32) : Int).toNat * 4 + 3, none⟩ = false := hfr36 3
                      clear hcl36 hcc36 hfr36 hM36
                      replace p36 := eq_true p36
                      replace q36 := eq_true q36
                      have HX203 := Aside0.mk (show Kd.N k40 40 _ w.heap.size (fun k_ => ((P0_0_ k_ ∨ P1_2_ k_) ∨ w.heap.size ≤ k_) ∧ k_ ≠ gb163 ∧ k_ ≠ gb164 ∧ k_ ≠ gb165 ∧ k_ ≠ gb168) (.slice (some ⟨go36, 0, none⟩) y169.length co199) y169 from (Kd.N_mono (HO171.out) (fun k_ hk => ⟨hk.1, ⟨hk.2.1, ⟨hk.2.2.1, ⟨hk.2.2.2.1, hk.2.2.2.2⟩⟩⟩⟩)))
                      obtain ⟨ce203, hcl203, hM203, hcc203, hfr203⟩ := Kd.N_elem HX203.out z40 ((ji32) : Int) (of_decide_eq_true (by first | (with_reducible assumption) | assumption)) (by have h_ : ((ji32) : Int) < ((y169.length : Int) : Int) := of_decide_eq_true (by first | (with_reducible assumption) | assumption); first | exact h_ | (have e_ := (Kd.N_reads' HO171.out).1; omega) | simpa using h_)
                      obtain ⟨ua203_2, uc203_2, rfl, ul203_2, ge203_2⟩ := k40_openF hM203
                      have HP203 := (Kd.N_seg HX203.out ((ji32) : Int) (of_decide_eq_true (by first | (with_reducible assumption) | assumption)) (by have h_ : ((ji32) : Int) < ((y169.length : Int) : Int) := of_decide_eq_true (by first | (with_reducible assumption) | assumption); first | exact h_ | (have e_ := (Kd.N_reads' HO171.out).1; omega) | simpa using h_) (seg := [.int .u32 a1_0, .int .u32 a1_1, .slice none 0 0, .int .u32 ((rd_T40 l0_0 (ji32)).f3)]) (j := 0) hcl203 hcc203 (show 4 ≤ 4 from by decide) (x' := (⟨a1_0, a1_1, ([] : List (S61)), (rd_T40 l0_0 (ji32)).f3⟩ : S40)) (k40_mkF _ _ (⟨a1_0, a1_1, ([] : List (S61)), (rd_T40 l0_0 (ji32)).f3⟩ : S40) (Nat.le_refl _) (Kd.F_nil _ _ _)) (fun _ hk => hk)).1
                      rw [← Ny173.out] at HP203
                      have HQ203 := Aside0.mk HP203
                      clear hcl203 hcc203 hfr203 hM203 HP203
                      refine start_ (n := 16) (S := fun w' => w'.cell? ⟨gb168, 0, none⟩ = some (.slice (some ⟨go36, 0, none⟩) y169.length co199) ∧ w'.cell? ⟨gb168, 1, none⟩ = some (.int .u32 a0_1) ∧ w'.cell? ⟨gb164, 0, none⟩ = some (.int .u32 a1_0) ∧ w'.cell? ⟨gb164, 1, none⟩ = some (.int .u32 a1_1) ∧ w'.cell? ⟨gb164, 2, none⟩ = some (.slice A1_2 l1_2.length c1_2) ∧ w'.cell? ⟨gb164, 3, none⟩ = some (.int .u32 a1_3) ∧ w'.cell? ⟨gb163, 0, none⟩ = some (.slice (some ad172) l0_0.length c0_0) ∧ w'.cell? ⟨gb163, 1, none⟩ = some (.int .u32 a0_1) ∧ w'.cell? (ad172.add (((ji32)).toNat * 4)) = some (.int .u32 ((rd_T40 l0_0 (ji32)).f0)) ∧ w'.cell? ⟨(ad172.add (((ji32)).toNat * 4)).block, (ad172.add (((ji32)).toNat * 4)).off + 1, none⟩ = some (.int .u32 ((rd_T40 l0_0 (ji32)).f1)) ∧ w'.cell? ⟨(ad172.add (((ji32)).toNat * 4)).block, (ad172.add (((ji32)).toNat * 4)).off + 2, none⟩ = some (.slice A172_2 ((rd_T40 l0_0 (ji32)).f2).length c172_2) ∧ w'.cell? ⟨(ad172.add (((ji32)).toNat * 4)).block, (ad172.add (((ji32)).toNat * 4)).off + 3, none⟩ = some (.int .u32 ((rd_T40 l0_0 (ji32)).f3))) (ds := [15]) #[false, false, false, false, false, false, false, false, false, false, false, false, false, false, false, false] (by kernel_rfl) rfl rfl ⟨(blk_cell BK168.out 0).trans rfl, (blk_cell BK168.out 1).trans rfl, (blk_cell BK164.out 0).trans rfl, (blk_cell BK164.out 1).trans rfl, (blk_cell BK164.out 2).trans rfl, (blk_cell BK164.out 3).trans rfl, (blk_cell BK163.out 0).trans rfl, (blk_cell BK163.out 1).trans rfl, hx172_0, hx172_1, hx172_2, hx172_3⟩ (fun hHeld => ?_); refine with_tabW hurdlelaw11_DenoteShades.tab6 hurdlelaw11_DenoteShades.bits6 (fun HT_ HW_ => ?_)
                      generalize w201.drew = w202 at HO_164000 HO_165002 HO171 BK163 BK164 BK165 BK168 HB GG36 HL172_2 HQ203 HR172_2 hf36_0 hf36_1 hf36_2 hf36_3 hx172_0 hx172_1 hx172_2 hx172_3 hx36_0 hx36_1 hx36_2 hx36_3 hHeld ⊢
                      refine pure_ (i := 0) (N := some 50) (v := ?_) (a' := ?_) #[true, false, false, false, false, false, false, false, false, false, false, false, false, false, false, false] rfl rfl (any_of HT_.out (by kernel_rfl)) (fun _ _ _ h => h) (Or.inl ⟨by rfl, ?_⟩) ?_ ?_
                      rotate_left
                      · intro w'
                        go_simp
                        with_reducible rfl
                      rotate_left
                      · simp only [Act.put, List.setIfInBounds_toArray, List.set_cons_zero, List.set_cons_succ, i64_w, i32_w]
                        rfl
                      refine pure_ (i := 2) (N := some 52) (v := ?_) (a' := ?_) #[true, false, true, false, false, false, false, false, false, false, false, false, false, false, false, false] rfl rfl (any_of HT_.out (by kernel_rfl)) (fun _ _ _ h => h) (Or.inl ⟨by rfl, ?_⟩) ?_ ?_
                      rotate_left
                      · intro w'
                        go_simp
                        with_reducible rfl
                      rotate_left
                      · simp only [Act.put, List.setIfInBounds_toArray, List.set_cons_zero, List.set_cons_succ, i64_w, i32_w]
                        rfl
                      refine pure_ (i := 3) (N := some 53) (v := ?_) (a' := ?_) #[true, false, true, true, false, false, false, false, false, false, false, false, false, false, false, false] rfl rfl (any_of HT_.out (by kernel_rfl)) (fun _ _ _ h => h) (Or.inl ⟨by rfl, ?_⟩) ?_ ?_
                      rotate_left
                      · intro w'
                        go_simp
                        with_reducible rfl
                      rotate_left
                      · simp only [Act.put, List.setIfInBounds_toArray, List.set_cons_zero, List.set_cons_succ, i64_w, i32_w]
                        rfl
                      refine pure_ (i := 5) (N := some 55) (v := ?_) (a' := ?_) #[true, false, true, true, false, true, false, false, false, false, false, false, false, false, false, false] rfl rfl (any_of HT_.out (by kernel_rfl)) (fun _ _ _ h => h) (Or.inl ⟨by rfl, ?_⟩) ?_ ?_
                      rotate_left
                      · intro w'
                        go_simp
                        with_reducible rfl
                      rotate_left
                      · simp only [Act.put, List.setIfInBounds_toArray, List.set_cons_zero, List.set_cons_succ, i64_w, i32_w]
                        rfl
                      refine pure_ (i := 7) (N := some 57) (v := ?_) (a' := ?_) #[true, false, true, true, false, true, false, true, false, false, false, false, false, false, false, false] rfl rfl (any_of HT_.out (by kernel_rfl)) (fun _ _ _ h => h) (Or.inl ⟨by rfl, ?_⟩) ?_ ?_
                      rotate_left
                      · intro w'
                        go_simp
                        with_reducible rfl
                      rotate_left
                      · simp only [Act.put, List.setIfInBounds_toArray, List.set_cons_zero, List.set_cons_succ, i64_w, i32_w]
                        rfl
                      refine pure_ (i := 9) (N := some 59) (v := ?_) (a' := ?_) #[true, false, true, true, false, true, false, true, false, true, false, false, false, false, false, false] rfl rfl (any_of HT_.out (by kernel_rfl)) (fun _ _ _ h => h) (Or.inl ⟨by rfl, ?_⟩) ?_ ?_
                      rotate_left
                      · intro w'
                        go_simp
                        with_reducible rfl
                      rotate_left
                      · simp only [Act.put, List.setIfInBounds_toArray, List.set_cons_zero, List.set_cons_succ, i64_w, i32_w]
                        rfl
                      refine take_ (i := 1) (N := some 51) (v := ?_) (a' := ?_) #[true, true, true, true, false, true, false, true, false, true, false, false, false, false, false, false] rfl rfl (take_ofW HT_.out HW_.out (by kernel_rfl)) (fun _ _ _ h => h) (Or.inl ⟨by rfl, ?_⟩) hHeld ?_ ?_
                      rotate_left
                      · rintro w' ⟨s0, s1, s2, s3, s4, s5, s6, s7, s8, s9, s10, s11⟩
                        go_simp
                        with_reducible rfl
                      rotate_left
                      · simp only [Act.put, List.setIfInBounds_toArray, List.set_cons_zero, List.set_cons_succ, i64_w, i32_w]
                        rfl
                      refine take_ (i := 4) (N := some 54) (v := ?_) (a' := ?_) #[true, true, true, true, true, true, false, true, false, true, false, false, false, false, false, false] rfl rfl (take_ofW HT_.out HW_.out (by kernel_rfl)) (fun _ _ _ h => h) (Or.inl ⟨by rfl, ?_⟩) hHeld ?_ ?_
                      rotate_left
                      · rintro w' ⟨s0, s1, s2, s3, s4, s5, s6, s7, s8, s9, s10, s11⟩
                        go_simp
                        with_reducible rfl
                      rotate_left
                      · simp only [Act.put, List.setIfInBounds_toArray, List.set_cons_zero, List.set_cons_succ, i64_w, i32_w]
                        rfl
                      refine take_ (i := 6) (N := some 56) (v := ?_) (a' := ?_) #[true, true, true, true, true, true, true, true, false, true, false, false, false, false, false, false] rfl rfl (take_ofW HT_.out HW_.out (by kernel_rfl)) (fun _ _ _ h => h) (Or.inl ⟨by rfl, ?_⟩) hHeld ?_ ?_
                      rotate_left
                      · rintro w' ⟨s0, s1, s2, s3, s4, s5, s6, s7, s8, s9, s10, s11⟩
                        go_simp
                        with_reducible rfl
                      rotate_left
                      · simp only [Act.put, List.setIfInBounds_toArray, List.set_cons_zero, List.set_cons_succ, i64_w, i32_w]
                        rfl
                      refine take_ (i := 8) (N := some 58) (v := ?_) (a' := ?_) #[true, true, true, true, true, true, true, true, true, true, false, false, false, false, false, false] rfl rfl (take_ofW HT_.out HW_.out (by kernel_rfl)) (fun _ _ _ h => h) (Or.inl ⟨by rfl, ?_⟩) hHeld ?_ ?_
                      rotate_left
                      · rintro w' ⟨s0, s1, s2, s3, s4, s5, s6, s7, s8, s9, s10, s11⟩
                        go_simp
                        with_reducible rfl
                      rotate_left
                      · simp only [Act.put, List.setIfInBounds_toArray, List.set_cons_zero, List.set_cons_succ, i64_w, i32_w]
                        rfl
                      refine pure_ (i := 10) (N := some 60) (v := ?_) (a' := ?_) #[true, true, true, true, true, true, true, true, true, true, true, false, false, false, false, false] rfl rfl (any_of HT_.out (by kernel_rfl)) (fun _ _ _ h => h) (Or.inl ⟨by rfl, ?_⟩) ?_ ?_
                      rotate_left
                      · intro w'
                        go_simp
                        with_reducible rfl
                      rotate_left
                      · simp only [Act.put, List.setIfInBounds_toArray, List.set_cons_zero, List.set_cons_succ, i64_w, i32_w]
                        rfl
                      refine pure_ (i := 11) (N := some 61) (v := ?_) (a' := ?_) #[true, true, true, true, true, true, true, true, true, true, true, true, false, false, false, false] rfl rfl (any_of HT_.out (by kernel_rfl)) (fun _ _ _ h => h) (Or.inl ⟨by rfl, ?_⟩) ?_ ?_
                      rotate_left
                      · intro w'
                        go_simp
                        with_reducible rfl
                      rotate_left
                      · simp only [Act.put, List.setIfInBounds_toArray, List.set_cons_zero, List.set_cons_succ, i64_w, i32_w]
                        rfl
                      refine take_ (i := 12) (N := some 62) (v := ?_) (a' := ?_) #[true, true, true, true, true, true, true, true, true, true, true, true, true, false, false, false] rfl rfl (take_ofW HT_.out HW_.out (by kernel_rfl)) (fun _ _ _ h => h) (Or.inl ⟨by rfl, ?_⟩) hHeld ?_ ?_
                      rotate_left
                      · rintro w' ⟨s0, s1, s2, s3, s4, s5, s6, s7, s8, s9, s10, s11⟩
                        go_simp
                        with_reducible rfl
                      rotate_left
                      · simp only [Act.put, List.setIfInBounds_toArray, List.set_cons_zero, List.set_cons_succ, i64_w, i32_w]
                        rfl
                      refine pure_ (i := 13) (N := some 63) (v := ?_) (a' := ?_) #[true, true, true, true, true, true, true, true, true, true, true, true, true, true, false, false] rfl rfl (any_of HT_.out (by kernel_rfl)) (fun _ _ _ h => h) (Or.inl ⟨by rfl, ?_⟩) ?_ ?_
                      rotate_left
                      · intro w'
                        go_simp
                        with_reducible rfl
                      rotate_left
                      · simp only [Act.put, List.setIfInBounds_toArray, List.set_cons_zero, List.set_cons_succ, i64_w, i32_w]
                        rfl
                      refine pure_ (i := 14) (N := some 64) (v := ?_) (a' := ?_) #[true, true, true, true, true, true, true, true, true, true, true, true, true, true, true, false] rfl rfl (any_of HT_.out (by kernel_rfl)) (fun _ _ _ h => h) (Or.inl ⟨by rfl, ?_⟩) ?_ ?_
                      rotate_left
                      · intro w'
                        go_simp
                        with_reducible rfl
                      rotate_left
                      · simp only [Act.put, List.setIfInBounds_toArray, List.set_cons_zero, List.set_cons_succ, i64_w, i32_w]
                        rfl
                      refine last_ (i := 15) (N := none) #[true, true, true, true, true, true, true, true, true, true, true, true, true, true, true, true] rfl rfl (one_of HT_.out (by kernel_rfl)) (by decide) (fun K hK => ?_)
                      refine skip_ (w1 := ?_) (by rfl) rfl ?_ ?_
                      rotate_left
                      · go_simp
                        rfl
                      refine hK.out _ _ ?_
                      clear hK K
                      refine done_ (done_of HT_.out (by kernel_rfl)) ?_
                      have n0_ : Aside0 (Kd.V k40 40 ((((w202.setCell ⟨go36, ((ji32) : Int).toNat * 4, none⟩ (.int .u32 a1_0)).setCell ⟨go36, ((ji32) : Int).toNat * 4 + 1, none⟩ (.int .u32 a1_1)).setCell ⟨go36, ((ji32) : Int).toNat * 4 + 2, none⟩ (.slice none 0 0)).setCell ⟨go36, ((ji32) : Int).toNat * 4 + 3, none⟩ (.int .u32 ((rd_T40 l0_0 (ji32)).f3))) w.heap.size (fun k_ => ((P0_0_ k_ ∨ P1_2_ k_) ∨ w.heap.size ≤ k_) ∧ some k_ ≠ (.slice (some ⟨go36, 0, none⟩) y169.length co199 : Value).ownBlock ∧ k_ ≠ gb163 ∧ k_ ≠ gb164 ∧ k_ ≠ gb165 ∧ k_ ≠ gb168) (.slice (some ad172) l0_0.length c0_0) l0_0) := ⟨by (with_reducible repeat (first | apply Kd.V_alloc | apply Kd.V_drewN | apply Kd.V_drew)); exact Kd.V_mono (Kd.V_far (p := ⟨go36, ((ji32) : Int).toNat * 4 + 3, none⟩) (Kd.V_far (p := ⟨go36, ((ji32) : Int).toNat * 4 + 2, none⟩) (Kd.V_far (p := ⟨go36, ((ji32) : Int).toNat * 4 + 1, none⟩) (Kd.V_far (p := ⟨go36, ((ji32) : Int).toNat * 4, none⟩) (Kd.V_mono HO_164000.out (fun k_ hk => (⟨hk, fun e_ => hk.2.1 (by rw [e_]; rfl)⟩ : _ ∧ k_ ≠ go36))) (fun _ hk => hk.2) (.int .u32 a1_0)) (fun _ hk => hk.2) (.int .u32 a1_1)) (fun _ hk => hk.2) (.slice none 0 0)) (fun _ hk => hk.2) (.int .u32 ((rd_T40 l0_0 (ji32)).f3))) (fun _ hk => ⟨hk.1.1, ⟨hk.1.2.1, ⟨hk.1.2.2.1, ⟨hk.1.2.2.2.1, ⟨hk.1.2.2.2.2.1, hk.1.2.2.2.2.2⟩⟩⟩⟩⟩)⟩
                      have n1_ : Aside0 (Kd.V k61 61 ((((w202.setCell ⟨go36, ((ji32) : Int).toNat * 4, none⟩ (.int .u32 a1_0)).setCell ⟨go36, ((ji32) : Int).toNat * 4 + 1, none⟩ (.int .u32 a1_1)).setCell ⟨go36, ((ji32) : Int).toNat * 4 + 2, none⟩ (.slice none 0 0)).setCell ⟨go36, ((ji32) : Int).toNat * 4 + 3, none⟩ (.int .u32 ((rd_T40 l0_0 (ji32)).f3))) w.heap.size (fun k_ => ((P0_0_ k_ ∨ P1_2_ k_) ∨ w.heap.size ≤ k_) ∧ some k_ ≠ (.slice (some ⟨go36, 0, none⟩) y169.length co199 : Value).ownBlock ∧ k_ ≠ gb163 ∧ k_ ≠ gb164 ∧ k_ ≠ gb165 ∧ k_ ≠ gb168) (.slice A1_2 l1_2.length c1_2) l1_2) := ⟨by (with_reducible repeat (first | apply Kd.V_alloc | apply Kd.V_drewN | apply Kd.V_drew)); exact Kd.V_mono (Kd.V_far (p := ⟨go36, ((ji32) : Int).toNat * 4 + 3, none⟩) (Kd.V_far (p := ⟨go36, ((ji32) : Int).toNat * 4 + 2, none⟩) (Kd.V_far (p := ⟨go36, ((ji32) : Int).toNat * 4 + 1, none⟩) (Kd.V_far (p := ⟨go36, ((ji32) : Int).toNat * 4, none⟩) (Kd.V_mono HO_165002.out (fun k_ hk => (⟨hk, fun e_ => hk.2.1 (by rw [e_]; rfl)⟩ : _ ∧ k_ ≠ go36))) (fun _ hk => hk.2) (.int .u32 a1_0)) (fun _ hk => hk.2) (.int .u32 a1_1)) (fun _ hk => hk.2) (.slice none 0 0)) (fun _ hk => hk.2) (.int .u32 ((rd_T40 l0_0 (ji32)).f3))) (fun _ hk => ⟨hk.1.1, ⟨hk.1.2.1, ⟨hk.1.2.2.1, ⟨hk.1.2.2.2.1, ⟨hk.1.2.2.2.2.1, hk.1.2.2.2.2.2⟩⟩⟩⟩⟩)⟩
                      have n2_ : Aside0 (Kd.N k40 40 ((((w202.setCell ⟨go36, ((ji32) : Int).toNat * 4, none⟩ (.int .u32 a1_0)).setCell ⟨go36, ((ji32) : Int).toNat * 4 + 1, none⟩ (.int .u32 a1_1)).setCell ⟨go36, ((ji32) : Int).toNat * 4 + 2, none⟩ (.slice none 0 0)).setCell ⟨go36, ((ji32) : Int).toNat * 4 + 3, none⟩ (.int .u32 ((rd_T40 l0_0 (ji32)).f3))) w.heap.size (fun k_ => ((P0_0_ k_ ∨ P1_2_ k_) ∨ w.heap.size ≤ k_) ∧ k_ ≠ gb163 ∧ k_ ≠ gb164 ∧ k_ ≠ gb165 ∧ k_ ≠ gb168) (.slice (some ⟨go36, 0, none⟩) y169.length co199) y173) := ⟨by (with_reducible repeat (first | apply Kd.N_alloc | apply Kd.N_drewN | apply Kd.N_drew)); exact HQ203.out⟩
                      have n3_ : Aside0 (Kd.V k61 61 ((((w202.setCell ⟨go36, ((ji32) : Int).toNat * 4, none⟩ (.int .u32 a1_0)).setCell ⟨go36, ((ji32) : Int).toNat * 4 + 1, none⟩ (.int .u32 a1_1)).setCell ⟨go36, ((ji32) : Int).toNat * 4 + 2, none⟩ (.slice none 0 0)).setCell ⟨go36, ((ji32) : Int).toNat * 4 + 3, none⟩ (.int .u32 ((rd_T40 l0_0 (ji32)).f3))) w.heap.size (fun k_ => ((P0_0_ k_ ∨ P1_2_ k_) ∨ w.heap.size ≤ k_) ∧ some k_ ≠ (.slice (some ⟨go36, 0, none⟩) y169.length co199 : Value).ownBlock ∧ k_ ≠ gb163 ∧ k_ ≠ gb164 ∧ k_ ≠ gb165 ∧ k_ ≠ gb168) (.slice A172_2 ((rd_T40 l0_0 (ji32)).f2).length c172_2) ((rd_T40 l0_0 (ji32)).f2)) := ⟨by (with_reducible repeat (first | apply Kd.V_alloc | apply Kd.V_drewN | apply Kd.V_drew)); exact Kd.V_mono (Kd.V_far (p := ⟨go36, ((ji32) : Int).toNat * 4 + 3, none⟩) (Kd.V_far (p := ⟨go36, ((ji32) : Int).toNat * 4 + 2, none⟩) (Kd.V_far (p := ⟨go36, ((ji32) : Int).toNat * 4 + 1, none⟩) (Kd.V_far (p := ⟨go36, ((ji32) : Int).toNat * 4, none⟩) (Kd.V_mono HL172_2.out (fun k_ hk => (⟨hk, fun e_ => hk.2.1 (by rw [e_]; rfl)⟩ : _ ∧ k_ ≠ go36))) (fun _ hk => hk.2) (.int .u32 a1_0)) (fun _ hk => hk.2) (.int .u32 a1_1)) (fun _ hk => hk.2) (.slice none 0 0)) (fun _ hk => hk.2) (.int .u32 ((rd_T40 l0_0 (ji32)).f3))) (fun _ hk => ⟨hk.1.1, ⟨hk.1.2.1, ⟨hk.1.2.2.1, ⟨hk.1.2.2.2.1, ⟨hk.1.2.2.2.2.1, hk.1.2.2.2.2.2⟩⟩⟩⟩⟩)⟩
                      have n4_ : Aside0 (((((w202.setCell ⟨go36, ((ji32) : Int).toNat * 4, none⟩ (.int .u32 a1_0)).setCell ⟨go36, ((ji32) : Int).toNat * 4 + 1, none⟩ (.int .u32 a1_1)).setCell ⟨go36, ((ji32) : Int).toNat * 4 + 2, none⟩ (.slice none 0 0)).setCell ⟨go36, ((ji32) : Int).toNat * 4 + 3, none⟩ (.int .u32 ((rd_T40 l0_0 (ji32)).f3))).heap[gb163]? = some (.cells #[.slice (some ad172) l0_0.length c0_0, .int .u32 a0_1] 25 (0, 0))) := ⟨by (with_reducible repeat (first | refine blk_drewN ?_ _ | refine blk_drew ?_ | refine blk_alloc ?_ _)); refine blk_far ?_ (by have h_ := Kd.N_away HO171.out (fun _ hk => hk.2.1); intro e_; exact h_ (by rw [e_]; rfl)) _; (with_reducible repeat (first | refine blk_drewN ?_ _ | refine blk_drew ?_ | refine blk_alloc ?_ _)); refine blk_far ?_ (by have h_ := Kd.N_away HO171.out (fun _ hk => hk.2.1); intro e_; exact h_ (by rw [e_]; rfl)) _; (with_reducible repeat (first | refine blk_drewN ?_ _ | refine blk_drew ?_ | refine blk_alloc ?_ _)); refine blk_far ?_ (by have h_ := Kd.N_away HO171.out (fun _ hk => hk.2.1); intro e_; exact h_ (by rw [e_]; rfl)) _; (with_reducible repeat (first | refine blk_drewN ?_ _ | refine blk_drew ?_ | refine blk_alloc ?_ _)); refine blk_far ?_ (by have h_ := Kd.N_away HO171.out (fun _ hk => hk.2.1); intro e_; exact h_ (by rw [e_]; rfl)) _; (with_reducible repeat (first | refine blk_drewN ?_ _ | refine blk_drew ?_ | refine blk_alloc ?_ _)); exact BK163.out⟩
                      have n5_ : Aside0 (((((w202.setCell ⟨go36, ((ji32) : Int).toNat * 4, none⟩ (.int .u32 a1_0)).setCell ⟨go36, ((ji32) : Int).toNat * 4 + 1, none⟩ (.int .u32 a1_1)).setCell ⟨go36, ((ji32) : Int).toNat * 4 + 2, none⟩ (.slice none 0 0)).setCell ⟨go36, ((ji32) : Int).toNat * 4 + 3, none⟩ (.int .u32 ((rd_T40 l0_0 (ji32)).f3))).heap[gb164]? = some (.cells #[.int .u32 a1_0, .int .u32 a1_1, .slice A1_2 l1_2.length c1_2, .int .u32 a1_3] 40 (0, 0))) := ⟨by (with_reducible repeat (first | refine blk_drewN ?_ _ | refine blk_drew ?_ | refine blk_alloc ?_ _)); refine blk_far ?_ (by have h_ := Kd.N_away HO171.out (fun _ hk => hk.2.2.1); intro e_; exact h_ (by rw [e_]; rfl)) _; (with_reducible repeat (first | refine blk_drewN ?_ _ | refine blk_drew ?_ | refine blk_alloc ?_ _)); refine blk_far ?_ (by have h_ := Kd.N_away HO171.out (fun _ hk => hk.2.2.1); intro e_; exact h_ (by rw [e_]; rfl)) _; (with_reducible repeat (first | refine blk_drewN ?_ _ | refine blk_drew ?_ | refine blk_alloc ?_ _)); refine blk_far ?_ (by have h_ := Kd.N_away HO171.out (fun _ hk => hk.2.2.1); intro e_; exact h_ (by rw [e_]; rfl)) _; (with_reducible repeat (first | refine blk_drewN ?_ _ | refine blk_drew ?_ | refine blk_alloc ?_ _)); refine blk_far ?_ (by have h_ := Kd.N_away HO171.out (fun _ hk => hk.2.2.1); intro e_; exact h_ (by rw [e_]; rfl)) _; (with_reducible repeat (first | refine blk_drewN ?_ _ | refine blk_drew ?_ | refine blk_alloc ?_ _)); exact BK164.out⟩
                      have n6_ : Aside0 (((((w202.setCell ⟨go36, ((ji32) : Int).toNat * 4, none⟩ (.int .u32 a1_0)).setCell ⟨go36, ((ji32) : Int).toNat * 4 + 1, none⟩ (.int .u32 a1_1)).setCell ⟨go36, ((ji32) : Int).toNat * 4 + 2, none⟩ (.slice none 0 0)).setCell ⟨go36, ((ji32) : Int).toNat * 4 + 3, none⟩ (.int .u32 ((rd_T40 l0_0 (ji32)).f3))).heap[gb165]? = some (.cells #[.int .u32 a2_0, .int .u32 a2_1, .int .u64 a2_2, .int .u64 a2_3, .int .u64 a2_4, .int .u64 a2_5, .int .u64 a2_6, .int .u64 a2_7, .int .u64 a2_8] 44 (0, 0))) := ⟨by (with_reducible repeat (first | refine blk_drewN ?_ _ | refine blk_drew ?_ | refine blk_alloc ?_ _)); refine blk_far ?_ (by have h_ := Kd.N_away HO171.out (fun _ hk => hk.2.2.2.1); intro e_; exact h_ (by rw [e_]; rfl)) _; (with_reducible repeat (first | refine blk_drewN ?_ _ | refine blk_drew ?_ | refine blk_alloc ?_ _)); refine blk_far ?_ (by have h_ := Kd.N_away HO171.out (fun _ hk => hk.2.2.2.1); intro e_; exact h_ (by rw [e_]; rfl)) _; (with_reducible repeat (first | refine blk_drewN ?_ _ | refine blk_drew ?_ | refine blk_alloc ?_ _)); refine blk_far ?_ (by have h_ := Kd.N_away HO171.out (fun _ hk => hk.2.2.2.1); intro e_; exact h_ (by rw [e_]; rfl)) _; (with_reducible repeat (first | refine blk_drewN ?_ _ | refine blk_drew ?_ | refine blk_alloc ?_ _)); refine blk_far ?_ (by have h_ := Kd.N_away HO171.out (fun _ hk => hk.2.2.2.1); intro e_; exact h_ (by rw [e_]; rfl)) _; (with_reducible repeat (first | refine blk_drewN ?_ _ | refine blk_drew ?_ | refine blk_alloc ?_ _)); exact BK165.out⟩
                      have n7_ : Aside0 (((((w202.setCell ⟨go36, ((ji32) : Int).toNat * 4, none⟩ (.int .u32 a1_0)).setCell ⟨go36, ((ji32) : Int).toNat * 4 + 1, none⟩ (.int .u32 a1_1)).setCell ⟨go36, ((ji32) : Int).toNat * 4 + 2, none⟩ (.slice none 0 0)).setCell ⟨go36, ((ji32) : Int).toNat * 4 + 3, none⟩ (.int .u32 ((rd_T40 l0_0 (ji32)).f3))).heap[gb168]? = some (.cells #[.slice (some ⟨go36, 0, none⟩) y169.length co199, .int .u32 a0_1] 25 (0, 0))) := ⟨by (with_reducible repeat (first | refine blk_drewN ?_ _ | refine blk_drew ?_ | refine blk_alloc ?_ _)); refine blk_far ?_ (by have h_ := Kd.N_away HO171.out (fun _ hk => hk.2.2.2.2); intro e_; exact h_ (by rw [e_]; rfl)) _; (with_reducible repeat (first | refine blk_drewN ?_ _ | refine blk_drew ?_ | refine blk_alloc ?_ _)); refine blk_far ?_ (by have h_ := Kd.N_away HO171.out (fun _ hk => hk.2.2.2.2); intro e_; exact h_ (by rw [e_]; rfl)) _; (with_reducible repeat (first | refine blk_drewN ?_ _ | refine blk_drew ?_ | refine blk_alloc ?_ _)); refine blk_far ?_ (by have h_ := Kd.N_away HO171.out (fun _ hk => hk.2.2.2.2); intro e_; exact h_ (by rw [e_]; rfl)) _; (with_reducible repeat (first | refine blk_drewN ?_ _ | refine blk_drew ?_ | refine blk_alloc ?_ _)); refine blk_far ?_ (by have h_ := Kd.N_away HO171.out (fun _ hk => hk.2.2.2.2); intro e_; exact h_ (by rw [e_]; rfl)) _; (with_reducible repeat (first | refine blk_drewN ?_ _ | refine blk_drew ?_ | refine blk_alloc ?_ _)); exact BK168.out⟩
                      have n8_ : Aside0 (Below w.heap.size w ((((w202.setCell ⟨go36, ((ji32) : Int).toNat * 4, none⟩ (.int .u32 a1_0)).setCell ⟨go36, ((ji32) : Int).toNat * 4 + 1, none⟩ (.int .u32 a1_1)).setCell ⟨go36, ((ji32) : Int).toNat * 4 + 2, none⟩ (.slice none 0 0)).setCell ⟨go36, ((ji32) : Int).toNat * 4 + 3, none⟩ (.int .u32 ((rd_T40 l0_0 (ji32)).f3)))) := ⟨by repeat (first | (with_reducible first | exact HB.out | apply below_alloc | apply pw_below_drewN | apply below_drew1 | refine below_set ?_ GB36.out | refine below_set ?_ GB36.out | refine below_set ?_ GB36.out | refine below_set ?_ GB36.out | refine below_set ?_ GE163.out | refine below_set ?_ GE164.out | refine below_set ?_ GE165.out | refine below_set ?_ GE168.out) | exact HB.out)⟩
                      (try clear HO_164000)
                      (try clear HO_165002)
                      (try clear HO171)
                      (try clear HL172_2)
                      (try clear BK163)
                      (try clear BK164)
                      (try clear BK165)
                      (try clear BK168)
                      (try clear HB)
                      generalize ((((w202.setCell ⟨go36, ((ji32) : Int).toNat * 4, none⟩ (.int .u32 a1_0)).setCell ⟨go36, ((ji32) : Int).toNat * 4 + 1, none⟩ (.int .u32 a1_1)).setCell ⟨go36, ((ji32) : Int).toNat * 4 + 2, none⟩ (.slice none 0 0)).setCell ⟨go36, ((ji32) : Int).toNat * 4 + 3, none⟩ (.int .u32 ((rd_T40 l0_0 (ji32)).f3))) = w204 at n0_ n1_ n2_ n3_ n4_ n5_ n6_ n7_ n8_ ⊢
                      have HO_164000 := n0_
                      have HO_165002 := n1_
                      have HO171 := n2_
                      have HL172_2 := n3_
                      have BK163 := n4_
                      have BK164 := n5_
                      have BK165 := n6_
                      have BK168 := n7_
                      have HB := n8_
                      clear n0_ n1_ n2_ n3_ n4_ n5_ n6_ n7_ n8_
                      have hcz205_0 : w204.cell? ⟨gb163, 0, none⟩ = some (.slice (some ad172) l0_0.length c0_0) := (blk_cell BK163.out 0).trans rfl
                      have hcz205_1 : w204.cell? ⟨gb163, 1, none⟩ = some (.int .u32 a0_1) := (blk_cell BK163.out 1).trans rfl
                      have hfz205_0 := blk_frozen BK163.out 0
                      have hfz205_1 := blk_frozen BK163.out 1
                      have hcz206_0 : w204.cell? ⟨gb168, 0, none⟩ = some (.slice (some ⟨go36, 0, none⟩) y169.length co199) := (blk_cell BK168.out 0).trans rfl
                      have hcz206_1 : w204.cell? ⟨gb168, 1, none⟩ = some (.int .u32 a0_1) := (blk_cell BK168.out 1).trans rfl
                      have hfz206_0 := blk_frozen BK168.out 0
                      have hfz206_1 := blk_frozen BK168.out 1
                      have hnb207 := NB164_165.out
                      have hnc207 := NB165_164.out
                      have hcz208_0 : w204.cell? ⟨gb164, 0, none⟩ = some (.int .u32 a1_0) := (blk_cell BK164.out 0).trans rfl
                      have hcz208_1 : w204.cell? ⟨gb164, 1, none⟩ = some (.int .u32 a1_1) := (blk_cell BK164.out 1).trans rfl
                      have hcz208_2 : w204.cell? ⟨gb164, 2, none⟩ = some (.slice A1_2 l1_2.length c1_2) := (blk_cell BK164.out 2).trans rfl
                      have hcz208_3 : w204.cell? ⟨gb164, 3, none⟩ = some (.int .u32 a1_3) := (blk_cell BK164.out 3).trans rfl
                      have hfz208_0 := blk_frozen BK164.out 0
                      have hfz208_1 := blk_frozen BK164.out 1
                      have hfz208_2 := blk_frozen BK164.out 2
                      have hfz208_3 := blk_frozen BK164.out 3
                      try go_wp2_with (first | ((with_reducible refine gate_callee (f := 30) rfl ?_); refine goesL_ (some 79) rfl rfl Try.func30 (by kernel_rfl) rfl #[.agg #[.slice (some ⟨go36, 0, none⟩) y173.length co199, .int .u32 a0_1], .int .i64 (wrap64 ((wrap64 ((ji32) + 1)) + (Int.tmod (wrap64 (a3)) (wrap64 ((l0_0.length : Int) - (ji32)))))), .agg #[.int .u32 a1_0, .int .u32 a1_1, .slice A1_2 l1_2.length c1_2, .int .u32 a1_3]] rfl (by (try simp only [List.map_toArray, List.map_cons, List.map_nil]); first | done | (rw [show y173.length = y169.length from (Kd.N_reads' HO171.out).1.symm] <;> rfl) | (simp only [hji32]; rfl) | rfl | (simp only [List.length_drop, List.length_take]; rfl)) ?_; (with_reducible refine (hurdlelaw11_put.calls (fun k_ => (((P0_0_ k_ ∨ P1_2_ k_) ∨ w.heap.size ≤ k_) ∧ (k_ ≠ gb163 ∧ (k_ ≠ gb164 ∧ (k_ ≠ gb165 ∧ k_ ≠ gb168))))) _ _ y173 a0_1 (wrap64 ((wrap64 ((ji32) + 1)) + (Int.tmod (wrap64 (a3)) (wrap64 ((l0_0.length : Int) - (ji32)))))) a1_0 a1_1 (fun k_ => (((P0_0_ k_ ∨ P1_2_ k_) ∨ w.heap.size ≤ k_) ∧ (some k_ ≠ (.slice (some ⟨go36, 0, none⟩) y169.length co199 : Value).ownBlock ∧ (k_ ≠ gb163 ∧ (k_ ≠ gb164 ∧ (k_ ≠ gb165 ∧ k_ ≠ gb168)))))) _ _ l1_2 a1_3 t174 t177 _ ?side1 ?side2 A38.out).mono ?_); (case side1 => rw [show y173.length = y169.length from (Kd.N_reads' HO171.out).1.symm]; exact Kd.N_V (HO171.out)); (case side2 => exact HO_165002.out); rintro e w209 ⟨v175, rfl, ho0, hb⟩; refine ⟨_, rfl, ?_⟩; have n0_ := Aside0.mk (Kd.V_elder' (by (with_reducible repeat (first | apply Kd.V_alloc | apply Kd.V_drewN | apply Kd.V_drew)); exact HO_164000.out) (Kd.N_base ho0) hb); have n1_ := Aside0.mk (Kd.V_elder' (by (with_reducible repeat (first | apply Kd.V_alloc | apply Kd.V_drewN | apply Kd.V_drew)); exact HO_165002.out) (Kd.N_base ho0) hb); have n2_ := Aside0.mk (Kd.N_elder' (by (with_reducible repeat (first | apply Kd.N_alloc | apply Kd.N_drewN | apply Kd.N_drew)); exact HO171.out) (Kd.N_base ho0) hb); have n3_ := Aside0.mk (Kd.V_elder' (by (with_reducible repeat (first | apply Kd.V_alloc | apply Kd.V_drewN | apply Kd.V_drew)); exact HL172_2.out) (Kd.N_base ho0) hb); have n4_ := Aside0.mk (Kd.N_lower (Kd.N_mono (ok' := fun k_ => ((P0_0_ k_ ∨ P1_2_ k_) ∨ w.heap.size ≤ k_) ∧ k_ ≠ gb163 ∧ k_ ≠ gb164 ∧ k_ ≠ gb165 ∧ k_ ≠ gb168) ho0 (fun k_ hk_ => ⟨Or.elim hk_ (fun hs_ => Or.elim hs_ (fun hs_ => hs_.1) (fun hs_ => hs_.1)) (fun hn_ => (.inr (Nat.le_trans (below_size (by repeat (first | (with_reducible first | exact HB.out | apply below_alloc | apply pw_below_drewN | apply below_drew1 | refine below_set ?_ GE163.out | refine below_set ?_ GE164.out | refine below_set ?_ GE165.out | refine below_set ?_ GE168.out) | exact HB.out))) hn_))), Or.elim hk_ (fun hs_ => Or.elim hs_ (fun hs_ => hs_.2.1) (fun hs_ => hs_.2.2.1)) (fun hn_ => (Kd.freshB (g := gb163) (o := .cells #[.slice (some ad172) l0_0.length c0_0, .int .u32 a0_1] 25 (0, 0)) (by (with_reducible repeat (first | refine blk_drewN ?_ _ | refine blk_drew ?_ | refine blk_alloc ?_ _)); exact BK163.out) k_ hn_)), Or.elim hk_ (fun hs_ => Or.elim hs_ (fun hs_ => hs_.2.2.1) (fun hs_ => hs_.2.2.2.1)) (fun hn_ => (Kd.freshB (g := gb164) (o := .cells #[.int .u32 a1_0, .int .u32 a1_1, .slice A1_2 l1_2.length c1_2, .int .u32 a1_3] 40 (0, 0)) (by (with_reducible repeat (first | refine blk_drewN ?_ _ | refine blk_drew ?_ | refine blk_alloc ?_ _)); exact BK164.out) k_ hn_)), Or.elim hk_ (fun hs_ => Or.elim hs_ (fun hs_ => hs_.2.2.2.1) (fun hs_ => hs_.2.2.2.2.1)) (fun hn_ => (Kd.freshB (g := gb165) (o := .cells #[.int .u32 a2_0, .int .u32 a2_1, .int .u64 a2_2, .int .u64 a2_3, .int .u64 a2_4, .int .u64 a2_5, .int .u64 a2_6, .int .u64 a2_7, .int .u64 a2_8] 44 (0, 0)) (by (with_reducible repeat (first | refine blk_drewN ?_ _ | refine blk_drew ?_ | refine blk_alloc ?_ _)); exact BK165.out) k_ hn_)), Or.elim hk_ (fun hs_ => Or.elim hs_ (fun hs_ => hs_.2.2.2.2) (fun hs_ => hs_.2.2.2.2.2)) (fun hn_ => (Kd.freshB (g := gb168) (o := .cells #[.slice (some ⟨go36, 0, none⟩) y169.length co199, .int .u32 a0_1] 25 (0, 0)) (by (with_reducible repeat (first | refine blk_drewN ?_ _ | refine blk_drew ?_ | refine blk_alloc ?_ _)); exact BK168.out) k_ hn_))⟩)) (below_size (by repeat (first | (with_reducible first | exact HB.out | apply below_alloc | apply pw_below_drewN | apply below_drew1 | refine below_set ?_ GE163.out | refine below_set ?_ GE164.out | refine below_set ?_ GE165.out | refine below_set ?_ GE168.out) | exact HB.out)))); have n5_ := Aside0.mk (blk_below (g := gb163) (o := .cells #[.slice (some ad172) l0_0.length c0_0, .int .u32 a0_1] 25 (0, 0)) (by (with_reducible repeat (first | refine blk_drewN ?_ _ | refine blk_drew ?_ | refine blk_alloc ?_ _)); exact BK163.out) hb); have n6_ := Aside0.mk (blk_below (g := gb164) (o := .cells #[.int .u32 a1_0, .int .u32 a1_1, .slice A1_2 l1_2.length c1_2, .int .u32 a1_3] 40 (0, 0)) (by (with_reducible repeat (first | refine blk_drewN ?_ _ | refine blk_drew ?_ | refine blk_alloc ?_ _)); exact BK164.out) hb); have n7_ := Aside0.mk (blk_below (g := gb165) (o := .cells #[.int .u32 a2_0, .int .u32 a2_1, .int .u64 a2_2, .int .u64 a2_3, .int .u64 a2_4, .int .u64 a2_5, .int .u64 a2_6, .int .u64 a2_7, .int .u64 a2_8] 44 (0, 0)) (by (with_reducible repeat (first | refine blk_drewN ?_ _ | refine blk_drew ?_ | refine blk_alloc ?_ _)); exact BK165.out) hb); have n8_ := Aside0.mk (blk_below (g := gb168) (o := .cells #[.slice (some ⟨go36, 0, none⟩) y169.length co199, .int .u32 a0_1] 25 (0, 0)) (by (with_reducible repeat (first | refine blk_drewN ?_ _ | refine blk_drew ?_ | refine blk_alloc ?_ _)); exact BK168.out) hb); have n9_ := Aside0.mk (below_step (by repeat (first | (with_reducible first | exact HB.out | apply below_alloc | apply pw_below_drewN | apply below_drew1 | refine below_set ?_ GE163.out | refine below_set ?_ GE164.out | refine below_set ?_ GE165.out | refine below_set ?_ GE168.out) | exact HB.out)) hb); clear HO_164000; clear HO_165002; clear HO171; clear HL172_2; clear BK163; clear BK164; clear BK165; clear BK168; clear HB; have HO_164000 := n0_; have HO_165002 := n1_; have HO171 := n2_; have HL172_2 := n3_; have HO176 := n4_; have BK163 := n5_; have BK164 := n6_; have BK165 := n7_; have BK168 := n8_; have HB := n9_; clear n0_ n1_ n2_ n3_ n4_ n5_ n6_ n7_ n8_ n9_; (try clear hb); (try clear hb2); (try clear hk); (try clear hi); (try clear ho0)) | ((with_reducible refine gate_dst (N := 14) rfl ?_); (try (refine gate_guard (by rfl) ?_; dsimp only)); refine box_event ?hg (N := 14) ?hd (cs := #[.slice none 0 0, .int .u32 0]) (t := 25) ?hr ?_; (case hd => rfl); (case hg => rfl); (case hr => first | (go_simp; done) | (go_simp; rfl)); intro gb178 hg w210 hbox hb; have n0_ := Aside0.mk (Kd.V_below (Kd.V_elderB (by (with_reducible repeat (first | apply Kd.V_alloc | apply Kd.V_drewN | apply Kd.V_drew)); exact HO_164000.out) gb178 (Nat.le_of_eq hg.symm)) hb); have n1_ := Aside0.mk (Kd.V_below (Kd.V_elderB (by (with_reducible repeat (first | apply Kd.V_alloc | apply Kd.V_drewN | apply Kd.V_drew)); exact HO_165002.out) gb178 (Nat.le_of_eq hg.symm)) hb); have n2_ := Aside0.mk (Kd.N_below (Kd.N_elderB (by (with_reducible repeat (first | apply Kd.N_alloc | apply Kd.N_drewN | apply Kd.N_drew)); exact HO171.out) gb178 (Nat.le_of_eq hg.symm)) hb); have n3_ := Aside0.mk (Kd.V_below (Kd.V_elderB (by (with_reducible repeat (first | apply Kd.V_alloc | apply Kd.V_drewN | apply Kd.V_drew)); exact HL172_2.out) gb178 (Nat.le_of_eq hg.symm)) hb); have n4_ := Aside0.mk (Kd.N_below (Kd.N_elderB (by (with_reducible repeat (first | apply Kd.N_alloc | apply Kd.N_drewN | apply Kd.N_drew)); exact HO176.out) gb178 (Nat.le_of_eq hg.symm)) hb); have n5_ := Aside0.mk (blk_below (g := gb163) (o := .cells #[.slice (some ad172) l0_0.length c0_0, .int .u32 a0_1] 25 (0, 0)) (by (with_reducible repeat (first | refine blk_drewN ?_ _ | refine blk_drew ?_ | refine blk_alloc ?_ _)); exact BK163.out) hb); have n6_ := Aside0.mk (blk_below (g := gb164) (o := .cells #[.int .u32 a1_0, .int .u32 a1_1, .slice A1_2 l1_2.length c1_2, .int .u32 a1_3] 40 (0, 0)) (by (with_reducible repeat (first | refine blk_drewN ?_ _ | refine blk_drew ?_ | refine blk_alloc ?_ _)); exact BK164.out) hb); have n7_ := Aside0.mk (blk_below (g := gb165) (o := .cells #[.int .u32 a2_0, .int .u32 a2_1, .int .u64 a2_2, .int .u64 a2_3, .int .u64 a2_4, .int .u64 a2_5, .int .u64 a2_6, .int .u64 a2_7, .int .u64 a2_8] 44 (0, 0)) (by (with_reducible repeat (first | refine blk_drewN ?_ _ | refine blk_drew ?_ | refine blk_alloc ?_ _)); exact BK165.out) hb); have n8_ := Aside0.mk (blk_below (g := gb168) (o := .cells #[.slice (some ⟨go36, 0, none⟩) y169.length co199, .int .u32 a0_1] 25 (0, 0)) (by (with_reducible repeat (first | refine blk_drewN ?_ _ | refine blk_drew ?_ | refine blk_alloc ?_ _)); exact BK168.out) hb); have n9_ := Aside0.mk (below_step (by repeat (first | (with_reducible first | exact HB.out | apply below_alloc | apply pw_below_drewN | apply below_drew1 | refine below_set ?_ GE163.out | refine below_set ?_ GE164.out | refine below_set ?_ GE165.out | refine below_set ?_ GE168.out) | exact HB.out)) hb); have n10_ := Aside0.mk (hbox); have n11_ := Aside0.mk ((by rw [hg]; exact (below_size (by repeat (first | (with_reducible first | exact HB.out | apply below_alloc | apply pw_below_drewN | apply below_drew1 | refine below_set ?_ GE163.out | refine below_set ?_ GE164.out | refine below_set ?_ GE165.out | refine below_set ?_ GE168.out) | exact HB.out))) : w.heap.size ≤ gb178)); have n12_ := Aside0.mk ((by rw [hg]; exact (below_size (by repeat (first | (with_reducible first | exact HB.out | apply below_alloc | apply pw_below_drewN | apply below_drew1 | refine below_set ?_ GE163.out | refine below_set ?_ GE164.out | refine below_set ?_ GE165.out | refine below_set ?_ GE168.out) | exact HB.out))) : w.heap.size ≤ gb178)); have n13_ := Aside0.mk ((by rw [hg]; exact Nat.ne_of_lt (blk_lt (g := gb163) (o := .cells #[.slice (some ad172) l0_0.length c0_0, .int .u32 a0_1] 25 (0, 0)) (by (with_reducible repeat (first | refine blk_drewN ?_ _ | refine blk_drew ?_ | refine blk_alloc ?_ _)); exact BK163.out)) : gb163 ≠ gb178)); have n14_ := Aside0.mk ((by rw [hg]; exact Nat.ne_of_gt (blk_lt (g := gb163) (o := .cells #[.slice (some ad172) l0_0.length c0_0, .int .u32 a0_1] 25 (0, 0)) (by (with_reducible repeat (first | refine blk_drewN ?_ _ | refine blk_drew ?_ | refine blk_alloc ?_ _)); exact BK163.out)) : gb178 ≠ gb163)); have n15_ := Aside0.mk ((by rw [hg]; exact Nat.ne_of_lt (blk_lt (g := gb164) (o := .cells #[.int .u32 a1_0, .int .u32 a1_1, .slice A1_2 l1_2.length c1_2, .int .u32 a1_3] 40 (0, 0)) (by (with_reducible repeat (first | refine blk_drewN ?_ _ | refine blk_drew ?_ | refine blk_alloc ?_ _)); exact BK164.out)) : gb164 ≠ gb178)); have n16_ := Aside0.mk ((by rw [hg]; exact Nat.ne_of_gt (blk_lt (g := gb164) (o := .cells #[.int .u32 a1_0, .int .u32 a1_1, .slice A1_2 l1_2.length c1_2, .int .u32 a1_3] 40 (0, 0)) (by (with_reducible repeat (first | refine blk_drewN ?_ _ | refine blk_drew ?_ | refine blk_alloc ?_ _)); exact BK164.out)) : gb178 ≠ gb164)); have n17_ := Aside0.mk ((by rw [hg]; exact Nat.ne_of_lt (blk_lt (g := gb165) (o := .cells #[.int .u32 a2_0, .int .u32 a2_1, .int .u64 a2_2, .int .u64 a2_3, .int .u64 a2_4, .int .u64 a2_5, .int .u64 a2_6, .int .u64 a2_7, .int .u64 a2_8] 44 (0, 0)) (by (with_reducible repeat (first | refine blk_drewN ?_ _ | refine blk_drew ?_ | refine blk_alloc ?_ _)); exact BK165.out)) : gb165 ≠ gb178)); have n18_ := Aside0.mk ((by rw [hg]; exact Nat.ne_of_gt (blk_lt (g := gb165) (o := .cells #[.int .u32 a2_0, .int .u32 a2_1, .int .u64 a2_2, .int .u64 a2_3, .int .u64 a2_4, .int .u64 a2_5, .int .u64 a2_6, .int .u64 a2_7, .int .u64 a2_8] 44 (0, 0)) (by (with_reducible repeat (first | refine blk_drewN ?_ _ | refine blk_drew ?_ | refine blk_alloc ?_ _)); exact BK165.out)) : gb178 ≠ gb165)); have n19_ := Aside0.mk ((by rw [hg]; exact Nat.ne_of_lt (blk_lt (g := gb168) (o := .cells #[.slice (some ⟨go36, 0, none⟩) y169.length co199, .int .u32 a0_1] 25 (0, 0)) (by (with_reducible repeat (first | refine blk_drewN ?_ _ | refine blk_drew ?_ | refine blk_alloc ?_ _)); exact BK168.out)) : gb168 ≠ gb178)); have n20_ := Aside0.mk ((by rw [hg]; exact Nat.ne_of_gt (blk_lt (g := gb168) (o := .cells #[.slice (some ⟨go36, 0, none⟩) y169.length co199, .int .u32 a0_1] 25 (0, 0)) (by (with_reducible repeat (first | refine blk_drewN ?_ _ | refine blk_drew ?_ | refine blk_alloc ?_ _)); exact BK168.out)) : gb178 ≠ gb168)); clear HO_164000; clear HO_165002; clear HO171; clear HL172_2; clear HO176; clear BK163; clear BK164; clear BK165; clear BK168; clear HB; have HO_164000 := n0_; have HO_165002 := n1_; have HO171 := n2_; have HL172_2 := n3_; have HO176 := n4_; have BK163 := n5_; have BK164 := n6_; have BK165 := n7_; have BK168 := n8_; have HB := n9_; have BK178 := n10_; have GW178 := n11_; have GE178 := n12_; have NB163_178 := n13_; have NB178_163 := n14_; have NB164_178 := n15_; have NB178_164 := n16_; have NB165_178 := n17_; have NB178_165 := n18_; have NB168_178 := n19_; have NB178_168 := n20_; clear n0_ n1_ n2_ n3_ n4_ n5_ n6_ n7_ n8_ n9_ n10_ n11_ n12_ n13_ n14_ n15_ n16_ n17_ n18_ n19_ n20_; clear hb hbox hg; obtain ⟨Ao211, co211, eo211⟩ := Kd.N_slice HO176.out; subst eo211; have hnb212 := NB178_163.out; have hnc212 := NB163_178.out; have hnb213 := NB178_164.out; have hnc213 := NB164_178.out; have hnb214 := NB178_165.out; have hnc214 := NB165_178.out; have hnb215 := NB178_168.out; have hnc215 := NB168_178.out; have hcz216_0 : w210.cell? ⟨gb178, 0, none⟩ = some (.slice none 0 0) := (blk_cell BK178.out 0).trans rfl; have hcz216_1 : w210.cell? ⟨gb178, 1, none⟩ = some (.int .u32 0) := (blk_cell BK178.out 1).trans rfl; have hfz216_0 := blk_frozen BK178.out 0; have hfz216_1 := blk_frozen BK178.out 1) | ((with_reducible refine gate_callee (f := 17) rfl ?_); refine goesL_ (some 81) rfl rfl Try.func17 (by kernel_rfl) rfl #[.agg #[.slice Ao211 t174.length co211, .int .u32 t177]] rfl (by (try simp only [List.map_toArray, List.map_cons, List.map_nil]); first | done | rfl | (simp only [List.length_drop, List.length_take]; rfl)) ?_; (with_reducible refine (hurdleref10_Right.calls _ _ t174 t177 false _ ?side1 ?side2 A39.out).mono ?_); (case side1 => refine (Kd.N_reads' (e := 40) (base := w.heap.size) (ok := fun k_ => ((((P0_0_ k_ ∨ P1_2_ k_) ∨ w.heap.size ≤ k_) ∧ (k_ ≠ gb163 ∧ (k_ ≠ gb164 ∧ (k_ ≠ gb165 ∧ k_ ≠ gb168)))) ∧ k_ ≠ gb178)) (n := t174.length) (c := co211) ?_).2.2; exact (by (with_reducible repeat (first | apply Kd.N_alloc | apply Kd.N_drewN | apply Kd.N_drew)); exact (Kd.N_mono (Kd.N_far (p := ⟨gb178, 1, none⟩) (Kd.N_far (p := ⟨gb178, 0, none⟩) (Kd.N_mono HO176.out (fun k_ hk => (⟨hk, hk.2⟩ : _ ∧ k_ ≠ gb178))) (fun _ hk => hk.2) (.slice Ao211 t174.length co211)) (fun _ hk => hk.2) (.int .u32 t177)) (fun _ h_ => h_.1)))); (case side2 => exact (Kd.N_reads' HO176.out).2.1); rintro e w217 ⟨rfl, hb⟩; refine ⟨_, rfl, ?_⟩; have n0_ := Aside0.mk (Kd.V_below (by (with_reducible repeat (first | apply Kd.V_alloc | apply Kd.V_drewN | apply Kd.V_drew)); exact (Kd.V_mono (Kd.V_far (p := ⟨gb178, 1, none⟩) (Kd.V_far (p := ⟨gb178, 0, none⟩) (Kd.V_mono HO_164000.out (fun k_ hk => (⟨hk, hk.2⟩ : _ ∧ k_ ≠ gb178))) (fun _ hk => hk.2) (.slice Ao211 t174.length co211)) (fun _ hk => hk.2) (.int .u32 t177)) (fun _ h_ => h_.1))) hb); have n1_ := Aside0.mk (Kd.V_below (by (with_reducible repeat (first | apply Kd.V_alloc | apply Kd.V_drewN | apply Kd.V_drew)); exact (Kd.V_mono (Kd.V_far (p := ⟨gb178, 1, none⟩) (Kd.V_far (p := ⟨gb178, 0, none⟩) (Kd.V_mono HO_165002.out (fun k_ hk => (⟨hk, hk.2⟩ : _ ∧ k_ ≠ gb178))) (fun _ hk => hk.2) (.slice Ao211 t174.length co211)) (fun _ hk => hk.2) (.int .u32 t177)) (fun _ h_ => h_.1))) hb); have n2_ := Aside0.mk (Kd.N_below (by (with_reducible repeat (first | apply Kd.N_alloc | apply Kd.N_drewN | apply Kd.N_drew)); exact (Kd.N_mono (Kd.N_far (p := ⟨gb178, 1, none⟩) (Kd.N_far (p := ⟨gb178, 0, none⟩) (Kd.N_mono HO171.out (fun k_ hk => (⟨hk, hk.2⟩ : _ ∧ k_ ≠ gb178))) (fun _ hk => hk.2) (.slice Ao211 t174.length co211)) (fun _ hk => hk.2) (.int .u32 t177)) (fun _ h_ => h_.1))) hb); have n3_ := Aside0.mk (Kd.V_below (by (with_reducible repeat (first | apply Kd.V_alloc | apply Kd.V_drewN | apply Kd.V_drew)); exact (Kd.V_mono (Kd.V_far (p := ⟨gb178, 1, none⟩) (Kd.V_far (p := ⟨gb178, 0, none⟩) (Kd.V_mono HL172_2.out (fun k_ hk => (⟨hk, hk.2⟩ : _ ∧ k_ ≠ gb178))) (fun _ hk => hk.2) (.slice Ao211 t174.length co211)) (fun _ hk => hk.2) (.int .u32 t177)) (fun _ h_ => h_.1))) hb); have n4_ := Aside0.mk (Kd.N_below (by (with_reducible repeat (first | apply Kd.N_alloc | apply Kd.N_drewN | apply Kd.N_drew)); exact (Kd.N_mono (Kd.N_far (p := ⟨gb178, 1, none⟩) (Kd.N_far (p := ⟨gb178, 0, none⟩) (Kd.N_mono HO176.out (fun k_ hk => (⟨hk, hk.2⟩ : _ ∧ k_ ≠ gb178))) (fun _ hk => hk.2) (.slice Ao211 t174.length co211)) (fun _ hk => hk.2) (.int .u32 t177)) (fun _ h_ => h_.1))) hb); have n5_ := Aside0.mk (blk_below (g := gb163) (o := .cells #[.slice (some ad172) l0_0.length c0_0, .int .u32 a0_1] 25 (0, 0)) (by (with_reducible repeat (first | refine blk_drewN ?_ _ | refine blk_drew ?_ | refine blk_alloc ?_ _)); refine blk_far ?_ NB163_178.out _; (with_reducible repeat (first | refine blk_drewN ?_ _ | refine blk_drew ?_ | refine blk_alloc ?_ _)); refine blk_far ?_ NB163_178.out _; (with_reducible repeat (first | refine blk_drewN ?_ _ | refine blk_drew ?_ | refine blk_alloc ?_ _)); exact BK163.out) hb); have n6_ := Aside0.mk (blk_below (g := gb164) (o := .cells #[.int .u32 a1_0, .int .u32 a1_1, .slice A1_2 l1_2.length c1_2, .int .u32 a1_3] 40 (0, 0)) (by (with_reducible repeat (first | refine blk_drewN ?_ _ | refine blk_drew ?_ | refine blk_alloc ?_ _)); refine blk_far ?_ NB164_178.out _; (with_reducible repeat (first | refine blk_drewN ?_ _ | refine blk_drew ?_ | refine blk_alloc ?_ _)); refine blk_far ?_ NB164_178.out _; (with_reducible repeat (first | refine blk_drewN ?_ _ | refine blk_drew ?_ | refine blk_alloc ?_ _)); exact BK164.out) hb); have n7_ := Aside0.mk (blk_below (g := gb165) (o := .cells #[.int .u32 a2_0, .int .u32 a2_1, .int .u64 a2_2, .int .u64 a2_3, .int .u64 a2_4, .int .u64 a2_5, .int .u64 a2_6, .int .u64 a2_7, .int .u64 a2_8] 44 (0, 0)) (by (with_reducible repeat (first | refine blk_drewN ?_ _ | refine blk_drew ?_ | refine blk_alloc ?_ _)); refine blk_far ?_ NB165_178.out _; (with_reducible repeat (first | refine blk_drewN ?_ _ | refine blk_drew ?_ | refine blk_alloc ?_ _)); refine blk_far ?_ NB165_178.out _; (with_reducible repeat (first | refine blk_drewN ?_ _ | refine blk_drew ?_ | refine blk_alloc ?_ _)); exact BK165.out) hb); have n8_ := Aside0.mk (blk_below (g := gb168) (o := .cells #[.slice (some ⟨go36, 0, none⟩) y169.length co199, .int .u32 a0_1] 25 (0, 0)) (by (with_reducible repeat (first | refine blk_drewN ?_ _ | refine blk_drew ?_ | refine blk_alloc ?_ _)); refine blk_far ?_ NB168_178.out _; (with_reducible repeat (first | refine blk_drewN ?_ _ | refine blk_drew ?_ | refine blk_alloc ?_ _)); refine blk_far ?_ NB168_178.out _; (with_reducible repeat (first | refine blk_drewN ?_ _ | refine blk_drew ?_ | refine blk_alloc ?_ _)); exact BK168.out) hb); have n9_ := Aside0.mk (blk_below (g := gb178) (o := .cells #[.slice Ao211 t174.length co211, .int .u32 t177] 25 (0, 0)) (by (with_reducible repeat (first | refine blk_drewN ?_ _ | refine blk_drew ?_ | refine blk_alloc ?_ _)); refine blk_put (cs := #[.slice Ao211 t174.length co211, .int .u32 0]) ?_ 1 _ rfl; (with_reducible repeat (first | refine blk_drewN ?_ _ | refine blk_drew ?_ | refine blk_alloc ?_ _)); refine blk_put (cs := #[.slice none 0 0, .int .u32 0]) ?_ 0 _ rfl; (with_reducible repeat (first | refine blk_drewN ?_ _ | refine blk_drew ?_ | refine blk_alloc ?_ _)); exact BK178.out) hb); have n10_ := Aside0.mk (below_step (by repeat (first | (with_reducible first | exact HB.out | apply below_alloc | apply pw_below_drewN | apply below_drew1 | refine below_set ?_ GE163.out | refine below_set ?_ GE164.out | refine below_set ?_ GE165.out | refine below_set ?_ GE168.out | refine below_set ?_ GE178.out) | exact HB.out)) hb); clear HO_164000; clear HO_165002; clear HO171; clear HL172_2; clear HO176; clear BK163; clear BK164; clear BK165; clear BK168; clear BK178; clear HB; have HO_164000 := n0_; have HO_165002 := n1_; have HO171 := n2_; have HL172_2 := n3_; have HO176 := n4_; have BK163 := n5_; have BK164 := n6_; have BK165 := n7_; have BK168 := n8_; have BK178 := n9_; have HB := n10_; clear n0_ n1_ n2_ n3_ n4_ n5_ n6_ n7_ n8_ n9_ n10_; (try clear hb); (try clear hb2); (try clear hk); (try clear hi)) | ((with_reducible refine gate_callee (f := 23) rfl ?_); refine goesL_ (some 83) rfl rfl Try.func23 (by kernel_rfl) rfl #[] rfl (by (try simp only [List.map_toArray, List.map_cons, List.map_nil]); first | done | rfl | (simp only [List.length_drop, List.length_take]; rfl)) ?_; (with_reducible refine (hurdlelaw11_knows.calls  t185 _ A188.out).mono ?_); rintro e w218 ⟨rfl, hb⟩; refine ⟨_, rfl, ?_⟩; have n0_ := Aside0.mk (Kd.V_below (by (with_reducible repeat (first | apply Kd.V_alloc | apply Kd.V_drewN | apply Kd.V_drew)); exact HO_164000.out) hb); have n1_ := Aside0.mk (Kd.V_below (by (with_reducible repeat (first | apply Kd.V_alloc | apply Kd.V_drewN | apply Kd.V_drew)); exact HO_165002.out) hb); have n2_ := Aside0.mk (Kd.N_below (by (with_reducible repeat (first | apply Kd.N_alloc | apply Kd.N_drewN | apply Kd.N_drew)); exact HO171.out) hb); have n3_ := Aside0.mk (Kd.V_below (by (with_reducible repeat (first | apply Kd.V_alloc | apply Kd.V_drewN | apply Kd.V_drew)); exact HL172_2.out) hb); have n4_ := Aside0.mk (Kd.N_below (by (with_reducible repeat (first | apply Kd.N_alloc | apply Kd.N_drewN | apply Kd.N_drew)); exact HO176.out) hb); have n5_ := Aside0.mk (blk_below (g := gb163) (o := .cells #[.slice (some ad172) l0_0.length c0_0, .int .u32 a0_1] 25 (0, 0)) (by (with_reducible repeat (first | refine blk_drewN ?_ _ | refine blk_drew ?_ | refine blk_alloc ?_ _)); exact BK163.out) hb); have n6_ := Aside0.mk (blk_below (g := gb164) (o := .cells #[.int .u32 a1_0, .int .u32 a1_1, .slice A1_2 l1_2.length c1_2, .int .u32 a1_3] 40 (0, 0)) (by (with_reducible repeat (first | refine blk_drewN ?_ _ | refine blk_drew ?_ | refine blk_alloc ?_ _)); exact BK164.out) hb); have n7_ := Aside0.mk (blk_below (g := gb165) (o := .cells #[.int .u32 a2_0, .int .u32 a2_1, .int .u64 a2_2, .int .u64 a2_3, .int .u64 a2_4, .int .u64 a2_5, .int .u64 a2_6, .int .u64 a2_7, .int .u64 a2_8] 44 (0, 0)) (by (with_reducible repeat (first | refine blk_drewN ?_ _ | refine blk_drew ?_ | refine blk_alloc ?_ _)); exact BK165.out) hb); have n8_ := Aside0.mk (blk_below (g := gb168) (o := .cells #[.slice (some ⟨go36, 0, none⟩) y169.length co199, .int .u32 a0_1] 25 (0, 0)) (by (with_reducible repeat (first | refine blk_drewN ?_ _ | refine blk_drew ?_ | refine blk_alloc ?_ _)); exact BK168.out) hb); have n9_ := Aside0.mk (blk_below (g := gb178) (o := .cells #[.slice Ao211 t174.length co211, .int .u32 t177] 25 (0, 0)) (by (with_reducible repeat (first | refine blk_drewN ?_ _ | refine blk_drew ?_ | refine blk_alloc ?_ _)); exact BK178.out) hb); have n10_ := Aside0.mk (below_step (by repeat (first | (with_reducible first | exact HB.out | apply below_alloc | apply pw_below_drewN | apply below_drew1 | refine below_set ?_ GE163.out | refine below_set ?_ GE164.out | refine below_set ?_ GE165.out | refine below_set ?_ GE168.out | refine below_set ?_ GE178.out) | exact HB.out)) hb); clear HO_164000; clear HO_165002; clear HO171; clear HL172_2; clear HO176; clear BK163; clear BK164; clear BK165; clear BK168; clear BK178; clear HB; have HO_164000 := n0_; have HO_165002 := n1_; have HO171 := n2_; have HL172_2 := n3_; have HO176 := n4_; have BK163 := n5_; have BK164 := n6_; have BK165 := n7_; have BK168 := n8_; have BK178 := n9_; have HB := n10_; clear n0_ n1_ n2_ n3_ n4_ n5_ n6_ n7_ n8_ n9_ n10_; (try clear hb); (try clear hb2); (try clear hk); (try clear hi)))
                      go_ret
                      exact ⟨by first | rfl | (simp [errW_none, errW_some] <;> rfl) | (simp only [← hji32]; first | rfl | (simp [errW_none, errW_some] <;> rfl)) | (simp [*, errW_none, errW_some] <;> rfl), by repeat (first | (with_reducible first | exact HB.out | apply below_alloc | apply pw_below_drewN | apply below_drew1 | refine below_set ?_ GE163.out | refine below_set ?_ GE164.out | refine below_set ?_ GE165.out | refine below_set ?_ GE168.out | refine below_set ?_ GE178.out) | exact HB.out)⟩
                · rw [if_neg c35] at H
                  exact absurd H (by simp)
              · rw [if_neg c34] at H
                exact absurd H (by simp)
            · rw [if_neg c33] at H
              exact absurd H (by simp)
          · rw [if_neg c31] at H
            exact absurd H (by simp)
end Go.Proofs.Ytekpbgmmogpbdaa.D
set_option linter.unusedVariables false
set_option linter.unusedSimpArgs false
set_option maxRecDepth 100000
namespace Go.Proofs.Ytekpbgmmogpbdaa.H
open Go.RowKit Go.Proofs.YtekpbgmmogpbdaaW.PrintWords Go.ChangeShapes Go.WideShapes
section
variable {H : Type} {enc : TypeId × Value → H} {P : Program} {w : World} {base : Nat} {spare : Nat → Bool} {held : Bool} {fuel : Nat} {t : TypeId} {cs : List Value} {x : DataW H × List MemPlace}
theorem trod_arr_ints {n : Nat} {e : TypeId} {k : IntKind} (ht : P.underlying t = some (.array n e)) (he : P.underlying e = some (.int k)) (hc : P.cellsOf e = 1) (hct : P.cellsOf t = n)
    (h : DataW.trod enc P w base spare held fuel t cs = some x) :
    ∃ xs : List Int, xs.length = n ∧ cs = nums k xs ∧ x.2 = [] ∧ ∀ i, i < n → (Lit.int k (xs.getD i 0)).wf = true := by
  obtain ⟨ys, m, _, rfl, hl, hly, hf⟩ := DataW.trod_array ht h
  rw [hct] at hl
  have key : ∀ i, i < n → ∃ z y, cs[i]? = some (.int k z) ∧ ys[i]? = some y ∧ y.2 = [] ∧ (Lit.int k z).wf = true := by
    intro i hi
    have h1 := hf i hi
    rw [hc, Nat.mul_one, List.getElem?_eq_getElem (show i < ys.length by omega)] at h1
    obtain ⟨z, h2, h3, h4⟩ := DataW.trod_int he h1
    refine ⟨z, ys[i]'(by omega), ?_, List.getElem?_eq_getElem (by omega), by rw [h3], h4⟩
    have h5 : (cs.drop i).take 1 = [cs[i]'(by omega)] := by
      rw [List.take_one, List.head?_drop, List.getElem?_eq_getElem (show i < cs.length by omega)]
      rfl
    rw [h5] at h2
    rw [List.getElem?_eq_getElem (show i < cs.length by omega)]
    simpa using h2
  refine ⟨cs.map intOf, by simpa using hl, ?_, ?_, ?_⟩
  · apply List.ext_getElem?
    intro i
    by_cases hi : i < n
    · obtain ⟨z, y, h1, _⟩ := key i hi
      simp [nums, h1, intOf]
    · rw [List.getElem?_eq_none (by omega), List.getElem?_eq_none (by simp [nums]; omega)]
  · show ys.flatMap (·.2) = []
    rw [List.flatMap_eq_nil_iff]
    intro y hy
    obtain ⟨i, hi, rfl⟩ := List.mem_iff_getElem.1 hy
    obtain ⟨z, y, _, h2, h3, _⟩ := key i (by omega)
    rw [List.getElem?_eq_getElem hi] at h2
    cases h2
    exact h3
  · intro i hi
    obtain ⟨z, y, h1, _, _, h4⟩ := key i hi
    rw [show (cs.map intOf).getD i 0 = z by simp [List.getD_eq_getElem?_getD, h1, intOf]]
    exact h4
end
end Go.Proofs.Ytekpbgmmogpbdaa.H
set_option linter.unusedVariables false
set_option linter.unusedSimpArgs false
set_option maxRecDepth 100000
namespace Go.Proofs.Ytekpbgmmogpbdaa.H
open Go.RowKit Go.Proofs.Ytekpbgmmogpbdaa.P Go.Proofs.YtekpbgmmogpbdaaW.PrintWords Go.ChangeShapes Go.WideShapes
section
variable {H : Type} {enc : TypeId × Value → H} {w : World} {base : Nat} {spare : Nat → Bool} {held : Bool} {fuel : Nat} {x : DataW H × List MemPlace}
theorem open_kd {α : Type} (d : Kd α) (Q : α → Prop) {t e : TypeId} (ht : Try.prog.underlying t = some (.slice e)) (hs : Try.prog.cellsOf e = d.sz) {cs : List Value}
    (el : ∀ (n : Nat) (cs : List Value) (x : DataW H × List MemPlace), cs.length = d.sz → DataW.trod enc Try.prog w base spare held n e cs = some x → ∃ a : α, d.K w a cs ∧ Q a)
    (h : DataW.trod enc Try.prog w base spare held fuel t cs = some x) :
    ∃ A c L, cs = [.slice A L.length c] ∧ L.length ≤ c ∧ d.C w A L.length L ∧ ∀ a ∈ L, Q a := by
  rcases DataW.trod_slice ht h with ⟨rfl, _⟩ | ⟨a, len, cap, elems, rest, n, _, rfl, _, hb, hl, hm, hlen, hel, _⟩
  · exact ⟨none, 0, [], rfl, Nat.le_refl _, ⟨rfl, by simp, fun h => absurd h (by simp)⟩, by simp⟩
  · have key : ∀ i, i < len → ∃ cs', w.cells? base (a.add (i * d.sz)) d.sz = some cs' ∧ ∃ z : α, d.K w z cs' ∧ Q z := by
      intro i hi
      have h1 := hel i hi
      rw [hs, List.getElem?_eq_getElem (show i < elems.length by omega)] at h1
      obtain ⟨cs', h2, h3⟩ := Option.bind_eq_some_iff.1 h1
      exact ⟨cs', h2, el n cs' _ (World.cells?_some h2).2.1 h3⟩
    have : ∃ L : List α, L.length = len ∧ ∀ i (hi : i < L.length), ∃ cs', w.cells? base (a.add (i * d.sz)) d.sz = some cs' ∧ d.K w L[i] cs' ∧ Q L[i] := by
      have : ∀ m, m ≤ len → ∃ L : List α, L.length = m ∧ ∀ i (hi : i < L.length), ∃ cs', w.cells? base (a.add (i * d.sz)) d.sz = some cs' ∧ d.K w L[i] cs' ∧ Q L[i] := by
        intro m
        induction m with
        | zero => intro _; exact ⟨[], rfl, fun i hi => absurd hi (by simp)⟩
        | succ m ih =>
          intro hm
          obtain ⟨L, hL, hp⟩ := ih (by omega)
          obtain ⟨cs', h1, z, h2, h3⟩ := key m (by omega)
          refine ⟨L ++ [z], by simp [hL], fun i hi => ?_⟩
          by_cases hlt : i < L.length
          · obtain ⟨c2, g1, g2, g3⟩ := hp i hlt
            exact ⟨c2, g1, by rw [List.getElem_append_left hlt]; exact g2, by rw [List.getElem_append_left hlt]; exact g3⟩
          · have e : i = m := by simp at hi; omega
            subst e
            have hz : (L ++ [z])[i] = z := by rw [List.getElem_append_right (by omega)]; simp [hL]
            exact ⟨cs', h1, by rw [hz]; exact h2, by rw [hz]; exact h3⟩
      exact this len (Nat.le_refl _)
    obtain ⟨L, hL, hp⟩ := this
    subst hL
    refine ⟨some a, cap, L, rfl, hl, ⟨rfl, ?_, fun _ => ⟨a, rfl, fun j p hj => ?_⟩⟩, fun z hz => ?_⟩
    · unfold maxLen at hm; omega
    · obtain ⟨hlt, rfl⟩ := List.getElem?_eq_some_iff.1 hj
      obtain ⟨cs', h1, h2, h3⟩ := hp j hlt
      obtain ⟨_, h5, h6⟩ := World.cells?_some h1
      refine ⟨cs', h5, h2, fun i u hu => ?_⟩
      have hi : i < d.sz := by rw [← h5]; exact (List.getElem?_eq_some_iff.1 hu).1
      have := h6 i hi
      rw [hu] at this
      rw [← Go.Proofs.YtekpbgmmogpbdaaW.PrintWords.add_add]
      exact this
    · obtain ⟨i, hi, rfl⟩ := List.mem_iff_getElem.1 hz
      obtain ⟨_, _, _, h⟩ := hp i hi
      exact h
theorem wf32 {n : Int} (h : (Lit.int .u32 n).wf = true) : u32P n := by have := bounds_u32 h; unfold u32P; omega
theorem wf64 {n : Int} (h : (Lit.int .u64 n).wf = true) : u64P n := by have := bounds_u64 h; unfold u64P; omega
theorem el_cond (n : Nat) (cs : List Value) (x : DataW H × List MemPlace) (hl : cs.length = 4) (h : DataW.trod enc Try.prog w base spare held n 61 cs = some x) : ∃ a : S61, k61.K w a cs ∧ condK a := by
  obtain ⟨xs, m, _, hx, hl2, hlx, hfi⟩ := DataW.trod_struct Try.underlying61 h
  have h1 : Try.prog.cellsOf 3 = 1 := by kernel_rfl
  have h2 : Try.prog.cellsOf 41 = 1 := by kernel_rfl
  match cs, hl with
  | [c0, c1, c2, c3], _ =>
    match xs, hlx with
    | [y0, y1, y2, y3], _ =>
      have f0 : DataW.trod enc Try.prog w base spare held m 3 ((List.drop 0 [c0, c1, c2, c3]).take (Try.prog.cellsOf 3)) = some y0 := hfi 0 _ rfl
      have f1 : DataW.trod enc Try.prog w base spare held m 3 ((List.drop 1 [c0, c1, c2, c3]).take (Try.prog.cellsOf 3)) = some y1 := hfi 1 _ rfl
      have f2 : DataW.trod enc Try.prog w base spare held m 41 ((List.drop 2 [c0, c1, c2, c3]).take (Try.prog.cellsOf 41)) = some y2 := hfi 2 _ rfl
      have f3 : DataW.trod enc Try.prog w base spare held m 41 ((List.drop 3 [c0, c1, c2, c3]).take (Try.prog.cellsOf 41)) = some y3 := hfi 3 _ rfl
      simp only [h1, h2, Value.cells, List.drop_zero, List.drop_succ_cons, List.take_succ_cons, List.take_zero] at f0 f1 f2 f3
      obtain ⟨x0, e0, g0, w0⟩ := DataW.trod_int Try.underlying3 f0
      obtain ⟨x1, e1, g1, w1⟩ := DataW.trod_int Try.underlying3 f1
      obtain ⟨x2, e2, g2, w2⟩ := DataW.trod_int Try.underlying41 f2
      obtain ⟨x3, e3, g3, w3⟩ := DataW.trod_int Try.underlying41 f3
      simp only [List.cons.injEq, and_true] at e0 e1 e2 e3
      subst e0 e1 e2 e3
      exact ⟨⟨x0, x1, x2, x3⟩, k61_mk w ⟨x0, x1, x2, x3⟩, wf64 w2, wf64 w3⟩
theorem el_rule (n : Nat) (cs : List Value) (x : DataW H × List MemPlace) (hl : cs.length = 4) (h : DataW.trod enc Try.prog w base spare held n 40 cs = some x) : ∃ a : S40, k40.K w a cs ∧ ruleK a := by
  obtain ⟨xs, m, _, hx, hl2, hlx, hfi⟩ := DataW.trod_struct Try.underlying40 h
  have h1 : Try.prog.cellsOf 23 = 1 := by kernel_rfl
  have h2 : Try.prog.cellsOf 38 = 1 := by kernel_rfl
  match cs, hl with
  | [c0, c1, c2, c3], _ =>
    match xs, hlx with
    | [y0, y1, y2, y3], _ =>
      have f0 : DataW.trod enc Try.prog w base spare held m 23 ((List.drop 0 [c0, c1, c2, c3]).take (Try.prog.cellsOf 23)) = some y0 := hfi 0 _ rfl
      have f1 : DataW.trod enc Try.prog w base spare held m 23 ((List.drop 1 [c0, c1, c2, c3]).take (Try.prog.cellsOf 23)) = some y1 := hfi 1 _ rfl
      have f2 : DataW.trod enc Try.prog w base spare held m 38 ((List.drop 2 [c0, c1, c2, c3]).take (Try.prog.cellsOf 38)) = some y2 := hfi 2 _ rfl
      have f3 : DataW.trod enc Try.prog w base spare held m 23 ((List.drop 3 [c0, c1, c2, c3]).take (Try.prog.cellsOf 23)) = some y3 := hfi 3 _ rfl
      simp only [h1, h2, Value.cells, List.drop_zero, List.drop_succ_cons, List.take_succ_cons, List.take_zero] at f0 f1 f2 f3
      obtain ⟨x0, e0, g0, w0⟩ := DataW.trod_int Try.underlying23 f0
      obtain ⟨x1, e1, g1, w1⟩ := DataW.trod_int Try.underlying23 f1
      obtain ⟨A, c, L, e2, hc, hr, hk⟩ := open_kd k61 condK Try.underlying38 (by kernel_rfl) el_cond f2
      obtain ⟨x3, e3, g3, w3⟩ := DataW.trod_int Try.underlying23 f3
      simp only [List.cons.injEq, and_true] at e0 e1 e2 e3
      subst e0 e1 e2 e3
      exact ⟨⟨x0, x1, L, x3⟩, k40_mk w ⟨x0, x1, L, x3⟩ hc hr, wf32 w0, wf32 w1, wf32 w3, hk⟩
theorem open_policy {r : Reach} {b0 : Nat} {v : Value} {d : DataW H} {ps : List MemPlace} (hval : Value.okWide Try.prog w r b0 25 v) (hd : DataW.Trod enc Try.prog w base spare held 25 v d ps) :
    ∃ (A : Option Addr) (c : Nat) (L : List S40) (df : Int), v = .agg #[.slice A L.length c, .int .u32 df] ∧ L.length ≤ c ∧ k40.C w A L.length L ∧ polK L df := by
  obtain ⟨cs, rfl, hsz⟩ := okWide_struct Try.underlying25 hval
  obtain ⟨fuel, hf⟩ := hd
  obtain ⟨xs, n, _, hx, hl, hlx, hfi⟩ := DataW.trod_struct Try.underlying25 hf
  have h9 : Try.prog.cellsOf 25 = 2 := by kernel_rfl
  have h1 : Try.prog.cellsOf 23 = 1 := by kernel_rfl
  have h2 : Try.prog.cellsOf 22 = 1 := by kernel_rfl
  have hc9 : cs.toList.length = 2 := by simpa [h9] using hsz
  obtain ⟨L, hL⟩ : ∃ L, cs.toList = L := ⟨_, rfl⟩
  have hcs : cs = L.toArray := by rw [← hL]
  rw [hL] at hc9
  subst hcs
  match L, hc9 with
  | [c0, c1], _ =>
    match xs, hlx with
    | [y0, y1], _ =>
      have f0 : DataW.trod enc Try.prog w base spare held n 22 ((List.drop 0 [c0, c1]).take (Try.prog.cellsOf 22)) = some y0 := hfi 0 _ rfl
      have f1 : DataW.trod enc Try.prog w base spare held n 23 ((List.drop 1 [c0, c1]).take (Try.prog.cellsOf 23)) = some y1 := hfi 1 _ rfl
      simp only [h1, h2, Value.cells, List.drop_zero, List.drop_succ_cons, List.take_succ_cons, List.take_zero] at f0 f1
      obtain ⟨A, c, L, e0, hc, hr, hk⟩ := open_kd k40 ruleK Try.underlying22 (by kernel_rfl) el_rule f0
      obtain ⟨df, e1, g1, w1⟩ := DataW.trod_int Try.underlying23 f1
      simp only [List.cons.injEq, and_true] at e0 e1
      subst e0 e1
      exact ⟨A, c, L, df, rfl, hc, hr, hk, wf32 w1⟩
theorem open_rule {r : Reach} {b0 : Nat} {v : Value} {d : DataW H} {ps : List MemPlace} (hval : Value.okWide Try.prog w r b0 40 v) (hd : DataW.Trod enc Try.prog w base spare held 40 v d ps) :
    ∃ (x0 x1 : Int) (A : Option Addr) (c : Nat) (L : List S61) (x3 : Int), v = .agg #[.int .u32 x0, .int .u32 x1, .slice A L.length c, .int .u32 x3] ∧ L.length ≤ c ∧ k61.C w A L.length L ∧ ruleK ⟨x0, x1, L, x3⟩ := by
  obtain ⟨cs, rfl, hsz⟩ := okWide_struct Try.underlying40 hval
  obtain ⟨fuel, hf⟩ := hd
  have h9 : Try.prog.cellsOf 40 = 4 := by kernel_rfl
  obtain ⟨a, ha, hk⟩ := el_rule fuel cs.toList _ (by simpa [h9] using hsz) hf
  obtain ⟨A2, c2, he, hl, hC⟩ := k40_open ha
  refine ⟨a.f0, a.f1, A2, c2, a.f2, a.f3, ?_, hl, hC, hk⟩
  have : cs = #[.int .u32 a.f0, .int .u32 a.f1, .slice A2 a.f2.length c2, .int .u32 a.f3] := by
    apply Array.toList_inj.1; rw [he]
  rw [this]
end
end Go.Proofs.Ytekpbgmmogpbdaa.H
set_option linter.unusedVariables false
set_option linter.unusedSimpArgs false
set_option maxRecDepth 100000
namespace Go.Proofs.Ytekpbgmmogpbdaa.H
open Go.RowKit Go.Proofs.YtekpbgmmogpbdaaW.PrintWords Go.ChangeShapes Go.WideShapes
section
variable {H : Type} {enc : TypeId × Value → H} {w : World} {base : Nat} {spare : Nat → Bool} {held : Bool}
theorem wf_bounds32 {n : Int} (h : (Lit.int .u32 n).wf = true) : 0 ≤ n ∧ n < 4294967296 := by have := bounds_u32 h; omega
theorem wf_bounds64 {n : Int} (h : (Lit.int .u64 n).wf = true) : 0 ≤ n ∧ n < 18446744073709551616 := by have := bounds_u64 h; omega
theorem open_data {r : Reach} {b0 : Nat} {v : Value} {d : DataW H} {ps : List MemPlace} (hval : Value.okWide Try.prog w r b0 44 v) (hd : DataW.Trod enc Try.prog w base spare held 44 v d ps) :
    ∃ x0 x1 x2 x3 x4 x5 x6 x7 x8 : Int, v = .agg #[.int .u32 x0, .int .u32 x1, .int .u64 x2, .int .u64 x3, .int .u64 x4, .int .u64 x5, .int .u64 x6, .int .u64 x7, .int .u64 x8] ∧ ps = [] ∧
      IsDat x0 x1 x2 [x3, x4, x5, x6, x7, x8] := by
  obtain ⟨cs, rfl, hsz⟩ := okWide_struct Try.underlying44 hval
  obtain ⟨fuel, hf⟩ := hd
  obtain ⟨xs, n, _, hx, hl, hlx, hfi⟩ := DataW.trod_struct Try.underlying44 hf
  simp only [Prod.mk.injEq] at hx
  have h9 : Try.prog.cellsOf 44 = 9 := by kernel_rfl
  have h1 : Try.prog.cellsOf 23 = 1 := by kernel_rfl
  have h2 : Try.prog.cellsOf 41 = 1 := by kernel_rfl
  have h6 : Try.prog.cellsOf 42 = 6 := by kernel_rfl
  have hc9 : cs.toList.length = 9 := by simpa [h9] using hsz
  obtain ⟨L, hL⟩ : ∃ L, cs.toList = L := ⟨_, rfl⟩
  have hcs : cs = L.toArray := by rw [← hL]
  rw [hL] at hc9
  subst hcs
  match L, hc9 with
  | [c0, c1, c2, c3, c4, c5, c6, c7, c8], _ =>
    match xs, hlx with
    | [y0, y1, y2, y3], _ =>
      have f0 : DataW.trod enc Try.prog w base spare held n 23 ((List.drop 0 [c0, c1, c2, c3, c4, c5, c6, c7, c8]).take (Try.prog.cellsOf 23)) = some y0 := hfi 0 _ rfl
      have f1 : DataW.trod enc Try.prog w base spare held n 23 ((List.drop 1 [c0, c1, c2, c3, c4, c5, c6, c7, c8]).take (Try.prog.cellsOf 23)) = some y1 := hfi 1 _ rfl
      have f2 : DataW.trod enc Try.prog w base spare held n 41 ((List.drop 2 [c0, c1, c2, c3, c4, c5, c6, c7, c8]).take (Try.prog.cellsOf 41)) = some y2 := hfi 2 _ rfl
      have f3 : DataW.trod enc Try.prog w base spare held n 42 ((List.drop 3 [c0, c1, c2, c3, c4, c5, c6, c7, c8]).take (Try.prog.cellsOf 42)) = some y3 := hfi 3 _ rfl
      simp only [h1, h2, h6, Value.cells, List.drop_zero, List.drop_succ_cons, List.take_succ_cons, List.take_zero, List.getElem?_cons_zero, List.getElem?_cons_succ] at f0 f1 f2 f3
      obtain ⟨x0, e0, g0, w0⟩ := DataW.trod_int Try.underlying23 f0
      obtain ⟨x1, e1, g1, w1⟩ := DataW.trod_int Try.underlying23 f1
      obtain ⟨x2, e2, g2, w2⟩ := DataW.trod_int Try.underlying41 f2
      obtain ⟨zs, hz, e3, g3, w3⟩ := trod_arr_ints Try.underlying42 Try.underlying41 h2 h6 f3
      match zs, hz with
      | [x3, x4, x5, x6, x7, x8], _ =>
        simp only [nums, List.map_cons, List.map_nil, List.cons.injEq, and_true] at e0 e1 e2 e3
        obtain ⟨rfl, rfl, rfl, rfl, rfl, rfl⟩ := e3
        subst e0 e1 e2
        refine ⟨x0, x1, x2, x3, x4, x5, x6, x7, x8, rfl, ?_, ⟨rfl, wf_bounds32 w0, wf_bounds32 w1, wf_bounds64 w2, fun k => by
          by_cases hk : k < 6
          · exact wf_bounds64 (w3 k hk)
          · rw [List.getD_eq_getElem?_getD, List.getElem?_eq_none (by simpa using hk)]; exact ⟨by decide, by decide⟩⟩⟩
        rw [hx.2]
        simp [g0, g1, g2, g3]
end
end Go.Proofs.Ytekpbgmmogpbdaa.H
set_option linter.unusedVariables false
set_option linter.unusedSimpArgs false
set_option maxRecDepth 100000
namespace Go.Proofs.Ytekpbgmmogpbdaa.H
open Go.RowKit Go.Proofs.YtekpbgmmogpbdaaW.PrintWords
open Go.Proofs.Ytekpbgmmogpbdaa.P (S61 S40 k61 k40 rd_T40)
theorem one_at (L : List S40) (i : Nat) (h : i < L.length) : ∃ pre x post, L = pre ++ x :: post ∧ pre.length = i := by
  refine ⟨L.take i, L[i], L.drop (i + 1), ?_, by simp; omega⟩
  conv => lhs; rw [← List.take_append_drop i L]
  rw [List.drop_eq_getElem_cons (by omega)]
theorem rd_one (pre post : List S40) (x : S40) : rd_T40 (pre ++ x :: post) (pre.length : Int) = x := by
  rw [rd40 _ _ (by simp)]
  simp
theorem judge_shade (pre post : List S40) (x : S40) (v : Int) (j : Nat) (df a0 a1 : Int) (ags : List Int) :
    judgeV (pre ++ ⟨x.f0, x.f1, [], v⟩ :: post) df a0 a1 ags = judgeV (pre ++ ⟨x.f0, x.f1, [], v⟩ :: (post.take j ++ x :: post.drop j)) df a0 a1 ags := by
  unfold judgeV
  rw [List.find?_append, List.find?_append]
  cases List.find? (fitX a0 a1 ags) pre with
  | some z => rfl
  | none =>
    simp only [Option.none_or]
    by_cases hr : fitX a0 a1 ags ⟨x.f0, x.f1, [], v⟩ = true
    · rw [List.find?_cons_of_pos hr, List.find?_cons_of_pos hr]
    · rw [List.find?_cons_of_neg hr, List.find?_cons_of_neg hr]
      have hx : ¬ fitX a0 a1 ags x = true := fun hx => hr (by
        unfold fitX fitsB at hx ⊢
        simp only [Bool.and_eq_true, decide_eq_true_eq] at hx ⊢
        exact ⟨hx.1, hx.2.1, rfl⟩)
      rw [List.find?_append, List.find?_cons_of_neg hx, ← List.find?_append, List.take_append_drop]
theorem shades_f (k : Nat) (L : List S40) (df : Int) (x : S40) (a0 a1 a2 a3 a4 a5 a6 a7 a8 at_ pl : Int) (h : polK L df) (hx : ruleK x) (hd : IsDat a0 a1 a2 [a3, a4, a5, a6, a7, a8]) (ha : 0 ≤ at_ ∧ at_ ≤ 255) (hp : 0 ≤ pl ∧ pl ≤ 255) :
    D.hurdlelaw11_DenoteShades.f (k + 1) L df x.f0 x.f1 x.f2 x.f3 a0 a1 a2 a3 a4 a5 a6 a7 a8 at_ pl = some true := by
  have htrue : D.hurdlelaw11_DenoteShades.j0 (k + 1) at_ pl true L df x.f0 x.f1 x.f2 x.f3 a0 a1 a2 a3 a4 a5 a6 a7 a8 = some true := by
    simp only [D.hurdlelaw11_DenoteShades.j0, if_true, hurdlelaw11_knows.f, Option.bind_some]
  unfold D.hurdlelaw11_DenoteShades.f
  rw [Right_f h]
  simp only [Option.bind_some]
  by_cases hb : polB L df = true
  · rw [if_pos hb]
    have ok := (polOk_iff h).1 hb
    have hl := ok.1
    by_cases hn : (L.length : Int) = 0
    · rw [if_pos hn]; exact htrue
    · rw [if_neg hn]
      by_cases hg : (L.length : Int) > 60
      · rw [decide_eq_true hg]; exact htrue
      · rw [decide_eq_false hg]
        obtain ⟨m, hm⟩ : ∃ m : Nat, L.length = m + 1 := ⟨L.length - 1, by omega⟩
        obtain ⟨t, rfl⟩ : ∃ t : Nat, at_ = (t : Int) := ⟨at_.toNat, by omega⟩
        obtain ⟨u, rfl⟩ : ∃ u : Nat, pl = (u : Int) := ⟨pl.toNat, by omega⟩
        have e1 : wrap64 (t : Int) = (t : Int) := by unfold wrap64; omega
        have e2 : wrap64 (u : Int) = (u : Int) := by unfold wrap64; omega
        have e3 : Int.tmod (u : Int) (L.length : Int) = ((u % L.length : Nat) : Int) := rfl
        have hi : u % L.length < L.length := Nat.mod_lt _ (by omega)
        generalize u % L.length = i at e3 hi
        have e4 : wrap64 ((i : Int) + 1) = ((i + 1 : Nat) : Int) := by unfold wrap64; omega
        have e5 : wrap64 ((L.length : Int) - (i : Int)) = ((L.length - i : Nat) : Int) := by unfold wrap64; omega
        have e6 : Int.tmod (t : Int) ((L.length - i : Nat) : Int) = ((t % (L.length - i) : Nat) : Int) := rfl
        have hj : t % (L.length - i) < L.length - i := Nat.mod_lt _ (by omega)
        generalize t % (L.length - i) = j at e6 hj
        have e7 : wrap64 (((i + 1 : Nat) : Int) + (j : Int)) = ((i + 1 + j : Nat) : Int) := by unfold wrap64; omega
        obtain ⟨pre, r, post, rfl, hq⟩ := one_at L i hi
        subst hq
        have r1 := rd_one pre post r
        have s1 : (pre ++ r :: post).set pre.length ⟨x.f0, x.f1, [], r.f3⟩ = pre ++ ⟨x.f0, x.f1, [], r.f3⟩ :: post := by
          rw [List.set_append_right _ _ (Nat.le_refl _)]
          simp
        have hr := ok.2.1 r (by simp)
        have hr' : ruleOk ⟨x.f0, x.f1, [], r.f3⟩ := ⟨hx.1, hx.2.1, hr.2.2.1, by simp, by simp⟩
        have okq : polOk (pre ++ ⟨x.f0, x.f1, [], r.f3⟩ :: post) df := by
          refine ⟨by simpa using hl, fun z hz => ?_, ok.2.2⟩
          simp only [List.mem_append, List.mem_cons] at hz
          rcases hz with hz | rfl | hz
          · exact ok.2.1 z (by simp [hz])
          · exact hr'
          · exact ok.2.1 z (by simp [hz])
        have hlen : (pre ++ r :: post).length = (pre ++ (⟨x.f0, x.f1, [], r.f3⟩ : S40) :: post).length := by simp
        have hput := put_f (pre ++ ⟨x.f0, x.f1, [], r.f3⟩ :: post) df (pre.length + 1 + j) x (by omega) (by omega)
        have hK := polK_put (polOk_K okq) hx (pre.length + 1 + j)
        have hmore : (pre ++ (⟨x.f0, x.f1, [], r.f3⟩ : S40) :: post).take (pre.length + 1 + j) ++ x :: (pre ++ (⟨x.f0, x.f1, [], r.f3⟩ : S40) :: post).drop (pre.length + 1 + j) = pre ++ ⟨x.f0, x.f1, [], r.f3⟩ :: (post.take j ++ x :: post.drop j) := by
          rw [show pre.length + 1 + j = pre.length + (j + 1) by omega, List.take_length_add_append, List.drop_length_add_append]
          simp
        rw [hmore] at hput hK
        unfold D.hurdlelaw11_DenoteShades.j0
        simp only [Bool.false_eq_true, if_false, e1, e2, e3, e4, e5, e6, e7, Option.bind_some, List.nil_append, List.length_nil, Int.toNat_natCast, r1, s1, hput, Right_f hK]
        rw [if_neg (by omega), if_pos (by omega), if_pos (by omega), if_pos (by omega), if_pos (by omega), if_neg (by omega)]
        by_cases hb2 : polB (pre ++ ⟨x.f0, x.f1, [], r.f3⟩ :: (post.take j ++ x :: post.drop j)) df = true
        · rw [if_pos hb2]
          simp only [Judge_f okq hd, Judge_f ((polOk_iff hK).1 hb2) hd, Option.bind_some, hurdlelaw11_knows.f]
          rw [if_pos (judge_shade pre post x r.f3 j df a0 a1 _), if_pos trivial, if_pos trivial]
        · rw [if_neg hb2]
          simp only [hurdlelaw11_knows.f, Option.bind_some]
  · rw [if_neg hb]; exact htrue
theorem DenoteShades_row (A : Option Addr) (c : Nat) (L : List S40) (df : Int) (r0 r1 : Int) (A2 : Option Addr) (c2 : Nat) (L2 : List S61) (r3 : Int) (a0 a1 a2 a3 a4 a5 a6 a7 a8 at_ pl : Int) (W : World) (hc : L.length ≤ c) (hr : k40.C W A L.length L) (hk : polK L df) (hc2 : L2.length ≤ c2) (hr2 : k61.C W A2 L2.length L2) (hk2 : ruleK ⟨r0, r1, L2, r3⟩) (hd : IsDat a0 a1 a2 [a3, a4, a5, a6, a7, a8]) (ha : 0 ≤ at_ ∧ at_ ≤ 255) (hp : 0 ≤ pl ∧ pl ≤ 255) :
    Calls Try.prog 10 #[.agg #[.slice A L.length c, .int .u32 df], .agg #[.int .u32 r0, .int .u32 r1, .slice A2 L2.length c2, .int .u32 r3], .agg #[.int .u32 a0, .int .u32 a1, .int .u64 a2, .int .u64 a3, .int .u64 a4, .int .u64 a5, .int .u64 a6, .int .u64 a7, .int .u64 a8], .int .u8 at_, .int .u8 pl] W fun e w' => e = .returned (.bool true) ∧ Below W.heap.size W w' :=
  (D.hurdlelaw11_DenoteShades.calls 1 (fun k => k < W.heap.size) A c L df r0 r1 (fun k => k < W.heap.size) A2 c2 L2 r3 a0 a1 a2 a3 a4 a5 a6 a7 a8 at_ pl true W (Kd.V_mk hc (Kd.C_F D.k40_heap hr)) (Kd.V_mk hc2 (Kd.C_F D.k61_heap hr2)) (shades_f 0 L df ⟨r0, r1, L2, r3⟩ a0 a1 a2 a3 a4 a5 a6 a7 a8 at_ pl hk hk2 hd ha hp) rfl).mono (fun e w' h => h)
end Go.Proofs.Ytekpbgmmogpbdaa.H
namespace Go.Proofs.Ytekpbgmmogpbdaa.denoteShades
open Go.ChangeShapes Go.WideShapes Go.ChangeAt Go.RowKit
open Go.ChangeMaps (open_string shut_string)
set_option linter.unusedVariables false
theorem laidOut : laidOutB Try.prog = true := by kernel_rfl
theorem own : ownKnob Try.prog.godebug = none := by kernel_rfl
set_option maxRecDepth 100000 in
theorem lifted (os : Os) (started : os.Started) (H : Type) (enc : TypeId × Value → H) :
    ReturnsInHanded {} Try.checked os 10 .any (Rows.denoteShadesSpec.pre6 enc Try.prog Try.f10 Rows.denoteShadesRow.domain false) (Rows.denoteShadesSpec.post enc Try.prog Try.f10 false true false false) := by
  refine returnsInHanded_of_change_sized (C := Try.checked) own started (by kernel_rfl) Try.func10
    (ChangeSpec.witness6 (enc := enc) (C := Try.checked) false ⟨#[], #[.agg #[.slice none 0 0, .int .u32 0], .agg #[.int .u32 0, .int .u32 0, .slice none 0 0, .int .u32 0], .agg #[.int .u32 0, .int .u32 0, .int .u64 0, .int .u64 0, .int .u64 0, .int .u64 0, .int .u64 0, .int .u64 0, .int .u64 0], .int .u8 0, .int .u8 0], []⟩ 8 (by kernel_rfl) (by kernel_rfl) (by kernel_rfl) (by kernel_rfl)) ?_
  intro W base args ds gs before hval0 hW hcnd hsz0 _
  have hsz : (DataW.weightsEach Try.prog (Try.f10.params.toList ++ Rows.denoteShadesSpec.plain.varTypes Try.prog) (ds ++ gs)).all (· ≤ reachBytes) = true := hsz0
  have hval : ∀ (j : Nat) t v, Try.f10.params[j]? = some t → args[j]? = some v → Value.okWide Try.prog W .any base t v := hval0
  have hW' := hW
  obtain ⟨p, q, hA0, hV, rfl, hfz, hnd⟩ := hW
  have hA : DataW.TrodAll enc Try.prog W 0 (fun _ => true) true Try.f10.params.toList args.toList ds p := hA0
  rw [Try.params10] at hA hval hsz
  obtain ⟨v0, vs0, d0, ds0, p0, q0, hargs, rfl, rfl, h0, r0⟩ := trodAll_cons hA
  obtain ⟨v1, vs1, d1, ds1, p1, q1, rfl, rfl, rfl, h1, r1⟩ := trodAll_cons r0
  obtain ⟨v2, vs2, d2, ds2, p2, q2, rfl, rfl, rfl, h2, r2⟩ := trodAll_cons r1
  obtain ⟨v3, vs3, d3, ds3, p3, q3, rfl, rfl, rfl, h3, r3⟩ := trodAll_cons r2
  obtain ⟨v4, vs4, d4, ds4, p4, q4, rfl, rfl, rfl, h4, r4⟩ := trodAll_cons r3
  obtain ⟨rfl, rfl, rfl⟩ := trodAll_nil r4
  obtain rfl : args = #[v0, v1, v2, v3, v4] := by cases args; simp_all
  obtain ⟨rfl, rfl⟩ := trodVars_none hV
  have k0 := h0
  have lt0 : ∀ x ∈ p0, x.block < W.heap.size := by obtain ⟨m, hm⟩ := k0; exact DataW.trod_lt m _ _ _ hm
  obtain ⟨A0, c0, L0, f0, rfl, hc0, hr0, b0⟩ := Go.Proofs.Ytekpbgmmogpbdaa.H.open_policy (hval 0 25 v0 rfl rfl) h0
  have k1 := h1
  have lt1 : ∀ x ∈ p1, x.block < W.heap.size := by obtain ⟨m, hm⟩ := k1; exact DataW.trod_lt m _ _ _ hm
  obtain ⟨r1_0, r1_1, A1, c1, L1, r1_3, rfl, hc1, hr1, b1⟩ := Go.Proofs.Ytekpbgmmogpbdaa.H.open_rule (hval 1 40 v1 rfl rfl) h1
  have k2 := h2
  obtain ⟨a2_0, a2_1, a2_2, a2_3, a2_4, a2_5, a2_6, a2_7, a2_8, rfl, hp2, b2⟩ := Go.Proofs.Ytekpbgmmogpbdaa.H.open_data (hval 2 44 v2 rfl rfl) h2
  have lt2 : ∀ x ∈ p2, x.block < W.heap.size := by rw [hp2]; simp
  obtain ⟨a3, rfl, rfl, rfl, w3⟩ := open_int Try.underlying5 (hval 3 5 v3 rfl rfl) h3
  obtain ⟨a4, rfl, rfl, rfl, w4⟩ := open_int Try.underlying5 (hval 4 5 v4 rfl rfl) h4
  clear hA0 hval0 hsz0 hsz
  refine (Go.Proofs.Ytekpbgmmogpbdaa.H.DenoteShades_row A0 c0 L0 f0 r1_0 r1_1 A1 c1 L1 r1_3 a2_0 a2_1 a2_2 a2_3 a2_4 a2_5 a2_6 a2_7 a2_8 a3 a4 W hc0 hr0 b0 hc1 hr1 b1 b2 (by have := bounds_u8 w3; omega) (by have := bounds_u8 w4; omega)).mono fun e W' ⟨he, bel⟩ => ?_
  subst he
  exact ⟨_, rfl, _, _, _, [], _, [], hW', trodAll_mk1 (shut_bool Try.underlying4 _), (trodAll_cons_mk (Below.trod laidOut (by kernel_rfl) (of_decide_eq_true (by kernel_rfl)) k0 bel lt0) (trodAll_cons_mk (Below.trod laidOut (by kernel_rfl) (of_decide_eq_true (by kernel_rfl)) k1 bel lt1) (trodAll_cons_mk (Below.trod laidOut (by kernel_rfl) (of_decide_eq_true (by kernel_rfl)) k2 bel lt2) (trodAll_cons_mk (shut_int Try.underlying5 w3) (trodAll_cons_mk (shut_int Try.underlying5 w4) trodAll_mk0))))), rfl, bel.frame _, fun h => by cases h⟩
theorem over : Rows.denoteShadesRow.holds Try.pinned (OpenSpec.ofChange Rows.denoteShadesSpec) :=
  OpenClaim.holds_of_wide 10 Try.f10 rfl rfl rfl rfl rfl rfl rfl ⟨rfl, rfl, rfl, rfl, rfl⟩ rfl rfl rfl rfl rfl (by kernel_rfl) Try.func10 (by kernel_rfl)
    (of_decide_eq_true (by kernel_rfl)) (by unfold Func.isWrapper; first | (rw [if_pos (by decide +kernel)]; kernel_rfl) | (rw [if_neg (by decide +kernel)]; exact ⟨rfl, rfl⟩))
    (fun os started H enc _ => lifted os started H enc)
theorem proved : Rows.DenoteShadesSaid := over
#print axioms proved
end Go.Proofs.Ytekpbgmmogpbdaa.denoteShades
namespace Go.Proofs.Ytekpbgmmogpbdaa
theorem denoteShades_holds : Rows.DenoteShadesSaid := denoteShades.proved
end Go.Proofs.Ytekpbgmmogpbdaa
